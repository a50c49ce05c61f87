/- script: the reference's Many, Right, Word, Digits, Line; Plain. Conditions: none. -/
import Derived.Test.YteggkdlgailfoaaDoorSH
set_option linter.all false
set_option linter.deprecated false
namespace Go.Proofs.YteggkdlgailfoaaDoor
open Go.Sep
variable [B0 : Base]
def rMany (o : Int) : Int := if 1 ≤ o ∧ o ≤ 7 then (sMany o.toNat : Nat) else -1
set_option maxHeartbeats 2000000 in
theorem rMany_ok (o : Int) (R : List HP) : Called Tryd.prog 21 [int o] R (is (int (rMany o)) R) := by
  by_cases h : 1 ≤ o ∧ o ≤ 7
  · rcases (show o = 1 ∨ o = 2 ∨ o = 3 ∨ o = 4 ∨ o = 5 ∨ o = 6 ∨ o = 7 by omega) with rfl | rfl | rfl | rfl | rfl | rfl | rfl
    all_goals
      refine Fn1 Tryd.func21 rfl Tryd.ntmps21 rfl ?_
      (repeat' first | refine stp ?_ | intro v' hv' | intro (b : Nat) | (apply w_convU; rfl; rfl; omega; omega) | (apply w_convI; rfl; rfl; omega; omega) | (apply w_quoU; rfl; rfl; rfl; omega; omega; omega) | (apply w_remU; rfl; rfl; rfl; omega; omega) | (apply w_minL; rfl; rfl; rfl; omega) | (apply w_minG; rfl; rfl; rfl; omega) | (apply w_min; rfl; rfl; rfl) | (apply w_mfR; rfl; rfl) | (apply w_cvp; rfl; rfl; exact inferInstance; rfl; rfl; assumption) | (apply w_eqS2T; rfl; rfl; rfl; omega) | (apply w_eqS2F; rfl; rfl; rfl; omega) | (apply w_neS2T; rfl; rfl; rfl; omega) | (apply w_neS2F; rfl; rfl; rfl; omega) | (apply w_eqS3T; rfl; rfl; rfl; omega) | (apply w_eqS3F; rfl; rfl; rfl; omega) | (apply w_neS3T; rfl; rfl; rfl; omega) | (apply w_neS3F; rfl; rfl; rfl; omega) | (apply w_eqS3; rfl; rfl; rfl) | (apply w_neS3; rfl; rfl; rfl) | (apply w_eqS2; rfl; rfl; rfl) | (apply w_neS2; rfl; rfl; rfl) | (apply w_maxL; rfl; rfl; rfl; omega) | (apply w_maxG; rfl; rfl; rfl; omega) | (apply w_max; rfl; rfl; rfl) | (apply w_neB; rfl; rfl; rfl; rfl) | (apply w_eqB; rfl; rfl; rfl; rfl) | refine spl ?_ ?_ | intro hc)
      all_goals first | (exfalso; omega) | skip
      all_goals (refine At_ret1 (by (first | exact .inl rfl | exact .inr rfl)) Tryd.results21 rfl ⟨by rfl, rfl⟩ (by (exact frm)))
  · have e : rMany o = -1 := if_neg h
    rw [e]
    refine Fn1 Tryd.func21 rfl Tryd.ntmps21 rfl ?_
    (repeat' first | refine stp ?_ | intro v' hv' | intro (b : Nat) | (apply w_convU; rfl; rfl; omega; omega) | (apply w_convI; rfl; rfl; omega; omega) | (apply w_quoU; rfl; rfl; rfl; omega; omega; omega) | (apply w_remU; rfl; rfl; rfl; omega; omega) | (apply w_minL; rfl; rfl; rfl; omega) | (apply w_minG; rfl; rfl; rfl; omega) | (apply w_min; rfl; rfl; rfl) | (apply w_mfR; rfl; rfl) | (apply w_cvp; rfl; rfl; exact inferInstance; rfl; rfl; assumption) | (apply w_eqS2T; rfl; rfl; rfl; omega) | (apply w_eqS2F; rfl; rfl; rfl; omega) | (apply w_neS2T; rfl; rfl; rfl; omega) | (apply w_neS2F; rfl; rfl; rfl; omega) | (apply w_eqS3T; rfl; rfl; rfl; omega) | (apply w_eqS3F; rfl; rfl; rfl; omega) | (apply w_neS3T; rfl; rfl; rfl; omega) | (apply w_neS3F; rfl; rfl; rfl; omega) | (apply w_eqS3; rfl; rfl; rfl) | (apply w_neS3; rfl; rfl; rfl) | (apply w_eqS2; rfl; rfl; rfl) | (apply w_neS2; rfl; rfl; rfl) | (apply w_maxL; rfl; rfl; rfl; omega) | (apply w_maxG; rfl; rfl; rfl; omega) | (apply w_max; rfl; rfl; rfl) | (apply w_neB; rfl; rfl; rfl; rfl) | (apply w_eqB; rfl; rfl; rfl; rfl) | refine spl ?_ ?_ | intro hc)
    all_goals first | (exfalso; omega) | skip
    all_goals (refine At_ret1 (by (first | exact .inl rfl | exact .inr rfl)) Tryd.results21 rfl ⟨by rfl, rfl⟩ (by (exact frm)))
def wordsS : List (List Value) := [[.string ⟨#[]⟩], [.string (sWd 1)], [.string (sWd 2)], [.string (sWd 3)], [.string (sWd 4)], [.string (sWd 5)], [.string (sWd 6)], [.string (sWd 7)]]
theorem wordsS_at {k : Nat} (h1 : 1 ≤ k) (h2 : k ≤ 7) : wordsS[k]? = some [str (sW k)] := by
  rw [← str_sW]
  rcases (show k = 1 ∨ k = 2 ∨ k = 3 ∨ k = 4 ∨ k = 5 ∨ k = 6 ∨ k = 7 by omega) with rfl | rfl | rfl | rfl | rfl | rfl | rfl <;> rfl
set_option maxHeartbeats 2000000 in
theorem rWord_ok (k : Nat) (R : List HP) (h1 : 1 ≤ k) (h2 : k ≤ 7) : Called Tryd.prog 26 [int k] R (is (str (sW k)) R) := by
  have hwa := wordsS_at h1 h2
  refine Fn1 Tryd.func26 rfl Tryd.ntmps26 rfl ?_
  (repeat' first | refine stp ?_ | intro v' hv' | intro (b : Nat) | (apply w_convU; rfl; rfl; omega; omega) | (apply w_convI; rfl; rfl; omega; omega) | (apply w_quoU; rfl; rfl; rfl; omega; omega; omega) | (apply w_remU; rfl; rfl; rfl; omega; omega) | (apply w_minL; rfl; rfl; rfl; omega) | (apply w_minG; rfl; rfl; rfl; omega) | (apply w_min; rfl; rfl; rfl) | (apply w_mfR; rfl; rfl) | (apply w_cvp; rfl; rfl; exact inferInstance; rfl; rfl; assumption) | (apply w_eqS2T; rfl; rfl; rfl; omega) | (apply w_eqS2F; rfl; rfl; rfl; omega) | (apply w_neS2T; rfl; rfl; rfl; omega) | (apply w_neS2F; rfl; rfl; rfl; omega) | (apply w_eqS3T; rfl; rfl; rfl; omega) | (apply w_eqS3F; rfl; rfl; rfl; omega) | (apply w_neS3T; rfl; rfl; rfl; omega) | (apply w_neS3F; rfl; rfl; rfl; omega) | (apply w_eqS3; rfl; rfl; rfl) | (apply w_neS3; rfl; rfl; rfl) | (apply w_eqS2; rfl; rfl; rfl) | (apply w_neS2; rfl; rfl; rfl) | (apply w_maxL; rfl; rfl; rfl; omega) | (apply w_maxG; rfl; rfl; rfl; omega) | (apply w_max; rfl; rfl; rfl) | (apply w_neB; rfl; rfl; rfl; rfl) | (apply w_eqB; rfl; rfl; rfl; rfl) | (apply w_ld; rfl; rfl; exact Rd.sl1 (cs := wordsS) hwa) | refine spl ?_ ?_ | intro hc)
  all_goals first | (exfalso; omega) | skip
  all_goals (refine At_ret1 (by (first | exact .inl rfl | exact .inr rfl)) Tryd.results26 rfl ⟨by rfl, rfl⟩ (by (exact frm)))
set_option maxHeartbeats 1000000 in
theorem rDigits_ok (u : Nat) : u < 1099511627776 → ∀ R : List HP, Called Tryd.prog 27 [int u] R (is (str (Lib.decDigits u)) R) := by
  induction u using Nat.strongRecOn with
  | _ u ih =>
    intro hu R
    rw [Lib.decDigits]
    by_cases h : u < 10
    · rw [dif_pos h, ← digit_at u h]
      refine Fn1 Tryd.func27 rfl Tryd.ntmps27 rfl ?_
      (repeat' first | refine stp ?_ | intro v' hv' | intro (b : Nat) | (apply w_convU; rfl; rfl; omega; omega) | (apply w_convI; rfl; rfl; omega; omega) | (apply w_quoU; rfl; rfl; rfl; omega; omega; omega) | (apply w_remU; rfl; rfl; rfl; omega; omega) | (apply w_minL; rfl; rfl; rfl; omega) | (apply w_minG; rfl; rfl; rfl; omega) | (apply w_min; rfl; rfl; rfl) | (apply w_mfR; rfl; rfl) | (apply w_cvp; rfl; rfl; exact inferInstance; rfl; rfl; assumption) | (apply w_eqS2T; rfl; rfl; rfl; omega) | (apply w_eqS2F; rfl; rfl; rfl; omega) | (apply w_neS2T; rfl; rfl; rfl; omega) | (apply w_neS2F; rfl; rfl; rfl; omega) | (apply w_eqS3T; rfl; rfl; rfl; omega) | (apply w_eqS3F; rfl; rfl; rfl; omega) | (apply w_neS3T; rfl; rfl; rfl; omega) | (apply w_neS3F; rfl; rfl; rfl; omega) | (apply w_eqS3; rfl; rfl; rfl) | (apply w_neS3; rfl; rfl; rfl) | (apply w_eqS2; rfl; rfl; rfl) | (apply w_neS2; rfl; rfl; rfl) | (apply w_maxL; rfl; rfl; rfl; omega) | (apply w_maxG; rfl; rfl; rfl; omega) | (apply w_max; rfl; rfl; rfl) | (apply w_neB; rfl; rfl; rfl; rfl) | (apply w_eqB; rfl; rfl; rfl; rfl) | (apply w_strA; rfl; rfl; rfl; first | omega | (simp only [List.length_append, List.length_cons, List.length_nil]; omega)) | (apply w_strET; rfl; rfl; rfl; assumption) | (apply w_strEF; rfl; rfl; rfl; assumption) | (apply w_strNF; rfl; rfl; rfl; assumption) | (apply w_strNT; rfl; rfl; rfl; assumption) | (apply w_strE; rfl; rfl; rfl; rfl) | (apply w_strN; rfl; rfl; rfl; rfl) | (apply w_strL; rfl; rfl) | (apply w_strS (i' := u) (j' := u + 1); rfl; rfl; rfl; rfl; rfl; rfl; omega; (simp; omega)) | (apply w_cp; rfl; rfl; assumption) | refine spl ?_ ?_ | intro hc)
      all_goals first | (exfalso; omega) | skip
      all_goals (refine At_ret1 (by (first | exact .inl rfl | exact .inr rfl)) Tryd.results27 rfl ⟨by rfl, rfl⟩ (by (exact frm)))
    · rw [dif_neg h]
      have i1 := ih (u / 10) (by omega) (by omega)
      have i2 := ih (u % 10) (by omega) (by omega)
      have e2 : Lib.decDigits (u % 10) = [UInt8.ofNat (48 + u % 10)] := by rw [Lib.decDigits, dif_pos (by omega)]
      rw [e2] at i2
      have l1 := decDigits_len (u / 10)
      generalize Lib.decDigits (u / 10) = d1 at *
      have i1' : ∀ M, Called Tryd.prog 27 [int ((u : Int) / 10)] M (is (str d1) M) := i1
      have i2' : ∀ M, Called Tryd.prog 27 [int ((u : Int) % 10)] M (is (str [UInt8.ofNat (48 + u % 10)]) M) := i2
      clear i1 i2 ih
      refine Fn1 Tryd.func27 rfl Tryd.ntmps27 rfl ?_
      (repeat' first | refine stp ?_ | intro v' hv' | intro (b : Nat) | (apply w_convU; rfl; rfl; omega; omega) | (apply w_convI; rfl; rfl; omega; omega) | (apply w_quoU; rfl; rfl; rfl; omega; omega; omega) | (apply w_remU; rfl; rfl; rfl; omega; omega) | (apply w_minL; rfl; rfl; rfl; omega) | (apply w_minG; rfl; rfl; rfl; omega) | (apply w_min; rfl; rfl; rfl) | (apply w_mfR; rfl; rfl) | (apply w_cvp; rfl; rfl; exact inferInstance; rfl; rfl; assumption) | (apply w_eqS2T; rfl; rfl; rfl; omega) | (apply w_eqS2F; rfl; rfl; rfl; omega) | (apply w_neS2T; rfl; rfl; rfl; omega) | (apply w_neS2F; rfl; rfl; rfl; omega) | (apply w_eqS3T; rfl; rfl; rfl; omega) | (apply w_eqS3F; rfl; rfl; rfl; omega) | (apply w_neS3T; rfl; rfl; rfl; omega) | (apply w_neS3F; rfl; rfl; rfl; omega) | (apply w_eqS3; rfl; rfl; rfl) | (apply w_neS3; rfl; rfl; rfl) | (apply w_eqS2; rfl; rfl; rfl) | (apply w_neS2; rfl; rfl; rfl) | (apply w_maxL; rfl; rfl; rfl; omega) | (apply w_maxG; rfl; rfl; rfl; omega) | (apply w_max; rfl; rfl; rfl) | (apply w_neB; rfl; rfl; rfl; rfl) | (apply w_eqB; rfl; rfl; rfl; rfl) | (apply w_strA; rfl; rfl; rfl; first | omega | (simp only [List.length_append, List.length_cons, List.length_nil]; omega)) | (apply w_strET; rfl; rfl; rfl; assumption) | (apply w_strEF; rfl; rfl; rfl; assumption) | (apply w_strNF; rfl; rfl; rfl; assumption) | (apply w_strNT; rfl; rfl; rfl; assumption) | (apply w_strE; rfl; rfl; rfl; rfl) | (apply w_strN; rfl; rfl; rfl; rfl) | (apply w_strL; rfl; rfl) | (apply w_strS (i' := u) (j' := u + 1); rfl; rfl; rfl; rfl; rfl; rfl; omega; (simp; omega)) | (apply w_cp; rfl; rfl; assumption) | refine spl ?_ ?_ | intro hc)
      all_goals first | (exfalso; omega) | skip
      all_goals (refine At_ret1 (by (first | exact .inl rfl | exact .inr rfl)) Tryd.results27 rfl ⟨by rfl, rfl⟩ (by (exact frm)))
theorem rDig_ok {n : Int} (h : numB n = true) (R : List HP) : Called Tryd.prog 27 [int n] R (is (str (Lib.itoa n)) R) := by
  obtain ⟨h0, h1⟩ := numB_iff.1 h
  obtain ⟨u, rfl⟩ := Int.eq_ofNat_of_zero_le h0
  rw [itoa_nn h0]
  exact rDigits_ok u (by omega) R
/-- One of a step's numbers, where it lies. -/
theorem stp_rd (T : TypeId) (x : Stp) {k : Nat} {n : Int} (hn : (nums x)[k]? = some n) (b : Nat) (R : List HP) : Rd (pt b T (stE x) :: R) ⟨b, 0 + 1 + k * 1, none⟩ (int n) := by
  refine .pt ?_
  show (int x.op :: (nums x).map int)[0 + 1 + k * 1]? = some (int n)
  rw [show 0 + 1 + k * 1 = k + 1 by omega, List.getElem?_cons_succ, List.getElem?_map, hn]
  rfl
set_option maxHeartbeats 4000000 in
theorem rRight_ok (x : Stp) (R : List HP) : Called Tryd.prog 7 [.agg (stE x).toArray] R (is (.bool (chkB x)) R) := by
  have hMa := fun M => rMany_ok x.op M
  have hrd : ∀ {k : Nat} {n : Int}, (nums x)[k]? = some n → ∀ b M, Rd (pt b 27 (stE x) :: M) ⟨b, 0 + 1 + k * 1, none⟩ (int n) := fun h b M => stp_rd 27 x h b M
  have hIff := chkB_iff (x := x)
  have hall : (nums x).all numB = true ↔ ∀ (k : Nat) (n : Int), (nums x)[k]? = some n → numB n = true := by
    rw [List.all_eq_true]
    exact ⟨fun h k n hk => h n (List.mem_of_getElem? hk), fun h n hn => by obtain ⟨k, hk⟩ := List.mem_iff_getElem?.1 hn; exact h k n hk⟩
  have hrest : restB x = false ↔ ∀ (k : Nat) (n : Int), sMany x.op.toNat ≤ k → (nums x)[k]? = some n → n = 0 := by
    unfold restB
    rw [List.any_eq_false]
    refine ⟨fun h k n hk hn => ?_, fun h n hn => ?_⟩
    · have := h n (List.mem_iff_getElem?.2 ⟨k - sMany x.op.toNat, by rw [List.getElem?_drop, Nat.add_sub_cancel' hk]; exact hn⟩)
      simpa using this
    · obtain ⟨k, hk⟩ := List.mem_iff_getElem?.1 hn
      rw [List.getElem?_drop] at hk
      have := h _ n (Nat.le_add_right _ _) hk
      simpa using this
  have hnl : (nums x).length = 6 := rfl
  have hm6 := sMany_le x.op.toNat
  rw [hall, hrest] at hIff
  clear hall hrest
  by_cases hop : 1 ≤ x.op ∧ x.op ≤ 7
  · have eM : rMany x.op = (sMany x.op.toNat : Nat) := if_pos hop
    rw [eM] at hMa
    generalize sMany x.op.toNat = m at *
    generalize chkB x = cb at *
    unfold stE at *
    generalize nums x = ns at *
    obtain ⟨op, a0, a1, a2, a3, a4, a5⟩ := x
    dsimp only at *
    refine Fn1 Tryd.func7 rfl Tryd.ntmps7 rfl ?_
    have hrd0 := @hrd
    clear hrd
    have hrd : True := trivial
    (repeat' first | refine stp ?_ | intro v' hv' | intro (b : Nat) | (apply w_convU; rfl; rfl; omega; omega) | (apply w_convI; rfl; rfl; omega; omega) | (apply w_quoU; rfl; rfl; rfl; omega; omega; omega) | (apply w_remU; rfl; rfl; rfl; omega; omega) | (apply w_minL; rfl; rfl; rfl; omega) | (apply w_minG; rfl; rfl; rfl; omega) | (apply w_min; rfl; rfl; rfl) | (apply w_mfR; rfl; rfl) | (apply w_cvp; rfl; rfl; exact inferInstance; rfl; rfl; assumption) | (apply w_eqS2T; rfl; rfl; rfl; omega) | (apply w_eqS2F; rfl; rfl; rfl; omega) | (apply w_neS2T; rfl; rfl; rfl; omega) | (apply w_neS2F; rfl; rfl; rfl; omega) | (apply w_eqS3T; rfl; rfl; rfl; omega) | (apply w_eqS3F; rfl; rfl; rfl; omega) | (apply w_neS3T; rfl; rfl; rfl; omega) | (apply w_neS3F; rfl; rfl; rfl; omega) | (apply w_eqS3; rfl; rfl; rfl) | (apply w_neS3; rfl; rfl; rfl) | (apply w_eqS2; rfl; rfl; rfl) | (apply w_neS2; rfl; rfl; rfl) | (apply w_maxL; rfl; rfl; rfl; omega) | (apply w_maxG; rfl; rfl; rfl; omega) | (apply w_max; rfl; rfl; rfl) | (apply w_neB; rfl; rfl; rfl; rfl) | (apply w_eqB; rfl; rfl; rfl; rfl) | (apply w_cp; rfl; rfl; exact hMa) | (apply w_ld; rfl; rfl; exact hrd _ _) | refine spl ?_ ?_ | intro hc)
    all_goals first | (exfalso; omega) | skip
    refine C_loopK [2, 4, 10, 11, 12, 13, 14, 15, 16, 17, 18, 19, 20, 21, 22, 23, 24, 25, 26, 27, 28, 29, 30, 31, 32, 33, 34, 35, 36, 37] (fun k : Nat => 6 - k) (fun k => [(4, int k)]) (fun _ => pt b 27 [int op, int a0, int a1, int a2, int a3, int a4, int a5] :: R) (fun k => k ≤ 6 ∧ ∀ j n, j < k → ns[j]? = some n → numB n = true ∧ (m ≤ j → n = 0)) 0 ⟨Nat.zero_le _, fun j n h => absurd h (Nat.not_lt_zero _)⟩ (by (focus ((repeat (first | exact Keep.nil | apply Keep.drop rfl | apply Keep.keep rfl)); done))) (by (exact sbf)) (by (exact frm)) ?_
    rintro k ⟨hk, hz⟩
    dsimp only [List.cons_append, List.nil_append]
    by_cases hlt : k < 6
    · have hg : ns[k]? = some (ns[k]'(by omega)) := List.getElem?_eq_getElem _
      clear hrd
      have hrd := hrd0 hg
      generalize ns[k]'(by omega) = n at *
      by_cases hgood : numB n = true ∧ (m ≤ k → n = 0)
      · obtain ⟨hn0, hn1⟩ := numB_iff.1 hgood.1
        have hgz := hgood.2
        (repeat' first | refine stp ?_ | intro v' hv' | intro (b : Nat) | (apply w_convU; rfl; rfl; omega; omega) | (apply w_convI; rfl; rfl; omega; omega) | (apply w_quoU; rfl; rfl; rfl; omega; omega; omega) | (apply w_remU; rfl; rfl; rfl; omega; omega) | (apply w_minL; rfl; rfl; rfl; omega) | (apply w_minG; rfl; rfl; rfl; omega) | (apply w_min; rfl; rfl; rfl) | (apply w_mfR; rfl; rfl) | (apply w_cvp; rfl; rfl; exact inferInstance; rfl; rfl; assumption) | (apply w_eqS2T; rfl; rfl; rfl; omega) | (apply w_eqS2F; rfl; rfl; rfl; omega) | (apply w_neS2T; rfl; rfl; rfl; omega) | (apply w_neS2F; rfl; rfl; rfl; omega) | (apply w_eqS3T; rfl; rfl; rfl; omega) | (apply w_eqS3F; rfl; rfl; rfl; omega) | (apply w_neS3T; rfl; rfl; rfl; omega) | (apply w_neS3F; rfl; rfl; rfl; omega) | (apply w_eqS3; rfl; rfl; rfl) | (apply w_neS3; rfl; rfl; rfl) | (apply w_eqS2; rfl; rfl; rfl) | (apply w_neS2; rfl; rfl; rfl) | (apply w_maxL; rfl; rfl; rfl; omega) | (apply w_maxG; rfl; rfl; rfl; omega) | (apply w_max; rfl; rfl; rfl) | (apply w_neB; rfl; rfl; rfl; rfl) | (apply w_eqB; rfl; rfl; rfl; rfl) | (apply w_cp; rfl; rfl; exact hMa) | (apply w_ld; rfl; rfl; exact hrd _ _) | refine spl ?_ ?_ | intro hc)
        all_goals first | (exfalso; omega) | skip
        all_goals
          refine At_againK (k + 1) ⟨hlt, fun j n' hj hn' => ?_⟩ (by omega) (by (exact sbf)) (by (exact sbf)) (by (exact frm))
          by_cases hjk : j = k
          · subst hjk
            rw [hg] at hn'
            obtain rfl := Option.some.inj hn'
            exact hgood
          · exact hz j n' (by omega) hn'
      · have hcf : cb = false := by
          cases cb with
          | false => rfl
          | true => exact absurd ⟨(hIff.1 rfl).2.1 k n hg, fun h => (hIff.1 rfl).2.2 k n h hg⟩ hgood
        subst hcf
        have hbad : n < 0 ∨ 1099511627776 ≤ n ∨ (m ≤ k ∧ 0 < n) := by
          rcases Classical.em (0 ≤ n) with h0 | h0
          · rcases Classical.em (n < 1099511627776) with h1 | h1
            · right; right
              have : ¬ (m ≤ k → n = 0) := fun h => hgood ⟨numB_iff.2 ⟨h0, h1⟩, h⟩
              omega
            · right; left; omega
          · left; omega
        (repeat' first | refine stp ?_ | intro v' hv' | intro (b : Nat) | (apply w_convU; rfl; rfl; omega; omega) | (apply w_convI; rfl; rfl; omega; omega) | (apply w_quoU; rfl; rfl; rfl; omega; omega; omega) | (apply w_remU; rfl; rfl; rfl; omega; omega) | (apply w_minL; rfl; rfl; rfl; omega) | (apply w_minG; rfl; rfl; rfl; omega) | (apply w_min; rfl; rfl; rfl) | (apply w_mfR; rfl; rfl) | (apply w_cvp; rfl; rfl; exact inferInstance; rfl; rfl; assumption) | (apply w_eqS2T; rfl; rfl; rfl; omega) | (apply w_eqS2F; rfl; rfl; rfl; omega) | (apply w_neS2T; rfl; rfl; rfl; omega) | (apply w_neS2F; rfl; rfl; rfl; omega) | (apply w_eqS3T; rfl; rfl; rfl; omega) | (apply w_eqS3F; rfl; rfl; rfl; omega) | (apply w_neS3T; rfl; rfl; rfl; omega) | (apply w_neS3F; rfl; rfl; rfl; omega) | (apply w_eqS3; rfl; rfl; rfl) | (apply w_neS3; rfl; rfl; rfl) | (apply w_eqS2; rfl; rfl; rfl) | (apply w_neS2; rfl; rfl; rfl) | (apply w_maxL; rfl; rfl; rfl; omega) | (apply w_maxG; rfl; rfl; rfl; omega) | (apply w_max; rfl; rfl; rfl) | (apply w_neB; rfl; rfl; rfl; rfl) | (apply w_eqB; rfl; rfl; rfl; rfl) | (apply w_cp; rfl; rfl; exact hMa) | (apply w_ld; rfl; rfl; exact hrd _ _) | refine spl ?_ ?_ | intro hc)
        all_goals first | (exfalso; omega) | skip
        all_goals (refine At_ret1 (by (first | exact .inl rfl | exact .inr rfl)) Tryd.results7 rfl ⟨by rfl, rfl⟩ (by (exact frm)))
    · have hk' : k = 6 := by omega
      subst hk'
      have hct : cb = true := hIff.2 ⟨hop, fun j n hj => (hz j n (by have := (List.getElem?_eq_some_iff.1 hj).1; omega) hj).1, fun j n hm hj => (hz j n (by have := (List.getElem?_eq_some_iff.1 hj).1; omega) hj).2 hm⟩
      subst hct
      (repeat' first | refine stp ?_ | intro v' hv' | intro (b : Nat) | (apply w_convU; rfl; rfl; omega; omega) | (apply w_convI; rfl; rfl; omega; omega) | (apply w_quoU; rfl; rfl; rfl; omega; omega; omega) | (apply w_remU; rfl; rfl; rfl; omega; omega) | (apply w_minL; rfl; rfl; rfl; omega) | (apply w_minG; rfl; rfl; rfl; omega) | (apply w_min; rfl; rfl; rfl) | (apply w_mfR; rfl; rfl) | (apply w_cvp; rfl; rfl; exact inferInstance; rfl; rfl; assumption) | (apply w_eqS2T; rfl; rfl; rfl; omega) | (apply w_eqS2F; rfl; rfl; rfl; omega) | (apply w_neS2T; rfl; rfl; rfl; omega) | (apply w_neS2F; rfl; rfl; rfl; omega) | (apply w_eqS3T; rfl; rfl; rfl; omega) | (apply w_eqS3F; rfl; rfl; rfl; omega) | (apply w_neS3T; rfl; rfl; rfl; omega) | (apply w_neS3F; rfl; rfl; rfl; omega) | (apply w_eqS3; rfl; rfl; rfl) | (apply w_neS3; rfl; rfl; rfl) | (apply w_eqS2; rfl; rfl; rfl) | (apply w_neS2; rfl; rfl; rfl) | (apply w_maxL; rfl; rfl; rfl; omega) | (apply w_maxG; rfl; rfl; rfl; omega) | (apply w_max; rfl; rfl; rfl) | (apply w_neB; rfl; rfl; rfl; rfl) | (apply w_eqB; rfl; rfl; rfl; rfl) | (apply w_cp; rfl; rfl; exact hMa) | (apply w_ld; rfl; rfl; exact hrd _ _) | refine spl ?_ ?_ | intro hc)
      all_goals first | (exfalso; omega) | skip
      all_goals (refine At_ret1 (by (first | exact .inl rfl | exact .inr rfl)) Tryd.results7 rfl ⟨by rfl, rfl⟩ (by (exact frm)))
  · have eM : rMany x.op = -1 := if_neg hop
    rw [eM] at hMa
    have hcf : chkB x = false := by
      cases hc : chkB x with
      | false => rfl
      | true => exact absurd (hIff.1 hc).1 hop
    rw [hcf]
    unfold stE at *
    obtain ⟨op, a0, a1, a2, a3, a4, a5⟩ := x
    dsimp only at *
    clear hrd
    have hrd : True := trivial
    refine Fn1 Tryd.func7 rfl Tryd.ntmps7 rfl ?_
    (repeat' first | refine stp ?_ | intro v' hv' | intro (b : Nat) | (apply w_convU; rfl; rfl; omega; omega) | (apply w_convI; rfl; rfl; omega; omega) | (apply w_quoU; rfl; rfl; rfl; omega; omega; omega) | (apply w_remU; rfl; rfl; rfl; omega; omega) | (apply w_minL; rfl; rfl; rfl; omega) | (apply w_minG; rfl; rfl; rfl; omega) | (apply w_min; rfl; rfl; rfl) | (apply w_mfR; rfl; rfl) | (apply w_cvp; rfl; rfl; exact inferInstance; rfl; rfl; assumption) | (apply w_eqS2T; rfl; rfl; rfl; omega) | (apply w_eqS2F; rfl; rfl; rfl; omega) | (apply w_neS2T; rfl; rfl; rfl; omega) | (apply w_neS2F; rfl; rfl; rfl; omega) | (apply w_eqS3T; rfl; rfl; rfl; omega) | (apply w_eqS3F; rfl; rfl; rfl; omega) | (apply w_neS3T; rfl; rfl; rfl; omega) | (apply w_neS3F; rfl; rfl; rfl; omega) | (apply w_eqS3; rfl; rfl; rfl) | (apply w_neS3; rfl; rfl; rfl) | (apply w_eqS2; rfl; rfl; rfl) | (apply w_neS2; rfl; rfl; rfl) | (apply w_maxL; rfl; rfl; rfl; omega) | (apply w_maxG; rfl; rfl; rfl; omega) | (apply w_max; rfl; rfl; rfl) | (apply w_neB; rfl; rfl; rfl; rfl) | (apply w_eqB; rfl; rfl; rfl; rfl) | (apply w_cp; rfl; rfl; exact hMa) | (apply w_ld; rfl; rfl; exact hrd _ _) | refine spl ?_ ?_ | intro hc)
    all_goals first | (exfalso; omega) | skip
    all_goals (refine At_ret1 (by (first | exact .inl rfl | exact .inr rfl)) Tryd.results7 rfl ⟨by rfl, rfl⟩ (by (exact frm)))
theorem RdAll.part {b : Nat} {T : TypeId} {vs ws : List Value} {o : Nat} {L : List HP} (h : (vs.drop o).take ws.length = ws) : RdAll (pt b T vs :: L) b o ws :=
  RdAll.at fun i u hi => Rd.pt (by
    have hlt := (List.getElem?_eq_some_iff.1 hi).1
    rw [← h, List.getElem?_take, if_pos hlt, List.getElem?_drop] at hi
    exact hi)
set_option maxHeartbeats 2000000 in
theorem sPlain_ok (x : Stp) (R : List HP) : Called Tryd.prog 8 [.agg (stE x).toArray] R (is (.agg (stE x).toArray) R) := by
  obtain ⟨op, a0, a1, a2, a3, a4, a5⟩ := x
  unfold stE
  dsimp only
  refine Fn1 Tryd.func8 rfl Tryd.ntmps8 rfl ?_
  (repeat' first | refine stp ?_ | intro v' hv' | intro (b : Nat) | (apply w_convU; rfl; rfl; omega; omega) | (apply w_convI; rfl; rfl; omega; omega) | (apply w_quoU; rfl; rfl; rfl; omega; omega; omega) | (apply w_remU; rfl; rfl; rfl; omega; omega) | (apply w_minL; rfl; rfl; rfl; omega) | (apply w_minG; rfl; rfl; rfl; omega) | (apply w_min; rfl; rfl; rfl) | (apply w_mfR; rfl; rfl) | (apply w_cvp; rfl; rfl; exact inferInstance; rfl; rfl; assumption) | (apply w_eqS2T; rfl; rfl; rfl; omega) | (apply w_eqS2F; rfl; rfl; rfl; omega) | (apply w_neS2T; rfl; rfl; rfl; omega) | (apply w_neS2F; rfl; rfl; rfl; omega) | (apply w_eqS3T; rfl; rfl; rfl; omega) | (apply w_eqS3F; rfl; rfl; rfl; omega) | (apply w_neS3T; rfl; rfl; rfl; omega) | (apply w_neS3F; rfl; rfl; rfl; omega) | (apply w_eqS3; rfl; rfl; rfl) | (apply w_neS3; rfl; rfl; rfl) | (apply w_eqS2; rfl; rfl; rfl) | (apply w_neS2; rfl; rfl; rfl) | (apply w_maxL; rfl; rfl; rfl; omega) | (apply w_maxG; rfl; rfl; rfl; omega) | (apply w_max; rfl; rfl; rfl) | (apply w_neB; rfl; rfl; rfl; rfl) | (apply w_eqB; rfl; rfl; rfl; rfl) | (apply w_la; rfl; rfl; exact (RdAll.part (o := 0 + 1) (ws := [int a0, int a1, int a2, int a3, int a4, int a5]) rfl).there; rfl) | refine spl ?_ ?_ | intro hc)
  all_goals (apply At_retR (by (first | exact .inl rfl | exact .inr rfl)) Tryd.results8; ((focus ((repeat (first | exact ResR.nil | (apply ResR.tmp; rfl) | (apply ResR.one; rfl; (focus ((repeat (first | assumption | exact .pt rfl | exact .sl ‹_› rfl | exact .sl1 (by first | assumption | rfl) | apply Rd.there)); done))) | (apply ResR.agg; rfl; (focus ((repeat (first | assumption | exact .pt | exact .sl ‹_› | apply RdAll.there)); done)); rfl))); done))); (refine ⟨?_, rfl⟩; rfl); ((exact frm)))
set_option maxHeartbeats 4000000 in
theorem rLine_ok (x : Stp) (R : List HP) (hc : chkB x = true) : Called Tryd.prog 10 [.agg (stE x).toArray] R (is (str (sLine x)) R) := by
  obtain ⟨hop, -, -⟩ := chkB_iff.1 hc
  have hMa := fun M => rMany_ok x.op M
  have eM : rMany x.op = (sMany x.op.toNat : Nat) := if_pos hop
  rw [eM] at hMa
  have hWo0 := fun M => rWord_ok x.op.toNat M (by omega) (by omega)
  rw [show ((x.op.toNat : Nat) : Int) = x.op by omega] at hWo0
  have hrd0 : ∀ {k : Nat} {n : Int}, (nums x)[k]? = some n → ∀ b M, Rd (pt b 27 (stE x) :: M) ⟨b, 0 + 1 + k * 1, none⟩ (int n) := fun h b M => stp_rd 27 x h b M
  have hnm := chk_nums hc
  have hnl : (nums x).length = 6 := rfl
  have hm6 := sMany_le x.op.toNat
  have hwl := sW_len x.op.toNat
  unfold sLine lnB
  generalize sMany x.op.toNat = m at *
  generalize sW x.op.toNat = w at *
  unfold stE at *
  generalize nums x = ns at *
  obtain ⟨op, a0, a1, a2, a3, a4, a5⟩ := x
  dsimp only at *
  have hWo : ∀ M, Called Tryd.prog 26 [int op] M (is (str w) M) := hWo0
  have hrd : True := trivial
  have hDi : True := trivial
  refine Fn1 Tryd.func10 rfl Tryd.ntmps10 rfl ?_
  (repeat' first | refine stp ?_ | intro v' hv' | intro (b : Nat) | (apply w_convU; rfl; rfl; omega; omega) | (apply w_convI; rfl; rfl; omega; omega) | (apply w_quoU; rfl; rfl; rfl; omega; omega; omega) | (apply w_remU; rfl; rfl; rfl; omega; omega) | (apply w_minL; rfl; rfl; rfl; omega) | (apply w_minG; rfl; rfl; rfl; omega) | (apply w_min; rfl; rfl; rfl) | (apply w_mfR; rfl; rfl) | (apply w_cvp; rfl; rfl; exact inferInstance; rfl; rfl; assumption) | (apply w_eqS2T; rfl; rfl; rfl; omega) | (apply w_eqS2F; rfl; rfl; rfl; omega) | (apply w_neS2T; rfl; rfl; rfl; omega) | (apply w_neS2F; rfl; rfl; rfl; omega) | (apply w_eqS3T; rfl; rfl; rfl; omega) | (apply w_eqS3F; rfl; rfl; rfl; omega) | (apply w_neS3T; rfl; rfl; rfl; omega) | (apply w_neS3F; rfl; rfl; rfl; omega) | (apply w_eqS3; rfl; rfl; rfl) | (apply w_neS3; rfl; rfl; rfl) | (apply w_eqS2; rfl; rfl; rfl) | (apply w_neS2; rfl; rfl; rfl) | (apply w_maxL; rfl; rfl; rfl; omega) | (apply w_maxG; rfl; rfl; rfl; omega) | (apply w_max; rfl; rfl; rfl) | (apply w_neB; rfl; rfl; rfl; rfl) | (apply w_eqB; rfl; rfl; rfl; rfl) | (apply w_strA; rfl; rfl; rfl; first | omega | (simp only [List.length_append, List.length_cons, List.length_nil]; omega)) | (apply w_strET; rfl; rfl; rfl; assumption) | (apply w_strEF; rfl; rfl; rfl; assumption) | (apply w_strNF; rfl; rfl; rfl; assumption) | (apply w_strNT; rfl; rfl; rfl; assumption) | (apply w_strE; rfl; rfl; rfl; rfl) | (apply w_strN; rfl; rfl; rfl; rfl) | (apply w_strL; rfl; rfl) | (apply w_cp; rfl; rfl; exact hMa) | (apply w_cp; rfl; rfl; exact hWo) | (apply w_cp; rfl; rfl; exact hDi) | (apply w_ld; rfl; rfl; exact hrd _ _) | refine spl ?_ ?_ | intro hc)
  all_goals first | (exfalso; omega) | skip
  refine C_loopK [3, 4, 8, 9, 10, 11, 12, 13, 14, 15, 16, 17, 18, 19, 20, 21, 22] (fun k : Nat => m - k) (fun k => [(4, int k), (3, str (lnN w (ns.take k)))]) (fun _ => pt b 27 [int op, int a0, int a1, int a2, int a3, int a4, int a5] :: R) (fun k => k ≤ m) 0 (Nat.zero_le _) (by (focus ((repeat (first | exact Keep.nil | apply Keep.drop rfl | apply Keep.keep rfl)); done))) (by unfold lnN; simp only [List.take_zero, List.map_nil, List.flatten_nil, List.append_nil]; (exact sbf)) (by (exact frm)) ?_
  intro k hk
  dsimp only [List.cons_append, List.nil_append]
  have hll := lnN_len w (ns.take k) (fun n hn => hnm n (List.mem_of_mem_take hn))
  rw [List.length_take] at hll
  by_cases hlt : k < m
  · have hg : ns[k]? = some (ns[k]'(by omega)) := List.getElem?_eq_getElem _
    have htk : lnN w (ns.take (k + 1)) = lnN w (ns.take k) ++ [32] ++ Lib.itoa (ns[k]'(by omega)) := by
      rw [List.take_add_one, hg]
      have := lnN_snoc w (ns.take k) (ns[k]'(by omega))
      simpa using this
    have hnb := hnm _ (List.mem_of_getElem? hg)
    clear hrd hDi
    have hrd := hrd0 hg
    have hDi := fun M => rDig_ok hnb M
    have hil := itoa_num hnb
    generalize ns[k]'(by omega) = n at *
    generalize Lib.itoa n = dg at *
    generalize lnN w (ns.take k) = tx at *
    (repeat' first | refine stp ?_ | intro v' hv' | intro (b : Nat) | (apply w_convU; rfl; rfl; omega; omega) | (apply w_convI; rfl; rfl; omega; omega) | (apply w_quoU; rfl; rfl; rfl; omega; omega; omega) | (apply w_remU; rfl; rfl; rfl; omega; omega) | (apply w_minL; rfl; rfl; rfl; omega) | (apply w_minG; rfl; rfl; rfl; omega) | (apply w_min; rfl; rfl; rfl) | (apply w_mfR; rfl; rfl) | (apply w_cvp; rfl; rfl; exact inferInstance; rfl; rfl; assumption) | (apply w_eqS2T; rfl; rfl; rfl; omega) | (apply w_eqS2F; rfl; rfl; rfl; omega) | (apply w_neS2T; rfl; rfl; rfl; omega) | (apply w_neS2F; rfl; rfl; rfl; omega) | (apply w_eqS3T; rfl; rfl; rfl; omega) | (apply w_eqS3F; rfl; rfl; rfl; omega) | (apply w_neS3T; rfl; rfl; rfl; omega) | (apply w_neS3F; rfl; rfl; rfl; omega) | (apply w_eqS3; rfl; rfl; rfl) | (apply w_neS3; rfl; rfl; rfl) | (apply w_eqS2; rfl; rfl; rfl) | (apply w_neS2; rfl; rfl; rfl) | (apply w_maxL; rfl; rfl; rfl; omega) | (apply w_maxG; rfl; rfl; rfl; omega) | (apply w_max; rfl; rfl; rfl) | (apply w_neB; rfl; rfl; rfl; rfl) | (apply w_eqB; rfl; rfl; rfl; rfl) | (apply w_strA; rfl; rfl; rfl; first | omega | (simp only [List.length_append, List.length_cons, List.length_nil]; omega)) | (apply w_strET; rfl; rfl; rfl; assumption) | (apply w_strEF; rfl; rfl; rfl; assumption) | (apply w_strNF; rfl; rfl; rfl; assumption) | (apply w_strNT; rfl; rfl; rfl; assumption) | (apply w_strE; rfl; rfl; rfl; rfl) | (apply w_strN; rfl; rfl; rfl; rfl) | (apply w_strL; rfl; rfl) | (apply w_cp; rfl; rfl; exact hMa) | (apply w_cp; rfl; rfl; exact hWo) | (apply w_cp; rfl; rfl; exact hDi) | (apply w_ld; rfl; rfl; exact hrd _ _) | refine spl ?_ ?_ | intro hc)
    all_goals first | (exfalso; omega) | skip
    all_goals exact At_againK (k + 1) hlt (by omega) (by rw [htk]; (exact sbf)) (by (exact sbf)) (by (exact frm))
  · have hk' : k = m := by omega
    subst hk'
    generalize lnN w (ns.take k) = tx at *
    (repeat' first | refine stp ?_ | intro v' hv' | intro (b : Nat) | (apply w_convU; rfl; rfl; omega; omega) | (apply w_convI; rfl; rfl; omega; omega) | (apply w_quoU; rfl; rfl; rfl; omega; omega; omega) | (apply w_remU; rfl; rfl; rfl; omega; omega) | (apply w_minL; rfl; rfl; rfl; omega) | (apply w_minG; rfl; rfl; rfl; omega) | (apply w_min; rfl; rfl; rfl) | (apply w_mfR; rfl; rfl) | (apply w_cvp; rfl; rfl; exact inferInstance; rfl; rfl; assumption) | (apply w_eqS2T; rfl; rfl; rfl; omega) | (apply w_eqS2F; rfl; rfl; rfl; omega) | (apply w_neS2T; rfl; rfl; rfl; omega) | (apply w_neS2F; rfl; rfl; rfl; omega) | (apply w_eqS3T; rfl; rfl; rfl; omega) | (apply w_eqS3F; rfl; rfl; rfl; omega) | (apply w_neS3T; rfl; rfl; rfl; omega) | (apply w_neS3F; rfl; rfl; rfl; omega) | (apply w_eqS3; rfl; rfl; rfl) | (apply w_neS3; rfl; rfl; rfl) | (apply w_eqS2; rfl; rfl; rfl) | (apply w_neS2; rfl; rfl; rfl) | (apply w_maxL; rfl; rfl; rfl; omega) | (apply w_maxG; rfl; rfl; rfl; omega) | (apply w_max; rfl; rfl; rfl) | (apply w_neB; rfl; rfl; rfl; rfl) | (apply w_eqB; rfl; rfl; rfl; rfl) | (apply w_strA; rfl; rfl; rfl; first | omega | (simp only [List.length_append, List.length_cons, List.length_nil]; omega)) | (apply w_strET; rfl; rfl; rfl; assumption) | (apply w_strEF; rfl; rfl; rfl; assumption) | (apply w_strNF; rfl; rfl; rfl; assumption) | (apply w_strNT; rfl; rfl; rfl; assumption) | (apply w_strE; rfl; rfl; rfl; rfl) | (apply w_strN; rfl; rfl; rfl; rfl) | (apply w_strL; rfl; rfl) | (apply w_cp; rfl; rfl; exact hMa) | (apply w_cp; rfl; rfl; exact hWo) | (apply w_cp; rfl; rfl; exact hDi) | (apply w_ld; rfl; rfl; exact hrd _ _) | refine spl ?_ ?_ | intro hc)
    all_goals first | (exfalso; omega) | skip
    all_goals (refine At_ret1 (by (first | exact .inl rfl | exact .inr rfl)) Tryd.results10 rfl ⟨by rfl, rfl⟩ (by (exact frm)))
end Go.Proofs.YteggkdlgailfoaaDoor
