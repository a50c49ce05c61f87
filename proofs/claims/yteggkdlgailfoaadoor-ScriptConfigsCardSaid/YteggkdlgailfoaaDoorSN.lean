/- script: programs in rows; few, library, in, flag, the chapter's example. Conditions: none. -/
import Derived.Test.YteggkdlgailfoaaDoorSM
import Derived.Test.YteggkdlgailfoaaDoorQO
set_option linter.all false
set_option linter.deprecated false
namespace Go.Proofs.YteggkdlgailfoaaDoor
open Go.Sep
variable [B0 : Base]
theorem wf_i64 {n : Int} (h : W64 n) : (Lit.int .i64 n).wf = true := by
  obtain ⟨h1, h2⟩ := h
  simp only [Lit.wf, Bool.and_eq_true, decide_eq_true_eq]
  exact ⟨h1, h2⟩
set_option maxHeartbeats 1000000 in
theorem rDigits_ok (u : Nat) : u < 1099511627776 → ∀ R : List HP, Called Tryd.prog 27 [int u] R (is (str (Lib.decDigits u)) R) := by
  induction u using Nat.strongRecOn with
  | _ u ih =>
    intro hu R
    rw [Lib.decDigits]
    by_cases h : u < 10
    · rw [dif_pos h, ← digit_at u h]
      refine Fn1 Tryd.func27 rfl Tryd.ntmps27 rfl ?_
      (repeat' first | refine stp ?_ | intro v' hv' | intro (b : Nat) | (apply w_convU; rfl; rfl; omega; omega) | (apply w_convI; rfl; rfl; omega; omega) | (apply w_quoU; rfl; rfl; rfl; omega; omega; omega) | (apply w_remU; rfl; rfl; rfl; omega; omega) | (apply w_minL; rfl; rfl; rfl; omega) | (apply w_minG; rfl; rfl; rfl; omega) | (apply w_min; rfl; rfl; rfl) | (apply w_mfR; rfl; rfl) | (apply w_cvp; rfl; rfl; exact inferInstance; rfl; rfl; assumption) | (apply w_eqS2T; rfl; rfl; rfl; omega) | (apply w_eqS2F; rfl; rfl; rfl; omega) | (apply w_neS2T; rfl; rfl; rfl; omega) | (apply w_neS2F; rfl; rfl; rfl; omega) | (apply w_eqS3T; rfl; rfl; rfl; omega) | (apply w_eqS3F; rfl; rfl; rfl; omega) | (apply w_neS3T; rfl; rfl; rfl; omega) | (apply w_neS3F; rfl; rfl; rfl; omega) | (apply w_eqS3; rfl; rfl; rfl) | (apply w_neS3; rfl; rfl; rfl) | (apply w_eqS2; rfl; rfl; rfl) | (apply w_neS2; rfl; rfl; rfl) | (apply w_maxL; rfl; rfl; rfl; omega) | (apply w_maxG; rfl; rfl; rfl; omega) | (apply w_max; rfl; rfl; rfl) | (apply w_neB; rfl; rfl; rfl; rfl) | (apply w_eqB; rfl; rfl; rfl; rfl) | (apply w_strA; rfl; rfl; rfl; first | omega | (simp only [List.length_append, List.length_cons, List.length_nil]; omega)) | (apply w_strET; rfl; rfl; rfl; assumption) | (apply w_strEF; rfl; rfl; rfl; assumption) | (apply w_strNF; rfl; rfl; rfl; assumption) | (apply w_strNT; rfl; rfl; rfl; assumption) | (apply w_strE; rfl; rfl; rfl; rfl) | (apply w_strN; rfl; rfl; rfl; rfl) | (apply w_strL; rfl; rfl) | (apply w_strS (i' := u) (j' := u + 1); rfl; rfl; rfl; rfl; rfl; rfl; omega; (simp; omega)) | (apply w_cp; rfl; rfl; assumption) | refine spl ?_ ?_ | intro hc)
      all_goals first | (exfalso; omega) | skip
      all_goals (refine At_ret1 (by (first | exact .inl rfl | exact .inr rfl)) Tryd.results27 rfl ⟨by rfl, rfl⟩ (by (exact frm)))
    · rw [dif_neg h]
      have i1 := ih (u / 10) (by omega) (by omega)
      have i2 := ih (u % 10) (by omega) (by omega)
      have e2 : Lib.decDigits (u % 10) = [UInt8.ofNat (48 + u % 10)] := by rw [Lib.decDigits, dif_pos (by omega)]
      rw [e2] at i2
      have l1 := decDigits_len (u / 10)
      generalize Lib.decDigits (u / 10) = d1 at *
      have i1' : ∀ M, Called Tryd.prog 27 [int ((u : Int) / 10)] M (is (str d1) M) := i1
      have i2' : ∀ M, Called Tryd.prog 27 [int ((u : Int) % 10)] M (is (str [UInt8.ofNat (48 + u % 10)]) M) := i2
      clear i1 i2 ih
      refine Fn1 Tryd.func27 rfl Tryd.ntmps27 rfl ?_
      (repeat' first | refine stp ?_ | intro v' hv' | intro (b : Nat) | (apply w_convU; rfl; rfl; omega; omega) | (apply w_convI; rfl; rfl; omega; omega) | (apply w_quoU; rfl; rfl; rfl; omega; omega; omega) | (apply w_remU; rfl; rfl; rfl; omega; omega) | (apply w_minL; rfl; rfl; rfl; omega) | (apply w_minG; rfl; rfl; rfl; omega) | (apply w_min; rfl; rfl; rfl) | (apply w_mfR; rfl; rfl) | (apply w_cvp; rfl; rfl; exact inferInstance; rfl; rfl; assumption) | (apply w_eqS2T; rfl; rfl; rfl; omega) | (apply w_eqS2F; rfl; rfl; rfl; omega) | (apply w_neS2T; rfl; rfl; rfl; omega) | (apply w_neS2F; rfl; rfl; rfl; omega) | (apply w_eqS3T; rfl; rfl; rfl; omega) | (apply w_eqS3F; rfl; rfl; rfl; omega) | (apply w_neS3T; rfl; rfl; rfl; omega) | (apply w_neS3F; rfl; rfl; rfl; omega) | (apply w_eqS3; rfl; rfl; rfl) | (apply w_neS3; rfl; rfl; rfl) | (apply w_eqS2; rfl; rfl; rfl) | (apply w_neS2; rfl; rfl; rfl) | (apply w_maxL; rfl; rfl; rfl; omega) | (apply w_maxG; rfl; rfl; rfl; omega) | (apply w_max; rfl; rfl; rfl) | (apply w_neB; rfl; rfl; rfl; rfl) | (apply w_eqB; rfl; rfl; rfl; rfl) | (apply w_strA; rfl; rfl; rfl; first | omega | (simp only [List.length_append, List.length_cons, List.length_nil]; omega)) | (apply w_strET; rfl; rfl; rfl; assumption) | (apply w_strEF; rfl; rfl; rfl; assumption) | (apply w_strNF; rfl; rfl; rfl; assumption) | (apply w_strNT; rfl; rfl; rfl; assumption) | (apply w_strE; rfl; rfl; rfl; rfl) | (apply w_strN; rfl; rfl; rfl; rfl) | (apply w_strL; rfl; rfl) | (apply w_strS (i' := u) (j' := u + 1); rfl; rfl; rfl; rfl; rfl; rfl; omega; (simp; omega)) | (apply w_cp; rfl; rfl; assumption) | refine spl ?_ ?_ | intro hc)
      all_goals first | (exfalso; omega) | skip
      all_goals (refine At_ret1 (by (first | exact .inl rfl | exact .inr rfl)) Tryd.results27 rfl ⟨by rfl, rfl⟩ (by (exact frm)))
theorem rDig_ok {n : Int} (h : numB n = true) (R : List HP) : Called Tryd.prog 27 [int n] R (is (str (Lib.itoa n)) R) := by
  obtain ⟨h0, h1⟩ := numB_iff.1 h
  obtain ⟨u, rfl⟩ := Int.eq_ofNat_of_zero_le h0
  rw [itoa_nn h0]
  exact rDigits_ok u (by omega) R
def awS : List Stp := [⟨1, 5, 0, 0, 0, 0, 0⟩, ⟨5, 3, 1, 0, 0, 0, 0⟩]
theorem aw_print : printS awS = ([103, 111, 32, 53, 10, 109, 111, 118, 101, 32, 51, 32, 49, 10], 0) := by
  have h5 : Lib.itoa 5 = [53] := by unfold Lib.itoa; rw [if_neg (by decide)]; rw [Lib.decDigits]; rfl
  have h3 : Lib.itoa 3 = [51] := by unfold Lib.itoa; rw [if_neg (by decide)]; rw [Lib.decDigits]; rfl
  have h1 : Lib.itoa 1 = [49] := by unfold Lib.itoa; rw [if_neg (by decide)]; rw [Lib.decDigits]; rfl
  have e1 : sLine ⟨1, 5, 0, 0, 0, 0, 0⟩ = sW 1 ++ (32 :: Lib.itoa 5) ++ [10] := by show sW 1 ++ ((32 :: Lib.itoa 5) ++ []) ++ [10] = _; rw [List.append_nil]
  have e2 : sLine ⟨5, 3, 1, 0, 0, 0, 0⟩ = sW 5 ++ ((32 :: Lib.itoa 3) ++ (32 :: Lib.itoa 1)) ++ [10] := by show sW 5 ++ ((32 :: Lib.itoa 3) ++ ((32 :: Lib.itoa 1) ++ [])) ++ [10] = _; rw [List.append_nil]
  unfold printS
  rw [if_pos (by decide)]
  unfold sText awS
  simp only [List.map_cons, List.map_nil, e1, e2, h5, h3, h1]
  rfl
set_option maxHeartbeats 4000000 in
theorem awake_ok (R : List HP) [hV : HasV R] : Called Tryd.prog 6 [] R (is (.bool true) R) := by
  have hPr := fun (v : Value) (hv : IsSl v 2) => sPrint_ok v awS (sl 29 7 v (awS.map stE) :: R) (StIn.ofsl hv) (by decide)
  rw [aw_print] at hPr
  dsimp only at hPr
  refine Fn0 Tryd.func6 rfl Tryd.ntmps6 ?_
  (repeat' first | refine stp ?_ | intro v' hv' | intro (b : Nat) | (apply w_convU; rfl; rfl; omega; omega) | (apply w_convI; rfl; rfl; omega; omega) | (apply w_quoU; rfl; rfl; rfl; omega; omega; omega) | (apply w_remU; rfl; rfl; rfl; omega; omega) | (apply w_minL; rfl; rfl; rfl; omega) | (apply w_minG; rfl; rfl; rfl; omega) | (apply w_min; rfl; rfl; rfl) | (apply w_mfR; rfl; rfl) | (apply w_cvp; rfl; rfl; exact inferInstance; rfl; rfl; assumption) | (apply w_eqS2T; rfl; rfl; rfl; omega) | (apply w_eqS2F; rfl; rfl; rfl; omega) | (apply w_neS2T; rfl; rfl; rfl; omega) | (apply w_neS2F; rfl; rfl; rfl; omega) | (apply w_eqS3T; rfl; rfl; rfl; omega) | (apply w_eqS3F; rfl; rfl; rfl; omega) | (apply w_neS3T; rfl; rfl; rfl; omega) | (apply w_neS3F; rfl; rfl; rfl; omega) | (apply w_eqS3; rfl; rfl; rfl) | (apply w_neS3; rfl; rfl; rfl) | (apply w_eqS2; rfl; rfl; rfl) | (apply w_neS2; rfl; rfl; rfl) | (apply w_maxL; rfl; rfl; rfl; omega) | (apply w_maxG; rfl; rfl; rfl; omega) | (apply w_max; rfl; rfl; rfl) | (apply w_neB; rfl; rfl; rfl; rfl) | (apply w_eqB; rfl; rfl; rfl; rfl) | (apply w_strA; rfl; rfl; rfl; first | omega | (simp only [List.length_append, List.length_cons, List.length_nil]; omega)) | (apply w_strET; rfl; rfl; rfl; assumption) | (apply w_strEF; rfl; rfl; rfl; assumption) | (apply w_strNF; rfl; rfl; rfl; assumption) | (apply w_strNT; rfl; rfl; rfl; assumption) | (apply w_strE; rfl; rfl; rfl; rfl) | (apply w_strN; rfl; rfl; rfl; rfl) | (apply w_strL; rfl; rfl) | refine spl ?_ ?_ | intro hc)
  obtain ⟨v1, e1⟩ : ∃ r, r = v' := ⟨_, rfl⟩
  subst e1
  have hv1 : IsSl v1 2 := hv'
  clear hv'
  apply w_cd; rfl; rfl; exact hPr v1 hv1; ((exact kmf))
  (repeat' first | refine stp ?_ | intro v' hv' | intro (b : Nat) | (apply w_convU; rfl; rfl; omega; omega) | (apply w_convI; rfl; rfl; omega; omega) | (apply w_quoU; rfl; rfl; rfl; omega; omega; omega) | (apply w_remU; rfl; rfl; rfl; omega; omega) | (apply w_minL; rfl; rfl; rfl; omega) | (apply w_minG; rfl; rfl; rfl; omega) | (apply w_min; rfl; rfl; rfl) | (apply w_mfR; rfl; rfl) | (apply w_cvp; rfl; rfl; exact inferInstance; rfl; rfl; assumption) | (apply w_eqS2T; rfl; rfl; rfl; omega) | (apply w_eqS2F; rfl; rfl; rfl; omega) | (apply w_neS2T; rfl; rfl; rfl; omega) | (apply w_neS2F; rfl; rfl; rfl; omega) | (apply w_eqS3T; rfl; rfl; rfl; omega) | (apply w_eqS3F; rfl; rfl; rfl; omega) | (apply w_neS3T; rfl; rfl; rfl; omega) | (apply w_neS3F; rfl; rfl; rfl; omega) | (apply w_eqS3; rfl; rfl; rfl) | (apply w_neS3; rfl; rfl; rfl) | (apply w_eqS2; rfl; rfl; rfl) | (apply w_neS2; rfl; rfl; rfl) | (apply w_maxL; rfl; rfl; rfl; omega) | (apply w_maxG; rfl; rfl; rfl; omega) | (apply w_max; rfl; rfl; rfl) | (apply w_neB; rfl; rfl; rfl; rfl) | (apply w_eqB; rfl; rfl; rfl; rfl) | (apply w_strA; rfl; rfl; rfl; first | omega | (simp only [List.length_append, List.length_cons, List.length_nil]; omega)) | (apply w_strET; rfl; rfl; rfl; assumption) | (apply w_strEF; rfl; rfl; rfl; assumption) | (apply w_strNF; rfl; rfl; rfl; assumption) | (apply w_strNT; rfl; rfl; rfl; assumption) | (apply w_strE; rfl; rfl; rfl; rfl) | (apply w_strN; rfl; rfl; rfl; rfl) | (apply w_strL; rfl; rfl) | refine spl ?_ ?_ | intro hc)
  all_goals (refine At_ret1 (by (first | exact .inl rfl | exact .inr rfl)) Tryd.results6 rfl ⟨by rfl, rfl⟩ (by (exact frm)))

theorem in_ok (n : Int) (R : List HP) : Called Tryd.prog 38 [int n] R (is (.bool (numB n)) R) := by
  unfold numB
  by_cases h0 : 0 ≤ n
  · by_cases h1 : n < 1099511627776
    · rw [decide_eq_true ⟨h0, h1⟩]
      refine Fn1 Tryd.func38 rfl Tryd.ntmps38 rfl ?_
      (repeat' first | refine stp ?_ | intro v' hv' | intro (b : Nat) | (apply w_convU; rfl; rfl; omega; omega) | (apply w_convI; rfl; rfl; omega; omega) | (apply w_quoU; rfl; rfl; rfl; omega; omega; omega) | (apply w_remU; rfl; rfl; rfl; omega; omega) | (apply w_minL; rfl; rfl; rfl; omega) | (apply w_minG; rfl; rfl; rfl; omega) | (apply w_min; rfl; rfl; rfl) | (apply w_mfR; rfl; rfl) | (apply w_cvp; rfl; rfl; exact inferInstance; rfl; rfl; assumption) | (apply w_eqS2T; rfl; rfl; rfl; omega) | (apply w_eqS2F; rfl; rfl; rfl; omega) | (apply w_neS2T; rfl; rfl; rfl; omega) | (apply w_neS2F; rfl; rfl; rfl; omega) | (apply w_eqS3T; rfl; rfl; rfl; omega) | (apply w_eqS3F; rfl; rfl; rfl; omega) | (apply w_neS3T; rfl; rfl; rfl; omega) | (apply w_neS3F; rfl; rfl; rfl; omega) | (apply w_eqS3; rfl; rfl; rfl) | (apply w_neS3; rfl; rfl; rfl) | (apply w_eqS2; rfl; rfl; rfl) | (apply w_neS2; rfl; rfl; rfl) | (apply w_maxL; rfl; rfl; rfl; omega) | (apply w_maxG; rfl; rfl; rfl; omega) | (apply w_max; rfl; rfl; rfl) | (apply w_neB; rfl; rfl; rfl; rfl) | (apply w_eqB; rfl; rfl; rfl; rfl) | (apply w_strA; rfl; rfl; rfl; first | omega | (simp only [List.length_append, List.length_cons, List.length_nil]; omega)) | (apply w_strET; rfl; rfl; rfl; assumption) | (apply w_strEF; rfl; rfl; rfl; assumption) | (apply w_strNF; rfl; rfl; rfl; assumption) | (apply w_strNT; rfl; rfl; rfl; assumption) | (apply w_strE; rfl; rfl; rfl; rfl) | (apply w_strN; rfl; rfl; rfl; rfl) | (apply w_strL; rfl; rfl) | refine spl ?_ ?_ | intro hc)
      all_goals first | (exfalso; omega) | skip
      all_goals (refine At_ret1 (by (first | exact .inl rfl | exact .inr rfl)) Tryd.results38 rfl ⟨by rfl, rfl⟩ (by (exact frm)))
    · rw [decide_eq_false (fun h => h1 h.2)]
      refine Fn1 Tryd.func38 rfl Tryd.ntmps38 rfl ?_
      (repeat' first | refine stp ?_ | intro v' hv' | intro (b : Nat) | (apply w_convU; rfl; rfl; omega; omega) | (apply w_convI; rfl; rfl; omega; omega) | (apply w_quoU; rfl; rfl; rfl; omega; omega; omega) | (apply w_remU; rfl; rfl; rfl; omega; omega) | (apply w_minL; rfl; rfl; rfl; omega) | (apply w_minG; rfl; rfl; rfl; omega) | (apply w_min; rfl; rfl; rfl) | (apply w_mfR; rfl; rfl) | (apply w_cvp; rfl; rfl; exact inferInstance; rfl; rfl; assumption) | (apply w_eqS2T; rfl; rfl; rfl; omega) | (apply w_eqS2F; rfl; rfl; rfl; omega) | (apply w_neS2T; rfl; rfl; rfl; omega) | (apply w_neS2F; rfl; rfl; rfl; omega) | (apply w_eqS3T; rfl; rfl; rfl; omega) | (apply w_eqS3F; rfl; rfl; rfl; omega) | (apply w_neS3T; rfl; rfl; rfl; omega) | (apply w_neS3F; rfl; rfl; rfl; omega) | (apply w_eqS3; rfl; rfl; rfl) | (apply w_neS3; rfl; rfl; rfl) | (apply w_eqS2; rfl; rfl; rfl) | (apply w_neS2; rfl; rfl; rfl) | (apply w_maxL; rfl; rfl; rfl; omega) | (apply w_maxG; rfl; rfl; rfl; omega) | (apply w_max; rfl; rfl; rfl) | (apply w_neB; rfl; rfl; rfl; rfl) | (apply w_eqB; rfl; rfl; rfl; rfl) | (apply w_strA; rfl; rfl; rfl; first | omega | (simp only [List.length_append, List.length_cons, List.length_nil]; omega)) | (apply w_strET; rfl; rfl; rfl; assumption) | (apply w_strEF; rfl; rfl; rfl; assumption) | (apply w_strNF; rfl; rfl; rfl; assumption) | (apply w_strNT; rfl; rfl; rfl; assumption) | (apply w_strE; rfl; rfl; rfl; rfl) | (apply w_strN; rfl; rfl; rfl; rfl) | (apply w_strL; rfl; rfl) | refine spl ?_ ?_ | intro hc)
      all_goals first | (exfalso; omega) | skip
      all_goals (refine At_ret1 (by (first | exact .inl rfl | exact .inr rfl)) Tryd.results38 rfl ⟨by rfl, rfl⟩ (by (exact frm)))
  · rw [decide_eq_false (fun h => h0 h.1)]
    refine Fn1 Tryd.func38 rfl Tryd.ntmps38 rfl ?_
    (repeat' first | refine stp ?_ | intro v' hv' | intro (b : Nat) | (apply w_convU; rfl; rfl; omega; omega) | (apply w_convI; rfl; rfl; omega; omega) | (apply w_quoU; rfl; rfl; rfl; omega; omega; omega) | (apply w_remU; rfl; rfl; rfl; omega; omega) | (apply w_minL; rfl; rfl; rfl; omega) | (apply w_minG; rfl; rfl; rfl; omega) | (apply w_min; rfl; rfl; rfl) | (apply w_mfR; rfl; rfl) | (apply w_cvp; rfl; rfl; exact inferInstance; rfl; rfl; assumption) | (apply w_eqS2T; rfl; rfl; rfl; omega) | (apply w_eqS2F; rfl; rfl; rfl; omega) | (apply w_neS2T; rfl; rfl; rfl; omega) | (apply w_neS2F; rfl; rfl; rfl; omega) | (apply w_eqS3T; rfl; rfl; rfl; omega) | (apply w_eqS3F; rfl; rfl; rfl; omega) | (apply w_neS3T; rfl; rfl; rfl; omega) | (apply w_neS3F; rfl; rfl; rfl; omega) | (apply w_eqS3; rfl; rfl; rfl) | (apply w_neS3; rfl; rfl; rfl) | (apply w_eqS2; rfl; rfl; rfl) | (apply w_neS2; rfl; rfl; rfl) | (apply w_maxL; rfl; rfl; rfl; omega) | (apply w_maxG; rfl; rfl; rfl; omega) | (apply w_max; rfl; rfl; rfl) | (apply w_neB; rfl; rfl; rfl; rfl) | (apply w_eqB; rfl; rfl; rfl; rfl) | (apply w_strA; rfl; rfl; rfl; first | omega | (simp only [List.length_append, List.length_cons, List.length_nil]; omega)) | (apply w_strET; rfl; rfl; rfl; assumption) | (apply w_strEF; rfl; rfl; rfl; assumption) | (apply w_strNF; rfl; rfl; rfl; assumption) | (apply w_strNT; rfl; rfl; rfl; assumption) | (apply w_strE; rfl; rfl; rfl; rfl) | (apply w_strN; rfl; rfl; rfl; rfl) | (apply w_strL; rfl; rfl) | refine spl ?_ ?_ | intro hc)
    all_goals first | (exfalso; omega) | skip
    all_goals (refine At_ret1 (by (first | exact .inl rfl | exact .inr rfl)) Tryd.results38 rfl ⟨by rfl, rfl⟩ (by (exact frm)))
theorem flag_ok (c : Bool) (R : List HP) : Called Tryd.prog 36 [.bool c] R (is (int (flB c)) R) := by
  cases c with
  | true =>
    refine Fn1 Tryd.func36 rfl Tryd.ntmps36 rfl ?_
    (repeat' first | refine stp ?_ | intro v' hv' | intro (b : Nat) | (apply w_convU; rfl; rfl; omega; omega) | (apply w_convI; rfl; rfl; omega; omega) | (apply w_quoU; rfl; rfl; rfl; omega; omega; omega) | (apply w_remU; rfl; rfl; rfl; omega; omega) | (apply w_minL; rfl; rfl; rfl; omega) | (apply w_minG; rfl; rfl; rfl; omega) | (apply w_min; rfl; rfl; rfl) | (apply w_mfR; rfl; rfl) | (apply w_cvp; rfl; rfl; exact inferInstance; rfl; rfl; assumption) | (apply w_eqS2T; rfl; rfl; rfl; omega) | (apply w_eqS2F; rfl; rfl; rfl; omega) | (apply w_neS2T; rfl; rfl; rfl; omega) | (apply w_neS2F; rfl; rfl; rfl; omega) | (apply w_eqS3T; rfl; rfl; rfl; omega) | (apply w_eqS3F; rfl; rfl; rfl; omega) | (apply w_neS3T; rfl; rfl; rfl; omega) | (apply w_neS3F; rfl; rfl; rfl; omega) | (apply w_eqS3; rfl; rfl; rfl) | (apply w_neS3; rfl; rfl; rfl) | (apply w_eqS2; rfl; rfl; rfl) | (apply w_neS2; rfl; rfl; rfl) | (apply w_maxL; rfl; rfl; rfl; omega) | (apply w_maxG; rfl; rfl; rfl; omega) | (apply w_max; rfl; rfl; rfl) | (apply w_neB; rfl; rfl; rfl; rfl) | (apply w_eqB; rfl; rfl; rfl; rfl) | (apply w_strA; rfl; rfl; rfl; first | omega | (simp only [List.length_append, List.length_cons, List.length_nil]; omega)) | (apply w_strET; rfl; rfl; rfl; assumption) | (apply w_strEF; rfl; rfl; rfl; assumption) | (apply w_strNF; rfl; rfl; rfl; assumption) | (apply w_strNT; rfl; rfl; rfl; assumption) | (apply w_strE; rfl; rfl; rfl; rfl) | (apply w_strN; rfl; rfl; rfl; rfl) | (apply w_strL; rfl; rfl) | refine spl ?_ ?_ | intro hc)
    all_goals (refine At_ret1 (by (first | exact .inl rfl | exact .inr rfl)) Tryd.results36 rfl ⟨by rfl, rfl⟩ (by (exact frm)))
  | false =>
    refine Fn1 Tryd.func36 rfl Tryd.ntmps36 rfl ?_
    (repeat' first | refine stp ?_ | intro v' hv' | intro (b : Nat) | (apply w_convU; rfl; rfl; omega; omega) | (apply w_convI; rfl; rfl; omega; omega) | (apply w_quoU; rfl; rfl; rfl; omega; omega; omega) | (apply w_remU; rfl; rfl; rfl; omega; omega) | (apply w_minL; rfl; rfl; rfl; omega) | (apply w_minG; rfl; rfl; rfl; omega) | (apply w_min; rfl; rfl; rfl) | (apply w_mfR; rfl; rfl) | (apply w_cvp; rfl; rfl; exact inferInstance; rfl; rfl; assumption) | (apply w_eqS2T; rfl; rfl; rfl; omega) | (apply w_eqS2F; rfl; rfl; rfl; omega) | (apply w_neS2T; rfl; rfl; rfl; omega) | (apply w_neS2F; rfl; rfl; rfl; omega) | (apply w_eqS3T; rfl; rfl; rfl; omega) | (apply w_eqS3F; rfl; rfl; rfl; omega) | (apply w_neS3T; rfl; rfl; rfl; omega) | (apply w_neS3F; rfl; rfl; rfl; omega) | (apply w_eqS3; rfl; rfl; rfl) | (apply w_neS3; rfl; rfl; rfl) | (apply w_eqS2; rfl; rfl; rfl) | (apply w_neS2; rfl; rfl; rfl) | (apply w_maxL; rfl; rfl; rfl; omega) | (apply w_maxG; rfl; rfl; rfl; omega) | (apply w_max; rfl; rfl; rfl) | (apply w_neB; rfl; rfl; rfl; rfl) | (apply w_eqB; rfl; rfl; rfl; rfl) | (apply w_strA; rfl; rfl; rfl; first | omega | (simp only [List.length_append, List.length_cons, List.length_nil]; omega)) | (apply w_strET; rfl; rfl; rfl; assumption) | (apply w_strEF; rfl; rfl; rfl; assumption) | (apply w_strNF; rfl; rfl; rfl; assumption) | (apply w_strNT; rfl; rfl; rfl; assumption) | (apply w_strE; rfl; rfl; rfl; rfl) | (apply w_strN; rfl; rfl; rfl; rfl) | (apply w_strL; rfl; rfl) | refine spl ?_ ?_ | intro hc)
    all_goals (refine At_ret1 (by (first | exact .inl rfl | exact .inr rfl)) Tryd.results36 rfl ⟨by rfl, rfl⟩ (by (exact frm)))
/-! ### Programs in rows -/
/-- Programs, each of an array of its own. -/
def rowsT (E : TypeId) : List Value → List (List Ins) → HP
  | u :: us, h :: hs => all [sl E 2 u (h.map insE), rowsT E us hs]
  | _, _ => emp
theorem rowsT_snoc {E : TypeId} {us : List Value} {hs : List (List Ins)} {u : Value} {h : List Ins} {w : World} {R : List HP} (he : us.length = hs.length) (hw : Sat w (rowsT E us hs :: sl E 2 u (h.map insE) :: R)) : Sat w (rowsT E (us ++ [u]) (hs ++ [h]) :: R) := by
  induction us generalizing hs w R with
  | nil =>
    cases hs with
    | nil =>
      refine Sat.all_iff.2 ?_
      exact (hw.perm (.swap ..))
    | cons _ _ => simp at he
  | cons u' us ih =>
    cases hs with
    | nil => simp at he
    | cons h' hs =>
      have h1 : Sat w (sl E 2 u' (h'.map insE) :: rowsT E us hs :: sl E 2 u (h.map insE) :: R) := Sat.all_iff.1 hw
      have h2 := ih (hs := hs) (w := w) (R := sl E 2 u' (h'.map insE) :: R) (by simpa using he) (Sel.sat (by (focus ((repeat (first | exact Sel.refl | (apply Sel.cons; (focus ((repeat (first | exact Del.here | apply Del.there)); done))) | refine Sel.drop ?_)); done))) h1)
      refine Sat.all_iff.2 ?_
      exact (h2.perm (.swap ..))
theorem rowsT_sl {E : TypeId} {us : List Value} {hs : List (List Ins)} {w : World} {R : List HP} (hw : Sat w (rowsT E us hs :: R)) {i : Nat} {u : Value} {h : List Ins} (hu : us[i]? = some u) (hh : hs[i]? = some h) : ∃ X, Sat w (sl E 2 u (h.map insE) :: X) := by
  induction us generalizing hs w R i with
  | nil => simp at hu
  | cons u' us ih =>
    cases hs with
    | nil => simp at hh
    | cons h' hs =>
      have h1 : Sat w (sl E 2 u' (h'.map insE) :: rowsT E us hs :: R) := Sat.all_iff.1 hw
      cases i with
      | zero =>
        simp at hu hh
        subst hu; subst hh
        exact ⟨_, h1⟩
      | succ i => exact ih (hs := hs) h1.drop (by simpa using hu) (by simpa using hh)
theorem rowsT_in {E : TypeId} {us : List Value} {hs : List (List Ins)} {R : List HP} {i : Nat} {u : Value} {h : List Ins} (hu : us[i]? = some u) (hh : hs[i]? = some h) (hi : IsSl u h.length) : PrIn (rowsT E us hs :: R) u h :=
  ⟨hi, ⟨fun w hw => by
    obtain ⟨X, hx⟩ := rowsT_sl hw hu hh
    exact (Sep.Src.sl (E := E) (n := 2) (v := u) (cs := h.map insE) (L := X)).each w hx, fun w hw => by
    obtain ⟨X, hx⟩ := rowsT_sl hw hu hh
    exact (Sep.Src.sl (E := E) (n := 2) (v := u) (cs := h.map insE) (L := X)).out w hx⟩⟩
theorem rowsT_nil {E : TypeId} {w : World} {R : List HP} (hs : Sat w R) : Sat w (rowsT E [] [] :: R) := by
  unfold rowsT
  obtain ⟨ho, S, h⟩ := hs
  exact ⟨ho, S, fun _ => False, S, fun _ h => h, h, fun _ h => h.elim, fun b => by simp⟩
attribute [irreducible] rowsT
def uE (u : Value) : List Value := [u]
/-- Rows, of a slice of slices. -/
structure RowsOk (us : List Value) (hs : List (List Ins)) : Prop where
  len : us.length = hs.length
  isl : ∀ (i : Nat) (u : Value) (h : List Ins), us[i]? = some u → hs[i]? = some h → IsSl u h.length
theorem RowsOk.nil : RowsOk [] [] := ⟨rfl, fun i u h h1 => by simp at h1⟩
theorem RowsOk.snoc {us : List Value} {hs : List (List Ins)} (h : RowsOk us hs) {u : Value} {x : List Ins} (hu : IsSl u x.length) : RowsOk (us ++ [u]) (hs ++ [x]) := by
  refine ⟨by simp [h.len], fun i u' h' h1 h2 => ?_⟩
  rcases Nat.lt_or_ge i us.length with hi | hi
  · rw [List.getElem?_append_left hi] at h1
    rw [List.getElem?_append_left (by rw [← h.len]; exact hi)] at h2
    exact h.isl i u' h' h1 h2
  · rw [List.getElem?_append_right hi] at h1
    rw [List.getElem?_append_right (by rw [← h.len]; exact hi), ← h.len] at h2
    cases hk : i - us.length with
    | zero => rw [hk] at h1 h2; simp at h1 h2; subst h1; subst h2; exact hu
    | succ k => rw [hk] at h1; simp at h1
/-- A configuration that lies in R, its domains at v, its library at u. -/
structure CfIn (R : List HP) (v u : Value) (us : List Value) (c : Cfg) : Prop where
  dl : IsSl v c.ds.length
  dsrc : Sep.Src R v 3 (c.ds.map plE)
  ll : IsSl u c.lib.length
  ul : us.length = c.lib.length
  lsrc : Sep.Src R u 1 (us.map uE)
  pr : ∀ (i : Nat) (p : Value) (q : List Ins), us[i]? = some p → c.lib[i]? = some q → PrIn R p q
theorem CfIn.there {A : HP} {R : List HP} {v u : Value} {us : List Value} {c : Cfg} (h : CfIn R v u us c) : CfIn (A :: R) v u us c := ⟨h.dl, h.dsrc.there, h.ll, h.ul, h.lsrc.there, fun i p q h1 h2 => (h.pr i p q h1 h2).there⟩
theorem CfIn.und {A R : List HP} {b : Nat} {v u : Value} {us : List Value} {c : Cfg} (h : CfIn R v u us c) : CfIn (A ++ [und b R]) v u us c := ⟨h.dl, src_und h.dsrc, h.ll, h.ul, src_und h.lsrc, fun i p q h1 h2 => ⟨(h.pr i p q h1 h2).isl, src_und (h.pr i p q h1 h2).src⟩⟩
theorem CfIn.row {R : List HP} {v u : Value} {us : List Value} {c : Cfg} (h : CfIn R v u us c) {k : Nat} (hk : k < c.lib.length) : ∃ p, us[k]? = some p ∧ Rd R ⟨vb u, vo u + k * 1, none⟩ p ∧ PrIn R p c.lib[k] := by
  have hl := h.ul
  have hu : us[k]? = some (us[k]'(by omega)) := List.getElem?_eq_getElem (by omega)
  refine ⟨us[k]'(by omega), hu, ?_, h.pr k _ _ hu (by simp [hk])⟩
  have := Rd.src h.lsrc (i := k) (k := 0) (e := [us[k]'(by omega)]) (by rw [List.getElem?_map, hu]; rfl) rfl
  rwa [Nat.add_zero] at this
def cfE (v u : Value) (c : Cfg) : List Value := [v, int c.mu, int c.qu, u]
def fewP (c : Cfg) (R : List HP) (x : Value) (M : List HP) : Prop := ∃ b, x = .bool b ∧ (b = true → c.ds.length ≤ 9 ∧ c.lib.length ≤ 8 ∧ ∀ p ∈ c.lib, p.length ≤ 70) ∧ M = R
set_option maxHeartbeats 4000000 in
theorem few_ok (v u : Value) (us : List Value) (c : Cfg) (R : List HP) (h : CfIn R v u us c) : Called Tryd.prog 15 [.agg (cfE v u c).toArray] R (fewP c R) := by
  have hv := h.dl
  have hu := h.ll
  have hvN := hv.len
  have huN := hu.len
  unfold fewP
  obtain ⟨ds, mu, qu, lib⟩ := c
  unfold cfE
  dsimp only at *
  refine Fn1 Tryd.func15 rfl Tryd.ntmps15 rfl ?_
  (repeat' first | refine stp ?_ | intro v' hv' | intro (b : Nat) | (apply w_convU; rfl; rfl; omega; omega) | (apply w_convI; rfl; rfl; omega; omega) | (apply w_quoU; rfl; rfl; rfl; omega; omega; omega) | (apply w_remU; rfl; rfl; rfl; omega; omega) | (apply w_minL; rfl; rfl; rfl; omega) | (apply w_minG; rfl; rfl; rfl; omega) | (apply w_min; rfl; rfl; rfl) | (apply w_mfR; rfl; rfl) | (apply w_cvp; rfl; rfl; exact inferInstance; rfl; rfl; assumption) | (apply w_eqS2T; rfl; rfl; rfl; omega) | (apply w_eqS2F; rfl; rfl; rfl; omega) | (apply w_neS2T; rfl; rfl; rfl; omega) | (apply w_neS2F; rfl; rfl; rfl; omega) | (apply w_eqS3T; rfl; rfl; rfl; omega) | (apply w_eqS3F; rfl; rfl; rfl; omega) | (apply w_neS3T; rfl; rfl; rfl; omega) | (apply w_neS3F; rfl; rfl; rfl; omega) | (apply w_eqS3; rfl; rfl; rfl) | (apply w_neS3; rfl; rfl; rfl) | (apply w_eqS2; rfl; rfl; rfl) | (apply w_neS2; rfl; rfl; rfl) | (apply w_maxL; rfl; rfl; rfl; omega) | (apply w_maxG; rfl; rfl; rfl; omega) | (apply w_max; rfl; rfl; rfl) | (apply w_neB; rfl; rfl; rfl; rfl) | (apply w_eqB; rfl; rfl; rfl; rfl) | refine spl ?_ ?_ | intro hc)
  obtain ⟨bc, e1⟩ : ∃ r, r = b := ⟨_, rfl⟩
  subst e1
  refine C_loopK [2, 3, 4, 5, 6, 7, 8, 9, 10, 11, 12, 13, 14, 15, 16, 17, 18, 19, 20, 21, 22, 23, 24, 25, 26, 27, 28, 29, 30, 31, 32, 33, 34, 35, 36, 37, 38] (fun k : Nat => lib.length - k) (fun k => [(3, int k)]) (fun _ => pt bc 45 [v, int mu, int qu, u] :: R) (fun k => k ≤ lib.length ∧ ∀ p ∈ lib.take k, p.length ≤ 70) 0 ⟨Nat.zero_le _, by simp⟩ (by (focus ((repeat (first | exact Keep.nil | apply Keep.drop rfl | apply Keep.keep rfl)); done))) (by (exact sbf)) (by (exact frm)) ?_
  rintro k ⟨hk0, hz⟩
  dsimp only [List.cons_append, List.nil_append]
  by_cases hlt : k < lib.length
  · obtain ⟨p, hp, hrd, hpi⟩ := h.row (k := k) hlt
    have hrb : Rd (pt bc 45 [v, int mu, int qu, u] :: R) ⟨vb u, vo u + k * 1, none⟩ p := hrd.there
    have htk : lib.take (k + 1) = lib.take k ++ [lib[k]] := by rw [List.take_add_one]; simp [hlt]
    have hpl := hpi.isl
    have hps := hpi.src
    generalize lib[k] = q at *
    have hpN := hpl.len
    (repeat' first | refine stp ?_ | intro v' hv' | intro (b : Nat) | (apply w_convU; rfl; rfl; omega; omega) | (apply w_convI; rfl; rfl; omega; omega) | (apply w_quoU; rfl; rfl; rfl; omega; omega; omega) | (apply w_remU; rfl; rfl; rfl; omega; omega) | (apply w_minL; rfl; rfl; rfl; omega) | (apply w_minG; rfl; rfl; rfl; omega) | (apply w_min; rfl; rfl; rfl) | (apply w_mfR; rfl; rfl) | (apply w_cvp; rfl; rfl; exact inferInstance; rfl; rfl; assumption) | (apply w_eqS2T; rfl; rfl; rfl; omega) | (apply w_eqS2F; rfl; rfl; rfl; omega) | (apply w_neS2T; rfl; rfl; rfl; omega) | (apply w_neS2F; rfl; rfl; rfl; omega) | (apply w_eqS3T; rfl; rfl; rfl; omega) | (apply w_eqS3F; rfl; rfl; rfl; omega) | (apply w_neS3T; rfl; rfl; rfl; omega) | (apply w_neS3F; rfl; rfl; rfl; omega) | (apply w_eqS3; rfl; rfl; rfl) | (apply w_neS3; rfl; rfl; rfl) | (apply w_eqS2; rfl; rfl; rfl) | (apply w_neS2; rfl; rfl; rfl) | (apply w_maxL; rfl; rfl; rfl; omega) | (apply w_maxG; rfl; rfl; rfl; omega) | (apply w_max; rfl; rfl; rfl) | (apply w_neB; rfl; rfl; rfl; rfl) | (apply w_eqB; rfl; rfl; rfl; rfl) | refine spl ?_ ?_ | intro hc)
    refine C_loopK [2, 4, 12, 13, 14, 15, 16, 17, 18, 19, 20, 21, 22, 23, 24, 25, 26, 27, 28, 29, 30, 31] (fun j : Nat => q.length - j) (fun j => [(4, int j)]) (fun _ => pt bc 45 [v, int mu, int qu, u] :: R) (fun j => j ≤ q.length) 0 (Nat.zero_le _) (by (focus ((repeat (first | exact Keep.nil | apply Keep.drop rfl | apply Keep.keep rfl)); done))) (by (exact sbf)) (by (exact frm)) ?_
    intro j hj0
    dsimp only [List.cons_append, List.nil_append]
    by_cases hjl : j < q.length
    · have hr1 : Rd (pt bc 45 [v, int mu, int qu, u] :: R) ⟨vb p, vo p + j * 2 + 1, none⟩ (int q[j].n) := (Rd.src hps (i := j) (k := 1) (e := insE q[j]) (by simp [hjl]) rfl).there
      generalize q[j] = x at *
      obtain ⟨op, n⟩ := x
      dsimp only at *
      (repeat' first | refine stp ?_ | intro v' hv' | intro (b : Nat) | (apply w_convU; rfl; rfl; omega; omega) | (apply w_convI; rfl; rfl; omega; omega) | (apply w_quoU; rfl; rfl; rfl; omega; omega; omega) | (apply w_remU; rfl; rfl; rfl; omega; omega) | (apply w_minL; rfl; rfl; rfl; omega) | (apply w_minG; rfl; rfl; rfl; omega) | (apply w_min; rfl; rfl; rfl) | (apply w_mfR; rfl; rfl) | (apply w_cvp; rfl; rfl; exact inferInstance; rfl; rfl; assumption) | (apply w_eqS2T; rfl; rfl; rfl; omega) | (apply w_eqS2F; rfl; rfl; rfl; omega) | (apply w_neS2T; rfl; rfl; rfl; omega) | (apply w_neS2F; rfl; rfl; rfl; omega) | (apply w_eqS3T; rfl; rfl; rfl; omega) | (apply w_eqS3F; rfl; rfl; rfl; omega) | (apply w_neS3T; rfl; rfl; rfl; omega) | (apply w_neS3F; rfl; rfl; rfl; omega) | (apply w_eqS3; rfl; rfl; rfl) | (apply w_neS3; rfl; rfl; rfl) | (apply w_eqS2; rfl; rfl; rfl) | (apply w_neS2; rfl; rfl; rfl) | (apply w_maxL; rfl; rfl; rfl; omega) | (apply w_maxG; rfl; rfl; rfl; omega) | (apply w_max; rfl; rfl; rfl) | (apply w_neB; rfl; rfl; rfl; rfl) | (apply w_eqB; rfl; rfl; rfl; rfl) | refine spl ?_ ?_ | intro hc)
      all_goals first | (exfalso; omega) | skip
      all_goals first
        | exact At_againK (j + 1) hjl (by omega) (by (exact sbf)) (by (exact sbf)) (by (exact frm))
        | exact At_retR (vs := [.bool false]) (by (first | exact .inl rfl | exact .inr rfl)) Tryd.results15 (by (focus ((repeat (first | exact ResR.nil | (apply ResR.tmp; rfl) | (apply ResR.one; rfl; (focus ((repeat (first | assumption | exact .pt rfl | exact .sl ‹_› rfl | exact .sl1 (by first | assumption | rfl) | apply Rd.there)); done))) | (apply ResR.agg; rfl; (focus ((repeat (first | assumption | exact .pt | exact .sl ‹_› | apply RdAll.there)); done)); rfl))); done))) ⟨false, rfl, (fun h => by cases h), rfl⟩ (by (exact frm))
    · have hj' : j = q.length := by omega
      subst hj'
      (repeat' first | refine stp ?_ | intro v' hv' | intro (b : Nat) | (apply w_convU; rfl; rfl; omega; omega) | (apply w_convI; rfl; rfl; omega; omega) | (apply w_quoU; rfl; rfl; rfl; omega; omega; omega) | (apply w_remU; rfl; rfl; rfl; omega; omega) | (apply w_minL; rfl; rfl; rfl; omega) | (apply w_minG; rfl; rfl; rfl; omega) | (apply w_min; rfl; rfl; rfl) | (apply w_mfR; rfl; rfl) | (apply w_cvp; rfl; rfl; exact inferInstance; rfl; rfl; assumption) | (apply w_eqS2T; rfl; rfl; rfl; omega) | (apply w_eqS2F; rfl; rfl; rfl; omega) | (apply w_neS2T; rfl; rfl; rfl; omega) | (apply w_neS2F; rfl; rfl; rfl; omega) | (apply w_eqS3T; rfl; rfl; rfl; omega) | (apply w_eqS3F; rfl; rfl; rfl; omega) | (apply w_neS3T; rfl; rfl; rfl; omega) | (apply w_neS3F; rfl; rfl; rfl; omega) | (apply w_eqS3; rfl; rfl; rfl) | (apply w_neS3; rfl; rfl; rfl) | (apply w_eqS2; rfl; rfl; rfl) | (apply w_neS2; rfl; rfl; rfl) | (apply w_maxL; rfl; rfl; rfl; omega) | (apply w_maxG; rfl; rfl; rfl; omega) | (apply w_max; rfl; rfl; rfl) | (apply w_neB; rfl; rfl; rfl; rfl) | (apply w_eqB; rfl; rfl; rfl; rfl) | refine spl ?_ ?_ | intro hc)
      all_goals first | (exfalso; omega) | skip
      all_goals first
        | (refine At_againK (k + 1) ⟨hlt, fun y hy => ?_⟩ (by omega) (by (exact sbf)) (by (exact sbf)) (by (exact frm))
           rw [htk] at hy
           rcases List.mem_append.1 hy with hy | hy
           · exact hz y hy
           · rw [List.mem_singleton] at hy; subst hy; omega)
        | exact At_retR (vs := [.bool false]) (by (first | exact .inl rfl | exact .inr rfl)) Tryd.results15 (by (focus ((repeat (first | exact ResR.nil | (apply ResR.tmp; rfl) | (apply ResR.one; rfl; (focus ((repeat (first | assumption | exact .pt rfl | exact .sl ‹_› rfl | exact .sl1 (by first | assumption | rfl) | apply Rd.there)); done))) | (apply ResR.agg; rfl; (focus ((repeat (first | assumption | exact .pt | exact .sl ‹_› | apply RdAll.there)); done)); rfl))); done))) ⟨false, rfl, (fun h => by cases h), rfl⟩ (by (exact frm))
  · have hk' : k = lib.length := by omega
    subst hk'
    rw [List.take_length] at hz
    (repeat' first | refine stp ?_ | intro v' hv' | intro (b : Nat) | (apply w_convU; rfl; rfl; omega; omega) | (apply w_convI; rfl; rfl; omega; omega) | (apply w_quoU; rfl; rfl; rfl; omega; omega; omega) | (apply w_remU; rfl; rfl; rfl; omega; omega) | (apply w_minL; rfl; rfl; rfl; omega) | (apply w_minG; rfl; rfl; rfl; omega) | (apply w_min; rfl; rfl; rfl) | (apply w_mfR; rfl; rfl) | (apply w_cvp; rfl; rfl; exact inferInstance; rfl; rfl; assumption) | (apply w_eqS2T; rfl; rfl; rfl; omega) | (apply w_eqS2F; rfl; rfl; rfl; omega) | (apply w_neS2T; rfl; rfl; rfl; omega) | (apply w_neS2F; rfl; rfl; rfl; omega) | (apply w_eqS3T; rfl; rfl; rfl; omega) | (apply w_eqS3F; rfl; rfl; rfl; omega) | (apply w_neS3T; rfl; rfl; rfl; omega) | (apply w_neS3F; rfl; rfl; rfl; omega) | (apply w_eqS3; rfl; rfl; rfl) | (apply w_neS3; rfl; rfl; rfl) | (apply w_eqS2; rfl; rfl; rfl) | (apply w_neS2; rfl; rfl; rfl) | (apply w_maxL; rfl; rfl; rfl; omega) | (apply w_maxG; rfl; rfl; rfl; omega) | (apply w_max; rfl; rfl; rfl) | (apply w_neB; rfl; rfl; rfl; rfl) | (apply w_eqB; rfl; rfl; rfl; rfl) | refine spl ?_ ?_ | intro hc)
    all_goals first | (exfalso; omega) | skip
    all_goals refine At_retR (vs := [.bool _]) (by (first | exact .inl rfl | exact .inr rfl)) Tryd.results15 (by (focus ((repeat (first | exact ResR.nil | (apply ResR.tmp; rfl) | (apply ResR.one; rfl; (focus ((repeat (first | assumption | exact .pt rfl | exact .sl ‹_› rfl | exact .sl1 (by first | assumption | rfl) | apply Rd.there)); done))) | (apply ResR.agg; rfl; (focus ((repeat (first | assumption | exact .pt | exact .sl ‹_› | apply RdAll.there)); done)); rfl))); done))) ⟨_, rfl, fun h => ?_, rfl⟩ (by (exact frm))
    all_goals first | (simp at h; done) | skip
    all_goals first | (exact ⟨by omega, by omega, hz⟩) | (simp at h; exact ⟨by omega, by omega, hz⟩)
def libP (lib : List (List Ins)) (R : List HP) (u : Value) (M : List HP) : Prop := ∃ us, RowsOk us lib ∧ IsSl u us.length ∧ M = sl 93 1 u (us.map uE) :: rowsT 112 us lib :: R
set_option maxHeartbeats 4000000 in
theorem library_ok (v u : Value) (us : List Value) (c : Cfg) (R : List HP) (h : CfIn R v u us c) (hc : c.lib.length ≤ 100) (hq : ∀ p ∈ c.lib, p.length ≤ 100) : Called Tryd.prog 18 [u] R (libP c.lib R) := by
  have hu := h.ll
  have huN := hu.len
  have hPl : True := trivial
  unfold libP
  obtain ⟨ds, mu, qu, lib⟩ := c
  dsimp only at *
  refine Fn1 Tryd.func18 rfl Tryd.ntmps18 rfl ?_
  (repeat' first | refine stp ?_ | intro v' hv' | intro (b : Nat) | (apply w_convU; rfl; rfl; omega; omega) | (apply w_convI; rfl; rfl; omega; omega) | (apply w_quoU; rfl; rfl; rfl; omega; omega; omega) | (apply w_remU; rfl; rfl; rfl; omega; omega) | (apply w_minL; rfl; rfl; rfl; omega) | (apply w_minG; rfl; rfl; rfl; omega) | (apply w_min; rfl; rfl; rfl) | (apply w_mfR; rfl; rfl) | (apply w_cvp; rfl; rfl; exact inferInstance; rfl; rfl; assumption) | (apply w_eqS2T; rfl; rfl; rfl; omega) | (apply w_eqS2F; rfl; rfl; rfl; omega) | (apply w_neS2T; rfl; rfl; rfl; omega) | (apply w_neS2F; rfl; rfl; rfl; omega) | (apply w_eqS3T; rfl; rfl; rfl; omega) | (apply w_eqS3F; rfl; rfl; rfl; omega) | (apply w_neS3T; rfl; rfl; rfl; omega) | (apply w_neS3F; rfl; rfl; rfl; omega) | (apply w_eqS3; rfl; rfl; rfl) | (apply w_neS3; rfl; rfl; rfl) | (apply w_eqS2; rfl; rfl; rfl) | (apply w_neS2; rfl; rfl; rfl) | (apply w_maxL; rfl; rfl; rfl; omega) | (apply w_maxG; rfl; rfl; rfl; omega) | (apply w_max; rfl; rfl; rfl) | (apply w_neB; rfl; rfl; rfl; rfl) | (apply w_eqB; rfl; rfl; rfl; rfl) | (apply w_clM; rfl; rfl; exact hPl; (first | omega | (simp; omega) | simp); intro p2 hp2; refine ⟨by (exact kmf), ?_⟩) | refine spl ?_ ?_ | intro hc)
  refine C_loopK (α := Nat × Value × List Value) [3, 4, 5, 6, 7, 8, 9, 10, 11, 12, 13, 14, 15, 16, 17, 18] (fun x => lib.length - x.1) (fun x => [(4, int x.1), (3, x.2.1)]) (fun x => sl 93 1 x.2.1 (x.2.2.map uE) :: rowsT 112 x.2.2 (lib.take x.1) :: R) (fun x => x.1 ≤ lib.length ∧ RowsOk x.2.2 (lib.take x.1) ∧ IsSl x.2.1 x.2.2.length) (0, .slice none 0 0, []) ⟨Nat.zero_le _, RowsOk.nil, IsSl.nil⟩ (by (focus ((repeat (first | exact Keep.nil | apply Keep.drop rfl | apply Keep.keep rfl)); done))) (by (exact sbf)) (fun w hs => by
    have h1 : Sat w (rowsT 112 [] [] :: R) := rowsT_nil hs
    exact h1.sl_nil) ?_
  rintro ⟨k, o, ws⟩ ⟨hk0, hro, ho⟩
  dsimp only [List.cons_append, List.nil_append] at *
  have hwl := hro.len
  rw [List.length_take] at hwl
  by_cases hlt : k < lib.length
  · obtain ⟨p, hp, hrd, hpi⟩ := h.row (k := k) hlt
    have hrb : Rd (sl 93 1 o (ws.map uE) :: rowsT 112 ws (lib.take k) :: R) ⟨vb u, vo u + k * 1, none⟩ p := hrd.there.there
    have htk : lib.take (k + 1) = lib.take k ++ [lib[k]] := by rw [List.take_add_one]; simp [hlt]
    have hql := hq _ (List.getElem_mem hlt)
    clear hPl
    have hPl := Plain_ok p lib[k] (sl 93 1 o (ws.map uE) :: rowsT 112 ws (lib.take k) :: R) hpi.there.there (by omega)
    have hpl := hpi.isl
    generalize lib[k] = q at *
    (repeat' first | refine stp ?_ | intro v' hv' | intro (b : Nat) | (apply w_convU; rfl; rfl; omega; omega) | (apply w_convI; rfl; rfl; omega; omega) | (apply w_quoU; rfl; rfl; rfl; omega; omega; omega) | (apply w_remU; rfl; rfl; rfl; omega; omega) | (apply w_minL; rfl; rfl; rfl; omega) | (apply w_minG; rfl; rfl; rfl; omega) | (apply w_min; rfl; rfl; rfl) | (apply w_mfR; rfl; rfl) | (apply w_cvp; rfl; rfl; exact inferInstance; rfl; rfl; assumption) | (apply w_eqS2T; rfl; rfl; rfl; omega) | (apply w_eqS2F; rfl; rfl; rfl; omega) | (apply w_neS2T; rfl; rfl; rfl; omega) | (apply w_neS2F; rfl; rfl; rfl; omega) | (apply w_eqS3T; rfl; rfl; rfl; omega) | (apply w_eqS3F; rfl; rfl; rfl; omega) | (apply w_neS3T; rfl; rfl; rfl; omega) | (apply w_neS3F; rfl; rfl; rfl; omega) | (apply w_eqS3; rfl; rfl; rfl) | (apply w_neS3; rfl; rfl; rfl) | (apply w_eqS2; rfl; rfl; rfl) | (apply w_neS2; rfl; rfl; rfl) | (apply w_maxL; rfl; rfl; rfl; omega) | (apply w_maxG; rfl; rfl; rfl; omega) | (apply w_max; rfl; rfl; rfl) | (apply w_neB; rfl; rfl; rfl; rfl) | (apply w_eqB; rfl; rfl; rfl; rfl) | (apply w_clM; rfl; rfl; exact hPl; (first | omega | (simp; omega) | simp); intro p2 hp2; refine ⟨by (exact kmf), ?_⟩) | refine spl ?_ ?_ | intro hc)
    apply w_ap (es := [uE p2])
    rfl; rfl; rfl; ((focus ((repeat (first | exact Del.here | apply Del.there)); done))); ((exact srf)); (first | rfl | (simp [uE, hp2.one])); (simp; omega); (simp; omega)
    intro o2 ho2
    refine ⟨by (exact kmf), ?_⟩
    have ho3 : IsSl o2 (ws ++ [p2]).length := by simpa using ho2
    have hp3 : IsSl p2 q.length := by simpa using hp2
    (repeat' first | refine stp ?_ | intro v' hv' | intro (b : Nat) | (apply w_convU; rfl; rfl; omega; omega) | (apply w_convI; rfl; rfl; omega; omega) | (apply w_quoU; rfl; rfl; rfl; omega; omega; omega) | (apply w_remU; rfl; rfl; rfl; omega; omega) | (apply w_minL; rfl; rfl; rfl; omega) | (apply w_minG; rfl; rfl; rfl; omega) | (apply w_min; rfl; rfl; rfl) | (apply w_mfR; rfl; rfl) | (apply w_cvp; rfl; rfl; exact inferInstance; rfl; rfl; assumption) | (apply w_eqS2T; rfl; rfl; rfl; omega) | (apply w_eqS2F; rfl; rfl; rfl; omega) | (apply w_neS2T; rfl; rfl; rfl; omega) | (apply w_neS2F; rfl; rfl; rfl; omega) | (apply w_eqS3T; rfl; rfl; rfl; omega) | (apply w_eqS3F; rfl; rfl; rfl; omega) | (apply w_neS3T; rfl; rfl; rfl; omega) | (apply w_neS3F; rfl; rfl; rfl; omega) | (apply w_eqS3; rfl; rfl; rfl) | (apply w_neS3; rfl; rfl; rfl) | (apply w_eqS2; rfl; rfl; rfl) | (apply w_neS2; rfl; rfl; rfl) | (apply w_maxL; rfl; rfl; rfl; omega) | (apply w_maxG; rfl; rfl; rfl; omega) | (apply w_max; rfl; rfl; rfl) | (apply w_neB; rfl; rfl; rfl; rfl) | (apply w_eqB; rfl; rfl; rfl; rfl) | (apply w_clM; rfl; rfl; exact hPl; (first | omega | (simp; omega) | simp); intro p2 hp2; refine ⟨by (exact kmf), ?_⟩) | refine spl ?_ ?_ | intro hc)
    refine At_againK (k + 1, o2, ws ++ [p2]) ⟨hlt, by show RowsOk (ws ++ [p2]) (lib.take (k + 1)); rw [htk]; exact hro.snoc hp3, ho3⟩ (by show lib.length - (k + 1) < lib.length - k; omega) (by (exact sbf)) (by (exact sbf)) (fun w hs => ?_)
    have h1 : Sat w (rowsT 112 ws (lib.take k) :: sl 112 2 p2 (q.map insE) :: sl 93 1 o2 (ws.map uE ++ [uE p2]) :: R) := Sel.sat (by (focus ((repeat (first | exact Sel.refl | (apply Sel.cons; (focus ((repeat (first | exact Del.here | apply Del.there)); done))) | refine Sel.drop ?_)); done))) hs
    have h2 := rowsT_snoc (by rw [hro.len]) h1
    show Sat w (sl 93 1 o2 ((ws ++ [p2]).map uE) :: rowsT 112 (ws ++ [p2]) (lib.take (k + 1)) :: R)
    rw [htk, List.map_append]
    exact h2.perm (.swap ..)
  · have hk' : k = lib.length := by omega
    subst hk'
    rw [List.take_length] at *
    (repeat' first | refine stp ?_ | intro v' hv' | intro (b : Nat) | (apply w_convU; rfl; rfl; omega; omega) | (apply w_convI; rfl; rfl; omega; omega) | (apply w_quoU; rfl; rfl; rfl; omega; omega; omega) | (apply w_remU; rfl; rfl; rfl; omega; omega) | (apply w_minL; rfl; rfl; rfl; omega) | (apply w_minG; rfl; rfl; rfl; omega) | (apply w_min; rfl; rfl; rfl) | (apply w_mfR; rfl; rfl) | (apply w_cvp; rfl; rfl; exact inferInstance; rfl; rfl; assumption) | (apply w_eqS2T; rfl; rfl; rfl; omega) | (apply w_eqS2F; rfl; rfl; rfl; omega) | (apply w_neS2T; rfl; rfl; rfl; omega) | (apply w_neS2F; rfl; rfl; rfl; omega) | (apply w_eqS3T; rfl; rfl; rfl; omega) | (apply w_eqS3F; rfl; rfl; rfl; omega) | (apply w_neS3T; rfl; rfl; rfl; omega) | (apply w_neS3F; rfl; rfl; rfl; omega) | (apply w_eqS3; rfl; rfl; rfl) | (apply w_neS3; rfl; rfl; rfl) | (apply w_eqS2; rfl; rfl; rfl) | (apply w_neS2; rfl; rfl; rfl) | (apply w_maxL; rfl; rfl; rfl; omega) | (apply w_maxG; rfl; rfl; rfl; omega) | (apply w_max; rfl; rfl; rfl) | (apply w_neB; rfl; rfl; rfl; rfl) | (apply w_eqB; rfl; rfl; rfl; rfl) | (apply w_clM; rfl; rfl; exact hPl; (first | omega | (simp; omega) | simp); intro p2 hp2; refine ⟨by (exact kmf), ?_⟩) | refine spl ?_ ?_ | intro hc)
    all_goals exact At_retR (vs := [o]) (by (first | exact .inl rfl | exact .inr rfl)) Tryd.results18 (by (focus ((repeat (first | exact ResR.nil | (apply ResR.tmp; rfl) | (apply ResR.one; rfl; (focus ((repeat (first | assumption | exact .pt rfl | exact .sl ‹_› rfl | exact .sl1 (by first | assumption | rfl) | apply Rd.there)); done))) | (apply ResR.agg; rfl; (focus ((repeat (first | assumption | exact .pt | exact .sl ‹_› | apply RdAll.there)); done)); rfl))); done))) ⟨ws, hro, ho, rfl⟩ (by (exact frm))
end Go.Proofs.YteggkdlgailfoaaDoor
