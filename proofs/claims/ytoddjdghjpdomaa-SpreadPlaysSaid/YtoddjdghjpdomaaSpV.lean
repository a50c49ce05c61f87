/- SpreadPlays: the document's Put, Drop, Rekey: the walks. Conditions: none. -/
import Derived.Test.YtoddjdghjpdomaaSpU
set_option linter.all false
set_option linter.deprecated false
namespace Go.Proofs.Ytoddjdghjpdomaa
open Go.Sep
variable [B0 : Base]
def ansR (mvs : List Mv) (e : Int) (H : HP) (R : List HP) : Value → List HP → Prop := fun u X => ∃ v, u = .tuple #[v, int e] ∧ IsSl v mvs.length ∧ X = sl 82 3 v (mvs.map mvE) :: H :: R
def putL (M : List Wk) (L : List Sv) (k : Ky) (home : Int) : List Sv := if (putM M k home).1.2 ≠ 0 then L else stL (addW M home.toNat k) (L.set k.id.toNat ⟨true, k, home, false⟩)
def dropL (M : List Wk) (L : List Sv) (n : Int) : List Sv := if (dropM M n).1.2 ≠ 0 then L else stL (takeM M n 0).2 (L.set n.toNat sv0)
def rekeyL (M : List Wk) (L : List Sv) (n t : Int) : List Sv := if (rekeyM M n t).1.2 ≠ 0 then L else stL (backW (takeM M n t).2 (takeM M n t).1.1.1.toNat (takeM M n t).1.1.2 ⟨t, n⟩) (L.set n.toNat ⟨true, ⟨t, n⟩, (takeM M n t).1.1.1, (takeM M n t).1.1.2⟩)
theorem rel_settle {M : List Wk} {L : List Sv} (hw : WfS M) (h : RelS M L) : RelS (settleM M).2 (stL M L) := by
  unfold settleM
  cases hs : stepM M with
  | none => have : stL M L = L := by unfold stL; rw [hs]
            rw [this]; exact h
  | some p => obtain ⟨m, M'⟩ := p; exact rel_step hw h hs
theorem rel_putM {M : List Wk} {L : List Sv} (hI : InvS M) (h : RelS M L) (k : Ky) (home : Int) : RelS (putM M k home).2 (putL M L k home) := by
  obtain ⟨-, h2, h3⟩ := put_inv hI k home
  unfold putL
  by_cases he : (putM M k home).1.2 = 0
  · rw [if_neg (by simpa using he)]
    obtain ⟨a, b, c, d, e, e1, -⟩ := h3 he
    obtain ⟨hm, rfl⟩ := Int.eq_ofNat_of_zero_le b
    rw [e1, Int.toNat_natCast]
    exact rel_settle (hI.wf.add (by omega) a d) (rel_put h hI.wf (by omega) a d)
  · rw [if_pos he, h2 he]; exact h
theorem rel_dropM {M : List Wk} {L : List Sv} (hI : InvS M) (h : RelS M L) (n : Int) : RelS (dropM M n).2 (dropL M L n) := by
  obtain ⟨-, k2⟩ := take_k hI.wf n 0
  unfold dropL dropM
  by_cases he : (takeM M n 0).1.2 = 0
  · rw [if_neg (by simpa using he)]
    obtain ⟨-, w, ran, y, -, -, ht⟩ := k2 he
    rw [if_neg (by simp)]
    exact rel_settle ht.wf (rel_drop h hI.wf ht).1
  · rw [if_pos he, if_pos he]; exact h
theorem rel_rekeyM {M : List Wk} {L : List Sv} (hI : InvS M) (h : RelS M L) (n t : Int) : RelS (rekeyM M n t).2 (rekeyL M L n t) := by
  obtain ⟨-, k2⟩ := take_k hI.wf n t
  unfold rekeyL rekeyM
  by_cases he : (takeM M n t).1.2 = 0
  · rw [if_neg (by simpa using he)]
    obtain ⟨hk, w, ran, y, e1, -, ht⟩ := k2 he
    rw [if_neg (by simp), e1, Int.toNat_natCast]
    exact rel_settle (back_settle hI ht hk rfl).2.2.1 (rel_back h hI ht hk rfl)
  · rw [if_pos he, if_pos he]; exact h
theorem st_le (M : List Wk) : ((settleM M).1.map mvE).length ≤ 9223372036854775807 := by
  have := settle_le M
  rw [List.length_map]; omega
attribute [local irreducible] rcells
set_option maxHeartbeats 8000000 in
theorem rPut_ok (bx : Nat) (M : List Wk) (L : List Sv) (k : Ky) (home : Int) (hI : InvS M) (hR : RelS M L) (R : List HP) :
    Called Try.prog 30 [ptr bx, kyV k, int home] (rsb bx M.length L :: R) (ansR (putM M k home).1.1 (putM M k home).1.2 (rsb bx M.length (putL M L k home)) R) := by
  have hMy := rMay_ok k
  obtain ⟨-, -, hput⟩ := put_inv hI k home
  have hfew := hI.few
  obtain ⟨ka, ki⟩ := k
  unfold kyV kyE at hMy ⊢
  unfold ansR putL
  unfold putM at *
  dsimp only at *
  by_cases h1 : mayK ⟨ka, ki⟩ = false ∨ home < 0 ∨ (M.length : Int) ≤ home
  · rw [if_pos h1]
    rw [if_pos (show ((10 : Int) ≠ 0) by decide)]
    unfold rsb
    refine Fn3 Try.func30 rfl Try.ntmps30 rfl ?_
    by_cases hm : mayK ⟨ka, ki⟩ = false
    · rw [hm] at hMy
      (repeat' first | refine stp ?_ | intro v' hv' | intro (b : Nat) | (apply w_convU; rfl; rfl; omega; omega) | (apply w_convI; rfl; rfl; omega; omega) | (apply w_quoU; rfl; rfl; rfl; omega; omega; omega) | (apply w_remU; rfl; rfl; rfl; omega; omega) | (apply w_ld0; rfl; rfl; ((focus ((repeat (first | exact hr1 _ | exact hr2 _ | exact hr3 _ | exact Rd.svN | exact Rd.pt rfl | apply Rd.there)); done)))) | (apply w_ld; rfl; rfl; ((focus ((repeat (first | exact hr1 _ | exact hr2 _ | exact hr3 _ | exact Rd.svN | exact Rd.pt rfl | apply Rd.there)); done)))) | (apply w_st; rfl; rfl; rfl; ((focus ((repeat (first | exact hs1 _ | apply St.there)); done))); ((exact kmf))) | (apply w_sa; rfl; rfl; rfl; rfl; (focus ((repeat (first | exact hSa _ | apply StAll.there)); done)); ((exact kmf))) | (apply w_cp; rfl; rfl; exact hMy) | (apply w_minL; rfl; rfl; rfl; omega) | (apply w_minG; rfl; rfl; rfl; omega) | (apply w_min; rfl; rfl; rfl) | (apply w_mfR; rfl; rfl) | (apply w_cvp; rfl; rfl; exact inferInstance; rfl; rfl; assumption) | (apply w_eqS2T; rfl; rfl; rfl; omega) | (apply w_eqS2F; rfl; rfl; rfl; omega) | (apply w_neS2T; rfl; rfl; rfl; omega) | (apply w_neS2F; rfl; rfl; rfl; omega) | (apply w_eqS3T; rfl; rfl; rfl; omega) | (apply w_eqS3F; rfl; rfl; rfl; omega) | (apply w_neS3T; rfl; rfl; rfl; omega) | (apply w_neS3F; rfl; rfl; rfl; omega) | (apply w_eqS3; rfl; rfl; rfl) | (apply w_neS3; rfl; rfl; rfl) | (apply w_eqS2; rfl; rfl; rfl) | (apply w_neS2; rfl; rfl; rfl) | (apply w_maxL; rfl; rfl; rfl; omega) | (apply w_maxG; rfl; rfl; rfl; omega) | (apply w_max; rfl; rfl; rfl) | (apply w_neB; rfl; rfl; rfl; rfl) | (apply w_eqB; rfl; rfl; rfl; rfl) | refine spl ?_ ?_ | intro hc)
      refine At_ret2 (by (first | exact .inl rfl | exact .inr rfl)) Try.results30 rfl rfl ⟨.slice none 0 0, rfl, IsSl.nil, rfl⟩ (fun w hs => Sat.sl_nil (E := 82) (n := 3) (Sel.sat (by (focus ((repeat (first | exact Sel.refl | (apply Sel.cons; (focus ((repeat (first | exact Del.here | apply Del.there)); done))) | refine Sel.drop ?_)); done))) hs))
    · have hm : mayK ⟨ka, ki⟩ = true := by simpa using hm
      rw [hm] at hMy
      have h2 : home < 0 ∨ (M.length : Int) ≤ home := by
        rcases h1 with h | h | h
        · rw [hm] at h; cases h
        · exact .inl h
        · exact .inr h
      rcases h2 with h2 | h2
      · (repeat' first | refine stp ?_ | intro v' hv' | intro (b : Nat) | (apply w_convU; rfl; rfl; omega; omega) | (apply w_convI; rfl; rfl; omega; omega) | (apply w_quoU; rfl; rfl; rfl; omega; omega; omega) | (apply w_remU; rfl; rfl; rfl; omega; omega) | (apply w_ld0; rfl; rfl; ((focus ((repeat (first | exact hr1 _ | exact hr2 _ | exact hr3 _ | exact Rd.svN | exact Rd.pt rfl | apply Rd.there)); done)))) | (apply w_ld; rfl; rfl; ((focus ((repeat (first | exact hr1 _ | exact hr2 _ | exact hr3 _ | exact Rd.svN | exact Rd.pt rfl | apply Rd.there)); done)))) | (apply w_st; rfl; rfl; rfl; ((focus ((repeat (first | exact hs1 _ | apply St.there)); done))); ((exact kmf))) | (apply w_sa; rfl; rfl; rfl; rfl; (focus ((repeat (first | exact hSa _ | apply StAll.there)); done)); ((exact kmf))) | (apply w_cp; rfl; rfl; exact hMy) | (apply w_minL; rfl; rfl; rfl; omega) | (apply w_minG; rfl; rfl; rfl; omega) | (apply w_min; rfl; rfl; rfl) | (apply w_mfR; rfl; rfl) | (apply w_cvp; rfl; rfl; exact inferInstance; rfl; rfl; assumption) | (apply w_eqS2T; rfl; rfl; rfl; omega) | (apply w_eqS2F; rfl; rfl; rfl; omega) | (apply w_neS2T; rfl; rfl; rfl; omega) | (apply w_neS2F; rfl; rfl; rfl; omega) | (apply w_eqS3T; rfl; rfl; rfl; omega) | (apply w_eqS3F; rfl; rfl; rfl; omega) | (apply w_neS3T; rfl; rfl; rfl; omega) | (apply w_neS3F; rfl; rfl; rfl; omega) | (apply w_eqS3; rfl; rfl; rfl) | (apply w_neS3; rfl; rfl; rfl) | (apply w_eqS2; rfl; rfl; rfl) | (apply w_neS2; rfl; rfl; rfl) | (apply w_maxL; rfl; rfl; rfl; omega) | (apply w_maxG; rfl; rfl; rfl; omega) | (apply w_max; rfl; rfl; rfl) | (apply w_neB; rfl; rfl; rfl; rfl) | (apply w_eqB; rfl; rfl; rfl; rfl) | refine spl ?_ ?_ | intro hc)
        all_goals refine At_ret2 (by (first | exact .inl rfl | exact .inr rfl)) Try.results30 rfl rfl ⟨.slice none 0 0, rfl, IsSl.nil, rfl⟩ (fun w hs => Sat.sl_nil (E := 82) (n := 3) (Sel.sat (by (focus ((repeat (first | exact Sel.refl | (apply Sel.cons; (focus ((repeat (first | exact Del.here | apply Del.there)); done))) | refine Sel.drop ?_)); done))) hs))
      · have h3 : ¬ home < 0 := by omega
        (repeat' first | refine stp ?_ | intro v' hv' | intro (b : Nat) | (apply w_convU; rfl; rfl; omega; omega) | (apply w_convI; rfl; rfl; omega; omega) | (apply w_quoU; rfl; rfl; rfl; omega; omega; omega) | (apply w_remU; rfl; rfl; rfl; omega; omega) | (apply w_ld0; rfl; rfl; ((focus ((repeat (first | exact hr1 _ | exact hr2 _ | exact hr3 _ | exact Rd.svN | exact Rd.pt rfl | apply Rd.there)); done)))) | (apply w_ld; rfl; rfl; ((focus ((repeat (first | exact hr1 _ | exact hr2 _ | exact hr3 _ | exact Rd.svN | exact Rd.pt rfl | apply Rd.there)); done)))) | (apply w_st; rfl; rfl; rfl; ((focus ((repeat (first | exact hs1 _ | apply St.there)); done))); ((exact kmf))) | (apply w_sa; rfl; rfl; rfl; rfl; (focus ((repeat (first | exact hSa _ | apply StAll.there)); done)); ((exact kmf))) | (apply w_cp; rfl; rfl; exact hMy) | (apply w_minL; rfl; rfl; rfl; omega) | (apply w_minG; rfl; rfl; rfl; omega) | (apply w_min; rfl; rfl; rfl) | (apply w_mfR; rfl; rfl) | (apply w_cvp; rfl; rfl; exact inferInstance; rfl; rfl; assumption) | (apply w_eqS2T; rfl; rfl; rfl; omega) | (apply w_eqS2F; rfl; rfl; rfl; omega) | (apply w_neS2T; rfl; rfl; rfl; omega) | (apply w_neS2F; rfl; rfl; rfl; omega) | (apply w_eqS3T; rfl; rfl; rfl; omega) | (apply w_eqS3F; rfl; rfl; rfl; omega) | (apply w_neS3T; rfl; rfl; rfl; omega) | (apply w_neS3F; rfl; rfl; rfl; omega) | (apply w_eqS3; rfl; rfl; rfl) | (apply w_neS3; rfl; rfl; rfl) | (apply w_eqS2; rfl; rfl; rfl) | (apply w_neS2; rfl; rfl; rfl) | (apply w_maxL; rfl; rfl; rfl; omega) | (apply w_maxG; rfl; rfl; rfl; omega) | (apply w_max; rfl; rfl; rfl) | (apply w_neB; rfl; rfl; rfl; rfl) | (apply w_eqB; rfl; rfl; rfl; rfl) | refine spl ?_ ?_ | intro hc)
        all_goals refine At_ret2 (by (first | exact .inl rfl | exact .inr rfl)) Try.results30 rfl rfl ⟨.slice none 0 0, rfl, IsSl.nil, rfl⟩ (fun w hs => Sat.sl_nil (E := 82) (n := 3) (Sel.sat (by (focus ((repeat (first | exact Sel.refl | (apply Sel.cons; (focus ((repeat (first | exact Del.here | apply Del.there)); done))) | refine Sel.drop ?_)); done))) hs))
  rw [if_neg h1] at hput ⊢
  have hm : mayK ⟨ka, ki⟩ = true := by cases hm : mayK ⟨ka, ki⟩ with | true => rfl | false => exact absurd (.inl hm) h1
  rw [hm] at hMy
  have hh0 : 0 ≤ home := Int.not_lt.1 fun h => h1 (.inr (.inl h))
  have hh1 : home < M.length := Int.not_le.1 fun h => h1 (.inr (.inr h))
  clear h1
  obtain ⟨hm', rfl⟩ := Int.eq_ofNat_of_zero_le hh0
  have hhn : hm' < M.length := by omega
  obtain ⟨g0, g1, -, -⟩ := mayK_iff.1 hm
  dsimp only at g0 g1
  have hisf := is_find hR hI.wf g0 g1
  obtain ⟨nn, rfl⟩ := Int.eq_ofNat_of_zero_le g0
  rw [Int.toNat_natCast] at hisf ⊢
  have hkl : nn < L.length := by rw [hR.len]; omega
  have hr1 : ∀ R, Rd (pt bx 57 (rcells M.length L) :: R) ⟨bx, 0 + 1 + nn * 5 + 0, none⟩ (.bool (svA L nn).is) := fun R => Rd.sv (f := 0) hkl rfl
  rw [hisf] at hr1
  cases hf : findM M nn with
  | some p =>
    obtain ⟨w0, i0⟩ := p
    rw [hf] at hr1
    have hr1 : ∀ R, Rd (pt bx 57 (rcells M.length L) :: R) ⟨bx, 0 + 1 + nn * 5 + 0, none⟩ (.bool true) := hr1
    rw [if_pos (show (some (w0, i0)).isSome = true from rfl)]
    rw [if_pos (show ((15 : Int) ≠ 0) by decide)]
    unfold rsb
    refine Fn3 Try.func30 rfl Try.ntmps30 rfl ?_
    (repeat' first | refine stp ?_ | intro v' hv' | intro (b : Nat) | (apply w_convU; rfl; rfl; omega; omega) | (apply w_convI; rfl; rfl; omega; omega) | (apply w_quoU; rfl; rfl; rfl; omega; omega; omega) | (apply w_remU; rfl; rfl; rfl; omega; omega) | (apply w_ld0; rfl; rfl; ((focus ((repeat (first | exact hr1 _ | exact hr2 _ | exact hr3 _ | exact Rd.svN | exact Rd.pt rfl | apply Rd.there)); done)))) | (apply w_ld; rfl; rfl; ((focus ((repeat (first | exact hr1 _ | exact hr2 _ | exact hr3 _ | exact Rd.svN | exact Rd.pt rfl | apply Rd.there)); done)))) | (apply w_st; rfl; rfl; rfl; ((focus ((repeat (first | exact hs1 _ | apply St.there)); done))); ((exact kmf))) | (apply w_sa; rfl; rfl; rfl; rfl; (focus ((repeat (first | exact hSa _ | apply StAll.there)); done)); ((exact kmf))) | (apply w_cp; rfl; rfl; exact hMy) | (apply w_minL; rfl; rfl; rfl; omega) | (apply w_minG; rfl; rfl; rfl; omega) | (apply w_min; rfl; rfl; rfl) | (apply w_mfR; rfl; rfl) | (apply w_cvp; rfl; rfl; exact inferInstance; rfl; rfl; assumption) | (apply w_eqS2T; rfl; rfl; rfl; omega) | (apply w_eqS2F; rfl; rfl; rfl; omega) | (apply w_neS2T; rfl; rfl; rfl; omega) | (apply w_neS2F; rfl; rfl; rfl; omega) | (apply w_eqS3T; rfl; rfl; rfl; omega) | (apply w_eqS3F; rfl; rfl; rfl; omega) | (apply w_neS3T; rfl; rfl; rfl; omega) | (apply w_neS3F; rfl; rfl; rfl; omega) | (apply w_eqS3; rfl; rfl; rfl) | (apply w_neS3; rfl; rfl; rfl) | (apply w_eqS2; rfl; rfl; rfl) | (apply w_neS2; rfl; rfl; rfl) | (apply w_maxL; rfl; rfl; rfl; omega) | (apply w_maxG; rfl; rfl; rfl; omega) | (apply w_max; rfl; rfl; rfl) | (apply w_neB; rfl; rfl; rfl; rfl) | (apply w_eqB; rfl; rfl; rfl; rfl) | refine spl ?_ ?_ | intro hc)
    all_goals refine At_ret2 (by (first | exact .inl rfl | exact .inr rfl)) Try.results30 rfl rfl ⟨.slice none 0 0, rfl, IsSl.nil, rfl⟩ (fun w hs => Sat.sl_nil (E := 82) (n := 3) (Sel.sat (by (focus ((repeat (first | exact Sel.refl | (apply Sel.cons; (focus ((repeat (first | exact Del.here | apply Del.there)); done))) | refine Sel.drop ?_)); done))) hs))
  | none =>
    rw [hf] at hr1 hput
    have hr1 : ∀ R, Rd (pt bx 57 (rcells M.length L) :: R) ⟨bx, 0 + 1 + nn * 5 + 0, none⟩ (.bool false) := hr1
    rw [if_neg (by simp)] at hput ⊢
    obtain ⟨-, -, -, hnn, hS, -, -⟩ := hput rfl
    rw [Int.toNat_natCast] at hS ⊢
    rw [if_neg (by simp)]
    have hrp := rel_put hR hI.wf (h := hm') hhn hm hnn
    dsimp only at hrp
    rw [Int.toNat_natCast] at hrp
    have hSo := rSettle_ok bx (addW M hm' ⟨ka, (nn : Int)⟩) _ (hI.wf.add hhn hm hnn) hrp (by rw [addW_len]; exact hI.pos) (by rw [addW_len]; exact hfew) hS.twice
    rw [addW_len] at hSo
    have hml := st_le (addW M hm' ⟨ka, (nn : Int)⟩)
    have hSa : ∀ R, StAll (pt bx 57 (rcells M.length L) :: R) bx (0 + 1 + nn * 5) [.bool true, int ka, int (nn : Int), int (hm' : Int), .bool false] (pt bx 57 (rcells M.length (L.set nn ⟨true, ⟨ka, (nn : Int)⟩, (hm' : Int), false⟩)) :: R) := fun R => StAll.sv (e' := ⟨true, ⟨ka, (nn : Int)⟩, (hm' : Int), false⟩) hkl
    generalize settleM (addW M hm' ⟨ka, (nn : Int)⟩) = T at *
    unfold rsb at *
    have hSoo := And.intro hSo trivial
    clear hSo
    refine Fn3 Try.func30 rfl Try.ntmps30 rfl ?_
    (repeat' first | refine stp ?_ | intro v' hv' | intro (b : Nat) | (apply w_convU; rfl; rfl; omega; omega) | (apply w_convI; rfl; rfl; omega; omega) | (apply w_quoU; rfl; rfl; rfl; omega; omega; omega) | (apply w_remU; rfl; rfl; rfl; omega; omega) | (apply w_ld0; rfl; rfl; ((focus ((repeat (first | exact hr1 _ | exact hr2 _ | exact hr3 _ | exact Rd.svN | exact Rd.pt rfl | apply Rd.there)); done)))) | (apply w_ld; rfl; rfl; ((focus ((repeat (first | exact hr1 _ | exact hr2 _ | exact hr3 _ | exact Rd.svN | exact Rd.pt rfl | apply Rd.there)); done)))) | (apply w_st; rfl; rfl; rfl; ((focus ((repeat (first | exact hs1 _ | apply St.there)); done))); ((exact kmf))) | (apply w_sa; rfl; rfl; rfl; rfl; (focus ((repeat (first | exact hSa _ | apply StAll.there)); done)); ((exact kmf))) | (apply w_cp; rfl; rfl; exact hMy) | (apply w_minL; rfl; rfl; rfl; omega) | (apply w_minG; rfl; rfl; rfl; omega) | (apply w_min; rfl; rfl; rfl) | (apply w_mfR; rfl; rfl) | (apply w_cvp; rfl; rfl; exact inferInstance; rfl; rfl; assumption) | (apply w_eqS2T; rfl; rfl; rfl; omega) | (apply w_eqS2F; rfl; rfl; rfl; omega) | (apply w_neS2T; rfl; rfl; rfl; omega) | (apply w_neS2F; rfl; rfl; rfl; omega) | (apply w_eqS3T; rfl; rfl; rfl; omega) | (apply w_eqS3F; rfl; rfl; rfl; omega) | (apply w_neS3T; rfl; rfl; rfl; omega) | (apply w_neS3F; rfl; rfl; rfl; omega) | (apply w_eqS3; rfl; rfl; rfl) | (apply w_neS3; rfl; rfl; rfl) | (apply w_eqS2; rfl; rfl; rfl) | (apply w_neS2; rfl; rfl; rfl) | (apply w_maxL; rfl; rfl; rfl; omega) | (apply w_maxG; rfl; rfl; rfl; omega) | (apply w_max; rfl; rfl; rfl) | (apply w_neB; rfl; rfl; rfl; rfl) | (apply w_eqB; rfl; rfl; rfl; rfl) | refine spl ?_ ?_ | intro hc)
    apply w_clS
    rfl; rfl; exact Called.del1 (A := pt bx 57 (rcells M.length (L.set nn ⟨true, ⟨ka, (nn : Int)⟩, (hm' : Int), false⟩))) (by (focus ((repeat (first | exact Del.here | apply Del.there)); done))) (hSoo.1 _)
    exact hml
    intro v3 hv3
    rw [List.length_map] at hv3
    refine ⟨by (exact kmf), ?_⟩
    (repeat' first | refine stp ?_ | intro v' hv' | intro (b : Nat) | (apply w_convU; rfl; rfl; omega; omega) | (apply w_convI; rfl; rfl; omega; omega) | (apply w_quoU; rfl; rfl; rfl; omega; omega; omega) | (apply w_remU; rfl; rfl; rfl; omega; omega) | (apply w_ld0; rfl; rfl; ((focus ((repeat (first | exact hr1 _ | exact hr2 _ | exact hr3 _ | exact Rd.svN | exact Rd.pt rfl | apply Rd.there)); done)))) | (apply w_ld; rfl; rfl; ((focus ((repeat (first | exact hr1 _ | exact hr2 _ | exact hr3 _ | exact Rd.svN | exact Rd.pt rfl | apply Rd.there)); done)))) | (apply w_st; rfl; rfl; rfl; ((focus ((repeat (first | exact hs1 _ | apply St.there)); done))); ((exact kmf))) | (apply w_sa; rfl; rfl; rfl; rfl; (focus ((repeat (first | exact hSa _ | apply StAll.there)); done)); ((exact kmf))) | (apply w_cp; rfl; rfl; exact hMy) | (apply w_minL; rfl; rfl; rfl; omega) | (apply w_minG; rfl; rfl; rfl; omega) | (apply w_min; rfl; rfl; rfl) | (apply w_mfR; rfl; rfl) | (apply w_cvp; rfl; rfl; exact inferInstance; rfl; rfl; assumption) | (apply w_eqS2T; rfl; rfl; rfl; omega) | (apply w_eqS2F; rfl; rfl; rfl; omega) | (apply w_neS2T; rfl; rfl; rfl; omega) | (apply w_neS2F; rfl; rfl; rfl; omega) | (apply w_eqS3T; rfl; rfl; rfl; omega) | (apply w_eqS3F; rfl; rfl; rfl; omega) | (apply w_neS3T; rfl; rfl; rfl; omega) | (apply w_neS3F; rfl; rfl; rfl; omega) | (apply w_eqS3; rfl; rfl; rfl) | (apply w_neS3; rfl; rfl; rfl) | (apply w_eqS2; rfl; rfl; rfl) | (apply w_neS2; rfl; rfl; rfl) | (apply w_maxL; rfl; rfl; rfl; omega) | (apply w_maxG; rfl; rfl; rfl; omega) | (apply w_max; rfl; rfl; rfl) | (apply w_neB; rfl; rfl; rfl; rfl) | (apply w_eqB; rfl; rfl; rfl; rfl) | refine spl ?_ ?_ | intro hc)
    refine At_ret2 (by (first | exact .inl rfl | exact .inr rfl)) Try.results30 rfl rfl ⟨v3, rfl, hv3, rfl⟩ (fun w hs => Sel.sat (by (focus ((repeat (first | exact Sel.refl | (apply Sel.cons; (focus ((repeat (first | exact Del.here | apply Del.there)); done))) | refine Sel.drop ?_)); done))) hs)
set_option maxHeartbeats 8000000 in
theorem rDrop_ok (bx : Nat) (M : List Wk) (L : List Sv) (n : Int) (hI : InvS M) (hR : RelS M L) (R : List HP) :
    Called Try.prog 31 [ptr bx, int n] (rsb bx M.length L :: R) (ansR (dropM M n).1.1 (dropM M n).1.2 (rsb bx M.length (dropL M L n)) R) := by
  obtain ⟨hk1, hk2⟩ := take_k hI.wf n 0
  have hfew := hI.few
  unfold ansR dropL dropM
  by_cases he : (takeM M n 0).1.2 = 0
  · rw [if_neg (by simpa using he)]
    obtain ⟨-, w0, ran, y, -, -, hT⟩ := hk2 he
    obtain ⟨hr, hi, h64, h0, -⟩ := rel_drop hR hI.wf hT
    have hS := take_settle hI hT
    have hSo := rSettle_ok bx (takeM M n 0).2 _ hT.wf hr (by rw [hT.len]; exact hI.pos) (by rw [hT.len]; exact hfew) hS.twice
    rw [hT.len] at hSo
    rw [if_neg (by simp)]
    have hml := st_le (takeM M n 0).2
    obtain ⟨nn, rfl⟩ := Int.eq_ofNat_of_zero_le h0
    rw [Int.toNat_natCast] at *
    have hkl : nn < L.length := by rw [hR.len]; omega
    have hr1 : ∀ R, Rd (pt bx 57 (rcells M.length L) :: R) ⟨bx, 0 + 1 + nn * 5 + 0, none⟩ (.bool true) := fun R => by have := Rd.sv (b := bx) (N := M.length) (R := R) (f := 0) (u := .bool true) hkl (by rw [← hi]; rfl); exact this
    have hSa : ∀ R, StAll (pt bx 57 (rcells M.length L) :: R) bx (0 + 1 + nn * 5) [.bool false, int 0, int 0, int 0, .bool false] (pt bx 57 (rcells M.length (L.set nn sv0)) :: R) := fun R => StAll.sv (e' := sv0) hkl
    clear hk1 hk2 he hT hr hS
    generalize (takeM M (nn : Int) 0).2 = M2 at *
    generalize settleM M2 = T at *
    unfold rsb at *
    refine Fn2 Try.func31 rfl Try.ntmps31 rfl ?_
    (repeat' first | refine stp ?_ | intro v' hv' | intro (b : Nat) | (apply w_convU; rfl; rfl; omega; omega) | (apply w_convI; rfl; rfl; omega; omega) | (apply w_quoU; rfl; rfl; rfl; omega; omega; omega) | (apply w_remU; rfl; rfl; rfl; omega; omega) | (apply w_ld0; rfl; rfl; ((focus ((repeat (first | exact hr1 _ | exact hr2 _ | exact hr3 _ | exact Rd.svN | exact Rd.pt rfl | apply Rd.there)); done)))) | (apply w_ld; rfl; rfl; ((focus ((repeat (first | exact hr1 _ | exact hr2 _ | exact hr3 _ | exact Rd.svN | exact Rd.pt rfl | apply Rd.there)); done)))) | (apply w_st; rfl; rfl; rfl; ((focus ((repeat (first | exact hs1 _ | apply St.there)); done))); ((exact kmf))) | (apply w_sa; rfl; rfl; rfl; rfl; (focus ((repeat (first | exact hSa _ | apply StAll.there)); done)); ((exact kmf))) | (apply w_cp; rfl; rfl; exact hMy) | (apply w_minL; rfl; rfl; rfl; omega) | (apply w_minG; rfl; rfl; rfl; omega) | (apply w_min; rfl; rfl; rfl) | (apply w_mfR; rfl; rfl) | (apply w_cvp; rfl; rfl; exact inferInstance; rfl; rfl; assumption) | (apply w_eqS2T; rfl; rfl; rfl; omega) | (apply w_eqS2F; rfl; rfl; rfl; omega) | (apply w_neS2T; rfl; rfl; rfl; omega) | (apply w_neS2F; rfl; rfl; rfl; omega) | (apply w_eqS3T; rfl; rfl; rfl; omega) | (apply w_eqS3F; rfl; rfl; rfl; omega) | (apply w_neS3T; rfl; rfl; rfl; omega) | (apply w_neS3F; rfl; rfl; rfl; omega) | (apply w_eqS3; rfl; rfl; rfl) | (apply w_neS3; rfl; rfl; rfl) | (apply w_eqS2; rfl; rfl; rfl) | (apply w_neS2; rfl; rfl; rfl) | (apply w_maxL; rfl; rfl; rfl; omega) | (apply w_maxG; rfl; rfl; rfl; omega) | (apply w_max; rfl; rfl; rfl) | (apply w_neB; rfl; rfl; rfl; rfl) | (apply w_eqB; rfl; rfl; rfl; rfl) | refine spl ?_ ?_ | intro hc)
    apply w_clS
    rfl; rfl; exact Called.del1 (A := pt bx 57 (rcells M.length (L.set nn sv0))) (by (focus ((repeat (first | exact Del.here | apply Del.there)); done))) (hSo _)
    exact hml
    intro v3 hv3
    rw [List.length_map] at hv3
    refine ⟨by (exact kmf), ?_⟩
    (repeat' first | refine stp ?_ | intro v' hv' | intro (b : Nat) | (apply w_convU; rfl; rfl; omega; omega) | (apply w_convI; rfl; rfl; omega; omega) | (apply w_quoU; rfl; rfl; rfl; omega; omega; omega) | (apply w_remU; rfl; rfl; rfl; omega; omega) | (apply w_ld0; rfl; rfl; ((focus ((repeat (first | exact hr1 _ | exact hr2 _ | exact hr3 _ | exact Rd.svN | exact Rd.pt rfl | apply Rd.there)); done)))) | (apply w_ld; rfl; rfl; ((focus ((repeat (first | exact hr1 _ | exact hr2 _ | exact hr3 _ | exact Rd.svN | exact Rd.pt rfl | apply Rd.there)); done)))) | (apply w_st; rfl; rfl; rfl; ((focus ((repeat (first | exact hs1 _ | apply St.there)); done))); ((exact kmf))) | (apply w_sa; rfl; rfl; rfl; rfl; (focus ((repeat (first | exact hSa _ | apply StAll.there)); done)); ((exact kmf))) | (apply w_cp; rfl; rfl; exact hMy) | (apply w_minL; rfl; rfl; rfl; omega) | (apply w_minG; rfl; rfl; rfl; omega) | (apply w_min; rfl; rfl; rfl) | (apply w_mfR; rfl; rfl) | (apply w_cvp; rfl; rfl; exact inferInstance; rfl; rfl; assumption) | (apply w_eqS2T; rfl; rfl; rfl; omega) | (apply w_eqS2F; rfl; rfl; rfl; omega) | (apply w_neS2T; rfl; rfl; rfl; omega) | (apply w_neS2F; rfl; rfl; rfl; omega) | (apply w_eqS3T; rfl; rfl; rfl; omega) | (apply w_eqS3F; rfl; rfl; rfl; omega) | (apply w_neS3T; rfl; rfl; rfl; omega) | (apply w_neS3F; rfl; rfl; rfl; omega) | (apply w_eqS3; rfl; rfl; rfl) | (apply w_neS3; rfl; rfl; rfl) | (apply w_eqS2; rfl; rfl; rfl) | (apply w_neS2; rfl; rfl; rfl) | (apply w_maxL; rfl; rfl; rfl; omega) | (apply w_maxG; rfl; rfl; rfl; omega) | (apply w_max; rfl; rfl; rfl) | (apply w_neB; rfl; rfl; rfl; rfl) | (apply w_eqB; rfl; rfl; rfl; rfl) | refine spl ?_ ?_ | intro hc)
    refine At_ret2 (by (first | exact .inl rfl | exact .inr rfl)) Try.results31 rfl rfl ⟨v3, rfl, hv3, rfl⟩ (fun w hs => Sel.sat (by (focus ((repeat (first | exact Sel.refl | (apply Sel.cons; (focus ((repeat (first | exact Del.here | apply Del.there)); done))) | refine Sel.drop ?_)); done))) hs)
  · rw [if_pos he, if_pos he]
    dsimp only
    unfold takeM at he ⊢
    by_cases hm : mayK ⟨0, n⟩ = false
    · rw [if_pos hm]
      have hb : n < 0 ∨ 63 < n := by
        rcases Int.lt_or_le n 0 with h | h
        · exact .inl h
        · rcases Int.lt_or_le 63 n with h2 | h2
          · exact .inr h2
          · rw [mayK_iff.2 ⟨h, by dsimp only; omega, Int.le_refl 0, by show (0 : Int) < 1099511627776; decide⟩] at hm; cases hm
      clear hk1 hk2 he
      unfold rsb
      rcases hb with hb | hb
      all_goals
        refine Fn2 Try.func31 rfl Try.ntmps31 rfl ?_
        (repeat' first | refine stp ?_ | intro v' hv' | intro (b : Nat) | (apply w_convU; rfl; rfl; omega; omega) | (apply w_convI; rfl; rfl; omega; omega) | (apply w_quoU; rfl; rfl; rfl; omega; omega; omega) | (apply w_remU; rfl; rfl; rfl; omega; omega) | (apply w_ld0; rfl; rfl; ((focus ((repeat (first | exact hr1 _ | exact hr2 _ | exact hr3 _ | exact Rd.svN | exact Rd.pt rfl | apply Rd.there)); done)))) | (apply w_ld; rfl; rfl; ((focus ((repeat (first | exact hr1 _ | exact hr2 _ | exact hr3 _ | exact Rd.svN | exact Rd.pt rfl | apply Rd.there)); done)))) | (apply w_st; rfl; rfl; rfl; ((focus ((repeat (first | exact hs1 _ | apply St.there)); done))); ((exact kmf))) | (apply w_sa; rfl; rfl; rfl; rfl; (focus ((repeat (first | exact hSa _ | apply StAll.there)); done)); ((exact kmf))) | (apply w_cp; rfl; rfl; exact hMy) | (apply w_minL; rfl; rfl; rfl; omega) | (apply w_minG; rfl; rfl; rfl; omega) | (apply w_min; rfl; rfl; rfl) | (apply w_mfR; rfl; rfl) | (apply w_cvp; rfl; rfl; exact inferInstance; rfl; rfl; assumption) | (apply w_eqS2T; rfl; rfl; rfl; omega) | (apply w_eqS2F; rfl; rfl; rfl; omega) | (apply w_neS2T; rfl; rfl; rfl; omega) | (apply w_neS2F; rfl; rfl; rfl; omega) | (apply w_eqS3T; rfl; rfl; rfl; omega) | (apply w_eqS3F; rfl; rfl; rfl; omega) | (apply w_neS3T; rfl; rfl; rfl; omega) | (apply w_neS3F; rfl; rfl; rfl; omega) | (apply w_eqS3; rfl; rfl; rfl) | (apply w_neS3; rfl; rfl; rfl) | (apply w_eqS2; rfl; rfl; rfl) | (apply w_neS2; rfl; rfl; rfl) | (apply w_maxL; rfl; rfl; rfl; omega) | (apply w_maxG; rfl; rfl; rfl; omega) | (apply w_max; rfl; rfl; rfl) | (apply w_neB; rfl; rfl; rfl; rfl) | (apply w_eqB; rfl; rfl; rfl; rfl) | refine spl ?_ ?_ | intro hc)
        all_goals refine At_ret2 (by (first | exact .inl rfl | exact .inr rfl)) Try.results31 rfl rfl ⟨.slice none 0 0, rfl, IsSl.nil, rfl⟩ (fun w hs => Sat.sl_nil (E := 82) (n := 3) (Sel.sat (by (focus ((repeat (first | exact Sel.refl | (apply Sel.cons; (focus ((repeat (first | exact Del.here | apply Del.there)); done))) | refine Sel.drop ?_)); done))) hs))
    · have hm : mayK ⟨0, n⟩ = true := by simpa using hm
      rw [if_neg (by rw [hm]; simp)] at he ⊢
      obtain ⟨g0, g1, -, -⟩ := mayK_iff.1 hm
      dsimp only at g0 g1
      have hisf := is_find hR hI.wf g0 g1
      cases hf : findM M n with
      | some p =>
        exfalso
        rw [hf] at he
        obtain ⟨w, i⟩ := p
        dsimp only at he
        split at he
        · exact he rfl
        · exact he rfl
      | none =>
        rw [hf] at hisf
        clear hk1 hk2 he hm
        obtain ⟨nn, rfl⟩ := Int.eq_ofNat_of_zero_le g0
        rw [Int.toNat_natCast] at hisf
        have hkl : nn < L.length := by rw [hR.len]; omega
        have hr1 : ∀ R, Rd (pt bx 57 (rcells M.length L) :: R) ⟨bx, 0 + 1 + nn * 5 + 0, none⟩ (.bool false) := fun R => by have := Rd.sv (b := bx) (N := M.length) (R := R) (f := 0) (u := .bool (svA L nn).is) hkl rfl; rw [hisf] at this; exact this
        unfold rsb
        dsimp only
        refine Fn2 Try.func31 rfl Try.ntmps31 rfl ?_
        (repeat' first | refine stp ?_ | intro v' hv' | intro (b : Nat) | (apply w_convU; rfl; rfl; omega; omega) | (apply w_convI; rfl; rfl; omega; omega) | (apply w_quoU; rfl; rfl; rfl; omega; omega; omega) | (apply w_remU; rfl; rfl; rfl; omega; omega) | (apply w_ld0; rfl; rfl; ((focus ((repeat (first | exact hr1 _ | exact hr2 _ | exact hr3 _ | exact Rd.svN | exact Rd.pt rfl | apply Rd.there)); done)))) | (apply w_ld; rfl; rfl; ((focus ((repeat (first | exact hr1 _ | exact hr2 _ | exact hr3 _ | exact Rd.svN | exact Rd.pt rfl | apply Rd.there)); done)))) | (apply w_st; rfl; rfl; rfl; ((focus ((repeat (first | exact hs1 _ | apply St.there)); done))); ((exact kmf))) | (apply w_sa; rfl; rfl; rfl; rfl; (focus ((repeat (first | exact hSa _ | apply StAll.there)); done)); ((exact kmf))) | (apply w_cp; rfl; rfl; exact hMy) | (apply w_minL; rfl; rfl; rfl; omega) | (apply w_minG; rfl; rfl; rfl; omega) | (apply w_min; rfl; rfl; rfl) | (apply w_mfR; rfl; rfl) | (apply w_cvp; rfl; rfl; exact inferInstance; rfl; rfl; assumption) | (apply w_eqS2T; rfl; rfl; rfl; omega) | (apply w_eqS2F; rfl; rfl; rfl; omega) | (apply w_neS2T; rfl; rfl; rfl; omega) | (apply w_neS2F; rfl; rfl; rfl; omega) | (apply w_eqS3T; rfl; rfl; rfl; omega) | (apply w_eqS3F; rfl; rfl; rfl; omega) | (apply w_neS3T; rfl; rfl; rfl; omega) | (apply w_neS3F; rfl; rfl; rfl; omega) | (apply w_eqS3; rfl; rfl; rfl) | (apply w_neS3; rfl; rfl; rfl) | (apply w_eqS2; rfl; rfl; rfl) | (apply w_neS2; rfl; rfl; rfl) | (apply w_maxL; rfl; rfl; rfl; omega) | (apply w_maxG; rfl; rfl; rfl; omega) | (apply w_max; rfl; rfl; rfl) | (apply w_neB; rfl; rfl; rfl; rfl) | (apply w_eqB; rfl; rfl; rfl; rfl) | refine spl ?_ ?_ | intro hc)
        all_goals refine At_ret2 (by (first | exact .inl rfl | exact .inr rfl)) Try.results31 rfl rfl ⟨.slice none 0 0, rfl, IsSl.nil, rfl⟩ (fun w hs => Sat.sl_nil (E := 82) (n := 3) (Sel.sat (by (focus ((repeat (first | exact Sel.refl | (apply Sel.cons; (focus ((repeat (first | exact Del.here | apply Del.there)); done))) | refine Sel.drop ?_)); done))) hs))
set_option maxHeartbeats 8000000 in
theorem rRekey_ok (bx : Nat) (M : List Wk) (L : List Sv) (n t : Int) (hI : InvS M) (hR : RelS M L) (R : List HP) :
    Called Try.prog 32 [ptr bx, int n, int t] (rsb bx M.length L :: R) (ansR (rekeyM M n t).1.1 (rekeyM M n t).1.2 (rsb bx M.length (rekeyL M L n t)) R) := by
  obtain ⟨hk1, hk2⟩ := take_k hI.wf n t
  have hMy := rMay_ok ⟨t, n⟩
  have hfew := hI.few
  unfold ansR rekeyL rekeyM
  by_cases he : (takeM M n t).1.2 = 0
  · rw [if_neg (by simpa using he)]
    obtain ⟨hk, w0, ran, y, e1, -, hT⟩ := hk2 he
    obtain ⟨-, hi, h64, h0, hy⟩ := rel_drop hR hI.wf hT
    have hr := rel_back hR hI hT hk rfl
    obtain ⟨hS, -, hwf2, hlen2⟩ := back_settle hI hT hk rfl
    have hSo := rSettle_ok bx (backW (takeM M n t).2 w0 ran ⟨t, n⟩) _ hwf2 hr (by rw [hlen2]; exact hI.pos) (by rw [hlen2]; exact hfew) hS.twice
    rw [hlen2] at hSo
    rw [e1, if_neg (by simp)]
    dsimp only at hr hSo ⊢
    have hyid := hT.yid
    rw [hk] at hMy
    rw [Int.toNat_natCast]
    obtain ⟨nn, rfl⟩ := Int.eq_ofNat_of_zero_le h0
    rw [Int.toNat_natCast] at *
    have hml := st_le (backW (takeM M (nn : Int) t).2 w0 ran ⟨t, (nn : Int)⟩)
    have hkl : nn < L.length := by rw [hR.len]; omega
    have hr1 : ∀ R, Rd (pt bx 57 (rcells M.length L) :: R) ⟨bx, 0 + 1 + nn * 5 + 0, none⟩ (.bool true) := fun R => by have := Rd.sv (b := bx) (N := M.length) (R := R) (f := 0) (u := .bool true) hkl (by rw [hy]; rfl); exact this
    have hs1 : ∀ R, St (pt bx 57 (rcells M.length L) :: R) ⟨bx, 0 + 1 + nn * 5 + 1 + 0, none⟩ (int t) (pt bx 57 (rcells M.length (L.set nn ⟨true, ⟨t, (nn : Int)⟩, (w0 : Int), ran⟩)) :: R) := fun R => St.sv (f := 1) hkl (by decide) (by rw [hy, ← hyid]; rfl)
    clear hk1 hk2 he hT hr hS hwf2 hlen2 e1
    generalize backW (takeM M (nn : Int) t).2 w0 ran ⟨t, (nn : Int)⟩ = M2 at *
    generalize settleM M2 = T at *
    unfold rsb at *
    unfold kyV kyE at hMy
    refine Fn3 Try.func32 rfl Try.ntmps32 rfl ?_
    (repeat' first | refine stp ?_ | intro v' hv' | intro (b : Nat) | (apply w_convU; rfl; rfl; omega; omega) | (apply w_convI; rfl; rfl; omega; omega) | (apply w_quoU; rfl; rfl; rfl; omega; omega; omega) | (apply w_remU; rfl; rfl; rfl; omega; omega) | (apply w_ld0; rfl; rfl; ((focus ((repeat (first | exact hr1 _ | exact hr2 _ | exact hr3 _ | exact Rd.svN | exact Rd.pt rfl | apply Rd.there)); done)))) | (apply w_ld; rfl; rfl; ((focus ((repeat (first | exact hr1 _ | exact hr2 _ | exact hr3 _ | exact Rd.svN | exact Rd.pt rfl | apply Rd.there)); done)))) | (apply w_st; rfl; rfl; rfl; ((focus ((repeat (first | exact hs1 _ | apply St.there)); done))); ((exact kmf))) | (apply w_sa; rfl; rfl; rfl; rfl; (focus ((repeat (first | exact hSa _ | apply StAll.there)); done)); ((exact kmf))) | (apply w_cp; rfl; rfl; exact hMy) | (apply w_minL; rfl; rfl; rfl; omega) | (apply w_minG; rfl; rfl; rfl; omega) | (apply w_min; rfl; rfl; rfl) | (apply w_mfR; rfl; rfl) | (apply w_cvp; rfl; rfl; exact inferInstance; rfl; rfl; assumption) | (apply w_eqS2T; rfl; rfl; rfl; omega) | (apply w_eqS2F; rfl; rfl; rfl; omega) | (apply w_neS2T; rfl; rfl; rfl; omega) | (apply w_neS2F; rfl; rfl; rfl; omega) | (apply w_eqS3T; rfl; rfl; rfl; omega) | (apply w_eqS3F; rfl; rfl; rfl; omega) | (apply w_neS3T; rfl; rfl; rfl; omega) | (apply w_neS3F; rfl; rfl; rfl; omega) | (apply w_eqS3; rfl; rfl; rfl) | (apply w_neS3; rfl; rfl; rfl) | (apply w_eqS2; rfl; rfl; rfl) | (apply w_neS2; rfl; rfl; rfl) | (apply w_maxL; rfl; rfl; rfl; omega) | (apply w_maxG; rfl; rfl; rfl; omega) | (apply w_max; rfl; rfl; rfl) | (apply w_neB; rfl; rfl; rfl; rfl) | (apply w_eqB; rfl; rfl; rfl; rfl) | refine spl ?_ ?_ | intro hc)
    apply w_clS
    rfl; rfl; exact Called.del1 (A := pt bx 57 (rcells M.length (L.set nn ⟨true, ⟨t, (nn : Int)⟩, (w0 : Int), ran⟩))) (by (focus ((repeat (first | exact Del.here | apply Del.there)); done))) (hSo _)
    exact hml
    intro v3 hv3
    rw [List.length_map] at hv3
    refine ⟨by (exact kmf), ?_⟩
    (repeat' first | refine stp ?_ | intro v' hv' | intro (b : Nat) | (apply w_convU; rfl; rfl; omega; omega) | (apply w_convI; rfl; rfl; omega; omega) | (apply w_quoU; rfl; rfl; rfl; omega; omega; omega) | (apply w_remU; rfl; rfl; rfl; omega; omega) | (apply w_ld0; rfl; rfl; ((focus ((repeat (first | exact hr1 _ | exact hr2 _ | exact hr3 _ | exact Rd.svN | exact Rd.pt rfl | apply Rd.there)); done)))) | (apply w_ld; rfl; rfl; ((focus ((repeat (first | exact hr1 _ | exact hr2 _ | exact hr3 _ | exact Rd.svN | exact Rd.pt rfl | apply Rd.there)); done)))) | (apply w_st; rfl; rfl; rfl; ((focus ((repeat (first | exact hs1 _ | apply St.there)); done))); ((exact kmf))) | (apply w_sa; rfl; rfl; rfl; rfl; (focus ((repeat (first | exact hSa _ | apply StAll.there)); done)); ((exact kmf))) | (apply w_cp; rfl; rfl; exact hMy) | (apply w_minL; rfl; rfl; rfl; omega) | (apply w_minG; rfl; rfl; rfl; omega) | (apply w_min; rfl; rfl; rfl) | (apply w_mfR; rfl; rfl) | (apply w_cvp; rfl; rfl; exact inferInstance; rfl; rfl; assumption) | (apply w_eqS2T; rfl; rfl; rfl; omega) | (apply w_eqS2F; rfl; rfl; rfl; omega) | (apply w_neS2T; rfl; rfl; rfl; omega) | (apply w_neS2F; rfl; rfl; rfl; omega) | (apply w_eqS3T; rfl; rfl; rfl; omega) | (apply w_eqS3F; rfl; rfl; rfl; omega) | (apply w_neS3T; rfl; rfl; rfl; omega) | (apply w_neS3F; rfl; rfl; rfl; omega) | (apply w_eqS3; rfl; rfl; rfl) | (apply w_neS3; rfl; rfl; rfl) | (apply w_eqS2; rfl; rfl; rfl) | (apply w_neS2; rfl; rfl; rfl) | (apply w_maxL; rfl; rfl; rfl; omega) | (apply w_maxG; rfl; rfl; rfl; omega) | (apply w_max; rfl; rfl; rfl) | (apply w_neB; rfl; rfl; rfl; rfl) | (apply w_eqB; rfl; rfl; rfl; rfl) | refine spl ?_ ?_ | intro hc)
    refine At_ret2 (by (first | exact .inl rfl | exact .inr rfl)) Try.results32 rfl rfl ⟨v3, rfl, hv3, rfl⟩ (fun w hs => Sel.sat (by (focus ((repeat (first | exact Sel.refl | (apply Sel.cons; (focus ((repeat (first | exact Del.here | apply Del.there)); done))) | refine Sel.drop ?_)); done))) hs)
  · rw [if_pos he, if_pos he]
    dsimp only
    unfold takeM at he ⊢
    unfold kyV kyE at hMy
    by_cases hm : mayK ⟨t, n⟩ = false
    · rw [if_pos hm]
      rw [hm] at hMy
      clear hk1 hk2 he
      unfold rsb
      refine Fn3 Try.func32 rfl Try.ntmps32 rfl ?_
      (repeat' first | refine stp ?_ | intro v' hv' | intro (b : Nat) | (apply w_convU; rfl; rfl; omega; omega) | (apply w_convI; rfl; rfl; omega; omega) | (apply w_quoU; rfl; rfl; rfl; omega; omega; omega) | (apply w_remU; rfl; rfl; rfl; omega; omega) | (apply w_ld0; rfl; rfl; ((focus ((repeat (first | exact hr1 _ | exact hr2 _ | exact hr3 _ | exact Rd.svN | exact Rd.pt rfl | apply Rd.there)); done)))) | (apply w_ld; rfl; rfl; ((focus ((repeat (first | exact hr1 _ | exact hr2 _ | exact hr3 _ | exact Rd.svN | exact Rd.pt rfl | apply Rd.there)); done)))) | (apply w_st; rfl; rfl; rfl; ((focus ((repeat (first | exact hs1 _ | apply St.there)); done))); ((exact kmf))) | (apply w_sa; rfl; rfl; rfl; rfl; (focus ((repeat (first | exact hSa _ | apply StAll.there)); done)); ((exact kmf))) | (apply w_cp; rfl; rfl; exact hMy) | (apply w_minL; rfl; rfl; rfl; omega) | (apply w_minG; rfl; rfl; rfl; omega) | (apply w_min; rfl; rfl; rfl) | (apply w_mfR; rfl; rfl) | (apply w_cvp; rfl; rfl; exact inferInstance; rfl; rfl; assumption) | (apply w_eqS2T; rfl; rfl; rfl; omega) | (apply w_eqS2F; rfl; rfl; rfl; omega) | (apply w_neS2T; rfl; rfl; rfl; omega) | (apply w_neS2F; rfl; rfl; rfl; omega) | (apply w_eqS3T; rfl; rfl; rfl; omega) | (apply w_eqS3F; rfl; rfl; rfl; omega) | (apply w_neS3T; rfl; rfl; rfl; omega) | (apply w_neS3F; rfl; rfl; rfl; omega) | (apply w_eqS3; rfl; rfl; rfl) | (apply w_neS3; rfl; rfl; rfl) | (apply w_eqS2; rfl; rfl; rfl) | (apply w_neS2; rfl; rfl; rfl) | (apply w_maxL; rfl; rfl; rfl; omega) | (apply w_maxG; rfl; rfl; rfl; omega) | (apply w_max; rfl; rfl; rfl) | (apply w_neB; rfl; rfl; rfl; rfl) | (apply w_eqB; rfl; rfl; rfl; rfl) | refine spl ?_ ?_ | intro hc)
      all_goals refine At_ret2 (by (first | exact .inl rfl | exact .inr rfl)) Try.results32 rfl rfl ⟨.slice none 0 0, rfl, IsSl.nil, rfl⟩ (fun w hs => Sat.sl_nil (E := 82) (n := 3) (Sel.sat (by (focus ((repeat (first | exact Sel.refl | (apply Sel.cons; (focus ((repeat (first | exact Del.here | apply Del.there)); done))) | refine Sel.drop ?_)); done))) hs))
    · have hm : mayK ⟨t, n⟩ = true := by simpa using hm
      rw [if_neg (by rw [hm]; simp)] at he ⊢
      rw [hm] at hMy
      obtain ⟨g0, g1, -, -⟩ := mayK_iff.1 hm
      dsimp only at g0 g1
      have hisf := is_find hR hI.wf g0 g1
      cases hf : findM M n with
      | some p =>
        exfalso
        rw [hf] at he
        obtain ⟨w, i⟩ := p
        dsimp only at he
        split at he
        · exact he rfl
        · exact he rfl
      | none =>
        rw [hf] at hisf
        clear hk1 hk2 he hm
        obtain ⟨nn, rfl⟩ := Int.eq_ofNat_of_zero_le g0
        rw [Int.toNat_natCast] at hisf
        have hkl : nn < L.length := by rw [hR.len]; omega
        have hr1 : ∀ R, Rd (pt bx 57 (rcells M.length L) :: R) ⟨bx, 0 + 1 + nn * 5 + 0, none⟩ (.bool false) := fun R => by have := Rd.sv (b := bx) (N := M.length) (R := R) (f := 0) (u := .bool (svA L nn).is) hkl rfl; rw [hisf] at this; exact this
        unfold rsb
        dsimp only
        refine Fn3 Try.func32 rfl Try.ntmps32 rfl ?_
        (repeat' first | refine stp ?_ | intro v' hv' | intro (b : Nat) | (apply w_convU; rfl; rfl; omega; omega) | (apply w_convI; rfl; rfl; omega; omega) | (apply w_quoU; rfl; rfl; rfl; omega; omega; omega) | (apply w_remU; rfl; rfl; rfl; omega; omega) | (apply w_ld0; rfl; rfl; ((focus ((repeat (first | exact hr1 _ | exact hr2 _ | exact hr3 _ | exact Rd.svN | exact Rd.pt rfl | apply Rd.there)); done)))) | (apply w_ld; rfl; rfl; ((focus ((repeat (first | exact hr1 _ | exact hr2 _ | exact hr3 _ | exact Rd.svN | exact Rd.pt rfl | apply Rd.there)); done)))) | (apply w_st; rfl; rfl; rfl; ((focus ((repeat (first | exact hs1 _ | apply St.there)); done))); ((exact kmf))) | (apply w_sa; rfl; rfl; rfl; rfl; (focus ((repeat (first | exact hSa _ | apply StAll.there)); done)); ((exact kmf))) | (apply w_cp; rfl; rfl; exact hMy) | (apply w_minL; rfl; rfl; rfl; omega) | (apply w_minG; rfl; rfl; rfl; omega) | (apply w_min; rfl; rfl; rfl) | (apply w_mfR; rfl; rfl) | (apply w_cvp; rfl; rfl; exact inferInstance; rfl; rfl; assumption) | (apply w_eqS2T; rfl; rfl; rfl; omega) | (apply w_eqS2F; rfl; rfl; rfl; omega) | (apply w_neS2T; rfl; rfl; rfl; omega) | (apply w_neS2F; rfl; rfl; rfl; omega) | (apply w_eqS3T; rfl; rfl; rfl; omega) | (apply w_eqS3F; rfl; rfl; rfl; omega) | (apply w_neS3T; rfl; rfl; rfl; omega) | (apply w_neS3F; rfl; rfl; rfl; omega) | (apply w_eqS3; rfl; rfl; rfl) | (apply w_neS3; rfl; rfl; rfl) | (apply w_eqS2; rfl; rfl; rfl) | (apply w_neS2; rfl; rfl; rfl) | (apply w_maxL; rfl; rfl; rfl; omega) | (apply w_maxG; rfl; rfl; rfl; omega) | (apply w_max; rfl; rfl; rfl) | (apply w_neB; rfl; rfl; rfl; rfl) | (apply w_eqB; rfl; rfl; rfl; rfl) | refine spl ?_ ?_ | intro hc)
        all_goals refine At_ret2 (by (first | exact .inl rfl | exact .inr rfl)) Try.results32 rfl rfl ⟨.slice none 0 0, rfl, IsSl.nil, rfl⟩ (fun w hs => Sat.sl_nil (E := 82) (n := 3) (Sel.sat (by (focus ((repeat (first | exact Sel.refl | (apply Sel.cons; (focus ((repeat (first | exact Del.here | apply Del.there)); done))) | refine Sel.drop ?_)); done))) hs))
end Go.Proofs.Ytoddjdghjpdomaa
