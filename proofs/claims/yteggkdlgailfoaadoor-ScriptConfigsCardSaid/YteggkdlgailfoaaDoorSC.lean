/- script: Check. Conditions: none. -/
import Derived.Test.YteggkdlgailfoaaDoorSB
set_option linter.all false
set_option linter.deprecated false
namespace Go.Proofs.YteggkdlgailfoaaDoor
open Go.Sep
variable [B0 : Base]
instance : FieldOne Tryd.prog 64 0 0 := ⟨by kernel_rfl⟩
instance : FieldOne Tryd.prog 64 1 1 := ⟨by kernel_rfl⟩
def restB (x : Stp) : Bool := ((nums x).drop (sMany x.op.toNat)).any fun n => decide (n ≠ 0)
def chkB (x : Stp) : Bool := decide (1 ≤ x.op ∧ x.op ≤ 7) && (nums x).all numB && !restB x
def chkE (x : Stp) : Int := if chkB x = true then 0 else 1
theorem chkB_iff {x : Stp} : chkB x = true ↔ (1 ≤ x.op ∧ x.op ≤ 7) ∧ (nums x).all numB = true ∧ restB x = false := by
  unfold chkB
  simp only [Bool.and_eq_true, decide_eq_true_eq, Bool.not_eq_true', and_assoc]
theorem stp_src (T : TypeId) (b : Nat) (x : Stp) (R : List HP) {l h : Nat} (h1 : l ≤ h) (h2 : h ≤ 6) : Sep.Src (pt b T (stE x) :: R) (aSl b 1 6 1 l h) 1 ((((nums x).drop l).take (h - l)).map fun n => [int n]) := by
  unfold aSl
  by_cases h6 : 6 = l
  · subst h6
    obtain rfl : h = 6 := by omega
    exact ⟨fun _ _ e he => by simp at he, fun w hs => ⟨_, _, rfl, Or.inl rfl⟩⟩
  · rw [if_neg h6]
    have hl : ((((nums x).drop l).take (h - l)).map int).length = h - l := by simp [nums]; omega
    have := Sep.Src.cells (L := pt b T (stE x) :: R) (b := b) (o := 1 + l * 1) (cap := 6 - l) (es := (((nums x).drop l).take (h - l)).map int) (fun j u hu => by
      rw [List.getElem?_map, List.getElem?_take] at hu
      split at hu
      · rw [List.getElem?_drop] at hu
        refine .pt ?_
        show (int x.op :: (nums x).map int)[1 + l * 1 + j]? = some u
        rw [show 1 + l * 1 + j = (l + j) + 1 by omega, List.getElem?_cons_succ, List.getElem?_map]
        exact hu
      · cases hu)
    rw [hl, List.map_map] at this
    exact this
set_option maxHeartbeats 4000000 in
theorem sCheck_ok (x : Stp) (R : List HP) : Called Tryd.prog 9 [.agg (stE x).toArray] R (is (int (chkE x)) R) := by
  have hAll : ∀ b M, Called Tryd.prog 22 [.slice (some ⟨b, 1, none⟩) 6 6] (pt b 29 (stE x) :: M) (is (.bool ((nums x).all numB)) (pt b 29 (stE x) :: M)) := fun b M =>
    all_ok _ (nums x) _ (IsSl.arr (by decide)) (stp_src 29 b x M (l := 0) (h := 6) (by decide) (by decide))
  have hRest : ∀ b M, Called Tryd.prog 23 [aSl b 1 6 1 (sMany x.op.toNat) 6, .func (.func 25) #[] #[]] (pt b 29 (stE x) :: M) (is (.bool (restB x)) (pt b 29 (stE x) :: M)) := fun b M => by
    have hm := sMany_le x.op.toNat
    have hl : ((nums x).drop (sMany x.op.toNat)).length = 6 - sMany x.op.toNat := by simp [nums]
    have ht : ((nums x).drop (sMany x.op.toNat)).take (6 - sMany x.op.toNat) = (nums x).drop (sMany x.op.toNat) := List.take_of_length_le (by rw [hl]; omega)
    have hsrc := stp_src 29 b x M (l := sMany x.op.toNat) (h := 6) hm (by decide)
    rw [ht] at hsrc
    exact ContainsFunc_ok _ _ ((nums x).drop (sMany x.op.toNat)) (fun n => decide (n ≠ 0)) _ (by rw [hl]; exact IsSl.aSl hm (by decide) (by decide)) hsrc
      (fun n _ => Does.func (fs := []) (cs := []) (CanEnter.out (P := Tryd.prog) (f := 25)) (Check1_ok n _))
  have hI := chkB_iff (x := x)
  unfold chkE
  have hr : 1 ≤ x.op → x.op ≤ 7 → (sKinds.drop (x.op.toNat * 2)).take 2 = [str (sW x.op.toNat), int ((sMany x.op.toNat : Nat) : Int)] := fun h1 h2 => sKinds_row (by omega)
  generalize chkB x = c at *
  generalize restB x = r at *
  generalize hag : (nums x).all numB = ag at *
  obtain ⟨op, a0, a1, a2, a3, a4, a5⟩ := x
  unfold stE at *
  dsimp only at *
  by_cases h1 : op < 1
  · rw [if_neg (fun h => by have := (hI.1 h).1.1; omega)]
    refine Fn1 Tryd.func9 rfl Tryd.ntmps9 rfl ?_
    (repeat' first | refine C_drawI (id := 1) [] [0, 1, 2, 3, 4, 5, 6, 7, 8, 9, 10, 11, 12, 13, 14, 15, 17, 18, 16, 19, 20, 21, 22, 23] (by kernel_rfl) (by kernel_rfl) (by kernel_rfl) rfl ?_ | refine stp ?_ | intro v' hv' | intro (b : Nat) | (apply w_convU; rfl; rfl; omega; omega) | (apply w_convI; rfl; rfl; omega; omega) | (apply w_quoU; rfl; rfl; rfl; omega; omega; omega) | (apply w_remU; rfl; rfl; rfl; omega; omega) | (apply w_minL; rfl; rfl; rfl; omega) | (apply w_minG; rfl; rfl; rfl; omega) | (apply w_min; rfl; rfl; rfl) | (apply w_mfR; rfl; rfl) | (apply w_cvp; rfl; rfl; exact inferInstance; rfl; rfl; assumption) | (apply w_eqS2T; rfl; rfl; rfl; omega) | (apply w_eqS2F; rfl; rfl; rfl; omega) | (apply w_neS2T; rfl; rfl; rfl; omega) | (apply w_neS2F; rfl; rfl; rfl; omega) | (apply w_eqS3T; rfl; rfl; rfl; omega) | (apply w_eqS3F; rfl; rfl; rfl; omega) | (apply w_neS3T; rfl; rfl; rfl; omega) | (apply w_neS3F; rfl; rfl; rfl; omega) | (apply w_eqS3; rfl; rfl; rfl) | (apply w_neS3; rfl; rfl; rfl) | (apply w_eqS2; rfl; rfl; rfl) | (apply w_neS2; rfl; rfl; rfl) | (apply w_maxL; rfl; rfl; rfl; omega) | (apply w_maxG; rfl; rfl; rfl; omega) | (apply w_max; rfl; rfl; rfl) | (apply w_neB; rfl; rfl; rfl; rfl) | (apply w_eqB; rfl; rfl; rfl; rfl) | (apply w_slA; rfl; rfl) | (apply w_slAl; rfl; rfl; rfl; first | exact sMany_le _ | assumption) | (apply w_slAh; rfl; rfl; rfl; first | exact sMany_le _ | assumption) | (apply w_fldV; rfl; rfl; rfl) | (apply w_ixA; rfl; rfl; rfl; omega; omega; assumption) | (apply w_cp; rfl; rfl; exact sKinds_ok) | (apply w_cd; rfl; rfl; exact hAll _ _; ((exact kmf))) | (apply w_cd; rfl; rfl; exact hRest _ _; ((exact kmf))) | refine spl ?_ ?_ | intro hc)
    all_goals first | (exfalso; omega) | skip
    all_goals (refine At_ret1 (by (first | exact .inl rfl | exact .inr rfl)) Tryd.results9 rfl ⟨by rfl, rfl⟩ (by (exact frm)))
  · by_cases h2 : 7 < op
    · rw [if_neg (fun h => by have := (hI.1 h).1.2; omega)]
      refine Fn1 Tryd.func9 rfl Tryd.ntmps9 rfl ?_
      (repeat' first | refine C_drawI (id := 1) [] [0, 1, 2, 3, 4, 5, 6, 7, 8, 9, 10, 11, 12, 13, 14, 15, 17, 18, 16, 19, 20, 21, 22, 23] (by kernel_rfl) (by kernel_rfl) (by kernel_rfl) rfl ?_ | refine stp ?_ | intro v' hv' | intro (b : Nat) | (apply w_convU; rfl; rfl; omega; omega) | (apply w_convI; rfl; rfl; omega; omega) | (apply w_quoU; rfl; rfl; rfl; omega; omega; omega) | (apply w_remU; rfl; rfl; rfl; omega; omega) | (apply w_minL; rfl; rfl; rfl; omega) | (apply w_minG; rfl; rfl; rfl; omega) | (apply w_min; rfl; rfl; rfl) | (apply w_mfR; rfl; rfl) | (apply w_cvp; rfl; rfl; exact inferInstance; rfl; rfl; assumption) | (apply w_eqS2T; rfl; rfl; rfl; omega) | (apply w_eqS2F; rfl; rfl; rfl; omega) | (apply w_neS2T; rfl; rfl; rfl; omega) | (apply w_neS2F; rfl; rfl; rfl; omega) | (apply w_eqS3T; rfl; rfl; rfl; omega) | (apply w_eqS3F; rfl; rfl; rfl; omega) | (apply w_neS3T; rfl; rfl; rfl; omega) | (apply w_neS3F; rfl; rfl; rfl; omega) | (apply w_eqS3; rfl; rfl; rfl) | (apply w_neS3; rfl; rfl; rfl) | (apply w_eqS2; rfl; rfl; rfl) | (apply w_neS2; rfl; rfl; rfl) | (apply w_maxL; rfl; rfl; rfl; omega) | (apply w_maxG; rfl; rfl; rfl; omega) | (apply w_max; rfl; rfl; rfl) | (apply w_neB; rfl; rfl; rfl; rfl) | (apply w_eqB; rfl; rfl; rfl; rfl) | (apply w_slA; rfl; rfl) | (apply w_slAl; rfl; rfl; rfl; first | exact sMany_le _ | assumption) | (apply w_slAh; rfl; rfl; rfl; first | exact sMany_le _ | assumption) | (apply w_fldV; rfl; rfl; rfl) | (apply w_ixA; rfl; rfl; rfl; omega; omega; assumption) | (apply w_cp; rfl; rfl; exact sKinds_ok) | (apply w_cd; rfl; rfl; exact hAll _ _; ((exact kmf))) | (apply w_cd; rfl; rfl; exact hRest _ _; ((exact kmf))) | refine spl ?_ ?_ | intro hc)
      all_goals first | (exfalso; omega) | skip
      all_goals (refine At_ret1 (by (first | exact .inl rfl | exact .inr rfl)) Tryd.results9 rfl ⟨by rfl, rfl⟩ (by (exact frm)))
    · replace hr := hr (by omega) (by omega)
      generalize hm : sMany op.toNat = m at *
      generalize sW op.toNat = w at *
      have hm6 : m ≤ 6 := by rw [← hm]; exact sMany_le _
      cases ag with
      | false =>
        rw [if_neg (fun h => by have := (hI.1 h).2.1; cases this)]
        refine Fn1 Tryd.func9 rfl Tryd.ntmps9 rfl ?_
        (repeat' first | refine C_drawI (id := 1) [] [0, 1, 2, 3, 4, 5, 6, 7, 8, 9, 10, 11, 12, 13, 14, 15, 17, 18, 16, 19, 20, 21, 22, 23] (by kernel_rfl) (by kernel_rfl) (by kernel_rfl) rfl ?_ | refine stp ?_ | intro v' hv' | intro (b : Nat) | (apply w_convU; rfl; rfl; omega; omega) | (apply w_convI; rfl; rfl; omega; omega) | (apply w_quoU; rfl; rfl; rfl; omega; omega; omega) | (apply w_remU; rfl; rfl; rfl; omega; omega) | (apply w_minL; rfl; rfl; rfl; omega) | (apply w_minG; rfl; rfl; rfl; omega) | (apply w_min; rfl; rfl; rfl) | (apply w_mfR; rfl; rfl) | (apply w_cvp; rfl; rfl; exact inferInstance; rfl; rfl; assumption) | (apply w_eqS2T; rfl; rfl; rfl; omega) | (apply w_eqS2F; rfl; rfl; rfl; omega) | (apply w_neS2T; rfl; rfl; rfl; omega) | (apply w_neS2F; rfl; rfl; rfl; omega) | (apply w_eqS3T; rfl; rfl; rfl; omega) | (apply w_eqS3F; rfl; rfl; rfl; omega) | (apply w_neS3T; rfl; rfl; rfl; omega) | (apply w_neS3F; rfl; rfl; rfl; omega) | (apply w_eqS3; rfl; rfl; rfl) | (apply w_neS3; rfl; rfl; rfl) | (apply w_eqS2; rfl; rfl; rfl) | (apply w_neS2; rfl; rfl; rfl) | (apply w_maxL; rfl; rfl; rfl; omega) | (apply w_maxG; rfl; rfl; rfl; omega) | (apply w_max; rfl; rfl; rfl) | (apply w_neB; rfl; rfl; rfl; rfl) | (apply w_eqB; rfl; rfl; rfl; rfl) | (apply w_slA; rfl; rfl) | (apply w_slAl; rfl; rfl; rfl; first | exact sMany_le _ | assumption) | (apply w_slAh; rfl; rfl; rfl; first | exact sMany_le _ | assumption) | (apply w_fldV; rfl; rfl; rfl) | (apply w_ixA; rfl; rfl; rfl; omega; omega; assumption) | (apply w_cp; rfl; rfl; exact sKinds_ok) | (apply w_cd; rfl; rfl; exact hAll _ _; ((exact kmf))) | (apply w_cd; rfl; rfl; exact hRest _ _; ((exact kmf))) | refine spl ?_ ?_ | intro hc)
        all_goals first | (exfalso; omega) | skip
        all_goals (refine At_ret1 (by (first | exact .inl rfl | exact .inr rfl)) Tryd.results9 rfl ⟨by rfl, rfl⟩ (by (exact frm)))
      | true =>
        cases r with
        | true =>
          rw [if_neg (fun h => by have := (hI.1 h).2.2; cases this)]
          refine Fn1 Tryd.func9 rfl Tryd.ntmps9 rfl ?_
          (repeat' first | refine C_drawI (id := 1) [] [0, 1, 2, 3, 4, 5, 6, 7, 8, 9, 10, 11, 12, 13, 14, 15, 17, 18, 16, 19, 20, 21, 22, 23] (by kernel_rfl) (by kernel_rfl) (by kernel_rfl) rfl ?_ | refine stp ?_ | intro v' hv' | intro (b : Nat) | (apply w_convU; rfl; rfl; omega; omega) | (apply w_convI; rfl; rfl; omega; omega) | (apply w_quoU; rfl; rfl; rfl; omega; omega; omega) | (apply w_remU; rfl; rfl; rfl; omega; omega) | (apply w_minL; rfl; rfl; rfl; omega) | (apply w_minG; rfl; rfl; rfl; omega) | (apply w_min; rfl; rfl; rfl) | (apply w_mfR; rfl; rfl) | (apply w_cvp; rfl; rfl; exact inferInstance; rfl; rfl; assumption) | (apply w_eqS2T; rfl; rfl; rfl; omega) | (apply w_eqS2F; rfl; rfl; rfl; omega) | (apply w_neS2T; rfl; rfl; rfl; omega) | (apply w_neS2F; rfl; rfl; rfl; omega) | (apply w_eqS3T; rfl; rfl; rfl; omega) | (apply w_eqS3F; rfl; rfl; rfl; omega) | (apply w_neS3T; rfl; rfl; rfl; omega) | (apply w_neS3F; rfl; rfl; rfl; omega) | (apply w_eqS3; rfl; rfl; rfl) | (apply w_neS3; rfl; rfl; rfl) | (apply w_eqS2; rfl; rfl; rfl) | (apply w_neS2; rfl; rfl; rfl) | (apply w_maxL; rfl; rfl; rfl; omega) | (apply w_maxG; rfl; rfl; rfl; omega) | (apply w_max; rfl; rfl; rfl) | (apply w_neB; rfl; rfl; rfl; rfl) | (apply w_eqB; rfl; rfl; rfl; rfl) | (apply w_slA; rfl; rfl) | (apply w_slAl; rfl; rfl; rfl; first | exact sMany_le _ | assumption) | (apply w_slAh; rfl; rfl; rfl; first | exact sMany_le _ | assumption) | (apply w_fldV; rfl; rfl; rfl) | (apply w_ixA; rfl; rfl; rfl; omega; omega; assumption) | (apply w_cp; rfl; rfl; exact sKinds_ok) | (apply w_cd; rfl; rfl; exact hAll _ _; ((exact kmf))) | (apply w_cd; rfl; rfl; exact hRest _ _; ((exact kmf))) | refine spl ?_ ?_ | intro hc)
          all_goals first | (exfalso; omega) | skip
          all_goals (refine At_ret1 (by (first | exact .inl rfl | exact .inr rfl)) Tryd.results9 rfl ⟨by rfl, rfl⟩ (by (exact frm)))
        | false =>
          rw [if_pos (hI.2 ⟨⟨by omega, by omega⟩, rfl, rfl⟩)]
          refine Fn1 Tryd.func9 rfl Tryd.ntmps9 rfl ?_
          (repeat' first | refine C_drawI (id := 1) [] [0, 1, 2, 3, 4, 5, 6, 7, 8, 9, 10, 11, 12, 13, 14, 15, 17, 18, 16, 19, 20, 21, 22, 23] (by kernel_rfl) (by kernel_rfl) (by kernel_rfl) rfl ?_ | refine stp ?_ | intro v' hv' | intro (b : Nat) | (apply w_convU; rfl; rfl; omega; omega) | (apply w_convI; rfl; rfl; omega; omega) | (apply w_quoU; rfl; rfl; rfl; omega; omega; omega) | (apply w_remU; rfl; rfl; rfl; omega; omega) | (apply w_minL; rfl; rfl; rfl; omega) | (apply w_minG; rfl; rfl; rfl; omega) | (apply w_min; rfl; rfl; rfl) | (apply w_mfR; rfl; rfl) | (apply w_cvp; rfl; rfl; exact inferInstance; rfl; rfl; assumption) | (apply w_eqS2T; rfl; rfl; rfl; omega) | (apply w_eqS2F; rfl; rfl; rfl; omega) | (apply w_neS2T; rfl; rfl; rfl; omega) | (apply w_neS2F; rfl; rfl; rfl; omega) | (apply w_eqS3T; rfl; rfl; rfl; omega) | (apply w_eqS3F; rfl; rfl; rfl; omega) | (apply w_neS3T; rfl; rfl; rfl; omega) | (apply w_neS3F; rfl; rfl; rfl; omega) | (apply w_eqS3; rfl; rfl; rfl) | (apply w_neS3; rfl; rfl; rfl) | (apply w_eqS2; rfl; rfl; rfl) | (apply w_neS2; rfl; rfl; rfl) | (apply w_maxL; rfl; rfl; rfl; omega) | (apply w_maxG; rfl; rfl; rfl; omega) | (apply w_max; rfl; rfl; rfl) | (apply w_neB; rfl; rfl; rfl; rfl) | (apply w_eqB; rfl; rfl; rfl; rfl) | (apply w_slA; rfl; rfl) | (apply w_slAl; rfl; rfl; rfl; first | exact sMany_le _ | assumption) | (apply w_slAh; rfl; rfl; rfl; first | exact sMany_le _ | assumption) | (apply w_fldV; rfl; rfl; rfl) | (apply w_ixA; rfl; rfl; rfl; omega; omega; assumption) | (apply w_cp; rfl; rfl; exact sKinds_ok) | (apply w_cd; rfl; rfl; exact hAll _ _; ((exact kmf))) | (apply w_cd; rfl; rfl; exact hRest _ _; ((exact kmf))) | refine spl ?_ ?_ | intro hc)
          all_goals first | (exfalso; omega) | skip
          all_goals (refine At_ret1 (by (first | exact .inl rfl | exact .inr rfl)) Tryd.results9 rfl ⟨by rfl, rfl⟩ (by (exact frm)))
end Go.Proofs.YteggkdlgailfoaaDoor
