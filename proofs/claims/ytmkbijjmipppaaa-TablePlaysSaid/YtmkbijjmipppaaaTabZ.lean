/- table's law: does. Conditions: none. -/
import Derived.Test.YtmkbijjmipppaaaTabY
set_option linter.all false
set_option linter.deprecated false
namespace Go.Proofs.Ytmkbijjmipppaaa
open Go.Sep
variable [B0 : Base]
/-- A call that comes in. -/
structure OpM where
  ask : Int
  id : Int
  n : Int
def opE (o : OpM) : List Value := [int o.ask, int o.id, int o.n]
def rkillZ (Z : RTab) (id : Int) : Int × RTab := if rfindZ Z id = 0 then (0, Z.setZ id.toNat zeroR) else (rfindZ Z id, Z)
/-- What one call makes of both tables, and whether they answer alike. -/
def doesM (T : Tab) (Z : RTab) (o : OpM) : Bool × Tab × RTab :=
  if o.ask = 0 then (decide ((spawnT T o.n).1.1 = (rspawnZ Z o.n).1.1) && decide ((spawnT T o.n).1.2 = (rspawnZ Z o.n).1.2), (spawnT T o.n).2, (rspawnZ Z o.n).2)
  else if o.ask = 1 then (decide ((runT T o.id o.n).1.1 = (rrunZ Z o.id o.n).1.1) && decide ((runT T o.id o.n).1.2 = (rrunZ Z o.id o.n).1.2), (runT T o.id o.n).2, (rrunZ Z o.id o.n).2)
  else if o.ask = 2 then (decide ((doneT T o.id).1 = (rdoneZ Z o.id).1), (doneT T o.id).2, (rdoneZ Z o.id).2)
  else (decide ((killT T o.id).1 = (rkillZ Z o.id).1), (killT T o.id).2, (rkillZ Z o.id).2)
set_option maxHeartbeats 8000000 in
theorem does_ok (bt bx : Nat) (T : Tab) (Z : RTab) (o : OpM) (hn : W64 o.n) (R : List HP) : Called Try.prog 18 [ptr bt, ptr bx, .agg (opE o).toArray] (tbl bt T :: rtbl bx Z :: R) (is (.bool (doesM T Z o).1) (tbl bt (doesM T Z o).2.1 :: rtbl bx (doesM T Z o).2.2 :: R)) := by
  obtain ⟨ask, id, n⟩ := o
  unfold doesM opE
  dsimp only at *
  by_cases h0 : ask = 0
  · rw [if_pos h0]
    have hA := Spawn_ok bt T n
    have hB := rSpawn_ok bx Z n
    dsimp only
    generalize (spawnT T n).1.1 = a at *
    generalize (spawnT T n).1.2 = e at *
    generalize (rspawnZ Z n).1.1 = a' at *
    generalize (rspawnZ Z n).1.2 = e' at *
    by_cases hx : a = a'
    · refine Fn3 Try.func18 rfl Try.ntmps18 rfl ?_
      (repeat' first | refine C_drawI (id := 11) [] [0, 1, 2, 4, 5, 6, 3, 7, 8, 9] (by kernel_rfl) (by kernel_rfl) (by kernel_rfl) rfl ?_ | refine stp ?_ | intro v' hv' | intro (b : Nat) | (apply w_convU; rfl; rfl; omega; omega) | (apply w_convI; rfl; rfl; omega; omega) | (apply w_quoU; rfl; rfl; rfl; omega; omega; omega) | (apply w_remU; rfl; rfl; rfl; omega; omega) | (apply w_minL; rfl; rfl; rfl; omega) | (apply w_minG; rfl; rfl; rfl; omega) | (apply w_min; rfl; rfl; rfl) | (apply w_mfR; rfl; rfl) | (apply w_cvp; rfl; rfl; exact inferInstance; rfl; rfl; assumption) | (apply w_eqS2T; rfl; rfl; rfl; omega) | (apply w_eqS2F; rfl; rfl; rfl; omega) | (apply w_neS2T; rfl; rfl; rfl; omega) | (apply w_neS2F; rfl; rfl; rfl; omega) | (apply w_eqS3T; rfl; rfl; rfl; omega) | (apply w_eqS3F; rfl; rfl; rfl; omega) | (apply w_neS3T; rfl; rfl; rfl; omega) | (apply w_neS3F; rfl; rfl; rfl; omega) | (apply w_eqS3; rfl; rfl; rfl) | (apply w_neS3; rfl; rfl; rfl) | (apply w_eqS2; rfl; rfl; rfl) | (apply w_neS2; rfl; rfl; rfl) | (apply w_maxL; rfl; rfl; rfl; omega) | (apply w_maxG; rfl; rfl; rfl; omega) | (apply w_max; rfl; rfl; rfl) | (apply w_neB; rfl; rfl; rfl; rfl) | (apply w_eqB; rfl; rfl; rfl; rfl) | (apply w_sa; rfl; rfl; rfl; rfl; (focus ((repeat (first | exact hSa _ | apply StAll.there)); done)); ((exact kmf))) | (apply w_cd; rfl; rfl; apply Called.at (h := hA); ((focus ((repeat (first | exact Rep.here | apply Rep.there)); done))); ((exact kmf))) | (apply w_cd; rfl; rfl; apply Called.at (h := hB); ((focus ((repeat (first | exact Rep.here | apply Rep.there)); done))); ((exact kmf))) | refine spl ?_ ?_ | intro hc)
      all_goals (refine At_ret1 (by (first | exact .inl rfl | exact .inr rfl)) Try.results18 rfl ⟨by (simp_all; done), rfl⟩ (by (exact frm)))
    · refine Fn3 Try.func18 rfl Try.ntmps18 rfl ?_
      (repeat' first | refine C_drawI (id := 11) [] [0, 1, 2, 4, 5, 6, 3, 7, 8, 9] (by kernel_rfl) (by kernel_rfl) (by kernel_rfl) rfl ?_ | refine stp ?_ | intro v' hv' | intro (b : Nat) | (apply w_convU; rfl; rfl; omega; omega) | (apply w_convI; rfl; rfl; omega; omega) | (apply w_quoU; rfl; rfl; rfl; omega; omega; omega) | (apply w_remU; rfl; rfl; rfl; omega; omega) | (apply w_minL; rfl; rfl; rfl; omega) | (apply w_minG; rfl; rfl; rfl; omega) | (apply w_min; rfl; rfl; rfl) | (apply w_mfR; rfl; rfl) | (apply w_cvp; rfl; rfl; exact inferInstance; rfl; rfl; assumption) | (apply w_eqS2T; rfl; rfl; rfl; omega) | (apply w_eqS2F; rfl; rfl; rfl; omega) | (apply w_neS2T; rfl; rfl; rfl; omega) | (apply w_neS2F; rfl; rfl; rfl; omega) | (apply w_eqS3T; rfl; rfl; rfl; omega) | (apply w_eqS3F; rfl; rfl; rfl; omega) | (apply w_neS3T; rfl; rfl; rfl; omega) | (apply w_neS3F; rfl; rfl; rfl; omega) | (apply w_eqS3; rfl; rfl; rfl) | (apply w_neS3; rfl; rfl; rfl) | (apply w_eqS2; rfl; rfl; rfl) | (apply w_neS2; rfl; rfl; rfl) | (apply w_maxL; rfl; rfl; rfl; omega) | (apply w_maxG; rfl; rfl; rfl; omega) | (apply w_max; rfl; rfl; rfl) | (apply w_neB; rfl; rfl; rfl; rfl) | (apply w_eqB; rfl; rfl; rfl; rfl) | (apply w_sa; rfl; rfl; rfl; rfl; (focus ((repeat (first | exact hSa _ | apply StAll.there)); done)); ((exact kmf))) | (apply w_cd; rfl; rfl; apply Called.at (h := hA); ((focus ((repeat (first | exact Rep.here | apply Rep.there)); done))); ((exact kmf))) | (apply w_cd; rfl; rfl; apply Called.at (h := hB); ((focus ((repeat (first | exact Rep.here | apply Rep.there)); done))); ((exact kmf))) | refine spl ?_ ?_ | intro hc)
      all_goals (refine At_ret1 (by (first | exact .inl rfl | exact .inr rfl)) Try.results18 rfl ⟨by (simp_all; done), rfl⟩ (by (exact frm)))
  · rw [if_neg h0]
    by_cases h1 : ask = 1
    · rw [if_pos h1]
      have hA := Run_ok bt T id n hn
      have hB := rRun_ok bx Z id n hn
      dsimp only
      generalize (runT T id n).1.1 = a at *
      generalize (runT T id n).1.2 = e at *
      generalize (rrunZ Z id n).1.1 = a' at *
      generalize (rrunZ Z id n).1.2 = e' at *
      by_cases hx : a = a'
      · refine Fn3 Try.func18 rfl Try.ntmps18 rfl ?_
        (repeat' first | refine C_drawI (id := 11) [] [0, 1, 2, 4, 5, 6, 3, 7, 8, 9] (by kernel_rfl) (by kernel_rfl) (by kernel_rfl) rfl ?_ | refine stp ?_ | intro v' hv' | intro (b : Nat) | (apply w_convU; rfl; rfl; omega; omega) | (apply w_convI; rfl; rfl; omega; omega) | (apply w_quoU; rfl; rfl; rfl; omega; omega; omega) | (apply w_remU; rfl; rfl; rfl; omega; omega) | (apply w_minL; rfl; rfl; rfl; omega) | (apply w_minG; rfl; rfl; rfl; omega) | (apply w_min; rfl; rfl; rfl) | (apply w_mfR; rfl; rfl) | (apply w_cvp; rfl; rfl; exact inferInstance; rfl; rfl; assumption) | (apply w_eqS2T; rfl; rfl; rfl; omega) | (apply w_eqS2F; rfl; rfl; rfl; omega) | (apply w_neS2T; rfl; rfl; rfl; omega) | (apply w_neS2F; rfl; rfl; rfl; omega) | (apply w_eqS3T; rfl; rfl; rfl; omega) | (apply w_eqS3F; rfl; rfl; rfl; omega) | (apply w_neS3T; rfl; rfl; rfl; omega) | (apply w_neS3F; rfl; rfl; rfl; omega) | (apply w_eqS3; rfl; rfl; rfl) | (apply w_neS3; rfl; rfl; rfl) | (apply w_eqS2; rfl; rfl; rfl) | (apply w_neS2; rfl; rfl; rfl) | (apply w_maxL; rfl; rfl; rfl; omega) | (apply w_maxG; rfl; rfl; rfl; omega) | (apply w_max; rfl; rfl; rfl) | (apply w_neB; rfl; rfl; rfl; rfl) | (apply w_eqB; rfl; rfl; rfl; rfl) | (apply w_sa; rfl; rfl; rfl; rfl; (focus ((repeat (first | exact hSa _ | apply StAll.there)); done)); ((exact kmf))) | (apply w_cd; rfl; rfl; apply Called.at (h := hA); ((focus ((repeat (first | exact Rep.here | apply Rep.there)); done))); ((exact kmf))) | (apply w_cd; rfl; rfl; apply Called.at (h := hB); ((focus ((repeat (first | exact Rep.here | apply Rep.there)); done))); ((exact kmf))) | refine spl ?_ ?_ | intro hc)
        all_goals (refine At_ret1 (by (first | exact .inl rfl | exact .inr rfl)) Try.results18 rfl ⟨by (simp_all; done), rfl⟩ (by (exact frm)))
      · refine Fn3 Try.func18 rfl Try.ntmps18 rfl ?_
        (repeat' first | refine C_drawI (id := 11) [] [0, 1, 2, 4, 5, 6, 3, 7, 8, 9] (by kernel_rfl) (by kernel_rfl) (by kernel_rfl) rfl ?_ | refine stp ?_ | intro v' hv' | intro (b : Nat) | (apply w_convU; rfl; rfl; omega; omega) | (apply w_convI; rfl; rfl; omega; omega) | (apply w_quoU; rfl; rfl; rfl; omega; omega; omega) | (apply w_remU; rfl; rfl; rfl; omega; omega) | (apply w_minL; rfl; rfl; rfl; omega) | (apply w_minG; rfl; rfl; rfl; omega) | (apply w_min; rfl; rfl; rfl) | (apply w_mfR; rfl; rfl) | (apply w_cvp; rfl; rfl; exact inferInstance; rfl; rfl; assumption) | (apply w_eqS2T; rfl; rfl; rfl; omega) | (apply w_eqS2F; rfl; rfl; rfl; omega) | (apply w_neS2T; rfl; rfl; rfl; omega) | (apply w_neS2F; rfl; rfl; rfl; omega) | (apply w_eqS3T; rfl; rfl; rfl; omega) | (apply w_eqS3F; rfl; rfl; rfl; omega) | (apply w_neS3T; rfl; rfl; rfl; omega) | (apply w_neS3F; rfl; rfl; rfl; omega) | (apply w_eqS3; rfl; rfl; rfl) | (apply w_neS3; rfl; rfl; rfl) | (apply w_eqS2; rfl; rfl; rfl) | (apply w_neS2; rfl; rfl; rfl) | (apply w_maxL; rfl; rfl; rfl; omega) | (apply w_maxG; rfl; rfl; rfl; omega) | (apply w_max; rfl; rfl; rfl) | (apply w_neB; rfl; rfl; rfl; rfl) | (apply w_eqB; rfl; rfl; rfl; rfl) | (apply w_sa; rfl; rfl; rfl; rfl; (focus ((repeat (first | exact hSa _ | apply StAll.there)); done)); ((exact kmf))) | (apply w_cd; rfl; rfl; apply Called.at (h := hA); ((focus ((repeat (first | exact Rep.here | apply Rep.there)); done))); ((exact kmf))) | (apply w_cd; rfl; rfl; apply Called.at (h := hB); ((focus ((repeat (first | exact Rep.here | apply Rep.there)); done))); ((exact kmf))) | refine spl ?_ ?_ | intro hc)
        all_goals (refine At_ret1 (by (first | exact .inl rfl | exact .inr rfl)) Try.results18 rfl ⟨by (simp_all; done), rfl⟩ (by (exact frm)))
    · rw [if_neg h1]
      by_cases h2 : ask = 2
      · rw [if_pos h2]
        have hA := Done_ok bt T id
        have hB := rDone_ok bx Z id
        dsimp only
        refine Fn3 Try.func18 rfl Try.ntmps18 rfl ?_
        (repeat' first | refine C_drawI (id := 11) [] [0, 1, 2, 4, 5, 6, 3, 7, 8, 9] (by kernel_rfl) (by kernel_rfl) (by kernel_rfl) rfl ?_ | refine stp ?_ | intro v' hv' | intro (b : Nat) | (apply w_convU; rfl; rfl; omega; omega) | (apply w_convI; rfl; rfl; omega; omega) | (apply w_quoU; rfl; rfl; rfl; omega; omega; omega) | (apply w_remU; rfl; rfl; rfl; omega; omega) | (apply w_minL; rfl; rfl; rfl; omega) | (apply w_minG; rfl; rfl; rfl; omega) | (apply w_min; rfl; rfl; rfl) | (apply w_mfR; rfl; rfl) | (apply w_cvp; rfl; rfl; exact inferInstance; rfl; rfl; assumption) | (apply w_eqS2T; rfl; rfl; rfl; omega) | (apply w_eqS2F; rfl; rfl; rfl; omega) | (apply w_neS2T; rfl; rfl; rfl; omega) | (apply w_neS2F; rfl; rfl; rfl; omega) | (apply w_eqS3T; rfl; rfl; rfl; omega) | (apply w_eqS3F; rfl; rfl; rfl; omega) | (apply w_neS3T; rfl; rfl; rfl; omega) | (apply w_neS3F; rfl; rfl; rfl; omega) | (apply w_eqS3; rfl; rfl; rfl) | (apply w_neS3; rfl; rfl; rfl) | (apply w_eqS2; rfl; rfl; rfl) | (apply w_neS2; rfl; rfl; rfl) | (apply w_maxL; rfl; rfl; rfl; omega) | (apply w_maxG; rfl; rfl; rfl; omega) | (apply w_max; rfl; rfl; rfl) | (apply w_neB; rfl; rfl; rfl; rfl) | (apply w_eqB; rfl; rfl; rfl; rfl) | (apply w_sa; rfl; rfl; rfl; rfl; (focus ((repeat (first | exact hSa _ | apply StAll.there)); done)); ((exact kmf))) | (apply w_cd; rfl; rfl; apply Called.at (h := hA); ((focus ((repeat (first | exact Rep.here | apply Rep.there)); done))); ((exact kmf))) | (apply w_cd; rfl; rfl; apply Called.at (h := hB); ((focus ((repeat (first | exact Rep.here | apply Rep.there)); done))); ((exact kmf))) | refine spl ?_ ?_ | intro hc)
        all_goals (refine At_ret1 (by (first | exact .inl rfl | exact .inr rfl)) Try.results18 rfl ⟨by rfl, rfl⟩ (by (exact frm)))
      · rw [if_neg h2]
        have hB := Kill_ok bt T id
        dsimp only
        unfold rkillZ
        refine Fn3 Try.func18 rfl Try.ntmps18 rfl ?_
        refine C_sat (L' := rtbl bx Z :: tbl bt T :: R) (fun w h => h.perm (.swap ..)) ?_
        refine C_rtbl fun lv ys es hok => ?_
        have hA := rFindL_ok bx Z lv ys es hok id
        by_cases hf : rfindZ Z id = 0
        · rw [if_pos hf]
          rw [hf] at hA
          obtain ⟨i0, i1⟩ := rfind_0 hf
          obtain ⟨e, he, hz⟩ := hok.get (i := id.toNat) (by omega)
          have hSa : ∀ L, StAll (pt bx 85 (rcells lv es) :: L) bx (1 + id.toNat * 4) [.bool false, int 0, int 0, .slice none 0 0] (pt bx 85 (rcells lv (es.set id.toNat zeroE)) :: L) := fun L => StAll.ref he rfl
          have hfold : ∀ w Y, Sat w (pt bx 85 (rcells lv (es.set id.toNat zeroE)) :: ownsH es :: rlibH lv ys :: Y) → Sat w (rtbl bx (Z.setZ id.toNat zeroR) :: Y) := fun w Y h => rtbl_fold hok.zero ((owns_zero he (h.perm (.swap ..))).perm (.swap ..))
          (repeat' first | refine C_drawI (id := 11) [] [0, 1, 2, 4, 5, 6, 3, 7, 8, 9] (by kernel_rfl) (by kernel_rfl) (by kernel_rfl) rfl ?_ | refine stp ?_ | intro v' hv' | intro (b : Nat) | (apply w_convU; rfl; rfl; omega; omega) | (apply w_convI; rfl; rfl; omega; omega) | (apply w_quoU; rfl; rfl; rfl; omega; omega; omega) | (apply w_remU; rfl; rfl; rfl; omega; omega) | (apply w_minL; rfl; rfl; rfl; omega) | (apply w_minG; rfl; rfl; rfl; omega) | (apply w_min; rfl; rfl; rfl) | (apply w_mfR; rfl; rfl) | (apply w_cvp; rfl; rfl; exact inferInstance; rfl; rfl; assumption) | (apply w_eqS2T; rfl; rfl; rfl; omega) | (apply w_eqS2F; rfl; rfl; rfl; omega) | (apply w_neS2T; rfl; rfl; rfl; omega) | (apply w_neS2F; rfl; rfl; rfl; omega) | (apply w_eqS3T; rfl; rfl; rfl; omega) | (apply w_eqS3F; rfl; rfl; rfl; omega) | (apply w_neS3T; rfl; rfl; rfl; omega) | (apply w_neS3F; rfl; rfl; rfl; omega) | (apply w_eqS3; rfl; rfl; rfl) | (apply w_neS3; rfl; rfl; rfl) | (apply w_eqS2; rfl; rfl; rfl) | (apply w_neS2; rfl; rfl; rfl) | (apply w_maxL; rfl; rfl; rfl; omega) | (apply w_maxG; rfl; rfl; rfl; omega) | (apply w_max; rfl; rfl; rfl) | (apply w_neB; rfl; rfl; rfl; rfl) | (apply w_eqB; rfl; rfl; rfl; rfl) | (apply w_sa; rfl; rfl; rfl; rfl; (focus ((repeat (first | exact hSa _ | apply StAll.there)); done)); ((exact kmf))) | (apply w_cd; rfl; rfl; apply Called.at (h := hA); ((focus ((repeat (first | exact Rep.here | apply Rep.there)); done))); ((exact kmf))) | (apply w_cd; rfl; rfl; apply Called.at (h := hB); ((focus ((repeat (first | exact Rep.here | apply Rep.there)); done))); ((exact kmf))) | refine spl ?_ ?_ | intro hc)
          all_goals (apply At_retR (by (first | exact .inl rfl | exact .inr rfl)) Try.results18; ((focus ((repeat (first | exact ResR.nil | (apply ResR.tmp; rfl) | (apply ResR.one; rfl; (focus ((repeat (first | assumption | exact .pt rfl | exact .sl ‹_› rfl | exact .sl1 (by first | assumption | rfl) | apply Rd.there)); done))) | (apply ResR.agg; rfl; (focus ((repeat (first | assumption | exact .pt | exact .sl ‹_› | apply RdAll.there)); done)); rfl))); done))); (refine ⟨?_, rfl⟩; rfl); (exact fun w h => (hfold w _ (Sel.sat (by (focus ((repeat (first | exact Sel.refl | (apply Sel.cons; (focus ((repeat (first | exact Del.here | apply Del.there)); done))) | refine Sel.drop ?_)); done))) h : Sat w (pt bx 85 (rcells lv (es.set id.toNat zeroE)) :: ownsH es :: rlibH lv ys :: tbl bt (killT T id).2 :: R))).perm (.swap ..)))
        · rw [if_neg hf]
          have hfold : ∀ w Y, Sat w (pt bx 85 (rcells lv es) :: ownsH es :: rlibH lv ys :: Y) → Sat w (rtbl bx Z :: Y) := fun w Y h => rtbl_fold hok h
          (repeat' first | refine C_drawI (id := 11) [] [0, 1, 2, 4, 5, 6, 3, 7, 8, 9] (by kernel_rfl) (by kernel_rfl) (by kernel_rfl) rfl ?_ | refine stp ?_ | intro v' hv' | intro (b : Nat) | (apply w_convU; rfl; rfl; omega; omega) | (apply w_convI; rfl; rfl; omega; omega) | (apply w_quoU; rfl; rfl; rfl; omega; omega; omega) | (apply w_remU; rfl; rfl; rfl; omega; omega) | (apply w_minL; rfl; rfl; rfl; omega) | (apply w_minG; rfl; rfl; rfl; omega) | (apply w_min; rfl; rfl; rfl) | (apply w_mfR; rfl; rfl) | (apply w_cvp; rfl; rfl; exact inferInstance; rfl; rfl; assumption) | (apply w_eqS2T; rfl; rfl; rfl; omega) | (apply w_eqS2F; rfl; rfl; rfl; omega) | (apply w_neS2T; rfl; rfl; rfl; omega) | (apply w_neS2F; rfl; rfl; rfl; omega) | (apply w_eqS3T; rfl; rfl; rfl; omega) | (apply w_eqS3F; rfl; rfl; rfl; omega) | (apply w_neS3T; rfl; rfl; rfl; omega) | (apply w_neS3F; rfl; rfl; rfl; omega) | (apply w_eqS3; rfl; rfl; rfl) | (apply w_neS3; rfl; rfl; rfl) | (apply w_eqS2; rfl; rfl; rfl) | (apply w_neS2; rfl; rfl; rfl) | (apply w_maxL; rfl; rfl; rfl; omega) | (apply w_maxG; rfl; rfl; rfl; omega) | (apply w_max; rfl; rfl; rfl) | (apply w_neB; rfl; rfl; rfl; rfl) | (apply w_eqB; rfl; rfl; rfl; rfl) | (apply w_sa; rfl; rfl; rfl; rfl; (focus ((repeat (first | exact hSa _ | apply StAll.there)); done)); ((exact kmf))) | (apply w_cd; rfl; rfl; apply Called.at (h := hA); ((focus ((repeat (first | exact Rep.here | apply Rep.there)); done))); ((exact kmf))) | (apply w_cd; rfl; rfl; apply Called.at (h := hB); ((focus ((repeat (first | exact Rep.here | apply Rep.there)); done))); ((exact kmf))) | refine spl ?_ ?_ | intro hc)
          all_goals (apply At_retR (by (first | exact .inl rfl | exact .inr rfl)) Try.results18; ((focus ((repeat (first | exact ResR.nil | (apply ResR.tmp; rfl) | (apply ResR.one; rfl; (focus ((repeat (first | assumption | exact .pt rfl | exact .sl ‹_› rfl | exact .sl1 (by first | assumption | rfl) | apply Rd.there)); done))) | (apply ResR.agg; rfl; (focus ((repeat (first | assumption | exact .pt | exact .sl ‹_› | apply RdAll.there)); done)); rfl))); done))); (refine ⟨?_, rfl⟩; rfl); (exact fun w h => (hfold w _ (Sel.sat (by (focus ((repeat (first | exact Sel.refl | (apply Sel.cons; (focus ((repeat (first | exact Del.here | apply Del.there)); done))) | refine Sel.drop ?_)); done))) h : Sat w (pt bx 85 (rcells lv es) :: ownsH es :: rlibH lv ys :: tbl bt (killT T id).2 :: R))).perm (.swap ..)))
end Go.Proofs.Ytmkbijjmipppaaa
