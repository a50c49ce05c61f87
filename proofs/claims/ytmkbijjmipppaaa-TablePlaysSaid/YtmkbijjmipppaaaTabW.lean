/- table's reference: Done, Spawn. Conditions: none. -/
import Derived.Test.YtmkbijjmipppaaaTabV
set_option linter.all false
set_option linter.deprecated false
namespace Go.Proofs.Ytmkbijjmipppaaa
open Go.Sep
variable [B0 : Base]
def zeroR : RTm := ⟨false, 0, 0, []⟩
def zeroE : RE := ⟨false, 0, 0, .slice none 0 0, .slice none 0 0, [], 0⟩
def rdoneZ (Z : RTab) (id : Int) : Int × RTab := if rfindZ Z id ≠ 0 then (rfindZ Z id, Z) else if (ractZ Z id).1 = 1 then (16, Z) else if (ractZ Z id).1 = 9 then (0, Z.setZ id.toNat zeroR) else match Z.ths[id.toNat]? with
  | none => (0, Z)
  | some t => (0, Z.setZ id.toNat (onR t))
set_option maxHeartbeats 8000000 in
theorem rDone1_ok (b : Nat) (Z : RTab) (id : Int) (hnot : ¬ (rfindZ Z id = 0 ∧ (ractZ Z id).1 = 9)) (R : List HP) : Called Try.prog 37 [ptr b, int id] (rtbl b Z :: R) (is (int (rdoneZ Z id).1) (rtbl b (rdoneZ Z id).2 :: R)) := by
  have hF := rFind_ok b Z id
  unfold rdoneZ
  by_cases hf : rfindZ Z id = 0
  · rw [if_neg (show ¬ (rfindZ Z id ≠ 0) by simpa using hf)]
    rw [hf] at hF
    obtain ⟨h0, h1⟩ := rfind_0 hf
    have hA := rAct_ok b Z id h0 h1
    by_cases ha : (ractZ Z id).1 = 1
    · rw [if_pos ha]
      rw [ha] at hA
      refine Fn2 Try.func37 rfl Try.ntmps37 rfl ?_
      (repeat' first | refine stp ?_ | intro v' hv' | intro (b : Nat) | (apply w_convU; rfl; rfl; omega; omega) | (apply w_convI; rfl; rfl; omega; omega) | (apply w_quoU; rfl; rfl; rfl; omega; omega; omega) | (apply w_remU; rfl; rfl; rfl; omega; omega) | (apply w_minL; rfl; rfl; rfl; omega) | (apply w_minG; rfl; rfl; rfl; omega) | (apply w_min; rfl; rfl; rfl) | (apply w_mfR; rfl; rfl) | (apply w_cvp; rfl; rfl; exact inferInstance; rfl; rfl; assumption) | (apply w_eqS2T; rfl; rfl; rfl; omega) | (apply w_eqS2F; rfl; rfl; rfl; omega) | (apply w_neS2T; rfl; rfl; rfl; omega) | (apply w_neS2F; rfl; rfl; rfl; omega) | (apply w_eqS3T; rfl; rfl; rfl; omega) | (apply w_eqS3F; rfl; rfl; rfl; omega) | (apply w_neS3T; rfl; rfl; rfl; omega) | (apply w_neS3F; rfl; rfl; rfl; omega) | (apply w_eqS3; rfl; rfl; rfl) | (apply w_neS3; rfl; rfl; rfl) | (apply w_eqS2; rfl; rfl; rfl) | (apply w_neS2; rfl; rfl; rfl) | (apply w_maxL; rfl; rfl; rfl; omega) | (apply w_maxG; rfl; rfl; rfl; omega) | (apply w_max; rfl; rfl; rfl) | (apply w_neB; rfl; rfl; rfl; rfl) | (apply w_eqB; rfl; rfl; rfl; rfl) | (apply w_fldV; rfl; rfl; rfl) | (apply w_cq; rfl; rfl; apply Called.at (h := hF); ((focus ((repeat (first | exact Rep.here | apply Rep.there)); done)))) | (apply w_cq; rfl; rfl; apply Called.at (h := hA); ((focus ((repeat (first | exact Rep.here | apply Rep.there)); done)))) | (apply w_cd; rfl; rfl; apply Called.at (h := hO); ((focus ((repeat (first | exact Rep.here | apply Rep.there)); done))); ((exact kmf))) | refine spl ?_ ?_ | intro hc)
      all_goals (refine At_ret1 (by (first | exact .inl rfl | exact .inr rfl)) Try.results37 rfl ⟨by rfl, rfl⟩ (by (exact frm)))
    · rw [if_neg ha]
      have h9 : (ractZ Z id).1 ≠ 9 := fun h => hnot ⟨hf, h⟩
      rw [if_neg h9]
      cases hz : Z.ths[id.toNat]? with
      | none => unfold ractZ at h9; rw [hz] at h9; exact absurd rfl h9
      | some t =>
        have hne : t.todo ≠ [] := fun he => by unfold ractZ at h9; rw [hz] at h9; dsimp only at h9; rw [he] at h9; exact absurd rfl h9
        have hO := on_ok b Z id h0 h1 t hz hne
        dsimp only
        generalize (ractZ Z id).1 = a1 at *
        generalize (ractZ Z id).2 = a2 at *
        refine Fn2 Try.func37 rfl Try.ntmps37 rfl ?_
        (repeat' first | refine stp ?_ | intro v' hv' | intro (b : Nat) | (apply w_convU; rfl; rfl; omega; omega) | (apply w_convI; rfl; rfl; omega; omega) | (apply w_quoU; rfl; rfl; rfl; omega; omega; omega) | (apply w_remU; rfl; rfl; rfl; omega; omega) | (apply w_minL; rfl; rfl; rfl; omega) | (apply w_minG; rfl; rfl; rfl; omega) | (apply w_min; rfl; rfl; rfl) | (apply w_mfR; rfl; rfl) | (apply w_cvp; rfl; rfl; exact inferInstance; rfl; rfl; assumption) | (apply w_eqS2T; rfl; rfl; rfl; omega) | (apply w_eqS2F; rfl; rfl; rfl; omega) | (apply w_neS2T; rfl; rfl; rfl; omega) | (apply w_neS2F; rfl; rfl; rfl; omega) | (apply w_eqS3T; rfl; rfl; rfl; omega) | (apply w_eqS3F; rfl; rfl; rfl; omega) | (apply w_neS3T; rfl; rfl; rfl; omega) | (apply w_neS3F; rfl; rfl; rfl; omega) | (apply w_eqS3; rfl; rfl; rfl) | (apply w_neS3; rfl; rfl; rfl) | (apply w_eqS2; rfl; rfl; rfl) | (apply w_neS2; rfl; rfl; rfl) | (apply w_maxL; rfl; rfl; rfl; omega) | (apply w_maxG; rfl; rfl; rfl; omega) | (apply w_max; rfl; rfl; rfl) | (apply w_neB; rfl; rfl; rfl; rfl) | (apply w_eqB; rfl; rfl; rfl; rfl) | (apply w_fldV; rfl; rfl; rfl) | (apply w_cq; rfl; rfl; apply Called.at (h := hF); ((focus ((repeat (first | exact Rep.here | apply Rep.there)); done)))) | (apply w_cq; rfl; rfl; apply Called.at (h := hA); ((focus ((repeat (first | exact Rep.here | apply Rep.there)); done)))) | (apply w_cd; rfl; rfl; apply Called.at (h := hO); ((focus ((repeat (first | exact Rep.here | apply Rep.there)); done))); ((exact kmf))) | refine spl ?_ ?_ | intro hc)
        all_goals (refine At_ret1 (by (first | exact .inl rfl | exact .inr rfl)) Try.results37 rfl ⟨by rfl, rfl⟩ (by (exact frm)))
  · rw [if_pos hf]
    refine Fn2 Try.func37 rfl Try.ntmps37 rfl ?_
    (repeat' first | refine stp ?_ | intro v' hv' | intro (b : Nat) | (apply w_convU; rfl; rfl; omega; omega) | (apply w_convI; rfl; rfl; omega; omega) | (apply w_quoU; rfl; rfl; rfl; omega; omega; omega) | (apply w_remU; rfl; rfl; rfl; omega; omega) | (apply w_minL; rfl; rfl; rfl; omega) | (apply w_minG; rfl; rfl; rfl; omega) | (apply w_min; rfl; rfl; rfl) | (apply w_mfR; rfl; rfl) | (apply w_cvp; rfl; rfl; exact inferInstance; rfl; rfl; assumption) | (apply w_eqS2T; rfl; rfl; rfl; omega) | (apply w_eqS2F; rfl; rfl; rfl; omega) | (apply w_neS2T; rfl; rfl; rfl; omega) | (apply w_neS2F; rfl; rfl; rfl; omega) | (apply w_eqS3T; rfl; rfl; rfl; omega) | (apply w_eqS3F; rfl; rfl; rfl; omega) | (apply w_neS3T; rfl; rfl; rfl; omega) | (apply w_neS3F; rfl; rfl; rfl; omega) | (apply w_eqS3; rfl; rfl; rfl) | (apply w_neS3; rfl; rfl; rfl) | (apply w_eqS2; rfl; rfl; rfl) | (apply w_neS2; rfl; rfl; rfl) | (apply w_maxL; rfl; rfl; rfl; omega) | (apply w_maxG; rfl; rfl; rfl; omega) | (apply w_max; rfl; rfl; rfl) | (apply w_neB; rfl; rfl; rfl; rfl) | (apply w_eqB; rfl; rfl; rfl; rfl) | (apply w_fldV; rfl; rfl; rfl) | (apply w_cq; rfl; rfl; apply Called.at (h := hF); ((focus ((repeat (first | exact Rep.here | apply Rep.there)); done)))) | (apply w_cq; rfl; rfl; apply Called.at (h := hA); ((focus ((repeat (first | exact Rep.here | apply Rep.there)); done)))) | (apply w_cd; rfl; rfl; apply Called.at (h := hO); ((focus ((repeat (first | exact Rep.here | apply Rep.there)); done))); ((exact kmf))) | refine spl ?_ ?_ | intro hc)
    all_goals (refine At_ret1 (by (first | exact .inl rfl | exact .inr rfl)) Try.results37 rfl ⟨by rfl, rfl⟩ (by (exact frm)))
theorem RTabOk.zero {Z : RTab} {lv : Value} {ys : List (Value × List Ins)} {es : List RE} (h : RTabOk Z lv ys es) {i : Nat} : RTabOk (Z.setZ i zeroR) lv ys (es.set i zeroE) :=
  h.set (e := zeroE) (TvOk.start IsSl.nil) (Nat.zero_le _) rfl (fun _ h => by cases h)
theorem owns_zero {es : List RE} {i : Nat} {e : RE} (h : es[i]? = some e) {w : World} {R : List HP} (hs : Sat w (ownsH es :: R)) : Sat w (ownsH (es.set i zeroE) :: R) := by
  have h1 := (owns_open h hs).drop
  exact owns_close h (e2 := zeroE) (h1.sl_nil (E := 86) (n := 2))
set_option maxHeartbeats 8000000 in
theorem rDone2_ok (b : Nat) (Z : RTab) (id : Int) (hf : rfindZ Z id = 0) (h9 : (ractZ Z id).1 = 9) (R : List HP) : Called Try.prog 37 [ptr b, int id] (rtbl b Z :: R) (is (int (rdoneZ Z id).1) (rtbl b (rdoneZ Z id).2 :: R)) := by
  obtain ⟨h0, h1⟩ := rfind_0 hf
  have hres : rdoneZ Z id = (0, Z.setZ id.toNat zeroR) := by
    unfold rdoneZ
    rw [if_neg (show ¬ (rfindZ Z id ≠ 0) by simpa using hf), if_neg (by rw [h9]; decide), if_pos h9]
  rw [hres]
  refine Fn2 Try.func37 rfl Try.ntmps37 rfl ?_
  refine C_rtbl fun lv ys es hok => ?_
  have hF := rFindL_ok b Z lv ys es hok id
  rw [hf] at hF
  have hA := rActL_ok b Z lv ys es hok id h0 h1
  rw [h9] at hA
  obtain ⟨e, he, hz⟩ := hok.get (i := id.toNat) (by omega)
  have hSa : ∀ L, StAll (pt b 85 (rcells lv es) :: L) b (1 + id.toNat * 4) [.bool false, int 0, int 0, .slice none 0 0] (pt b 85 (rcells lv (es.set id.toNat zeroE)) :: L) := fun L => StAll.ref he rfl
  (repeat' first | refine stp ?_ | intro v' hv' | intro (b : Nat) | (apply w_convU; rfl; rfl; omega; omega) | (apply w_convI; rfl; rfl; omega; omega) | (apply w_quoU; rfl; rfl; rfl; omega; omega; omega) | (apply w_remU; rfl; rfl; rfl; omega; omega) | (apply w_minL; rfl; rfl; rfl; omega) | (apply w_minG; rfl; rfl; rfl; omega) | (apply w_min; rfl; rfl; rfl) | (apply w_mfR; rfl; rfl) | (apply w_cvp; rfl; rfl; exact inferInstance; rfl; rfl; assumption) | (apply w_eqS2T; rfl; rfl; rfl; omega) | (apply w_eqS2F; rfl; rfl; rfl; omega) | (apply w_neS2T; rfl; rfl; rfl; omega) | (apply w_neS2F; rfl; rfl; rfl; omega) | (apply w_eqS3T; rfl; rfl; rfl; omega) | (apply w_eqS3F; rfl; rfl; rfl; omega) | (apply w_neS3T; rfl; rfl; rfl; omega) | (apply w_neS3F; rfl; rfl; rfl; omega) | (apply w_eqS3; rfl; rfl; rfl) | (apply w_neS3; rfl; rfl; rfl) | (apply w_eqS2; rfl; rfl; rfl) | (apply w_neS2; rfl; rfl; rfl) | (apply w_maxL; rfl; rfl; rfl; omega) | (apply w_maxG; rfl; rfl; rfl; omega) | (apply w_max; rfl; rfl; rfl) | (apply w_neB; rfl; rfl; rfl; rfl) | (apply w_eqB; rfl; rfl; rfl; rfl) | (apply w_sa; rfl; rfl; rfl; rfl; (focus ((repeat (first | exact hSa _ | apply StAll.there)); done)); ((exact kmf))) | (apply w_fldV; rfl; rfl; rfl) | (apply w_cq; rfl; rfl; apply Called.at (h := hF); ((focus ((repeat (first | exact Rep.here | apply Rep.there)); done)))) | (apply w_cq; rfl; rfl; apply Called.at2 (h := hA); ((focus ((repeat (first | (apply Rep2.here; ((focus ((repeat (first | exact Rep.here | apply Rep.there)); done)))) | (apply Rep2.other; ((focus ((repeat (first | exact Rep.here | apply Rep.there)); done)))) | apply Rep2.there)); done)))) | refine spl ?_ ?_ | intro hc)
  all_goals (apply At_retR (by (first | exact .inl rfl | exact .inr rfl)) Try.results37; ((focus ((repeat (first | exact ResR.nil | (apply ResR.tmp; rfl) | (apply ResR.one; rfl; (focus ((repeat (first | assumption | exact .pt rfl | exact .sl ‹_› rfl | exact .sl1 (by first | assumption | rfl) | apply Rd.there)); done))) | (apply ResR.agg; rfl; (focus ((repeat (first | assumption | exact .pt | exact .sl ‹_› | apply RdAll.there)); done)); rfl))); done))); (refine ⟨?_, rfl⟩; rfl); (exact fun w h => rtbl_fold hok.zero ((owns_zero he (h.perm (.swap ..) : Sat w (ownsH es :: pt b 85 (rcells lv (es.set id.toNat zeroE)) :: rlibH lv ys :: R))).perm (.swap ..))))
theorem rDone_ok (b : Nat) (Z : RTab) (id : Int) (R : List HP) : Called Try.prog 37 [ptr b, int id] (rtbl b Z :: R) (is (int (rdoneZ Z id).1) (rtbl b (rdoneZ Z id).2 :: R)) := by
  by_cases h : rfindZ Z id = 0 ∧ (ractZ Z id).1 = 9
  · exact rDone2_ok b Z id h.1 h.2 R
  · exact rDone1_ok b Z id h R
end Go.Proofs.Ytmkbijjmipppaaa
