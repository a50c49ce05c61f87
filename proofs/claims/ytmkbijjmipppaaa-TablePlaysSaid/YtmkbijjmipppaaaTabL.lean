/- table's law: the reference's Rest, Left; seen. Conditions: none. -/
import Derived.Test.YtmkbijjmipppaaaTabZ
import Derived.Test.YtmkbijjmipppaaaTabR
import Derived.Test.YtmkbijjmipppaaaPrE
set_option linter.all false
set_option linter.deprecated false
namespace Go.Proofs.Ytmkbijjmipppaaa
open Go.Sep
variable [B0 : Base]
def rthZ (Z : RTab) (id : Int) : RTm := (Z.ths[id.toNat]?).getD zeroR
def rleftZ (Z : RTab) (id : Int) : Int := if (ractZ Z id).1 = 1 then (ractZ Z id).2 else 0
set_option maxHeartbeats 4000000 in
theorem rRestL_ok (b : Nat) (Z : RTab) (lv : Value) (ys : List (Value × List Ins)) (es : List RE) (hok : RTabOk Z lv ys es) (id : Int) (h0 : 0 ≤ id) (h1 : id ≤ 63) (R : List HP) : Called Try.prog 40 [ptr b, int id] (pt b 85 (rcells lv es) :: ownsH es :: R) (is (.tuple #[int (costM (rthZ Z id).todo).1, int (costM (rthZ Z id).todo).2]) (pt b 85 (rcells lv es) :: ownsH es :: R)) := by
  refine Fn2 Try.func40 rfl Try.ntmps40 rfl ?_
  obtain ⟨e, he, hz⟩ := hok.get (i := id.toNat) (by omega)
  obtain ⟨q1, q3, q4, q5⟩ := hok.each e (List.mem_of_getElem? he)
  have hr : Rd (pt b 85 (rcells lv es) :: ownsH es :: R) ⟨b, 1 + id.toNat * 4 + 3, none⟩ e.tv := Rd.ref he rfl
  have hlen : e.todo.length = e.full.length - e.k := by unfold RE.todo; rw [List.length_drop]
  have hsl : IsSl e.tv e.todo.length := by rw [hlen]; exact q1.isl
  have hsrc : Src (ownsH es :: R) e.tv 2 (e.todo.map insE) := owns_tv he q1
  have hone := hsl.one
  have ht : (rthZ Z id).todo = e.todo := by unfold rthZ; rw [hz]; rfl
  rw [ht]
  (repeat' first | refine stp ?_ | intro v' hv' | intro (b : Nat) | (apply w_convU; rfl; rfl; omega; omega) | (apply w_convI; rfl; rfl; omega; omega) | (apply w_quoU; rfl; rfl; rfl; omega; omega; omega) | (apply w_remU; rfl; rfl; rfl; omega; omega) | (apply w_minL; rfl; rfl; rfl; omega) | (apply w_minG; rfl; rfl; rfl; omega) | (apply w_min; rfl; rfl; rfl) | (apply w_mfR; rfl; rfl) | (apply w_cvp; rfl; rfl; exact inferInstance; rfl; rfl; assumption) | (apply w_eqS2T; rfl; rfl; rfl; omega) | (apply w_eqS2F; rfl; rfl; rfl; omega) | (apply w_neS2T; rfl; rfl; rfl; omega) | (apply w_neS2F; rfl; rfl; rfl; omega) | (apply w_eqS3T; rfl; rfl; rfl; omega) | (apply w_eqS3F; rfl; rfl; rfl; omega) | (apply w_neS3T; rfl; rfl; rfl; omega) | (apply w_neS3F; rfl; rfl; rfl; omega) | (apply w_eqS3; rfl; rfl; rfl) | (apply w_neS3; rfl; rfl; rfl) | (apply w_eqS2; rfl; rfl; rfl) | (apply w_neS2; rfl; rfl; rfl) | (apply w_maxL; rfl; rfl; rfl; omega) | (apply w_maxG; rfl; rfl; rfl; omega) | (apply w_max; rfl; rfl; rfl) | (apply w_neB; rfl; rfl; rfl; rfl) | (apply w_eqB; rfl; rfl; rfl; rfl) | (apply w_cq; rfl; rfl; exact rCost_ok _ _ _ ⟨hsl, (by (exact srf))⟩) | refine spl ?_ ?_ | intro hc)
  all_goals (refine At_ret2 (by (first | exact .inl rfl | exact .inr rfl)) Try.results40 rfl rfl ⟨by rfl, rfl⟩ (by (exact frm)))
set_option maxHeartbeats 4000000 in
theorem rLeftL_ok (b : Nat) (Z : RTab) (lv : Value) (ys : List (Value × List Ins)) (es : List RE) (hok : RTabOk Z lv ys es) (id : Int) (h0 : 0 ≤ id) (h1 : id ≤ 63) (R : List HP) : Called Try.prog 41 [ptr b, int id] (pt b 85 (rcells lv es) :: ownsH es :: R) (is (int (rleftZ Z id)) (pt b 85 (rcells lv es) :: ownsH es :: R)) := by
  have hA := rActL_ok b Z lv ys es hok id h0 h1
  unfold rleftZ
  generalize ractZ Z id = x at *
  obtain ⟨op, n⟩ := x
  dsimp only at *
  by_cases h1 : op = 1
  · rw [if_pos h1]
    refine Fn2 Try.func41 rfl Try.ntmps41 rfl ?_
    (repeat' first | refine stp ?_ | intro v' hv' | intro (b : Nat) | (apply w_convU; rfl; rfl; omega; omega) | (apply w_convI; rfl; rfl; omega; omega) | (apply w_quoU; rfl; rfl; rfl; omega; omega; omega) | (apply w_remU; rfl; rfl; rfl; omega; omega) | (apply w_minL; rfl; rfl; rfl; omega) | (apply w_minG; rfl; rfl; rfl; omega) | (apply w_min; rfl; rfl; rfl) | (apply w_mfR; rfl; rfl) | (apply w_cvp; rfl; rfl; exact inferInstance; rfl; rfl; assumption) | (apply w_eqS2T; rfl; rfl; rfl; omega) | (apply w_eqS2F; rfl; rfl; rfl; omega) | (apply w_neS2T; rfl; rfl; rfl; omega) | (apply w_neS2F; rfl; rfl; rfl; omega) | (apply w_eqS3T; rfl; rfl; rfl; omega) | (apply w_eqS3F; rfl; rfl; rfl; omega) | (apply w_neS3T; rfl; rfl; rfl; omega) | (apply w_neS3F; rfl; rfl; rfl; omega) | (apply w_eqS3; rfl; rfl; rfl) | (apply w_neS3; rfl; rfl; rfl) | (apply w_eqS2; rfl; rfl; rfl) | (apply w_neS2; rfl; rfl; rfl) | (apply w_maxL; rfl; rfl; rfl; omega) | (apply w_maxG; rfl; rfl; rfl; omega) | (apply w_max; rfl; rfl; rfl) | (apply w_neB; rfl; rfl; rfl; rfl) | (apply w_eqB; rfl; rfl; rfl; rfl) | (apply w_fldV; rfl; rfl; rfl) | (apply w_cq; rfl; rfl; apply Called.at2 (h := hA); ((focus ((repeat (first | (apply Rep2.here; ((focus ((repeat (first | exact Rep.here | apply Rep.there)); done)))) | (apply Rep2.other; ((focus ((repeat (first | exact Rep.here | apply Rep.there)); done)))) | apply Rep2.there)); done)))) | refine spl ?_ ?_ | intro hc)
    all_goals (refine At_ret1 (by (first | exact .inl rfl | exact .inr rfl)) Try.results41 rfl ⟨by rfl, rfl⟩ (by (exact frm)))
  · rw [if_neg h1]
    refine Fn2 Try.func41 rfl Try.ntmps41 rfl ?_
    (repeat' first | refine stp ?_ | intro v' hv' | intro (b : Nat) | (apply w_convU; rfl; rfl; omega; omega) | (apply w_convI; rfl; rfl; omega; omega) | (apply w_quoU; rfl; rfl; rfl; omega; omega; omega) | (apply w_remU; rfl; rfl; rfl; omega; omega) | (apply w_minL; rfl; rfl; rfl; omega) | (apply w_minG; rfl; rfl; rfl; omega) | (apply w_min; rfl; rfl; rfl) | (apply w_mfR; rfl; rfl) | (apply w_cvp; rfl; rfl; exact inferInstance; rfl; rfl; assumption) | (apply w_eqS2T; rfl; rfl; rfl; omega) | (apply w_eqS2F; rfl; rfl; rfl; omega) | (apply w_neS2T; rfl; rfl; rfl; omega) | (apply w_neS2F; rfl; rfl; rfl; omega) | (apply w_eqS3T; rfl; rfl; rfl; omega) | (apply w_eqS3F; rfl; rfl; rfl; omega) | (apply w_neS3T; rfl; rfl; rfl; omega) | (apply w_neS3F; rfl; rfl; rfl; omega) | (apply w_eqS3; rfl; rfl; rfl) | (apply w_neS3; rfl; rfl; rfl) | (apply w_eqS2; rfl; rfl; rfl) | (apply w_neS2; rfl; rfl; rfl) | (apply w_maxL; rfl; rfl; rfl; omega) | (apply w_maxG; rfl; rfl; rfl; omega) | (apply w_max; rfl; rfl; rfl) | (apply w_neB; rfl; rfl; rfl; rfl) | (apply w_eqB; rfl; rfl; rfl; rfl) | (apply w_fldV; rfl; rfl; rfl) | (apply w_cq; rfl; rfl; apply Called.at2 (h := hA); ((focus ((repeat (first | (apply Rep2.here; ((focus ((repeat (first | exact Rep.here | apply Rep.there)); done)))) | (apply Rep2.other; ((focus ((repeat (first | exact Rep.here | apply Rep.there)); done)))) | apply Rep2.there)); done)))) | refine spl ?_ ?_ | intro hc)
    all_goals (refine At_ret1 (by (first | exact .inl rfl | exact .inr rfl)) Try.results41 rfl ⟨by rfl, rfl⟩ (by (exact frm)))
/-- One thread is seen alike. -/
structure SeenOk (T : Tab) (Z : RTab) (id : Int) : Prop where
  no : rfindZ Z id ≠ 0 → actT T id = ((0, 0), rfindZ Z id) ∧ whereT T id = ((0, 0, 0), rfindZ Z id) ∧ restT T id = (0, rfindZ Z id)
  yes : rfindZ Z id = 0 → actT T id = (ractZ Z id, 0) ∧ whereT T id = (((rthZ Z id).pr, (((rthZ Z id).at' : Nat) : Int), rleftZ Z id), 0) ∧ restT T id = costM (rthZ Z id).todo
set_option maxHeartbeats 8000000 in
theorem seen_no (bt bx : Nat) (T : Tab) (Z : RTab) (id : Int) (h : SeenOk T Z id) (hn : rfindZ Z id ≠ 0) (R : List HP) : Called Try.prog 21 [ptr bt, ptr bx, int id] (tbl bt T :: rtbl bx Z :: R) (is (.bool true) (tbl bt T :: rtbl bx Z :: R)) := by
  have hA := Act_ok bt T id
  have hW := Where_ok bt T id
  have hR := Rest_ok bt T id
  have hF := rFind_ok bx Z id
  obtain ⟨e1, e2, e3⟩ := h.no hn
  rw [e1] at hA
  rw [e2] at hW
  rw [e3] at hR
  dsimp only at hA hW hR
  generalize rfindZ Z id = e at *
  refine Fn3 Try.func21 rfl Try.ntmps21 rfl ?_
  (repeat' first | refine C_drawI (id := 10) [] [0, 1, 2, 5, 6, 3, 4, 7, 8, 9, 10, 11, 12, 13, 14, 15, 16, 17, 18, 19, 20, 21, 22, 23, 24, 25, 26, 27, 28, 29, 30, 31, 32, 33, 34, 35, 36, 37, 38, 39, 40, 41, 42, 43] (by kernel_rfl) (by kernel_rfl) (by kernel_rfl) rfl ?_ | refine stp ?_ | intro v' hv' | intro (b : Nat) | (apply w_convU; rfl; rfl; omega; omega) | (apply w_convI; rfl; rfl; omega; omega) | (apply w_quoU; rfl; rfl; rfl; omega; omega; omega) | (apply w_remU; rfl; rfl; rfl; omega; omega) | (apply w_minL; rfl; rfl; rfl; omega) | (apply w_minG; rfl; rfl; rfl; omega) | (apply w_min; rfl; rfl; rfl) | (apply w_mfR; rfl; rfl) | (apply w_cvp; rfl; rfl; exact inferInstance; rfl; rfl; assumption) | (apply w_eqS2T; rfl; rfl; rfl; omega) | (apply w_eqS2F; rfl; rfl; rfl; omega) | (apply w_neS2T; rfl; rfl; rfl; omega) | (apply w_neS2F; rfl; rfl; rfl; omega) | (apply w_eqS3T; rfl; rfl; rfl; omega) | (apply w_eqS3F; rfl; rfl; rfl; omega) | (apply w_neS3T; rfl; rfl; rfl; omega) | (apply w_neS3F; rfl; rfl; rfl; omega) | (apply w_eqS3; rfl; rfl; rfl) | (apply w_neS3; rfl; rfl; rfl) | (apply w_eqS2; rfl; rfl; rfl) | (apply w_neS2; rfl; rfl; rfl) | (apply w_maxL; rfl; rfl; rfl; omega) | (apply w_maxG; rfl; rfl; rfl; omega) | (apply w_max; rfl; rfl; rfl) | (apply w_neB; rfl; rfl; rfl; rfl) | (apply w_eqB; rfl; rfl; rfl; rfl) | (apply w_fldV; rfl; rfl; rfl) | (apply w_cq; rfl; rfl; apply Called.at (h := hA); ((focus ((repeat (first | exact Rep.here | apply Rep.there)); done)))) | (apply w_cq; rfl; rfl; apply Called.at (h := hW); ((focus ((repeat (first | exact Rep.here | apply Rep.there)); done)))) | (apply w_cq; rfl; rfl; apply Called.at (h := hR); ((focus ((repeat (first | exact Rep.here | apply Rep.there)); done)))) | (apply w_cq; rfl; rfl; apply Called.at (h := hF); ((focus ((repeat (first | exact Rep.here | apply Rep.there)); done)))) | (apply w_cq; rfl; rfl; apply Called.at2 (h := hXA); ((focus ((repeat (first | (apply Rep2.here; ((focus ((repeat (first | exact Rep.here | apply Rep.there)); done)))) | (apply Rep2.other; ((focus ((repeat (first | exact Rep.here | apply Rep.there)); done)))) | apply Rep2.there)); done)))) | (apply w_cq; rfl; rfl; apply Called.at2 (h := hXR); ((focus ((repeat (first | (apply Rep2.here; ((focus ((repeat (first | exact Rep.here | apply Rep.there)); done)))) | (apply Rep2.other; ((focus ((repeat (first | exact Rep.here | apply Rep.there)); done)))) | apply Rep2.there)); done)))) | (apply w_cq; rfl; rfl; apply Called.at2 (h := hXL); ((focus ((repeat (first | (apply Rep2.here; ((focus ((repeat (first | exact Rep.here | apply Rep.there)); done)))) | (apply Rep2.other; ((focus ((repeat (first | exact Rep.here | apply Rep.there)); done)))) | apply Rep2.there)); done)))) | refine spl ?_ ?_ | intro hc)
  all_goals (refine At_ret1 (by (first | exact .inl rfl | exact .inr rfl)) Try.results21 rfl ⟨by rfl, rfl⟩ (by (exact frm)))
set_option maxHeartbeats 8000000 in
theorem seen_yes (bt bx : Nat) (T : Tab) (Z : RTab) (id : Int) (h : SeenOk T Z id) (hn : rfindZ Z id = 0) (R : List HP) : Called Try.prog 21 [ptr bt, ptr bx, int id] (tbl bt T :: rtbl bx Z :: R) (is (.bool true) (tbl bt T :: rtbl bx Z :: R)) := by
  have hA := Act_ok bt T id
  have hW := Where_ok bt T id
  have hR := Rest_ok bt T id
  obtain ⟨i0, i1⟩ := rfind_0 hn
  obtain ⟨e1, e2, e3⟩ := h.yes hn
  rw [e1] at hA
  rw [e2] at hW
  rw [e3] at hR
  dsimp only at hA hW hR
  refine Fn3 Try.func21 rfl Try.ntmps21 rfl ?_
  refine C_sat (L' := rtbl bx Z :: tbl bt T :: R) (fun w h => h.perm (.swap ..)) ?_
  refine C_rtbl fun lv ys es hok => ?_
  have hF := rFindL_ok bx Z lv ys es hok id
  rw [hn] at hF
  have hXA := rActL_ok bx Z lv ys es hok id i0 i1
  have hXR := rRestL_ok bx Z lv ys es hok id i0 i1
  have hXL := rLeftL_ok bx Z lv ys es hok id i0 i1
  obtain ⟨e, he, hz⟩ := hok.get (i := id.toNat) (by omega)
  obtain ⟨-, -, q4, -⟩ := hok.each e (List.mem_of_getElem? he)
  have hp : (rthZ Z id).pr = e.pr ∧ (rthZ Z id).at' = e.at' := by unfold rthZ; rw [hz, q4]; exact ⟨rfl, rfl⟩
  have hr1 : ∀ L, Rd (pt bx 85 (rcells lv es) :: L) ⟨bx, 1 + id.toNat * 4 + 1, none⟩ (int e.pr) := fun L => Rd.ref he rfl
  have hr2 : ∀ L, Rd (pt bx 85 (rcells lv es) :: L) ⟨bx, 1 + id.toNat * 4 + 2, none⟩ (int e.at') := fun L => Rd.ref he rfl
  obtain ⟨hp1, hp2⟩ := hp
  rw [hp1, hp2] at hW
  generalize ractZ Z id = x1 at *
  generalize rleftZ Z id = x2 at *
  generalize costM (rthZ Z id).todo = x3 at *
  obtain ⟨op, n⟩ := x1
  obtain ⟨c, ce⟩ := x3
  dsimp only at *
  have hfold : ∀ w Y, Sat w (pt bx 85 (rcells lv es) :: ownsH es :: rlibH lv ys :: Y) → Sat w (rtbl bx Z :: Y) := fun w Y h => rtbl_fold hok h
  (repeat' first | refine C_drawI (id := 10) [] [0, 1, 2, 5, 6, 3, 4, 7, 8, 9, 10, 11, 12, 13, 14, 15, 16, 17, 18, 19, 20, 21, 22, 23, 24, 25, 26, 27, 28, 29, 30, 31, 32, 33, 34, 35, 36, 37, 38, 39, 40, 41, 42, 43] (by kernel_rfl) (by kernel_rfl) (by kernel_rfl) rfl ?_ | refine stp ?_ | intro v' hv' | intro (b : Nat) | (apply w_convU; rfl; rfl; omega; omega) | (apply w_convI; rfl; rfl; omega; omega) | (apply w_quoU; rfl; rfl; rfl; omega; omega; omega) | (apply w_remU; rfl; rfl; rfl; omega; omega) | (apply w_minL; rfl; rfl; rfl; omega) | (apply w_minG; rfl; rfl; rfl; omega) | (apply w_min; rfl; rfl; rfl) | (apply w_mfR; rfl; rfl) | (apply w_cvp; rfl; rfl; exact inferInstance; rfl; rfl; assumption) | (apply w_eqS2T; rfl; rfl; rfl; omega) | (apply w_eqS2F; rfl; rfl; rfl; omega) | (apply w_neS2T; rfl; rfl; rfl; omega) | (apply w_neS2F; rfl; rfl; rfl; omega) | (apply w_eqS3T; rfl; rfl; rfl; omega) | (apply w_eqS3F; rfl; rfl; rfl; omega) | (apply w_neS3T; rfl; rfl; rfl; omega) | (apply w_neS3F; rfl; rfl; rfl; omega) | (apply w_eqS3; rfl; rfl; rfl) | (apply w_neS3; rfl; rfl; rfl) | (apply w_eqS2; rfl; rfl; rfl) | (apply w_neS2; rfl; rfl; rfl) | (apply w_maxL; rfl; rfl; rfl; omega) | (apply w_maxG; rfl; rfl; rfl; omega) | (apply w_max; rfl; rfl; rfl) | (apply w_neB; rfl; rfl; rfl; rfl) | (apply w_eqB; rfl; rfl; rfl; rfl) | (apply w_fldV; rfl; rfl; rfl) | (apply w_cq; rfl; rfl; apply Called.at (h := hA); ((focus ((repeat (first | exact Rep.here | apply Rep.there)); done)))) | (apply w_cq; rfl; rfl; apply Called.at (h := hW); ((focus ((repeat (first | exact Rep.here | apply Rep.there)); done)))) | (apply w_cq; rfl; rfl; apply Called.at (h := hR); ((focus ((repeat (first | exact Rep.here | apply Rep.there)); done)))) | (apply w_cq; rfl; rfl; apply Called.at (h := hF); ((focus ((repeat (first | exact Rep.here | apply Rep.there)); done)))) | (apply w_cq; rfl; rfl; apply Called.at2 (h := hXA); ((focus ((repeat (first | (apply Rep2.here; ((focus ((repeat (first | exact Rep.here | apply Rep.there)); done)))) | (apply Rep2.other; ((focus ((repeat (first | exact Rep.here | apply Rep.there)); done)))) | apply Rep2.there)); done)))) | (apply w_cq; rfl; rfl; apply Called.at2 (h := hXR); ((focus ((repeat (first | (apply Rep2.here; ((focus ((repeat (first | exact Rep.here | apply Rep.there)); done)))) | (apply Rep2.other; ((focus ((repeat (first | exact Rep.here | apply Rep.there)); done)))) | apply Rep2.there)); done)))) | (apply w_cq; rfl; rfl; apply Called.at2 (h := hXL); ((focus ((repeat (first | (apply Rep2.here; ((focus ((repeat (first | exact Rep.here | apply Rep.there)); done)))) | (apply Rep2.other; ((focus ((repeat (first | exact Rep.here | apply Rep.there)); done)))) | apply Rep2.there)); done)))) | (apply w_ld0; rfl; rfl; (focus ((repeat (first | exact hr1 _ | exact hr2 _ | apply Rd.there)); done))) | (apply w_ld; rfl; rfl; (focus ((repeat (first | exact hr1 _ | exact hr2 _ | apply Rd.there)); done))) | refine spl ?_ ?_ | intro hc)
  all_goals (apply At_retR (by (first | exact .inl rfl | exact .inr rfl)) Try.results21; ((focus ((repeat (first | exact ResR.nil | (apply ResR.tmp; rfl) | (apply ResR.one; rfl; (focus ((repeat (first | assumption | exact .pt rfl | exact .sl ‹_› rfl | exact .sl1 (by first | assumption | rfl) | apply Rd.there)); done))) | (apply ResR.agg; rfl; (focus ((repeat (first | assumption | exact .pt | exact .sl ‹_› | apply RdAll.there)); done)); rfl))); done))); (refine ⟨?_, rfl⟩; rfl); (exact fun w h => (hfold w _ (Sel.sat (by (focus ((repeat (first | exact Sel.refl | (apply Sel.cons; (focus ((repeat (first | exact Del.here | apply Del.there)); done))) | refine Sel.drop ?_)); done))) h : Sat w (pt bx 85 (rcells lv es) :: ownsH es :: rlibH lv ys :: tbl bt T :: R))).perm (.swap ..)))
theorem seen_ok (bt bx : Nat) (T : Tab) (Z : RTab) (id : Int) (h : SeenOk T Z id) (R : List HP) : Called Try.prog 21 [ptr bt, ptr bx, int id] (tbl bt T :: rtbl bx Z :: R) (is (.bool true) (tbl bt T :: rtbl bx Z :: R)) := by
  by_cases hn : rfindZ Z id = 0
  · exact seen_yes bt bx T Z id h hn R
  · exact seen_no bt bx T Z id h hn R
end Go.Proofs.Ytmkbijjmipppaaa
