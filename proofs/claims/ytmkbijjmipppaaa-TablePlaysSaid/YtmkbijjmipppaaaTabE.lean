/- table: Done, Spawn, New. Conditions: none. -/
import Derived.Test.YtmkbijjmipppaaaTabD
set_option linter.all false
set_option linter.deprecated false
namespace Go.Proofs.Ytmkbijjmipppaaa
open Go.Sep
variable [B0 : Base]
set_option maxHeartbeats 8000000 in
theorem Done_ok (b : Nat) (T : Tab) (id : Int) (R : List HP) : Called Try.prog 19 [ptr b, int id] (tbl b T :: R) (is (int (doneT T id).1) (tbl b (doneT T id).2 :: R)) := by
  refine Fn2 Try.func19 rfl Try.ntmps19 rfl ?_
  refine C_tbl fun lv xs ls hok => ?_
  have hF := find_ok b lv (qsOf ls) id (qs64 hok)
  unfold doneT
  rcases find_low hok id with ⟨e, he, h1, h2⟩ | ⟨n, t, i0, i1, hl, h1, h2⟩
  · rw [h2] at hF
    rw [h1]
    dsimp only [ptrO] at hF ⊢
    (repeat' first | refine stp ?_ | intro v' hv' | intro (b : Nat) | (apply w_convU; rfl; rfl; omega; omega) | (apply w_convI; rfl; rfl; omega; omega) | (apply w_quoU; rfl; rfl; rfl; omega; omega; omega) | (apply w_remU; rfl; rfl; rfl; omega; omega) | (apply w_minL; rfl; rfl; rfl; omega) | (apply w_minG; rfl; rfl; rfl; omega) | (apply w_min; rfl; rfl; rfl) | (apply w_mfR; rfl; rfl) | (apply w_cvp; rfl; rfl; exact inferInstance; rfl; rfl; assumption) | (apply w_eqS2T; rfl; rfl; rfl; omega) | (apply w_eqS2F; rfl; rfl; rfl; omega) | (apply w_neS2T; rfl; rfl; rfl; omega) | (apply w_neS2F; rfl; rfl; rfl; omega) | (apply w_eqS3T; rfl; rfl; rfl; omega) | (apply w_eqS3F; rfl; rfl; rfl; omega) | (apply w_neS3T; rfl; rfl; rfl; omega) | (apply w_neS3F; rfl; rfl; rfl; omega) | (apply w_eqS3; rfl; rfl; rfl) | (apply w_neS3; rfl; rfl; rfl) | (apply w_eqS2; rfl; rfl; rfl) | (apply w_neS2; rfl; rfl; rfl) | (apply w_maxL; rfl; rfl; rfl; omega) | (apply w_maxG; rfl; rfl; rfl; omega) | (apply w_max; rfl; rfl; rfl) | (apply w_neB; rfl; rfl; rfl; rfl) | (apply w_eqB; rfl; rfl; rfl; rfl) | (apply w_st; rfl; rfl; rfl; (focus ((repeat (first | exact hSt _ | apply St.there)); done)); ((exact kmf))) | (apply w_fldV; rfl; rfl; rfl) | (apply w_cq; rfl; rfl; apply Called.at (h := hF); ((focus ((repeat (first | exact Rep.here | apply Rep.there)); done)))) | (apply w_cq; rfl; rfl; apply Called.at2 (h := hA); ((focus ((repeat (first | (apply Rep2.here; ((focus ((repeat (first | exact Rep.here | apply Rep.there)); done)))) | (apply Rep2.other; ((focus ((repeat (first | exact Rep.here | apply Rep.there)); done)))) | apply Rep2.there)); done)))) | (apply w_cd; rfl; rfl; apply Called.at2 (h := hX); ((focus ((repeat (first | (apply Rep2.here; ((focus ((repeat (first | exact Rep.here | apply Rep.there)); done)))) | (apply Rep2.other; ((focus ((repeat (first | exact Rep.here | apply Rep.there)); done)))) | apply Rep2.there)); done))); ((exact kmf))) | refine spl ?_ ?_ | intro hc)
    all_goals (apply At_retR (by (first | exact .inl rfl | exact .inr rfl)) Try.results19; ((focus ((repeat (first | exact ResR.nil | (apply ResR.tmp; rfl) | (apply ResR.one; rfl; (focus ((repeat (first | assumption | exact .pt rfl | exact .sl ‹_› rfl | exact .sl1 (by first | assumption | rfl) | apply Rd.there)); done))) | (apply ResR.agg; rfl; (focus ((repeat (first | assumption | exact .pt | exact .sl ‹_› | apply RdAll.there)); done)); rfl))); done))); (refine ⟨?_, rfl⟩; rfl); (exact fun w h => tbl_fold hok (Sel.sat (by (focus ((repeat (first | exact Sel.refl | (apply Sel.cons; (focus ((repeat (first | exact Del.here | apply Del.there)); done))) | refine Sel.drop ?_)); done))) h)))
  · have hm := List.mem_of_getElem? hl
    obtain ⟨q1, q2, q3, q4, q5⟩ := hok.each n t hm
    have hA := fun R => act_ok n t (libH lv xs :: R) (hok.prIn hm R)
    have hact : actM t = actP (T.l (absT t)) (absT t) := by rw [hok.tl hm]; rfl
    rw [h2] at hF
    rw [h1]
    dsimp only [ptrO] at hF ⊢
    rw [← hact]
    by_cases ha : (actM t).1 = 1
    · rw [if_pos ha]
      rw [ha] at hA
      refine C_sat (fun w h => tbl_open hl h) ?_
      (repeat' first | refine stp ?_ | intro v' hv' | intro (b : Nat) | (apply w_convU; rfl; rfl; omega; omega) | (apply w_convI; rfl; rfl; omega; omega) | (apply w_quoU; rfl; rfl; rfl; omega; omega; omega) | (apply w_remU; rfl; rfl; rfl; omega; omega) | (apply w_minL; rfl; rfl; rfl; omega) | (apply w_minG; rfl; rfl; rfl; omega) | (apply w_min; rfl; rfl; rfl) | (apply w_mfR; rfl; rfl) | (apply w_cvp; rfl; rfl; exact inferInstance; rfl; rfl; assumption) | (apply w_eqS2T; rfl; rfl; rfl; omega) | (apply w_eqS2F; rfl; rfl; rfl; omega) | (apply w_neS2T; rfl; rfl; rfl; omega) | (apply w_neS2F; rfl; rfl; rfl; omega) | (apply w_eqS3T; rfl; rfl; rfl; omega) | (apply w_eqS3F; rfl; rfl; rfl; omega) | (apply w_neS3T; rfl; rfl; rfl; omega) | (apply w_neS3F; rfl; rfl; rfl; omega) | (apply w_eqS3; rfl; rfl; rfl) | (apply w_neS3; rfl; rfl; rfl) | (apply w_eqS2; rfl; rfl; rfl) | (apply w_neS2; rfl; rfl; rfl) | (apply w_maxL; rfl; rfl; rfl; omega) | (apply w_maxG; rfl; rfl; rfl; omega) | (apply w_max; rfl; rfl; rfl) | (apply w_neB; rfl; rfl; rfl; rfl) | (apply w_eqB; rfl; rfl; rfl; rfl) | (apply w_st; rfl; rfl; rfl; (focus ((repeat (first | exact hSt _ | apply St.there)); done)); ((exact kmf))) | (apply w_fldV; rfl; rfl; rfl) | (apply w_cq; rfl; rfl; apply Called.at (h := hF); ((focus ((repeat (first | exact Rep.here | apply Rep.there)); done)))) | (apply w_cq; rfl; rfl; apply Called.at2 (h := hA); ((focus ((repeat (first | (apply Rep2.here; ((focus ((repeat (first | exact Rep.here | apply Rep.there)); done)))) | (apply Rep2.other; ((focus ((repeat (first | exact Rep.here | apply Rep.there)); done)))) | apply Rep2.there)); done)))) | (apply w_cd; rfl; rfl; apply Called.at2 (h := hX); ((focus ((repeat (first | (apply Rep2.here; ((focus ((repeat (first | exact Rep.here | apply Rep.there)); done)))) | (apply Rep2.other; ((focus ((repeat (first | exact Rep.here | apply Rep.there)); done)))) | apply Rep2.there)); done))); ((exact kmf))) | refine spl ?_ ?_ | intro hc)
      all_goals (apply At_retR (by (first | exact .inl rfl | exact .inr rfl)) Try.results19; ((focus ((repeat (first | exact ResR.nil | (apply ResR.tmp; rfl) | (apply ResR.one; rfl; (focus ((repeat (first | assumption | exact .pt rfl | exact .sl ‹_› rfl | exact .sl1 (by first | assumption | rfl) | apply Rd.there)); done))) | (apply ResR.agg; rfl; (focus ((repeat (first | assumption | exact .pt | exact .sl ‹_› | apply RdAll.there)); done)); rfl))); done))); (refine ⟨?_, rfl⟩; rfl); (exact fun w h => tbl_back hl (hok.same hl) (Sel.sat (by (focus ((repeat (first | exact Sel.refl | (apply Sel.cons; (focus ((repeat (first | exact Del.here | apply Del.there)); done))) | refine Sel.drop ?_)); done))) h)))
    · rw [if_neg ha]
      by_cases ha9 : (actM t).1 = 9
      · rw [if_pos ha9]
        have hSt : ∀ L, St (pt b 69 (lv :: (qsOf ls).map ptrO) :: L) ⟨b, 1 + id.toNat * 1, none⟩ (.pointer none) (pt b 69 (lv :: (qsOf (ls.set id.toNat none)).map ptrO) :: L) := fun L => St.tab (by rw [List.length_map, qs64 hok]; omega) (ptrs_set (ls := ls) (i := id.toNat) (o := none)).symm
        refine C_sat (fun w h => tbl_open hl h) ?_
        (repeat' first | refine stp ?_ | intro v' hv' | intro (b : Nat) | (apply w_convU; rfl; rfl; omega; omega) | (apply w_convI; rfl; rfl; omega; omega) | (apply w_quoU; rfl; rfl; rfl; omega; omega; omega) | (apply w_remU; rfl; rfl; rfl; omega; omega) | (apply w_minL; rfl; rfl; rfl; omega) | (apply w_minG; rfl; rfl; rfl; omega) | (apply w_min; rfl; rfl; rfl) | (apply w_mfR; rfl; rfl) | (apply w_cvp; rfl; rfl; exact inferInstance; rfl; rfl; assumption) | (apply w_eqS2T; rfl; rfl; rfl; omega) | (apply w_eqS2F; rfl; rfl; rfl; omega) | (apply w_neS2T; rfl; rfl; rfl; omega) | (apply w_neS2F; rfl; rfl; rfl; omega) | (apply w_eqS3T; rfl; rfl; rfl; omega) | (apply w_eqS3F; rfl; rfl; rfl; omega) | (apply w_neS3T; rfl; rfl; rfl; omega) | (apply w_neS3F; rfl; rfl; rfl; omega) | (apply w_eqS3; rfl; rfl; rfl) | (apply w_neS3; rfl; rfl; rfl) | (apply w_eqS2; rfl; rfl; rfl) | (apply w_neS2; rfl; rfl; rfl) | (apply w_maxL; rfl; rfl; rfl; omega) | (apply w_maxG; rfl; rfl; rfl; omega) | (apply w_max; rfl; rfl; rfl) | (apply w_neB; rfl; rfl; rfl; rfl) | (apply w_eqB; rfl; rfl; rfl; rfl) | (apply w_st; rfl; rfl; rfl; (focus ((repeat (first | exact hSt _ | apply St.there)); done)); ((exact kmf))) | (apply w_fldV; rfl; rfl; rfl) | (apply w_cq; rfl; rfl; apply Called.at (h := hF); ((focus ((repeat (first | exact Rep.here | apply Rep.there)); done)))) | (apply w_cq; rfl; rfl; apply Called.at2 (h := hA); ((focus ((repeat (first | (apply Rep2.here; ((focus ((repeat (first | exact Rep.here | apply Rep.there)); done)))) | (apply Rep2.other; ((focus ((repeat (first | exact Rep.here | apply Rep.there)); done)))) | apply Rep2.there)); done)))) | (apply w_cd; rfl; rfl; apply Called.at2 (h := hX); ((focus ((repeat (first | (apply Rep2.here; ((focus ((repeat (first | exact Rep.here | apply Rep.there)); done)))) | (apply Rep2.other; ((focus ((repeat (first | exact Rep.here | apply Rep.there)); done)))) | apply Rep2.there)); done))); ((exact kmf))) | refine spl ?_ ?_ | intro hc)
        all_goals (apply At_retR (by (first | exact .inl rfl | exact .inr rfl)) Try.results19; ((focus ((repeat (first | exact ResR.nil | (apply ResR.tmp; rfl) | (apply ResR.one; rfl; (focus ((repeat (first | assumption | exact .pt rfl | exact .sl ‹_› rfl | exact .sl1 (by first | assumption | rfl) | apply Rd.there)); done))) | (apply ResR.agg; rfl; (focus ((repeat (first | assumption | exact .pt | exact .sl ‹_› | apply RdAll.there)); done)); rfl))); done))); (refine ⟨?_, rfl⟩; rfl); (exact fun w h => tbl_fold hok.clear (Sel.sat (by (focus ((repeat (first | exact Sel.refl | (apply Sel.cons; (focus ((repeat (first | exact Del.here | apply Del.there)); done))) | refine Sel.drop ?_)); done))) h)))
      · rw [if_neg ha9]
        have hal := act_len ha9
        have hlen : t.l.length ≤ 64 := (progE_may (hok.isl _ (List.mem_of_getElem? q2)).2).1
        have hX := fun R => next_ok n t (libH lv xs :: R) (hok.prIn hm R) (by omega)
        have hg := hok.ran (i := id.toNat) hm hal
        refine C_sat (fun w h => tbl_open hl h) ?_
        (repeat' first | refine stp ?_ | intro v' hv' | intro (b : Nat) | (apply w_convU; rfl; rfl; omega; omega) | (apply w_convI; rfl; rfl; omega; omega) | (apply w_quoU; rfl; rfl; rfl; omega; omega; omega) | (apply w_remU; rfl; rfl; rfl; omega; omega) | (apply w_minL; rfl; rfl; rfl; omega) | (apply w_minG; rfl; rfl; rfl; omega) | (apply w_min; rfl; rfl; rfl) | (apply w_mfR; rfl; rfl) | (apply w_cvp; rfl; rfl; exact inferInstance; rfl; rfl; assumption) | (apply w_eqS2T; rfl; rfl; rfl; omega) | (apply w_eqS2F; rfl; rfl; rfl; omega) | (apply w_neS2T; rfl; rfl; rfl; omega) | (apply w_neS2F; rfl; rfl; rfl; omega) | (apply w_eqS3T; rfl; rfl; rfl; omega) | (apply w_eqS3F; rfl; rfl; rfl; omega) | (apply w_neS3T; rfl; rfl; rfl; omega) | (apply w_neS3F; rfl; rfl; rfl; omega) | (apply w_eqS3; rfl; rfl; rfl) | (apply w_neS3; rfl; rfl; rfl) | (apply w_eqS2; rfl; rfl; rfl) | (apply w_neS2; rfl; rfl; rfl) | (apply w_maxL; rfl; rfl; rfl; omega) | (apply w_maxG; rfl; rfl; rfl; omega) | (apply w_max; rfl; rfl; rfl) | (apply w_neB; rfl; rfl; rfl; rfl) | (apply w_eqB; rfl; rfl; rfl; rfl) | (apply w_st; rfl; rfl; rfl; (focus ((repeat (first | exact hSt _ | apply St.there)); done)); ((exact kmf))) | (apply w_fldV; rfl; rfl; rfl) | (apply w_cq; rfl; rfl; apply Called.at (h := hF); ((focus ((repeat (first | exact Rep.here | apply Rep.there)); done)))) | (apply w_cq; rfl; rfl; apply Called.at2 (h := hA); ((focus ((repeat (first | (apply Rep2.here; ((focus ((repeat (first | exact Rep.here | apply Rep.there)); done)))) | (apply Rep2.other; ((focus ((repeat (first | exact Rep.here | apply Rep.there)); done)))) | apply Rep2.there)); done)))) | (apply w_cd; rfl; rfl; apply Called.at2 (h := hX); ((focus ((repeat (first | (apply Rep2.here; ((focus ((repeat (first | exact Rep.here | apply Rep.there)); done)))) | (apply Rep2.other; ((focus ((repeat (first | exact Rep.here | apply Rep.there)); done)))) | apply Rep2.there)); done))); ((exact kmf))) | refine spl ?_ ?_ | intro hc)
        all_goals (apply At_retR (by (first | exact .inl rfl | exact .inr rfl)) Try.results19; ((focus ((repeat (first | exact ResR.nil | (apply ResR.tmp; rfl) | (apply ResR.one; rfl; (focus ((repeat (first | assumption | exact .pt rfl | exact .sl ‹_› rfl | exact .sl1 (by first | assumption | rfl) | apply Rd.there)); done))) | (apply ResR.agg; rfl; (focus ((repeat (first | assumption | exact .pt | exact .sl ‹_› | apply RdAll.there)); done)); rfl))); done))); (refine ⟨?_, rfl⟩; rfl); (exact fun w h => tbl_back hl hg (Sel.sat (by (focus ((repeat (first | exact Sel.refl | (apply Sel.cons; (focus ((repeat (first | exact Del.here | apply Del.there)); done))) | refine Sel.drop ?_)); done))) h)))

theorem free_low {T : Tab} {lv : Value} {xs : List (Value × List Ins)} {ls : List (Option (Nat × Th))} (h : TabOk T lv xs ls) : (T.ths.findIdx? (fun o => o.isNone) = none ∧ freeI (qsOf ls) = -1) ∨ ∃ k, k < 64 ∧ T.ths.findIdx? (fun o => o.isNone) = some k ∧ freeI (qsOf ls) = (k : Nat) ∧ ls[k]? = some none := by
  have e1 : T.ths.findIdx? (fun o => o.isNone) = ls.findIdx? (fun o => o.isNone) := by
    rw [h.ths, List.findIdx?_map]; congr 1; funext o; cases o <;> rfl
  have e2 : (qsOf ls).findIdx? (fun o => o.isNone) = ls.findIdx? (fun o => o.isNone) := by
    unfold qsOf; rw [List.findIdx?_map]; congr 1; funext o; cases o <;> rfl
  unfold freeI
  rw [e1, e2]
  cases hf : ls.findIdx? (fun o => o.isNone) with
  | none => exact .inl ⟨rfl, rfl⟩
  | some k =>
    obtain ⟨hk, hn, -⟩ := List.findIdx?_eq_some_iff_getElem.1 hf
    have hk' : k < 64 := by rw [← h.n64]; exact hk
    refine .inr ⟨k, hk', rfl, rfl, ?_⟩
    rw [List.getElem?_eq_getElem hk]
    congr 1
    simpa using hn
set_option maxHeartbeats 8000000 in
theorem Spawn_ok (b : Nat) (T : Tab) (p : Int) (R : List HP) : Called Try.prog 9 [ptr b, int p] (tbl b T :: R) (is (.tuple #[int (spawnT T p).1.1, int (spawnT T p).1.2]) (tbl b (spawnT T p).2 :: R)) := by
  refine Fn2 Try.func9 rfl Try.ntmps9 rfl ?_
  refine C_tbl fun lv xs ls hok => ?_
  have hlv := hok.lisl
  have hfew := hok.few
  have hpl : T.progs.length = xs.length := by rw [hok.progs, List.length_map]
  unfold spawnT
  rw [hpl]
  by_cases hp : p < 0 ∨ (xs.length : Int) ≤ p
  · rw [if_pos hp]
    have hr0 : Rd (pt b 69 (lv :: (qsOf ls).map ptrO) :: thsH ls :: libH lv xs :: R) ⟨b, 0 + 0, none⟩ lv := Rd.pt rfl
    (repeat' first | refine stp ?_ | intro v' hv' | intro (b : Nat) | (apply w_convU; rfl; rfl; omega; omega) | (apply w_convI; rfl; rfl; omega; omega) | (apply w_quoU; rfl; rfl; rfl; omega; omega; omega) | (apply w_remU; rfl; rfl; rfl; omega; omega) | (apply w_minL; rfl; rfl; rfl; omega) | (apply w_minG; rfl; rfl; rfl; omega) | (apply w_min; rfl; rfl; rfl) | (apply w_mfR; rfl; rfl) | (apply w_cvp; rfl; rfl; exact inferInstance; rfl; rfl; assumption) | (apply w_eqS2T; rfl; rfl; rfl; omega) | (apply w_eqS2F; rfl; rfl; rfl; omega) | (apply w_neS2T; rfl; rfl; rfl; omega) | (apply w_neS2F; rfl; rfl; rfl; omega) | (apply w_eqS3T; rfl; rfl; rfl; omega) | (apply w_eqS3F; rfl; rfl; rfl; omega) | (apply w_neS3T; rfl; rfl; rfl; omega) | (apply w_neS3F; rfl; rfl; rfl; omega) | (apply w_eqS3; rfl; rfl; rfl) | (apply w_neS3; rfl; rfl; rfl) | (apply w_eqS2; rfl; rfl; rfl) | (apply w_neS2; rfl; rfl; rfl) | (apply w_maxL; rfl; rfl; rfl; omega) | (apply w_maxG; rfl; rfl; rfl; omega) | (apply w_max; rfl; rfl; rfl) | (apply w_neB; rfl; rfl; rfl; rfl) | (apply w_eqB; rfl; rfl; rfl; rfl) | (apply w_st; rfl; rfl; rfl; (focus ((repeat (first | exact hSt _ | apply St.there)); done)); ((exact kmf))) | (apply w_cq; rfl; rfl; apply Called.at (h := hF); ((focus ((repeat (first | exact Rep.here | apply Rep.there)); done)))) | (apply w_cd; rfl; rfl; apply Called.at2 (h := hX _); ((focus ((repeat (first | (apply Rep2.here; ((focus ((repeat (first | exact Rep.here | apply Rep.there)); done)))) | (apply Rep2.other; ((focus ((repeat (first | exact Rep.here | apply Rep.there)); done)))) | apply Rep2.there)); done))); ((exact kmf))) | refine spl ?_ ?_ | intro hc)
    all_goals first | (exfalso; omega) | skip
    all_goals (apply At_retR (by (first | exact .inl rfl | exact .inr rfl)) Try.results9; ((focus ((repeat (first | exact ResR.nil | (apply ResR.tmp; rfl) | (apply ResR.one; rfl; (focus ((repeat (first | assumption | exact .pt rfl | exact .sl ‹_› rfl | exact .sl1 (by first | assumption | rfl) | apply Rd.there)); done))) | (apply ResR.agg; rfl; (focus ((repeat (first | assumption | exact .pt | exact .sl ‹_› | apply RdAll.there)); done)); rfl))); done))); (refine ⟨?_, rfl⟩; rfl); (exact fun w h => tbl_fold hok (Sel.sat (by (focus ((repeat (first | exact Sel.refl | (apply Sel.cons; (focus ((repeat (first | exact Del.here | apply Del.there)); done))) | refine Sel.drop ?_)); done))) h)))
  · rw [if_neg hp]
    have hF := free_ok b lv (qsOf ls) (qs64 hok)
    rcases free_low hok with ⟨h1, h2⟩ | ⟨k, hk, h1, h2, hk0⟩
    · rw [h1]
      rw [h2] at hF
      (repeat' first | refine stp ?_ | intro v' hv' | intro (b : Nat) | (apply w_convU; rfl; rfl; omega; omega) | (apply w_convI; rfl; rfl; omega; omega) | (apply w_quoU; rfl; rfl; rfl; omega; omega; omega) | (apply w_remU; rfl; rfl; rfl; omega; omega) | (apply w_minL; rfl; rfl; rfl; omega) | (apply w_minG; rfl; rfl; rfl; omega) | (apply w_min; rfl; rfl; rfl) | (apply w_mfR; rfl; rfl) | (apply w_cvp; rfl; rfl; exact inferInstance; rfl; rfl; assumption) | (apply w_eqS2T; rfl; rfl; rfl; omega) | (apply w_eqS2F; rfl; rfl; rfl; omega) | (apply w_neS2T; rfl; rfl; rfl; omega) | (apply w_neS2F; rfl; rfl; rfl; omega) | (apply w_eqS3T; rfl; rfl; rfl; omega) | (apply w_eqS3F; rfl; rfl; rfl; omega) | (apply w_neS3T; rfl; rfl; rfl; omega) | (apply w_neS3F; rfl; rfl; rfl; omega) | (apply w_eqS3; rfl; rfl; rfl) | (apply w_neS3; rfl; rfl; rfl) | (apply w_eqS2; rfl; rfl; rfl) | (apply w_neS2; rfl; rfl; rfl) | (apply w_maxL; rfl; rfl; rfl; omega) | (apply w_maxG; rfl; rfl; rfl; omega) | (apply w_max; rfl; rfl; rfl) | (apply w_neB; rfl; rfl; rfl; rfl) | (apply w_eqB; rfl; rfl; rfl; rfl) | (apply w_st; rfl; rfl; rfl; (focus ((repeat (first | exact hSt _ | apply St.there)); done)); ((exact kmf))) | (apply w_cq; rfl; rfl; apply Called.at (h := hF); ((focus ((repeat (first | exact Rep.here | apply Rep.there)); done)))) | (apply w_cd; rfl; rfl; apply Called.at2 (h := hX _); ((focus ((repeat (first | (apply Rep2.here; ((focus ((repeat (first | exact Rep.here | apply Rep.there)); done)))) | (apply Rep2.other; ((focus ((repeat (first | exact Rep.here | apply Rep.there)); done)))) | apply Rep2.there)); done))); ((exact kmf))) | refine spl ?_ ?_ | intro hc)
      all_goals (apply At_retR (by (first | exact .inl rfl | exact .inr rfl)) Try.results9; ((focus ((repeat (first | exact ResR.nil | (apply ResR.tmp; rfl) | (apply ResR.one; rfl; (focus ((repeat (first | assumption | exact .pt rfl | exact .sl ‹_› rfl | exact .sl1 (by first | assumption | rfl) | apply Rd.there)); done))) | (apply ResR.agg; rfl; (focus ((repeat (first | assumption | exact .pt | exact .sl ‹_› | apply RdAll.there)); done)); rfl))); done))); (refine ⟨?_, rfl⟩; rfl); (exact fun w h => tbl_fold hok (Sel.sat (by (focus ((repeat (first | exact Sel.refl | (apply Sel.cons; (focus ((repeat (first | exact Del.here | apply Del.there)); done))) | refine Sel.drop ?_)); done))) h)))
    · rw [h1]
      rw [h2] at hF
      have hpx : p.toNat < xs.length := by omega
      have hx : xs[p.toNat]? = some xs[p.toNat] := by simp [hpx]
      have hmem := List.mem_of_getElem? hx
      have hone : xs[p.toNat].1.oneCell' = true := (hok.isl _ hmem).1.one
      have hrd : ∀ R, Rd (libH lv xs :: R) ⟨vb lv, vo lv + p.toNat * 1 + 0, none⟩ xs[p.toNat].1 := fun R => Rd.src libTop (i := p.toNat) (k := 0) (e := [xs[p.toNat].1]) (by simp [hpx]) rfl
      have hrd' : Rd (libH lv xs :: R) ⟨vb lv, vo lv + p.toNat * 1, none⟩ xs[p.toNat].1 := hrd R
      have hPr : ∀ R, PrIn (libH lv xs :: R) xs[p.toNat].1 xs[p.toNat].2 := fun R => ⟨(hok.isl _ hmem).1, libSrc hmem⟩
      have hget : T.progs.getD p.toNat [] = xs[p.toNat].2 := by rw [hok.progs, List.getD_eq_getElem?_getD, List.getElem?_map, hx]; rfl
      have hprog := (hok.isl _ hmem).2
      rw [hget]
      generalize xs[p.toNat] = x at *
      have hX : ∀ n R, Called Try.prog 30 [ptr n] (pt n 73 [int p, int 0, int 0, x.1] :: libH lv xs :: R) (is (.tuple #[]) (pt n 73 (thE (freshM ⟨p, 0, 0, x.1, x.2⟩)) :: libH lv xs :: R)) := fun n R => fresh_ok n ⟨p, 0, 0, x.1, x.2⟩ (libH lv xs :: R) (hPr R)
      have hl0 := fresh_left hprog ⟨p, 0, 0, x.1, x.2⟩ rfl
      (repeat' first | refine stp ?_ | intro v' hv' | intro (b : Nat) | (apply w_convU; rfl; rfl; omega; omega) | (apply w_convI; rfl; rfl; omega; omega) | (apply w_quoU; rfl; rfl; rfl; omega; omega; omega) | (apply w_remU; rfl; rfl; rfl; omega; omega) | (apply w_minL; rfl; rfl; rfl; omega) | (apply w_minG; rfl; rfl; rfl; omega) | (apply w_min; rfl; rfl; rfl) | (apply w_mfR; rfl; rfl) | (apply w_cvp; rfl; rfl; exact inferInstance; rfl; rfl; assumption) | (apply w_eqS2T; rfl; rfl; rfl; omega) | (apply w_eqS2F; rfl; rfl; rfl; omega) | (apply w_neS2T; rfl; rfl; rfl; omega) | (apply w_neS2F; rfl; rfl; rfl; omega) | (apply w_eqS3T; rfl; rfl; rfl; omega) | (apply w_eqS3F; rfl; rfl; rfl; omega) | (apply w_neS3T; rfl; rfl; rfl; omega) | (apply w_neS3F; rfl; rfl; rfl; omega) | (apply w_eqS3; rfl; rfl; rfl) | (apply w_neS3; rfl; rfl; rfl) | (apply w_eqS2; rfl; rfl; rfl) | (apply w_neS2; rfl; rfl; rfl) | (apply w_maxL; rfl; rfl; rfl; omega) | (apply w_maxG; rfl; rfl; rfl; omega) | (apply w_max; rfl; rfl; rfl) | (apply w_neB; rfl; rfl; rfl; rfl) | (apply w_eqB; rfl; rfl; rfl; rfl) | (apply w_st; rfl; rfl; rfl; (focus ((repeat (first | exact hSt _ | apply St.there)); done)); ((exact kmf))) | (apply w_cq; rfl; rfl; apply Called.at (h := hF); ((focus ((repeat (first | exact Rep.here | apply Rep.there)); done)))) | (apply w_cd; rfl; rfl; apply Called.at2 (h := hX _); ((focus ((repeat (first | (apply Rep2.here; ((focus ((repeat (first | exact Rep.here | apply Rep.there)); done)))) | (apply Rep2.other; ((focus ((repeat (first | exact Rep.here | apply Rep.there)); done)))) | apply Rep2.there)); done))); ((exact kmf))) | refine spl ?_ ?_ | intro hc)
      have hg : TabOk (T.setT k (some (freshP x.2 ⟨p.toNat, 0, 0⟩))) lv xs (ls.set k (some (b, freshM ⟨p, 0, 0, x.1, x.2⟩))) := hok.set (t := freshM ⟨p, 0, 0, x.1, x.2⟩) (by show 0 ≤ p; omega) hx (Nat.zero_le _) hl0.1 hl0.2
      rename_i n
      have hSt : ∀ L, St (pt n 69 (lv :: (qsOf ls).map ptrO) :: L) ⟨n, 1 + k * 1, none⟩ (ptr b) (pt n 69 (lv :: (qsOf (ls.set k (some (b, freshM ⟨p, 0, 0, x.1, x.2⟩)))).map ptrO) :: L) := fun L => St.tab (by rw [List.length_map, qs64 hok]; omega) (ptrs_set (ls := ls) (i := k) (o := some (b, freshM ⟨p, 0, 0, x.1, x.2⟩))).symm
      (repeat' first | refine stp ?_ | intro v' hv' | intro (b : Nat) | (apply w_convU; rfl; rfl; omega; omega) | (apply w_convI; rfl; rfl; omega; omega) | (apply w_quoU; rfl; rfl; rfl; omega; omega; omega) | (apply w_remU; rfl; rfl; rfl; omega; omega) | (apply w_minL; rfl; rfl; rfl; omega) | (apply w_minG; rfl; rfl; rfl; omega) | (apply w_min; rfl; rfl; rfl) | (apply w_mfR; rfl; rfl) | (apply w_cvp; rfl; rfl; exact inferInstance; rfl; rfl; assumption) | (apply w_eqS2T; rfl; rfl; rfl; omega) | (apply w_eqS2F; rfl; rfl; rfl; omega) | (apply w_neS2T; rfl; rfl; rfl; omega) | (apply w_neS2F; rfl; rfl; rfl; omega) | (apply w_eqS3T; rfl; rfl; rfl; omega) | (apply w_eqS3F; rfl; rfl; rfl; omega) | (apply w_neS3T; rfl; rfl; rfl; omega) | (apply w_neS3F; rfl; rfl; rfl; omega) | (apply w_eqS3; rfl; rfl; rfl) | (apply w_neS3; rfl; rfl; rfl) | (apply w_eqS2; rfl; rfl; rfl) | (apply w_neS2; rfl; rfl; rfl) | (apply w_maxL; rfl; rfl; rfl; omega) | (apply w_maxG; rfl; rfl; rfl; omega) | (apply w_max; rfl; rfl; rfl) | (apply w_neB; rfl; rfl; rfl; rfl) | (apply w_eqB; rfl; rfl; rfl; rfl) | (apply w_st; rfl; rfl; rfl; (focus ((repeat (first | exact hSt _ | apply St.there)); done)); ((exact kmf))) | (apply w_cq; rfl; rfl; apply Called.at (h := hF); ((focus ((repeat (first | exact Rep.here | apply Rep.there)); done)))) | (apply w_cd; rfl; rfl; apply Called.at2 (h := hX _); ((focus ((repeat (first | (apply Rep2.here; ((focus ((repeat (first | exact Rep.here | apply Rep.there)); done)))) | (apply Rep2.other; ((focus ((repeat (first | exact Rep.here | apply Rep.there)); done)))) | apply Rep2.there)); done))); ((exact kmf))) | refine spl ?_ ?_ | intro hc)
      all_goals (apply At_retR (by (first | exact .inl rfl | exact .inr rfl)) Try.results9; ((focus ((repeat (first | exact ResR.nil | (apply ResR.tmp; rfl) | (apply ResR.one; rfl; (focus ((repeat (first | assumption | exact .pt rfl | exact .sl ‹_› rfl | exact .sl1 (by first | assumption | rfl) | apply Rd.there)); done))) | (apply ResR.agg; rfl; (focus ((repeat (first | assumption | exact .pt | exact .sl ‹_› | apply RdAll.there)); done)); rfl))); done))); (refine ⟨?_, rfl⟩; rfl); (exact fun w h => tbl_fold hg (Sel.sat (by (focus ((repeat (first | exact Sel.refl | (apply Sel.cons; (focus ((repeat (first | exact Del.here | apply Del.there)); done))) | refine Sel.drop ?_)); done))) (thsH_new (n := b) (t := freshM ⟨p, 0, 0, x.1, x.2⟩) hk0 (Sel.sat (by (focus ((repeat (first | exact Sel.refl | (apply Sel.cons; (focus ((repeat (first | exact Del.here | apply Del.there)); done))) | refine Sel.drop ?_)); done))) h) : Sat w (thsH (ls.set k (some (b, freshM ⟨p, 0, 0, x.1, x.2⟩))) :: pt n 69 (lv :: (qsOf (ls.set k (some (b, freshM ⟨p, 0, 0, x.1, x.2⟩)))).map ptrO) :: libH lv xs :: R)))))

/-! ### New -/
/-- What is wrong with a library. -/
def newE (ls : List (List Ins)) : Int := if 64 < ls.length then 13 else ((ls.map progE).find? (fun e => e != 0)).getD 0
/-- A library as it comes in. -/
structure LibIn (R : List HP) (v : Value) (xs : List (Value × List Ins)) : Prop where
  isl : IsSl v xs.length
  src : Src R v 1 (xs.map fun x => [x.1])
  each : ∀ x ∈ xs, PrIn R x.1 x.2
def nils : List Value := List.replicate 64 (.pointer none)
instance : BuildP Try.prog 69 2 [(0, 1), (1, 64)] (.slice none 0 0 :: nils) := ⟨by kernel_rfl⟩
theorem nils_eq : (qsOf (List.replicate 64 none)).map ptrO = nils := by
  unfold qsOf nils; rw [List.map_replicate, List.map_replicate]; rfl
theorem libH_fold {lv : Value} {xs : List (Value × List Ins)} {w : World} {R : List HP} (h : Sat w (sl 29 1 lv (xs.map fun x => [x.1]) :: all (xs.map fun x => sl 28 2 x.1 (x.2.map insE)) :: R)) : Sat w (libH lv xs :: R) := by
  unfold libH
  refine Sat.all_iff.2 ?_
  have h1 : Sat w (all (xs.map fun x => sl 28 2 x.1 (x.2.map insE)) :: sl 29 1 lv (xs.map fun x => [x.1]) :: R) := h.perm (.swap ..)
  have h2 := Sat.all_iff.1 h1
  exact h2.perm List.perm_middle
set_option maxHeartbeats 8000000 in
theorem New_ok (v : Value) (xs : List (Value × List Ins)) (R : List HP) (h : LibIn R v xs) :
    Called Try.prog 8 [v] R (fun u M => if newE (xs.map fun x => x.2) = 0 then ∃ b, u = .tuple #[ptr b, int 0] ∧ M = tbl b ⟨xs.map fun x => x.2, List.replicate 64 none⟩ :: R else u = .tuple #[.pointer none, int (newE (xs.map fun x => x.2))] ∧ M = R) := by
  have hv := h.isl
  have hN := hv.len
  unfold newE
  rw [List.length_map]
  by_cases h64 : 64 < xs.length
  · rw [if_pos h64]
    refine Fn1 Try.func8 rfl Try.ntmps8 rfl ?_
    (repeat' first | refine stp ?_ | intro v' hv' | intro (b : Nat) | (apply w_convU; rfl; rfl; omega; omega) | (apply w_convI; rfl; rfl; omega; omega) | (apply w_quoU; rfl; rfl; rfl; omega; omega; omega) | (apply w_remU; rfl; rfl; rfl; omega; omega) | (apply w_minL; rfl; rfl; rfl; omega) | (apply w_minG; rfl; rfl; rfl; omega) | (apply w_min; rfl; rfl; rfl) | (apply w_mfR; rfl; rfl) | (apply w_cvp; rfl; rfl; exact inferInstance; rfl; rfl; assumption) | (apply w_eqS2T; rfl; rfl; rfl; omega) | (apply w_eqS2F; rfl; rfl; rfl; omega) | (apply w_neS2T; rfl; rfl; rfl; omega) | (apply w_neS2F; rfl; rfl; rfl; omega) | (apply w_eqS3T; rfl; rfl; rfl; omega) | (apply w_eqS3F; rfl; rfl; rfl; omega) | (apply w_neS3T; rfl; rfl; rfl; omega) | (apply w_neS3F; rfl; rfl; rfl; omega) | (apply w_eqS3; rfl; rfl; rfl) | (apply w_neS3; rfl; rfl; rfl) | (apply w_eqS2; rfl; rfl; rfl) | (apply w_neS2; rfl; rfl; rfl) | (apply w_maxL; rfl; rfl; rfl; omega) | (apply w_maxG; rfl; rfl; rfl; omega) | (apply w_max; rfl; rfl; rfl) | (apply w_neB; rfl; rfl; rfl; rfl) | (apply w_eqB; rfl; rfl; rfl; rfl) | (apply w_cp; rfl; rfl; assumption) | (apply w_cq; rfl; rfl; exact hC _ _ _) | refine spl ?_ ?_ | intro hc)
    exact At_ret2 (by (first | exact .inl rfl | exact .inr rfl)) Try.results8 rfl rfl (by rw [if_neg (by decide)]; exact ⟨rfl, rfl⟩) (by (exact frm))
  · rw [if_neg h64]
    refine Fn1 Try.func8 rfl Try.ntmps8 rfl ?_
    (repeat' first | refine stp ?_ | intro v' hv' | intro (b : Nat) | (apply w_convU; rfl; rfl; omega; omega) | (apply w_convI; rfl; rfl; omega; omega) | (apply w_quoU; rfl; rfl; rfl; omega; omega; omega) | (apply w_remU; rfl; rfl; rfl; omega; omega) | (apply w_minL; rfl; rfl; rfl; omega) | (apply w_minG; rfl; rfl; rfl; omega) | (apply w_min; rfl; rfl; rfl) | (apply w_mfR; rfl; rfl) | (apply w_cvp; rfl; rfl; exact inferInstance; rfl; rfl; assumption) | (apply w_eqS2T; rfl; rfl; rfl; omega) | (apply w_eqS2F; rfl; rfl; rfl; omega) | (apply w_neS2T; rfl; rfl; rfl; omega) | (apply w_neS2F; rfl; rfl; rfl; omega) | (apply w_eqS3T; rfl; rfl; rfl; omega) | (apply w_eqS3F; rfl; rfl; rfl; omega) | (apply w_neS3T; rfl; rfl; rfl; omega) | (apply w_neS3F; rfl; rfl; rfl; omega) | (apply w_eqS3; rfl; rfl; rfl) | (apply w_neS3; rfl; rfl; rfl) | (apply w_eqS2; rfl; rfl; rfl) | (apply w_neS2; rfl; rfl; rfl) | (apply w_maxL; rfl; rfl; rfl; omega) | (apply w_maxG; rfl; rfl; rfl; omega) | (apply w_max; rfl; rfl; rfl) | (apply w_neB; rfl; rfl; rfl; rfl) | (apply w_eqB; rfl; rfl; rfl; rfl) | (apply w_cp; rfl; rfl; assumption) | (apply w_cq; rfl; rfl; exact hC _ _ _) | refine spl ?_ ?_ | intro hc)
    refine C_loopK (α := Nat × List (Value × List Ins) × Value) [2, 3, 6, 7, 15, 16, 17, 18, 19, 20, 21, 22, 23, 24, 25, 26, 27, 28, 29, 30, 31, 32, 33, 34, 35] (fun x => xs.length - x.1) (fun x => [(15, int x.1)])
      (fun x => pt b 69 (x.2.2 :: nils) :: sl 29 1 x.2.2 (x.2.1.map fun y => [y.1]) :: all (x.2.1.map fun y => sl 28 2 y.1 (y.2.map insE)) :: R)
      (fun x => x.1 ≤ xs.length ∧ x.2.1.map (fun y => y.2) = (xs.take x.1).map (fun y => y.2) ∧ IsSl x.2.2 x.2.1.length ∧ (∀ y ∈ x.2.1, IsSl y.1 y.2.length ∧ progE y.2 = 0)) (0, [], .slice none 0 0) ⟨Nat.zero_le _, rfl, IsSl.nil, fun _ h => by cases h⟩ (by (focus ((repeat (first | exact Keep.nil | apply Keep.drop rfl | apply Keep.keep rfl)); done))) (by (exact sbf)) (fun w hs => ?_) ?_
    · have h1 : Sat w (all [] :: pt b 69 (.slice none 0 0 :: nils) :: R) := Sat.all_iff.2 hs
      have h2 : Sat w (sl 29 1 (.slice none 0 0) [] :: all [] :: pt b 69 (.slice none 0 0 :: nils) :: R) := h1.sl_nil
      exact Sel.sat (by (focus ((repeat (first | exact Sel.refl | (apply Sel.cons; (focus ((repeat (first | exact Del.here | apply Del.there)); done))) | refine Sel.drop ?_)); done))) h2
    · rintro ⟨k, ys, u⟩ ⟨hk, hy, hu, hys⟩
      dsimp only [List.cons_append, List.nil_append] at *
      have hyl : ys.length = k := by have := congrArg List.length hy; simp at this; omega
      have hz : ∀ y ∈ xs.take k, progE y.2 = 0 := fun y hm => by
        have h1 : y.2 ∈ (xs.take k).map (fun y => y.2) := List.mem_map_of_mem hm
        rw [← hy] at h1
        obtain ⟨z, hz1, hz2⟩ := List.mem_map.1 h1
        rw [← hz2]; exact (hys z hz1).2
      by_cases hlt : k < xs.length
      · have hx : xs[k]? = some xs[k] := by simp [hlt]
        have hPr := h.each _ (List.mem_of_getElem? hx)
        have hrd : Rd R ⟨vb v, vo v + k * 1 + 0, none⟩ xs[k].1 := Rd.src h.src (i := k) (k := 0) (e := [xs[k].1]) (by simp [hlt]) rfl
        have hrd' : Rd R ⟨vb v, vo v + k * 1, none⟩ xs[k].1 := hrd
        have htk : xs.take (k + 1) = xs.take k ++ [xs[k]] := by rw [List.take_add_one]; simp [hlt]
        have hone : xs[k].1.oneCell' = true := hPr.isl.one
        have hcut := cut_at hx
        generalize xs[k] = x at *
        have hC : ∀ A B C : HP, Called Try.prog 27 [x.1] (A :: B :: C :: R) (is (int (progE x.2)) (A :: B :: C :: R)) := fun A B C => Check_ok x.1 x.2 _ hPr.isl hPr.src.there.there.there
        by_cases h0 : progE x.2 = 0
        · rw [h0] at hC
          (repeat' first | refine stp ?_ | intro v' hv' | intro (b : Nat) | (apply w_convU; rfl; rfl; omega; omega) | (apply w_convI; rfl; rfl; omega; omega) | (apply w_quoU; rfl; rfl; rfl; omega; omega; omega) | (apply w_remU; rfl; rfl; rfl; omega; omega) | (apply w_minL; rfl; rfl; rfl; omega) | (apply w_minG; rfl; rfl; rfl; omega) | (apply w_min; rfl; rfl; rfl) | (apply w_mfR; rfl; rfl) | (apply w_cvp; rfl; rfl; exact inferInstance; rfl; rfl; assumption) | (apply w_eqS2T; rfl; rfl; rfl; omega) | (apply w_eqS2F; rfl; rfl; rfl; omega) | (apply w_neS2T; rfl; rfl; rfl; omega) | (apply w_neS2F; rfl; rfl; rfl; omega) | (apply w_eqS3T; rfl; rfl; rfl; omega) | (apply w_eqS3F; rfl; rfl; rfl; omega) | (apply w_neS3T; rfl; rfl; rfl; omega) | (apply w_neS3F; rfl; rfl; rfl; omega) | (apply w_eqS3; rfl; rfl; rfl) | (apply w_neS3; rfl; rfl; rfl) | (apply w_eqS2; rfl; rfl; rfl) | (apply w_neS2; rfl; rfl; rfl) | (apply w_maxL; rfl; rfl; rfl; omega) | (apply w_maxG; rfl; rfl; rfl; omega) | (apply w_max; rfl; rfl; rfl) | (apply w_neB; rfl; rfl; rfl; rfl) | (apply w_eqB; rfl; rfl; rfl; rfl) | (apply w_cp; rfl; rfl; assumption) | (apply w_cq; rfl; rfl; exact hC _ _ _) | refine spl ?_ ?_ | intro hc)
          apply w_clS
          rfl; rfl; exact Clone_ok x.1 x.2 _ hPr.there.there.there (progE_may h0).1
          (simp; have := (progE_may h0).1; omega)
          intro c hc
          refine ⟨by (exact kmf), ?_⟩
          have hc' : IsSl c x.2.length := by simpa using hc
          (repeat' first | refine stp ?_ | intro v' hv' | intro (b : Nat) | (apply w_convU; rfl; rfl; omega; omega) | (apply w_convI; rfl; rfl; omega; omega) | (apply w_quoU; rfl; rfl; rfl; omega; omega; omega) | (apply w_remU; rfl; rfl; rfl; omega; omega) | (apply w_minL; rfl; rfl; rfl; omega) | (apply w_minG; rfl; rfl; rfl; omega) | (apply w_min; rfl; rfl; rfl) | (apply w_mfR; rfl; rfl) | (apply w_cvp; rfl; rfl; exact inferInstance; rfl; rfl; assumption) | (apply w_eqS2T; rfl; rfl; rfl; omega) | (apply w_eqS2F; rfl; rfl; rfl; omega) | (apply w_neS2T; rfl; rfl; rfl; omega) | (apply w_neS2F; rfl; rfl; rfl; omega) | (apply w_eqS3T; rfl; rfl; rfl; omega) | (apply w_eqS3F; rfl; rfl; rfl; omega) | (apply w_neS3T; rfl; rfl; rfl; omega) | (apply w_neS3F; rfl; rfl; rfl; omega) | (apply w_eqS3; rfl; rfl; rfl) | (apply w_neS3; rfl; rfl; rfl) | (apply w_eqS2; rfl; rfl; rfl) | (apply w_neS2; rfl; rfl; rfl) | (apply w_maxL; rfl; rfl; rfl; omega) | (apply w_maxG; rfl; rfl; rfl; omega) | (apply w_max; rfl; rfl; rfl) | (apply w_neB; rfl; rfl; rfl; rfl) | (apply w_eqB; rfl; rfl; rfl; rfl) | (apply w_cp; rfl; rfl; assumption) | (apply w_cq; rfl; rfl; exact hC _ _ _) | refine spl ?_ ?_ | intro hc)
          apply w_ap (es := [[c]])
          rfl; rfl; rfl; ((focus ((repeat (first | exact Del.here | apply Del.there)); done))); ((exact srf)); (simp [hc'.one]); (simp; omega); (simp; omega)
          intro v2 hv2
          refine ⟨by (exact kmf), ?_⟩
          have hv3 : IsSl v2 (ys ++ [(c, x.2)]).length := by simpa using hv2
          (repeat' first | refine stp ?_ | intro v' hv' | intro (b : Nat) | (apply w_convU; rfl; rfl; omega; omega) | (apply w_convI; rfl; rfl; omega; omega) | (apply w_quoU; rfl; rfl; rfl; omega; omega; omega) | (apply w_remU; rfl; rfl; rfl; omega; omega) | (apply w_minL; rfl; rfl; rfl; omega) | (apply w_minG; rfl; rfl; rfl; omega) | (apply w_min; rfl; rfl; rfl) | (apply w_mfR; rfl; rfl) | (apply w_cvp; rfl; rfl; exact inferInstance; rfl; rfl; assumption) | (apply w_eqS2T; rfl; rfl; rfl; omega) | (apply w_eqS2F; rfl; rfl; rfl; omega) | (apply w_neS2T; rfl; rfl; rfl; omega) | (apply w_neS2F; rfl; rfl; rfl; omega) | (apply w_eqS3T; rfl; rfl; rfl; omega) | (apply w_eqS3F; rfl; rfl; rfl; omega) | (apply w_neS3T; rfl; rfl; rfl; omega) | (apply w_neS3F; rfl; rfl; rfl; omega) | (apply w_eqS3; rfl; rfl; rfl) | (apply w_neS3; rfl; rfl; rfl) | (apply w_eqS2; rfl; rfl; rfl) | (apply w_neS2; rfl; rfl; rfl) | (apply w_maxL; rfl; rfl; rfl; omega) | (apply w_maxG; rfl; rfl; rfl; omega) | (apply w_max; rfl; rfl; rfl) | (apply w_neB; rfl; rfl; rfl; rfl) | (apply w_eqB; rfl; rfl; rfl; rfl) | (apply w_cp; rfl; rfl; assumption) | (apply w_cq; rfl; rfl; exact hC _ _ _) | refine spl ?_ ?_ | intro hc)
          refine At_againK (k + 1, ys ++ [(c, x.2)], v2) ⟨hlt, ?_, hv3, ?_⟩ (by show xs.length - (k + 1) < xs.length - k; omega) (by (exact sbf)) (by (exact sbf)) (fun w hs => ?_)
          · show (ys ++ [(c, x.2)]).map (fun y => y.2) = (xs.take (k + 1)).map (fun y => y.2)
            rw [htk, List.map_append, List.map_append, hy]; rfl
          · intro y hm
            rcases List.mem_append.1 hm with hm | hm
            · exact hys y hm
            · simp at hm; subst hm; exact ⟨hc', h0⟩
          · show Sat w (pt b 69 (v2 :: nils) :: sl 29 1 v2 ((ys ++ [(c, x.2)]).map fun y => [y.1]) :: all ((ys ++ [(c, x.2)]).map fun y => sl 28 2 y.1 (y.2.map insE)) :: R)
            rw [List.map_append, List.map_append]
            have h1 : Sat w (all (ys.map fun y => sl 28 2 y.1 (y.2.map insE)) :: sl 28 2 c (x.2.map insE) :: pt b 69 (v2 :: nils) :: sl 29 1 v2 (ys.map (fun y => [y.1]) ++ [[c]]) :: R) := Sel.sat (by (focus ((repeat (first | exact Sel.refl | (apply Sel.cons; (focus ((repeat (first | exact Del.here | apply Del.there)); done))) | refine Sel.drop ?_)); done))) hs
            have h2 := Sat.all_iff.1 h1
            have h3 : Sat w (((ys.map fun y => sl 28 2 y.1 (y.2.map insE)) ++ [sl 28 2 c (x.2.map insE)]) ++ pt b 69 (v2 :: nils) :: sl 29 1 v2 (ys.map (fun y => [y.1]) ++ [[c]]) :: R) := by simpa using h2
            have h4 := Sat.all_iff.2 h3
            exact Sel.sat (by (focus ((repeat (first | exact Sel.refl | (apply Sel.cons; (focus ((repeat (first | exact Del.here | apply Del.there)); done))) | refine Sel.drop ?_)); done))) h4
        · have hf : ((xs.map fun x => x.2).map progE).find? (fun e => e != 0) = some (progE x.2) := by
            have hn : (((xs.take k).map fun x => x.2).map progE).find? (fun e => e != 0) = none := by
              rw [List.find?_eq_none]; intro e he
              rw [List.map_map] at he
              obtain ⟨y, hy1, rfl⟩ := List.mem_map.1 he
              simp [hz y hy1]
            rw [hcut, List.map_append, List.map_append, List.find?_append, hn]
            simp [h0]
          rw [hf]
          (repeat' first | refine stp ?_ | intro v' hv' | intro (b : Nat) | (apply w_convU; rfl; rfl; omega; omega) | (apply w_convI; rfl; rfl; omega; omega) | (apply w_quoU; rfl; rfl; rfl; omega; omega; omega) | (apply w_remU; rfl; rfl; rfl; omega; omega) | (apply w_minL; rfl; rfl; rfl; omega) | (apply w_minG; rfl; rfl; rfl; omega) | (apply w_min; rfl; rfl; rfl) | (apply w_mfR; rfl; rfl) | (apply w_cvp; rfl; rfl; exact inferInstance; rfl; rfl; assumption) | (apply w_eqS2T; rfl; rfl; rfl; omega) | (apply w_eqS2F; rfl; rfl; rfl; omega) | (apply w_neS2T; rfl; rfl; rfl; omega) | (apply w_neS2F; rfl; rfl; rfl; omega) | (apply w_eqS3T; rfl; rfl; rfl; omega) | (apply w_eqS3F; rfl; rfl; rfl; omega) | (apply w_neS3T; rfl; rfl; rfl; omega) | (apply w_neS3F; rfl; rfl; rfl; omega) | (apply w_eqS3; rfl; rfl; rfl) | (apply w_neS3; rfl; rfl; rfl) | (apply w_eqS2; rfl; rfl; rfl) | (apply w_neS2; rfl; rfl; rfl) | (apply w_maxL; rfl; rfl; rfl; omega) | (apply w_maxG; rfl; rfl; rfl; omega) | (apply w_max; rfl; rfl; rfl) | (apply w_neB; rfl; rfl; rfl; rfl) | (apply w_eqB; rfl; rfl; rfl; rfl) | (apply w_cp; rfl; rfl; assumption) | (apply w_cq; rfl; rfl; exact hC _ _ _) | refine spl ?_ ?_ | intro hc)
          exact At_ret2 (by (first | exact .inl rfl | exact .inr rfl)) Try.results8 rfl rfl (by rw [if_neg (show ¬ (some (progE x.2)).getD 0 = 0 from h0)]; exact ⟨rfl, rfl⟩) (by (exact frm))
      · have hk' : k = xs.length := by omega
        subst hk'
        rw [List.take_length] at hy hz
        have hf : ((xs.map fun x => x.2).map progE).find? (fun e => e != 0) = none := by
          rw [List.find?_eq_none]; intro e he
          rw [List.map_map] at he
          obtain ⟨y, hy1, rfl⟩ := List.mem_map.1 he
          simp [hz y hy1]
        rw [hf]
        have hok : TabOk ⟨xs.map fun x => x.2, List.replicate 64 none⟩ u ys (List.replicate 64 none) := {
          n64 := List.length_replicate
          lisl := hu
          few := by omega
          progs := hy.symm
          isl := hys
          ths := by rw [List.map_replicate]; rfl
          each := fun n t hm => by have := List.eq_of_mem_replicate hm; cases this }
        (repeat' first | refine stp ?_ | intro v' hv' | intro (b : Nat) | (apply w_convU; rfl; rfl; omega; omega) | (apply w_convI; rfl; rfl; omega; omega) | (apply w_quoU; rfl; rfl; rfl; omega; omega; omega) | (apply w_remU; rfl; rfl; rfl; omega; omega) | (apply w_minL; rfl; rfl; rfl; omega) | (apply w_minG; rfl; rfl; rfl; omega) | (apply w_min; rfl; rfl; rfl) | (apply w_mfR; rfl; rfl) | (apply w_cvp; rfl; rfl; exact inferInstance; rfl; rfl; assumption) | (apply w_eqS2T; rfl; rfl; rfl; omega) | (apply w_eqS2F; rfl; rfl; rfl; omega) | (apply w_neS2T; rfl; rfl; rfl; omega) | (apply w_neS2F; rfl; rfl; rfl; omega) | (apply w_eqS3T; rfl; rfl; rfl; omega) | (apply w_eqS3F; rfl; rfl; rfl; omega) | (apply w_neS3T; rfl; rfl; rfl; omega) | (apply w_neS3F; rfl; rfl; rfl; omega) | (apply w_eqS3; rfl; rfl; rfl) | (apply w_neS3; rfl; rfl; rfl) | (apply w_eqS2; rfl; rfl; rfl) | (apply w_neS2; rfl; rfl; rfl) | (apply w_maxL; rfl; rfl; rfl; omega) | (apply w_maxG; rfl; rfl; rfl; omega) | (apply w_max; rfl; rfl; rfl) | (apply w_neB; rfl; rfl; rfl; rfl) | (apply w_eqB; rfl; rfl; rfl; rfl) | (apply w_cp; rfl; rfl; assumption) | (apply w_cq; rfl; rfl; exact hC _ _ _) | refine spl ?_ ?_ | intro hc)
        refine At_ret2 (by (first | exact .inl rfl | exact .inr rfl)) Try.results8 rfl rfl (by rw [if_pos (by rfl)]; exact ⟨b, rfl, rfl⟩) (fun w hs => tbl_fold hok ?_)
        rw [nils_eq]
        have h1 : Sat w (sl 29 1 u (ys.map fun y => [y.1]) :: all (ys.map fun y => sl 28 2 y.1 (y.2.map insE)) :: pt b 69 (u :: nils) :: R) := Sel.sat (by (focus ((repeat (first | exact Sel.refl | (apply Sel.cons; (focus ((repeat (first | exact Del.here | apply Del.there)); done))) | refine Sel.drop ?_)); done))) hs
        have h2 := libH_fold h1
        have h3 : Sat w (all [] :: libH u ys :: pt b 69 (u :: nils) :: R) := Sat.all_iff.2 h2
        have h4 : Sat w (thsH (List.replicate 64 none) :: libH u ys :: pt b 69 (u :: nils) :: R) := by
          unfold thsH
          rw [show (List.replicate 64 (none : Option (Nat × Th))).filterMap thO = [] from by simp [List.filterMap_replicate, thO]]
          exact h3
        exact Sel.sat (by (focus ((repeat (first | exact Sel.refl | (apply Sel.cons; (focus ((repeat (first | exact Del.here | apply Del.there)); done))) | refine Sel.drop ?_)); done))) h4
end Go.Proofs.Ytmkbijjmipppaaa
