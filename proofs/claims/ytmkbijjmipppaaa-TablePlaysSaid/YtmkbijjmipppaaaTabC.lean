/- table: the methods, but New and the iterators. Conditions: none. -/
import Derived.Test.YtmkbijjmipppaaaTabB
set_option linter.all false
set_option linter.deprecated false
namespace Go.Proofs.Ytmkbijjmipppaaa
open Go.Sep
variable [B0 : Base]
/-! ### In plain words -/
def actP (l : List Ins) (t : Tm) : Int × Int := match l[t.at']? with
  | none => (9, 0)
  | some x => if x.op = 1 then (1, t.left) else (x.op, x.n)
def freshP (l : List Ins) (t : Tm) : Tm := { t with left := match l[t.at']? with
  | none => 0
  | some x => if x.op = 1 then x.n else 0 }
def nextP (l : List Ins) (t : Tm) : Tm := freshP l { t with at' := t.at' + 1 }
def Tab.l (T : Tab) (t : Tm) : List Ins := T.progs.getD t.pr []
def Tab.setT (T : Tab) (i : Nat) (o : Option Tm) : Tab := { T with ths := T.ths.set i o }
def findT (T : Tab) (id : Int) : Option Tm × Int := if id < 0 ∨ 64 ≤ id then (none, 10) else match T.ths[id.toNat]? with
  | some (some t) => (some t, 0)
  | _ => (none, 14)
def actT (T : Tab) (id : Int) : (Int × Int) × Int := match findT T id with
  | (some t, _) => (actP (T.l t) t, 0)
  | (none, e) => ((0, 0), e)
def whereT (T : Tab) (id : Int) : (Int × Int × Int) × Int := match findT T id with
  | (some t, _) => ((t.pr, t.at', t.left), 0)
  | (none, e) => ((0, 0, 0), e)
def killT (T : Tab) (id : Int) : Int × Tab := match findT T id with
  | (some _, _) => (0, T.setT id.toNat none)
  | (none, e) => (e, T)
def ranP (l : List Ins) (t : Tm) (k : Int) : Tm := if t.left - k = 0 then nextP l { t with left := t.left - k } else { t with left := t.left - k }
def runT (T : Tab) (id n : Int) : (Int × Int) × Tab := match findT T id with
  | (none, e) => ((0, e), T)
  | (some t, _) => if (actP (T.l t) t).1 ≠ 1 then ((0, 16), T) else if n < 0 then ((0, 10), T) else if t.left < n then ((t.left, 0), T.setT id.toNat (some (ranP (T.l t) t t.left))) else ((n, 0), T.setT id.toNat (some (ranP (T.l t) t n)))
def doneT (T : Tab) (id : Int) : Int × Tab := match findT T id with
  | (none, e) => (e, T)
  | (some t, _) => if (actP (T.l t) t).1 = 1 then (16, T) else if (actP (T.l t) t).1 = 9 then (0, T.setT id.toNat none) else (0, T.setT id.toNat (some (nextP (T.l t) t)))
def spawnT (T : Tab) (p : Int) : (Int × Int) × Tab := if p < 0 ∨ T.progs.length ≤ p then ((0, 14), T) else match T.ths.findIdx? (fun o => o.isNone) with
  | none => ((0, 13), T)
  | some k => ((k, 0), T.setT k (some (freshP (T.progs.getD p.toNat []) ⟨p.toNat, 0, 0⟩)))

/-! ### What is so of it -/
section
variable {T : Tab} {lv : Value} {xs : List (Value × List Ins)} {ls : List (Option (Nat × Th))}
theorem TabOk.tl (h : TabOk T lv xs ls) {n : Nat} {t : Th} (ht : some (n, t) ∈ ls) : T.l (absT t) = t.l := by
  have h1 := (h.each n t ht).2.1
  unfold Tab.l absT
  rw [h.progs, List.getD_eq_getElem?_getD, List.getElem?_map, h1]; rfl
theorem find_low (h : TabOk T lv xs ls) (id : Int) : (∃ e, e ≠ 0 ∧ findT T id = (none, e) ∧ findM (qsOf ls) id = (none, e)) ∨ ∃ n t, 0 ≤ id ∧ id < 64 ∧ ls[id.toNat]? = some (some (n, t)) ∧ findT T id = (some (absT t), 0) ∧ findM (qsOf ls) id = (some n, 0) := by
  unfold findT findM
  by_cases hi : id < 0 ∨ 64 ≤ id
  · rw [if_pos hi, if_pos hi]; exact .inl ⟨10, by decide, rfl, rfl⟩
  · rw [if_neg hi, if_neg hi, h.ths]
    unfold qsOf
    have hlt : id.toNat < ls.length := by rw [h.n64]; omega
    have hx : ls[id.toNat]? = some ls[id.toNat] := by simp [hlt]
    rw [List.getElem?_map, List.getElem?_map, hx]
    cases hn : ls[id.toNat] with
    | none => exact .inl ⟨14, by decide, rfl, rfl⟩
    | some x => exact .inr ⟨x.1, x.2, by omega, by omega, by first | rfl | rw [hx, hn], rfl, rfl⟩
theorem TabOk.set (h : TabOk T lv xs ls) {i n : Nat} {t : Th} (h1 : 0 ≤ t.pr) (h2 : xs[t.pr.toNat]? = some (t.p, t.l)) (h3 : t.at' ≤ t.l.length) (h4 : 0 ≤ t.left) (h5 : t.left < 1099511627776) : TabOk (T.setT i (some (absT t))) lv xs (ls.set i (some (n, t))) where
  n64 := by rw [List.length_set]; exact h.n64
  lisl := h.lisl
  few := h.few
  progs := h.progs
  isl := h.isl
  ths := by unfold Tab.setT; rw [h.ths, List.map_set]; rfl
  each := fun m u hm => by
    rcases List.mem_or_eq_of_mem_set hm with hm | hm
    · exact h.each m u hm
    · cases hm; exact ⟨h1, h2, h3, h4, h5⟩
theorem TabOk.clear (h : TabOk T lv xs ls) {i : Nat} : TabOk (T.setT i none) lv xs (ls.set i none) where
  n64 := by rw [List.length_set]; exact h.n64
  lisl := h.lisl
  few := h.few
  progs := h.progs
  isl := h.isl
  ths := by unfold Tab.setT; rw [h.ths, List.map_set]; rfl
  each := fun m u hm => by
    rcases List.mem_or_eq_of_mem_set hm with hm | hm
    · exact h.each m u hm
    · cases hm
theorem qsOf_set {i n : Nat} {t t' : Th} (h : ls[i]? = some (some (n, t))) : qsOf (ls.set i (some (n, t'))) = qsOf ls := by
  unfold qsOf
  rw [List.map_set]
  exact set_self (by rw [List.getElem?_map, h]; rfl)
theorem tbl_back {b i n : Nat} {t t' : Th} {T' : Tab} (h : ls[i]? = some (some (n, t))) (hok : TabOk T' lv xs (ls.set i (some (n, t')))) {w : World} {R : List HP} (hs : Sat w (pt n 73 (thE t') :: pt b 69 (lv :: (qsOf ls).map ptrO) :: thsH (ls.set i none) :: libH lv xs :: R)) : Sat w (tbl b T' :: R) := by
  refine tbl_fold hok ?_
  rw [qsOf_set h]
  have h1 : Sat w (pt n 73 (thE t') :: thsH (ls.set i none) :: pt b 69 (lv :: (qsOf ls).map ptrO) :: libH lv xs :: R) := Sel.sat (by (focus ((repeat (first | exact Sel.refl | (apply Sel.cons; (focus ((repeat (first | exact Del.here | apply Del.there)); done))) | refine Sel.drop ?_)); done))) hs
  have h2 := thsH_close h h1
  exact Sel.sat (by (focus ((repeat (first | exact Sel.refl | (apply Sel.cons; (focus ((repeat (first | exact Del.here | apply Del.there)); done))) | refine Sel.drop ?_)); done))) h2
theorem tbl_open {b i n : Nat} {t : Th} (h : ls[i]? = some (some (n, t))) {w : World} {R : List HP} (hs : Sat w (pt b 69 (lv :: (qsOf ls).map ptrO) :: thsH ls :: libH lv xs :: R)) : Sat w (pt n 73 (thE t) :: pt b 69 (lv :: (qsOf ls).map ptrO) :: thsH (ls.set i none) :: libH lv xs :: R) := by
  have h1 : Sat w (thsH ls :: pt b 69 (lv :: (qsOf ls).map ptrO) :: libH lv xs :: R) := Sel.sat (by (focus ((repeat (first | exact Sel.refl | (apply Sel.cons; (focus ((repeat (first | exact Del.here | apply Del.there)); done))) | refine Sel.drop ?_)); done))) hs
  have h2 := thsH_open h h1
  exact Sel.sat (by (focus ((repeat (first | exact Sel.refl | (apply Sel.cons; (focus ((repeat (first | exact Del.here | apply Del.there)); done))) | refine Sel.drop ?_)); done))) h2
theorem TabOk.same (h : TabOk T lv xs ls) {i n : Nat} {t : Th} (hl : ls[i]? = some (some (n, t))) : TabOk T lv xs (ls.set i (some (n, t))) := by rw [set_self hl]; exact h
end
theorem RdAll.pre {b : Nat} {T : TypeId} {vs us : List Value} {L : List HP} : RdAll (pt b T (vs ++ us) :: L) b 0 vs :=
  RdAll.at fun i v h => by rw [Nat.zero_add]; exact Rd.pt (by rw [List.getElem?_append_left (List.getElem?_eq_some_iff.1 h).1]; exact h)
theorem qs64 {T : Tab} {lv : Value} {xs : List (Value × List Ins)} {ls : List (Option (Nat × Th))} (h : TabOk T lv xs ls) : (qsOf ls).length = 64 := by unfold qsOf; rw [List.length_map]; exact h.n64

set_option maxHeartbeats 4000000 in
theorem Act_ok (b : Nat) (T : Tab) (id : Int) (R : List HP) : Called Try.prog 14 [ptr b, int id] (tbl b T :: R) (is (.tuple #[.agg #[int (actT T id).1.1, int (actT T id).1.2], int (actT T id).2]) (tbl b T :: R)) := by
  refine Fn2 Try.func14 rfl Try.ntmps14 rfl ?_
  refine C_tbl fun lv xs ls hok => ?_
  have hF := find_ok b lv (qsOf ls) id (qs64 hok)
  unfold actT
  rcases find_low hok id with ⟨e, he, h1, h2⟩ | ⟨n, t, i0, i1, hl, h1, h2⟩
  · rw [h2] at hF
    rw [h1]
    dsimp only [ptrO] at hF ⊢
    (repeat' first | refine stp ?_ | intro v' hv' | intro (b : Nat) | (apply w_convU; rfl; rfl; omega; omega) | (apply w_convI; rfl; rfl; omega; omega) | (apply w_quoU; rfl; rfl; rfl; omega; omega; omega) | (apply w_remU; rfl; rfl; rfl; omega; omega) | (apply w_minL; rfl; rfl; rfl; omega) | (apply w_minG; rfl; rfl; rfl; omega) | (apply w_min; rfl; rfl; rfl) | (apply w_mfR; rfl; rfl) | (apply w_cvp; rfl; rfl; exact inferInstance; rfl; rfl; assumption) | (apply w_eqS2T; rfl; rfl; rfl; omega) | (apply w_eqS2F; rfl; rfl; rfl; omega) | (apply w_neS2T; rfl; rfl; rfl; omega) | (apply w_neS2F; rfl; rfl; rfl; omega) | (apply w_eqS3T; rfl; rfl; rfl; omega) | (apply w_eqS3F; rfl; rfl; rfl; omega) | (apply w_neS3T; rfl; rfl; rfl; omega) | (apply w_neS3F; rfl; rfl; rfl; omega) | (apply w_eqS3; rfl; rfl; rfl) | (apply w_neS3; rfl; rfl; rfl) | (apply w_eqS2; rfl; rfl; rfl) | (apply w_neS2; rfl; rfl; rfl) | (apply w_maxL; rfl; rfl; rfl; omega) | (apply w_maxG; rfl; rfl; rfl; omega) | (apply w_max; rfl; rfl; rfl) | (apply w_neB; rfl; rfl; rfl; rfl) | (apply w_eqB; rfl; rfl; rfl; rfl) | (apply w_fldV; rfl; rfl; rfl) | (apply w_cq; rfl; rfl; apply Called.at (h := hF); ((focus ((repeat (first | exact Rep.here | apply Rep.there)); done)))) | (apply w_cq; rfl; rfl; apply Called.at2 (h := hA); ((focus ((repeat (first | (apply Rep2.here; ((focus ((repeat (first | exact Rep.here | apply Rep.there)); done)))) | (apply Rep2.other; ((focus ((repeat (first | exact Rep.here | apply Rep.there)); done)))) | apply Rep2.there)); done)))) | refine spl ?_ ?_ | intro hc)
    all_goals (apply At_retR (by (first | exact .inl rfl | exact .inr rfl)) Try.results14; ((focus ((repeat (first | exact ResR.nil | (apply ResR.tmp; rfl) | (apply ResR.one; rfl; (focus ((repeat (first | assumption | exact .pt rfl | exact .sl ‹_› rfl | exact .sl1 (by first | assumption | rfl) | apply Rd.there)); done))) | (apply ResR.agg; rfl; (focus ((repeat (first | assumption | exact .pt | exact .sl ‹_› | apply RdAll.there)); done)); rfl))); done))); (refine ⟨?_, rfl⟩; rfl); (exact fun w h => tbl_fold hok (Sel.sat (by (focus ((repeat (first | exact Sel.refl | (apply Sel.cons; (focus ((repeat (first | exact Del.here | apply Del.there)); done))) | refine Sel.drop ?_)); done))) h)))
  · have hm := List.mem_of_getElem? hl
    have hA := fun R => act_ok n t (libH lv xs :: R) (hok.prIn hm R)
    rw [show actM t = actP (T.l (absT t)) (absT t) from by rw [hok.tl hm]; rfl] at hA
    rw [h2] at hF
    rw [h1]
    dsimp only [ptrO] at hF ⊢
    refine C_sat (fun w h => tbl_open hl h) ?_
    (repeat' first | refine stp ?_ | intro v' hv' | intro (b : Nat) | (apply w_convU; rfl; rfl; omega; omega) | (apply w_convI; rfl; rfl; omega; omega) | (apply w_quoU; rfl; rfl; rfl; omega; omega; omega) | (apply w_remU; rfl; rfl; rfl; omega; omega) | (apply w_minL; rfl; rfl; rfl; omega) | (apply w_minG; rfl; rfl; rfl; omega) | (apply w_min; rfl; rfl; rfl) | (apply w_mfR; rfl; rfl) | (apply w_cvp; rfl; rfl; exact inferInstance; rfl; rfl; assumption) | (apply w_eqS2T; rfl; rfl; rfl; omega) | (apply w_eqS2F; rfl; rfl; rfl; omega) | (apply w_neS2T; rfl; rfl; rfl; omega) | (apply w_neS2F; rfl; rfl; rfl; omega) | (apply w_eqS3T; rfl; rfl; rfl; omega) | (apply w_eqS3F; rfl; rfl; rfl; omega) | (apply w_neS3T; rfl; rfl; rfl; omega) | (apply w_neS3F; rfl; rfl; rfl; omega) | (apply w_eqS3; rfl; rfl; rfl) | (apply w_neS3; rfl; rfl; rfl) | (apply w_eqS2; rfl; rfl; rfl) | (apply w_neS2; rfl; rfl; rfl) | (apply w_maxL; rfl; rfl; rfl; omega) | (apply w_maxG; rfl; rfl; rfl; omega) | (apply w_max; rfl; rfl; rfl) | (apply w_neB; rfl; rfl; rfl; rfl) | (apply w_eqB; rfl; rfl; rfl; rfl) | (apply w_fldV; rfl; rfl; rfl) | (apply w_cq; rfl; rfl; apply Called.at (h := hF); ((focus ((repeat (first | exact Rep.here | apply Rep.there)); done)))) | (apply w_cq; rfl; rfl; apply Called.at2 (h := hA); ((focus ((repeat (first | (apply Rep2.here; ((focus ((repeat (first | exact Rep.here | apply Rep.there)); done)))) | (apply Rep2.other; ((focus ((repeat (first | exact Rep.here | apply Rep.there)); done)))) | apply Rep2.there)); done)))) | refine spl ?_ ?_ | intro hc)
    all_goals (apply At_retR (by (first | exact .inl rfl | exact .inr rfl)) Try.results14; ((focus ((repeat (first | exact ResR.nil | (apply ResR.tmp; rfl) | (apply ResR.one; rfl; (focus ((repeat (first | assumption | exact .pt rfl | exact .sl ‹_› rfl | exact .sl1 (by first | assumption | rfl) | apply Rd.there)); done))) | (apply ResR.agg; rfl; (focus ((repeat (first | assumption | exact .pt | exact .sl ‹_› | apply RdAll.there)); done)); rfl))); done))); (refine ⟨?_, rfl⟩; rfl); (exact fun w h => tbl_back hl (hok.same hl) (Sel.sat (by (focus ((repeat (first | exact Sel.refl | (apply Sel.cons; (focus ((repeat (first | exact Del.here | apply Del.there)); done))) | refine Sel.drop ?_)); done))) h)))
set_option maxHeartbeats 4000000 in
theorem Where_ok (b : Nat) (T : Tab) (id : Int) (R : List HP) : Called Try.prog 11 [ptr b, int id] (tbl b T :: R) (is (.tuple #[.agg #[int (whereT T id).1.1, int (whereT T id).1.2.1, int (whereT T id).1.2.2], int (whereT T id).2]) (tbl b T :: R)) := by
  refine Fn2 Try.func11 rfl Try.ntmps11 rfl ?_
  refine C_tbl fun lv xs ls hok => ?_
  have hF := find_ok b lv (qsOf ls) id (qs64 hok)
  unfold whereT
  rcases find_low hok id with ⟨e, he, h1, h2⟩ | ⟨n, t, i0, i1, hl, h1, h2⟩
  · rw [h2] at hF
    rw [h1]
    dsimp only [ptrO] at hF ⊢
    (repeat' first | refine stp ?_ | intro v' hv' | intro (b : Nat) | (apply w_convU; rfl; rfl; omega; omega) | (apply w_convI; rfl; rfl; omega; omega) | (apply w_quoU; rfl; rfl; rfl; omega; omega; omega) | (apply w_remU; rfl; rfl; rfl; omega; omega) | (apply w_minL; rfl; rfl; rfl; omega) | (apply w_minG; rfl; rfl; rfl; omega) | (apply w_min; rfl; rfl; rfl) | (apply w_mfR; rfl; rfl) | (apply w_cvp; rfl; rfl; exact inferInstance; rfl; rfl; assumption) | (apply w_eqS2T; rfl; rfl; rfl; omega) | (apply w_eqS2F; rfl; rfl; rfl; omega) | (apply w_neS2T; rfl; rfl; rfl; omega) | (apply w_neS2F; rfl; rfl; rfl; omega) | (apply w_eqS3T; rfl; rfl; rfl; omega) | (apply w_eqS3F; rfl; rfl; rfl; omega) | (apply w_neS3T; rfl; rfl; rfl; omega) | (apply w_neS3F; rfl; rfl; rfl; omega) | (apply w_eqS3; rfl; rfl; rfl) | (apply w_neS3; rfl; rfl; rfl) | (apply w_eqS2; rfl; rfl; rfl) | (apply w_neS2; rfl; rfl; rfl) | (apply w_maxL; rfl; rfl; rfl; omega) | (apply w_maxG; rfl; rfl; rfl; omega) | (apply w_max; rfl; rfl; rfl) | (apply w_neB; rfl; rfl; rfl; rfl) | (apply w_eqB; rfl; rfl; rfl; rfl) | (apply w_fldV; rfl; rfl; rfl) | (apply w_cq; rfl; rfl; apply Called.at (h := hF); ((focus ((repeat (first | exact Rep.here | apply Rep.there)); done)))) | (apply w_cq; rfl; rfl; apply Called.at2 (h := hA); ((focus ((repeat (first | (apply Rep2.here; ((focus ((repeat (first | exact Rep.here | apply Rep.there)); done)))) | (apply Rep2.other; ((focus ((repeat (first | exact Rep.here | apply Rep.there)); done)))) | apply Rep2.there)); done)))) | refine spl ?_ ?_ | intro hc)
    all_goals (apply At_retR (by (first | exact .inl rfl | exact .inr rfl)) Try.results11; ((focus ((repeat (first | exact ResR.nil | (apply ResR.tmp; rfl) | (apply ResR.one; rfl; (focus ((repeat (first | assumption | exact .pt rfl | exact .sl ‹_› rfl | exact .sl1 (by first | assumption | rfl) | apply Rd.there)); done))) | (apply ResR.agg; rfl; (focus ((repeat (first | assumption | exact .pt | exact .sl ‹_› | apply RdAll.there)); done)); rfl))); done))); (refine ⟨?_, rfl⟩; rfl); (exact fun w h => tbl_fold hok (Sel.sat (by (focus ((repeat (first | exact Sel.refl | (apply Sel.cons; (focus ((repeat (first | exact Del.here | apply Del.there)); done))) | refine Sel.drop ?_)); done))) h)))
  · have hm := List.mem_of_getElem? hl
    have hpr := (hok.each n t hm).1
    rw [h2] at hF
    rw [h1]
    dsimp only [ptrO, absT] at hF ⊢
    rw [show ((t.pr.toNat : Nat) : Int) = t.pr by omega]
    have hra : RdAll (pt n 73 (thE t) :: pt b 69 (lv :: (qsOf ls).map ptrO) :: thsH (ls.set id.toNat none) :: libH lv xs :: R) n 0 [int t.pr, int t.at', int t.left] := RdAll.pre (vs := [int t.pr, int t.at', int t.left]) (us := [t.p])
    refine C_sat (fun w h => tbl_open hl h) ?_
    (repeat' first | refine stp ?_ | intro v' hv' | intro (b : Nat) | (apply w_convU; rfl; rfl; omega; omega) | (apply w_convI; rfl; rfl; omega; omega) | (apply w_quoU; rfl; rfl; rfl; omega; omega; omega) | (apply w_remU; rfl; rfl; rfl; omega; omega) | (apply w_minL; rfl; rfl; rfl; omega) | (apply w_minG; rfl; rfl; rfl; omega) | (apply w_min; rfl; rfl; rfl) | (apply w_mfR; rfl; rfl) | (apply w_cvp; rfl; rfl; exact inferInstance; rfl; rfl; assumption) | (apply w_eqS2T; rfl; rfl; rfl; omega) | (apply w_eqS2F; rfl; rfl; rfl; omega) | (apply w_neS2T; rfl; rfl; rfl; omega) | (apply w_neS2F; rfl; rfl; rfl; omega) | (apply w_eqS3T; rfl; rfl; rfl; omega) | (apply w_eqS3F; rfl; rfl; rfl; omega) | (apply w_neS3T; rfl; rfl; rfl; omega) | (apply w_neS3F; rfl; rfl; rfl; omega) | (apply w_eqS3; rfl; rfl; rfl) | (apply w_neS3; rfl; rfl; rfl) | (apply w_eqS2; rfl; rfl; rfl) | (apply w_neS2; rfl; rfl; rfl) | (apply w_maxL; rfl; rfl; rfl; omega) | (apply w_maxG; rfl; rfl; rfl; omega) | (apply w_max; rfl; rfl; rfl) | (apply w_neB; rfl; rfl; rfl; rfl) | (apply w_eqB; rfl; rfl; rfl; rfl) | (apply w_fldV; rfl; rfl; rfl) | (apply w_cq; rfl; rfl; apply Called.at (h := hF); ((focus ((repeat (first | exact Rep.here | apply Rep.there)); done)))) | (apply w_cq; rfl; rfl; apply Called.at2 (h := hA); ((focus ((repeat (first | (apply Rep2.here; ((focus ((repeat (first | exact Rep.here | apply Rep.there)); done)))) | (apply Rep2.other; ((focus ((repeat (first | exact Rep.here | apply Rep.there)); done)))) | apply Rep2.there)); done)))) | refine spl ?_ ?_ | intro hc)
    all_goals (apply At_retR (by (first | exact .inl rfl | exact .inr rfl)) Try.results11; ((focus ((repeat (first | exact ResR.nil | (apply ResR.tmp; rfl) | (apply ResR.one; rfl; (focus ((repeat (first | assumption | exact .pt rfl | exact .sl ‹_› rfl | exact .sl1 (by first | assumption | rfl) | apply Rd.there)); done))) | (apply ResR.agg; rfl; (focus ((repeat (first | assumption | exact .pt | exact .sl ‹_› | apply RdAll.there)); done)); rfl))); done))); (refine ⟨?_, rfl⟩; rfl); (exact fun w h => tbl_back hl (hok.same hl) (Sel.sat (by (focus ((repeat (first | exact Sel.refl | (apply Sel.cons; (focus ((repeat (first | exact Del.here | apply Del.there)); done))) | refine Sel.drop ?_)); done))) h)))
end Go.Proofs.Ytmkbijjmipppaaa
