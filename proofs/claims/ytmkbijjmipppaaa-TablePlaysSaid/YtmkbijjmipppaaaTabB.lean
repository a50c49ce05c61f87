/- table: the whole of it as one assertion; New. Conditions: none. -/
import Derived.Test.YtmkbijjmipppaaaTabA
set_option linter.all false
set_option linter.deprecated false
namespace Go.Proofs.Ytmkbijjmipppaaa
open Go.Sep
variable [B0 : Base]
/-- The threads that there are, each in its block. -/
def thO : Option (Nat × Th) → Option HP
  | some (n, t) => some (pt n 73 (thE t))
  | none => none
def thsH (ls : List (Option (Nat × Th))) : HP := all (ls.filterMap thO)
def qsOf (ls : List (Option (Nat × Th))) : List (Option Nat) := ls.map fun o => o.map fun x => x.1
/-- The library: its programs, each in a slice. -/
def libH (lv : Value) (xs : List (Value × List Ins)) : HP := all (sl 29 1 lv (xs.map fun x => [x.1]) :: xs.map fun x => sl 28 2 x.1 (x.2.map insE))

theorem cut_at {α : Type} {l : List α} {i : Nat} {x : α} (h : l[i]? = some x) : l = l.take i ++ x :: l.drop (i + 1) := by
  obtain ⟨hi, rfl⟩ := List.getElem?_eq_some_iff.1 h
  rw [List.getElem_cons_drop]; exact (List.take_append_drop i l).symm
theorem set_at {α : Type} {l : List α} {i : Nat} {x y : α} (h : l[i]? = some x) : l.set i y = l.take i ++ y :: l.drop (i + 1) := by
  obtain ⟨hi, -⟩ := List.getElem?_eq_some_iff.1 h
  exact List.set_eq_take_append_cons_drop.trans (if_pos hi)
theorem ths_none {ls : List (Option (Nat × Th))} {i : Nat} {x : Option (Nat × Th)} (h : ls[i]? = some x) : (ls.set i none).filterMap thO = (ls.take i).filterMap thO ++ (ls.drop (i + 1)).filterMap thO := by
  rw [set_at h, List.filterMap_append, List.filterMap_cons]; rfl
theorem ths_some {ls : List (Option (Nat × Th))} {i n : Nat} {t : Th} {x : Option (Nat × Th)} (h : ls[i]? = some x) : ((ls.set i (some (n, t))).filterMap thO).Perm (pt n 73 (thE t) :: (ls.set i none).filterMap thO) := by
  rw [ths_none h, set_at h, List.filterMap_append, List.filterMap_cons]
  exact List.perm_middle
theorem thsH_open {ls : List (Option (Nat × Th))} {i n : Nat} {t : Th} (h : ls[i]? = some (some (n, t))) {w : World} {R : List HP} (hs : Sat w (thsH ls :: R)) : Sat w (pt n 73 (thE t) :: thsH (ls.set i none) :: R) := by
  have h1 := Sat.all_iff.1 hs
  have e : ls = ls.set i (some (n, t)) := by
    apply List.ext_getElem?
    intro j
    by_cases hj : i = j
    · subst hj; rw [h, List.getElem?_set_self (List.getElem?_eq_some_iff.1 h).1]
    · rw [List.getElem?_set_ne hj]
  rw [e] at h1
  have h2 : Sat w (pt n 73 (thE t) :: ((ls.set i none).filterMap thO ++ R)) := h1.perm ((ths_some h).append_right R)
  have h3 : Sat w (thsH (ls.set i none) :: pt n 73 (thE t) :: R) := Sat.all_iff.2 (h2.perm List.perm_middle.symm)
  exact h3.perm (.swap ..)
theorem thsH_close {ls : List (Option (Nat × Th))} {i n : Nat} {t : Th} {x : Option (Nat × Th)} (h : ls[i]? = some x) {w : World} {R : List HP} (hs : Sat w (pt n 73 (thE t) :: thsH (ls.set i none) :: R)) : Sat w (thsH (ls.set i (some (n, t))) :: R) := by
  have h1 : Sat w ((ls.set i none).filterMap thO ++ pt n 73 (thE t) :: R) := Sat.all_iff.1 (hs.perm (.swap ..))
  have h2 : Sat w (pt n 73 (thE t) :: ((ls.set i none).filterMap thO ++ R)) := h1.perm List.perm_middle
  exact Sat.all_iff.2 (h2.perm ((ths_some h).append_right R).symm)
theorem set_self {α : Type} {l : List α} {i : Nat} {x : α} (h : l[i]? = some x) : l.set i x = l := by
  apply List.ext_getElem?
  intro j
  by_cases hj : i = j
  · subst hj; rw [h, List.getElem?_set_self (List.getElem?_eq_some_iff.1 h).1]
  · rw [List.getElem?_set_ne hj]
theorem thsH_new {ls : List (Option (Nat × Th))} {i n : Nat} {t : Th} (h : ls[i]? = some none) {w : World} {R : List HP} (hs : Sat w (pt n 73 (thE t) :: thsH ls :: R)) : Sat w (thsH (ls.set i (some (n, t))) :: R) := by
  refine thsH_close h ?_
  rwa [set_self h]
theorem thsH_drop {ls : List (Option (Nat × Th))} {i n : Nat} {t : Th} (h : ls[i]? = some (some (n, t))) {w : World} {R : List HP} (hs : Sat w (thsH ls :: R)) : Sat w (thsH (ls.set i none) :: R) := (thsH_open h hs).drop

/-! ### What a table is, in plain words -/
structure Tm where
  pr : Nat
  at' : Nat
  left : Int
  deriving DecidableEq
structure Tab where
  progs : List (List Ins)
  ths : List (Option Tm)
def absT (t : Th) : Tm := ⟨t.pr.toNat, t.at', t.left⟩
structure TabOk (T : Tab) (lv : Value) (xs : List (Value × List Ins)) (ls : List (Option (Nat × Th))) : Prop where
  n64 : ls.length = 64
  lisl : IsSl lv xs.length
  few : xs.length ≤ 64
  progs : T.progs = xs.map fun x => x.2
  isl : ∀ x ∈ xs, IsSl x.1 x.2.length ∧ progE x.2 = 0
  ths : T.ths = ls.map fun o => o.map fun x => absT x.2
  each : ∀ n t, some (n, t) ∈ ls → 0 ≤ t.pr ∧ xs[t.pr.toNat]? = some (t.p, t.l) ∧ t.at' ≤ t.l.length ∧ 0 ≤ t.left ∧ t.left < 1099511627776
def tbl (b : Nat) (T : Tab) : HP := ex fun x : Value × List (Value × List Ins) × List (Option (Nat × Th)) => all [fact (TabOk T x.1 x.2.1 x.2.2), pt b 69 (x.1 :: (qsOf x.2.2).map ptrO), thsH x.2.2, libH x.1 x.2.1]
theorem tbl_fold {b : Nat} {T : Tab} {lv : Value} {xs : List (Value × List Ins)} {ls : List (Option (Nat × Th))} (h : TabOk T lv xs ls) {w : World} {R : List HP} (hs : Sat w (pt b 69 (lv :: (qsOf ls).map ptrO) :: thsH ls :: libH lv xs :: R)) : Sat w (tbl b T :: R) :=
  Sat.ex_iff.2 ⟨(lv, xs, ls), Sat.all_iff.2 (Sat.fact_iff.2 ⟨h, hs⟩)⟩
theorem C_tbl {P : Program} {ro : Option Nat} {Q : Exit → Act → World → Prop} {n : Nat} {F : Fr} {ds : List Deferred} {R : List HP} {cd : Code} {b : Nat} {T : Tab}
    (h : ∀ lv xs ls, TabOk T lv xs ls → C P ro cd Q n F ds (pt b 69 (lv :: (qsOf ls).map ptrO) :: thsH ls :: libH lv xs :: R)) : C P ro cd Q n F ds (tbl b T :: R) := by
  unfold tbl
  refine C_ex fun x => ?_
  refine C_sat (fun w h => Sat.all_iff.1 h) ?_
  exact C_fact fun hok => h x.1 x.2.1 x.2.2 hok
theorem W_tbl {P : Program} {ro : Option Nat} {ops : Array Oper} {Q : Exit → Act → World → Prop} {n : Nat} {F : Fr} {ds : List Deferred} {R : List HP} {l : List Oper} {b : Nat} {T : Tab}
    (h : ∀ lv xs ls, TabOk T lv xs ls → W P ro none ops Q n l F ds (pt b 69 (lv :: (qsOf ls).map ptrO) :: thsH ls :: libH lv xs :: R)) : W P ro none ops Q n l F ds (tbl b T :: R) := by
  unfold tbl
  refine W_ex fun x => ?_
  refine W_sat (fun w h => Sat.all_iff.1 h) ?_
  refine W_know (p := TabOk T x.1 x.2.1 x.2.2) (fun w hs => (Sat.fact_iff.1 hs).1) fun hok => ?_
  exact W_sat (fun w hs => (Sat.fact_iff.1 hs).2) (h x.1 x.2.1 x.2.2 hok)
theorem Src.of {L : List HP} {x : Value} {n : Nat} {es : List (List Value)} {A : HP} {M : List HP} (hm : ∀ w, Sat w L → ∃ R, Sat w (A :: R)) (h : ∀ R, Src (A :: R) x n es) : Src L x n es :=
  ⟨fun w hs => (let ⟨R, h1⟩ := hm w hs; (h R).each w h1), fun w hs => (let ⟨R, h1⟩ := hm w hs; (h R).out w h1)⟩
theorem libSrc {lv : Value} {xs : List (Value × List Ins)} {x : Value × List Ins} (h : x ∈ xs) {R : List HP} : Src (libH lv xs :: R) x.1 2 (x.2.map insE) := by
  obtain ⟨a, c, rfl⟩ := List.append_of_mem h
  refine Src.of (M := []) (A := sl 28 2 x.1 (x.2.map insE)) (fun w hs => ?_) (fun R => Src.sl)
  have h1 := Sat.all_iff.1 hs
  simp only [List.map_append, List.map_cons, List.cons_append, List.append_assoc] at h1
  refine ⟨_, h1.perm (List.Perm.trans (List.Perm.cons _ List.perm_middle) (.swap ..))⟩
theorem libTop {lv : Value} {xs : List (Value × List Ins)} {R : List HP} : Src (libH lv xs :: R) lv 1 (xs.map fun x => [x.1]) := by
  refine Src.of (M := []) (A := sl 29 1 lv (xs.map fun x => [x.1])) (fun w hs => ?_) (fun R => Src.sl)
  exact ⟨_, Sat.all_iff.1 hs⟩
theorem TabOk.prIn {T : Tab} {lv : Value} {xs : List (Value × List Ins)} {ls : List (Option (Nat × Th))} (h : TabOk T lv xs ls) {n : Nat} {t : Th} (ht : some (n, t) ∈ ls) (R : List HP) : PrIn (libH lv xs :: R) t.p t.l := by
  have h1 := List.mem_of_getElem? (h.each n t ht).2.1
  exact ⟨(h.isl _ h1).1, libSrc h1⟩
attribute [irreducible] tbl libH thsH

set_option maxHeartbeats 1000000 in
theorem Clone_ok (v : Value) (l : List Ins) (R : List HP) (h : PrIn R v l) (h64 : l.length ≤ 64) :
    Called Try.prog 28 [v] R (retSl 28 2 (l.map insE) R) := by
  have hv := h.isl
  have hs := h.src
  refine Called.isl ?_
  refine Fn1 Try.func28 rfl Try.ntmps28 rfl ?_
  (repeat' first | refine stp ?_ | intro v' hv' | intro (b : Nat))
  refine C_cond rfl (fun hc => ?_) (fun hc => ?_)
  · obtain ⟨rfl, h0⟩ := vnil_isl hv hc
    have : l = [] := List.eq_nil_of_length_eq_zero h0
    subst this
    (repeat' first | refine stp ?_ | intro v' hv' | intro (b : Nat))
    exact At_ret1 (.inl rfl) Try.results28 rfl rfl (fun w h => h.sl_nil)
  · (repeat' first | refine stp ?_ | intro v' hv' | intro (b : Nat))
    apply w_ap (es := l.map insE)
    rfl; rfl; rfl; exact Del.here; ((exact srf)); (simp [List.all_map, insE, Value.oneCell']); (simp; omega); (simp; omega)
    intro v2 hv2
    refine ⟨by (exact kmf), ?_⟩
    (repeat' first | refine stp ?_ | intro v' hv' | intro (b : Nat))
    exact At_ret1 (.inl rfl) Try.results28 rfl rfl (fun w h => h)
end Go.Proofs.Ytmkbijjmipppaaa
