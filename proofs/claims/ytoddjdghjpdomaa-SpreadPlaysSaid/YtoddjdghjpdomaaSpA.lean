/- spread: what workers are, in plain words: what runs, what waits, and how it settles. Conditions: none. -/
import Derived.Test.YtoddjdghjpdomaaIns
import Derived.Test.YtoddjdghjpdomaaMth
set_option linter.all false
set_option linter.deprecated false
namespace Go.Proofs.Ytoddjdghjpdomaa
open Go.Sep
/-! ### Keys in order -/
def insAt (q : List Ky) (x : Ky) : Nat := match q.findIdx? (kyB x) with
  | none => q.length
  | some k => k
def insK (q : List Ky) (x : Ky) : List Ky := q.take (insAt q x) ++ [x] ++ q.drop (insAt q x)
theorem insAt_le (q : List Ky) (x : Ky) : insAt q x ≤ q.length := by
  unfold insAt
  split
  · exact Nat.le_refl _
  · rename_i k hk
    exact Nat.le_of_lt (List.findIdx?_eq_some_iff_getElem.1 hk).1
theorem insK_len (q : List Ky) (x : Ky) : (insK q x).length = q.length + 1 := by
  have := insAt_le q x
  unfold insK; simp; omega
theorem insK_perm (q : List Ky) (x : Ky) : (insK q x).Perm (x :: q) := by
  unfold insK
  conv => rhs; rw [← List.take_append_drop (insAt q x) q]
  rw [List.append_assoc]
  exact List.perm_middle
theorem kyB_iff {x y : Ky} : kyB x y = true ↔ x.at' < y.at' ∨ x.at' = y.at' ∧ x.id < y.id := by unfold kyB; exact decide_eq_true_iff
theorem kyB_trans {x y z : Ky} (h1 : kyB x y = true) (h2 : kyB y z = true) : kyB x z = true := by
  rw [kyB_iff] at *; omega
theorem kyB_total {x y : Ky} (h : x.id ≠ y.id) (hn : kyB x y = false) : kyB y x = true := by
  have hn' : ¬ (kyB x y = true) := by rw [hn]; decide
  rw [kyB_iff] at *; omega
theorem kyB_asymm {x y : Ky} (h : kyB x y = true) : kyB y x = false := by
  cases h2 : kyB y x with
  | false => rfl
  | true => rw [kyB_iff] at *; omega
theorem kyB_irr (x : Ky) : kyB x x = false := by
  cases h : kyB x x with
  | false => rfl
  | true => have := kyB_iff.1 h; omega
theorem insK_cons (y : Ky) (q : List Ky) (x : Ky) : insK (y :: q) x = if kyB x y = true then x :: y :: q else y :: insK q x := by
  unfold insK insAt
  rw [List.findIdx?_cons]
  cases hk : kyB x y with
  | true => simp
  | false =>
    rw [if_neg (by simp), if_neg (by simp)]
    cases hf : q.findIdx? (kyB x) <;> simp
def Srt (q : List Ky) : Prop := q.Pairwise fun x y => kyB x y = true
theorem insK_mem {q : List Ky} {x y : Ky} : y ∈ insK q x ↔ y = x ∨ y ∈ q := by rw [(insK_perm q x).mem_iff]; exact List.mem_cons
theorem insK_srt {q : List Ky} {x : Ky} (h : Srt q) (hn : ∀ y ∈ q, y.id ≠ x.id) : Srt (insK q x) := by
  induction q with
  | nil => exact List.pairwise_singleton ..
  | cons y q ih =>
    rw [insK_cons]
    obtain ⟨h1, h2⟩ := List.pairwise_cons.1 h
    cases hk : kyB x y with
    | true =>
      rw [if_pos rfl]
      exact List.pairwise_cons.2 ⟨fun z hz => by
        rcases List.mem_cons.1 hz with rfl | hz
        · exact hk
        · exact kyB_trans hk (h1 z hz), h⟩
    | false =>
      rw [if_neg (by simp)]
      refine List.pairwise_cons.2 ⟨fun z hz => ?_, ih h2 fun z hz => hn z (List.mem_cons_of_mem _ hz)⟩
      rcases insK_mem.1 hz with rfl | hz
      · exact kyB_total (fun e => hn y List.mem_cons_self e.symm) hk
      · exact h1 z hz
theorem nodup_len {l : List Int} (h : l.Nodup) (hb : ∀ x ∈ l, 0 ≤ x ∧ x < 64) : l.length ≤ 64 := by
  have h1 : (l.map Int.toNat).Nodup := by
    refine List.Pairwise.map _ (fun a b hab => ?_) (List.Pairwise.and_mem.1 h)
    obtain ⟨ha, hb', hne⟩ := hab
    have := hb a ha
    have := hb b hb'
    intro e; apply hne; omega
  have h2 : (l.map Int.toNat).Subset (List.range 64) := fun x hx => by
    obtain ⟨y, hy, rfl⟩ := List.mem_map.1 hx
    have := hb y hy
    exact List.mem_range.2 (by omega)
  have := h1.length_le_of_subset h2
  simpa using this
/-! ### Workers -/
structure Wk where
  runs : Bool
  k : Ky
  q : List Ky
def wk0 : Wk := ⟨false, ⟨0, 0⟩, []⟩
def wkA (M : List Wk) (i : Nat) : Wk := M.getD i wk0
theorem wkA_eq {M : List Wk} {i : Nat} {k : Wk} (h : M[i]? = some k) : wkA M i = k := by
  unfold wkA; rw [List.getD_eq_getElem?_getD, h]; rfl
theorem wk_some {M : List Wk} {i : Nat} (h : i < M.length) : M[i]? = some (wkA M i) := by
  have hk : M[i]? = some M[i] := List.getElem?_eq_getElem h
  rw [wkA_eq hk]; exact hk
theorem wkA_set {M : List Wk} {m j : Nat} (hm : m < M.length) (k : Wk) : wkA (M.set m k) j = if m = j then k else wkA M j := by
  unfold wkA
  rw [List.getD_eq_getElem?_getD, List.getD_eq_getElem?_getD, List.getElem?_set]
  by_cases e : m = j
  · subst e; simp [hm]
  · simp [e]
theorem wk_ext {M M' : List Wk} (hl : M.length = M'.length) (h : ∀ i, i < M.length → wkA M i = wkA M' i) : M = M' := by
  refine List.ext_getElem? fun i => ?_
  by_cases hi : i < M.length
  · rw [wk_some hi, wk_some (hl ▸ hi), h i hi]
  · rw [List.getElem?_eq_none (by omega), List.getElem?_eq_none (by omega)]
def rkf (x : Wk) : List Ky := if x.runs then [x.k] else []
def rk (M : List Wk) : List Ky := M.flatMap rkf
def wq (M : List Wk) : List Ky := M.flatMap (·.q)
theorem fm_set {M : List Wk} {i : Nat} (hi : i < M.length) (f : Wk → List Ky) (k' : Wk) : ((M.set i k').flatMap f).Perm (f k' ++ (M.eraseIdx i).flatMap f) := by
  have e : M.set i k' = M.take i ++ k' :: M.drop (i + 1) := by
    rw [List.set_eq_take_append_cons_drop, if_pos hi]
  rw [e, List.eraseIdx_eq_take_drop_succ, List.flatMap_append, List.flatMap_cons, List.flatMap_append]
  rw [← List.append_assoc, ← List.append_assoc]
  exact List.perm_append_comm.append_right _
theorem fm_get {M : List Wk} {i : Nat} (hi : i < M.length) (f : Wk → List Ky) : (M.flatMap f).Perm (f (wkA M i) ++ (M.eraseIdx i).flatMap f) := by
  have e : M = M.set i (wkA M i) := by
    refine wk_ext (by simp) fun j hj => ?_
    rw [wkA_set hi]
    by_cases e : i = j
    · subst e; simp
    · simp [e]
  have := fm_set hi f (wkA M i)
  rwa [← e] at this
theorem rk_mem {M : List Wk} {x : Ky} : x ∈ rk M ↔ ∃ i, i < M.length ∧ (wkA M i).runs = true ∧ (wkA M i).k = x := by
  unfold rk
  rw [List.mem_flatMap]
  constructor
  · rintro ⟨w, hw, hx⟩
    obtain ⟨i, hi⟩ := List.getElem?_of_mem hw
    have hl := (List.getElem?_eq_some_iff.1 hi).1
    refine ⟨i, hl, ?_⟩
    rw [wkA_eq hi]
    unfold rkf at hx
    by_cases hr : w.runs = true
    · rw [if_pos hr, List.mem_singleton] at hx; exact ⟨hr, hx.symm⟩
    · rw [if_neg hr] at hx; cases hx
  · rintro ⟨i, hi, hr, rfl⟩
    refine ⟨_, List.mem_of_getElem? (wk_some hi), ?_⟩
    unfold rkf
    rw [if_pos hr]; exact List.mem_singleton.2 rfl
theorem wq_mem {M : List Wk} {x : Ky} : x ∈ wq M ↔ ∃ i, i < M.length ∧ x ∈ (wkA M i).q := by
  unfold wq
  rw [List.mem_flatMap]
  constructor
  · rintro ⟨w, hw, hx⟩
    obtain ⟨i, hi⟩ := List.getElem?_of_mem hw
    have hl := (List.getElem?_eq_some_iff.1 hi).1
    refine ⟨i, hl, ?_⟩
    rw [wkA_eq hi]; exact hx
  · rintro ⟨i, hi, hx⟩
    exact ⟨_, List.mem_of_getElem? (wk_some hi), hx⟩
theorem rk_len {M : List Wk} : (rk M).length ≤ M.length := by
  unfold rk
  induction M with
  | nil => exact Nat.le_refl _
  | cons x M ih =>
    rw [List.flatMap_cons, List.length_append, List.length_cons]
    have : (rkf x).length ≤ 1 := by unfold rkf; split <;> simp
    omega
theorem rk_full {M : List Wk} : (rk M).length = M.length ↔ ∀ i, i < M.length → (wkA M i).runs = true := by
  unfold rk
  induction M with
  | nil => simp
  | cons x M ih =>
    have hle := rk_len (M := M)
    unfold rk at hle
    rw [List.flatMap_cons, List.length_append, List.length_cons]
    by_cases hx : x.runs = true
    · have h1 : (rkf x).length = 1 := by unfold rkf; rw [if_pos hx]; rfl
      rw [h1]
      constructor
      · intro h i hi
        cases i with
        | zero => exact hx
        | succ i => exact (ih.1 (by omega)) i (by simpa using hi)
      · intro h
        have := ih.2 fun i hi => h (i + 1) (by simpa using hi)
        omega
    · have h1 : (rkf x).length = 0 := by unfold rkf; rw [if_neg hx]; rfl
      rw [h1]
      constructor
      · intro h; omega
      · intro h; exact absurd (h 0 (by simp)) hx
/-- Where the least one waits. -/
def leastS (M : List Wk) (a : Int) (w : Nat) : Int := match (wkA M w).q with
  | [] => a
  | x :: _ => if a < 0 then (w : Int) else match (wkA M a.toNat).q with
    | [] => (w : Int)
    | y :: _ => if kyB x y then (w : Int) else a
def leastK (M : List Wk) (k : Nat) : Int := (List.range k).foldl (leastS M) (-1)
def leastM (M : List Wk) : Int := leastK M M.length
theorem leastK_succ (M : List Wk) (k : Nat) : leastK M (k + 1) = leastS M (leastK M k) k := by
  unfold leastK; rw [List.range_succ, List.foldl_append]; rfl
theorem leastK_spec (M : List Wk) (k : Nat) : (leastK M k = -1 ∧ ∀ j, j < k → (wkA M j).q = []) ∨
    (∃ i x r, i < k ∧ leastK M k = (i : Int) ∧ (wkA M i).q = x :: r ∧ ∀ j, j < k → ∀ y s, (wkA M j).q = y :: s → kyB y x = false) := by
  induction k with
  | zero => exact .inl ⟨rfl, fun j hj => absurd hj (Nat.not_lt_zero j)⟩
  | succ k ih =>
    rw [leastK_succ]
    unfold leastS
    cases hq : (wkA M k).q with
    | nil =>
      dsimp only
      rcases ih with ⟨h1, h2⟩ | ⟨i, x, r, hi, h1, h2, h3⟩
      · refine .inl ⟨h1, fun j hj => ?_⟩
        by_cases e : j = k
        · subst e; exact hq
        · exact h2 j (by omega)
      · refine .inr ⟨i, x, r, by omega, h1, h2, fun j hj y s hy => ?_⟩
        by_cases e : j = k
        · subst e; rw [hq] at hy; cases hy
        · exact h3 j (by omega) y s hy
    | cons z t =>
      dsimp only
      rcases ih with ⟨h1, h2⟩ | ⟨i, x, r, hi, h1, h2, h3⟩
      · rw [h1, if_pos (by decide)]
        refine .inr ⟨k, z, t, Nat.lt_succ_self k, rfl, hq, fun j hj y s hy => ?_⟩
        by_cases e : j = k
        · subst e; rw [hq] at hy; cases hy; exact kyB_irr z
        · rw [h2 j (by omega)] at hy; cases hy
      · rw [h1, if_neg (by omega)]
        simp only [Int.toNat_natCast, h2]
        cases hk : kyB z x with
        | true =>
          rw [if_pos rfl]
          refine .inr ⟨k, z, t, Nat.lt_succ_self k, rfl, hq, fun j hj y s hy => ?_⟩
          by_cases e : j = k
          · subst e; rw [hq] at hy; cases hy; exact kyB_irr z
          · cases hyz : kyB y z with
            | false => rfl
            | true => have := kyB_trans hyz hk; rw [h3 j (by omega) y s hy] at this; cases this
        | false =>
          rw [if_neg (by simp)]
          refine .inr ⟨i, x, r, by omega, rfl, h2, fun j hj y s hy => ?_⟩
          by_cases e : j = k
          · subst e; rw [hq] at hy; cases hy; exact hk
          · exact h3 j (by omega) y s hy
/-- Which worker is to run a key. -/
def lastS (M : List Wk) (k : Ky) (a : Int) (w : Nat) : Int := if kyB k (wkA M w).k = true ∧ (a < 0 ∨ kyB (wkA M a.toNat).k (wkA M w).k = true) then (w : Int) else a
def lastK (M : List Wk) (k : Ky) (n : Nat) : Int := (List.range n).foldl (lastS M k) (-1)
def lastM (M : List Wk) (k : Ky) : Int := match M.findIdx? fun x => !x.runs with
  | some w => (w : Int)
  | none => lastK M k M.length
theorem lastK_succ (M : List Wk) (k : Ky) (n : Nat) : lastK M k (n + 1) = lastS M k (lastK M k n) n := by
  unfold lastK; rw [List.range_succ, List.foldl_append]; rfl
theorem lastK_spec (M : List Wk) (k : Ky) (n : Nat) : (lastK M k n = -1 ∧ ∀ j, j < n → kyB k (wkA M j).k = false) ∨
    (∃ i, i < n ∧ lastK M k n = (i : Int) ∧ kyB k (wkA M i).k = true ∧ ∀ j, j < n → kyB (wkA M i).k (wkA M j).k = false) := by
  induction n with
  | zero => exact .inl ⟨rfl, fun j hj => absurd hj (Nat.not_lt_zero j)⟩
  | succ n ih =>
    rw [lastK_succ]
    unfold lastS
    rcases ih with ⟨h1, h2⟩ | ⟨i, hi, h1, h2, h3⟩
    · rw [h1]
      cases hk : kyB k (wkA M n).k with
      | true =>
        rw [if_pos ⟨rfl, .inl (by decide)⟩]
        refine .inr ⟨n, Nat.lt_succ_self n, rfl, hk, fun j hj => ?_⟩
        by_cases e : j = n
        · subst e; exact kyB_irr _
        · cases hj2 : kyB (wkA M n).k (wkA M j).k with
          | false => rfl
          | true => have := kyB_trans hk hj2; rw [h2 j (by omega)] at this; cases this
      | false =>
        rw [if_neg (by simp)]
        refine .inl ⟨rfl, fun j hj => ?_⟩
        by_cases e : j = n
        · subst e; exact hk
        · exact h2 j (by omega)
    · rw [h1]
      cases hg : kyB (wkA M i).k (wkA M n).k with
      | true =>
        have hk := kyB_trans h2 hg
        rw [if_pos ⟨hk, .inr (by simpa using hg)⟩]
        refine .inr ⟨n, Nat.lt_succ_self n, rfl, hk, fun j hj => ?_⟩
        by_cases e : j = n
        · subst e; exact kyB_irr _
        · cases hj2 : kyB (wkA M n).k (wkA M j).k with
          | false => rfl
          | true => have := kyB_trans hg hj2; rw [h3 j (by omega)] at this; cases this
      | false =>
        rw [if_neg (fun h => by rcases h.2 with h | h; (omega); (rw [Int.toNat_natCast, hg] at h; cases h))]
        refine .inr ⟨i, by omega, rfl, h2, fun j hj => ?_⟩
        by_cases e : j = n
        · subst e; exact hg
        · exact h3 j (by omega)
/-- It settles by one. -/
def runW (x : Wk) (k : Ky) : Wk := ⟨true, k, if x.runs then insK x.q x.k else x.q⟩
def headK (x : Wk) : Ky := x.q.headD ⟨0, 0⟩
def popM (M : List Wk) (f : Nat) : List Wk := M.set f { wkA M f with q := (wkA M f).q.tail }
def stepM (M : List Wk) : Option ((Int × Int × Int) × List Wk) :=
  if leastM M < 0 then none else
  if lastM M (headK (wkA M (leastM M).toNat)) < 0 then none else
  some (((headK (wkA M (leastM M).toNat)).id, leastM M, lastM M (headK (wkA M (leastM M).toNat))),
    (popM M (leastM M).toNat).set (lastM M (headK (wkA M (leastM M).toNat))).toNat (runW (wkA (popM M (leastM M).toNat) (lastM M (headK (wkA M (leastM M).toNat))).toNat) (headK (wkA M (leastM M).toNat))))
def settleM (M : List Wk) : List (Int × Int × Int) × List Wk := match stepM M with
  | none => ([], M)
  | some (m, M') => ([m], M')
/-! ### What is always so -/
structure WfS (M : List Wk) : Prop where
  nodup : ((rk M ++ wq M).map (·.id)).Nodup
  kb : ∀ x ∈ rk M ++ wq M, 0 ≤ x.id ∧ x.id < 64 ∧ 0 ≤ x.at' ∧ x.at' < 1099511627776
  srt : ∀ i, i < M.length → Srt (wkA M i).q
def Sett (N : Nat) (R W : List Ky) : Prop := (∀ r ∈ R, ∀ z ∈ W, kyB r z = true) ∧ (W ≠ [] → R.length = N)
theorem id_inj {l : List Ky} (h : (l.map (·.id)).Nodup) {x y : Ky} (hx : x ∈ l) (hy : y ∈ l) (e : x.id = y.id) : x = y := by
  obtain ⟨i, hi⟩ := List.getElem?_of_mem hx
  obtain ⟨j, hj⟩ := List.getElem?_of_mem hy
  obtain ⟨h1, rfl⟩ := List.getElem?_eq_some_iff.1 hi
  obtain ⟨h2, rfl⟩ := List.getElem?_eq_some_iff.1 hj
  have : (l.map (·.id))[i]'(by rw [List.length_map]; exact h1) = (l.map (·.id))[j]'(by rw [List.length_map]; exact h2) := by
    rw [List.getElem_map, List.getElem_map]; exact e
  have := (List.getElem_inj h).1 this
  subst this; rfl
theorem id_ne_app {l l' : List Ky} (h : ((l ++ l').map (·.id)).Nodup) {x y : Ky} (hx : x ∈ l) (hy : y ∈ l') : x.id ≠ y.id := by
  rw [List.map_append] at h
  exact fun e => (List.nodup_append.1 h).2.2 x.id (List.mem_map.2 ⟨x, hx, rfl⟩) y.id (List.mem_map.2 ⟨y, hy, rfl⟩) e
theorem least_none {M : List Wk} : leastM M < 0 ↔ wq M = [] := by
  unfold leastM
  rcases leastK_spec M M.length with ⟨h1, h2⟩ | ⟨i, x, r, hi, h1, h2, h3⟩
  · rw [h1]
    refine ⟨fun _ => List.eq_nil_iff_forall_not_mem.2 fun x hx => ?_, fun _ => by decide⟩
    obtain ⟨i, hi, hx⟩ := wq_mem.1 hx
    rw [h2 i hi] at hx; cases hx
  · rw [h1]
    refine ⟨fun h => by omega, fun h => ?_⟩
    have : x ∈ wq M := wq_mem.2 ⟨i, hi, by rw [h2]; exact List.mem_cons_self⟩
    rw [h] at this; cases this
/-- The least one that waits. -/
theorem least_some {M : List Wk} (h : WfS M) (hn : ¬ leastM M < 0) : ∃ i x r, i < M.length ∧ leastM M = (i : Int) ∧ (wkA M i).q = x :: r ∧ headK (wkA M i) = x ∧ x ∈ wq M ∧ (∀ z ∈ wq M, z ≠ x → kyB x z = true) := by
  unfold leastM at *
  rcases leastK_spec M M.length with ⟨h1, h2⟩ | ⟨i, x, r, hi, h1, h2, h3⟩
  · rw [h1] at hn; exact absurd (by decide) hn
  · have hx : x ∈ wq M := wq_mem.2 ⟨i, hi, by rw [h2]; exact List.mem_cons_self⟩
    refine ⟨i, x, r, hi, h1, h2, by unfold headK; rw [h2]; rfl, hx, fun z hz hne => ?_⟩
    have hid : z.id ≠ x.id := fun e => hne (id_inj (by have := h.nodup; rw [List.map_append] at this; exact (List.nodup_append.1 this).2.1) hz hx e)
    obtain ⟨j, hj, hzj⟩ := wq_mem.1 hz
    cases hq : (wkA M j).q with
    | nil => rw [hq] at hzj; cases hzj
    | cons y s =>
      have hyx := h3 j hj y s hq
      have hsj := h.srt j hj
      rw [hq] at hsj hzj
      rcases List.mem_cons.1 hzj with rfl | hzs
      · exact kyB_total hid hyx
      · have hyz := (List.pairwise_cons.1 hsj).1 z hzs
        cases hb : kyB x z with
        | true => rfl
        | false => have := kyB_trans hyz (kyB_total (fun e => hid e.symm) hb); rw [hyx] at this; cases this
theorem last_idle {M : List Wk} {k : Ky} (h : (rk M).length < M.length) : ∃ t : Nat, lastM M k = (t : Int) ∧ t < M.length ∧ (wkA M t).runs = false := by
  unfold lastM
  cases hf : M.findIdx? fun x => !x.runs with
  | some t =>
    obtain ⟨h1, h2, -⟩ := List.findIdx?_eq_some_iff_getElem.1 hf
    refine ⟨t, rfl, h1, ?_⟩
    rw [wkA_eq (List.getElem?_eq_getElem h1)]
    simpa using h2
  | none =>
    have hn := List.findIdx?_eq_none_iff.1 hf
    have := rk_full.2 fun i hi => by
      have := hn _ (List.mem_of_getElem? (wk_some hi))
      simpa using this
    omega
theorem last_full {M : List Wk} {k : Ky} (h : (rk M).length = M.length) : (lastM M k = -1 ∧ ∀ r ∈ rk M, kyB k r = false) ∨ (∃ t : Nat, lastM M k = (t : Int) ∧ t < M.length ∧ (wkA M t).runs = true ∧ kyB k (wkA M t).k = true ∧ ∀ r ∈ rk M, kyB (wkA M t).k r = false) := by
  have hr := rk_full.1 h
  have hf : M.findIdx? (fun x => !x.runs) = none := List.findIdx?_eq_none_iff.2 fun x hx => by
    obtain ⟨i, hi⟩ := List.getElem?_of_mem hx
    have hl := (List.getElem?_eq_some_iff.1 hi).1
    have := hr i hl
    rw [wkA_eq hi] at this
    simp [this]
  unfold lastM
  rw [hf]
  dsimp only
  rcases lastK_spec M k M.length with ⟨h1, h2⟩ | ⟨t, ht, h1, h2, h3⟩
  · refine .inl ⟨h1, fun r hr => ?_⟩
    obtain ⟨i, hi, -, rfl⟩ := rk_mem.1 hr
    exact h2 i hi
  · refine .inr ⟨t, h1, ht, hr t ht, h2, fun r hr => ?_⟩
    obtain ⟨i, hi, -, rfl⟩ := rk_mem.1 hr
    exact h3 i hi
theorem rkf_run (k : Ky) (q : List Ky) : rkf ⟨true, k, q⟩ = [k] := rfl
theorem rkf_idle (k : Ky) (q : List Ky) : rkf ⟨false, k, q⟩ = [] := rfl
theorem popM_len (M : List Wk) (f : Nat) : (popM M f).length = M.length := by unfold popM; simp
theorem popM_perm {M : List Wk} {f : Nat} (hf : f < M.length) {x : Ky} {r : List Ky} (hq : (wkA M f).q = x :: r) : (rk (popM M f)).Perm (rk M) ∧ (wq M).Perm (x :: wq (popM M f)) := by
  unfold popM rk wq
  refine ⟨(fm_set hf rkf _).trans (fm_get hf rkf).symm, ?_⟩
  refine (fm_get hf (·.q)).trans ?_
  refine .trans ?_ ((fm_set hf (·.q) _).symm.cons x)
  dsimp only
  rw [hq]
  exact .refl _
/-- What one step does, as far as what runs and what waits. -/
inductive Step (N : Nat) (R W R' W' : List Ky) : Prop
  | idle (x : Ky) (V : List Ky) (h1 : W.Perm (x :: V)) (h2 : ∀ z ∈ V, kyB x z = true) (h3 : R.length < N) (h4 : R'.Perm (x :: R)) (h5 : W'.Perm V)
  | full (x g : Ky) (V S : List Ky) (h1 : W.Perm (x :: V)) (h2 : ∀ z ∈ V, kyB x z = true) (h3 : R.length = N) (h4 : R.Perm (g :: S)) (h5 : kyB x g = true) (h6 : ∀ r ∈ S, kyB r g = true) (h7 : R'.Perm (x :: S)) (h8 : W'.Perm (g :: V))
theorem popM_at {M : List Wk} {f : Nat} (hf : f < M.length) (t : Nat) : (wkA (popM M f) t).runs = (wkA M t).runs ∧ (wkA (popM M f) t).k = (wkA M t).k := by
  unfold popM
  rw [wkA_set hf]
  by_cases e : f = t
  · subst e; rw [if_pos rfl]; exact ⟨rfl, rfl⟩
  · rw [if_neg e]; exact ⟨rfl, rfl⟩
theorem step_some {M M' : List Wk} {m : Int × Int × Int} (h : WfS M) (hs : stepM M = some (m, M')) :
    Step M.length (rk M) (wq M) (rk M') (wq M') ∧ ∃ (f t : Nat) (x : Ky) (r : List Ky), m = (x.id, (f : Int), (t : Int)) ∧ f < M.length ∧ t < M.length ∧ (wkA M f).q = x :: r ∧ M' = (popM M f).set t (runW (wkA (popM M f) t) x) ∧ leastM M = (f : Int) ∧ lastM M x = (t : Int) := by
  unfold stepM at hs
  by_cases h0 : leastM M < 0
  · rw [if_pos h0] at hs; cases hs
  rw [if_neg h0] at hs
  obtain ⟨f, x, r, hf, hlf, hq, hhd, hxm, hlt⟩ := least_some h h0
  have hpl := popM_len M f
  obtain ⟨hp1, hp2⟩ := popM_perm hf hq
  rw [hlf] at hs
  simp only [Int.toNat_natCast, hhd] at hs
  by_cases h1 : lastM M x < 0
  · rw [if_pos h1] at hs; cases hs
  rw [if_neg h1] at hs
  simp only [Option.some.injEq, Prod.mk.injEq] at hs
  obtain ⟨rfl, rfl⟩ := hs
  have hVx : ∀ z ∈ wq (popM M f), kyB x z = true := fun z hz => by
    refine hlt z (hp2.mem_iff.2 (List.mem_cons_of_mem _ hz)) ?_
    rintro rfl
    have h2 := h.nodup
    rw [List.map_append] at h2
    have h3 := (hp2.map (·.id)).nodup_iff.1 (List.nodup_append.1 h2).2.1
    rw [List.map_cons, List.nodup_cons] at h3
    exact h3.1 (List.mem_map.2 ⟨_, hz, rfl⟩)
  rcases Nat.lt_or_eq_of_le (rk_len (M := M)) with hR | hR
  · obtain ⟨t, ht, htl, hti⟩ := last_idle (k := x) hR
    rw [ht, Int.toNat_natCast]
    refine ⟨.idle x _ hp2 hVx hR ?_ ?_, f, t, x, r, rfl, hf, htl, hq, rfl, hlf, ht⟩
    · have hti2 := (popM_at hf t).1
      rw [hti] at hti2
      refine (fm_set (by rw [popM_len]; assumption) _ _).trans ?_
      unfold runW
      rw [rkf_run]
      refine .cons x (.trans ?_ hp1)
      have h4 := fm_get (M := popM M f) (i := t) (by omega) rkf
      have h5 : rkf (wkA (popM M f) t) = [] := by unfold rkf; rw [hti2]; rfl
      rw [h5] at h4
      exact h4.symm
    · have hti2 := (popM_at hf t).1
      rw [hti] at hti2
      refine (fm_set (by rw [popM_len]; assumption) _ _).trans ?_
      unfold runW
      dsimp only
      rw [hti2, if_neg (by simp)]
      exact (fm_get (M := popM M f) (i := t) (by omega) (·.q)).symm
  · rcases last_full (k := x) hR with ⟨hl, -⟩ | ⟨t, ht, htl, htr, hkt, hgt⟩
    · rw [hl] at h1; exact absurd (by decide) h1
    rw [ht, Int.toNat_natCast]
    have hti2 := popM_at hf t
    rw [htr] at hti2
    have hg : (rk M).Perm ((wkA M t).k :: ((popM M f).eraseIdx t).flatMap rkf) := by
      refine hp1.symm.trans ?_
      have h4 := fm_get (M := popM M f) (i := t) (by omega) rkf
      have h5 : rkf (wkA (popM M f) t) = [(wkA M t).k] := by unfold rkf; rw [hti2.1, if_pos rfl, hti2.2]
      rw [h5] at h4
      exact h4
    refine ⟨.full x (wkA M t).k _ _ hp2 hVx hR hg hkt (fun r hr => ?_) ?_ ?_, f, t, x, r, rfl, hf, htl, hq, rfl, hlf, ht⟩
    · have hr2 : r ∈ rk M := hg.mem_iff.2 (List.mem_cons_of_mem _ hr)
      have hne : r.id ≠ (wkA M t).k.id := fun e => by
        have h2 := h.nodup
        rw [List.map_append] at h2
        have h3 := (hg.map (·.id)).nodup_iff.1 (List.nodup_append.1 h2).1
        rw [List.map_cons, List.nodup_cons] at h3
        exact h3.1 (List.mem_map.2 ⟨r, hr, e⟩)
      exact kyB_total (fun e => hne e.symm) (hgt r hr2)
    · refine (fm_set (by rw [popM_len]; assumption) _ _).trans ?_
      unfold runW
      rw [rkf_run]
      exact .refl _
    · refine (fm_set (by rw [popM_len]; assumption) _ _).trans ?_
      unfold runW
      dsimp only
      rw [hti2.1, if_pos rfl, hti2.2]
      refine ((insK_perm _ _).append_right _).trans ?_
      exact (fm_get (M := popM M f) (i := t) (by omega) (·.q)).symm.cons _
theorem step_none {M : List Wk} (h : WfS M) : stepM M = none ↔ Sett M.length (rk M) (wq M) := by
  unfold stepM
  by_cases h0 : leastM M < 0
  · rw [if_pos h0]
    have := least_none.1 h0
    rw [this]
    exact ⟨fun _ => ⟨fun r _ z hz => by (cases hz), fun h => absurd rfl h⟩, fun _ => rfl⟩
  rw [if_neg h0]
  obtain ⟨f, x, r, hf, hlf, hq, hhd, hxm, hlt⟩ := least_some h h0
  rw [hlf]
  simp only [Int.toNat_natCast, hhd]
  have hne : wq M ≠ [] := fun e => by rw [e] at hxm; cases hxm
  rcases Nat.lt_or_eq_of_le (rk_len (M := M)) with hR | hR
  · obtain ⟨t, ht, htl, hti⟩ := last_idle (k := x) hR
    rw [ht, if_neg (by omega)]
    exact ⟨fun h => (by cases h), fun hs => absurd (hs.2 hne) (by omega)⟩
  · rcases last_full (k := x) hR with ⟨hl, hn⟩ | ⟨t, ht, htl, htr, hkt, hgt⟩
    · rw [hl, if_pos (by decide)]
      refine ⟨fun _ => ⟨fun r hr z hz => ?_, fun _ => hR⟩, fun _ => rfl⟩
      have h1 := kyB_total (id_ne_app h.nodup hr hxm).symm (hn r hr)
      by_cases e : z = x
      · rw [e]; exact h1
      · exact kyB_trans h1 (hlt z hz e)
    · rw [ht, if_neg (by omega)]
      refine ⟨fun h => (by cases h), fun hs => ?_⟩
      have := hs.1 _ (rk_mem.2 ⟨t, htl, htr, rfl⟩) x hxm
      rw [kyB_asymm hkt] at this; cases this
/-! ### A step keeps what is there -/
theorem Step.perm {N : Nat} {R W R' W' : List Ky} (h : Step N R W R' W') : (R' ++ W').Perm (R ++ W) := by
  cases h with
  | idle x V h1 h2 h3 h4 h5 =>
    refine (h4.append h5).trans ?_
    refine .trans ?_ (h1.symm.append_left R)
    exact (List.perm_middle (l₁ := R)).symm
  | full x g V S h1 h2 h3 h4 h5 h6 h7 h8 =>
    refine (h7.append h8).trans ?_
    refine .trans ?_ (h4.append h1).symm
    show (x :: (S ++ g :: V)).Perm (g :: (S ++ x :: V))
    refine .trans (.cons x List.perm_middle) ?_
    refine .trans (.swap ..) ?_
    exact .cons g List.perm_middle.symm
theorem Sett.of_perm {N : Nat} {R W R' W' : List Ky} (h : Sett N R W) (h1 : R'.Perm R) (h2 : W'.Perm W) : Sett N R' W' :=
  ⟨fun r hr z hz => h.1 r (h1.mem_iff.1 hr) z (h2.mem_iff.1 hz), fun hw => by rw [h1.length_eq]; exact h.2 fun e => hw (by rw [e] at h2; exact h2.eq_nil)⟩
/-- One more waits than had been settled. -/
theorem Step.sett1 {N : Nat} {R W R' W' V0 : List Ky} {x0 : Ky} (h : Step N R W R' W') (hs : Sett N R V0) (hW : W.Perm (x0 :: V0)) (hn : ∀ z ∈ V0, z ≠ x0) : Sett N R' W' := by
  cases h with
  | idle x V h1 h2 h3 h4 h5 =>
    have hV0 : V0 = [] := by
      cases hv : V0 with
      | nil => rfl
      | cons a l => have := hs.2 (by rw [hv]; simp); omega
    rw [hV0] at hW
    have hl := (h1.symm.trans hW).length_eq
    have hV : V = [] := List.eq_nil_of_length_eq_zero (by simpa using hl)
    rw [hV] at h5
    rw [h5.eq_nil]
    exact ⟨fun r _ z hz => (by cases hz), fun h => absurd rfl h⟩
  | full x g V S h1 h2 h3 h4 h5 h6 h7 h8 =>
    have hxx : x = x0 := by
      have : x ∈ x0 :: V0 := (h1.symm.trans hW).mem_iff.1 List.mem_cons_self
      rcases List.mem_cons.1 this with e | e
      · exact e
      · have := hs.1 g (h4.mem_iff.2 List.mem_cons_self) x e
        rw [kyB_asymm h5] at this; cases this
    subst hxx
    have hVV : V.Perm V0 := (h1.symm.trans hW).cons_inv
    refine Sett.of_perm (R := x :: S) (W := g :: V) ⟨fun r hr z hz => ?_, fun _ => ?_⟩ h7 h8
    · rcases List.mem_cons.1 hr with rfl | hr
      · rcases List.mem_cons.1 hz with rfl | hz
        · exact h5
        · exact h2 z hz
      · rcases List.mem_cons.1 hz with rfl | hz
        · exact h6 r hr
        · exact hs.1 r (h4.mem_iff.2 (List.mem_cons_of_mem _ hr)) z (hVV.mem_iff.1 hz)
    · have := h4.length_eq
      rw [h3] at this
      rw [this]; rfl
/-- One worker runs none, or another key. -/
theorem Step.sett2 {N : Nat} {R W R' W' S0 : List Ky} (h : Step N R W R' W') (hR : R.Perm S0 ∨ ∃ g0, R.Perm (g0 :: S0)) (hs : ∀ r ∈ S0, ∀ z ∈ W, kyB r z = true) (hN : W ≠ [] → S0.length + 1 = N) : Sett N R' W' := by
  have hWn : W ≠ [] := by
    intro e
    cases h with
    | idle x V h1 => rw [e] at h1; have := h1.length_eq; simp at this
    | full x g V S h1 => rw [e] at h1; have := h1.length_eq; simp at this
  have hN := hN hWn
  cases h with
  | idle x V h1 h2 h3 h4 h5 =>
    have hRS : R.Perm S0 := by
      rcases hR with hR | ⟨g0, hR⟩
      · exact hR
      · have := hR.length_eq; rw [List.length_cons] at this; omega
    refine Sett.of_perm (R := x :: S0) (W := V) ⟨fun r hr z hz => ?_, fun _ => by rw [List.length_cons]; exact hN⟩ (h4.trans (hRS.cons x)) h5
    rcases List.mem_cons.1 hr with rfl | hr
    · exact h2 z hz
    · exact hs r hr z (h1.mem_iff.2 (List.mem_cons_of_mem _ hz))
  | full x g V S h1 h2 h3 h4 h5 h6 h7 h8 =>
    obtain ⟨g0, hR⟩ : ∃ g0, R.Perm (g0 :: S0) := by
      rcases hR with hR | hR
      · have := hR.length_eq; omega
      · exact hR
    have hxW : x ∈ W := h1.mem_iff.2 List.mem_cons_self
    have hgg : g = g0 := by
      have : g ∈ g0 :: S0 := (h4.symm.trans hR).mem_iff.1 List.mem_cons_self
      rcases List.mem_cons.1 this with e | e
      · exact e
      · have := hs g e x hxW
        rw [kyB_asymm h5] at this; cases this
    subst hgg
    have hSS : S.Perm S0 := (h4.symm.trans hR).cons_inv
    refine Sett.of_perm (R := x :: S0) (W := g :: V) ⟨fun r hr z hz => ?_, fun _ => by rw [List.length_cons]; exact hN⟩ (h7.trans (hSS.cons x)) h8
    rcases List.mem_cons.1 hr with rfl | hr
    · rcases List.mem_cons.1 hz with rfl | hz
      · exact h5
      · exact h2 z hz
    · rcases List.mem_cons.1 hz with rfl | hz
      · exact kyB_trans (hs r hr x hxW) h5
      · exact hs r hr z (h1.mem_iff.2 (List.mem_cons_of_mem _ hz))
end Go.Proofs.Ytoddjdghjpdomaa
