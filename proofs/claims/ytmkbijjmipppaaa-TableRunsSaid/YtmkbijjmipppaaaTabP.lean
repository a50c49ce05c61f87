/- TableRuns: what is so of it in plain words. Conditions: none. -/
import Derived.Test.YtmkbijjmipppaaaTabR
import Derived.Test.YtmkbijjmipppaaaTabH
set_option linter.all false
set_option linter.deprecated false
namespace Go.Proofs.Ytmkbijjmipppaaa
open Go.Sep
variable [B0 : Base]
/-! ### Up to the first Exit -/
theorem listed_take (l : List Ins) : listed l = l.take (listed l).length := by
  induction l with
  | nil => rfl
  | cons x l ih =>
    unfold listed
    split
    · rfl
    · rw [List.length_cons, List.take_succ_cons, ← ih]
theorem listed_get {l : List Ins} {i : Nat} {x : Ins} (h : (listed l)[i]? = some x) : l[i]? = some x := by
  rw [listed_take, List.getElem?_take] at h
  split at h
  · exact h
  · cases h
theorem listed_exit {l : List Ins} : ∀ {i : Nat} {x : Ins}, (listed l)[i]? = some x → x.op = 9 → i + 1 = (listed l).length := by
  induction l with
  | nil => intro i x h; cases h
  | cons y l ih =>
    intro i x h h9
    unfold listed at h ⊢
    split at h
    · rename_i hy
      rw [if_pos hy]
      cases i with
      | zero => rfl
      | succ i => simp at h
    · rename_i hy
      rw [if_neg hy]
      cases i with
      | zero => simp at h; subst h; exact absurd h9 hy
      | succ i =>
        have := ih (i := i) (x := x) (by simpa using h) h9
        rw [List.length_cons]; omega
theorem listed_all {l : List Ins} (h : ∀ x ∈ listed l, x.op ≠ 9) : listed l = l := by
  induction l with
  | nil => rfl
  | cons y l ih =>
    unfold listed at h ⊢
    by_cases hy : y.op = 9
    · rw [if_pos hy] at h; exact absurd hy (h y (by simp))
    · rw [if_neg hy] at h ⊢
      rw [ih fun x hx => h x (List.mem_cons_of_mem _ hx)]
theorem sumC_take {l : List Ins} {i : Nat} {x : Ins} (h : l[i]? = some x) : sumC (l.take (i + 1)) = costN (sumC (l.take i)) x := by
  unfold sumC
  rw [List.take_add_one, h, List.foldl_append]; rfl
/-! ### The thread -/
def rT (l : List Ins) (t : Tm) : Tab := ⟨[l], (List.replicate 64 none).set 0 (some t)⟩
theorem rT_find (l : List Ins) (t : Tm) : findT (rT l t) 0 = (some t, 0) := rfl
theorem rT_l {l : List Ins} {t : Tm} (h : t.pr = 0) : (rT l t).l t = l := by unfold Tab.l; rw [h]; rfl
theorem rT_set (l : List Ins) (t t' : Tm) : (rT l t).setT 0 (some t') = rT l t' := by unfold Tab.setT rT; rw [List.set_set]
theorem rT_act {l : List Ins} {t : Tm} (h : t.pr = 0) : actT (rT l t) 0 = (actP l t, 0) := by unfold actT; rw [rT_find]; dsimp only; rw [rT_l h]
def endT (l : List Ins) : Tab := ⟨[l], List.replicate 64 none⟩
theorem rT_clear (l : List Ins) (t : Tm) : (rT l t).setT 0 none = endT l := by unfold Tab.setT rT endT; rw [List.set_set]; rfl
theorem endT_act (l : List Ins) : actT (endT l) 0 = ((0, 0), 14) := rfl
theorem endT_many (l : List Ins) : (liveT (endT l)).length = 0 := by rw [live_cnt]; unfold cnt endT; rw [List.countP_replicate]; rfl
theorem spawn_rT {l : List Ins} : spawnT (endT l) 0 = ((0, 0), rT l (freshP l ⟨0, 0, 0⟩)) := rfl
/-- What is so at the beginning of each round. -/
structure RInv (l : List Ins) (k next : Nat) (t : Tm) (sum : Int) : Prop where
  pr : t.pr = 0
  at' : t.at' = next
  le : next ≤ (listed l).length
  noex : ∀ x ∈ (listed l).take next, x.op ≠ 9
  comp : ∀ x, (listed l)[next]? = some x → x.op = 1 → 1 ≤ t.left ∧ t.left ≤ x.n ∧ sum = sumC ((listed l).take next) + (x.n - t.left)
  other : ∀ x, (listed l)[next]? = some x → x.op ≠ 1 → sum = sumC ((listed l).take next)
  done : next = (listed l).length → sum = sumC (listed l)
  k : k ≤ 501 + next
theorem RInv.fresh {l : List Ins} (hm : ∀ x ∈ l, mayE x = 0) {k next : Nat} {t : Tm} (h1 : t.pr = 0) (h2 : t.at' = next) (h3 : next ≤ (listed l).length) (h4 : ∀ x ∈ (listed l).take next, x.op ≠ 9) (h5 : k ≤ 501 + next) {sum : Int} (h6 : sum = sumC ((listed l).take next)) : RInv l k next (freshP l t) sum where
  pr := h1
  at' := h2
  le := h3
  noex := h4
  comp := fun x hx ho => by
    have hg := listed_get hx
    have hn := may_n (hm x (List.mem_of_getElem? hg))
    have : (freshP l t).left = x.n := by unfold freshP; dsimp only; rw [h2, hg]; exact if_pos ho
    rw [this]
    exact ⟨hn.2.2.2.2 ho, Int.le_refl _, by omega⟩
  other := fun x hx _ => h6
  done := fun h => by rw [h6, h, List.take_length]
  k := h5
theorem RInv.next {l : List Ins} (hm : ∀ x ∈ l, mayE x = 0) {k next : Nat} {t t2 : Tm} {sum s' : Int} (h : RInv l k next t sum) {x : Ins} (hx : (listed l)[next]? = some x) (h9 : x.op ≠ 9) (hp : t2.pr = 0) (ha : t2.at' = next) {k' : Nat} (hk : k' ≤ 501 + (next + 1)) (hs : s' = costN (sumC ((listed l).take next)) x) : RInv l k' (next + 1) (nextP l t2) s' :=
  RInv.fresh (t := { t2 with at' := t2.at' + 1 }) hm hp (by show t2.at' + 1 = next + 1; rw [ha]) (by have := (List.getElem?_eq_some_iff.1 hx).1; omega) (fun y hy => by
    rw [List.take_add_one, hx] at hy
    rcases List.mem_append.1 hy with hy | hy
    · exact h.noex y hy
    · simp at hy; subst hy; exact h9) hk (by rw [hs, sumC_take hx])
theorem RInv.act {l : List Ins} {k next : Nat} {t : Tm} {sum : Int} (h : RInv l k next t sum) : (∃ x, (listed l)[next]? = some x ∧ actP l t = if x.op = 1 then (1, t.left) else (x.op, x.n)) ∨ ((listed l).length = next ∧ actP l t = (9, 0)) := by
  rcases Nat.lt_or_ge next (listed l).length with hlt | hge
  · obtain ⟨x, hx⟩ : ∃ x, (listed l)[next]? = some x := ⟨(listed l)[next], by simp [hlt]⟩
    refine .inl ⟨x, hx, ?_⟩
    unfold actP
    rw [h.at', listed_get hx]
  · have hle := h.le
    have he : next = (listed l).length := by omega
    refine .inr ⟨he.symm, ?_⟩
    have hall : listed l = l := listed_all fun x hx => h.noex x (by rw [he, List.take_length]; exact hx)
    unfold actP
    rw [h.at', List.getElem?_eq_none (by rw [← hall]; omega)]
theorem rest_rT {l : List Ins} (h0 : progE l = 0) : restT (rT l (freshP l ⟨0, 0, 0⟩)) 0 = costM l := by
  unfold restT
  rw [rT_find]
  dsimp only
  rw [rT_l (by rfl)]
  have hr : restP l (freshP l ⟨0, 0, 0⟩) = sumC (listed l) := by
    unfold restP
    show ((listed l).foldl restN ((freshP l ⟨0, 0, 0⟩).left, true)).1 = _
    have hf : ∀ (r : List Ins) (a : Int), (r.foldl restN (a, false)).1 = r.foldl costN a := by
      intro r
      induction r with
      | nil => intro a; rfl
      | cons x r ih =>
        intro a
        rw [List.foldl_cons, List.foldl_cons]
        by_cases ho : x.op = 1
        · rw [show restN (a, false) x = (a + x.n, false) from by unfold restN; rw [if_pos ⟨ho, rfl⟩], show costN a x = a + x.n from if_pos ho]; exact ih _
        · rw [show restN (a, false) x = (a, false) from by unfold restN; rw [if_neg (fun h => ho h.1)], show costN a x = a from if_neg ho]; exact ih _
    cases l with
    | nil => rfl
    | cons x l =>
      have hfr : (freshP (x :: l) ⟨0, 0, 0⟩).left = costN 0 x := by
        show (if x.op = 1 then x.n else 0) = costN 0 x
        unfold costN; split <;> omega
      rw [hfr]
      unfold sumC listed
      split
      · show (restN (costN 0 x, true) x).1 = costN 0 x
        unfold restN; rw [if_neg (by simp)]
      · rw [List.foldl_cons, List.foldl_cons, show restN (costN 0 x, true) x = (costN 0 x, false) from by unfold restN; rw [if_neg (by simp)]]
        exact hf _ _
  rw [hr]
  unfold costM
  rw [if_neg (show ¬ (progE l ≠ 0) by simpa using h0)]
/-- A run of a thread that computes. -/
theorem run_rT {l : List Ins} {t : Tm} {m : Int} (hp : t.pr = 0) (ha : (actP l t).1 = 1) (hm : 0 ≤ m) : runT (rT l t) 0 m = if t.left < m then ((t.left, 0), rT l (ranP l t t.left)) else ((m, 0), rT l (ranP l t m)) := by
  unfold runT
  rw [rT_find]
  dsimp only
  rw [rT_l hp, if_neg (by rw [ha]; decide), if_neg (by omega)]
  split
  · rw [← rT_set l t]; rfl
  · rw [← rT_set l t]; rfl
theorem done_rT {l : List Ins} {t : Tm} (hp : t.pr = 0) (ha : (actP l t).1 ≠ 1) : doneT (rT l t) 0 = if (actP l t).1 = 9 then (0, endT l) else (0, rT l (nextP l t)) := by
  unfold doneT
  rw [rT_find]
  dsimp only
  rw [rT_l hp, if_neg ha]
  split
  · rw [← rT_clear l t]; rfl
  · rw [← rT_set l t]; rfl
end Go.Proofs.Ytmkbijjmipppaaa
