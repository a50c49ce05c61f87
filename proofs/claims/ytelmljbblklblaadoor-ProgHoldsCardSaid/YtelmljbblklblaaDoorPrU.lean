/- prog: the reference's mutexes: Held, List. Conditions: none. -/
import Derived.Test.YtelmljbblklblaaDoorPrK
import Derived.Test.YtelmljbblklblaaDoorPrE
set_option linter.all false
set_option linter.deprecated false
namespace Go.Proofs.YtelmljbblklblaaDoor
open Go.Sep
variable [B0 : Base]
def bset (b : List Bool) (x : Ins) : List Bool := if x.op = 2 ∨ x.op = 3 then b.set x.n.toNat true else if x.op = 4 then b.set x.n.toNat false else b
def heldB (l : List Ins) : List Bool := l.foldl bset (List.replicate 32 false)
theorem bset_len (b : List Bool) (x : Ins) : (bset b x).length = b.length := by unfold bset; (repeat' split) <;> simp
theorem foldB_len (l : List Ins) : ∀ b : List Bool, (l.foldl bset b).length = b.length := by
  induction l with
  | nil => intro b; rfl
  | cons x l ih => intro b; rw [List.foldl_cons, ih, bset_len]
theorem heldB_len (l : List Ins) : (heldB l).length = 32 := by unfold heldB; rw [foldB_len]; simp
theorem may_mut {x : Ins} (h : mayE x = 0) (ho : x.op = 2 ∨ x.op = 3 ∨ x.op = 4) : 0 ≤ x.n ∧ x.n < 32 := by
  unfold mayE at h
  rw [if_neg (by omega)] at h
  by_cases h2 : x.n < kLo x.op ∨ kHi x.op < x.n
  · rw [if_pos h2] at h; exact absurd h (by decide)
  · unfold kLo kHi at h2
    rw [if_neg (by omega), if_neg (by omega), if_pos ho] at h2
    omega
/-- The numbers at which there is a true. -/
def listB (b : List Bool) (k : Nat) : List Int := ((List.range k).filter fun i => b[i]? == some true).map fun (i : Nat) => (i : Int)
theorem listB_succ (b : List Bool) (k : Nat) : listB b (k + 1) = if b[k]? = some true then listB b k ++ [(k : Int)] else listB b k := by
  unfold listB
  rw [List.range_succ, List.filter_append]
  by_cases h : b[k]? = some true
  · rw [if_pos h]
    simp [h]
  · rw [if_neg h]
    have : (b[k]? == some true) = false := by simpa using h
    simp [this]
theorem listB_len (b : List Bool) (k : Nat) : (listB b k).length ≤ k := by
  unfold listB
  rw [List.length_map]
  exact Nat.le_trans (List.length_filter_le _ _) (by simp)
theorem listB_mem (b : List Bool) (k : Nat) (y : Int) : y ∈ listB b k ↔ ∃ i : Nat, i < k ∧ b[i]? = some true ∧ (i : Int) = y := by
  unfold listB
  simp only [List.mem_map, List.mem_filter, List.mem_range, beq_iff_eq]
  constructor
  · rintro ⟨i, ⟨h1, h2⟩, h3⟩; exact ⟨i, h1, h2, h3⟩
  · rintro ⟨i, h1, h2, h3⟩; exact ⟨i, ⟨h1, h2⟩, h3⟩
theorem listB_sorted (b : List Bool) (k : Nat) : (listB b k).Pairwise (· < ·) := by
  induction k with
  | zero => exact List.Pairwise.nil
  | succ k ih =>
    rw [listB_succ]
    split
    · rw [List.pairwise_append]
      refine ⟨ih, by simp, fun a ha c hc => ?_⟩
      obtain ⟨i, h1, _, rfl⟩ := (listB_mem b k a).1 ha
      simp at hc
      omega
    · exact ih
theorem sorted_ext {a b : List Int} (ha : a.Pairwise (· < ·)) (hb : b.Pairwise (· < ·)) (h : ∀ y, y ∈ a ↔ y ∈ b) : a = b := by
  induction a generalizing b with
  | nil =>
    cases b with
    | nil => rfl
    | cons y b => exact absurd ((h y).2 List.mem_cons_self) (by simp)
  | cons x a ih =>
    obtain ⟨a1, a2⟩ := List.pairwise_cons.1 ha
    cases b with
    | nil => exact absurd ((h x).1 List.mem_cons_self) (by simp)
    | cons y b =>
      obtain ⟨b1, b2⟩ := List.pairwise_cons.1 hb
      have hxy : x = y := by
        rcases List.mem_cons.1 ((h x).1 List.mem_cons_self) with e | e
        · exact e
        · rcases List.mem_cons.1 ((h y).2 List.mem_cons_self) with e2 | e2
          · exact e2.symm
          · have := a1 y e2; have := b1 x e; omega
      subst hxy
      rw [ih a2 b2 fun z => ?_]
      constructor
      · intro hz
        rcases List.mem_cons.1 ((h z).1 (List.mem_cons_of_mem _ hz)) with e | e
        · have := a1 z hz; omega
        · exact e
      · intro hz
        rcases List.mem_cons.1 ((h z).2 (List.mem_cons_of_mem _ hz)) with e | e
        · have := b1 z hz; omega
        · exact e
/-- A row of truths, and a row of numbers, tell of one another. -/
def Agree (b : List Bool) (h : List Int) : Prop := b.length = 32 ∧ h.Pairwise (· < ·) ∧ (∀ y ∈ h, 0 ≤ y ∧ y < 32) ∧ ∀ i : Nat, i < 32 → (b[i]? = some true ↔ (i : Int) ∈ h)
theorem Agree.step {b : List Bool} {h : List Int} (ha : Agree b h) {x : Ins} (hm : mayE x = 0) : Agree (bset b x) (turn h x) := by
  obtain ⟨h1, h2, h3, h4⟩ := ha
  refine ⟨by rw [bset_len, h1], turn_sorted h2 x, fun y hy => ?_, fun i hi => ?_⟩
  · rw [mem_turn h2] at hy
    by_cases h23 : x.op = 2 ∨ x.op = 3
    · rw [if_pos h23] at hy
      rcases hy with rfl | hy
      · exact may_mut hm (by omega)
      · exact h3 y hy
    · rw [if_neg h23] at hy
      split at hy
      · exact h3 y hy.1
      · exact h3 y hy
  · rw [mem_turn h2]
    unfold bset
    by_cases h23 : x.op = 2 ∨ x.op = 3
    · rw [if_pos h23, if_pos h23, List.getElem?_set]
      have hn := may_mut hm (by omega)
      by_cases hi2 : x.n.toNat = i
      · rw [if_pos hi2, if_pos (by omega)]
        exact ⟨fun _ => .inl (by omega), fun _ => rfl⟩
      · rw [if_neg hi2, h4 i hi]
        exact ⟨.inr, fun hh => by rcases hh with hh | hh; omega; exact hh⟩
    · rw [if_neg h23, if_neg h23]
      by_cases h44 : x.op = 4
      · rw [if_pos h44, if_pos h44, List.getElem?_set]
        have hn := may_mut hm (by omega)
        by_cases hi2 : x.n.toNat = i
        · rw [if_pos hi2, if_pos (by omega)]
          exact ⟨fun hh => by simp at hh, fun hh => by omega⟩
        · rw [if_neg hi2, h4 i hi]
          exact ⟨fun hh => ⟨hh, by omega⟩, fun hh => hh.1⟩
      · rw [if_neg h44, if_neg h44]
        exact h4 i hi
theorem agree_fold {l : List Ins} (hm : ∀ x ∈ l, mayE x = 0) : Agree (heldB l) (l.foldl turn []) := by
  have key : ∀ (l : List Ins) b h, (∀ x ∈ l, mayE x = 0) → Agree b h → Agree (l.foldl bset b) (l.foldl turn h) := by
    intro l
    induction l with
    | nil => intro b h _ ha; exact ha
    | cons x l ih => intro b h hm ha; exact ih _ _ (fun y hy => hm y (List.mem_cons_of_mem _ hy)) (ha.step (hm x List.mem_cons_self))
  refine key l _ _ hm ⟨by rw [List.length_replicate], List.Pairwise.nil, fun y hy => by simp at hy, fun i hi => ?_⟩
  rw [List.getElem?_replicate, if_pos hi]
  simp only [Option.some.injEq, Bool.false_eq_true, false_iff]
  simp
theorem Agree.list {b : List Bool} {h : List Int} (ha : Agree b h) : listB b 32 = h := by
  obtain ⟨h1, h2, h3, h4⟩ := ha
  refine sorted_ext (listB_sorted b 32) h2 fun y => ?_
  rw [listB_mem]
  constructor
  · rintro ⟨i, hi, hb, rfl⟩; exact (h4 i hi).1 hb
  · intro hy
    have := h3 y hy
    refine ⟨y.toNat, by omega, (h4 _ (by omega)).2 ?_, by omega⟩
    rw [show ((y.toNat : Nat) : Int) = y by omega]; exact hy
def bE (b : List Bool) : List Value := b.map Value.bool
theorem bE_one (b : List Bool) : (bE b).all Value.oneCell' = true := by simp [bE, Value.oneCell']
end Go.Proofs.YtelmljbblklblaaDoor
