/- Assertions over blocks of the heap: which blocks a thing owns, and what they hold. Conditions: none. -/
import Derived.WalkKit
set_option linter.all false
set_option linter.deprecated false
namespace Go.Sep

/-- A property of a heap and of a set of its blocks, that hangs on these blocks alone. -/
structure HP where
  ok : Array Obj → (Nat → Prop) → Prop
  lt : ∀ {h S}, ok h S → ∀ b, S b → b < h.size
  loc : ∀ {h h' : Array Obj} {S}, ok h S → (∀ b, S b → h'[b]? = h[b]?) → ok h' S

theorem lt_of_some {h : Array Obj} {b : Nat} {o : Obj} (e : h[b]? = some o) : b < h.size := (Array.getElem?_eq_some_iff.1 e).1

/-- One block, whole. -/
def blk (b : Nat) (o : Obj) : HP where
  ok h S := h[b]? = some o ∧ ∀ x, S x ↔ x = b
  lt := fun ⟨h1, h2⟩ x hx => by rw [(h2 x).1 hx]; exact lt_of_some h1
  loc := fun ⟨h1, h2⟩ he => ⟨by rw [he b ((h2 b).2 rfl)]; exact h1, h2⟩

def emp : HP where
  ok _ S := ∀ x, ¬ S x
  lt := fun h b hb => absurd hb (h b)
  loc := fun h _ => h

/-- A fact about no block. -/
def fact (p : Prop) : HP where
  ok _ S := p ∧ ∀ x, ¬ S x
  lt := fun h b hb => absurd hb (h.2 b)
  loc := fun h _ => h

def star (A B : HP) : HP where
  ok h S := ∃ S1 S2, A.ok h S1 ∧ B.ok h S2 ∧ (∀ x, S1 x → ¬ S2 x) ∧ ∀ x, S x ↔ S1 x ∨ S2 x
  lt := fun ⟨S1, S2, h1, h2, _, h4⟩ b hb => by
    rcases (h4 b).1 hb with hb | hb
    · exact A.lt h1 b hb
    · exact B.lt h2 b hb
  loc := fun ⟨S1, S2, h1, h2, h3, h4⟩ he =>
    ⟨S1, S2, A.loc h1 (fun b hb => he b ((h4 b).2 (.inl hb))), B.loc h2 (fun b hb => he b ((h4 b).2 (.inr hb))), h3, h4⟩

def ex {α : Type} (f : α → HP) : HP where
  ok h S := ∃ x, (f x).ok h S
  lt := fun ⟨x, hx⟩ => (f x).lt hx
  loc := fun ⟨x, hx⟩ he => ⟨x, (f x).loc hx he⟩

def all : List HP → HP
  | [] => emp
  | A :: L => star A (all L)

/-- What a walk never turns: the files, the tape, what was written out. -/
class Base where
  os : Os
  tape : Nat → Question → Nat
  out : Array (Nat × ByteArray)
variable [B0 : Base]
def Off (w : World) : Prop := w.os = B0.os ∧ w.tape = B0.tape ∧ w.output = B0.out
theorem Off.to {w w' : World} (h : Off w) (e : w'.os = w.os ∧ w'.tape = w.tape ∧ w'.output = w.output) : Off w' := ⟨e.1.trans h.1, e.2.1.trans h.2.1, e.2.2.trans h.2.2⟩

/-- In world w the assertions hold, of blocks of their own each. -/
def Sat (w : World) (L : List HP) : Prop := Off w ∧ ∃ S, (all L).ok w.heap S

/-! ### Order, grouping, weakening -/
theorem star_comm_ok {A B : HP} {h : Array Obj} {S : Nat → Prop} (x : (star A B).ok h S) : (star B A).ok h S := by
  obtain ⟨S1, S2, h1, h2, h3, h4⟩ := x
  exact ⟨S2, S1, h2, h1, fun b hb hb' => h3 b hb' hb, fun b => (h4 b).trans Or.comm⟩

theorem star_left_comm_ok {A B C : HP} {h : Array Obj} {S : Nat → Prop} (x : (star A (star B C)).ok h S) : (star B (star A C)).ok h S := by
  obtain ⟨S1, S2, h1, ⟨T1, T2, k1, k2, k3, k4⟩, h3, h4⟩ := x
  refine ⟨T1, fun b => S1 b ∨ T2 b, k1, ⟨S1, T2, h1, k2, fun b hb hb' => h3 b hb ((k4 b).2 (.inr hb')), fun b => Iff.rfl⟩, ?_, fun b => ?_⟩
  · rintro b hb (hb' | hb')
    · exact h3 b hb' ((k4 b).2 (.inl hb))
    · exact k3 b hb hb'
  · rw [h4 b, k4 b]
    constructor
    · rintro (h | h | h)
      · exact .inr (.inl h)
      · exact .inl h
      · exact .inr (.inr h)
    · rintro (h | h | h)
      · exact .inr (.inl h)
      · exact .inl h
      · exact .inr (.inr h)

theorem star_mono_right {A B B' : HP} {h : Array Obj} (hb : ∀ S, B.ok h S → B'.ok h S) {S : Nat → Prop} (x : (star A B).ok h S) : (star A B').ok h S := by
  obtain ⟨S1, S2, h1, h2, h3, h4⟩ := x
  exact ⟨S1, S2, h1, hb _ h2, h3, h4⟩

theorem all_perm {L L' : List HP} (p : L.Perm L') {h : Array Obj} : ∀ {S : Nat → Prop}, (all L).ok h S → (all L').ok h S := by
  induction p with
  | nil => exact fun x => x
  | cons A _ ih => exact fun x => star_mono_right (fun _ y => ih y) x
  | swap A B L => exact fun x => star_left_comm_ok x
  | trans _ _ ih1 ih2 => exact fun x => ih2 (ih1 x)

theorem Sat.perm {w : World} {L L' : List HP} (h : Sat w L) (p : L.Perm L') : Sat w L' := let ⟨ho, S, hs⟩ := h; ⟨ho, S, all_perm p hs⟩

theorem Sat.drop {w : World} {A : HP} {L : List HP} (h : Sat w (A :: L)) : Sat w L := let ⟨ho, _, _, S2, _, h2, _⟩ := h; ⟨ho, S2, h2⟩

theorem Sat.heap {w w' : World} {L : List HP} (h : Sat w L) (e : w'.heap = w.heap) (eo : w'.os = w.os ∧ w'.tape = w.tape ∧ w'.output = w.output) : Sat w' L := by
  obtain ⟨ho, S, hs⟩ := h; exact ⟨ho.to eo, S, by rw [e]; exact hs⟩

theorem all_append_ok {L L' : List HP} {h : Array Obj} : ∀ {S : Nat → Prop}, (all (L ++ L')).ok h S ↔ (star (all L) (all L')).ok h S := by
  induction L with
  | nil =>
    intro S
    constructor
    · intro x; exact ⟨fun _ => False, S, fun _ h => h, x, fun _ h => h.elim, fun b => by simp⟩
    · rintro ⟨S1, S2, h1, h2, h3, h4⟩
      have : S = S2 := funext fun b => propext ⟨fun hb => ((h4 b).1 hb).resolve_left (h1 b), fun hb => (h4 b).2 (.inr hb)⟩
      rw [this]; exact h2
  | cons A L ih =>
    intro S
    constructor
    · rintro ⟨S1, S2, h1, h2, h3, h4⟩
      obtain ⟨T1, T2, k1, k2, k3, k4⟩ := ih.1 h2
      refine ⟨fun b => S1 b ∨ T1 b, T2, ⟨S1, T1, h1, k1, fun b hb hb' => h3 b hb ((k4 b).2 (.inl hb')), fun b => Iff.rfl⟩, k2, ?_, fun b => ?_⟩
      · rintro b (hb | hb) hb'
        · exact h3 b hb ((k4 b).2 (.inr hb'))
        · exact k3 b hb hb'
      · rw [h4 b, k4 b]; exact or_assoc.symm
    · rintro ⟨S0, T2, ⟨S1, T1, h1, k1, d1, e1⟩, k2, k3, k4⟩
      refine ⟨S1, fun b => T1 b ∨ T2 b, h1, ih.2 ⟨T1, T2, k1, k2, fun b hb hb' => k3 b ((e1 b).2 (.inr hb)) hb', fun b => Iff.rfl⟩, ?_, fun b => ?_⟩
      · rintro b hb (hb' | hb')
        · exact d1 b hb hb'
        · exact k3 b ((e1 b).2 (.inl hb)) hb'
      · rw [k4 b, e1 b]; exact or_assoc

/-- A bundle of assertions as one. -/
theorem Sat.all_iff {w : World} {L R : List HP} : Sat w (all L :: R) ↔ Sat w (L ++ R) :=
  ⟨fun ⟨ho, S, hs⟩ => ⟨ho, S, all_append_ok.2 hs⟩, fun ⟨ho, S, hs⟩ => ⟨ho, S, all_append_ok.1 hs⟩⟩

theorem Sat.ex_iff {α : Type} {f : α → HP} {w : World} {R : List HP} : Sat w (ex f :: R) ↔ ∃ x, Sat w (f x :: R) :=
  ⟨fun ⟨ho, S, S1, S2, ⟨x, hx⟩, r⟩ => ⟨x, ho, S, S1, S2, hx, r⟩, fun ⟨x, ho, S, S1, S2, hx, r⟩ => ⟨ho, S, S1, S2, ⟨x, hx⟩, r⟩⟩

theorem Sat.fact_iff {p : Prop} {w : World} {R : List HP} : Sat w (fact p :: R) ↔ p ∧ Sat w R := by
  constructor
  · rintro ⟨ho, S, S1, S2, ⟨hp, h1⟩, h2, _, h4⟩
    exact ⟨hp, ho, S2, h2⟩
  · rintro ⟨hp, ho, S, hs⟩
    exact ⟨ho, S, fun _ => False, S, ⟨hp, fun _ h => h⟩, hs, fun _ h => h.elim, fun b => by simp⟩

/-! ### Reading -/
theorem Sat.blk_heap {w : World} {b : Nat} {o : Obj} {R : List HP} (h : Sat w (blk b o :: R)) : w.heap[b]? = some o := let ⟨_, _, _, _, ⟨h1, _⟩, _⟩ := h; h1

theorem mem_split {A : HP} : ∀ {L : List HP}, A ∈ L → ∃ R, L.Perm (A :: R)
  | B :: L, h => by
    rcases List.mem_cons.1 h with rfl | h
    · exact ⟨L, .refl _⟩
    · obtain ⟨R, hR⟩ := mem_split h
      exact ⟨B :: R, (hR.cons B).trans (.swap _ _ _)⟩

theorem Sat.blk_mem {w : World} {b : Nat} {o : Obj} {L : List HP} (h : Sat w L) (hm : blk b o ∈ L) : w.heap[b]? = some o := by
  obtain ⟨R, hR⟩ := mem_split hm
  exact (h.perm hR).blk_heap

theorem Sat.blk_ne {w : World} {b c : Nat} {o o' : Obj} {R : List HP} (h : Sat w (blk b o :: blk c o' :: R)) : b ≠ c := by
  obtain ⟨_, S, S1, S2, ⟨h1, h2⟩, ⟨T1, T2, ⟨k1, k2⟩, _, _, k4⟩, h3, _⟩ := h
  rintro rfl
  exact h3 b ((h2 b).2 rfl) ((k4 b).2 (.inl ((k2 b).2 rfl)))

/-! ### Writing -/
/-- What is turned lies in the first assertion's own blocks, or is new. -/
theorem Sat.update {w w' : World} {A : HP} {B R : List HP} (h : Sat w (A :: R))
    (hA : ∀ S, A.ok w.heap S → (∀ b, b < w.heap.size → ¬ S b → w'.heap[b]? = w.heap[b]?) ∧ ∃ S', (all B).ok w'.heap S' ∧ ∀ b, S' b → S b ∨ w.heap.size ≤ b) (eo : w'.os = w.os ∧ w'.tape = w.tape ∧ w'.output = w.output := by exact ⟨rfl, rfl, rfl⟩) : Sat w' (B ++ R) := by
  obtain ⟨ho, S, S1, S2, h1, h2, h3, h4⟩ := h
  obtain ⟨hk, S', hB, hsub⟩ := hA S1 h1
  refine ⟨ho.to eo, fun b => S' b ∨ S2 b, all_append_ok.2 ⟨S', S2, hB, (all R).loc h2 (fun b hb => ?_), ?_, fun b => Iff.rfl⟩⟩
  · exact hk b ((all R).lt h2 b hb) (fun hb' => h3 b hb' hb)
  · intro b hb hb'
    rcases hsub b hb with hb1 | hb1
    · exact h3 b hb1 hb'
    · exact absurd ((all R).lt h2 b hb') (by omega)

theorem Sat.alloc {w : World} {R : List HP} (h : Sat w R) (o : Obj) : Sat (w.alloc o) (blk w.heap.size o :: R) := by
  have h0 : Sat w (emp :: R) := by
    obtain ⟨ho, S, hs⟩ := h
    exact ⟨ho, S, fun _ => False, S, fun _ h => h, hs, fun _ h => h.elim, fun b => by simp⟩
  refine h0.update (B := [blk w.heap.size o]) fun S _ => ⟨fun b hb _ => ?_, fun x => x = w.heap.size, ?_, ?_⟩
  · exact RowKit.Below.heap_alloc _ _ _ hb
  · exact ⟨fun x => x = w.heap.size, fun _ => False, ⟨by show (w.heap.push o)[w.heap.size]? = some o; simp, fun _ => Iff.rfl⟩, fun _ h => h, fun _ _ h => h, fun b => by simp⟩
  · rintro b rfl; exact .inr (Nat.le_refl _)

end Go.Sep
