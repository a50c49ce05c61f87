/- Reading and writing under assertions; slices that own their array. Conditions: none. -/
import Derived.Test.YteggkdlgailfoaaDoorEng
set_option linter.all false
set_option linter.deprecated false
namespace Go.Sep
variable [B0 : Base]

/-! ### Reading -/
/-- Under L the cell at this address holds v. -/
structure Rd (L : List HP) (a : Addr) (v : Value) : Prop where
  out : ∀ w, Sat w L → w.cell? a = some v

theorem Rd.there {A : HP} {L : List HP} {a : Addr} {v : Value} (h : Rd L a v) : Rd (A :: L) a v := ⟨fun w hs => h.out w hs.drop⟩

/-- A block of cells, whole. -/
def pt (b : Nat) (T : TypeId) (vs : List Value) : HP := blk b (.cells vs.toArray T (0, 0))

theorem cell_of_blk {w : World} {b : Nat} {c : Array Value} {e : TypeId} {f : Nat × Nat} (h : w.heap[b]? = some (.cells c e f)) (i : Nat) {v : Value} (hv : c[i]? = some v) : w.cell? ⟨b, i, none⟩ = some v := by
  simp [World.cell?, h, hv]

theorem Rd.pt {b : Nat} {T : TypeId} {vs : List Value} {L : List HP} {i : Nat} {v : Value} (h : vs[i]? = some v) : Rd (pt b T vs :: L) ⟨b, i, none⟩ v :=
  ⟨fun _ hs => cell_of_blk hs.blk_heap i (by simpa using h)⟩

theorem Sat.alloc_pt {w : World} {R : List HP} (h : Sat w R) (T : TypeId) (vs : List Value) : Sat (w.alloc (.cells vs.toArray T)) (Sep.pt w.heap.size T vs :: R) := h.alloc _
theorem Sat.alloc_one {w : World} {R : List HP} (h : Sat w R) (T : TypeId) (v : Value) : Sat (w.alloc (.cells #[v] T)) (Sep.pt w.heap.size T [v] :: R) := h.alloc _
theorem Sat.alloc_arr {w : World} {R : List HP} (h : Sat w R) (T : TypeId) (c : Array Value) : Sat (w.alloc (.cells c T)) (Sep.pt w.heap.size T c.toList :: R) := by
  have := h.alloc_pt T c.toList
  simpa using this

/-! ### Writing -/
def hset (h : Array Obj) (a : Addr) (v : Value) : Array Obj := h.modify a.block fun
  | .cells c e f => .cells (c.setIfInBounds a.off v) e f
  | o => o

theorem setCell_heap (w : World) (b i : Nat) (v : Value) : (w.setCell ⟨b, i, none⟩ v).heap = hset w.heap ⟨b, i, none⟩ v := by
  simp only [World.setCell, hset]
  congr 1

theorem hset_other {h : Array Obj} {a : Addr} {v : Value} {b : Nat} (hb : b ≠ a.block) : (hset h a v)[b]? = h[b]? := by
  simp only [hset, Array.getElem?_modify]
  rw [if_neg (fun e => hb e.symm)]

theorem hset_size {h : Array Obj} {a : Addr} {v : Value} : (hset h a v).size = h.size := by simp [hset]

/-- Storing v at a turns L into L'. -/
structure St (L : List HP) (a : Addr) (v : Value) (L' : List HP) : Prop where
  plain : a.spot = none
  out : ∀ h S, (all L).ok h S → (∃ c T, h[a.block]? = some (.cells c T (0, 0)) ∧ a.off < c.size) ∧ S a.block ∧ (all L').ok (hset h a v) S

theorem St.there {A : HP} {L L' : List HP} {a : Addr} {v : Value} (h : St L a v L') : St (A :: L) a v (A :: L') := by
  refine ⟨h.1, fun hp S x => ?_⟩
  obtain ⟨S1, S2, h1, h2, h3, h4⟩ := x
  obtain ⟨hc, hb, hk⟩ := h.out hp S2 h2
  refine ⟨hc, (h4 _).2 (.inr hb), S1, S2, A.loc h1 (fun b hb' => hset_other (fun e => ?_)), hk, h3, h4⟩
  rw [e] at hb'
  exact h3 _ hb' hb

theorem St.pt {b : Nat} {T : TypeId} {vs : List Value} {L : List HP} {i : Nat} {v : Value} (h : Nat.blt i vs.length = true) : St (pt b T vs :: L) ⟨b, i, none⟩ v (pt b T (vs.set i v) :: L) := by
  have hi : i < vs.length := by simpa [Nat.blt_eq] using h
  refine ⟨rfl, fun hp S x => ?_⟩
  obtain ⟨S1, S2, ⟨h1, h1'⟩, h2, h3, h4⟩ := x
  have hb : S1 b := (h1' b).2 rfl
  refine ⟨⟨vs.toArray, T, h1, by simpa using hi⟩, (h4 b).2 (.inl hb), S1, S2, ⟨?_, h1'⟩, (all L).loc h2 (fun c hc => hset_other (fun e => ?_)), h3, h4⟩
  · simp only [hset, Array.getElem?_modify, if_true, h1, Option.map_some]
    simp
  · have e' : c = b := e
    subst e'
    exact h3 _ hb hc

theorem St.sat {L L' : List HP} {a : Addr} {v : Value} (h : St L a v L') {w : World} (hs : Sat w L) :
    (w.cell? a).isSome = true ∧ w.frozen? a = false ∧ Sat (w.setCell a v) L' := by
  obtain ⟨b, i, sp⟩ := a
  obtain ⟨h0, h⟩ := h
  have h0 : sp = none := h0
  subst h0
  obtain ⟨ho, S, hS⟩ := hs
  obtain ⟨⟨c, T, hc, hi⟩, hb, hk⟩ := h _ _ hS
  refine ⟨?_, ?_, ho.to ⟨rfl, rfl, rfl⟩, S, by rw [setCell_heap]; exact hk⟩
  · have hi' : i < c.size := hi
    rw [cell_of_blk hc i (v := c[i]) (by simp [hi'])]; rfl
  · simp only [World.frozen?, hc]
    simp

/-! ### Slices that own their array -/
/-- v is a slice with so many elements, at the head of an array of its own (or nil), whose cells these are, n to an element. -/
def sl (E : TypeId) (n : Nat) (v : Value) (cs : List (List Value)) : HP where
  ok h S := (∀ e ∈ cs, e.length = n) ∧ ((v = .slice none 0 0 ∧ cs = [] ∧ ∀ x, ¬ S x) ∨
    ∃ b cap cur, v = .slice (some ⟨b, 0, none⟩) cs.length cap ∧ h[b]? = some (.cells cur E (0, 0)) ∧ cs.length ≤ cap ∧ cap ≤ maxLen ∧ cur.size = cap * n ∧ cur.toList.take (cs.length * n) = cs.flatten ∧ ∀ x, S x ↔ x = b)
  lt := fun ⟨_, h⟩ x hx => by
    rcases h with ⟨_, _, h⟩ | ⟨b, cap, cur, _, hb, _, _, _, _, hS⟩
    · exact absurd hx (h x)
    · rw [(hS x).1 hx]; exact lt_of_some hb
  loc := fun ⟨hl, h⟩ he => ⟨hl, by
    rcases h with h | ⟨b, cap, cur, hv, hb, h1, h2, h3, h4, hS⟩
    · exact .inl h
    · exact .inr ⟨b, cap, cur, hv, by rw [he b ((hS b).2 rfl)]; exact hb, h1, h2, h3, h4, hS⟩⟩

/-- A slice's block, and where it begins in it. -/
def vb : Value → Nat
  | .slice (some a) _ _ => a.block
  | _ => 0
def vo : Value → Nat
  | .slice (some a) _ _ => a.off
  | _ => 0

/-- v is a slice with N elements. -/
def IsSl (v : Value) (N : Nat) : Prop :=
  ∃ ao cap, v = .slice ao N cap ∧ N ≤ cap ∧ cap ≤ maxLen ∧ (ao = none → cap = 0) ∧ ∀ a, ao = some a → 0 < cap → a.spot = none

theorem IsSl.len {v : Value} {N : Nat} (h : IsSl v N) : N ≤ 9223372036854775807 := by
  obtain ⟨_, cap, _, h1, h2, _⟩ := h
  unfold maxLen at h2; omega

theorem IsSl.nil : IsSl (.slice none 0 0) 0 := ⟨none, 0, rfl, Nat.le_refl _, Nat.zero_le _, fun _ => rfl, fun _ h => by cases h⟩
theorem flatten_length {n : Nat} : ∀ {cs : List (List Value)}, (∀ e ∈ cs, e.length = n) → cs.flatten.length = cs.length * n
  | [], _ => by simp
  | e :: cs, h => by
    simp only [List.flatten_cons, List.length_append, List.length_cons]
    rw [flatten_length (fun e he => h e (List.mem_cons_of_mem _ he)), h e (by simp), Nat.add_mul]; omega

theorem flatten_get {n : Nat} : ∀ {cs : List (List Value)}, (∀ e ∈ cs, e.length = n) → ∀ {i k : Nat} {e : List Value} {u : Value}, cs[i]? = some e → e[k]? = some u → cs.flatten[i * n + k]? = some u
  | [], _, _, _, _, _, h, _ => by simp at h
  | c :: cs, h, 0, k, e, u, h1, h2 => by
    simp at h1; subst h1
    have hk := (List.getElem?_eq_some_iff.1 h2).1
    simp only [List.flatten_cons, Nat.zero_mul, Nat.zero_add]
    rw [List.getElem?_append_left hk]; exact h2
  | c :: cs, h, i + 1, k, e, u, h1, h2 => by
    have hc := h c (by simp)
    simp only [List.flatten_cons]
    rw [List.getElem?_append_right (by rw [hc, Nat.add_mul]; omega)]
    rw [show (i + 1) * n + k - c.length = i * n + k by rw [hc, Nat.add_mul]; omega]
    exact flatten_get (fun e he => h e (List.mem_cons_of_mem _ he)) (by simpa using h1) h2

theorem sl_info {E : TypeId} {n : Nat} {v : Value} {cs : List (List Value)} {h : Array Obj} {S : Nat → Prop} (x : (sl E n v cs).ok h S) : IsSl v cs.length := by
  obtain ⟨_, ⟨rfl, rfl, _⟩ | ⟨b, cap, cur, rfl, _, h1, h2, _⟩⟩ := x
  · exact ⟨none, 0, rfl, Nat.le_refl _, Nat.zero_le _, fun _ => rfl, fun _ h => by cases h⟩
  · exact ⟨_, cap, rfl, h1, h2, (fun h => by cases h), (fun a h _ => by cases h; rfl)⟩

/-- Under L, v is a slice with N elements. -/
structure Len (L : List HP) (v : Value) (N : Nat) : Prop where
  out : ∀ w, Sat w L → IsSl v N
theorem Len.there {A : HP} {L : List HP} {v : Value} {N : Nat} (h : Len L v N) : Len (A :: L) v N := ⟨fun w hs => h.out w hs.drop⟩
theorem Len.sl {E : TypeId} {n : Nat} {v : Value} {cs : List (List Value)} {L : List HP} : Len (sl E n v cs :: L) v cs.length :=
  ⟨fun _ hs => let ⟨_, _, _, _, h1, _⟩ := hs; sl_info h1⟩
theorem Len.slm {α : Type} {E : TypeId} {n : Nat} {v : Value} {l : List α} {f : α → List Value} {L : List HP} : Len (Sep.sl E n v (l.map f) :: L) v l.length :=
  ⟨fun w hs => by have := (Len.sl (L := L) (E := E) (n := n) (v := v) (cs := l.map f)).out w hs; rwa [List.length_map] at this⟩
theorem Len.of {L : List HP} {v : Value} {N : Nat} (h : IsSl v N) : Len L v N := ⟨fun _ _ => h⟩
theorem Len.cast {L : List HP} {v : Value} {N M : Nat} (h : Len L v N) (e : N = M) : Len L v M := e ▸ h

theorem Rd.sl {E : TypeId} {n : Nat} {v : Value} {cs : List (List Value)} {L : List HP} {i k : Nat} {e : List Value} {u : Value} (h1 : cs[i]? = some e) (h2 : e[k]? = some u) :
    Rd (sl E n v cs :: L) ⟨vb v, vo v + i * n + k, none⟩ u := ⟨fun w hs => by
  obtain ⟨_, _, _, _, ⟨hl, ⟨rfl, rfl, _⟩ | ⟨b, cap, cur, rfl, hb, h3, h4, h5, h6, _⟩⟩, _⟩ := hs
  · simp at h1
  · simp only [vb, vo, Nat.zero_add]
    refine cell_of_blk hb _ ?_
    have := flatten_get hl h1 h2
    rw [← h6, List.getElem?_take] at this
    split at this
    · simpa using this
    · cases this⟩

theorem take_set_flatten {n : Nat} {cs : List (List Value)} (hl : ∀ e ∈ cs, e.length = n) {i k : Nat} {e : List Value} (h1 : cs[i]? = some e) (hk : k < e.length) (u : Value) :
    (cs.set i (e.set k u)).flatten = cs.flatten.set (i * n + k) u := by
  induction cs generalizing i with
  | nil => simp at h1
  | cons c cs ih =>
    have hc := hl c (by simp)
    cases i with
    | zero =>
      simp at h1; subst h1
      simp only [List.set_cons_zero, List.flatten_cons, Nat.zero_mul, Nat.zero_add]
      rw [List.set_append_left _ _ hk]
    | succ i =>
      simp only [List.set_cons_succ, List.flatten_cons]
      rw [ih (fun e he => hl e (List.mem_cons_of_mem _ he)) (by simpa using h1)]
      rw [List.set_append_right _ _ (by rw [hc, Nat.add_mul]; omega)]
      rw [show (i + 1) * n + k - c.length = i * n + k by rw [hc, Nat.add_mul]; omega]

theorem St.sl {E : TypeId} {n : Nat} {v : Value} {cs : List (List Value)} {L : List HP} {i k : Nat} {e : List Value} {u : Value} (h1 : cs[i]? = some e) (hk : Nat.blt k e.length = true) :
    St (sl E n v cs :: L) ⟨vb v, vo v + i * n + k, none⟩ u (sl E n v (cs.set i (e.set k u)) :: L) := by
  have hk : k < e.length := by simpa [Nat.blt_eq] using hk
  refine ⟨rfl, fun hp S x => ?_⟩
  obtain ⟨S1, S2, h0, h2, h3, h4⟩ := x
  obtain ⟨hl, ⟨rfl, rfl, _⟩ | ⟨b, cap, cur, rfl, hb, g1, g2, g3, g4, hS⟩⟩ := h0
  · simp at h1
  have hi : i < cs.length := (List.getElem?_eq_some_iff.1 h1).1
  have he : e.length = n := hl e (List.mem_of_getElem? h1)
  have hoff : i * n + k < cs.length * n := by
    have : (i + 1) * n ≤ cs.length * n := Nat.mul_le_mul_right n hi
    rw [Nat.add_mul] at this; omega
  have hoff2 : i * n + k < cur.size := by rw [g3]; exact Nat.lt_of_lt_of_le hoff (Nat.mul_le_mul_right n g1)
  simp only [vb, vo, Nat.zero_add]
  have hbS : S1 b := (hS b).2 rfl
  refine ⟨⟨cur, E, hb, hoff2⟩, (h4 b).2 (.inl hbS), S1, S2, ⟨?_, .inr ⟨b, cap, cur.setIfInBounds (i * n + k) u, ?_, ?_, ?_, g2, ?_, ?_, hS⟩⟩, (all L).loc h2 (fun c hc => hset_other (fun e => ?_)), h3, h4⟩
  · intro e' he'
    rcases List.mem_or_eq_of_mem_set he' with h | h
    · exact hl e' h
    · rw [h, List.length_set]; exact he
  · simp
  · simp only [hset, Array.getElem?_modify, if_true, hb, Option.map_some]
  · simpa using g1
  · simpa using g3
  · rw [List.length_set, take_set_flatten hl h1 hk, ← g4]
    simp only [Array.toList_setIfInBounds]
    rw [List.take_set]
  · have e' : c = b := e
    subst e'
    exact h3 _ hbS hc

theorem C_len {P : Program} {ro : Option Nat} {c : Code} {Q : Exit → Act → World → Prop} {n : Nat} {F : Fr} {ds : List Deferred} {L : List HP} {v : Value} {N : Nat} (hl : Len L v N) (h : N ≤ 9223372036854775807 → C P ro c Q n F ds L) : C P ro c Q n F ds L :=
  C_know (fun w hs => (hl.out w hs).len) h
/-- A slice's shape, known from here on. -/
theorem C_isl {P : Program} {ro : Option Nat} {c : Code} {Q : Exit → Act → World → Prop} {n : Nat} {F : Fr} {ds : List Deferred} {L : List HP} {v : Value} {N : Nat} (hl : Len L v N) (h : IsSl v N → N ≤ 9223372036854775807 → C P ro c Q n F ds L) : C P ro c Q n F ds L :=
  C_know (p := IsSl v N) (fun w hs => hl.out w hs) fun hi => h hi hi.len
theorem W_len {P : Program} {ro : Option Nat} {ops : Array Oper} {l : List Oper} {Q : Exit → Act → World → Prop} {n : Nat} {F : Fr} {ds : List Deferred} {L : List HP} {v : Value} {N : Nat} (hl : Len L v N) (h : N ≤ 9223372036854775807 → W P ro none ops Q n l F ds L) : W P ro none ops Q n l F ds L :=
  W_know (fun w hs => (hl.out w hs).len) h

/-! ### Rearranging -/
def pull : Nat → List HP → List HP
  | 0, L => L
  | _ + 1, [] => []
  | i + 1, A :: L => match pull i L with
    | [] => [A]
    | B :: L' => B :: A :: L'

theorem pull_perm : ∀ (i : Nat) (L : List HP), L.Perm (pull i L)
  | 0, L => .refl L
  | _ + 1, [] => .refl _
  | i + 1, A :: L => by
    have ih := pull_perm i L
    simp only [pull]
    split
    · rename_i h; rw [h] at ih; exact ih.cons A
    · rename_i B L' h; rw [h] at ih; exact (ih.cons A).trans (.swap _ _ _)

theorem Sat.pull {w : World} {L : List HP} (i : Nat) (h : Sat w L) : Sat w (pull i L) := h.perm (pull_perm i L)

attribute [irreducible] pt sl

end Go.Sep
