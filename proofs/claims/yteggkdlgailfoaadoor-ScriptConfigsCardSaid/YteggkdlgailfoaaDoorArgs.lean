/- What was there when a law was called: it lies as it lay; the arguments are read of it. Conditions: none. -/
import Derived.Test.YteggkdlgailfoaaDoorUse
import Derived.Below
set_option linter.all false
set_option linter.deprecated false
namespace Go.Sep
open Go.RowKit (Below)

/-- The blocks that were there lie as they lay. -/
def old (h0 : Array Obj) : HP where
  ok h S := (∀ b, b < h0.size → h[b]? = h0[b]?) ∧ ∀ b, S b ↔ b < h0.size
  lt := fun ⟨h1, h2⟩ x hx => by
    have hx' := (h2 x).1 hx
    have := h1 x hx'
    rw [Array.getElem?_eq_getElem hx'] at this
    exact (Array.getElem?_eq_some_iff.1 this).1
  loc := fun ⟨h1, h2⟩ he => ⟨fun b hb => (he b ((h2 b).2 hb)).trans (h1 b hb), h2⟩

/-- The walk's base: this world's. -/
abbrev baseOf (w : World) : Base := ⟨w.os, w.tape, w.output⟩

theorem Sat.old (w : World) : @Sat (baseOf w) w [Sep.old w.heap] :=
  ⟨⟨rfl, rfl, rfl⟩, fun b => b < w.heap.size, fun b => b < w.heap.size, fun _ => False, ⟨fun _ _ => rfl, fun _ => Iff.rfl⟩, fun _ h => h, fun _ _ h => h, fun b => by simp⟩

theorem Sat.below {w w' : World} {R : List HP} (h : @Sat (baseOf w) w' (Sep.old w.heap :: R)) : Below w.heap.size w w' := by
  obtain ⟨⟨h1, h2, h3⟩, _, _, _, ⟨h4, _⟩, _⟩ := h
  refine ⟨h1, h2, h3, ?_, h4⟩
  rcases Nat.eq_zero_or_pos w.heap.size with h0 | h0
  · omega
  · have hlt : w.heap.size - 1 < w.heap.size := by omega
    have := h4 _ hlt
    rw [Array.getElem?_eq_getElem hlt] at this
    have := (Array.getElem?_eq_some_iff.1 this).1
    omega

/-- A law's contract, for the guide's frame. -/
theorem Called.frame {P : Program} {f : FuncId} {vs : List Value} {w : World} {v : Value} (h : @Called (baseOf w) P f vs [Sep.old w.heap] (fun u M => u = v ∧ ∃ R, M = Sep.old w.heap :: R)) : Calls P f vs.toArray w fun e w' => e = .returned v ∧ Below w.heap.size w w' := by
  have := h
  letI := baseOf w
  exact (h.out w (Sat.old w)).mono fun e w' ⟨u, he, M, ⟨hu, R, hM⟩, hs⟩ => ⟨by rw [he, hu], by subst hM; exact Sat.below hs⟩

section
variable [B0 : Base]
theorem old_cell {h0 : Array Obj} {w w0 : World} {R : List HP} (h : Sat w (Sep.old h0 :: R)) (hw : w0.heap = h0) {a : Addr} {v : Value} (hc : w0.cell? a = some v) : w.cell? a = some v := by
  obtain ⟨_, _, _, _, ⟨h4, _⟩, _⟩ := h
  subst hw
  have hlt : a.block < w0.heap.size := by
    rcases Nat.lt_or_ge a.block w0.heap.size with h | h
    · exact h
    · simp [World.cell?, Array.getElem?_eq_none h] at hc
  simp only [World.cell?] at hc ⊢
  rw [h4 _ hlt]; exact hc

/-- A slice of so many numbers, which lies in what was there. -/
structure InOld (w0 : World) (v : Value) (n : Nat) (es : List (List Value)) : Prop where
  isl : IsSl v es.length
  len : ∀ e ∈ es, e.length = n
  cell : es = [] ∨ ∃ b o c, v = .slice (some ⟨b, o, none⟩) es.length c ∧ ∀ j u, es.flatten[j]? = some u → w0.cell? ⟨b, o + j, none⟩ = some u
theorem InOld.src {w0 : World} {v : Value} {n : Nat} {es : List (List Value)} (h : InOld w0 v n es) {L : List HP} : Src (Sep.old w0.heap :: L) v n es :=
  ⟨fun _ _ => h.len, fun w hs => by
    obtain ⟨ao, cap, hv, _⟩ := h.isl
    rcases h.cell with h0 | ⟨b, o, c, hv', hc⟩
    · exact ⟨ao, cap, hv, .inl h0⟩
    · exact ⟨_, c, hv', .inr ⟨b, o, rfl, fun j u hu => old_cell hs rfl (hc j u hu)⟩⟩⟩

theorem inOld_row {k : IntKind} {w : World} {a : Option Addr} {len cap : Nat} {zs : List Int}
    (h : (a = none ∧ len = 0 ∧ cap = 0 ∧ zs = []) ∨ ∃ x, a = some x ∧ len ≤ cap ∧ cap ≤ maxLen ∧ zs.length = cap ∧ (∀ i, i < zs.length → w.cell? (x.add i) = some (.int k (zs.getD i 0))) ∧ ∀ n ∈ zs, (Lit.int k n).wf = true) :
    ∃ xs : List Int, (∀ x ∈ xs, (Lit.int k x).wf = true) ∧ xs.length = len ∧ InOld w (.slice a len cap) 1 (xs.map fun i => [Value.int k i]) := by
  rcases h with ⟨rfl, rfl, rfl, rfl⟩ | ⟨x, rfl, h1, h2, h3, h4, h6⟩
  · exact ⟨[], (fun x h => by cases h), rfl, ⟨none, 0, rfl, Nat.le_refl _, Nat.zero_le _, fun _ => rfl, fun _ h => by cases h⟩, (fun e he => by cases he), .inl rfl⟩
  · have hl : (zs.take len).length = len := by rw [List.length_take]; omega
    refine ⟨zs.take len, fun x hx => h6 x (List.mem_of_mem_take hx), hl, ?_⟩
    have hsp : 0 < cap → x.spot = none := by
      intro hc
      have h5 := h4 0 (by omega)
      simp only [Addr.add, if_true] at h5
      cases hx : x.spot with
      | none => rfl
      | some s =>
        exfalso
        revert h5
        simp only [World.cell?]
        split
        · simp [hx]
        · simp
    refine ⟨⟨some x, cap, by rw [List.length_map, hl], by rw [List.length_map, hl]; exact h1, h2, (fun h => by cases h), (fun a h hp => by cases h; exact hsp hp)⟩, ?_, ?_⟩
    · intro e he
      obtain ⟨i, _, rfl⟩ := List.mem_map.1 he
      rfl
    · rcases Nat.eq_zero_or_pos len with h0 | h0
      · left; subst h0; simp
      · right
        obtain ⟨b, o, sp⟩ := x
        have : sp = none := hsp (by omega)
        subst this
        refine ⟨b, o, cap, by rw [List.length_map, hl], fun j u hu => ?_⟩
        have hfl : ((zs.take len).map fun i => [Value.int k i]).flatten = (zs.take len).map fun i => Value.int k i := by
          induction zs.take len with
          | nil => rfl
          | cons z l ih => simp [ih]
        rw [hfl] at hu
        simp only [List.getElem?_map, Option.map_eq_some_iff] at hu
        obtain ⟨z, hz, rfl⟩ := hu
        rw [List.getElem?_take] at hz
        split at hz
        · have hj : j < zs.length := (List.getElem?_eq_some_iff.1 hz).1
          have h5 := h4 j hj
          rw [Addr.add_lit] at h5
          rw [h5, List.getD_eq_getElem?_getD, hz]; rfl
        · cases hz
end
end Go.Sep
