/- script: programs as they are read (what PrB has of them, without All and Cost, which this program lacks). Conditions: none. -/
import Derived.Test.YteggkdlgailfoaaDoorPrA
import Derived.Test.YteggkdlgailfoaaDoorMord
set_option linter.all false
set_option linter.deprecated false
namespace Go.Proofs.YteggkdlgailfoaaDoor
open Go.Sep
variable [B0 : Base]
abbrev ptr (p : Nat) : Value := .pointer (some ⟨p, 0, none⟩)
structure PrIn (R : List HP) (p : Value) (l : List Ins) : Prop where
  isl : IsSl p l.length
  src : Src R p 2 (l.map insE)
theorem PrIn.there {A : HP} {R : List HP} {p : Value} {l : List Ins} (h : PrIn R p l) : PrIn (A :: R) p l := ⟨h.isl, h.src.there⟩
theorem PrIn.all {R X : List HP} {p : Value} {l : List Ins} (h : PrIn R p l) : PrIn (Sep.all R :: X) p l := ⟨h.isl, h.src.all⟩
theorem progE_may {l : List Ins} (h : progE l = 0) : l.length ≤ 64 ∧ ∀ x ∈ l, mayE x = 0 := by
  unfold progE at h
  by_cases h64 : 64 < l.length
  · rw [if_pos h64] at h; cases h
  · rw [if_neg h64] at h
    refine ⟨by omega, fun x hx => ?_⟩
    cases hf : (l.map mayE).find? (fun e => e != 0) with
    | none =>
      have := List.find?_eq_none.1 hf (mayE x) (List.mem_map_of_mem hx)
      simpa using this
    | some y =>
      have h1 := List.find?_some hf
      rw [hf] at h
      simp at h1 h
      exact absurd h h1
theorem may_n {x : Ins} (h : mayE x = 0) : 0 ≤ x.n ∧ x.n < 1099511627776 ∧ 1 ≤ x.op ∧ x.op ≤ 9 ∧ (x.op = 1 → 1 ≤ x.n) := by
  unfold mayE at h
  by_cases h1 : x.op < 1 ∨ 9 < x.op
  · rw [if_pos h1] at h; exact absurd h (by decide)
  · rw [if_neg h1] at h
    by_cases h2 : x.n < kLo x.op ∨ kHi x.op < x.n
    · rw [if_pos h2] at h; exact absurd h (by decide)
    · have h3 : (kLo x.op = 0 ∨ kLo x.op = 1) ∧ (x.op = 1 → kLo x.op = 1) ∧ kHi x.op ≤ 1099511627775 := by
        unfold kLo kHi
        by_cases h5 : x.op = 1 ∨ x.op = 5
        · rw [if_pos h5, if_pos h5]; omega
        · rw [if_neg h5, if_neg h5]
          refine ⟨.inl rfl, fun h => absurd (.inl h) h5, ?_⟩
          (repeat' split) <;> omega
      obtain ⟨h4, h5, h6⟩ := h3
      exact ⟨by omega, by omega, by omega, by omega, fun ho => by have := h5 ho; omega⟩
theorem PrIn.ofsl {T : TypeId} {R : List HP} {v : Value} {l : List Ins} (h : IsSl v l.length) : PrIn (sl T 2 v (l.map insE) :: R) v l := ⟨h, Src.sl⟩
end Go.Proofs.YteggkdlgailfoaaDoor
