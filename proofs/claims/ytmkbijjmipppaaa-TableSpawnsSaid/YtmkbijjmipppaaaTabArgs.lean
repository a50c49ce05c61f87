/- table's law: numbers, as they are read. Conditions: none. -/
import Derived.Test.YtmkbijjmipppaaaPrA
import Derived.Test.YtmkbijjmipppaaaOpen
set_option linter.all false
set_option linter.deprecated false
namespace Go.Proofs.Ytmkbijjmipppaaa
open Go.Sep Go.WideShapes
variable [B0 : Base]
set_option maxRecDepth 100000 in
theorem int_arg {H : Type} {enc : TypeId × Value → H} {W : World} {d : DataW H} {p : List MemPlace} {v : Value} {base : Nat} (o : Value.okWide Try.prog W .any base 3 v) (k : DataW.Trod enc Try.prog W 0 (fun _ => true) true 3 v d p) :
    ∃ q : Int, v = int q ∧ W64 q := by
  obtain ⟨q, rfl⟩ := okWide_int Try.underlying3 o
  obtain ⟨q', hq, hqb⟩ := (dec_i64 (w := W) Try.underlying3).arg k
  have h2 : [Value.int IntKind.i64 q] = [Value.int IntKind.i64 q'] := hq
  obtain rfl : q' = q := by injection h2 with h3; injection h3 with _ h4; exact h4.symm
  exact ⟨_, rfl, hqb⟩
end Go.Proofs.Ytmkbijjmipppaaa
