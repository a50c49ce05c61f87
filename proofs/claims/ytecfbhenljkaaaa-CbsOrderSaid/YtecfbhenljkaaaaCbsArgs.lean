/- cbs' law: params and numbers, as they are read. Conditions: none. -/
import Derived.Test.YtecfbhenljkaaaaCbsA
import Derived.Test.YtecfbhenljkaaaaCbsC
import Derived.Test.YtecfbhenljkaaaaOpen
set_option linter.all false
set_option linter.deprecated false
namespace Go.Proofs.Ytecfbhenljkaaaa
open Go.Sep Go.WideShapes
variable [B0 : Base]
theorem par_arg {H : Type} {enc : TypeId × Value → H} {W : World} {d : DataW H} {p : List MemPlace} {v : Value} {base : Nat} (o : Value.okWide Try.prog W .any base 23 v) (k : DataW.Trod enc Try.prog W 0 (fun _ => true) true 23 v d p) :
    ∃ q d t : Int, v = par q d t ∧ W64 q ∧ W64 d ∧ W64 t := by
  obtain ⟨⟨a, b, c, u⟩, hv, h1, h2, h3, -⟩ := (dec_struct (w := W) Try.underlying23 (by kernel_rfl) (decRow_cons (n := 1) (by kernel_rfl) rfl (dec_i64 Try.underlying3) (decRow_cons (n := 1) (by kernel_rfl) rfl (dec_i64 Try.underlying3) (decRow_cons (n := 1) (by kernel_rfl) rfl (dec_i64 Try.underlying3) decRow_nil)))).arg k
  exact ⟨a, b, c, agg_cells (P := Try.prog) (w := W) (.inr ⟨3, by kernel_rfl⟩) o hv, h1, h2, h3⟩
theorem num_arg {H : Type} {enc : TypeId × Value → H} {W : World} {d : DataW H} {p : List MemPlace} {v : Value} {base : Nat} (o : Value.okWide Try.prog W .any base 25 v) (k : DataW.Trod enc Try.prog W 0 (fun _ => true) true 25 v d p) :
    ∃ q d t : Int, v = num q d t ∧ W64 q ∧ W64 d ∧ W64 t := by
  obtain ⟨⟨a, b, c, u⟩, hv, h1, h2, h3, -⟩ := (dec_struct (w := W) Try.underlying25 (by kernel_rfl) (decRow_cons (n := 1) (by kernel_rfl) rfl (dec_i64 Try.underlying3) (decRow_cons (n := 1) (by kernel_rfl) rfl (dec_i64 Try.underlying3) (decRow_cons (n := 1) (by kernel_rfl) rfl (dec_i64 Try.underlying3) decRow_nil)))).arg k
  exact ⟨a, b, c, agg_cells (P := Try.prog) (w := W) (.inr ⟨3, by kernel_rfl⟩) o hv, h1, h2, h3⟩
theorem int_arg {H : Type} {enc : TypeId × Value → H} {W : World} {d : DataW H} {p : List MemPlace} {v : Value} {base : Nat} (o : Value.okWide Try.prog W .any base 3 v) (k : DataW.Trod enc Try.prog W 0 (fun _ => true) true 3 v d p) :
    ∃ q : Int, v = int q ∧ W64 q := by
  obtain ⟨q, rfl⟩ := okWide_int Try.underlying3 o
  obtain ⟨q', hq, hqb⟩ := (dec_i64 (w := W) Try.underlying3).arg k
  obtain rfl : q' = q := by simpa [Value.cells] using hq.symm
  exact ⟨_, rfl, hqb⟩
end Go.Proofs.Ytecfbhenljkaaaa
