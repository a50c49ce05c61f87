/- spread's laws: calls and numbers, as they are read. Conditions: none. -/
import Derived.Test.YtoddjdghjpdomaaSpL
import Derived.Test.YtoddjdghjpdomaaOpen
set_option linter.all false
set_option linter.deprecated false
namespace Go.Proofs.Ytoddjdghjpdomaa
open Go.Sep Go.WideShapes
set_option maxRecDepth 100000 in
theorem decOp [B0 : Base] {W : World} : Dec Try.prog W 24 opE (fun _ => True) :=
  (dec_struct (w := W) Try.underlying24 (by kernel_rfl) (decRow_cons (n := 1) (by kernel_rfl) rfl (dec_i64 Try.underlying3) (decRow_cons (n := 1) (by kernel_rfl) rfl (dec_i64 Try.underlying3) (decRow_cons (n := 1) (by kernel_rfl) rfl (dec_i64 Try.underlying3) (decRow_cons (n := 1) (by kernel_rfl) rfl (dec_i64 Try.underlying3) decRow_nil))))).mono
    (fun x => ⟨x.1, x.2.1, x.2.2.1, x.2.2.2.1⟩) (fun _ => rfl) (fun _ h => trivial)
set_option maxRecDepth 100000 in
theorem ops_arg {H : Type} {enc : TypeId × Value → H} {W : World} {d : DataW H} {p : List MemPlace} {v : Value} {base : Nat} (o : Value.okWide Try.prog W .any base 22 v) (k : DataW.Trod enc Try.prog W 0 (fun _ => true) true 22 v d p) :
    ∃ ops : List OpT, @OpsIn (baseOf W) [Go.Sep.old W.heap] v ops := by
  letI := baseOf W
  obtain ⟨a0, len0, cap0, rfl⟩ := okWide_slice Try.underlying22 o
  have dP := dec_slice (w := W) Try.underlying22 (n := 4) (by kernel_rfl) (by decide) (decOp (W := W)) (fun _ => rfl)
  obtain ⟨⟨u, l⟩, hv, hin, hall⟩ := dP.arg k
  have h2 : [Value.slice a0 len0 cap0] = [u] := hv
  obtain rfl : Value.slice a0 len0 cap0 = u := by injection h2
  exact ⟨l, by have := hin.isl; rwa [List.length_map] at this, hin.src⟩
set_option maxRecDepth 100000 in
theorem op_arg {H : Type} {enc : TypeId × Value → H} {W : World} {d : DataW H} {p : List MemPlace} {v : Value} {base : Nat} (o : Value.okWide Try.prog W .any base 24 v) (k : DataW.Trod enc Try.prog W 0 (fun _ => true) true 24 v d p) :
    ∃ q : OpT, v = .agg (opE q).toArray := by
  letI := baseOf W
  obtain ⟨q, hv, hq⟩ := (decOp (W := W)).arg k
  exact ⟨q, agg_cells (P := Try.prog) (w := W) (.inr ⟨4, by kernel_rfl⟩) o hv⟩
set_option maxRecDepth 100000 in
theorem int_arg [B0 : Base] {H : Type} {enc : TypeId × Value → H} {W : World} {d : DataW H} {p : List MemPlace} {v : Value} {base : Nat} (o : Value.okWide Try.prog W .any base 3 v) (k : DataW.Trod enc Try.prog W 0 (fun _ => true) true 3 v d p) :
    ∃ q : Int, v = int q ∧ W64 q := by
  obtain ⟨q, rfl⟩ := okWide_int Try.underlying3 o
  obtain ⟨q', hq, hqb⟩ := (dec_i64 (w := W) Try.underlying3).arg k
  have h2 : [Value.int IntKind.i64 q] = [Value.int IntKind.i64 q'] := hq
  obtain rfl : q' = q := by injection h2 with h3; injection h3 with _ h4; exact h4.symm
  exact ⟨_, rfl, hqb⟩
end Go.Proofs.Ytoddjdghjpdomaa
