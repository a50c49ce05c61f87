/- table's law: libraries and calls, as they are read. Conditions: none. -/
import Derived.Test.YtmkbijjmipppaaaTabZ
import Derived.Test.YtmkbijjmipppaaaPrArgs
set_option linter.all false
set_option linter.deprecated false
namespace Go.Proofs.Ytmkbijjmipppaaa
open Go.Sep Go.WideShapes
set_option maxRecDepth 100000 in
theorem lib_arg {H : Type} {enc : TypeId × Value → H} {W : World} {d : DataW H} {p : List MemPlace} {v : Value} {base : Nat} (o : Value.okWide Try.prog W .any base 44 v) (k : DataW.Trod enc Try.prog W 0 (fun _ => true) true 44 v d p) :
    ∃ xs, @LibIn (baseOf W) [Go.Sep.old W.heap] v xs := by
  letI := baseOf W
  obtain ⟨a0, len0, cap0, rfl⟩ := okWide_slice Try.underlying44 o
  have dIns : Dec Try.prog W 28 insE (fun _ => True) :=
    (dec_struct (w := W) Try.underlying28 (by kernel_rfl) (decRow_cons (n := 1) (by kernel_rfl) rfl (dec_i64 Try.underlying3) (decRow_cons (n := 1) (by kernel_rfl) rfl (dec_i64 Try.underlying3) decRow_nil))).mono
      (fun x => ⟨x.1, x.2.1⟩) (fun _ => rfl) (fun _ _ => trivial)
  have dP := dec_slice (w := W) Try.underlying29 (n := 2) (by kernel_rfl) (by decide) dIns (fun _ => rfl)
  have dL := dec_slice (w := W) Try.underlying44 (n := 1) (by kernel_rfl) (by decide) dP (fun _ => rfl)
  obtain ⟨⟨u, xs⟩, hv, hin, hall⟩ := dL.arg k
  have h2 : [Value.slice a0 len0 cap0] = [u] := hv
  obtain rfl : Value.slice a0 len0 cap0 = u := by injection h2
  refine ⟨xs, by have := hin.isl; rwa [List.length_map] at this, hin.src, fun x hx => ?_⟩
  have hx1 := (hall x hx).1
  exact ⟨by have := hx1.isl; rwa [List.length_map] at this, hx1.src⟩
set_option maxRecDepth 100000 in
theorem decOp [B0 : Base] {W : World} : Dec Try.prog W 47 opE (fun o => W64 o.n) :=
  (dec_struct (w := W) Try.underlying47 (by kernel_rfl) (decRow_cons (n := 1) (by kernel_rfl) rfl (dec_i64 Try.underlying3) (decRow_cons (n := 1) (by kernel_rfl) rfl (dec_i64 Try.underlying3) (decRow_cons (n := 1) (by kernel_rfl) rfl (dec_i64 Try.underlying3) decRow_nil)))).mono
    (fun x => ⟨x.1, x.2.1, x.2.2.1⟩) (fun _ => rfl) (fun _ h => h.2.2.1)
set_option maxRecDepth 100000 in
theorem ops_arg {H : Type} {enc : TypeId × Value → H} {W : World} {d : DataW H} {p : List MemPlace} {v : Value} {base : Nat} (o : Value.okWide Try.prog W .any base 45 v) (k : DataW.Trod enc Try.prog W 0 (fun _ => true) true 45 v d p) :
    ∃ ops : List OpM, IsSl v ops.length ∧ @Src (baseOf W) [Go.Sep.old W.heap] v 3 (ops.map opE) ∧ ∀ o ∈ ops, W64 o.n := by
  letI := baseOf W
  obtain ⟨a0, len0, cap0, rfl⟩ := okWide_slice Try.underlying45 o
  have dP := dec_slice (w := W) Try.underlying45 (n := 3) (by kernel_rfl) (by decide) (decOp (W := W)) (fun _ => rfl)
  obtain ⟨⟨u, l⟩, hv, hin, hall⟩ := dP.arg k
  have h2 : [Value.slice a0 len0 cap0] = [u] := hv
  obtain rfl : Value.slice a0 len0 cap0 = u := by injection h2
  exact ⟨l, by have := hin.isl; rwa [List.length_map] at this, hin.src, hall⟩
set_option maxRecDepth 100000 in
theorem op_arg {H : Type} {enc : TypeId × Value → H} {W : World} {d : DataW H} {p : List MemPlace} {v : Value} {base : Nat} (o : Value.okWide Try.prog W .any base 47 v) (k : DataW.Trod enc Try.prog W 0 (fun _ => true) true 47 v d p) :
    ∃ q : OpM, v = .agg (opE q).toArray ∧ W64 q.n := by
  letI := baseOf W
  obtain ⟨q, hv, hq⟩ := (decOp (W := W)).arg k
  exact ⟨q, agg_cells (P := Try.prog) (w := W) (.inr ⟨3, by kernel_rfl⟩) o hv, hq⟩
end Go.Proofs.Ytmkbijjmipppaaa
