/- prog: programs and rows of numbers, as they are read. Conditions: none. -/
import Derived.Test.YtelmljbblklblaaDoorPrB
import Derived.Test.YtelmljbblklblaaDoorOpen
set_option linter.all false
set_option linter.deprecated false
namespace Go.Proofs.YtelmljbblklblaaDoor
open Go.Sep Go.WideShapes
set_option maxRecDepth 100000 in
theorem prog_arg {H : Type} {enc : TypeId × Value → H} {W : World} {d : DataW H} {p : List MemPlace} {v : Value} {base : Nat} (o : Value.okWide Tryd.prog W .any base 22 v) (k : DataW.Trod enc Tryd.prog W 0 (fun _ => true) true 22 v d p) :
    ∃ l, @PrIn (baseOf W) [Go.Sep.old W.heap] v l := by
  letI := baseOf W
  obtain ⟨a0, len0, cap0, rfl⟩ := okWide_slice Tryd.underlying22 o
  have dIns : Dec Tryd.prog W 27 insE (fun _ => True) :=
    (dec_struct (w := W) Tryd.underlying27 (by kernel_rfl) (decRow_cons (n := 1) (by kernel_rfl) rfl (dec_i64 Tryd.underlying3) (decRow_cons (n := 1) (by kernel_rfl) rfl (dec_i64 Tryd.underlying3) decRow_nil))).mono
      (fun x => ⟨x.1, x.2.1⟩) (fun _ => rfl) (fun _ _ => trivial)
  have dP := dec_slice (w := W) Tryd.underlying22 (n := 2) (by kernel_rfl) (by decide) dIns (fun _ => rfl)
  obtain ⟨⟨u, l⟩, hv, hin, -⟩ := dP.arg k
  have h2 : [Value.slice a0 len0 cap0] = [u] := hv
  obtain rfl : Value.slice a0 len0 cap0 = u := by injection h2
  exact ⟨l, by have := hin.isl; rwa [List.length_map] at this, hin.src⟩
set_option maxRecDepth 100000 in
theorem ints_arg {H : Type} {enc : TypeId × Value → H} {W : World} {d : DataW H} {p : List MemPlace} {v : Value} {base : Nat} (o : Value.okWide Tryd.prog W .any base 50 v) (k : DataW.Trod enc Tryd.prog W 0 (fun _ => true) true 50 v d p) :
    ∃ ks : List Int, IsSl v ks.length ∧ @Src (baseOf W) [Go.Sep.old W.heap] v 1 (ks.map fun k => [int k]) ∧ ∀ k ∈ ks, W64 k := by
  letI := baseOf W
  obtain ⟨a0, len0, cap0, rfl⟩ := okWide_slice Tryd.underlying50 o
  have dP := dec_slice (w := W) Tryd.underlying50 (n := 1) (by kernel_rfl) (by decide) (dec_i64 Tryd.underlying3) (fun _ => rfl)
  obtain ⟨⟨u, l⟩, hv, hin, hall⟩ := dP.arg k
  have h2 : [Value.slice a0 len0 cap0] = [u] := hv
  obtain rfl : Value.slice a0 len0 cap0 = u := by injection h2
  exact ⟨l, by have := hin.isl; rwa [List.length_map] at this, hin.src, hall⟩
end Go.Proofs.YtelmljbblklblaaDoor
