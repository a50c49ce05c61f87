/- script: steps, as they are read. Conditions: none. -/
import Derived.Test.YteggkdlgailfoaaDoorSD
import Derived.Test.YteggkdlgailfoaaDoorOpen
set_option linter.all false
set_option linter.deprecated false
namespace Go.Proofs.YteggkdlgailfoaaDoor
open Go.Sep Go.WideShapes
set_option maxRecDepth 100000 in
theorem decStp [B0 : Base] {W : World} : Dec Tryd.prog W 29 stE (fun _ => True) := by
  intro H enc held fuel cs x h
  obtain ⟨⟨op, l, u⟩, hcs, h1, ⟨hl, hq⟩, -⟩ := (dec_struct (w := W) Tryd.underlying29 (by kernel_rfl) (decRow_cons (n := 1) (by kernel_rfl) rfl (dec_i64 Tryd.underlying3) (decRow_cons (n := 6) (by kernel_rfl) rfl (dec_array (n := 1) Tryd.underlying25 (by kernel_rfl) (by kernel_rfl) (dec_i64 Tryd.underlying3) (fun _ => rfl)) decRow_nil))) H enc held fuel cs x h
  match l, hl with
  | [a0, a1, a2, a3, a4, a5], _ => exact ⟨⟨op, a0, a1, a2, a3, a4, a5⟩, hcs, trivial⟩
set_option maxRecDepth 100000 in
theorem stp_arg {H : Type} {enc : TypeId × Value → H} {W : World} {d : DataW H} {p : List MemPlace} {v : Value} {base : Nat} (o : Value.okWide Tryd.prog W .any base 22 v) (k : DataW.Trod enc Tryd.prog W 0 (fun _ => true) true 22 v d p) :
    ∃ l, @StIn (baseOf W) [Go.Sep.old W.heap] v l := by
  letI := baseOf W
  obtain ⟨a0, len0, cap0, rfl⟩ := okWide_slice Tryd.underlying22 o
  have dP := dec_slice (w := W) Tryd.underlying22 (n := 7) (by kernel_rfl) (by decide) (decStp (W := W)) (fun _ => rfl)
  obtain ⟨⟨u, l⟩, hv, hin, -⟩ := dP.arg k
  have h2 : [Value.slice a0 len0 cap0] = [u] := hv
  obtain rfl : Value.slice a0 len0 cap0 = u := by injection h2
  exact ⟨l, by have := hin.isl; rwa [List.length_map] at this, hin.src⟩
end Go.Proofs.YteggkdlgailfoaaDoor
