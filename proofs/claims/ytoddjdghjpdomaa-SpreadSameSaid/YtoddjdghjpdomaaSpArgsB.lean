/- spread's laws: keys and numbers, as they are read. Conditions: none. -/
import Derived.Test.YtoddjdghjpdomaaSpQ
import Derived.Test.YtoddjdghjpdomaaSpArgs
set_option linter.all false
set_option linter.deprecated false
namespace Go.Proofs.Ytoddjdghjpdomaa
open Go.Sep Go.WideShapes
set_option maxRecDepth 100000 in
theorem decKy [B0 : Base] {W : World} : Dec Try.prog W 36 kyE (fun _ => True) :=
  (dec_struct (w := W) Try.underlying36 (by kernel_rfl) (decRow_cons (n := 1) (by kernel_rfl) rfl (dec_i64 Try.underlying3) (decRow_cons (n := 1) (by kernel_rfl) rfl (dec_i64 Try.underlying3) decRow_nil))).mono
    (fun x => ⟨x.1, x.2.1⟩) (fun _ => rfl) (fun _ h => trivial)
set_option maxRecDepth 100000 in
theorem keys_arg {H : Type} {enc : TypeId × Value → H} {W : World} {d : DataW H} {p : List MemPlace} {v : Value} {base : Nat} (o : Value.okWide Try.prog W .any base 28 v) (k : DataW.Trod enc Try.prog W 0 (fun _ => true) true 28 v d p) :
    ∃ ks : List Ky, @KyIn (baseOf W) [Go.Sep.old W.heap] v ks := by
  letI := baseOf W
  obtain ⟨a0, len0, cap0, rfl⟩ := okWide_slice Try.underlying28 o
  have dP := dec_slice (w := W) Try.underlying28 (n := 2) (by kernel_rfl) (by decide) (decKy (W := W)) (fun _ => rfl)
  obtain ⟨⟨u, l⟩, hv, hin, hall⟩ := dP.arg k
  have h2 : [Value.slice a0 len0 cap0] = [u] := hv
  obtain rfl : Value.slice a0 len0 cap0 = u := by injection h2
  exact ⟨l, by have := hin.isl; rwa [List.length_map] at this, hin.src⟩
set_option maxRecDepth 100000 in
theorem ints_arg {H : Type} {enc : TypeId × Value → H} {W : World} {d : DataW H} {p : List MemPlace} {v : Value} {base : Nat} (o : Value.okWide Try.prog W .any base 40 v) (k : DataW.Trod enc Try.prog W 0 (fun _ => true) true 40 v d p) :
    ∃ hs : List Int, @IntsIn (baseOf W) [Go.Sep.old W.heap] v hs := by
  letI := baseOf W
  obtain ⟨a0, len0, cap0, rfl⟩ := okWide_slice Try.underlying40 o
  have dP := dec_slice (w := W) Try.underlying40 (n := 1) (by kernel_rfl) (by decide) (dec_i64 (w := W) Try.underlying3) (fun _ => rfl)
  obtain ⟨⟨u, l⟩, hv, hin, hall⟩ := dP.arg k
  have h2 : [Value.slice a0 len0 cap0] = [u] := hv
  obtain rfl : Value.slice a0 len0 cap0 = u := by injection h2
  exact ⟨l, by have := hin.isl; rwa [List.length_map] at this, hin.src⟩
end Go.Proofs.Ytoddjdghjpdomaa
