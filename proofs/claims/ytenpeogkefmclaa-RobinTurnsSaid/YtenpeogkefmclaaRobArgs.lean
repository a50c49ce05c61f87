/- Robin's law: the calls that come in, as they are read. Conditions: none. -/
import Derived.Test.YtenpeogkefmclaaRobKeeps
import Derived.Test.YtenpeogkefmclaaOpen
set_option linter.all false
set_option linter.deprecated false
namespace Go.Proofs.Ytenpeogkefmclaa
open Go.Sep Go.WideShapes

theorem ops_arg {H : Type} {enc : TypeId × Value → H} {W : World} {d : DataW H} {p : List MemPlace} {a0 : Option Addr} {len0 cap0 : Nat} (k0 : DataW.Trod enc Try.prog W 0 (fun _ => true) true 36 (.slice a0 len0 cap0) d p) :
    ∃ ops, @OpsIn (baseOf W) [Go.Sep.old W.heap] (.slice a0 len0 cap0) ops := by
  letI := baseOf W
  have dInts := dec_slice (w := W) Try.underlying22 (n := 1) (by kernel_rfl) (by decide) (dec_i64 Try.underlying3) (fun _ => rfl)
  have dOp : Dec Try.prog W 44 opE (fun o => (-9223372036854775808 ≤ o.n ∧ o.n ≤ 9223372036854775807) ∧ InOld W o.lv 1 (o.ks.map inE)) :=
    (dec_struct (w := W) Try.underlying44 (by kernel_rfl) (decRow_cons (n := 1) (by kernel_rfl) rfl (dec_i64 Try.underlying3) (decRow_cons (n := 1) (by kernel_rfl) rfl (dec_i64 Try.underlying3) (decRow_cons (n := 1) (by kernel_rfl) rfl (dec_i64 Try.underlying3) (decRow_cons (n := 1) (by kernel_rfl) rfl dInts decRow_nil))))).mono
      (fun x => ⟨x.1, x.2.1, x.2.2.1, x.2.2.2.1.1, x.2.2.2.1.2⟩) (fun _ => rfl) (fun x h => ⟨h.2.2.1, h.2.2.2.1.1⟩)
  have dOps := dec_slice (w := W) Try.underlying36 (n := 4) (by kernel_rfl) (by decide) dOp (fun _ => rfl)
  obtain ⟨⟨v, ops⟩, hv, hin, hall⟩ := dOps.arg k0
  obtain rfl : v = .slice a0 len0 cap0 := by simpa [Value.cells] using hv.symm
  refine ⟨ops, ⟨by have := hin.isl; simpa using this, hin.src, fun o ho => ?_⟩⟩
  obtain ⟨h1, h2⟩ := hall o ho
  exact ⟨h1, by have := h2.isl; simpa using this, h2.src⟩
end Go.Proofs.Ytenpeogkefmclaa
