/-
  No cell of these rows narrows 'for every input' (looked for: loops, veiled, ifaces, maps, wideKeys, modest, calm, conditions, laid).
  DERIVED. THE GIVEN ROWS OF THIS SEAT. 4 by the template 'for every input the law returns true; each argument reads behind the call as it read before'; 0 by the template 'total and deterministic' (their statements: YtecfbhenljkaaaaTotals.lean).
  GIVEN WITH THE SEED: the statements are not yours to turn. If you find one false, say at which input.
  Laid BY PROGRAM, IN A SANDBOX (cutbox-rows.mjs): the forced cells as the released guide's own fill.sh prints them over the translation 35607b8793177cf8… (all of the seat's roots in one cut). By AI agents, Wed Nov 11 2026. No macro, syntax, notation, axiom, sorry.
-/
import Derived.Test.YtecfbhenljkaaaaChecked
import GoSem.Claim
import GoSem.ClaimJoined
import GoSem.ClaimMapViews
import Derived.JoinedTies
import Derived.KernelRfl
namespace Go.Proofs.Ytecfbhenljkaaaa
/- THE CELL 'sum', in the pinned program and in every row, IS THE sha256 OF THE DUMP (.gsa) THAT YtecfbhenljkaaaaProg.lean LOADS. Nothing in Lean hashes anything: it is a label: what it is worth is what the hold of that sum in a sandbox is worth. -/
noncomputable def Try.pinned : Pinned := { name := "ytecfbhenljkaaaa", sum := "35607b8793177cf8e08c550ffeaaef35824ea065db5b9ac66191bd3b47d60b7b", checked := Try.checked }
namespace Rows
def none {H : Type} : Left H := { results := [], args := [] }

/-- 'metronomelaw06.CbsRefills': WHATEVER THE INPUT: true; the input reads as it did. -/
def cbsRefillsSpec : ChangeSpec := { name := "cbsRefills", fn := fun _ => fun
  | [d1, d2, d3] => { results := [.lit (.bool true)], args := [d1, d2, d3] }
  | _ => none }
def cbsRefillsRow : OpenClaim := { program := "ytecfbhenljkaaaa", sum := "35607b8793177cf8e08c550ffeaaef35824ea065db5b9ac66191bd3b47d60b7b", func := "metronome/metronomelaw06.CbsRefills", spec := "cbsRefills", named := ["math/bits.divideError", "math/bits.overflowError"], apart := false }
def CbsRefillsSaid : Prop := cbsRefillsRow.holds Try.pinned (OpenSpec.ofChange cbsRefillsSpec)

/-- ITS FALSE NEIGHBOUR: 'it returns false'. Refute it at one input. -/
def cbsRefillsWrong : ChangeSpec := { name := "cbsRefills", fn := fun _ => fun
  | [d1, d2, d3] => { results := [.lit (.bool false)], args := [d1, d2, d3] }
  | _ => none }
def CbsRefillsWrongFalsely : Prop := cbsRefillsRow.holds Try.pinned (OpenSpec.ofChange cbsRefillsWrong)

/-- 'metronomelaw06.CbsSpends': WHATEVER THE INPUT: true; the input reads as it did. -/
def cbsSpendsSpec : ChangeSpec := { name := "cbsSpends", fn := fun _ => fun
  | [d1, d2, d3] => { results := [.lit (.bool true)], args := [d1, d2, d3] }
  | _ => none }
def cbsSpendsRow : OpenClaim := { program := "ytecfbhenljkaaaa", sum := "35607b8793177cf8e08c550ffeaaef35824ea065db5b9ac66191bd3b47d60b7b", func := "metronome/metronomelaw06.CbsSpends", spec := "cbsSpends", named := ["math/bits.divideError", "math/bits.overflowError"], apart := false }
def CbsSpendsSaid : Prop := cbsSpendsRow.holds Try.pinned (OpenSpec.ofChange cbsSpendsSpec)

/-- ITS FALSE NEIGHBOUR: 'it returns false'. Refute it at one input. -/
def cbsSpendsWrong : ChangeSpec := { name := "cbsSpends", fn := fun _ => fun
  | [d1, d2, d3] => { results := [.lit (.bool false)], args := [d1, d2, d3] }
  | _ => none }
def CbsSpendsWrongFalsely : Prop := cbsSpendsRow.holds Try.pinned (OpenSpec.ofChange cbsSpendsWrong)

/-- 'metronomelaw06.CbsLags': WHATEVER THE INPUT: true; the input reads as it did. -/
def cbsLagsSpec : ChangeSpec := { name := "cbsLags", fn := fun _ => fun
  | [d1, d2, d3] => { results := [.lit (.bool true)], args := [d1, d2, d3] }
  | _ => none }
def cbsLagsRow : OpenClaim := { program := "ytecfbhenljkaaaa", sum := "35607b8793177cf8e08c550ffeaaef35824ea065db5b9ac66191bd3b47d60b7b", func := "metronome/metronomelaw06.CbsLags", spec := "cbsLags", named := ["math/bits.divideError", "math/bits.overflowError"], apart := false }
def CbsLagsSaid : Prop := cbsLagsRow.holds Try.pinned (OpenSpec.ofChange cbsLagsSpec)

/-- ITS FALSE NEIGHBOUR: 'it returns false'. Refute it at one input. -/
def cbsLagsWrong : ChangeSpec := { name := "cbsLags", fn := fun _ => fun
  | [d1, d2, d3] => { results := [.lit (.bool false)], args := [d1, d2, d3] }
  | _ => none }
def CbsLagsWrongFalsely : Prop := cbsLagsRow.holds Try.pinned (OpenSpec.ofChange cbsLagsWrong)

/-- 'metronomelaw06.CbsOrder': WHATEVER THE INPUT: true; the input reads as it did. -/
def cbsOrderSpec : ChangeSpec := { name := "cbsOrder", fn := fun _ => fun
  | [d1, d2, d3] => { results := [.lit (.bool true)], args := [d1, d2, d3] }
  | _ => none }
def cbsOrderRow : OpenClaim := { program := "ytecfbhenljkaaaa", sum := "35607b8793177cf8e08c550ffeaaef35824ea065db5b9ac66191bd3b47d60b7b", func := "metronome/metronomelaw06.CbsOrder", spec := "cbsOrder", unfollowed := true, recurses := true, named := ["math/bits.divideError", "math/bits.overflowError"], apart := false }
def CbsOrderSaid : Prop := cbsOrderRow.holds Try.pinned (OpenSpec.ofChange cbsOrderSpec)

/-- ITS FALSE NEIGHBOUR: 'it returns false'. Refute it at one input. -/
def cbsOrderWrong : ChangeSpec := { name := "cbsOrder", fn := fun _ => fun
  | [d1, d2, d3] => { results := [.lit (.bool false)], args := [d1, d2, d3] }
  | _ => none }
def CbsOrderWrongFalsely : Prop := cbsOrderRow.holds Try.pinned (OpenSpec.ofChange cbsOrderWrong)

/- THE SECOND FORM. 'bulk': how many values and letters a reading holds, each counted each time it is reached (what is shared counts as often as it is met; a slice's spare places count too). A statement '..UptoSaid' is the law's where the arguments, and the package variables that the reading takes, are together of bulk at most 1048576: NARROWER than '..Said'. Prove '..Said' where nothing that the law and all that it calls make is longer than what came in: it says more and counts as full. Else prove '..UptoSaid'. A law counts once. -/
mutual
def uptoBulk {H : Type} : DataW H → Nat
  | .lit (.string bytes) => bytes.length + 1
  | .lit _ => 1
  | .nil => 1
  | .ptr d => uptoBulk d + 1
  | .slice elems spare => uptoBulkAll elems + uptoBulkAll spare + 1
  | .agg parts => uptoBulkAll parts + 1
  | .iface _ d => uptoBulk d + 1
  | .map entries => uptoBulkEntries entries + 1
  | .held _ => 1
def uptoBulkAll {H : Type} : List (DataW H) → Nat
  | [] => 0
  | d :: r => uptoBulk d + uptoBulkAll r
def uptoBulkEntries {H : Type} : List (Lit × DataW H) → Nat
  | [] => 0
  | x :: r => uptoBulkEntry x + uptoBulkEntries r
def uptoBulkEntry {H : Type} : Lit × DataW H → Nat
  | (.string bytes, d) => bytes.length + uptoBulk d + 1
  | (_, d) => uptoBulk d + 1
 end
def uptoSmall : (H : Type) → List (DataW H) → Bool := fun _ ds => decide (uptoBulkAll ds ≤ 1048576)
def OpenSpec.upto (s : _root_.Go.ChangeSpec) : _root_.Go.OpenSpec := { _root_.Go.OpenSpec.ofChange s with cond := some uptoSmall }

/-- 'metronomelaw06.CbsRefills', WHERE WHAT IT READS IS OF BULK AT MOST 1048576: true; the input reads as it did. -/
def cbsRefillsUptoRow : OpenClaim := { program := "ytecfbhenljkaaaa", sum := "35607b8793177cf8e08c550ffeaaef35824ea065db5b9ac66191bd3b47d60b7b", func := "metronome/metronomelaw06.CbsRefills", spec := "cbsRefills", named := ["math/bits.divideError", "math/bits.overflowError"], apart := false, narrowed := true }
def CbsRefillsUptoSaid : Prop := cbsRefillsUptoRow.holds Try.pinned (OpenSpec.upto cbsRefillsSpec)

/-- 'metronomelaw06.CbsSpends', WHERE WHAT IT READS IS OF BULK AT MOST 1048576: true; the input reads as it did. -/
def cbsSpendsUptoRow : OpenClaim := { program := "ytecfbhenljkaaaa", sum := "35607b8793177cf8e08c550ffeaaef35824ea065db5b9ac66191bd3b47d60b7b", func := "metronome/metronomelaw06.CbsSpends", spec := "cbsSpends", named := ["math/bits.divideError", "math/bits.overflowError"], apart := false, narrowed := true }
def CbsSpendsUptoSaid : Prop := cbsSpendsUptoRow.holds Try.pinned (OpenSpec.upto cbsSpendsSpec)

/-- 'metronomelaw06.CbsLags', WHERE WHAT IT READS IS OF BULK AT MOST 1048576: true; the input reads as it did. -/
def cbsLagsUptoRow : OpenClaim := { program := "ytecfbhenljkaaaa", sum := "35607b8793177cf8e08c550ffeaaef35824ea065db5b9ac66191bd3b47d60b7b", func := "metronome/metronomelaw06.CbsLags", spec := "cbsLags", named := ["math/bits.divideError", "math/bits.overflowError"], apart := false, narrowed := true }
def CbsLagsUptoSaid : Prop := cbsLagsUptoRow.holds Try.pinned (OpenSpec.upto cbsLagsSpec)

/-- 'metronomelaw06.CbsOrder', WHERE WHAT IT READS IS OF BULK AT MOST 1048576: true; the input reads as it did. -/
def cbsOrderUptoRow : OpenClaim := { program := "ytecfbhenljkaaaa", sum := "35607b8793177cf8e08c550ffeaaef35824ea065db5b9ac66191bd3b47d60b7b", func := "metronome/metronomelaw06.CbsOrder", spec := "cbsOrder", unfollowed := true, recurses := true, named := ["math/bits.divideError", "math/bits.overflowError"], apart := false, narrowed := true }
def CbsOrderUptoSaid : Prop := cbsOrderUptoRow.holds Try.pinned (OpenSpec.upto cbsOrderSpec)

end Rows
end Go.Proofs.Ytecfbhenljkaaaa
