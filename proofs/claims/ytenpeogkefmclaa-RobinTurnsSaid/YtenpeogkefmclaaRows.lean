/-
  No cell of these rows narrows 'for every input' (looked for: loops, veiled, ifaces, maps, wideKeys, modest, calm, conditions, laid).
  DERIVED. THE GIVEN ROWS OF THIS SEAT. 5 by the template 'for every input the law returns true; each argument reads behind the call as it read before'; 0 by the template 'total and deterministic' (their statements: YtenpeogkefmclaaTotals.lean).
  GIVEN WITH THE SEED: the statements are not yours to turn. If you find one false, say at which input.
  Laid BY PROGRAM, IN A SANDBOX (cutbox-rows.mjs): the forced cells as the released guide's own fill.sh prints them over the translation 71f01f5b99895203… (all of the seat's roots in one cut). By AI agents, Wed Nov 11 2026. No macro, syntax, notation, axiom, sorry.
-/
import Derived.Test.YtenpeogkefmclaaChecked
import GoSem.Claim
import GoSem.ClaimJoined
import GoSem.ClaimMapViews
import Derived.JoinedTies
import Derived.KernelRfl
namespace Go.Proofs.Ytenpeogkefmclaa
/- THE CELL 'sum', in the pinned program and in every row, IS THE sha256 OF THE DUMP (.gsa) THAT YtenpeogkefmclaaProg.lean LOADS. Nothing in Lean hashes anything: it is a label: what it is worth is what the hold of that sum in a sandbox is worth. -/
noncomputable def Try.pinned : Pinned := { name := "ytenpeogkefmclaa", sum := "71f01f5b9989520355687a1644162ab1d1c4391eaa82900869cd267a95ec32c5", checked := Try.checked }
namespace Rows
def none {H : Type} : Left H := { results := [], args := [] }

/-- 'metronomelaw13.RobinFair': WHATEVER THE INPUT: true; the input reads as it did. -/
def robinFairSpec : ChangeSpec := { name := "robinFair", fn := fun _ => fun
  | [d1, d2, d3] => { results := [.lit (.bool true)], args := [d1, d2, d3] }
  | _ => none }
def robinFairRow : OpenClaim := { program := "ytenpeogkefmclaa", sum := "71f01f5b9989520355687a1644162ab1d1c4391eaa82900869cd267a95ec32c5", func := "metronome/metronomelaw13.RobinFair", spec := "robinFair", unfollowed := true, recurses := true, apart := false }
def RobinFairSaid : Prop := robinFairRow.holds Try.pinned (OpenSpec.ofChange robinFairSpec)

/-- ITS FALSE NEIGHBOUR: 'it returns false'. Refute it at one input. -/
def robinFairWrong : ChangeSpec := { name := "robinFair", fn := fun _ => fun
  | [d1, d2, d3] => { results := [.lit (.bool false)], args := [d1, d2, d3] }
  | _ => none }
def RobinFairWrongFalsely : Prop := robinFairRow.holds Try.pinned (OpenSpec.ofChange robinFairWrong)

/-- 'metronomelaw13.RobinKeeps': WHATEVER THE INPUT: true; the input reads as it did. -/
def robinKeepsSpec : ChangeSpec := { name := "robinKeeps", fn := fun _ => fun
  | [d1, d2, d3] => { results := [.lit (.bool true)], args := [d1, d2, d3] }
  | _ => none }
def robinKeepsRow : OpenClaim := { program := "ytenpeogkefmclaa", sum := "71f01f5b9989520355687a1644162ab1d1c4391eaa82900869cd267a95ec32c5", func := "metronome/metronomelaw13.RobinKeeps", spec := "robinKeeps", unfollowed := true, recurses := true, apart := false }
def RobinKeepsSaid : Prop := robinKeepsRow.holds Try.pinned (OpenSpec.ofChange robinKeepsSpec)

/-- ITS FALSE NEIGHBOUR: 'it returns false'. Refute it at one input. -/
def robinKeepsWrong : ChangeSpec := { name := "robinKeeps", fn := fun _ => fun
  | [d1, d2, d3] => { results := [.lit (.bool false)], args := [d1, d2, d3] }
  | _ => none }
def RobinKeepsWrongFalsely : Prop := robinKeepsRow.holds Try.pinned (OpenSpec.ofChange robinKeepsWrong)

/-- 'metronomelaw13.RobinParts': WHATEVER THE INPUT: true; the input reads as it did. -/
def robinPartsSpec : ChangeSpec := { name := "robinParts", fn := fun _ => fun
  | [d1, d2, d3] => { results := [.lit (.bool true)], args := [d1, d2, d3] }
  | _ => none }
def robinPartsRow : OpenClaim := { program := "ytenpeogkefmclaa", sum := "71f01f5b9989520355687a1644162ab1d1c4391eaa82900869cd267a95ec32c5", func := "metronome/metronomelaw13.RobinParts", spec := "robinParts", unfollowed := true, recurses := true, apart := false }
def RobinPartsSaid : Prop := robinPartsRow.holds Try.pinned (OpenSpec.ofChange robinPartsSpec)

/-- ITS FALSE NEIGHBOUR: 'it returns false'. Refute it at one input. -/
def robinPartsWrong : ChangeSpec := { name := "robinParts", fn := fun _ => fun
  | [d1, d2, d3] => { results := [.lit (.bool false)], args := [d1, d2, d3] }
  | _ => none }
def RobinPartsWrongFalsely : Prop := robinPartsRow.holds Try.pinned (OpenSpec.ofChange robinPartsWrong)

/-- 'metronomelaw13.RobinTurns': WHATEVER THE INPUT: true; the input reads as it did. -/
def robinTurnsSpec : ChangeSpec := { name := "robinTurns", fn := fun _ => fun
  | [d1, d2, d3] => { results := [.lit (.bool true)], args := [d1, d2, d3] }
  | _ => none }
def robinTurnsRow : OpenClaim := { program := "ytenpeogkefmclaa", sum := "71f01f5b9989520355687a1644162ab1d1c4391eaa82900869cd267a95ec32c5", func := "metronome/metronomelaw13.RobinTurns", spec := "robinTurns", unfollowed := true, recurses := true, apart := false }
def RobinTurnsSaid : Prop := robinTurnsRow.holds Try.pinned (OpenSpec.ofChange robinTurnsSpec)

/-- ITS FALSE NEIGHBOUR: 'it returns false'. Refute it at one input. -/
def robinTurnsWrong : ChangeSpec := { name := "robinTurns", fn := fun _ => fun
  | [d1, d2, d3] => { results := [.lit (.bool false)], args := [d1, d2, d3] }
  | _ => none }
def RobinTurnsWrongFalsely : Prop := robinTurnsRow.holds Try.pinned (OpenSpec.ofChange robinTurnsWrong)

/-- 'metronomelaw13.RobinDrops': WHATEVER THE INPUT: true; the input reads as it did. -/
def robinDropsSpec : ChangeSpec := { name := "robinDrops", fn := fun _ => fun
  | [d1, d2] => { results := [.lit (.bool true)], args := [d1, d2] }
  | _ => none }
def robinDropsRow : OpenClaim := { program := "ytenpeogkefmclaa", sum := "71f01f5b9989520355687a1644162ab1d1c4391eaa82900869cd267a95ec32c5", func := "metronome/metronomelaw13.RobinDrops", spec := "robinDrops", unfollowed := true, recurses := true, apart := false }
def RobinDropsSaid : Prop := robinDropsRow.holds Try.pinned (OpenSpec.ofChange robinDropsSpec)

/-- ITS FALSE NEIGHBOUR: 'it returns false'. Refute it at one input. -/
def robinDropsWrong : ChangeSpec := { name := "robinDrops", fn := fun _ => fun
  | [d1, d2] => { results := [.lit (.bool false)], args := [d1, d2] }
  | _ => none }
def RobinDropsWrongFalsely : Prop := robinDropsRow.holds Try.pinned (OpenSpec.ofChange robinDropsWrong)

/- THE SECOND FORM. 'bulk': how many values and letters a reading holds, each counted each time it is reached (what is shared counts as often as it is met; a slice's spare places count too). A statement '..UptoSaid' is the law's where the arguments, and the package variables that the reading takes, are together of bulk at most 1048576: NARROWER than '..Said'. Prove '..Said' where nothing that the law and all that it calls make is longer than what came in: it says more and counts as full. Else prove '..UptoSaid'. A law counts once. -/
mutual
def uptoBulk {H : Type} : DataW H → Nat
  | .lit (.string bytes) => bytes.length + 1
  | .lit _ => 1
  | .nil => 1
  | .ptr d => uptoBulk d + 1
  | .slice elems spare => uptoBulkAll elems + uptoBulkAll spare + 1
  | .agg parts => uptoBulkAll parts + 1
  | .iface _ d => uptoBulk d + 1
  | .map entries => uptoBulkEntries entries + 1
  | .held _ => 1
def uptoBulkAll {H : Type} : List (DataW H) → Nat
  | [] => 0
  | d :: r => uptoBulk d + uptoBulkAll r
def uptoBulkEntries {H : Type} : List (Lit × DataW H) → Nat
  | [] => 0
  | x :: r => uptoBulkEntry x + uptoBulkEntries r
def uptoBulkEntry {H : Type} : Lit × DataW H → Nat
  | (.string bytes, d) => bytes.length + uptoBulk d + 1
  | (_, d) => uptoBulk d + 1
 end
def uptoSmall : (H : Type) → List (DataW H) → Bool := fun _ ds => decide (uptoBulkAll ds ≤ 1048576)
def OpenSpec.upto (s : _root_.Go.ChangeSpec) : _root_.Go.OpenSpec := { _root_.Go.OpenSpec.ofChange s with cond := some uptoSmall }

/-- 'metronomelaw13.RobinFair', WHERE WHAT IT READS IS OF BULK AT MOST 1048576: true; the input reads as it did. -/
def robinFairUptoRow : OpenClaim := { program := "ytenpeogkefmclaa", sum := "71f01f5b9989520355687a1644162ab1d1c4391eaa82900869cd267a95ec32c5", func := "metronome/metronomelaw13.RobinFair", spec := "robinFair", unfollowed := true, recurses := true, apart := false, narrowed := true }
def RobinFairUptoSaid : Prop := robinFairUptoRow.holds Try.pinned (OpenSpec.upto robinFairSpec)

/-- 'metronomelaw13.RobinKeeps', WHERE WHAT IT READS IS OF BULK AT MOST 1048576: true; the input reads as it did. -/
def robinKeepsUptoRow : OpenClaim := { program := "ytenpeogkefmclaa", sum := "71f01f5b9989520355687a1644162ab1d1c4391eaa82900869cd267a95ec32c5", func := "metronome/metronomelaw13.RobinKeeps", spec := "robinKeeps", unfollowed := true, recurses := true, apart := false, narrowed := true }
def RobinKeepsUptoSaid : Prop := robinKeepsUptoRow.holds Try.pinned (OpenSpec.upto robinKeepsSpec)

/-- 'metronomelaw13.RobinParts', WHERE WHAT IT READS IS OF BULK AT MOST 1048576: true; the input reads as it did. -/
def robinPartsUptoRow : OpenClaim := { program := "ytenpeogkefmclaa", sum := "71f01f5b9989520355687a1644162ab1d1c4391eaa82900869cd267a95ec32c5", func := "metronome/metronomelaw13.RobinParts", spec := "robinParts", unfollowed := true, recurses := true, apart := false, narrowed := true }
def RobinPartsUptoSaid : Prop := robinPartsUptoRow.holds Try.pinned (OpenSpec.upto robinPartsSpec)

/-- 'metronomelaw13.RobinTurns', WHERE WHAT IT READS IS OF BULK AT MOST 1048576: true; the input reads as it did. -/
def robinTurnsUptoRow : OpenClaim := { program := "ytenpeogkefmclaa", sum := "71f01f5b9989520355687a1644162ab1d1c4391eaa82900869cd267a95ec32c5", func := "metronome/metronomelaw13.RobinTurns", spec := "robinTurns", unfollowed := true, recurses := true, apart := false, narrowed := true }
def RobinTurnsUptoSaid : Prop := robinTurnsUptoRow.holds Try.pinned (OpenSpec.upto robinTurnsSpec)

/-- 'metronomelaw13.RobinDrops', WHERE WHAT IT READS IS OF BULK AT MOST 1048576: true; the input reads as it did. -/
def robinDropsUptoRow : OpenClaim := { program := "ytenpeogkefmclaa", sum := "71f01f5b9989520355687a1644162ab1d1c4391eaa82900869cd267a95ec32c5", func := "metronome/metronomelaw13.RobinDrops", spec := "robinDrops", unfollowed := true, recurses := true, apart := false, narrowed := true }
def RobinDropsUptoSaid : Prop := robinDropsUptoRow.holds Try.pinned (OpenSpec.upto robinDropsSpec)

end Rows
end Go.Proofs.Ytenpeogkefmclaa
