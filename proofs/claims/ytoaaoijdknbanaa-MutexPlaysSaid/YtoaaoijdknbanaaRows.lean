/-
  No cell of these rows narrows 'for every input' (looked for: loops, veiled, ifaces, maps, wideKeys, modest, calm, conditions, laid).
  DERIVED. THE GIVEN ROWS OF THIS SEAT. 5 by the template 'for every input the law returns true; each argument reads behind the call as it read before'; 0 by the template 'total and deterministic' (their statements: YtoaaoijdknbanaaTotals.lean).
  GIVEN WITH THE SEED: the statements are not yours to turn. If you find one false, say at which input.
  Laid BY PROGRAM, IN A SANDBOX (cutbox-rows.mjs): the forced cells as the released guide's own fill.sh prints them over the translation ab0caa0fc4394bbe… (all of the seat's roots in one cut). By AI agents, Wed Nov 11 2026. No macro, syntax, notation, axiom, sorry.
-/
import Derived.Test.YtoaaoijdknbanaaChecked
import GoSem.Claim
import GoSem.ClaimJoined
import GoSem.ClaimMapViews
import Derived.JoinedTies
import Derived.KernelRfl
namespace Go.Proofs.Ytoaaoijdknbanaa
/- THE CELL 'sum', in the pinned program and in every row, IS THE sha256 OF THE DUMP (.gsa) THAT YtoaaoijdknbanaaProg.lean LOADS. Nothing in Lean hashes anything: it is a label: what it is worth is what the hold of that sum in a sandbox is worth. -/
noncomputable def Try.pinned : Pinned := { name := "ytoaaoijdknbanaa", sum := "ab0caa0fc4394bbe78079d2a3d8df4f602496c07f9966f8548ff6b457905dd79", checked := Try.checked }
namespace Rows
def none {H : Type} : Left H := { results := [], args := [] }

/-- 'metronomelaw14.MutexKeeps': WHATEVER THE INPUT: true; the input reads as it did. -/
def mutexKeepsSpec : ChangeSpec := { name := "mutexKeeps", fn := fun _ => fun
  | [d1, d2] => { results := [.lit (.bool true)], args := [d1, d2] }
  | _ => none }
def mutexKeepsRow : OpenClaim := { program := "ytoaaoijdknbanaa", sum := "ab0caa0fc4394bbe78079d2a3d8df4f602496c07f9966f8548ff6b457905dd79", func := "metronome/metronomelaw14.MutexKeeps", spec := "mutexKeeps", inPlace := ["slices.overlaps[metronome/api.Key]"], unfollowed := true, recurses := true, apart := false }
def MutexKeepsSaid : Prop := mutexKeepsRow.holds Try.pinned (OpenSpec.ofChange mutexKeepsSpec)

/-- ITS FALSE NEIGHBOUR: 'it returns false'. Refute it at one input. -/
def mutexKeepsWrong : ChangeSpec := { name := "mutexKeeps", fn := fun _ => fun
  | [d1, d2] => { results := [.lit (.bool false)], args := [d1, d2] }
  | _ => none }
def MutexKeepsWrongFalsely : Prop := mutexKeepsRow.holds Try.pinned (OpenSpec.ofChange mutexKeepsWrong)

/-- 'metronomelaw14.MutexOne': WHATEVER THE INPUT: true; the input reads as it did. -/
def mutexOneSpec : ChangeSpec := { name := "mutexOne", fn := fun _ => fun
  | [d] => { results := [.lit (.bool true)], args := [d] }
  | _ => none }
def mutexOneRow : OpenClaim := { program := "ytoaaoijdknbanaa", sum := "ab0caa0fc4394bbe78079d2a3d8df4f602496c07f9966f8548ff6b457905dd79", func := "metronome/metronomelaw14.MutexOne", spec := "mutexOne", inPlace := ["slices.overlaps[metronome/api.Key]"], unfollowed := true, recurses := true, apart := false }
def MutexOneSaid : Prop := mutexOneRow.holds Try.pinned (OpenSpec.ofChange mutexOneSpec)

/-- ITS FALSE NEIGHBOUR: 'it returns false'. Refute it at one input. -/
def mutexOneWrong : ChangeSpec := { name := "mutexOne", fn := fun _ => fun
  | [d] => { results := [.lit (.bool false)], args := [d] }
  | _ => none }
def MutexOneWrongFalsely : Prop := mutexOneRow.holds Try.pinned (OpenSpec.ofChange mutexOneWrong)

/-- 'metronomelaw14.MutexHands': WHATEVER THE INPUT: true; the input reads as it did. -/
def mutexHandsSpec : ChangeSpec := { name := "mutexHands", fn := fun _ => fun
  | [d1, d2] => { results := [.lit (.bool true)], args := [d1, d2] }
  | _ => none }
def mutexHandsRow : OpenClaim := { program := "ytoaaoijdknbanaa", sum := "ab0caa0fc4394bbe78079d2a3d8df4f602496c07f9966f8548ff6b457905dd79", func := "metronome/metronomelaw14.MutexHands", spec := "mutexHands", inPlace := ["slices.overlaps[metronome/api.Key]"], unfollowed := true, recurses := true, apart := false }
def MutexHandsSaid : Prop := mutexHandsRow.holds Try.pinned (OpenSpec.ofChange mutexHandsSpec)

/-- ITS FALSE NEIGHBOUR: 'it returns false'. Refute it at one input. -/
def mutexHandsWrong : ChangeSpec := { name := "mutexHands", fn := fun _ => fun
  | [d1, d2] => { results := [.lit (.bool false)], args := [d1, d2] }
  | _ => none }
def MutexHandsWrongFalsely : Prop := mutexHandsRow.holds Try.pinned (OpenSpec.ofChange mutexHandsWrong)

/-- 'metronomelaw14.MutexQuits': WHATEVER THE INPUT: true; the input reads as it did. -/
def mutexQuitsSpec : ChangeSpec := { name := "mutexQuits", fn := fun _ => fun
  | [d1, d2] => { results := [.lit (.bool true)], args := [d1, d2] }
  | _ => none }
def mutexQuitsRow : OpenClaim := { program := "ytoaaoijdknbanaa", sum := "ab0caa0fc4394bbe78079d2a3d8df4f602496c07f9966f8548ff6b457905dd79", func := "metronome/metronomelaw14.MutexQuits", spec := "mutexQuits", inPlace := ["slices.overlaps[metronome/api.Key]"], unfollowed := true, recurses := true, apart := false }
def MutexQuitsSaid : Prop := mutexQuitsRow.holds Try.pinned (OpenSpec.ofChange mutexQuitsSpec)

/-- ITS FALSE NEIGHBOUR: 'it returns false'. Refute it at one input. -/
def mutexQuitsWrong : ChangeSpec := { name := "mutexQuits", fn := fun _ => fun
  | [d1, d2] => { results := [.lit (.bool false)], args := [d1, d2] }
  | _ => none }
def MutexQuitsWrongFalsely : Prop := mutexQuitsRow.holds Try.pinned (OpenSpec.ofChange mutexQuitsWrong)

/-- 'metronomelaw14.MutexPlays': WHATEVER THE INPUT: true; the input reads as it did. -/
def mutexPlaysSpec : ChangeSpec := { name := "mutexPlays", fn := fun _ => fun
  | [d1, d2] => { results := [.lit (.bool true)], args := [d1, d2] }
  | _ => none }
def mutexPlaysRow : OpenClaim := { program := "ytoaaoijdknbanaa", sum := "ab0caa0fc4394bbe78079d2a3d8df4f602496c07f9966f8548ff6b457905dd79", func := "metronome/metronomelaw14.MutexPlays", spec := "mutexPlays", inPlace := ["slices.overlaps[metronome/api.Key]"], unfollowed := true, recurses := true, apart := false }
def MutexPlaysSaid : Prop := mutexPlaysRow.holds Try.pinned (OpenSpec.ofChange mutexPlaysSpec)

/-- ITS FALSE NEIGHBOUR: 'it returns false'. Refute it at one input. -/
def mutexPlaysWrong : ChangeSpec := { name := "mutexPlays", fn := fun _ => fun
  | [d1, d2] => { results := [.lit (.bool false)], args := [d1, d2] }
  | _ => none }
def MutexPlaysWrongFalsely : Prop := mutexPlaysRow.holds Try.pinned (OpenSpec.ofChange mutexPlaysWrong)

/- THE SECOND FORM. 'bulk': how many values and letters a reading holds, each counted each time it is reached (what is shared counts as often as it is met; a slice's spare places count too). A statement '..UptoSaid' is the law's where the arguments, and the package variables that the reading takes, are together of bulk at most 1048576: NARROWER than '..Said'. Prove '..Said' where nothing that the law and all that it calls make is longer than what came in: it says more and counts as full. Else prove '..UptoSaid'. A law counts once. -/
mutual
def uptoBulk {H : Type} : DataW H → Nat
  | .lit (.string bytes) => bytes.length + 1
  | .lit _ => 1
  | .nil => 1
  | .ptr d => uptoBulk d + 1
  | .slice elems spare => uptoBulkAll elems + uptoBulkAll spare + 1
  | .agg parts => uptoBulkAll parts + 1
  | .iface _ d => uptoBulk d + 1
  | .map entries => uptoBulkEntries entries + 1
  | .held _ => 1
def uptoBulkAll {H : Type} : List (DataW H) → Nat
  | [] => 0
  | d :: r => uptoBulk d + uptoBulkAll r
def uptoBulkEntries {H : Type} : List (Lit × DataW H) → Nat
  | [] => 0
  | x :: r => uptoBulkEntry x + uptoBulkEntries r
def uptoBulkEntry {H : Type} : Lit × DataW H → Nat
  | (.string bytes, d) => bytes.length + uptoBulk d + 1
  | (_, d) => uptoBulk d + 1
 end
def uptoSmall : (H : Type) → List (DataW H) → Bool := fun _ ds => decide (uptoBulkAll ds ≤ 1048576)
def OpenSpec.upto (s : _root_.Go.ChangeSpec) : _root_.Go.OpenSpec := { _root_.Go.OpenSpec.ofChange s with cond := some uptoSmall }

/-- 'metronomelaw14.MutexKeeps', WHERE WHAT IT READS IS OF BULK AT MOST 1048576: true; the input reads as it did. -/
def mutexKeepsUptoRow : OpenClaim := { program := "ytoaaoijdknbanaa", sum := "ab0caa0fc4394bbe78079d2a3d8df4f602496c07f9966f8548ff6b457905dd79", func := "metronome/metronomelaw14.MutexKeeps", spec := "mutexKeeps", inPlace := ["slices.overlaps[metronome/api.Key]"], unfollowed := true, recurses := true, apart := false, narrowed := true }
def MutexKeepsUptoSaid : Prop := mutexKeepsUptoRow.holds Try.pinned (OpenSpec.upto mutexKeepsSpec)

/-- 'metronomelaw14.MutexOne', WHERE WHAT IT READS IS OF BULK AT MOST 1048576: true; the input reads as it did. -/
def mutexOneUptoRow : OpenClaim := { program := "ytoaaoijdknbanaa", sum := "ab0caa0fc4394bbe78079d2a3d8df4f602496c07f9966f8548ff6b457905dd79", func := "metronome/metronomelaw14.MutexOne", spec := "mutexOne", inPlace := ["slices.overlaps[metronome/api.Key]"], unfollowed := true, recurses := true, apart := false, narrowed := true }
def MutexOneUptoSaid : Prop := mutexOneUptoRow.holds Try.pinned (OpenSpec.upto mutexOneSpec)

/-- 'metronomelaw14.MutexHands', WHERE WHAT IT READS IS OF BULK AT MOST 1048576: true; the input reads as it did. -/
def mutexHandsUptoRow : OpenClaim := { program := "ytoaaoijdknbanaa", sum := "ab0caa0fc4394bbe78079d2a3d8df4f602496c07f9966f8548ff6b457905dd79", func := "metronome/metronomelaw14.MutexHands", spec := "mutexHands", inPlace := ["slices.overlaps[metronome/api.Key]"], unfollowed := true, recurses := true, apart := false, narrowed := true }
def MutexHandsUptoSaid : Prop := mutexHandsUptoRow.holds Try.pinned (OpenSpec.upto mutexHandsSpec)

/-- 'metronomelaw14.MutexQuits', WHERE WHAT IT READS IS OF BULK AT MOST 1048576: true; the input reads as it did. -/
def mutexQuitsUptoRow : OpenClaim := { program := "ytoaaoijdknbanaa", sum := "ab0caa0fc4394bbe78079d2a3d8df4f602496c07f9966f8548ff6b457905dd79", func := "metronome/metronomelaw14.MutexQuits", spec := "mutexQuits", inPlace := ["slices.overlaps[metronome/api.Key]"], unfollowed := true, recurses := true, apart := false, narrowed := true }
def MutexQuitsUptoSaid : Prop := mutexQuitsUptoRow.holds Try.pinned (OpenSpec.upto mutexQuitsSpec)

/-- 'metronomelaw14.MutexPlays', WHERE WHAT IT READS IS OF BULK AT MOST 1048576: true; the input reads as it did. -/
def mutexPlaysUptoRow : OpenClaim := { program := "ytoaaoijdknbanaa", sum := "ab0caa0fc4394bbe78079d2a3d8df4f602496c07f9966f8548ff6b457905dd79", func := "metronome/metronomelaw14.MutexPlays", spec := "mutexPlays", inPlace := ["slices.overlaps[metronome/api.Key]"], unfollowed := true, recurses := true, apart := false, narrowed := true }
def MutexPlaysUptoSaid : Prop := mutexPlaysUptoRow.holds Try.pinned (OpenSpec.upto mutexPlaysSpec)

end Rows
end Go.Proofs.Ytoaaoijdknbanaa
