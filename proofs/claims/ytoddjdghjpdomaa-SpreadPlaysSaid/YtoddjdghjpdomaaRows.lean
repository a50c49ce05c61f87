/-
  No cell of these rows narrows 'for every input' (looked for: loops, veiled, ifaces, maps, wideKeys, modest, calm, conditions, laid).
  DERIVED. THE GIVEN ROWS OF THIS SEAT. 5 by the template 'for every input the law returns true; each argument reads behind the call as it read before'; 0 by the template 'total and deterministic' (their statements: YtoddjdghjpdomaaTotals.lean).
  GIVEN WITH THE SEED: the statements are not yours to turn. If you find one false, say at which input.
  Laid BY PROGRAM, IN A SANDBOX (cutbox-rows.mjs): the forced cells as the released guide's own fill.sh prints them over the translation 8bd55f939937805e… (all of the seat's roots in one cut). By AI agents, Wed Nov 11 2026. No macro, syntax, notation, axiom, sorry.
-/
import Derived.Test.YtoddjdghjpdomaaChecked
import GoSem.Claim
import GoSem.ClaimJoined
import GoSem.ClaimMapViews
import Derived.JoinedTies
import Derived.KernelRfl
namespace Go.Proofs.Ytoddjdghjpdomaa
/- THE CELL 'sum', in the pinned program and in every row, IS THE sha256 OF THE DUMP (.gsa) THAT YtoddjdghjpdomaaProg.lean LOADS. Nothing in Lean hashes anything: it is a label: what it is worth is what the hold of that sum in a sandbox is worth. -/
noncomputable def Try.pinned : Pinned := { name := "ytoddjdghjpdomaa", sum := "8bd55f939937805e841a36ba75d993a4fcb2c09f8b16e83f5adfe2649f392830", checked := Try.checked }
namespace Rows
def none {H : Type} : Left H := { results := [], args := [] }

/-- 'metronomelaw12.SpreadStays': WHATEVER THE INPUT: true; the input reads as it did. -/
def spreadStaysSpec : ChangeSpec := { name := "spreadStays", fn := fun _ => fun
  | [d1, d2, d3] => { results := [.lit (.bool true)], args := [d1, d2, d3] }
  | _ => none }
def spreadStaysRow : OpenClaim := { program := "ytoddjdghjpdomaa", sum := "8bd55f939937805e841a36ba75d993a4fcb2c09f8b16e83f5adfe2649f392830", func := "metronome/metronomelaw12.SpreadStays", spec := "spreadStays", inPlace := ["slices.overlaps[metronome/api.Key]"], unfollowed := true, recurses := true, apart := false }
def SpreadStaysSaid : Prop := spreadStaysRow.holds Try.pinned (OpenSpec.ofChange spreadStaysSpec)

/-- ITS FALSE NEIGHBOUR: 'it returns false'. Refute it at one input. -/
def spreadStaysWrong : ChangeSpec := { name := "spreadStays", fn := fun _ => fun
  | [d1, d2, d3] => { results := [.lit (.bool false)], args := [d1, d2, d3] }
  | _ => none }
def SpreadStaysWrongFalsely : Prop := spreadStaysRow.holds Try.pinned (OpenSpec.ofChange spreadStaysWrong)

/-- 'metronomelaw12.SpreadSame': WHATEVER THE INPUT: true; the input reads as it did. -/
def spreadSameSpec : ChangeSpec := { name := "spreadSame", fn := fun _ => fun
  | [d1, d2, d3] => { results := [.lit (.bool true)], args := [d1, d2, d3] }
  | _ => none }
def spreadSameRow : OpenClaim := { program := "ytoddjdghjpdomaa", sum := "8bd55f939937805e841a36ba75d993a4fcb2c09f8b16e83f5adfe2649f392830", func := "metronome/metronomelaw12.SpreadSame", spec := "spreadSame", inPlace := ["slices.overlaps[metronome/api.Key]"], unfollowed := true, recurses := true, apart := false }
def SpreadSameSaid : Prop := spreadSameRow.holds Try.pinned (OpenSpec.ofChange spreadSameSpec)

/-- ITS FALSE NEIGHBOUR: 'it returns false'. Refute it at one input. -/
def spreadSameWrong : ChangeSpec := { name := "spreadSame", fn := fun _ => fun
  | [d1, d2, d3] => { results := [.lit (.bool false)], args := [d1, d2, d3] }
  | _ => none }
def SpreadSameWrongFalsely : Prop := spreadSameRow.holds Try.pinned (OpenSpec.ofChange spreadSameWrong)

/-- 'metronomelaw12.SpreadLeast': WHATEVER THE INPUT: true; the input reads as it did. -/
def spreadLeastSpec : ChangeSpec := { name := "spreadLeast", fn := fun _ => fun
  | [d1, d2] => { results := [.lit (.bool true)], args := [d1, d2] }
  | _ => none }
def spreadLeastRow : OpenClaim := { program := "ytoddjdghjpdomaa", sum := "8bd55f939937805e841a36ba75d993a4fcb2c09f8b16e83f5adfe2649f392830", func := "metronome/metronomelaw12.SpreadLeast", spec := "spreadLeast", inPlace := ["slices.overlaps[metronome/api.Key]"], unfollowed := true, recurses := true, apart := false }
def SpreadLeastSaid : Prop := spreadLeastRow.holds Try.pinned (OpenSpec.ofChange spreadLeastSpec)

/-- ITS FALSE NEIGHBOUR: 'it returns false'. Refute it at one input. -/
def spreadLeastWrong : ChangeSpec := { name := "spreadLeast", fn := fun _ => fun
  | [d1, d2] => { results := [.lit (.bool false)], args := [d1, d2] }
  | _ => none }
def SpreadLeastWrongFalsely : Prop := spreadLeastRow.holds Try.pinned (OpenSpec.ofChange spreadLeastWrong)

/-- 'metronomelaw12.SpreadKeeps': WHATEVER THE INPUT: true; the input reads as it did. -/
def spreadKeepsSpec : ChangeSpec := { name := "spreadKeeps", fn := fun _ => fun
  | [d1, d2, d3] => { results := [.lit (.bool true)], args := [d1, d2, d3] }
  | _ => none }
def spreadKeepsRow : OpenClaim := { program := "ytoddjdghjpdomaa", sum := "8bd55f939937805e841a36ba75d993a4fcb2c09f8b16e83f5adfe2649f392830", func := "metronome/metronomelaw12.SpreadKeeps", spec := "spreadKeeps", inPlace := ["slices.overlaps[metronome/api.Key]"], unfollowed := true, recurses := true, apart := false }
def SpreadKeepsSaid : Prop := spreadKeepsRow.holds Try.pinned (OpenSpec.ofChange spreadKeepsSpec)

/-- ITS FALSE NEIGHBOUR: 'it returns false'. Refute it at one input. -/
def spreadKeepsWrong : ChangeSpec := { name := "spreadKeeps", fn := fun _ => fun
  | [d1, d2, d3] => { results := [.lit (.bool false)], args := [d1, d2, d3] }
  | _ => none }
def SpreadKeepsWrongFalsely : Prop := spreadKeepsRow.holds Try.pinned (OpenSpec.ofChange spreadKeepsWrong)

/-- 'metronomelaw12.SpreadPlays': WHATEVER THE INPUT: true; the input reads as it did. -/
def spreadPlaysSpec : ChangeSpec := { name := "spreadPlays", fn := fun _ => fun
  | [d1, d2] => { results := [.lit (.bool true)], args := [d1, d2] }
  | _ => none }
def spreadPlaysRow : OpenClaim := { program := "ytoddjdghjpdomaa", sum := "8bd55f939937805e841a36ba75d993a4fcb2c09f8b16e83f5adfe2649f392830", func := "metronome/metronomelaw12.SpreadPlays", spec := "spreadPlays", inPlace := ["slices.overlaps[metronome/api.Key]"], unfollowed := true, recurses := true, apart := false }
def SpreadPlaysSaid : Prop := spreadPlaysRow.holds Try.pinned (OpenSpec.ofChange spreadPlaysSpec)

/-- ITS FALSE NEIGHBOUR: 'it returns false'. Refute it at one input. -/
def spreadPlaysWrong : ChangeSpec := { name := "spreadPlays", fn := fun _ => fun
  | [d1, d2] => { results := [.lit (.bool false)], args := [d1, d2] }
  | _ => none }
def SpreadPlaysWrongFalsely : Prop := spreadPlaysRow.holds Try.pinned (OpenSpec.ofChange spreadPlaysWrong)

/- THE SECOND FORM. 'bulk': how many values and letters a reading holds, each counted each time it is reached (what is shared counts as often as it is met; a slice's spare places count too). A statement '..UptoSaid' is the law's where the arguments, and the package variables that the reading takes, are together of bulk at most 1048576: NARROWER than '..Said'. Prove '..Said' where nothing that the law and all that it calls make is longer than what came in: it says more and counts as full. Else prove '..UptoSaid'. A law counts once. -/
mutual
def uptoBulk {H : Type} : DataW H → Nat
  | .lit (.string bytes) => bytes.length + 1
  | .lit _ => 1
  | .nil => 1
  | .ptr d => uptoBulk d + 1
  | .slice elems spare => uptoBulkAll elems + uptoBulkAll spare + 1
  | .agg parts => uptoBulkAll parts + 1
  | .iface _ d => uptoBulk d + 1
  | .map entries => uptoBulkEntries entries + 1
  | .held _ => 1
def uptoBulkAll {H : Type} : List (DataW H) → Nat
  | [] => 0
  | d :: r => uptoBulk d + uptoBulkAll r
def uptoBulkEntries {H : Type} : List (Lit × DataW H) → Nat
  | [] => 0
  | x :: r => uptoBulkEntry x + uptoBulkEntries r
def uptoBulkEntry {H : Type} : Lit × DataW H → Nat
  | (.string bytes, d) => bytes.length + uptoBulk d + 1
  | (_, d) => uptoBulk d + 1
 end
def uptoSmall : (H : Type) → List (DataW H) → Bool := fun _ ds => decide (uptoBulkAll ds ≤ 1048576)
def OpenSpec.upto (s : _root_.Go.ChangeSpec) : _root_.Go.OpenSpec := { _root_.Go.OpenSpec.ofChange s with cond := some uptoSmall }

/-- 'metronomelaw12.SpreadStays', WHERE WHAT IT READS IS OF BULK AT MOST 1048576: true; the input reads as it did. -/
def spreadStaysUptoRow : OpenClaim := { program := "ytoddjdghjpdomaa", sum := "8bd55f939937805e841a36ba75d993a4fcb2c09f8b16e83f5adfe2649f392830", func := "metronome/metronomelaw12.SpreadStays", spec := "spreadStays", inPlace := ["slices.overlaps[metronome/api.Key]"], unfollowed := true, recurses := true, apart := false, narrowed := true }
def SpreadStaysUptoSaid : Prop := spreadStaysUptoRow.holds Try.pinned (OpenSpec.upto spreadStaysSpec)

/-- 'metronomelaw12.SpreadSame', WHERE WHAT IT READS IS OF BULK AT MOST 1048576: true; the input reads as it did. -/
def spreadSameUptoRow : OpenClaim := { program := "ytoddjdghjpdomaa", sum := "8bd55f939937805e841a36ba75d993a4fcb2c09f8b16e83f5adfe2649f392830", func := "metronome/metronomelaw12.SpreadSame", spec := "spreadSame", inPlace := ["slices.overlaps[metronome/api.Key]"], unfollowed := true, recurses := true, apart := false, narrowed := true }
def SpreadSameUptoSaid : Prop := spreadSameUptoRow.holds Try.pinned (OpenSpec.upto spreadSameSpec)

/-- 'metronomelaw12.SpreadLeast', WHERE WHAT IT READS IS OF BULK AT MOST 1048576: true; the input reads as it did. -/
def spreadLeastUptoRow : OpenClaim := { program := "ytoddjdghjpdomaa", sum := "8bd55f939937805e841a36ba75d993a4fcb2c09f8b16e83f5adfe2649f392830", func := "metronome/metronomelaw12.SpreadLeast", spec := "spreadLeast", inPlace := ["slices.overlaps[metronome/api.Key]"], unfollowed := true, recurses := true, apart := false, narrowed := true }
def SpreadLeastUptoSaid : Prop := spreadLeastUptoRow.holds Try.pinned (OpenSpec.upto spreadLeastSpec)

/-- 'metronomelaw12.SpreadKeeps', WHERE WHAT IT READS IS OF BULK AT MOST 1048576: true; the input reads as it did. -/
def spreadKeepsUptoRow : OpenClaim := { program := "ytoddjdghjpdomaa", sum := "8bd55f939937805e841a36ba75d993a4fcb2c09f8b16e83f5adfe2649f392830", func := "metronome/metronomelaw12.SpreadKeeps", spec := "spreadKeeps", inPlace := ["slices.overlaps[metronome/api.Key]"], unfollowed := true, recurses := true, apart := false, narrowed := true }
def SpreadKeepsUptoSaid : Prop := spreadKeepsUptoRow.holds Try.pinned (OpenSpec.upto spreadKeepsSpec)

/-- 'metronomelaw12.SpreadPlays', WHERE WHAT IT READS IS OF BULK AT MOST 1048576: true; the input reads as it did. -/
def spreadPlaysUptoRow : OpenClaim := { program := "ytoddjdghjpdomaa", sum := "8bd55f939937805e841a36ba75d993a4fcb2c09f8b16e83f5adfe2649f392830", func := "metronome/metronomelaw12.SpreadPlays", spec := "spreadPlays", inPlace := ["slices.overlaps[metronome/api.Key]"], unfollowed := true, recurses := true, apart := false, narrowed := true }
def SpreadPlaysUptoSaid : Prop := spreadPlaysUptoRow.holds Try.pinned (OpenSpec.upto spreadPlaysSpec)

end Rows
end Go.Proofs.Ytoddjdghjpdomaa
