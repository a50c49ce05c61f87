/-
  DERIVED. GIVEN WITH THE SEED: THE CARDS: each row of YteggkdlgailfoaaDoorRows.lean that lists a variable, with what it lists TIED to the program's text (the seventh form; the later family's looks); each row that meets fmt, with fmt's text TOLD by the authors' own Lean function (tested against real Go, not proved from fmt's source: count such statements apart). THE CARD IS WHAT COUNTS. Prove the row's statement (the work); the ties are given (YteggkdlgailfoaaDoorTie.lean); close each card by the builder's one call (the guide's Derived/Test/ToyasCard.lean, 'card_holds'). Laid BY PROGRAM, IN A SANDBOX (cutbox-door.mjs). By AI agents, Wed Nov 11 2026. No macro, syntax, notation, axiom, sorry.
-/
import Derived.Test.YteggkdlgailfoaaDoorRows
import GoSem.ClaimSeven
namespace Go.Proofs.YteggkdlgailfoaaDoor
namespace Rows

/-- THE TIED CARD OF 'metronomelaw22.ScriptPrints'. -/
def scriptPrintsCard : Claim7 := { stood := { row := scriptPrintsRow, standIns := [], harness := (true, "cf71a2284f0e6773e4268fa1b92ac55b7bf57caecbb3fcf4f7a0cee866a03bde"), looks := true }, kinds := [], alts := [], laidByText := true, laidKinds := [.data, .data, .data, .data, .sentinel, .sentinel, .pinned], laidTests := true, laidLooks := .later }
def ScriptPrintsCardSaid : Prop := Claim7.holds Tryd.pinned (.plain (OpenSpec.ofChange scriptPrintsSpec)) scriptPrintsCard

/-- THE TIED CARD OF 'metronomelaw22.ScriptBack'. -/
def scriptBackCard : Claim7 := { stood := { row := scriptBackRow, standIns := [], harness := (true, "cf71a2284f0e6773e4268fa1b92ac55b7bf57caecbb3fcf4f7a0cee866a03bde"), looks := true }, kinds := [], alts := [], laidByText := true, laidKinds := [.data, .data, .data, .data, .sentinel, .sentinel, .pinned], laidTests := true, laidLooks := .later }
def ScriptBackCardSaid : Prop := Claim7.holds Tryd.pinned (.plain (OpenSpec.ofChange scriptBackSpec)) scriptBackCard

/-- THE TIED CARD OF 'metronomelaw22.ScriptConfigs'. -/
def scriptConfigsCard : Claim7 := { stood := { row := scriptConfigsRow, standIns := [], harness := (true, "cf71a2284f0e6773e4268fa1b92ac55b7bf57caecbb3fcf4f7a0cee866a03bde"), looks := true }, kinds := [], alts := [], laidByText := true, laidKinds := [.data, .data, .data, .data, .sentinel, .sentinel, .pinned], laidTests := true, laidLooks := .later }
def ScriptConfigsCardSaid : Prop := Claim7.holds Tryd.pinned (.plain (OpenSpec.ofChange scriptConfigsSpec)) scriptConfigsCard

/-- THE SECOND FORM's CARD OF 'metronomelaw22.ScriptPrints'. -/
def scriptPrintsUptoCard : Claim7 := { stood := { row := scriptPrintsUptoRow, standIns := [], harness := (true, "cf71a2284f0e6773e4268fa1b92ac55b7bf57caecbb3fcf4f7a0cee866a03bde"), looks := true }, kinds := [], alts := [], laidByText := true, laidKinds := [.data, .data, .data, .data, .sentinel, .sentinel, .pinned], laidTests := true, laidLooks := .later }
def ScriptPrintsUptoCardSaid : Prop := Claim7.holds Tryd.pinned (.plain (OpenSpec.upto scriptPrintsSpec)) scriptPrintsUptoCard

/-- THE SECOND FORM's CARD OF 'metronomelaw22.ScriptBack'. -/
def scriptBackUptoCard : Claim7 := { stood := { row := scriptBackUptoRow, standIns := [], harness := (true, "cf71a2284f0e6773e4268fa1b92ac55b7bf57caecbb3fcf4f7a0cee866a03bde"), looks := true }, kinds := [], alts := [], laidByText := true, laidKinds := [.data, .data, .data, .data, .sentinel, .sentinel, .pinned], laidTests := true, laidLooks := .later }
def ScriptBackUptoCardSaid : Prop := Claim7.holds Tryd.pinned (.plain (OpenSpec.upto scriptBackSpec)) scriptBackUptoCard

/-- THE SECOND FORM's CARD OF 'metronomelaw22.ScriptConfigs'. -/
def scriptConfigsUptoCard : Claim7 := { stood := { row := scriptConfigsUptoRow, standIns := [], harness := (true, "cf71a2284f0e6773e4268fa1b92ac55b7bf57caecbb3fcf4f7a0cee866a03bde"), looks := true }, kinds := [], alts := [], laidByText := true, laidKinds := [.data, .data, .data, .data, .sentinel, .sentinel, .pinned], laidTests := true, laidLooks := .later }
def ScriptConfigsUptoCardSaid : Prop := Claim7.holds Tryd.pinned (.plain (OpenSpec.upto scriptConfigsSpec)) scriptConfigsUptoCard
end Rows
end Go.Proofs.YteggkdlgailfoaaDoor
