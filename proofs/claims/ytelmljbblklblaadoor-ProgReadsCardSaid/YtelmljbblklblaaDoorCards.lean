/-
  DERIVED. GIVEN WITH THE SEED: THE CARDS: each row of YtelmljbblklblaaDoorRows.lean that lists a variable, with what it lists TIED to the program's text (the seventh form; the later family's looks); each row that meets fmt, with fmt's text TOLD by the authors' own Lean function (tested against real Go, not proved from fmt's source: count such statements apart). THE CARD IS WHAT COUNTS. Prove the row's statement (the work); the ties are given (YtelmljbblklblaaDoorTie.lean); close each card by the builder's one call (the guide's Derived/Test/ToyasCard.lean, 'card_holds'). Laid BY PROGRAM, IN A SANDBOX (cutbox-door.mjs). By AI agents, Wed Nov 11 2026. No macro, syntax, notation, axiom, sorry.
-/
import Derived.Test.YtelmljbblklblaaDoorRows
import GoSem.ClaimSeven
namespace Go.Proofs.YtelmljbblklblaaDoor
namespace Rows

/-- THE TIED CARD OF 'metronomelaw16.ProgChecks'. -/
def progChecksCard : Claim7 := { stood := { row := progChecksRow, standIns := [], harness := (true, "f92560a58273a42bce1937f86dd63e8b3b481fce39f12dd3ff6fe12a09cb3642"), looks := true }, kinds := [], alts := [], laidByText := true, laidKinds := [.data, .data, .data], laidTests := true, laidLooks := .later }
def ProgChecksCardSaid : Prop := Claim7.holds Tryd.pinned (.plain (OpenSpec.ofChange progChecksSpec)) progChecksCard

/-- THE TIED CARD OF 'metronomelaw16.ProgJoins'. -/
def progJoinsCard : Claim7 := { stood := { row := progJoinsRow, standIns := [], harness := (true, "f92560a58273a42bce1937f86dd63e8b3b481fce39f12dd3ff6fe12a09cb3642"), looks := true }, kinds := [], alts := [], laidByText := true, laidKinds := [.data, .data, .data], laidTests := true, laidLooks := .later }
def ProgJoinsCardSaid : Prop := Claim7.holds Tryd.pinned (.plain (OpenSpec.ofChange progJoinsSpec)) progJoinsCard

/-- THE TIED CARD OF 'metronomelaw16.ProgCounts'. -/
def progCountsCard : Claim7 := { stood := { row := progCountsRow, standIns := [], harness := (true, "f92560a58273a42bce1937f86dd63e8b3b481fce39f12dd3ff6fe12a09cb3642"), looks := true }, kinds := [], alts := [], laidByText := true, laidKinds := [.data, .data, .data], laidTests := true, laidLooks := .later }
def ProgCountsCardSaid : Prop := Claim7.holds Tryd.pinned (.plain (OpenSpec.ofChange progCountsSpec)) progCountsCard

/-- THE TIED CARD OF 'metronomelaw16.ProgHolds'. -/
def progHoldsCard : Claim7 := { stood := { row := progHoldsRow, standIns := [], harness := (true, "f92560a58273a42bce1937f86dd63e8b3b481fce39f12dd3ff6fe12a09cb3642"), looks := true }, kinds := [], alts := [], laidByText := true, laidKinds := [.data, .data, .data], laidTests := true, laidLooks := .later }
def ProgHoldsCardSaid : Prop := Claim7.holds Tryd.pinned (.plain (OpenSpec.ofChange progHoldsSpec)) progHoldsCard

/-- THE TIED CARD OF 'metronomelaw16.ProgReads'. -/
def progReadsCard : Claim7 := { stood := { row := progReadsRow, standIns := [], harness := (true, "f92560a58273a42bce1937f86dd63e8b3b481fce39f12dd3ff6fe12a09cb3642"), looks := true }, kinds := [], alts := [], laidByText := true, laidKinds := [.data, .data, .data, .sentinel, .sentinel], laidTests := true, laidLooks := .later }
def ProgReadsCardSaid : Prop := Claim7.holds Tryd.pinned (.plain (OpenSpec.ofChange progReadsSpec)) progReadsCard

/-- THE TIED CARD OF 'metronomelaw16.ProgBack'. -/
def progBackCard : Claim7 := { stood := { row := progBackRow, standIns := [], harness := (true, "f92560a58273a42bce1937f86dd63e8b3b481fce39f12dd3ff6fe12a09cb3642"), looks := true }, kinds := [], alts := [], laidByText := true, laidKinds := [.data, .data, .data, .sentinel, .sentinel], laidTests := true, laidLooks := .later }
def ProgBackCardSaid : Prop := Claim7.holds Tryd.pinned (.plain (OpenSpec.ofChange progBackSpec)) progBackCard

/-- THE SECOND FORM's CARD OF 'metronomelaw16.ProgChecks'. -/
def progChecksUptoCard : Claim7 := { stood := { row := progChecksUptoRow, standIns := [], harness := (true, "f92560a58273a42bce1937f86dd63e8b3b481fce39f12dd3ff6fe12a09cb3642"), looks := true }, kinds := [], alts := [], laidByText := true, laidKinds := [.data, .data, .data], laidTests := true, laidLooks := .later }
def ProgChecksUptoCardSaid : Prop := Claim7.holds Tryd.pinned (.plain (OpenSpec.upto progChecksSpec)) progChecksUptoCard

/-- THE SECOND FORM's CARD OF 'metronomelaw16.ProgJoins'. -/
def progJoinsUptoCard : Claim7 := { stood := { row := progJoinsUptoRow, standIns := [], harness := (true, "f92560a58273a42bce1937f86dd63e8b3b481fce39f12dd3ff6fe12a09cb3642"), looks := true }, kinds := [], alts := [], laidByText := true, laidKinds := [.data, .data, .data], laidTests := true, laidLooks := .later }
def ProgJoinsUptoCardSaid : Prop := Claim7.holds Tryd.pinned (.plain (OpenSpec.upto progJoinsSpec)) progJoinsUptoCard

/-- THE SECOND FORM's CARD OF 'metronomelaw16.ProgCounts'. -/
def progCountsUptoCard : Claim7 := { stood := { row := progCountsUptoRow, standIns := [], harness := (true, "f92560a58273a42bce1937f86dd63e8b3b481fce39f12dd3ff6fe12a09cb3642"), looks := true }, kinds := [], alts := [], laidByText := true, laidKinds := [.data, .data, .data], laidTests := true, laidLooks := .later }
def ProgCountsUptoCardSaid : Prop := Claim7.holds Tryd.pinned (.plain (OpenSpec.upto progCountsSpec)) progCountsUptoCard

/-- THE SECOND FORM's CARD OF 'metronomelaw16.ProgHolds'. -/
def progHoldsUptoCard : Claim7 := { stood := { row := progHoldsUptoRow, standIns := [], harness := (true, "f92560a58273a42bce1937f86dd63e8b3b481fce39f12dd3ff6fe12a09cb3642"), looks := true }, kinds := [], alts := [], laidByText := true, laidKinds := [.data, .data, .data], laidTests := true, laidLooks := .later }
def ProgHoldsUptoCardSaid : Prop := Claim7.holds Tryd.pinned (.plain (OpenSpec.upto progHoldsSpec)) progHoldsUptoCard

/-- THE SECOND FORM's CARD OF 'metronomelaw16.ProgReads'. -/
def progReadsUptoCard : Claim7 := { stood := { row := progReadsUptoRow, standIns := [], harness := (true, "f92560a58273a42bce1937f86dd63e8b3b481fce39f12dd3ff6fe12a09cb3642"), looks := true }, kinds := [], alts := [], laidByText := true, laidKinds := [.data, .data, .data, .sentinel, .sentinel], laidTests := true, laidLooks := .later }
def ProgReadsUptoCardSaid : Prop := Claim7.holds Tryd.pinned (.plain (OpenSpec.upto progReadsSpec)) progReadsUptoCard

/-- THE SECOND FORM's CARD OF 'metronomelaw16.ProgBack'. -/
def progBackUptoCard : Claim7 := { stood := { row := progBackUptoRow, standIns := [], harness := (true, "f92560a58273a42bce1937f86dd63e8b3b481fce39f12dd3ff6fe12a09cb3642"), looks := true }, kinds := [], alts := [], laidByText := true, laidKinds := [.data, .data, .data, .sentinel, .sentinel], laidTests := true, laidLooks := .later }
def ProgBackUptoCardSaid : Prop := Claim7.holds Tryd.pinned (.plain (OpenSpec.upto progBackSpec)) progBackUptoCard
end Rows
end Go.Proofs.YtelmljbblklblaaDoor
