/-
  DERIVED. GIVEN WITH THE SEED: THE CARDS: each row of YteaiikmijhikpaaGreatDoorRows.lean that lists a variable, with what it lists TIED to the program's text (the seventh form; the later family's looks); each row that meets fmt, with fmt's text TOLD by the authors' own Lean function (tested against real Go, not proved from fmt's source: count such statements apart). THE CARD IS WHAT COUNTS. Prove the row's statement (the work); the ties are given (YteaiikmijhikpaaGreatDoorTie.lean); close each card by the builder's one call (the guide's Derived/Test/ToyasCard.lean, 'card_holds'). Laid BY PROGRAM, IN A SANDBOX (cutbox-door.mjs). By AI agents, Wed Nov 11 2026. No macro, syntax, notation, axiom, sorry.
-/
import Derived.Test.YteaiikmijhikpaaGreatDoorRows
import GoSem.ClaimSeven
namespace Go.Proofs.YteaiikmijhikpaaGreatDoor
namespace Rows

/-- THE TIED CARD OF 'compositorlaw29.RealTermRejects'. -/
def realTermRejectsCard : Claim7 := { stood := { row := realTermRejectsRow, standIns := [], harness := (true, "59a9bbd5b530f4e847b20eb832b9f72e55083cecb86e93c69d96dc6c6e9fa37b"), looks := false }, kinds := [], alts := [], laidByText := true, laidKinds := [.data, .data], laidTests := true, laidLooks := .later }
def RealTermRejectsCardSaid : Prop := Claim7.holds Tryz.pinned (.plain (OpenSpec.ofChange realTermRejectsSpec)) realTermRejectsCard

/-- THE TIED CARD OF 'compositorlaw29.RealEvalErrors'. -/
def realEvalErrorsCard : Claim7 := { stood := { row := realEvalErrorsRow, standIns := [], harness := (true, "59a9bbd5b530f4e847b20eb832b9f72e55083cecb86e93c69d96dc6c6e9fa37b"), looks := false }, kinds := [], alts := [], laidByText := true, laidKinds := [.data, .data], laidTests := true, laidLooks := .later }
def RealEvalErrorsCardSaid : Prop := Claim7.holds Tryz.pinned (.plain (OpenSpec.ofChange realEvalErrorsSpec)) realEvalErrorsCard

/-- THE TIED CARD OF 'compositorlaw29.RealEvalMeetsTheReference'. -/
def realEvalMeetsTheReferenceCard : Claim7 := { stood := { row := realEvalMeetsTheReferenceRow, standIns := [], harness := (true, "59a9bbd5b530f4e847b20eb832b9f72e55083cecb86e93c69d96dc6c6e9fa37b"), looks := false }, kinds := [], alts := [], laidByText := true, laidKinds := [.data, .data], laidTests := true, laidLooks := .later }
def RealEvalMeetsTheReferenceCardSaid : Prop := Claim7.holds Tryz.pinned (.plain (OpenSpec.ofChange realEvalMeetsTheReferenceSpec)) realEvalMeetsTheReferenceCard

/-- THE TIED CARD OF 'compositorlaw29.RealEvalIsNarrow'. -/
def realEvalIsNarrowCard : Claim7 := { stood := { row := realEvalIsNarrowRow, standIns := [], harness := (true, "59a9bbd5b530f4e847b20eb832b9f72e55083cecb86e93c69d96dc6c6e9fa37b"), looks := false }, kinds := [], alts := [], laidByText := true, laidKinds := [.data, .data], laidTests := true, laidLooks := .later }
def RealEvalIsNarrowCardSaid : Prop := Claim7.holds Tryz.pinned (.plain (OpenSpec.ofChange realEvalIsNarrowSpec)) realEvalIsNarrowCard

/-- THE TIED CARD OF 'compositorlaw29.RealTermEncloses'. -/
def realTermEnclosesCard : Claim7 := { stood := { row := realTermEnclosesRow, standIns := [], harness := (true, "59a9bbd5b530f4e847b20eb832b9f72e55083cecb86e93c69d96dc6c6e9fa37b"), looks := false }, kinds := [], alts := [], laidByText := true, laidKinds := [.data, .data], laidTests := true, laidLooks := .later }
def RealTermEnclosesCardSaid : Prop := Claim7.holds Tryz.pinned (.plain (OpenSpec.ofChange realTermEnclosesSpec)) realTermEnclosesCard

/-- THE TIED CARD OF 'compositorlaw29.RealTermOfIntervals'. -/
def realTermOfIntervalsCard : Claim7 := { stood := { row := realTermOfIntervalsRow, standIns := [], harness := (true, "59a9bbd5b530f4e847b20eb832b9f72e55083cecb86e93c69d96dc6c6e9fa37b"), looks := false }, kinds := [], alts := [], laidByText := true, laidKinds := [.data, .data], laidTests := true, laidLooks := .later }
def RealTermOfIntervalsCardSaid : Prop := Claim7.holds Tryz.pinned (.plain (OpenSpec.ofChange realTermOfIntervalsSpec)) realTermOfIntervalsCard

/-- THE SECOND FORM's CARD OF 'compositorlaw29.RealTermRejects'. -/
def realTermRejectsUptoCard : Claim7 := { stood := { row := realTermRejectsUptoRow, standIns := [], harness := (true, "59a9bbd5b530f4e847b20eb832b9f72e55083cecb86e93c69d96dc6c6e9fa37b"), looks := false }, kinds := [], alts := [], laidByText := true, laidKinds := [.data, .data], laidTests := true, laidLooks := .later }
def RealTermRejectsUptoCardSaid : Prop := Claim7.holds Tryz.pinned (.plain (OpenSpec.upto realTermRejectsSpec)) realTermRejectsUptoCard

/-- THE SECOND FORM's CARD OF 'compositorlaw29.RealEvalErrors'. -/
def realEvalErrorsUptoCard : Claim7 := { stood := { row := realEvalErrorsUptoRow, standIns := [], harness := (true, "59a9bbd5b530f4e847b20eb832b9f72e55083cecb86e93c69d96dc6c6e9fa37b"), looks := false }, kinds := [], alts := [], laidByText := true, laidKinds := [.data, .data], laidTests := true, laidLooks := .later }
def RealEvalErrorsUptoCardSaid : Prop := Claim7.holds Tryz.pinned (.plain (OpenSpec.upto realEvalErrorsSpec)) realEvalErrorsUptoCard

/-- THE SECOND FORM's CARD OF 'compositorlaw29.RealEvalMeetsTheReference'. -/
def realEvalMeetsTheReferenceUptoCard : Claim7 := { stood := { row := realEvalMeetsTheReferenceUptoRow, standIns := [], harness := (true, "59a9bbd5b530f4e847b20eb832b9f72e55083cecb86e93c69d96dc6c6e9fa37b"), looks := false }, kinds := [], alts := [], laidByText := true, laidKinds := [.data, .data], laidTests := true, laidLooks := .later }
def RealEvalMeetsTheReferenceUptoCardSaid : Prop := Claim7.holds Tryz.pinned (.plain (OpenSpec.upto realEvalMeetsTheReferenceSpec)) realEvalMeetsTheReferenceUptoCard

/-- THE SECOND FORM's CARD OF 'compositorlaw29.RealEvalIsNarrow'. -/
def realEvalIsNarrowUptoCard : Claim7 := { stood := { row := realEvalIsNarrowUptoRow, standIns := [], harness := (true, "59a9bbd5b530f4e847b20eb832b9f72e55083cecb86e93c69d96dc6c6e9fa37b"), looks := false }, kinds := [], alts := [], laidByText := true, laidKinds := [.data, .data], laidTests := true, laidLooks := .later }
def RealEvalIsNarrowUptoCardSaid : Prop := Claim7.holds Tryz.pinned (.plain (OpenSpec.upto realEvalIsNarrowSpec)) realEvalIsNarrowUptoCard

/-- THE SECOND FORM's CARD OF 'compositorlaw29.RealTermEncloses'. -/
def realTermEnclosesUptoCard : Claim7 := { stood := { row := realTermEnclosesUptoRow, standIns := [], harness := (true, "59a9bbd5b530f4e847b20eb832b9f72e55083cecb86e93c69d96dc6c6e9fa37b"), looks := false }, kinds := [], alts := [], laidByText := true, laidKinds := [.data, .data], laidTests := true, laidLooks := .later }
def RealTermEnclosesUptoCardSaid : Prop := Claim7.holds Tryz.pinned (.plain (OpenSpec.upto realTermEnclosesSpec)) realTermEnclosesUptoCard

/-- THE SECOND FORM's CARD OF 'compositorlaw29.RealTermOfIntervals'. -/
def realTermOfIntervalsUptoCard : Claim7 := { stood := { row := realTermOfIntervalsUptoRow, standIns := [], harness := (true, "59a9bbd5b530f4e847b20eb832b9f72e55083cecb86e93c69d96dc6c6e9fa37b"), looks := false }, kinds := [], alts := [], laidByText := true, laidKinds := [.data, .data], laidTests := true, laidLooks := .later }
def RealTermOfIntervalsUptoCardSaid : Prop := Claim7.holds Tryz.pinned (.plain (OpenSpec.upto realTermOfIntervalsSpec)) realTermOfIntervalsUptoCard
end Rows
end Go.Proofs.YteaiikmijhikpaaGreatDoor
