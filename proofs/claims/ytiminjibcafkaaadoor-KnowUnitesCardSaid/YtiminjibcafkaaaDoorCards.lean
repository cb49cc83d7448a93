/-
  DERIVED. GIVEN WITH THE SEED: THE CARDS: each row of YtiminjibcafkaaaDoorRows.lean that lists a variable, with what it lists TIED to the program's text (the seventh form; the later family's looks); each row that meets fmt, with fmt's text TOLD by the authors' own Lean function (tested against real Go, not proved from fmt's source: count such statements apart). THE CARD IS WHAT COUNTS. Prove the row's statement (the work); the ties are given (YtiminjibcafkaaaDoorTie.lean); close each card by the builder's one call (the guide's Derived/Test/ToyasCard.lean, 'card_holds'). Laid BY PROGRAM, IN A SANDBOX (cutbox-door.mjs). By AI agents, Wed Nov 11 2026. No macro, syntax, notation, axiom, sorry.
-/
import Derived.Test.YtiminjibcafkaaaDoorRows
import GoSem.ClaimSeven
namespace Go.Proofs.YtiminjibcafkaaaDoor
namespace Rows

/-- THE TIED CARD OF 'tidingslaw02.ItemTakes'. -/
def itemTakesCard : Claim7 := { stood := { row := itemTakesRow, standIns := [], harness := (true, "7e415f07c0114132ff331e0a4b31648a6950aa7043e9e5578b3b456b38324092"), looks := true }, kinds := [], alts := [], laidByText := true, laidKinds := [.handle], laidTests := true, laidLooks := .later }
def ItemTakesCardSaid : Prop := Claim7.holds Tryd.pinned (.plain (OpenSpec.ofChange itemTakesSpec)) itemTakesCard

/-- THE TIED CARD OF 'tidingslaw01.KnowTells'. -/
def knowTellsCard : Claim7 := { stood := { row := knowTellsRow, standIns := [], harness := (true, "7e415f07c0114132ff331e0a4b31648a6950aa7043e9e5578b3b456b38324092"), looks := true }, kinds := [], alts := [], laidByText := true, laidKinds := [.handle], laidTests := true, laidLooks := .later }
def KnowTellsCardSaid : Prop := Claim7.holds Tryd.pinned (.plain (OpenSpec.ofChange knowTellsSpec)) knowTellsCard

/-- THE TIED CARD OF 'tidingslaw01.KnowUnites'. -/
def knowUnitesCard : Claim7 := { stood := { row := knowUnitesRow, standIns := [], harness := (true, "7e415f07c0114132ff331e0a4b31648a6950aa7043e9e5578b3b456b38324092"), looks := true }, kinds := [], alts := [], laidByText := true, laidKinds := [.handle], laidTests := true, laidLooks := .later }
def KnowUnitesCardSaid : Prop := Claim7.holds Tryd.pinned (.plain (OpenSpec.ofChange knowUnitesSpec)) knowUnitesCard

/-- THE TIED CARD OF 'tidingslaw01.KnowLaws'. -/
def knowLawsCard : Claim7 := { stood := { row := knowLawsRow, standIns := [], harness := (true, "7e415f07c0114132ff331e0a4b31648a6950aa7043e9e5578b3b456b38324092"), looks := true }, kinds := [], alts := [], laidByText := true, laidKinds := [.handle], laidTests := true, laidLooks := .later }
def KnowLawsCardSaid : Prop := Claim7.holds Tryd.pinned (.plain (OpenSpec.ofChange knowLawsSpec)) knowLawsCard

/-- THE SECOND FORM's CARD OF 'tidingslaw02.ItemTakes'. -/
def itemTakesUptoCard : Claim7 := { stood := { row := itemTakesUptoRow, standIns := [], harness := (true, "7e415f07c0114132ff331e0a4b31648a6950aa7043e9e5578b3b456b38324092"), looks := true }, kinds := [], alts := [], laidByText := true, laidKinds := [.handle], laidTests := true, laidLooks := .later }
def ItemTakesUptoCardSaid : Prop := Claim7.holds Tryd.pinned (.plain (OpenSpec.upto itemTakesSpec)) itemTakesUptoCard

/-- THE SECOND FORM's CARD OF 'tidingslaw01.KnowTells'. -/
def knowTellsUptoCard : Claim7 := { stood := { row := knowTellsUptoRow, standIns := [], harness := (true, "7e415f07c0114132ff331e0a4b31648a6950aa7043e9e5578b3b456b38324092"), looks := true }, kinds := [], alts := [], laidByText := true, laidKinds := [.handle], laidTests := true, laidLooks := .later }
def KnowTellsUptoCardSaid : Prop := Claim7.holds Tryd.pinned (.plain (OpenSpec.upto knowTellsSpec)) knowTellsUptoCard

/-- THE SECOND FORM's CARD OF 'tidingslaw01.KnowUnites'. -/
def knowUnitesUptoCard : Claim7 := { stood := { row := knowUnitesUptoRow, standIns := [], harness := (true, "7e415f07c0114132ff331e0a4b31648a6950aa7043e9e5578b3b456b38324092"), looks := true }, kinds := [], alts := [], laidByText := true, laidKinds := [.handle], laidTests := true, laidLooks := .later }
def KnowUnitesUptoCardSaid : Prop := Claim7.holds Tryd.pinned (.plain (OpenSpec.upto knowUnitesSpec)) knowUnitesUptoCard

/-- THE SECOND FORM's CARD OF 'tidingslaw01.KnowLaws'. -/
def knowLawsUptoCard : Claim7 := { stood := { row := knowLawsUptoRow, standIns := [], harness := (true, "7e415f07c0114132ff331e0a4b31648a6950aa7043e9e5578b3b456b38324092"), looks := true }, kinds := [], alts := [], laidByText := true, laidKinds := [.handle], laidTests := true, laidLooks := .later }
def KnowLawsUptoCardSaid : Prop := Claim7.holds Tryd.pinned (.plain (OpenSpec.upto knowLawsSpec)) knowLawsUptoCard
end Rows
end Go.Proofs.YtiminjibcafkaaaDoor
