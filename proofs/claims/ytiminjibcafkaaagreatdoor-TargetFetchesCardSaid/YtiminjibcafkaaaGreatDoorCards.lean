/-
  DERIVED. GIVEN WITH THE SEED: THE CARDS: each row of YtiminjibcafkaaaGreatDoorRows.lean that lists a variable, with what it lists TIED to the program's text (the seventh form; the later family's looks); each row that meets fmt, with fmt's text TOLD by the authors' own Lean function (tested against real Go, not proved from fmt's source: count such statements apart). THE CARD IS WHAT COUNTS. Prove the row's statement (the work); the ties are given (YtiminjibcafkaaaGreatDoorTie.lean); close each card by the builder's one call (the guide's Derived/Test/ToyasCard.lean, 'card_holds'). Laid BY PROGRAM, IN A SANDBOX (cutbox-door.mjs). By AI agents, Wed Nov 11 2026. No macro, syntax, notation, axiom, sorry.
-/
import Derived.Test.YtiminjibcafkaaaGreatDoorRows
import GoSem.ClaimSeven
namespace Go.Proofs.YtiminjibcafkaaaGreatDoor
namespace Rows

/-- THE TIED CARD OF 'tidingslaw07.TargetAccepts'. -/
def targetAcceptsCard : Claim7 := { stood := { row := targetAcceptsRow, standIns := [], harness := (true, "601c2dfa79600d9bb7a7f24cc320459877c9c983119369fc95b7a21c56105218"), looks := true }, kinds := [], alts := [], laidByText := true, laidKinds := [.handle], laidTests := true, laidLooks := .later }
def TargetAcceptsCardSaid : Prop := Claim7.holds Tryz.pinned (.plain (OpenSpec.ofChange targetAcceptsSpec)) targetAcceptsCard

/-- THE TIED CARD OF 'tidingslaw07.TargetBegins'. -/
def targetBeginsCard : Claim7 := { stood := { row := targetBeginsRow, standIns := [], harness := (true, "601c2dfa79600d9bb7a7f24cc320459877c9c983119369fc95b7a21c56105218"), looks := true }, kinds := [], alts := [], laidByText := true, laidKinds := [.handle], laidTests := true, laidLooks := .later }
def TargetBeginsCardSaid : Prop := Claim7.holds Tryz.pinned (.plain (OpenSpec.ofChange targetBeginsSpec)) targetBeginsCard

/-- THE TIED CARD OF 'tidingslaw07.TargetFetches'. -/
def targetFetchesCard : Claim7 := { stood := { row := targetFetchesRow, standIns := [], harness := (true, "601c2dfa79600d9bb7a7f24cc320459877c9c983119369fc95b7a21c56105218"), looks := true }, kinds := [], alts := [], laidByText := true, laidKinds := [.handle], laidTests := true, laidLooks := .later }
def TargetFetchesCardSaid : Prop := Claim7.holds Tryz.pinned (.plain (OpenSpec.ofChange targetFetchesSpec)) targetFetchesCard

/-- THE SECOND FORM's CARD OF 'tidingslaw07.TargetAccepts'. -/
def targetAcceptsUptoCard : Claim7 := { stood := { row := targetAcceptsUptoRow, standIns := [], harness := (true, "601c2dfa79600d9bb7a7f24cc320459877c9c983119369fc95b7a21c56105218"), looks := true }, kinds := [], alts := [], laidByText := true, laidKinds := [.handle], laidTests := true, laidLooks := .later }
def TargetAcceptsUptoCardSaid : Prop := Claim7.holds Tryz.pinned (.plain (OpenSpec.upto targetAcceptsSpec)) targetAcceptsUptoCard

/-- THE SECOND FORM's CARD OF 'tidingslaw07.TargetBegins'. -/
def targetBeginsUptoCard : Claim7 := { stood := { row := targetBeginsUptoRow, standIns := [], harness := (true, "601c2dfa79600d9bb7a7f24cc320459877c9c983119369fc95b7a21c56105218"), looks := true }, kinds := [], alts := [], laidByText := true, laidKinds := [.handle], laidTests := true, laidLooks := .later }
def TargetBeginsUptoCardSaid : Prop := Claim7.holds Tryz.pinned (.plain (OpenSpec.upto targetBeginsSpec)) targetBeginsUptoCard

/-- THE SECOND FORM's CARD OF 'tidingslaw07.TargetFetches'. -/
def targetFetchesUptoCard : Claim7 := { stood := { row := targetFetchesUptoRow, standIns := [], harness := (true, "601c2dfa79600d9bb7a7f24cc320459877c9c983119369fc95b7a21c56105218"), looks := true }, kinds := [], alts := [], laidByText := true, laidKinds := [.handle], laidTests := true, laidLooks := .later }
def TargetFetchesUptoCardSaid : Prop := Claim7.holds Tryz.pinned (.plain (OpenSpec.upto targetFetchesSpec)) targetFetchesUptoCard
end Rows
end Go.Proofs.YtiminjibcafkaaaGreatDoor
