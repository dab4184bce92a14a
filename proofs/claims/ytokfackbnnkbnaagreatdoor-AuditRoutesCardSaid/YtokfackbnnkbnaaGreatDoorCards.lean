/-
  DERIVED. GIVEN WITH THE SEED: THE CARDS: each row of YtokfackbnnkbnaaGreatDoorRows.lean that lists a variable, with what it lists TIED to the program's text (the seventh form; the later family's looks); each row that meets fmt, with fmt's text TOLD by the authors' own Lean function (tested against real Go, not proved from fmt's source: count such statements apart). THE CARD IS WHAT COUNTS. Prove the row's statement (the work); the ties are given (YtokfackbnnkbnaaGreatDoorTie.lean); close each card by the builder's one call (the guide's Derived/Test/ToyasCard.lean, 'card_holds'). Laid BY PROGRAM, IN A SANDBOX (cutbox-door.mjs). By AI agents, Wed Nov 11 2026. No macro, syntax, notation, axiom, sorry.
-/
import Derived.Test.YtokfackbnnkbnaaGreatDoorRows
import GoSem.ClaimSeven
namespace Go.Proofs.YtokfackbnnkbnaaGreatDoor
namespace Rows

/-- THE TIED CARD OF 'maquettelaw19.AuditRoutes'. -/
def auditRoutesCard : Claim7 := { stood := { row := auditRoutesRow, standIns := [], harness := (true, "fbcfc76bc857cae51a43183d5d572aa8afcd596af6cb971b0e555aa7e417a569"), looks := true }, kinds := [], alts := [], laidByText := true, laidKinds := [.handle], laidTests := true, laidLooks := .later }
def AuditRoutesCardSaid : Prop := Claim7.holds Tryz.pinned (.plain (OpenSpec.ofChange auditRoutesSpec)) auditRoutesCard

/-- THE SECOND FORM's CARD OF 'maquettelaw19.AuditRoutes'. -/
def auditRoutesUptoCard : Claim7 := { stood := { row := auditRoutesUptoRow, standIns := [], harness := (true, "fbcfc76bc857cae51a43183d5d572aa8afcd596af6cb971b0e555aa7e417a569"), looks := true }, kinds := [], alts := [], laidByText := true, laidKinds := [.handle], laidTests := true, laidLooks := .later }
def AuditRoutesUptoCardSaid : Prop := Claim7.holds Tryz.pinned (.plain (OpenSpec.upto auditRoutesSpec)) auditRoutesUptoCard
end Rows
end Go.Proofs.YtokfackbnnkbnaaGreatDoor
