/-
  DERIVED. GIVEN WITH THE SEED: THE CARDS: each row of YtokfackbnnkbnaaDoorRows.lean that lists a variable, with what it lists TIED to the program's text (the seventh form; the later family's looks); each row that meets fmt, with fmt's text TOLD by the authors' own Lean function (tested against real Go, not proved from fmt's source: count such statements apart). THE CARD IS WHAT COUNTS. Prove the row's statement (the work); the ties are given (YtokfackbnnkbnaaDoorTie.lean); close each card by the builder's one call (the guide's Derived/Test/ToyasCard.lean, 'card_holds'). Laid BY PROGRAM, IN A SANDBOX (cutbox-door.mjs). By AI agents, Wed Nov 11 2026. No macro, syntax, notation, axiom, sorry.
-/
import Derived.Test.YtokfackbnnkbnaaDoorRows
import GoSem.ClaimSeven
namespace Go.Proofs.YtokfackbnnkbnaaDoor
namespace Rows

/-- THE TIED CARD OF 'maquettelaw19.AuditFound'. -/
def auditFoundCard : Claim7 := { stood := { row := auditFoundRow, standIns := [], harness := (true, "ea6c95db6be61d72cf8e71521b28fc5d788b6ed0d011c449f42ff7daf2254d64"), looks := true }, kinds := [], alts := [], laidByText := true, laidKinds := [.handle], laidTests := true, laidLooks := .later }
def AuditFoundCardSaid : Prop := Claim7.holds Tryd.pinned (.plain (OpenSpec.ofChange auditFoundSpec)) auditFoundCard

/-- THE SECOND FORM's CARD OF 'maquettelaw19.AuditFound'. -/
def auditFoundUptoCard : Claim7 := { stood := { row := auditFoundUptoRow, standIns := [], harness := (true, "ea6c95db6be61d72cf8e71521b28fc5d788b6ed0d011c449f42ff7daf2254d64"), looks := true }, kinds := [], alts := [], laidByText := true, laidKinds := [.handle], laidTests := true, laidLooks := .later }
def AuditFoundUptoCardSaid : Prop := Claim7.holds Tryd.pinned (.plain (OpenSpec.upto auditFoundSpec)) auditFoundUptoCard
end Rows
end Go.Proofs.YtokfackbnnkbnaaDoor
