/-
  DERIVED. GIVEN WITH THE SEED: THE CARDS: each row of YtgkkaimcchlnaaaDoorRows.lean that lists a variable, with what it lists TIED to the program's text (the seventh form; the later family's looks); each row that meets fmt, with fmt's text TOLD by the authors' own Lean function (tested against real Go, not proved from fmt's source: count such statements apart). THE CARD IS WHAT COUNTS. Prove the row's statement (the work); the ties are given (YtgkkaimcchlnaaaDoorTie.lean); close each card by the builder's one call (the guide's Derived/Test/ToyasCard.lean, 'card_holds'). Laid BY PROGRAM, IN A SANDBOX (cutbox-door.mjs). By AI agents, Wed Nov 11 2026. No macro, syntax, notation, axiom, sorry.
-/
import Derived.Test.YtgkkaimcchlnaaaDoorRows
import GoSem.ClaimSeven
namespace Go.Proofs.YtgkkaimcchlnaaaDoor
namespace Rows

/-- THE TIED CARD OF 'maquettelaw18.QuotientOf'. -/
def quotientOfCard : Claim7 := { stood := { row := quotientOfRow, standIns := [], harness := (true, "53607547666e39e76639e0849620cd27d2a4bc16d024ae968c59ecd0c8d6c3ab"), looks := true }, kinds := [], alts := [], laidByText := true, laidKinds := [.handle], laidTests := true, laidLooks := .later }
def QuotientOfCardSaid : Prop := Claim7.holds Tryd.pinned (.plain (OpenSpec.ofChange quotientOfSpec)) quotientOfCard

/-- THE SECOND FORM's CARD OF 'maquettelaw18.QuotientOf'. -/
def quotientOfUptoCard : Claim7 := { stood := { row := quotientOfUptoRow, standIns := [], harness := (true, "53607547666e39e76639e0849620cd27d2a4bc16d024ae968c59ecd0c8d6c3ab"), looks := true }, kinds := [], alts := [], laidByText := true, laidKinds := [.handle], laidTests := true, laidLooks := .later }
def QuotientOfUptoCardSaid : Prop := Claim7.holds Tryd.pinned (.plain (OpenSpec.upto quotientOfSpec)) quotientOfUptoCard
end Rows
end Go.Proofs.YtgkkaimcchlnaaaDoor
