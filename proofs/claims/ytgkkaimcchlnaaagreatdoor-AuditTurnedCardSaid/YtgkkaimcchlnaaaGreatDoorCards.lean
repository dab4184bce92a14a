/-
  DERIVED. GIVEN WITH THE SEED: THE CARDS: each row of YtgkkaimcchlnaaaGreatDoorRows.lean that lists a variable, with what it lists TIED to the program's text (the seventh form; the later family's looks); each row that meets fmt, with fmt's text TOLD by the authors' own Lean function (tested against real Go, not proved from fmt's source: count such statements apart). THE CARD IS WHAT COUNTS. Prove the row's statement (the work); the ties are given (YtgkkaimcchlnaaaGreatDoorTie.lean); close each card by the builder's one call (the guide's Derived/Test/ToyasCard.lean, 'card_holds'). Laid BY PROGRAM, IN A SANDBOX (cutbox-door.mjs). By AI agents, Wed Nov 11 2026. No macro, syntax, notation, axiom, sorry.
-/
import Derived.Test.YtgkkaimcchlnaaaGreatDoorRows
import GoSem.ClaimSeven
namespace Go.Proofs.YtgkkaimcchlnaaaGreatDoor
namespace Rows

/-- THE TIED CARD OF 'maquettetop.TopLearns'. -/
def topLearnsCard : Claim7 := { stood := { row := topLearnsRow, standIns := [], harness := (true, "ec4244303355c6b3377dc84df5d3f6f2544324ba28775de97d45d931d81f6387"), looks := true }, kinds := [], alts := [], goes := true, laidByText := true, laidKinds := [.data, .data, .data, .data, .sentinel, .sentinel, .pinned], laidTests := true, laidLooks := .later }
def TopLearnsCardSaid : Prop := Claim7.holds Tryz.pinned (.plain (OpenSpec.ofChange topLearnsSpec)) topLearnsCard

/-- THE TIED CARD OF 'maquettetop.TopTwice'. -/
def topTwiceCard : Claim7 := { stood := { row := topTwiceRow, standIns := [], harness := (true, "ec4244303355c6b3377dc84df5d3f6f2544324ba28775de97d45d931d81f6387"), looks := true }, kinds := [], alts := [], goes := true, laidByText := true, laidKinds := [.data, .data, .data, .data, .sentinel, .sentinel, .pinned], laidTests := true, laidLooks := .later }
def TopTwiceCardSaid : Prop := Claim7.holds Tryz.pinned (.plain (OpenSpec.ofChange topTwiceSpec)) topTwiceCard

/-- THE TIED CARD OF 'maquettetop.TopAsked'. -/
def topAskedCard : Claim7 := { stood := { row := topAskedRow, standIns := [], harness := (true, "ec4244303355c6b3377dc84df5d3f6f2544324ba28775de97d45d931d81f6387"), looks := true }, kinds := [], alts := [], goes := true, laidByText := true, laidKinds := [.data, .data, .data, .data, .sentinel, .sentinel, .pinned], laidTests := true, laidLooks := .later }
def TopAskedCardSaid : Prop := Claim7.holds Tryz.pinned (.plain (OpenSpec.ofChange topAskedSpec)) topAskedCard

/-- THE TIED CARD OF 'maquettelaw19.AuditTurned'. -/
def auditTurnedCard : Claim7 := { stood := { row := auditTurnedRow, standIns := [], harness := (true, "ec4244303355c6b3377dc84df5d3f6f2544324ba28775de97d45d931d81f6387"), looks := true }, kinds := [], alts := [], goes := true, laidByText := true, laidKinds := [.handle], laidTests := true, laidLooks := .later }
def AuditTurnedCardSaid : Prop := Claim7.holds Tryz.pinned (.plain (OpenSpec.ofChange auditTurnedSpec)) auditTurnedCard

/-- THE TIED CARD OF 'maquettetop.TopDown'. -/
def topDownCard : Claim7 := { stood := { row := topDownRow, standIns := [], harness := (true, "ec4244303355c6b3377dc84df5d3f6f2544324ba28775de97d45d931d81f6387"), looks := true }, kinds := [], alts := [], goes := true, laidByText := true, laidKinds := [.data, .data, .data, .data, .sentinel, .sentinel, .pinned], laidTests := true, laidLooks := .later }
def TopDownCardSaid : Prop := Claim7.holds Tryz.pinned (.plain (OpenSpec.ofChange topDownSpec)) topDownCard

/-- THE SECOND FORM's CARD OF 'maquettetop.TopLearns'. -/
def topLearnsUptoCard : Claim7 := { stood := { row := topLearnsUptoRow, standIns := [], harness := (true, "ec4244303355c6b3377dc84df5d3f6f2544324ba28775de97d45d931d81f6387"), looks := true }, kinds := [], alts := [], goes := true, laidByText := true, laidKinds := [.data, .data, .data, .data, .sentinel, .sentinel, .pinned], laidTests := true, laidLooks := .later }
def TopLearnsUptoCardSaid : Prop := Claim7.holds Tryz.pinned (.plain (OpenSpec.upto topLearnsSpec)) topLearnsUptoCard

/-- THE SECOND FORM's CARD OF 'maquettetop.TopTwice'. -/
def topTwiceUptoCard : Claim7 := { stood := { row := topTwiceUptoRow, standIns := [], harness := (true, "ec4244303355c6b3377dc84df5d3f6f2544324ba28775de97d45d931d81f6387"), looks := true }, kinds := [], alts := [], goes := true, laidByText := true, laidKinds := [.data, .data, .data, .data, .sentinel, .sentinel, .pinned], laidTests := true, laidLooks := .later }
def TopTwiceUptoCardSaid : Prop := Claim7.holds Tryz.pinned (.plain (OpenSpec.upto topTwiceSpec)) topTwiceUptoCard

/-- THE SECOND FORM's CARD OF 'maquettetop.TopAsked'. -/
def topAskedUptoCard : Claim7 := { stood := { row := topAskedUptoRow, standIns := [], harness := (true, "ec4244303355c6b3377dc84df5d3f6f2544324ba28775de97d45d931d81f6387"), looks := true }, kinds := [], alts := [], goes := true, laidByText := true, laidKinds := [.data, .data, .data, .data, .sentinel, .sentinel, .pinned], laidTests := true, laidLooks := .later }
def TopAskedUptoCardSaid : Prop := Claim7.holds Tryz.pinned (.plain (OpenSpec.upto topAskedSpec)) topAskedUptoCard

/-- THE SECOND FORM's CARD OF 'maquettelaw19.AuditTurned'. -/
def auditTurnedUptoCard : Claim7 := { stood := { row := auditTurnedUptoRow, standIns := [], harness := (true, "ec4244303355c6b3377dc84df5d3f6f2544324ba28775de97d45d931d81f6387"), looks := true }, kinds := [], alts := [], goes := true, laidByText := true, laidKinds := [.handle], laidTests := true, laidLooks := .later }
def AuditTurnedUptoCardSaid : Prop := Claim7.holds Tryz.pinned (.plain (OpenSpec.upto auditTurnedSpec)) auditTurnedUptoCard

/-- THE SECOND FORM's CARD OF 'maquettetop.TopDown'. -/
def topDownUptoCard : Claim7 := { stood := { row := topDownUptoRow, standIns := [], harness := (true, "ec4244303355c6b3377dc84df5d3f6f2544324ba28775de97d45d931d81f6387"), looks := true }, kinds := [], alts := [], goes := true, laidByText := true, laidKinds := [.data, .data, .data, .data, .sentinel, .sentinel, .pinned], laidTests := true, laidLooks := .later }
def TopDownUptoCardSaid : Prop := Claim7.holds Tryz.pinned (.plain (OpenSpec.upto topDownSpec)) topDownUptoCard
end Rows
end Go.Proofs.YtgkkaimcchlnaaaGreatDoor
