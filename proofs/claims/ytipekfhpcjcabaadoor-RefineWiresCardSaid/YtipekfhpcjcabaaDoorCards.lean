/-
  DERIVED. GIVEN WITH THE SEED: THE CARDS: each row of YtipekfhpcjcabaaDoorRows.lean that lists a variable, with what it lists TIED to the program's text (the seventh form; the later family's looks); each row that meets fmt, with fmt's text TOLD by the authors' own Lean function (tested against real Go, not proved from fmt's source: count such statements apart). THE CARD IS WHAT COUNTS. Prove the row's statement (the work); the ties are given (YtipekfhpcjcabaaDoorTie.lean); close each card by the builder's one call (the guide's Derived/Test/ToyasCard.lean, 'card_holds'). Laid BY PROGRAM, IN A SANDBOX (cutbox-door.mjs). By AI agents, Wed Nov 11 2026. No macro, syntax, notation, axiom, sorry.
-/
import Derived.Test.YtipekfhpcjcabaaDoorRows
import GoSem.ClaimSeven
namespace Go.Proofs.YtipekfhpcjcabaaDoor
namespace Rows

/-- THE TIED CARD OF 'maquettelaw18.QuotientSelf'. -/
def quotientSelfCard : Claim7 := { stood := { row := quotientSelfRow, standIns := [], harness := (true, "d91b0bc874452d232d61fea59e56ed63081850862a9dacca15f5665823f2ee01"), looks := true }, kinds := [], alts := [], goes := true, laidByText := true, laidKinds := [.handle], laidTests := true, laidLooks := .later }
def QuotientSelfCardSaid : Prop := Claim7.holds Tryd.pinned (.plain (OpenSpec.ofChange quotientSelfSpec)) quotientSelfCard

/-- THE TIED CARD OF 'maquettelaw22.SimMay'. -/
def simMayCard : Claim7 := { stood := { row := simMayRow, standIns := [], harness := (true, "d91b0bc874452d232d61fea59e56ed63081850862a9dacca15f5665823f2ee01"), looks := true }, kinds := [], alts := [], goes := true, laidByText := true, laidKinds := [.handle], laidTests := true, laidLooks := .later }
def SimMayCardSaid : Prop := Claim7.holds Tryd.pinned (.plain (OpenSpec.ofChange simMaySpec)) simMayCard

/-- THE TIED CARD OF 'maquettelaw19.AuditRaw'. -/
def auditRawCard : Claim7 := { stood := { row := auditRawRow, standIns := [], harness := (true, "d91b0bc874452d232d61fea59e56ed63081850862a9dacca15f5665823f2ee01"), looks := true }, kinds := [], alts := [], goes := true, laidByText := true, laidKinds := [.handle], laidTests := true, laidLooks := .later }
def AuditRawCardSaid : Prop := Claim7.holds Tryd.pinned (.plain (OpenSpec.ofChange auditRawSpec)) auditRawCard

/-- THE TIED CARD OF 'maquettelaw19.AuditSelf'. -/
def auditSelfCard : Claim7 := { stood := { row := auditSelfRow, standIns := [], harness := (true, "d91b0bc874452d232d61fea59e56ed63081850862a9dacca15f5665823f2ee01"), looks := true }, kinds := [], alts := [], goes := true, laidByText := true, laidKinds := [.handle], laidTests := true, laidLooks := .later }
def AuditSelfCardSaid : Prop := Claim7.holds Tryd.pinned (.plain (OpenSpec.ofChange auditSelfSpec)) auditSelfCard

/-- THE TIED CARD OF 'maquettelaw17.RefineWires'. -/
def refineWiresCard : Claim7 := { stood := { row := refineWiresRow, standIns := [], harness := (true, "d91b0bc874452d232d61fea59e56ed63081850862a9dacca15f5665823f2ee01"), looks := true }, kinds := [], alts := [], goes := true, laidByText := true, laidKinds := [.handle], laidTests := true, laidLooks := .later }
def RefineWiresCardSaid : Prop := Claim7.holds Tryd.pinned (.plain (OpenSpec.ofChange refineWiresSpec)) refineWiresCard

/-- THE TIED CARD OF 'maquettelaw18.QuotientOf'. -/
def quotientOfCard : Claim7 := { stood := { row := quotientOfRow, standIns := [], harness := (true, "d91b0bc874452d232d61fea59e56ed63081850862a9dacca15f5665823f2ee01"), looks := true }, kinds := [], alts := [], goes := true, laidByText := true, laidKinds := [.handle], laidTests := true, laidLooks := .later }
def QuotientOfCardSaid : Prop := Claim7.holds Tryd.pinned (.plain (OpenSpec.ofChange quotientOfSpec)) quotientOfCard

/-- THE SECOND FORM's CARD OF 'maquettelaw18.QuotientSelf'. -/
def quotientSelfUptoCard : Claim7 := { stood := { row := quotientSelfUptoRow, standIns := [], harness := (true, "d91b0bc874452d232d61fea59e56ed63081850862a9dacca15f5665823f2ee01"), looks := true }, kinds := [], alts := [], goes := true, laidByText := true, laidKinds := [.handle], laidTests := true, laidLooks := .later }
def QuotientSelfUptoCardSaid : Prop := Claim7.holds Tryd.pinned (.plain (OpenSpec.upto quotientSelfSpec)) quotientSelfUptoCard

/-- THE SECOND FORM's CARD OF 'maquettelaw22.SimMay'. -/
def simMayUptoCard : Claim7 := { stood := { row := simMayUptoRow, standIns := [], harness := (true, "d91b0bc874452d232d61fea59e56ed63081850862a9dacca15f5665823f2ee01"), looks := true }, kinds := [], alts := [], goes := true, laidByText := true, laidKinds := [.handle], laidTests := true, laidLooks := .later }
def SimMayUptoCardSaid : Prop := Claim7.holds Tryd.pinned (.plain (OpenSpec.upto simMaySpec)) simMayUptoCard

/-- THE SECOND FORM's CARD OF 'maquettelaw19.AuditRaw'. -/
def auditRawUptoCard : Claim7 := { stood := { row := auditRawUptoRow, standIns := [], harness := (true, "d91b0bc874452d232d61fea59e56ed63081850862a9dacca15f5665823f2ee01"), looks := true }, kinds := [], alts := [], goes := true, laidByText := true, laidKinds := [.handle], laidTests := true, laidLooks := .later }
def AuditRawUptoCardSaid : Prop := Claim7.holds Tryd.pinned (.plain (OpenSpec.upto auditRawSpec)) auditRawUptoCard

/-- THE SECOND FORM's CARD OF 'maquettelaw19.AuditSelf'. -/
def auditSelfUptoCard : Claim7 := { stood := { row := auditSelfUptoRow, standIns := [], harness := (true, "d91b0bc874452d232d61fea59e56ed63081850862a9dacca15f5665823f2ee01"), looks := true }, kinds := [], alts := [], goes := true, laidByText := true, laidKinds := [.handle], laidTests := true, laidLooks := .later }
def AuditSelfUptoCardSaid : Prop := Claim7.holds Tryd.pinned (.plain (OpenSpec.upto auditSelfSpec)) auditSelfUptoCard

/-- THE SECOND FORM's CARD OF 'maquettelaw17.RefineWires'. -/
def refineWiresUptoCard : Claim7 := { stood := { row := refineWiresUptoRow, standIns := [], harness := (true, "d91b0bc874452d232d61fea59e56ed63081850862a9dacca15f5665823f2ee01"), looks := true }, kinds := [], alts := [], goes := true, laidByText := true, laidKinds := [.handle], laidTests := true, laidLooks := .later }
def RefineWiresUptoCardSaid : Prop := Claim7.holds Tryd.pinned (.plain (OpenSpec.upto refineWiresSpec)) refineWiresUptoCard

/-- THE SECOND FORM's CARD OF 'maquettelaw18.QuotientOf'. -/
def quotientOfUptoCard : Claim7 := { stood := { row := quotientOfUptoRow, standIns := [], harness := (true, "d91b0bc874452d232d61fea59e56ed63081850862a9dacca15f5665823f2ee01"), looks := true }, kinds := [], alts := [], goes := true, laidByText := true, laidKinds := [.handle], laidTests := true, laidLooks := .later }
def QuotientOfUptoCardSaid : Prop := Claim7.holds Tryd.pinned (.plain (OpenSpec.upto quotientOfSpec)) quotientOfUptoCard
end Rows
end Go.Proofs.YtipekfhpcjcabaaDoor
