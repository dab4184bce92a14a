/- The closing of this seat's rows and cards. Printed by a program of this project (wip/mq). -/
import Derived.Test.YtokfackbnnkbnaaGreatDoorQ0
import Derived.Test.YtokfackbnnkbnaaGreatDoorNum
import Derived.SevenTiedAt
import Derived.LaidByTextLater
import Derived.Test.YtokfackbnnkbnaaGreatDoorCards
import Derived.Test.YtokfackbnnkbnaaGreatDoorTie
set_option linter.unusedVariables false
set_option linter.unusedSimpArgs false

namespace Go.Proofs.YtokfackbnnkbnaaGreatDoor
open Go Mq Go.ChangeShapes Go.WideShapes Go.ChangeAt Go.RowKit
set_option maxRecDepth 20000
set_option maxHeartbeats 4000000
set_option linter.unusedSimpArgs false
set_option linter.unusedVariables false

/-! What the rows of this seat have in common: a world that meets the condition; from a run of one goroutine to the row that says 'leaving'; the card. -/
noncomputable def laidWorld (os : Os) : World :=
  let w0 := World.holding Tryz.prog os ⟨#[], #[], []⟩
  { w0 with heap := w0.heap.modify 0 fun
      | .cells _ t frozen => .cells #[.iface 176 (.agg #[.pointer (some ⟨1, 40, none⟩)])] t frozen
      | o => o }
theorem laidWorld_met (os : Os) (args : Array Value) : laidMetH Tryz.prog [("errors.errorType", Rows.laid_errors_errorType)] ((laidWorld os).forCall (fun _ _ => 0) ⟨#[], args, []⟩).memory :=
  laidMetH_of_parts (laidMet_nil _ _) (by kernel_rfl)
theorem holds_tied_goes {p : Pinned} {s : OpenSpec} {c : OpenClaim} (kinds : List LaidKind) (tests : Bool) (har : Bool × String) (lk g : Bool)
    (hc : c.holds p s) (hw : c.wfByText s = true) (htie : c.laidByTextAt .later p kinds tests)
    (hst : c.start = .entering) (hnb : c.noBlocks = false ∧ c.again = false) (hm : p.checked.prog.mainIs = some (har.1, har.2.toList)) (hn : (!har.1 && har.2.isEmpty && !lk) = false)
    (hl : ∀ f fn, p.checked.prog.funcNamed c.func = some f → p.checked.prog.funcs[f]? = some fn → lk = p.checked.prog.looks [] ∧ ∀ (j : Nat) t, fn.params[j]? = some t → p.checked.prog.wantsStandIn t = false)
    (hg : g = c.goesBy p.checked.prog) :
    Claim7.holds p (.plain s) { stood := { row := c, standIns := [], harness := har, looks := lk }, kinds := [], alts := [], goes := g, laidByText := true, laidKinds := kinds, laidTests := tests, laidLooks := .later } := by
  have h6 : ∀ r : OpenClaim, Claim7.isSixth { stood := { row := r, standIns := [], harness := har, looks := lk }, kinds := [] } = false := fun r => by simpa [Claim7.isSixth] using hn
  exact ⟨Claim7.tied_new_at .later kinds tests (Claim7.new_of_sixth hc har lk hst hnb hm (h6 c) hl) hw, (fun D hD => by cases hD), htie, (fun h => by cases h), hg⟩
end Go.Proofs.YtokfackbnnkbnaaGreatDoor

