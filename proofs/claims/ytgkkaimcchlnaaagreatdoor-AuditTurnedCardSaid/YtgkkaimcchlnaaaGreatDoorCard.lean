/- The closing of this seat's rows and cards. Printed by a program of this project (wip/mq). -/
import Derived.Test.YtgkkaimcchlnaaaGreatDoorQ0
import Derived.Test.YtgkkaimcchlnaaaGreatDoorNum
import Derived.Conc.Holds
import Derived.SevenTiedAt
import Derived.LaidByTextLater
import Derived.Test.YtgkkaimcchlnaaaGreatDoorCards
import Derived.Test.YtgkkaimcchlnaaaGreatDoorTie
set_option linter.unusedVariables false
set_option linter.unusedSimpArgs false

namespace Go.Proofs.YtgkkaimcchlnaaaGreatDoor
open Go Mq Go.ChangeShapes Go.WideShapes Go.ChangeAt Go.RowKit
set_option maxRecDepth 20000
set_option maxHeartbeats 4000000


/-! What the rows of this seat have in common: a world that meets the condition; from a run of one goroutine to the row that says 'leaving'; the card. -/
theorem leaving_of_alone {P : Program} {last : Machine} {w : World} {t : Trace} (h : aloneAtReturn P last w t) : leavingAtReturn P last w t := by
  refine ⟨h.2.1, ⟨fun g hg => ⟨0, ?_⟩, h.1.2⟩, h.2.2⟩
  have h1 := h.1.1
  unfold Machine.othersDone at h1
  have h2 := List.all_eq_true.1 h1 g hg
  show g.status = .finished
  simpa using h2
theorem leaving_of_handed {a : Assume} {C : Checked} {os : Os} {f : FuncId} {r : Reach} {Pre : World → Array Value → Prop} {Post : World → Array Value → Value → World → Prop} (h : ReturnsInHanded a C os f r Pre Post) : ReturnsInLeavingWide a C os f r Pre Post :=
  fun e => ReturnsInOpen.mono (fun _ _ _ => leaving_of_alone) (fun _ x => x) (h e)
noncomputable def laidWorld (os : Os) : World :=
  let w0 := World.holding Tryz.prog os ⟨#[], #[], []⟩
  { w0 with heap := w0.heap.modify 0 fun
      | .cells _ t frozen => .cells #[.iface 282 (.agg #[.pointer (some ⟨9, 46, none⟩)])] t frozen
      | o => o }
theorem laidWorld_met (os : Os) (args : Array Value) : laidMetH Tryz.prog [("errors.errorType", Rows.laid_errors_errorType)] ((laidWorld os).forCall (fun _ _ => 0) ⟨#[], args, []⟩).memory :=
  laidMetH_of_parts (laidMet_nil _ _) (by kernel_rfl)
theorem holds_tied_goes {p : Pinned} {s : OpenSpec} {c : OpenClaim} (kinds : List LaidKind) (tests : Bool) (har : Bool × String) (lk g : Bool)
    (hc : c.holds p s) (hw : c.wfByText s = true) (htie : c.laidByTextAt .later p kinds tests)
    (hst : c.start = .entering) (hnb : c.noBlocks = false ∧ c.again = false) (hm : p.checked.prog.mainIs = some (har.1, har.2.toList)) (hn : (!har.1 && har.2.isEmpty && !lk) = false)
    (hl : ∀ f fn, p.checked.prog.funcNamed c.func = some f → p.checked.prog.funcs[f]? = some fn → lk = p.checked.prog.looks [] ∧ ∀ (j : Nat) t, fn.params[j]? = some t → p.checked.prog.wantsStandIn t = false)
    (hg : g = c.goesBy p.checked.prog) :
    Claim7.holds p (.plain s) { stood := { row := c, standIns := [], harness := har, looks := lk }, kinds := [], alts := [], goes := g, laidByText := true, laidKinds := kinds, laidTests := tests, laidLooks := .later } := by
  have h6 : ∀ r : OpenClaim, Claim7.isSixth { stood := { row := r, standIns := [], harness := har, looks := lk }, kinds := [] } = false := fun r => by simpa [Claim7.isSixth] using hn
  exact ⟨Claim7.tied_new_at .later kinds tests (Claim7.new_of_sixth hc har lk hst hnb hm (h6 c) hl) hw, (fun D hD => by cases hD), htie, (fun h => by cases h), hg⟩
end Go.Proofs.YtgkkaimcchlnaaaGreatDoor
