/- The closing of this seat's rows and cards. Printed by a program of this project (wip/mq). -/
import Derived.Test.YtipekfhpcjcabaaDoorArgs
import Derived.Test.YtipekfhpcjcabaaDoorNum
import Derived.Test.YtipekfhpcjcabaaDoorWires
import Derived.Conc.Holds
import Derived.SevenTiedAt
import Derived.LaidByTextLater
import Derived.Test.YtipekfhpcjcabaaDoorCards
import Derived.Test.YtipekfhpcjcabaaDoorTie
set_option linter.unusedVariables false
set_option linter.unusedSimpArgs false

namespace Go.Proofs.YtipekfhpcjcabaaDoor
open Go Mq Go.ChangeShapes Go.WideShapes Go.ChangeAt Go.RowKit
set_option maxRecDepth 20000
set_option maxHeartbeats 4000000
set_option linter.unusedSimpArgs false
set_option linter.unusedVariables false
theorem rows_ofQ {α : Type} (f : α → List D) (p : List D → Prop) (q : α → Prop) (hp : ∀ x, p x → ∃ a, x = f a ∧ q a) : ∀ (l : List (List D)), (∀ x ∈ l, p x) → ∃ rs : List α, l = rs.map f ∧ ∀ a ∈ rs, q a
  | [], _ => ⟨[], rfl, by simp⟩
  | x :: l, h => by
    obtain ⟨rs, rfl, hr⟩ := rows_ofQ f p q hp l (fun y hy => h y (by simp [hy]))
    obtain ⟨a, rfl, ha⟩ := hp x (h x (by simp))
    exact ⟨a :: rs, rfl, fun b hb => by rcases List.mem_cons.1 hb with rfl | hb; exact ha; exact hr b hb⟩
theorem i8_row {n : Nat} {x : List D} (h : dT te (n + 1) 64 x) : ∃ m : Int, x = [D.v (.int .i8 m)] := by
  simp only [dT, te64] at h
  obtain ⟨m, rfl, _⟩ := h
  exact ⟨m, rfl⟩
theorem rule_row {n : Nat} {x : List D} (h : dT te (n + 2) 210 x) : ∃ r : Rule, x = r.row ∧ (0 ≤ r.to ∧ r.to ≤ 255) := by
  simp only [dT, te210, dFs, te5] at h
  obtain ⟨_, _, rfl, _, ⟨a, rfl, h1, h2⟩, _, _, rfl, _, ⟨b, rfl, _⟩, _, _, rfl, _, ⟨c, rfl, _⟩, _, _, rfl, _, ⟨d, rfl, _⟩, _, _, rfl, _, ⟨e, rfl, _⟩, _, _, rfl, _, ⟨f, rfl, _⟩, rfl⟩ := h
  exact ⟨⟨a, b, c, d, e, f⟩, rfl, h1, h2⟩
theorem rules_of {n : Nat} {x : List D} (h : dT te (n + 3) 74 x) : ∃ rs : List Rule, x = [.sl 6 (rs.map Rule.row)] ∧ rs.length ≤ maxLen ∧ ∀ r ∈ rs, 0 ≤ r.to ∧ r.to ≤ 255 := by
  rw [dT] at h
  simp only [te74, te210] at h
  obtain ⟨l, rfl, hm, hl⟩ := h
  obtain ⟨rs, rfl, hr⟩ := rows_ofQ Rule.row _ _ (fun x hx => rule_row hx) l (fun x hx => (hl x hx).2)
  exact ⟨rs, rfl, by simpa using hm, hr⟩
structure WireOk (w : Wire) : Prop where
  exp : w.exp.length ≤ maxLen
  imp : w.imp.length ≤ maxLen
  expR : ∀ q ∈ w.exp, 0 ≤ q.to ∧ q.to ≤ 255
  impR : ∀ q ∈ w.imp, 0 ≤ q.to ∧ q.to ≤ 255
theorem wire_row {n : Nat} {x : List D} (h : dT te (n + 4) 76 x) : ∃ w : Wire, x = w.row ∧ WireOk w := by
  rw [dT] at h
  simp only [te76, dFs, te5, te74] at h
  obtain ⟨_, _, rfl, _, h1, _, _, rfl, _, h2, _, _, rfl, _, h3, _, _, rfl, _, h4, rfl⟩ := h
  simp only [dT, te5] at h1 h2
  obtain ⟨a, rfl, _⟩ := h1
  obtain ⟨b, rfl, _⟩ := h2
  obtain ⟨e, rfl, e1, e2⟩ := rules_of h3
  obtain ⟨i, rfl, i1, i2⟩ := rules_of h4
  exact ⟨⟨a, b, e, i⟩, rfl, e1, i1, e2, i2⟩
theorem ws_row {n : Nat} {x : List D} (h : dT te (n + 5) 73 x) : ∃ ws : List Wire, x = wsD ws ∧ (ws.length ≤ maxLen ∧ ∀ w ∈ ws, WireOk w) := by
  rw [dT] at h
  simp only [te73, te76] at h
  obtain ⟨l, rfl, hm, hl⟩ := h
  obtain ⟨rs, rfl, hr⟩ := rows_ofQ Wire.row _ _ (fun x hx => wire_row hx) l (fun x hx => (hl x hx).2)
  exact ⟨rs, rfl, by simpa using hm, hr⟩

/-! What the rows of this seat have in common: a world that meets the condition; from a run of one goroutine to the row that says 'leaving'; the card. -/
theorem leaving_of_alone {P : Program} {last : Machine} {w : World} {t : Trace} (h : aloneAtReturn P last w t) : leavingAtReturn P last w t := by
  refine ⟨h.2.1, ⟨fun g hg => ⟨0, ?_⟩, h.1.2⟩, h.2.2⟩
  have h1 := h.1.1
  unfold Machine.othersDone at h1
  have h2 := List.all_eq_true.1 h1 g hg
  show g.status = .finished
  simpa using h2
theorem leaving_of_handed {a : Assume} {C : Checked} {os : Os} {f : FuncId} {r : Reach} {Pre : World → Array Value → Prop} {Post : World → Array Value → Value → World → Prop} (h : ReturnsInHanded a C os f r Pre Post) : ReturnsInLeavingWide a C os f r Pre Post :=
  fun e => ReturnsInOpen.mono (fun _ _ _ => leaving_of_alone) (fun _ x => x) (h e)
noncomputable def laidWorld (os : Os) : World :=
  let w0 := World.holding Tryd.prog os ⟨#[], #[], []⟩
  { w0 with heap := w0.heap.modify 0 fun
      | .cells _ t frozen => .cells #[.iface 179 (.agg #[.pointer (some ⟨1, 33, none⟩)])] t frozen
      | o => o }
theorem laidWorld_met (os : Os) (args : Array Value) : laidMetH Tryd.prog [("errors.errorType", Rows.laid_errors_errorType)] ((laidWorld os).forCall (fun _ _ => 0) ⟨#[], args, []⟩).memory :=
  laidMetH_of_parts (laidMet_nil _ _) (by kernel_rfl)
theorem holds_tied_goes {p : Pinned} {s : OpenSpec} {c : OpenClaim} (kinds : List LaidKind) (tests : Bool) (har : Bool × String) (lk g : Bool)
    (hc : c.holds p s) (hw : c.wfByText s = true) (htie : c.laidByTextAt .later p kinds tests)
    (hst : c.start = .entering) (hnb : c.noBlocks = false ∧ c.again = false) (hm : p.checked.prog.mainIs = some (har.1, har.2.toList)) (hn : (!har.1 && har.2.isEmpty && !lk) = false)
    (hl : ∀ f fn, p.checked.prog.funcNamed c.func = some f → p.checked.prog.funcs[f]? = some fn → lk = p.checked.prog.looks [] ∧ ∀ (j : Nat) t, fn.params[j]? = some t → p.checked.prog.wantsStandIn t = false)
    (hg : g = c.goesBy p.checked.prog) :
    Claim7.holds p (.plain s) { stood := { row := c, standIns := [], harness := har, looks := lk }, kinds := [], alts := [], goes := g, laidByText := true, laidKinds := kinds, laidTests := tests, laidLooks := .later } := by
  have h6 : ∀ r : OpenClaim, Claim7.isSixth { stood := { row := r, standIns := [], harness := har, looks := lk }, kinds := [] } = false := fun r => by simpa [Claim7.isSixth] using hn
  exact ⟨Claim7.tied_new_at .later kinds tests (Claim7.new_of_sixth hc har lk hst hnb hm (h6 c) hl) hw, (fun D hD => by cases hD), htie, (fun h => by cases h), hg⟩
end Go.Proofs.YtipekfhpcjcabaaDoor

