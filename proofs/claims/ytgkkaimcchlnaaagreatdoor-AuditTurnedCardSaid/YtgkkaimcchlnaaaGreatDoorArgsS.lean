/- How a law's arguments are told. Printed by a program of this project (wip/mq). -/
import Derived.Test.YtgkkaimcchlnaaaGreatDoorQ0
import Derived.Test.YtgkkaimcchlnaaaGreatDoorMqPl
set_option linter.unusedVariables false
set_option linter.unusedSimpArgs false

namespace Go.Proofs.YtgkkaimcchlnaaaGreatDoor
open Go Mq Go.ChangeShapes Go.WideShapes Go.ChangeAt Go.RowKit
set_option maxRecDepth 20000
set_option maxHeartbeats 4000000


theorem rows_ofQ {α : Type} (f : α → List D) (p : List D → Prop) (q : α → Prop) (hp : ∀ x, p x → ∃ a, x = f a ∧ q a) : ∀ (l : List (List D)), (∀ x ∈ l, p x) → ∃ rs : List α, l = rs.map f ∧ ∀ a ∈ rs, q a
  | [], _ => ⟨[], rfl, by simp⟩
  | x :: l, h => by
    obtain ⟨rs, rfl, hr⟩ := rows_ofQ f p q hp l (fun y hy => h y (by simp [hy]))
    obtain ⟨a, rfl, ha⟩ := hp x (h x (by simp))
    exact ⟨a :: rs, rfl, fun b hb => by rcases List.mem_cons.1 hb with rfl | hb; exact ha; exact hr b hb⟩
theorem u8_row {n : Nat} {x : List D} (h : dT te (n + 1) 5 x) : ∃ m : Int, x = uD m ∧ (0 ≤ m ∧ m ≤ 255) := by
  simp only [dT, te5] at h
  obtain ⟨m, rfl, h1, h2⟩ := h
  exact ⟨m, rfl, h1, h2⟩
theorem u8s_of {n : Nat} {x : List D} (h : dT te (n + 2) 22 x) : ∃ l : List Int, x = [.sl 1 (l.map uD)] ∧ B8 l := by
  rw [dT] at h
  simp only [te22, te5] at h
  obtain ⟨l, rfl, hm, hl⟩ := h
  obtain ⟨rs, rfl, hr⟩ := rows_ofQ uD _ _ (fun x hx => u8_row hx) l (fun x hx => (hl x hx).2)
  exact ⟨rs, rfl, by simpa using hm, hr⟩
theorem rule_row {n : Nat} {x : List D} (h : dT te (n + 2) 220 x) : ∃ r : Rule, x = r.row ∧ (0 ≤ r.to ∧ r.to ≤ 255) := by
  simp only [dT, te220, dFs, te5] at h
  obtain ⟨_, _, rfl, _, ⟨a, rfl, h1, h2⟩, _, _, rfl, _, ⟨b, rfl, _⟩, _, _, rfl, _, ⟨c, rfl, _⟩, _, _, rfl, _, ⟨d, rfl, _⟩, _, _, rfl, _, ⟨e, rfl, _⟩, _, _, rfl, _, ⟨f, rfl, _⟩, rfl⟩ := h
  exact ⟨⟨a, b, c, d, e, f⟩, rfl, h1, h2⟩
theorem rules_row {n : Nat} {x : List D} (h : dT te (n + 3) 79 x) : ∃ rs : List Rule, x = rsD rs ∧ rs.length ≤ maxLen ∧ ∀ r ∈ rs, 0 ≤ r.to ∧ r.to ≤ 255 := by
  rw [dT] at h
  simp only [te79, te220] at h
  obtain ⟨l, rfl, hm, hl⟩ := h
  obtain ⟨rs, rfl, hr⟩ := rows_ofQ Rule.row _ _ (fun x hx => rule_row hx) l (fun x hx => (hl x hx).2)
  exact ⟨rs, rfl, by simpa using hm, hr⟩
theorem shape_of {n : Nat} {x : List D} (h : dT te (n + 5) 25 x) : ∃ sh : Shape, x = [.v (.int .u8 sh.routers), .sl 1 (sh.links.map uD), .sl 1 (sh.maps.map rsD), .sl 1 (sh.names.map uD), .sl 1 (sh.nets.map uD), .sl 1 (sh.ways.map uD)] ∧ sh.ok := by
  rw [dT] at h
  simp only [te25, dFs, te5, te22, te23] at h
  obtain ⟨_, _, rfl, _, h1, _, _, rfl, _, h2, _, _, rfl, _, h3, _, _, rfl, _, h4, _, _, rfl, _, h5, _, _, rfl, _, h6, rfl⟩ := h
  obtain ⟨m, rfl, hm⟩ := u8_row h1
  obtain ⟨l2, rfl, b2⟩ := u8s_of h2
  obtain ⟨l4, rfl, b4⟩ := u8s_of h4
  obtain ⟨l5, rfl, b5⟩ := u8s_of h5
  obtain ⟨l6, rfl, b6⟩ := u8s_of h6
  rw [dT] at h3
  simp only [te23, te79] at h3
  obtain ⟨l, rfl, hl3, hl⟩ := h3
  obtain ⟨rs, rfl, hr⟩ := rows_ofQ rsD _ _ (fun x hx => rules_row hx) l (fun x hx => (hl x hx).2)
  exact ⟨⟨m, l2, rs, l4, l5, l6⟩, rfl, hm, b2, b4, b5, b6, by simpa using hl3, fun q hq => (hr q hq).1, fun q hq => (hr q hq).2⟩
end Go.Proofs.YtgkkaimcchlnaaaGreatDoor
