/- How a law's arguments are told. Printed by a program of this project (wip/mq). -/
import Derived.Test.YtokfackbnnkbnaaQ0
import Derived.Test.YtokfackbnnkbnaaMqPl
set_option linter.unusedVariables false
set_option linter.unusedSimpArgs false

namespace Go.Proofs.Ytokfackbnnkbnaa
open Go Mq Go.ChangeShapes Go.WideShapes Go.ChangeAt Go.RowKit
set_option maxRecDepth 20000
set_option maxHeartbeats 4000000
set_option linter.unusedSimpArgs false
set_option linter.unusedVariables false

theorem rows_ofQ {α : Type} (f : α → List D) (p : List D → Prop) (q : α → Prop) (hp : ∀ x, p x → ∃ a, x = f a ∧ q a) : ∀ (l : List (List D)), (∀ x ∈ l, p x) → ∃ rs : List α, l = rs.map f ∧ ∀ a ∈ rs, q a
  | [], _ => ⟨[], rfl, by simp⟩
  | x :: l, h => by
    obtain ⟨rs, rfl, hr⟩ := rows_ofQ f p q hp l (fun y hy => h y (by simp [hy]))
    obtain ⟨a, rfl, ha⟩ := hp x (h x (by simp))
    exact ⟨a :: rs, rfl, fun b hb => by rcases List.mem_cons.1 hb with rfl | hb; exact ha; exact hr b hb⟩
theorem u8_row {n : Nat} {x : List D} (h : dT te (n + 1) 5 x) : ∃ m : Int, x = uD m ∧ (0 ≤ m ∧ m ≤ 255) := by
  simp only [dT, te5] at h
  obtain ⟨m, rfl, h1, h2⟩ := h
  exact ⟨m, rfl, h1, h2⟩
theorem u8s_of {n : Nat} {x : List D} (h : dT te (n + 2) 22 x) : ∃ l : List Int, x = [.sl 1 (l.map uD)] ∧ B8 l := by
  rw [dT] at h
  simp only [te22, te5] at h
  obtain ⟨l, rfl, hm, hl⟩ := h
  obtain ⟨rs, rfl, hr⟩ := rows_ofQ uD _ _ (fun x hx => u8_row hx) l (fun x hx => (hl x hx).2)
  exact ⟨rs, rfl, by simpa using hm, hr⟩
end Go.Proofs.Ytokfackbnnkbnaa

