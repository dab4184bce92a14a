/- How a law's arguments are told. Printed by a program of this project (wip/mq). -/
import Derived.Test.YtipekfhpcjcabaaDoorQ0
import Derived.Test.YtipekfhpcjcabaaDoorMqPl
set_option linter.unusedVariables false
set_option linter.unusedSimpArgs false

namespace Go.Proofs.YtipekfhpcjcabaaDoor
open Go Mq Go.ChangeShapes Go.WideShapes Go.ChangeAt Go.RowKit
set_option maxRecDepth 20000
set_option maxHeartbeats 4000000
set_option linter.unusedSimpArgs false
set_option linter.unusedVariables false

theorem bool_row {n : Nat} {x : List D} (h : dT te (n + 1) 4 x) : ∃ b, x = bD b := by
  simp only [dT, te4] at h
  exact h
theorem rows_of {α : Type} (f : α → List D) (p : List D → Prop) (hp : ∀ x, p x → ∃ a, x = f a) : ∀ (l : List (List D)), (∀ x ∈ l, p x) → ∃ rs : List α, l = rs.map f
  | [], _ => ⟨[], rfl⟩
  | x :: l, h => by
    obtain ⟨rs, rfl⟩ := rows_of f p hp l (fun y hy => h y (by simp [hy]))
    obtain ⟨a, rfl⟩ := hp x (h x (by simp))
    exact ⟨a :: rs, rfl⟩
end Go.Proofs.YtipekfhpcjcabaaDoor

