/- How a law's arguments are told. Printed by a program of this project (wip/mq). -/
import Derived.Test.YtipekfhpcjcabaaDoorQ0
import Derived.Test.YtipekfhpcjcabaaDoorMqPl2
set_option linter.unusedVariables false
set_option linter.unusedSimpArgs false
namespace Go.Proofs.YtipekfhpcjcabaaDoor
open Go Mq Go.ChangeShapes Go.WideShapes Go.ChangeAt Go.RowKit
set_option maxRecDepth 20000
set_option maxHeartbeats 4000000
set_option linter.unusedSimpArgs false
set_option linter.unusedVariables false

theorem bool_row {n : Nat} {x : List D} (h : dT te (n + 1) 4 x) : ∃ b, x = bD b := by
  simp only [dT, te4] at h
  exact h
theorem int_row {n : Nat} {x : List D} (h : dT te (n + 1) 3 x) : ∃ m, x = iD m := by
  simp only [dT, te3] at h
  obtain ⟨m, rfl, _⟩ := h
  exact ⟨m, rfl⟩
theorem rows_of {α : Type} (f : α → List D) (p : List D → Prop) (hp : ∀ x, p x → ∃ a, x = f a) : ∀ (l : List (List D)), (∀ x ∈ l, p x) → ∃ rs : List α, l = rs.map f
  | [], _ => ⟨[], rfl⟩
  | x :: l, h => by
    obtain ⟨rs, rfl⟩ := rows_of f p hp l (fun y hy => h y (by simp [hy]))
    obtain ⟨a, rfl⟩ := hp x (h x (by simp))
    exact ⟨a :: rs, rfl⟩
theorem attr_row {n : Nat} {x : List D} (h : dT te (n + 2) 85 x) : ∃ a : Attr, x = a.row := by
  simp only [dT, te85, dFs, te4, te3, te5] at h
  obtain ⟨d1, d2, rfl, _, ⟨o, rfl⟩, d3, d4, rfl, _, ⟨p, rfl, _⟩, d5, d6, rfl, _, ⟨c, rfl, _⟩, d7, d8, rfl, _, ⟨t, rfl, _⟩, rfl⟩ := h
  exact ⟨⟨o, p, c, t⟩, rfl⟩
theorem clause_row {n : Nat} {x : List D} (h : dT te (n + 3) 127 x) : ∃ c : Clause, x = c.row := by
  simp only [dT, te127, dFs, te4, te61, te59, te3, te5] at h
  obtain ⟨_, _, rfl, _, ⟨a, rfl⟩, _, _, rfl, _, ⟨_, _, rfl, _, ⟨ad, rfl, _⟩, _, _, rfl, _, ⟨bi, rfl, _⟩, rfl⟩, _, _, rfl, _, ⟨w, rfl, _⟩, _, _, rfl, _, ⟨ou, rfl, _⟩, _, _, rfl, _, ⟨dr, rfl⟩, _, _, rfl, _, ⟨st, rfl, _⟩, _, _, rfl, _, ⟨cl, rfl, _⟩, _, _, rfl, _, ⟨mo, rfl, _⟩, _, _, rfl, _, ⟨pr, rfl, _⟩, rfl⟩ := h
  exact ⟨⟨a, ad, bi, w, ou, dr, st, cl, mo, pr⟩, rfl⟩
theorem clauses_of {n : Nat} {x : List D} (h : dT te (n + 4) 69 x) : ∃ cs : List Clause, x = [.sl 10 (cs.map Clause.row)] := by
  rw [dT] at h
  simp only [te69, te127] at h
  obtain ⟨l, rfl, _, hl⟩ := h
  obtain ⟨rs, rfl⟩ := rows_of Clause.row _ (fun x hx => clause_row hx) l (fun x hx => (hl x hx).2)
  exact ⟨rs, rfl⟩
theorem edge_row {n : Nat} {x : List D} (h : dT te (n + 5) 71 x) : ∃ e : Arc, x = e.row := by
  rw [dT] at h
  simp only [te71, dFs, te3, te69] at h
  obtain ⟨_, _, rfl, _, h1, _, _, rfl, _, h2, _, _, rfl, _, h3, _, _, rfl, _, h4, rfl⟩ := h
  obtain ⟨f, rfl⟩ := int_row h1
  obtain ⟨c, rfl⟩ := int_row h2
  obtain ⟨e, rfl⟩ := clauses_of h3
  obtain ⟨i, rfl⟩ := clauses_of h4
  exact ⟨⟨f, c, e, i⟩, rfl⟩
theorem edges_row {n : Nat} {x : List D} (h : dT te (n + 6) 72 x) : ∃ es : List Arc, x = esD es := by
  rw [dT] at h
  simp only [te72, te71] at h
  obtain ⟨l, rfl, _, hl⟩ := h
  obtain ⟨rs, rfl⟩ := rows_of Arc.row _ (fun x hx => edge_row hx) l (fun x hx => (hl x hx).2)
  exact ⟨rs, rfl⟩
theorem net_of {n : Nat} {x : List D} (h : dT te (n + 8) 29 x) : ∃ m : Net, x = [.sl 1 (m.origin.map bD), .sl 1 (m.static.map iD), .sl 1 (m.edges.map esD)] := by
  rw [dT] at h
  simp only [te29, dFs, te22, te26, te27] at h
  obtain ⟨_, _, rfl, _, h1, _, _, rfl, _, h2, _, _, rfl, _, h3, rfl⟩ := h
  rw [dT] at h1 h2 h3
  simp only [te22, te26, te27, te4, te3, te72] at h1 h2 h3
  obtain ⟨l1, rfl, _, g1⟩ := h1
  obtain ⟨l2, rfl, _, g2⟩ := h2
  obtain ⟨l3, rfl, _, g3⟩ := h3
  obtain ⟨r1, rfl⟩ := rows_of bD _ (fun x hx => bool_row hx) l1 (fun x hx => (g1 x hx).2)
  obtain ⟨r2, rfl⟩ := rows_of iD _ (fun x hx => int_row hx) l2 (fun x hx => (g2 x hx).2)
  obtain ⟨r3, rfl⟩ := rows_of esD _ (fun x hx => edges_row hx) l3 (fun x hx => (g3 x hx).2)
  exact ⟨⟨r1, r2, r3⟩, rfl⟩
theorem attrs_of {n : Nat} {x : List D} (h : dT te (n + 3) 41 x) : ∃ l : List Attr, x = [.sl 4 (l.map Attr.row)] ∧ l.length ≤ maxLen := by
  rw [dT] at h
  simp only [te41, te85] at h
  obtain ⟨l, rfl, hm, hl⟩ := h
  obtain ⟨rs, rfl⟩ := rows_of Attr.row _ (fun x hx => attr_row hx) l (fun x hx => (hl x hx).2)
  exact ⟨rs, rfl, by simpa using hm⟩
end Go.Proofs.YtipekfhpcjcabaaDoor
