/- What maquettelaw17.number comes to. Printed by a program of this project (wip/mq). -/
import Derived.Test.YtokfackbnnkbnaaLk17
set_option linter.unusedVariables false
set_option linter.unusedSimpArgs false

namespace Go.Proofs.Ytokfackbnnkbnaa
open Go Mq Go.ChangeShapes Go.WideShapes Go.ChangeAt Go.RowKit
/-! maquette/maquettelaw17.number -/
set_option maxRecDepth 20000
set_option maxHeartbeats 4000000
set_option linter.unusedSimpArgs false
set_option linter.unusedVariables false

/-- Within the numbering. -/
structure NmI (b : List Int) (x : Nat × List Int × List Int) : Prop where
  le : x.1 ≤ b.length
  out : x.2.2.length = x.1
  fs : x.2.1.length ≤ x.1
  nd : x.2.1.Nodup
  go : numGo (b.drop x.1) x.2.1 x.2.2 = nmbV b
theorem NmI.zero (b : List Int) : NmI b (0, [], []) := ⟨Nat.zero_le _, rfl, Nat.le_refl _, by simp, rfl⟩
theorem NmI.hit {b : List Int} {x : Nat × List Int × List Int} (h : NmI b x) {v : Int} (hd : b.drop x.1 = v :: b.drop (x.1 + 1)) (hl : x.1 < b.length) {a : Int} (ha : a = ixI v x.2.1) (h0 : ¬ a < 0) : NmI b (x.1 + 1, x.2.1, x.2.2 ++ [a]) := by
  subst ha
  exact ⟨hl, by simp [h.out], (show x.2.1.length ≤ x.1 + 1 by have := h.fs; omega), h.nd, numGo_hit h.go hd h0⟩
theorem NmI.new {b : List Int} {x : Nat × List Int × List Int} (h : NmI b x) {v : Int} (hd : b.drop x.1 = v :: b.drop (x.1 + 1)) (hl : x.1 < b.length) {a : Int} (ha : a = ixI v x.2.1) (h0 : a < 0) : NmI b (x.1 + 1, x.2.1 ++ [v], x.2.2 ++ [(x.2.1.length : Int)]) := by
  subst ha
  exact ⟨hl, by simp [h.out], by simp; exact h.fs, nodup_new h.nd h0, numGo_new h.go hd h0⟩
theorem NmI.done {b : List Int} {x : Nat × List Int × List Int} (h : NmI b x) (hl : ¬ x.1 < b.length) : outR b.length x.2.2 = nmbV b := by
  have h1 := h.go
  have h2 := h.out
  have h3 := h.le
  rw [List.drop_eq_nil_of_le (by omega), numGo] at h1
  rw [outR_end (by omega), h1]
/-- Within the search of a number. -/
def LsI (v : Int) (fs : List Int) (y : Nat × Int × Unit) : Prop := y.1 ≤ fs.length ∧ lastGo v (fs.drop y.1) y.1 y.2.1 = lastGo v fs 0 (-1)
theorem LsI.zero (v : Int) (fs : List Int) : LsI v fs (0, -1, ()) := ⟨Nat.zero_le _, rfl⟩
theorem LsI.done {v : Int} {fs : List Int} {y : Nat × Int × Unit} (h : LsI v fs y) (hn : fs.Nodup) (hl : ¬ y.1 < fs.length) : y.2.1 = ixI v fs := by
  rw [← last_ix hn, ← h.2, List.drop_eq_nil_of_le (by omega), lastGo]

end Go.Proofs.Ytokfackbnnkbnaa

