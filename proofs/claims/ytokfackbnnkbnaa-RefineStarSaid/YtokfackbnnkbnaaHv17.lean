/- What maquettelaw17.halved comes to. Printed by a program of this project (wip/mq). -/
import Derived.Test.YtokfackbnnkbnaaNm17
set_option linter.unusedVariables false
set_option linter.unusedSimpArgs false

namespace Go.Proofs.Ytokfackbnnkbnaa
open Go Mq Go.ChangeShapes Go.WideShapes Go.ChangeAt Go.RowKit
/-! maquette/maquettelaw17.halved -/
set_option maxRecDepth 20000
set_option maxHeartbeats 4000000
set_option linter.unusedSimpArgs false
set_option linter.unusedVariables false

/-- Within the putting to elder nodes. -/
structure HvI (n : Net) (b : List Int) (x : Nat × List Int) : Prop where
  le : x.1 ≤ b.length
  out : x.2.length = x.1
  go : halvGo (clsV n b) (b.length - x.1) x.2 = halvGo (clsV n b) b.length []
theorem HvI.zero (n : Net) (b : List Int) : HvI n b (0, []) := ⟨Nat.zero_le _, rfl, rfl⟩
def hvP (n : Net) (b hs : List Int) (k i : Nat) : Bool := hs.getD i 0 == (i : Int) && clsV n b i k
theorem halv_step {n : Net} {b : List Int} {x : Nat × List Int} (h : HvI n b x) (hl : x.1 < b.length) {v : Int} (hv : hNext (clsV n b) x.2 = v) : HvI n b (x.1 + 1, x.2 ++ [v]) := by
  refine ⟨hl, by simp [h.out], ?_⟩
  have h1 := h.go
  rw [show b.length - x.1 = (b.length - (x.1 + 1)) + 1 by omega, halvGo, hv] at h1
  exact h1
theorem HvI.hit {n : Net} {b : List Int} {x : Nat × List Int} (h : HvI n b x) (hl : x.1 < b.length) {i : Nat} (hi : i < x.1) (hp : hvP n b x.2 x.1 i = true) (hq : ∀ j, j < i → hvP n b x.2 x.1 j = false) : HvI n b (x.1 + 1, x.2 ++ [(i : Int)]) := by
  refine halv_step h hl ?_
  have h2 := h.out
  have : halvIn (clsV n b) x.2 x.2.length = some i := by
    unfold halvIn
    rw [h2]
    exact find_range_hit (p := fun i => hvP n b x.2 x.1 i) hi hp hq
  unfold hNext
  rw [this]
theorem HvI.new {n : Net} {b : List Int} {x : Nat × List Int} (h : HvI n b x) (hl : x.1 < b.length) (hq : ∀ j, j < x.1 → hvP n b x.2 x.1 j = false) : HvI n b (x.1 + 1, x.2 ++ [(x.1 : Int)]) := by
  refine halv_step h hl ?_
  have h2 := h.out
  have : halvIn (clsV n b) x.2 x.2.length = none := by
    unfold halvIn
    rw [h2]
    exact find_range_none (p := fun i => hvP n b x.2 x.1 i) hq
  unfold hNext
  rw [this, h2]
theorem HvI.done {n : Net} {b : List Int} {x : Nat × List Int} (h : HvI n b x) (hl : ¬ x.1 < b.length) : nmbV (outR b.length x.2) = halvV n b := by
  have h1 := h.go
  have h2 := h.out
  have h3 := h.le
  rw [show b.length - x.1 = 0 by omega, halvGo] at h1
  rw [outR_end (by omega), h1]
  rfl
end Go.Proofs.Ytokfackbnnkbnaa

