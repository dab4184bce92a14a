/- What layer 18's functions come to. Printed by a program of this project (wip/mq). -/
import Derived.Test.YtgkkaimcchlnaaaGreatDoorQuot
set_option linter.unusedVariables false
set_option linter.unusedSimpArgs false

namespace Go.Proofs.YtgkkaimcchlnaaaGreatDoor
open Go Mq Go.ChangeShapes Go.WideShapes Go.ChangeAt Go.RowKit
set_option maxRecDepth 20000
set_option maxHeartbeats 4000000


theorem quot_fn (n : Net) (hn : n.ok) (b : List Int) (hb : b.length ≤ maxLen) : FnS Tryz.prog 32 [n.av, .d (.sl 1 (b.map iD))] (quotV (n.quot b)) := by
  cases hf : n.firsts b with
  | none => exact quot_none n hn b hb hf
  | some fs => exact quot_some n hn b hb fs hf
def net0 : Net := ⟨[true, false, false], [-1, -1, -1], [[⟨1, 2, [], []⟩, ⟨2, 2, [], []⟩], [⟨0, 2, [], []⟩], [⟨0, 2, [], []⟩]]⟩
theorem quot0 : FnS Tryz.prog 32 [.ag [.d (.sl 1 [[.v (.bool true)], [.v (.bool false)], [.v (.bool false)]]), .d (.sl 1 [[.v (.int .i64 (-1))], [.v (.int .i64 (-1))], [.v (.int .i64 (-1))]]), .d (.sl 1 [[.sl 4 [[.v (.int .i64 1), .v (.int .i64 2), .sl 10 [], .sl 10 []], [.v (.int .i64 2), .v (.int .i64 2), .sl 10 [], .sl 10 []]]], [.sl 4 [[.v (.int .i64 0), .v (.int .i64 2), .sl 10 [], .sl 10 []]]], [.sl 4 [[.v (.int .i64 0), .v (.int .i64 2), .sl 10 [], .sl 10 []]]]])], .d (.sl 1 [[.v (.int .i64 0)], [.v (.int .i64 1)], [.v (.int .i64 1)]])]
    (.tp [.ag [.d (.sl 1 [[.v (.bool true)], [.v (.bool false)]]), .d (.sl 1 [[.v (.int .i64 (-1))], [.v (.int .i64 (-1))]]), .d (.sl 1 [[.sl 4 [[.v (.int .i64 1), .v (.int .i64 2), .sl 10 [], .sl 10 []]]], [.sl 4 [[.v (.int .i64 0), .v (.int .i64 2), .sl 10 [], .sl 10 []]]]])], .d (.v .nilIface)]) := by
  have hm : maxLen = 9223372036854775807 := rfl
  have h := quot_fn net0 ⟨by simp [net0, hm], by simp [net0, hm], by simp [net0, hm], by simp [net0, hm], by
    intro es hes e he
    simp only [net0, List.mem_cons, List.not_mem_nil, or_false] at hes
    rcases hes with rfl | rfl | rfl <;> simp only [List.mem_cons, List.not_mem_nil, or_false] at he <;> (rcases he with rfl | rfl <;> exact ⟨by simp [hm], by simp [hm]⟩) ⟩ [0, 1, 1] (by simp [hm])
  have hq : net0.quot [0, 1, 1] = some ⟨[true, false], [-1, -1], [[⟨1, 2, [], []⟩], [⟨0, 2, [], []⟩]]⟩ := by kernel_rfl
  rw [hq] at h
  exact h
end Go.Proofs.YtgkkaimcchlnaaaGreatDoor
