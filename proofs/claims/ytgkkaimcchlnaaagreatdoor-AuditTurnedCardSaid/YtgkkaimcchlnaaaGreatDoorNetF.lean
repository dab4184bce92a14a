/- What layer 15's Net comes to, and what is known of that network. Printed by a program of this project (wip/mq). -/
import Derived.Test.YtgkkaimcchlnaaaGreatDoorNetOf
import Derived.Test.YtgkkaimcchlnaaaGreatDoorMqPl
set_option linter.unusedVariables false
set_option linter.unusedSimpArgs false

namespace Go.Proofs.YtgkkaimcchlnaaaGreatDoor
open Go Mq Go.ChangeShapes Go.WideShapes Go.ChangeAt Go.RowKit
set_option maxRecDepth 20000
set_option maxHeartbeats 4000000


theorem netOfF_fn (sh : Shape) (hs : sh.ok) (w : Int) (hw : 0 ≤ w ∧ w ≤ 255) : FnS Tryz.prog 30 [sh.av, .d (.v (.int .u8 w))] (netA (sh.netV w)) := by
  by_cases hc : sh.conf.cls = []
  · exact netOf_none sh hs w hc
  · exact netOf_some sh hs w hw hc
theorem net_facts {sh : Shape} {w : Int} {x : Net × Int × Int} (hx : sh.netV w = some x) : x.1.small ∧ x.1.may = true ∧ x.1.May ∧ x.1.origin.length ≤ 64 ∧ 0 < x.1.origin.length := by
  obtain ⟨hxn, hn0⟩ := Shape.netV_n hx
  have hmay : x.1.may = true := by rw [hxn]; exact Shape.net_may _ _ _
  have m := Net.may_spec hmay
  refine ⟨by rw [hxn]; exact Shape.net_small _ _ _, hmay, m, m.most, ?_⟩
  rw [hxn, (Shape.net_lens sh _ _).1]; exact hn0
end Go.Proofs.YtgkkaimcchlnaaaGreatDoor
