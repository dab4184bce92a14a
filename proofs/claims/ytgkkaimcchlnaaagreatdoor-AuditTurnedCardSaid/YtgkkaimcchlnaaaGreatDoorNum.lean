/- What api.Number comes to, of no error and of an api.Errno. Printed by a program of this project (wip/mq). -/
import Derived.Test.YtgkkaimcchlnaaaGreatDoorQ0
import Derived.Test.YtgkkaimcchlnaaaGreatDoorAs
import Derived.ChangeSame
import Derived.ChangeVars
import Derived.JoinedOf
import Derived.LaidLaws
import Derived.LaidHandle
import Derived.Stop.Joined
set_option linter.unusedVariables false
set_option linter.unusedSimpArgs false

namespace Go.Proofs.YtgkkaimcchlnaaaGreatDoor
open Go Mq Go.ChangeShapes Go.WideShapes Go.ChangeAt Go.RowKit
set_option maxRecDepth 20000
set_option maxHeartbeats 4000000


/-! What the row lists gives a walk: the cell of errors.errorType. -/
theorem et : Tryz.prog.globalNamed "errors.errorType" = some 0 := by kernel_rfl
theorem rt : (Tryz.prog.cutTypes.find? (·.1 == "internal/reflectlite.rtype")).map (·.2) = some 282 := by kernel_rfl
theorem oneRow : ((List.range 405).filter fun t => Tryz.prog.rowNamed t [101, 114, 114, 111, 114]) = [46] := by kernel_rfl
theorem tsize : Tryz.prog.types.size = 405 := by kernel_rfl
theorem handle_of_laid {W : World} (h : laidMetH Tryz.prog [("errors.errorType", Rows.laid_errors_errorType)] W) : W.cell? ⟨0, 0, none⟩ = some (.iface 282 (.agg #[.pointer (some ⟨9, 46, none⟩)])) := by
  have h' : laidMet Tryz.prog [] W ∧ handlesMet Tryz.prog [("errors.errorType", Rows.laid_errors_errorType)] W := h
  obtain ⟨name, u, ty, e1, e2, e3, e4, e5⟩ := h'.2 _ (List.mem_singleton.2 rfl)
  have en : name = [101, 114, 114, 111, 114] := (Option.some.inj e1).symm
  subst en
  obtain rfl := Option.some.inj (rt.symm.trans e2)
  have hm : ty ∈ (List.range 405).filter fun t => Tryz.prog.rowNamed t [101, 114, 114, 111, 114] := List.mem_filter.2 ⟨List.mem_range.2 (by rw [← tsize]; exact e3), e4⟩
  rw [oneRow] at hm
  obtain rfl := List.mem_singleton.1 hm
  have hh : typeHandle Tryz.prog 46 = .pointer (some ⟨9, 46, none⟩) := by kernel_rfl
  rw [hh] at e5
  simpa using World.var?_cell et e5 0
theorem gx_of_cell {W : World} (h : W.cell? ⟨0, 0, none⟩ = some (.iface 282 (.agg #[.pointer (some ⟨9, 46, none⟩)]))) : GX (Full W) := by
  intro x hx
  obtain rfl := List.mem_singleton.1 hx
  unfold World.cell? at h
  simp only [Option.isSome_none, Bool.false_eq_true, if_false] at h
  split at h
  · rename_i cs t fr hb
    exact ⟨cs, t, fr, hb, h⟩
  · cases h
theorem cell_of_gx {h : Hp} {W : World} (g : GX h) (hv : Vis h W) : W.cell? ⟨0, 0, none⟩ = some (.iface 282 (.agg #[.pointer (some ⟨9, 46, none⟩)])) := by
  obtain ⟨cs, t, fr, h1, h2⟩ := g (0, .iface 282 (.agg #[.pointer (some ⟨9, 46, none⟩)])) (List.mem_singleton.2 rfl)
  have := hv _ _ h1
  unfold World.cell?
  simp only [this, Option.isSome_none, Bool.false_eq_true, if_false]
  exact h2
theorem below_alloc (w : World) (o : Obj) : Below w.heap.size w (w.alloc o) := ⟨rfl, rfl, rfl, by simp, fun k hk => by show (w.heap.push o)[k]? = w.heap[k]?; rw [Array.getElem?_push, if_neg (Nat.ne_of_lt hk)]⟩
theorem below_step {n : Nat} {w w' : World} (h : Below n w w') (hn : n ≤ w'.heap.size) (o : Obj) : Below n w (w'.alloc o) := by
  have h2 := below_alloc w' o
  exact ⟨h2.os.trans h.os, h2.tape.trans h.tape, h2.output.trans h.output, Nat.le_trans h.size h2.size, fun k hk => (h2.block k (Nat.lt_of_lt_of_le hk hn)).trans (h.block k hk)⟩
theorem vis_of {h : Hp} {w w' : World} (hv : Vis h w) (hb : Below w.heap.size w w') : Vis h w' := fun b o ho => by
  have := hv b o ho
  rw [hb.block b (Array.getElem?_eq_some_iff.1 this).1]; exact this
theorem numLive : Live Tryz.prog 34 := ⟨Tryz.f34, by kernel_rfl, by kernel_rfl, by kernel_rfl⟩
theorem number_nil : FnS Tryz.prog 34 [.d (.v .nilIface)] (.d (.v (.int .i64 0))) := by
  refine ⟨numLive, fun w h vs hg hv hs ha => ?_⟩
  obtain ⟨a, rfl⟩ : ∃ a, vs = #[a] := by
    match vs, hs with
    | ⟨[a]⟩, _ => exact ⟨a, rfl⟩
  have h0 := ha 0 _ rfl
  cases h0 with
  | d _ _ hr => cases hr with
    | v _ _ =>
      refine (num_nil w).mono ?_
      rintro e w' ⟨rfl, rfl⟩
      exact ⟨_, h, rfl, .d _ _ (.v _ rfl), Hp.le.refl h, vis_of hv (below_alloc _ _), fun _ _ => rfl, below_alloc _ _⟩
theorem number_hit (n : Int) : FnS Tryz.prog 34 [.d (.v (.iface 95 (.int .i64 n)))] (.d (.v (.int .i64 n))) := by
  refine ⟨numLive, fun w h vs hg hv hs ha => ?_⟩
  obtain ⟨a, rfl⟩ : ∃ a, vs = #[a] := by
    match vs, hs with
    | ⟨[a]⟩, _ => exact ⟨a, rfl⟩
  have h0 := ha 0 _ rfl
  cases h0 with
  | d _ _ hr => cases hr with
    | v _ _ =>
      refine (num_hit n w (cell_of_gx hg hv)).mono ?_
      rintro e w' ⟨rfl, a, b, c, d, f, rfl, _⟩
      have hb : Below w.heap.size w (((((w.alloc a).alloc b).alloc c).alloc d).alloc f) :=
        below_step (below_step (below_step (below_step (below_alloc _ _) (by simp) _) (by simp; omega) _) (by simp; omega) _) (by simp; omega) _
      exact ⟨_, h, rfl, .d _ _ (.v _ rfl), Hp.le.refl h, vis_of hv hb, fun _ _ => rfl, hb⟩
/-- An error as it is told: none, or an Errno. -/
def errV (c : Int) : AV := if c = 0 then .d (.v .nilIface) else .d (.v (.iface 95 (.int .i64 c)))
theorem errno_fn (c : Int) : FnS Tryz.prog 34 [errV c] (.d (.v (.int .i64 c))) := by
  unfold errV
  split
  · rename_i h; subst h; exact number_nil
  · exact number_hit c
end Go.Proofs.YtgkkaimcchlnaaaGreatDoor
