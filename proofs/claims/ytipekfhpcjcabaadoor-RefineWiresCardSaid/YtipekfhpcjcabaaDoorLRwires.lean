/- The law RefineWires: whatever the input, it returns true and changes nothing; where errors.errorType holds what the program's text lays it to. Printed by a program of this project (wip/mq). -/
import Derived.Test.YtipekfhpcjcabaaDoorCard
import Derived.Test.YtipekfhpcjcabaaDoorRwires
set_option linter.unusedVariables false
set_option linter.unusedSimpArgs false

namespace Go.Proofs.YtipekfhpcjcabaaDoor
open Go Mq Go.ChangeShapes Go.WideShapes Go.ChangeAt Go.RowKit
set_option maxRecDepth 20000
set_option maxHeartbeats 4000000
set_option linter.unusedSimpArgs false
set_option linter.unusedVariables false
theorem rwires_as (av : List AV) (h : dArgs te 8 [22, 23, 24] av) : FnS Tryd.prog 7 av (.d (.v (.bool true))) := by
  obtain ⟨x, _, rfl, hx, y, _, rfl, hy, z, _, rfl, hz, rfl⟩ := h
  rw [dT] at hx hy hz
  simp only [te22, te23, te24, te4, te64, te73] at hx hy hz
  obtain ⟨l1, rfl, m1, g1⟩ := hx
  obtain ⟨l2, rfl, m2, g2⟩ := hy
  obtain ⟨l3, rfl, _, g3⟩ := hz
  obtain ⟨o, rfl⟩ := rows_of bD _ (fun x hx => bool_row hx) l1 (fun x hx => (g1 x hx).2)
  obtain ⟨st, rfl⟩ := rows_of (fun x => [D.v (.int .i8 x)]) _ (fun x hx => i8_row hx) l2 (fun x hx => (g2 x hx).2)
  obtain ⟨ws, rfl, hw⟩ := rows_ofQ wsD _ _ (fun x hx => ws_row (n := 2) hx) l3 (fun x hx => (g3 x hx).2)
  exact rwires_fn o (by simpa using m1) st (by simpa using m2) ws ⟨fun r hr => (hw r hr).1, fun r hr w hm => ((hw r hr).2 w hm).exp, fun r hr w hm => ((hw r hr).2 w hm).imp, fun r hr w hm => ((hw r hr).2 w hm).expR, fun r hr w hm => ((hw r hr).2 w hm).impR⟩

set_option maxRecDepth 100000 in
theorem refineWires_lifted (os : Os) (started : os.Started) (H : Type) (enc : TypeId × Value → H) :
    ReturnsInLeavingWide {} Tryd.checked os 7 .any (fun w args => (Rows.refineWiresSpec.pre enc Tryd.prog Tryd.f7 Rows.refineWiresRow.domain false w args ∧ laidMetH Tryd.prog [("errors.errorType", Rows.laid_errors_errorType)] w) ∧ sizedMet enc Tryd.prog Tryd.f7 (OpenSpec.ofChange Rows.refineWiresSpec) false w args) (Rows.refineWiresSpec.post enc Tryd.prog Tryd.f7 false true false false) := by
  refine leaving_of_handed (returnsInHanded_of_change_and (C := Tryd.checked) (X := fun w _ => laidMetH Tryd.prog [("errors.errorType", Rows.laid_errors_errorType)] w) (fun _ _ _ hh h => h.of_heap hh) own started (by kernel_rfl) Tryd.func7
    (ChangeSpec.witness_at (enc := enc) (C := Tryd.checked) (os := os) (X := fun w _ => laidMetH Tryd.prog [("errors.errorType", Rows.laid_errors_errorType)] w) false (laidWorld os) #[.slice none 0 0, .slice none 0 0, .slice none 0 0] 8 rfl (by kernel_rfl) (by kernel_rfl) (by kernel_rfl) (by kernel_rfl) (by kernel_rfl) (laidWorld_met os _)) ?_)
  intro W base args ds gs before hval hW hcnd _ hL _
  have hp : Tryd.f7.params.toList = [22, 23, 24] := by kernel_rfl
  refine law_calls (n := 8) (b := 4) laidOut (by rw [hp]; exact List.forall_mem_cons.2 ⟨⟨by kernel_rfl, of_decide_eq_true (by kernel_rfl)⟩, List.forall_mem_cons.2 ⟨⟨by kernel_rfl, of_decide_eq_true (by kernel_rfl)⟩, List.forall_mem_cons.2 ⟨⟨by kernel_rfl, of_decide_eq_true (by kernel_rfl)⟩, (by simp)⟩⟩⟩) (by rw [hp]; exact List.forall_mem_cons.2 ⟨by kernel_rfl, List.forall_mem_cons.2 ⟨by kernel_rfl, List.forall_mem_cons.2 ⟨by kernel_rfl, (by simp)⟩⟩⟩) rfl (by kernel_rfl) (by kernel_rfl) (fun ds hd => ?_) hval hW (gx_of_cell (handle_of_laid hL)) (fun av h => rwires_as av (argsT_d teok _ _ _ (by rw [hp]; exact List.forall_mem_cons.2 ⟨rfl, List.forall_mem_cons.2 ⟨rfl, List.forall_mem_cons.2 ⟨rfl, (by simp)⟩⟩⟩) h |> (hp ▸ ·)))
  have hd : ds.length = 3 := hd
  match ds, hd with
  | [_, _, _], _ => rfl
theorem refineWires_said : Rows.RefineWiresSaid :=
  OpenClaim.holds_of_wide_leaving 7 Tryd.f7 rfl rfl rfl rfl rfl rfl rfl ⟨rfl, rfl, rfl, rfl, rfl⟩ rfl rfl rfl rfl rfl (by kernel_rfl) Tryd.func7 (by kernel_rfl)
    (of_decide_eq_true (by kernel_rfl)) (by unfold Func.isWrapper; first | (rw [if_pos (by decide +kernel)]; kernel_rfl) | (rw [if_neg (by decide +kernel)]; exact ⟨rfl, rfl⟩))
    (fun os started H enc _ => refineWires_lifted os started H enc)
theorem refineWires_holds : Rows.RefineWiresCardSaid :=
  holds_tied_goes [.handle] true (true, "d91b0bc874452d232d61fea59e56ed63081850862a9dacca15f5665823f2ee01") true true
    refineWires_said (by kernel_rfl) refineWires_row_tie rfl ⟨rfl, rfl⟩ (by kernel_rfl) rfl
    (fun f fn hf hfn => by
      obtain rfl : f = 7 := (Option.some.inj ((show Tryd.prog.funcNamed Rows.refineWiresRow.func = some 7 by kernel_rfl).symm.trans hf)).symm
      obtain rfl : fn = Tryd.f7 := (Option.some.inj (Tryd.func7.symm.trans hfn)).symm
      exact ⟨by kernel_rfl, fun j t ht => by
        have hp : Tryd.f7.params.toList = [22, 23, 24] := by kernel_rfl
        have hm : t ∈ Tryd.f7.params.toList := by rw [Array.mem_toList_iff]; exact Array.mem_of_getElem? ht
        rw [hp] at hm
        have hall : ∀ t ∈ [22, 23, 24], Tryd.prog.wantsStandIn t = false := List.forall_mem_cons.2 ⟨by kernel_rfl, List.forall_mem_cons.2 ⟨by kernel_rfl, List.forall_mem_cons.2 ⟨by kernel_rfl, (by simp)⟩⟩⟩
        exact hall t hm⟩)
    (by kernel_rfl)
end Go.Proofs.YtipekfhpcjcabaaDoor

