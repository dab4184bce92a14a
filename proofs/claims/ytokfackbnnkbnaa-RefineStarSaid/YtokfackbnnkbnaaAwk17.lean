/- The examples of layer 17 come to what the document says. Printed by a program of this project (wip/mq). -/
import Derived.Test.YtokfackbnnkbnaaHv17
import Derived.Test.YtokfackbnnkbnaaNm17
set_option linter.unusedVariables false
set_option linter.unusedSimpArgs false

namespace Go.Proofs.Ytokfackbnnkbnaa
open Go Mq Go.ChangeShapes Go.WideShapes Go.ChangeAt Go.RowKit
/-! maquette/maquettelaw17.awake -/
def f10r0 : List PG := [.u (.mv 0 (.k (.bool false)))]
def f10r1 : List PG := [.u (.bsl 4 4 1 [.k (.bool true), .k (.bool false), .k (.bool false), .k (.bool false)]), .u (.bsl 5 3 1 [.k (.int .i64 (-1)), .k (.int .i64 (-1)), .k (.int .i64 (-1)), .k (.int .i64 (-1))]), .u (.bld 6 [.d (.v (.int .i64 0)), .d (.v (.int .i64 0)), .nl 10, .nl 10] [((0, 1), .k (.int .i64 1)), ((1, 1), .k (.int .i64 2))]), .u (.bld 7 [.d (.v (.int .i64 0)), .d (.v (.int .i64 0)), .nl 10, .nl 10] [((0, 1), .k (.int .i64 3)), ((1, 1), .k (.int .i64 2))]), .u (.bsl 8 33 4 [.t 6, .t 7]), .u (.bld 9 [.d (.v (.int .i64 0)), .d (.v (.int .i64 0)), .nl 10, .nl 10] [((0, 1), .k (.int .i64 0)), ((1, 1), .k (.int .i64 2))]), .u (.bld 10 [.d (.v (.int .i64 0)), .d (.v (.int .i64 0)), .nl 10, .nl 10] [((0, 1), .k (.int .i64 2)), ((1, 1), .k (.int .i64 2))]), .u (.bsl 11 33 4 [.t 9, .t 10]), .u (.bld 12 [.d (.v (.int .i64 0)), .d (.v (.int .i64 0)), .nl 10, .nl 10] [((0, 1), .k (.int .i64 1)), ((1, 1), .k (.int .i64 2))]), .u (.bld 13 [.d (.v (.int .i64 0)), .d (.v (.int .i64 0)), .nl 10, .nl 10] [((0, 1), .k (.int .i64 3)), ((1, 1), .k (.int .i64 2))]), .u (.bsl 14 33 4 [.t 12, .t 13]), .u (.bld 15 [.d (.v (.int .i64 0)), .d (.v (.int .i64 0)), .nl 10, .nl 10] [((0, 1), .k (.int .i64 0)), ((1, 1), .k (.int .i64 2))]), .u (.bld 16 [.d (.v (.int .i64 0)), .d (.v (.int .i64 0)), .nl 10, .nl 10] [((0, 1), .k (.int .i64 2)), ((1, 1), .k (.int .i64 2))]), .u (.bsl 17 33 4 [.t 15, .t 16]), .u (.bsl 18 34 1 [.t 8, .t 11, .t 14, .t 17]), .u (.bld 19 [.nl 1, .nl 1, .nl 1] [((0, 1), .t 4), ((1, 1), .t 5), ((2, 1), .t 18)]), .u (.al 1 [.nl 1, .nl 1, .nl 1]), .u (.st 3 (.t 1) (.t 19))]
def f10r2 : List PG := [.u (.ld 21 3 true (.t 1)), .uc 22 12 [.t 21], .u (.mv 20 (.t 22)), .u (.ext 23 (.t 20) 0), .u (.ext 24 (.t 20) 1), .u (.mv 2 (.t 23)), .u (.mv 3 (.t 24))]
def f10r3 : List PG := [.u (.mv 25 (.t 3)), .u (.beqn 26 false (.t 25)), .u (.mv 27 (.t 26)), .g 27 true (.mv 28 (.t 2)), .g 27 true (.bsl 29 3 1 [.k (.int .i64 0), .k (.int .i64 1), .k (.int .i64 2), .k (.int .i64 1)]), .gc 27 true 30 15 [.t 28, .t 29], .u (.pick 31 (.t 27) (.t 30) (.k (.bool false))), .u (.mv 0 (.t 31))]
abbrev f10p0 : PC := .seq (.reg f10r3) (.ret)
abbrev f10p1 : PC := .seq (.reg f10r2) (f10p0)
abbrev f10p2 : PC := .seq (.reg f10r1) (f10p1)
abbrev f10pc : PC := .seq (.reg f10r0) (f10p2)
def f10k : List Nat := [0, 1, 2, 3]
theorem f10c : Try.f10.body.bind (cC te Try.f10.ntmps) = some f10pc := by kernel_rfl
set_option maxRecDepth 20000
set_option maxHeartbeats 4000000
set_option linter.unusedSimpArgs false
set_option linter.unusedVariables false

def net17 : Net := ⟨[true, false, false, false], [-1, -1, -1, -1], [[⟨1, 2, [], []⟩, ⟨3, 2, [], []⟩], [⟨0, 2, [], []⟩, ⟨2, 2, [], []⟩], [⟨1, 2, [], []⟩, ⟨3, 2, [], []⟩], [⟨0, 2, [], []⟩, ⟨2, 2, [], []⟩]]⟩
theorem net17_small : net17.small := by
  refine ⟨by decide, by decide, by decide, fun es hes => ?_, fun es hes e he => ?_, fun es hes e he => ?_⟩
  · simp only [net17, List.mem_cons, List.not_mem_nil, or_false] at hes
    rcases hes with rfl | rfl | rfl | rfl <;> decide
  · simp only [net17, List.mem_cons, List.not_mem_nil, or_false] at hes
    rcases hes with rfl | rfl | rfl | rfl <;> simp only [List.mem_cons, List.not_mem_nil, or_false] at he <;> rcases he with rfl | rfl <;> decide
  · simp only [net17, List.mem_cons, List.not_mem_nil, or_false] at hes
    rcases hes with rfl | rfl | rfl | rfl <;> simp only [List.mem_cons, List.not_mem_nil, or_false] at he <;> rcases he with rfl | rfl <;> decide
theorem net17_find : findV net17 = [0, 1, 2, 1] := by decide +kernel
theorem rof17 : FnS Try.prog 12 [.ag [.d (.sl 1 [[.v (.bool true)], [.v (.bool false)], [.v (.bool false)], [.v (.bool false)]]), .d (.sl 1 [[.v (.int .i64 (-1))], [.v (.int .i64 (-1))], [.v (.int .i64 (-1))], [.v (.int .i64 (-1))]]), .d (.sl 1 [[.sl 4 [[.v (.int .i64 1), .v (.int .i64 2), .sl 10 [], .sl 10 []], [.v (.int .i64 3), .v (.int .i64 2), .sl 10 [], .sl 10 []]]], [.sl 4 [[.v (.int .i64 0), .v (.int .i64 2), .sl 10 [], .sl 10 []], [.v (.int .i64 2), .v (.int .i64 2), .sl 10 [], .sl 10 []]]], [.sl 4 [[.v (.int .i64 1), .v (.int .i64 2), .sl 10 [], .sl 10 []], [.v (.int .i64 3), .v (.int .i64 2), .sl 10 [], .sl 10 []]]], [.sl 4 [[.v (.int .i64 0), .v (.int .i64 2), .sl 10 [], .sl 10 []], [.v (.int .i64 2), .v (.int .i64 2), .sl 10 [], .sl 10 []]]]])]] (.tp [.d (.sl 1 [[.v (.int .i64 0)], [.v (.int .i64 1)], [.v (.int .i64 2)], [.v (.int .i64 1)]]), .d (.v .nilIface)]) := by
  have h := rof_yes net17 net17_small (by decide)
  rw [net17_find] at h
  exact h
theorem same17t : FnS Try.prog 15 [.d (.sl 1 [[.v (.int .i64 0)], [.v (.int .i64 1)], [.v (.int .i64 2)], [.v (.int .i64 1)]]), .d (.sl 1 [[.v (.int .i64 0)], [.v (.int .i64 1)], [.v (.int .i64 2)], [.v (.int .i64 1)]])] (.d (.v (.bool true))) := sameB_fn [0, 1, 2, 1] [0, 1, 2, 1] (by decide)
theorem awake17_fn : FnS Try.prog 10 [] (.d (.v (.bool true))) := by
  refine fn_of teok Try.func10 (by kernel_rfl) f10c f10k [.tmp 0] rfl (by show 0 ≤ 32; omega) ?_
  repeat' first
  | (exact absurd hc (by decide))
  | (with_reducible refine awp_cut (l := f10r1) [(14, [8, 11, 14, 17]), (3, [4, 5, 18])] ?_; unfold f10r1)
  | with_reducible refine awp_seq ?_
  | with_reducible refine awp_block ?_
  | with_reducible refine awp_scope ?_
  | with_reducible refine awp_reg ?_
  | with_reducible refine awp_regD ?_
  | with_reducible refine awp_ret ?_
  | with_reducible refine awp_skip ?_
  | with_reducible refine awp_exit ?_
  | with_reducible refine normQ_of ?_
  | with_reducible refine wkE_of ?_
  | with_reducible refine midQ_of (Wk_sub rfl rfl ?_ ?_)
  | with_reducible refine runD_nil ?_
  | with_reducible refine runD_cons ?_
  | with_reducible refine runF_cons ?_
  | with_reducible refine runF_nil ?_
  | with_reducible refine KF_of ?_
  | with_reducible refine chkQ_of rfl ?_
  | with_reducible refine awp_cond (by simp only [evX, lget, Option.getD_some, reduceIte, Nat.reduceEqDiff]; rfl) (fun hc => ?_) (fun hc => ?_)
  | with_reducible refine CallU_of (f := 12) (rof17) (by first | exact Or.inr (Or.inl rfl) | exact Or.inl rfl) ?_
  | with_reducible refine CallC_of (f := 12) (fun _ => rof17) (by first | exact Or.inr (Or.inl rfl) | exact Or.inl rfl) ?_
  | with_reducible refine CallU_of (f := 15) (same17t) (by first | exact Or.inr (Or.inl rfl) | exact Or.inl rfl) ?_
  | with_reducible refine CallC_of (f := 15) (fun _ => same17t) (by first | exact Or.inr (Or.inl rfl) | exact Or.inl rfl) ?_
  | (with_reducible assumption)
  | with_reducible refine fun (hG : okL _) => ?_
  | (with_reducible refine fun (hT : (_ : Bool) = _) => ?_)
  | (with_reducible first | exact hG.2 | exact hG.2.2 | exact hG.2.2.2 | exact hG.2.2.2.2)
  | with_reducible refine okL_mk ?_ ?_
  | with_reducible refine And.intro ?_ ?_
  | simp only [f10r0, f10r2, f10r3, f10k, te29, List.length_cons, List.getElem?_cons_zero, List.getElem?_cons_succ, runG_nil, runG_u, runG_g, runG_ucS, runG_gcS, runG_uvS, stp, avL, avS, evs, evX, lget, lput, strip, putO, PO.dst, updO, okR, cells, splice, AV.cell, toD, toDs, binV, sameK, pickV, guardOf, okL_nil, sides, argsOf, rawOf, dv, dvL, owns, ownsL, flat, flatL, lkeep, seqQ, blockQ, initS, List.drop_succ_cons, List.drop_zero, List.take_succ_cons, List.take_zero, List.getD_cons_zero, List.getD_cons_succ, List.length_cons, List.length_nil, List.set_cons_zero, List.set_cons_succ, List.map_cons, List.map_nil, List.all_cons, List.all_nil, List.elem_cons, List.elem_nil, Option.getD_some, Option.getD_none, Option.bind_some, Option.isNone_none, reduceIte, reduceCtorEq, Nat.reduceEqDiff, Nat.reduceAdd, Nat.reduceLeDiff, Nat.zero_add, Nat.add_zero, Nat.reduceBEq, Bool.and_self, Bool.and_true, Bool.true_and, Bool.or_self, Bool.or_false, Bool.false_or, Bool.or_true, Bool.true_or, true_and, and_true, and_self, implies_true, forall_const, Bool.false_eq_true, id_eq, retQ, resOf, resV, Option.some.injEq, exists_eq_left', AV.d.injEq, D.v.injEq, Value.bool.injEq, imp_self, bldF, bldS, toVals, eqLs, Option.map_some, imp_false, not_true_eq_false, not_false_eq_true, foot, wrs, nm, nmL, PG.reads, PG.dst, PO.reads, X.sl, sls, slB, List.append_nil, List.cons_append, List.nil_append, Option.toList_some, Option.toList_none, loopQ_exit, loopQ_ret, subS, subO, Bool.bne_false, Bool.bne_true, elemsOf, bslD, bslS, mentries, isAgV, asA, lputs, mgetD_set, mcmp_set, mput_set, List.headD_cons, sealS, sealO, sealV, sealL, mput_nil, mcmp_nil, midQ_ret, midQ_exit, sealsS, sealsO, runW_nil, runW_cons, Bool.true_bne, Bool.false_bne, bne_self_eq_false, Int.reduceToNat, bndV, oSl, resR, runS_nil, runS_gc, ren, renL, renO, sg, gBack, scopeQ_normal, scopeQ_ret, scopeQ_exit, lenB, argsN, dvN]
  all_goals try first | omega | decide | rfl | (simp; done)
  all_goals trace_state
end Go.Proofs.Ytokfackbnnkbnaa

