/- The examples of layer 16's statements. Printed by a program of this project (wip/mq). -/
import Derived.Test.YtajkgmmmkhekmaaGreedy
namespace Go.Proofs.Ytajkgmmmkhekmaa
open Go Mq Go.ChangeShapes Go.WideShapes Go.ChangeAt Go.RowKit
/-! maquette/maquettelaw16.awake -/
def f27r0 : List PG := [.u (.mv 0 (.k (.bool false)))]
def f27r1 : List PG := [.u (.bsl 4 4 1 [.k (.bool true), .k (.bool false), .k (.bool false)]), .u (.bsl 5 3 1 [.k (.int .i64 (-1)), .k (.int .i64 (-1)), .k (.int .i64 (-1))]), .u (.bld 6 [.d (.v (.int .i64 0)), .d (.v (.int .i64 0)), .nl 10, .nl 10] [((0, 1), .k (.int .i64 1)), ((1, 1), .k (.int .i64 2))]), .u (.bsl 7 54 4 [.t 6]), .u (.bld 8 [.d (.v (.int .i64 0)), .d (.v (.int .i64 0)), .nl 10, .nl 10] [((0, 1), .k (.int .i64 0)), ((1, 1), .k (.int .i64 2))]), .u (.bld 9 [.d (.v (.int .i64 0)), .d (.v (.int .i64 0)), .nl 10, .nl 10] [((0, 1), .k (.int .i64 2)), ((1, 1), .k (.int .i64 2))]), .u (.bsl 10 54 4 [.t 8, .t 9]), .u (.bld 11 [.d (.v (.int .i64 0)), .d (.v (.int .i64 0)), .nl 10, .nl 10] [((0, 1), .k (.int .i64 1)), ((1, 1), .k (.int .i64 2))]), .u (.bsl 12 54 4 [.t 11]), .u (.bsl 13 51 1 [.t 7, .t 10, .t 12]), .u (.bld 14 [.nl 1, .nl 1, .nl 1] [((0, 1), .t 4), ((1, 1), .t 5), ((2, 1), .t 13)]), .u (.al 1 [.nl 1, .nl 1, .nl 1]), .u (.st 3 (.t 1) (.t 14))]
def f27r2 : List PG := [.u (.ld 16 3 true (.t 1)), .uc 17 29 [.t 16], .u (.mv 15 (.t 17)), .u (.ext 18 (.t 15) 0), .u (.ext 19 (.t 15) 1), .u (.mv 2 (.t 18)), .u (.mv 3 (.t 19))]
def f27r3 : List PG := [.u (.mv 20 (.t 3)), .u (.mv 21 (.t 20)), .g 21 true (.mv 22 (.t 2)), .g 21 true (.len 23 (.t 22)), .g 21 true (.beq 24 false false (.t 23) (.k (.int .i64 3))), .u (.pick 25 (.t 21) (.t 24) (.k (.bool false))), .u (.mv 26 (.t 25)), .g 26 true (.mv 27 (.t 2)), .g 26 true (.ia 28 4 (.t 27) (.k (.int .i64 0))), .g 26 true (.fa 29 0 (.t 28)), .g 26 true (.ld 30 1 false (.t 29)), .u (.pick 31 (.t 26) (.t 30) (.k (.bool false))), .u (.mv 32 (.t 31)), .g 32 true (.mv 33 (.t 2)), .g 32 true (.ia 34 4 (.t 33) (.k (.int .i64 1))), .g 32 true (.fa 35 2 (.t 34)), .g 32 true (.ld 36 1 false (.t 35)), .g 32 true (.beq 37 false false (.t 36) (.k (.int .i64 2))), .u (.pick 38 (.t 32) (.t 37) (.k (.bool false))), .u (.mv 39 (.t 38)), .g 39 true (.mv 40 (.t 2)), .g 39 true (.ia 41 4 (.t 40) (.k (.int .i64 2))), .g 39 true (.fa 42 2 (.t 41)), .g 39 true (.ld 43 1 false (.t 42)), .g 39 true (.beq 44 false false (.t 43) (.k (.int .i64 4))), .u (.pick 45 (.t 39) (.t 44) (.k (.bool false))), .u (.mv 0 (.t 45))]
abbrev f27p0 : PC := .seq (.reg f27r3) (.ret)
abbrev f27p1 : PC := .seq (.reg f27r2) (f27p0)
abbrev f27p2 : PC := .seq (.reg f27r1) (f27p1)
abbrev f27pc : PC := .seq (.reg f27r0) (f27p2)
def f27k : List Nat := [0, 1, 2, 3]
theorem f27c : Try.f27.body.bind (cC te Try.f27.ntmps) = some f27pc := by kernel_rfl
set_option maxRecDepth 20000
set_option maxHeartbeats 4000000
set_option linter.unusedSimpArgs false
set_option linter.unusedVariables false

def net16 : Net := ⟨[true, false, false], [-1, -1, -1], [[⟨1, 2, [], []⟩], [⟨0, 2, [], []⟩, ⟨2, 2, [], []⟩], [⟨1, 2, [], []⟩]]⟩
theorem net16_small : net16.small := by
  refine ⟨by decide, by decide, by decide, ?_, ?_, ?_⟩ <;> intro es hes <;> simp only [net16, List.mem_cons, List.not_mem_nil, or_false] at hes <;> rcases hes with rfl | rfl | rfl <;> first | decide | (intro e he; simp at he; subst he; decide) | (intro e he; simp at he; rcases he with rfl | rfl <;> decide)
theorem greedy16 : FnS Try.prog 29 [.ag [.d (.sl 1 [[.v (.bool true)], [.v (.bool false)], [.v (.bool false)]]), .d (.sl 1 [[.v (.int .i64 (-1))], [.v (.int .i64 (-1))], [.v (.int .i64 (-1))]]), .d (.sl 1 [[.sl 4 [[.v (.int .i64 1), .v (.int .i64 2), .sl 10 [], .sl 10 []]]], [.sl 4 [[.v (.int .i64 0), .v (.int .i64 2), .sl 10 [], .sl 10 []], [.v (.int .i64 2), .v (.int .i64 2), .sl 10 [], .sl 10 []]]], [.sl 4 [[.v (.int .i64 1), .v (.int .i64 2), .sl 10 [], .sl 10 []]]]])]] (.tp [.d (.sl 4 [[.v (.bool true), .v (.int .i64 100), .v (.int .i64 0), .v (.int .u8 0)], [.v (.bool true), .v (.int .i64 100), .v (.int .i64 2), .v (.int .u8 0)], [.v (.bool true), .v (.int .i64 100), .v (.int .i64 4), .v (.int .u8 0)]]), .d (.v (.bool true))]) := by
  have h := greedy_fn net16 net16_small
  rw [show net16.greedy = some [⟨true, 100, 0, 0⟩, ⟨true, 100, 2, 0⟩, ⟨true, 100, 4, 0⟩] by kernel_rfl] at h
  exact h
theorem awake16_fn : FnS Try.prog 27 [] (.d (.v (.bool true))) := by
  refine fn_of teok Try.func27 (by kernel_rfl) f27c f27k [.tmp 0] rfl (by show 0 ≤ 46; omega) ?_
  repeat' first
  | (with_reducible refine awp_cut (l := f27r1) [(9, [7, 10, 12]), (1, [4, 5, 13])] ?_; unfold f27r1)
  | with_reducible refine awp_seq ?_
  | with_reducible refine awp_block ?_
  | with_reducible refine awp_reg ?_
  | with_reducible refine awp_regD ?_
  | with_reducible refine awp_ret ?_
  | with_reducible refine awp_skip ?_
  | with_reducible refine awp_exit ?_
  | with_reducible refine normQ_of ?_
  | with_reducible refine wkE_of ?_
  | with_reducible refine midQ_of (Wk_sub rfl rfl ?_ ?_)
  | with_reducible refine runD_nil ?_
  | with_reducible refine runD_cons ?_
  | with_reducible refine runF_cons ?_
  | with_reducible refine runF_nil ?_
  | with_reducible refine KF_of ?_
  | with_reducible refine chkQ_of rfl ?_
  | with_reducible refine awp_cond (by simp only [evX, lget, Option.getD_some, reduceIte, Nat.reduceEqDiff]; rfl) (fun hc => ?_) (fun hc => ?_)
  | with_reducible refine CallU_of (f := 29) (greedy16) (by first | exact Or.inr (Or.inl rfl) | exact Or.inl rfl) ?_
  | with_reducible refine CallC_of (f := 29) (fun _ => greedy16) (by first | exact Or.inr (Or.inl rfl) | exact Or.inl rfl) ?_
  | (with_reducible assumption)
  | with_reducible refine fun (hG : okL _) => ?_
  | (with_reducible refine fun (hT : (_ : Bool) = _) => ?_)
  | (with_reducible first | exact hG.2 | exact hG.2.2 | exact hG.2.2.2 | exact hG.2.2.2.2)
  | with_reducible refine okL_mk ?_ ?_
  | with_reducible refine And.intro ?_ ?_
  | simp only [f27r0, f27r2, f27r3, f27k, List.length_cons, List.getElem?_cons_zero, List.getElem?_cons_succ, runG_nil, runG_u, runG_g, runG_ucS, runG_gcS, runG_uvS, stp, avL, avS, evs, evX, lget, lput, strip, putO, PO.dst, updO, okR, cells, splice, AV.cell, toD, toDs, binV, sameK, pickV, guardOf, okL_nil, sides, argsOf, rawOf, dv, dvL, owns, ownsL, flat, flatL, lkeep, seqQ, blockQ, initS, List.drop_succ_cons, List.drop_zero, List.take_succ_cons, List.take_zero, List.getD_cons_zero, List.getD_cons_succ, List.length_cons, List.length_nil, List.set_cons_zero, List.set_cons_succ, List.map_cons, List.map_nil, List.all_cons, List.all_nil, List.elem_cons, List.elem_nil, Option.getD_some, Option.getD_none, Option.bind_some, Option.isNone_none, reduceIte, reduceCtorEq, Nat.reduceEqDiff, Nat.reduceAdd, Nat.reduceLeDiff, Nat.zero_add, Nat.add_zero, Nat.reduceBEq, Bool.and_self, Bool.and_true, Bool.true_and, Bool.or_self, Bool.or_false, Bool.false_or, Bool.or_true, Bool.true_or, true_and, and_true, and_self, implies_true, forall_const, Bool.false_eq_true, id_eq, retQ, resOf, resV, Option.some.injEq, exists_eq_left', AV.d.injEq, D.v.injEq, Value.bool.injEq, imp_self, bldF, bldS, toVals, eqLs, Option.map_some, imp_false, not_true_eq_false, not_false_eq_true, foot, wrs, nm, nmL, PG.reads, PG.dst, PO.reads, X.sl, sls, slB, List.append_nil, List.cons_append, List.nil_append, Option.toList_some, Option.toList_none, loopQ_exit, loopQ_ret, subS, subO, Bool.bne_false, Bool.bne_true, elemsOf, bslD, bslS, mentries, isAgV, asA, lputs, mgetD_set, mcmp_set, mput_set, List.headD_cons, sealS, sealO, sealV, sealL, mput_nil, mcmp_nil, midQ_ret, midQ_exit, sealsS, sealsO, runW_nil, runW_cons, Bool.true_bne, Bool.false_bne, bne_self_eq_false, Int.reduceToNat, bndV, oSl, resR, runS_nil, runS_gc, ren, renL, renO, sg, gBack]
  all_goals first | omega | decide | rfl | (simp; done)
end Go.Proofs.Ytajkgmmmkhekmaa
