/- The examples of layer 15's statements. Printed by a program of this project (wip/mq). -/
import Derived.Test.YtajkgmmmkhekmaaStable
namespace Go.Proofs.Ytajkgmmmkhekmaa
open Go Mq Go.ChangeShapes Go.WideShapes Go.ChangeAt Go.RowKit
/-! maquette/maquettelaw15.awake -/
def f13r0 : List PG := [.u (.mv 0 (.k (.bool false)))]
def f13r1 : List PG := [.u (.bsl 4 4 1 [.k (.bool true), .k (.bool false)]), .u (.bsl 5 3 1 [.k (.int .i64 (-1)), .k (.int .i64 (-1))]), .u (.bld 6 [.d (.v (.int .i64 0)), .d (.v (.int .i64 0)), .nl 10, .nl 10] [((0, 1), .k (.int .i64 0)), ((1, 1), .k (.int .i64 3))]), .u (.bsl 7 54 4 [.t 6]), .u (.bsl 8 51 1 [.nl 4, .t 7]), .u (.bld 9 [.nl 1, .nl 1, .nl 1] [((0, 1), .t 4), ((1, 1), .t 5), ((2, 1), .t 8)]), .u (.al 1 [.nl 1, .nl 1, .nl 1]), .u (.st 3 (.t 1) (.t 9))]
def f13r2 : List PG := [.u (.bld 10 [.d (.v (.bool false)), .d (.v (.int .i64 0)), .d (.v (.int .i64 0)), .d (.v (.int .u8 0))] [((0, 1), .k (.bool true)), ((1, 1), .k (.int .i64 100))]), .u (.bld 11 [.d (.v (.bool false)), .d (.v (.int .i64 0)), .d (.v (.int .i64 0)), .d (.v (.int .u8 0))] [((0, 1), .k (.bool true)), ((1, 1), .k (.int .i64 100)), ((2, 1), .k (.int .i64 3))]), .u (.bsl 12 45 4 [.t 10, .t 11]), .u (.mv 2 (.t 12))]
def f13r3 : List PG := [.u (.bld 13 [.d (.v (.bool false)), .d (.v (.int .i64 0)), .d (.v (.int .i64 0)), .d (.v (.int .u8 0))] [((0, 1), .k (.bool true)), ((1, 1), .k (.int .i64 100))]), .u (.bld 14 [.d (.v (.bool false)), .d (.v (.int .i64 0)), .d (.v (.int .i64 0)), .d (.v (.int .u8 0))] [((0, 1), .k (.bool true)), ((1, 1), .k (.int .i64 100)), ((2, 1), .k (.int .i64 4))]), .u (.bsl 15 45 4 [.t 13, .t 14]), .u (.mv 3 (.t 15))]
def f13r4 : List PG := [.u (.ld 16 3 true (.t 1)), .uc 17 23 [.t 16], .u (.mv 18 (.t 17)), .g 18 true (.ld 19 3 true (.t 1)), .g 18 true (.mv 20 (.t 2)), .gc 18 true 21 24 [.t 19, .t 20], .u (.pick 22 (.t 18) (.t 21) (.k (.bool false))), .u (.mv 23 (.t 22)), .g 23 true (.ld 24 3 true (.t 1)), .g 23 true (.mv 25 (.t 3)), .gc 23 true 26 24 [.t 24, .t 25], .g 23 true (.no 27 (.t 26)), .u (.pick 28 (.t 23) (.t 27) (.k (.bool false))), .u (.mv 0 (.t 28))]
abbrev f13p0 : PC := .seq (.reg f13r4) (.ret)
abbrev f13p1 : PC := .seq (.reg f13r3) (f13p0)
abbrev f13p2 : PC := .seq (.reg f13r2) (f13p1)
abbrev f13p3 : PC := .seq (.reg f13r1) (f13p2)
abbrev f13pc : PC := .seq (.reg f13r0) (f13p3)
def f13k : List Nat := [0, 1, 2, 3]
theorem f13c : Try.f13.body.bind (cC te Try.f13.ntmps) = some f13pc := by kernel_rfl
set_option maxRecDepth 20000
set_option maxHeartbeats 4000000
set_option linter.unusedSimpArgs false
set_option linter.unusedVariables false

def net1 : Net := ⟨[true, false], [-1, -1], [[], [⟨0, 3, [], []⟩]]⟩
theorem net1_small : net1.small := by
  refine ⟨by decide, by decide, by decide, ?_, ?_, ?_⟩ <;> intro es hes <;> simp only [net1, List.mem_cons, List.not_mem_nil, or_false] at hes <;> rcases hes with rfl | rfl <;> first | decide | (intro e he; simp at he; done) | (intro e he; simp at he; subst he; decide)
theorem may1 : FnS Try.prog 23 [.ag [.d (.sl 1 [[.v (.bool true)], [.v (.bool false)]]), .d (.sl 1 [[.v (.int .i64 (-1))], [.v (.int .i64 (-1))]]), .d (.sl 1 [[.sl 4 []], [.sl 4 [[.v (.int .i64 0), .v (.int .i64 3), .sl 10 [], .sl 10 []]]]])]] (.d (.v (.bool true))) := by
  have h := may_fn net1 net1_small.ok
  rw [show net1.may = true by kernel_rfl] at h
  exact h
theorem is1 : FnS Try.prog 24 [.ag [.d (.sl 1 [[.v (.bool true)], [.v (.bool false)]]), .d (.sl 1 [[.v (.int .i64 (-1))], [.v (.int .i64 (-1))]]), .d (.sl 1 [[.sl 4 []], [.sl 4 [[.v (.int .i64 0), .v (.int .i64 3), .sl 10 [], .sl 10 []]]]])], .d (.sl 4 [[.v (.bool true), .v (.int .i64 100), .v (.int .i64 0), .v (.int .u8 0)], [.v (.bool true), .v (.int .i64 100), .v (.int .i64 3), .v (.int .u8 0)]])] (.d (.v (.bool true))) := by
  have h := is_fn net1 net1_small [⟨true, 100, 0, 0⟩, ⟨true, 100, 3, 0⟩] (by decide)
  rw [show net1.isV [⟨true, 100, 0, 0⟩, ⟨true, 100, 3, 0⟩] = true by kernel_rfl] at h
  exact h
theorem is2 : FnS Try.prog 24 [.ag [.d (.sl 1 [[.v (.bool true)], [.v (.bool false)]]), .d (.sl 1 [[.v (.int .i64 (-1))], [.v (.int .i64 (-1))]]), .d (.sl 1 [[.sl 4 []], [.sl 4 [[.v (.int .i64 0), .v (.int .i64 3), .sl 10 [], .sl 10 []]]]])], .d (.sl 4 [[.v (.bool true), .v (.int .i64 100), .v (.int .i64 0), .v (.int .u8 0)], [.v (.bool true), .v (.int .i64 100), .v (.int .i64 4), .v (.int .u8 0)]])] (.d (.v (.bool false))) := by
  have h := is_fn net1 net1_small [⟨true, 100, 0, 0⟩, ⟨true, 100, 4, 0⟩] (by decide)
  rw [show net1.isV [⟨true, 100, 0, 0⟩, ⟨true, 100, 4, 0⟩] = false by kernel_rfl] at h
  exact h
theorem awake15_fn : FnS Try.prog 13 [] (.d (.v (.bool true))) := by
  refine fn_of teok Try.func13 (by kernel_rfl) f13c f13k [.tmp 0] rfl (by show 0 ≤ 29; omega) ?_
  repeat' first
  | (with_reducible refine awp_cut (l := f13r1) [(4, [7]), (1, [4, 5, 8])] ?_; unfold f13r1)
  | (with_reducible refine awp_cut (l := f13r2) [(3, [12])] ?_; unfold f13r2)
  | (with_reducible refine awp_cut (l := f13r3) [(3, [15])] ?_; unfold f13r3)
  | with_reducible refine awp_seq ?_
  | with_reducible refine awp_block ?_
  | with_reducible refine awp_reg ?_
  | with_reducible refine awp_regD ?_
  | with_reducible refine awp_ret ?_
  | with_reducible refine awp_skip ?_
  | with_reducible refine awp_exit ?_
  | with_reducible refine normQ_of ?_
  | with_reducible refine wkE_of ?_
  | with_reducible refine midQ_of (Wk_sub rfl rfl ?_ ?_)
  | with_reducible refine runD_nil ?_
  | with_reducible refine runD_cons ?_
  | with_reducible refine runF_cons ?_
  | with_reducible refine runF_nil ?_
  | with_reducible refine KF_of ?_
  | with_reducible refine chkQ_of rfl ?_
  | with_reducible refine awp_cond (by simp only [evX, lget, Option.getD_some, reduceIte, Nat.reduceEqDiff]; rfl) (fun hc => ?_) (fun hc => ?_)
  | with_reducible refine CallU_of (f := 23) (may1) (by first | exact Or.inr (Or.inl rfl) | exact Or.inl rfl) ?_
  | with_reducible refine CallC_of (f := 23) (fun _ => may1) (by first | exact Or.inr (Or.inl rfl) | exact Or.inl rfl) ?_
  | with_reducible refine CallU_of (f := 24) (is1) (by first | exact Or.inr (Or.inl rfl) | exact Or.inl rfl) ?_
  | with_reducible refine CallC_of (f := 24) (fun _ => is1) (by first | exact Or.inr (Or.inl rfl) | exact Or.inl rfl) ?_
  | with_reducible refine CallU_of (f := 24) (is2) (by first | exact Or.inr (Or.inl rfl) | exact Or.inl rfl) ?_
  | with_reducible refine CallC_of (f := 24) (fun _ => is2) (by first | exact Or.inr (Or.inl rfl) | exact Or.inl rfl) ?_
  | (with_reducible assumption)
  | with_reducible refine fun (hG : okL _) => ?_
  | (with_reducible refine fun (hT : (_ : Bool) = _) => ?_)
  | (with_reducible first | exact hG.2 | exact hG.2.2 | exact hG.2.2.2 | exact hG.2.2.2.2)
  | with_reducible refine okL_mk ?_ ?_
  | with_reducible refine And.intro ?_ ?_
  | simp only [f13r0, f13r4, f13k, List.length_cons, List.getElem?_cons_zero, List.getElem?_cons_succ, runG_nil, runG_u, runG_g, runG_ucS, runG_gcS, runG_uvS, stp, avL, avS, evs, evX, lget, lput, strip, putO, PO.dst, updO, okR, cells, splice, AV.cell, toD, toDs, binV, sameK, pickV, guardOf, okL_nil, sides, argsOf, rawOf, dv, dvL, owns, ownsL, flat, flatL, lkeep, seqQ, blockQ, initS, List.drop_succ_cons, List.drop_zero, List.take_succ_cons, List.take_zero, List.getD_cons_zero, List.getD_cons_succ, List.length_cons, List.length_nil, List.set_cons_zero, List.set_cons_succ, List.map_cons, List.map_nil, List.all_cons, List.all_nil, List.elem_cons, List.elem_nil, Option.getD_some, Option.getD_none, Option.bind_some, Option.isNone_none, reduceIte, reduceCtorEq, Nat.reduceEqDiff, Nat.reduceAdd, Nat.reduceLeDiff, Nat.zero_add, Nat.add_zero, Nat.reduceBEq, Bool.and_self, Bool.and_true, Bool.true_and, Bool.or_self, Bool.or_false, Bool.false_or, Bool.or_true, Bool.true_or, true_and, and_true, and_self, implies_true, forall_const, Bool.false_eq_true, id_eq, retQ, resOf, resV, Option.some.injEq, exists_eq_left', AV.d.injEq, D.v.injEq, Value.bool.injEq, imp_self, bldF, bldS, toVals, eqLs, Option.map_some, imp_false, not_true_eq_false, not_false_eq_true, foot, wrs, nm, nmL, PG.reads, PG.dst, PO.reads, X.sl, sls, slB, List.append_nil, List.cons_append, List.nil_append, Option.toList_some, Option.toList_none, loopQ_exit, loopQ_ret, subS, subO, Bool.bne_false, Bool.bne_true, elemsOf, bslD, bslS, mentries, isAgV, asA, lputs, mgetD_set, mcmp_set, mput_set, List.headD_cons, sealS, sealO, sealV, sealL, mput_nil, mcmp_nil, midQ_ret, midQ_exit, sealsS, sealsO, runW_nil, runW_cons, Bool.true_bne, Bool.false_bne, bne_self_eq_false, Int.reduceToNat, bndV, oSl, resR, runS_nil, runS_gc, ren, renL, renO, sg, gBack]
  all_goals first | omega | decide | rfl | (simp; done)

end Go.Proofs.Ytajkgmmmkhekmaa
