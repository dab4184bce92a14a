/- What layer 18's functions come to. Printed by a program of this project (wip/mq). -/
import Derived.Test.YtgkkaimcchlnaaaDoorQuot
set_option linter.unusedVariables false
set_option linter.unusedSimpArgs false

namespace Go.Proofs.YtgkkaimcchlnaaaDoor
open Go Mq Go.ChangeShapes Go.WideShapes Go.ChangeAt Go.RowKit
/-! maquette/maquettelaw18.awake -/
def f4r0 : List PG := [.u (.mv 0 (.k (.bool false)))]
def f4r1 : List PG := [.u (.bsl 4 4 1 [.k (.bool true), .k (.bool false), .k (.bool false)]), .u (.bsl 5 3 1 [.k (.int .i64 (-1)), .k (.int .i64 (-1)), .k (.int .i64 (-1))]), .u (.bld 6 [.d (.v (.int .i64 0)), .d (.v (.int .i64 0)), .nl 10, .nl 10] [((0, 1), .k (.int .i64 1)), ((1, 1), .k (.int .i64 2))]), .u (.bld 7 [.d (.v (.int .i64 0)), .d (.v (.int .i64 0)), .nl 10, .nl 10] [((0, 1), .k (.int .i64 2)), ((1, 1), .k (.int .i64 2))]), .u (.bsl 8 55 4 [.t 6, .t 7]), .u (.bld 9 [.d (.v (.int .i64 0)), .d (.v (.int .i64 0)), .nl 10, .nl 10] [((0, 1), .k (.int .i64 0)), ((1, 1), .k (.int .i64 2))]), .u (.bslF 10 55 4 [.t 9]), .u (.bld 11 [.d (.v (.int .i64 0)), .d (.v (.int .i64 0)), .nl 10, .nl 10] [((0, 1), .k (.int .i64 0)), ((1, 1), .k (.int .i64 2))]), .u (.bslF 12 55 4 [.t 11]), .u (.bsl 13 56 1 [.t 8, .t 10, .t 12]), .u (.bld 14 [.nl 1, .nl 1, .nl 1] [((0, 1), .t 4), ((1, 1), .t 5), ((2, 1), .t 13)]), .u (.al 1 [.nl 1, .nl 1, .nl 1]), .u (.st 3 (.t 1) (.t 14))]
def f4r2 : List PG := [.u (.ld 16 3 true (.t 1)), .u (.bsl 17 3 1 [.k (.int .i64 0), .k (.int .i64 1), .k (.int .i64 1)]), .uc 18 7 [.t 16, .t 17], .u (.mv 15 (.t 18)), .u (.ext 19 (.t 15) 0), .u (.ext 20 (.t 15) 1), .u (.al 2 [.nl 1, .nl 1, .nl 1]), .u (.st 3 (.t 2) (.t 19)), .u (.mv 3 (.t 20))]
def f4r3 : List PG := [.u (.mv 21 (.t 3)), .u (.beqn 22 false (.t 21)), .u (.mv 23 (.t 22)), .g 23 true (.fa 24 0 (.t 2)), .g 23 true (.ld 25 1 false (.t 24)), .g 23 true (.len 26 (.t 25)), .g 23 true (.beq 27 false false (.t 26) (.k (.int .i64 2))), .u (.pick 28 (.t 23) (.t 27) (.k (.bool false))), .u (.mv 29 (.t 28)), .g 29 true (.fa 30 2 (.t 2)), .g 29 true (.ld 31 1 false (.t 30)), .g 29 true (.ia 32 1 (.t 31) (.k (.int .i64 0))), .g 29 true (.ld 33 1 false (.t 32)), .g 29 true (.len 34 (.t 33)), .g 29 true (.beq 35 false false (.t 34) (.k (.int .i64 1))), .u (.pick 36 (.t 29) (.t 35) (.k (.bool false))), .u (.mv 37 (.t 36)), .g 37 true (.fa 38 2 (.t 2)), .g 37 true (.ld 39 1 false (.t 38)), .g 37 true (.ia 40 1 (.t 39) (.k (.int .i64 1))), .g 37 true (.ld 41 1 false (.t 40)), .g 37 true (.len 42 (.t 41)), .g 37 true (.beq 43 false false (.t 42) (.k (.int .i64 1))), .u (.pick 44 (.t 37) (.t 43) (.k (.bool false))), .u (.mv 45 (.t 44)), .g 45 true (.fa 46 2 (.t 2)), .g 45 true (.ld 47 1 false (.t 46)), .g 45 true (.ia 48 1 (.t 47) (.k (.int .i64 0))), .g 45 true (.ld 49 1 false (.t 48)), .g 45 true (.ia 50 4 (.t 49) (.k (.int .i64 0))), .g 45 true (.fa 51 0 (.t 50)), .g 45 true (.ld 52 1 false (.t 51)), .g 45 true (.beq 53 false false (.t 52) (.k (.int .i64 1))), .u (.pick 54 (.t 45) (.t 53) (.k (.bool false))), .u (.mv 0 (.t 54))]
abbrev f4p0 : PC := .seq (.reg f4r3) (.ret)
abbrev f4p1 : PC := .seq (.reg f4r2) (f4p0)
abbrev f4p2 : PC := .seq (.reg f4r1) (f4p1)
abbrev f4pc : PC := .seq (.reg f4r0) (f4p2)
def f4k : List Nat := [0, 1, 2, 3]
theorem f4c : Tryd.f4.body.bind (cC te Tryd.f4.ntmps) = some f4pc := by kernel_rfl
set_option maxRecDepth 20000
set_option maxHeartbeats 4000000
set_option linter.unusedSimpArgs false
set_option linter.unusedVariables false

theorem quot_fn (n : Net) (hn : n.ok) (b : List Int) (hb : b.length ≤ maxLen) : FnS Tryd.prog 7 [n.av, .d (.sl 1 (b.map iD))] (quotV (n.quot b)) := by
  cases hf : n.firsts b with
  | none => exact quot_none n hn b hb hf
  | some fs => exact quot_some n hn b hb fs hf
def net0 : Net := ⟨[true, false, false], [-1, -1, -1], [[⟨1, 2, [], []⟩, ⟨2, 2, [], []⟩], [⟨0, 2, [], []⟩], [⟨0, 2, [], []⟩]]⟩
theorem quot0 : FnS Tryd.prog 7 [.ag [.d (.sl 1 [[.v (.bool true)], [.v (.bool false)], [.v (.bool false)]]), .d (.sl 1 [[.v (.int .i64 (-1))], [.v (.int .i64 (-1))], [.v (.int .i64 (-1))]]), .d (.sl 1 [[.sl 4 [[.v (.int .i64 1), .v (.int .i64 2), .sl 10 [], .sl 10 []], [.v (.int .i64 2), .v (.int .i64 2), .sl 10 [], .sl 10 []]]], [.sl 4 [[.v (.int .i64 0), .v (.int .i64 2), .sl 10 [], .sl 10 []]]], [.sl 4 [[.v (.int .i64 0), .v (.int .i64 2), .sl 10 [], .sl 10 []]]]])], .d (.sl 1 [[.v (.int .i64 0)], [.v (.int .i64 1)], [.v (.int .i64 1)]])]
    (.tp [.ag [.d (.sl 1 [[.v (.bool true)], [.v (.bool false)]]), .d (.sl 1 [[.v (.int .i64 (-1))], [.v (.int .i64 (-1))]]), .d (.sl 1 [[.sl 4 [[.v (.int .i64 1), .v (.int .i64 2), .sl 10 [], .sl 10 []]]], [.sl 4 [[.v (.int .i64 0), .v (.int .i64 2), .sl 10 [], .sl 10 []]]]])], .d (.v .nilIface)]) := by
  have hm : maxLen = 9223372036854775807 := rfl
  have h := quot_fn net0 ⟨by simp [net0, hm], by simp [net0, hm], by simp [net0, hm], by simp [net0, hm], by
    intro es hes e he
    simp only [net0, List.mem_cons, List.not_mem_nil, or_false] at hes
    rcases hes with rfl | rfl | rfl <;> simp only [List.mem_cons, List.not_mem_nil, or_false] at he <;> (rcases he with rfl | rfl <;> exact ⟨by simp [hm], by simp [hm]⟩) ⟩ [0, 1, 1] (by simp [hm])
  have hq : net0.quot [0, 1, 1] = some ⟨[true, false], [-1, -1], [[⟨1, 2, [], []⟩], [⟨0, 2, [], []⟩]]⟩ := by kernel_rfl
  rw [hq] at h
  exact h
theorem awake18_fn : FnS Tryd.prog 4 [] (.d (.v (.bool true))) := by
  refine fn_of teok Tryd.func4 (by kernel_rfl) f4c f4k [.tmp 0] rfl (by show 0 ≤ 55; omega) ?_
  repeat' first
  | (with_reducible refine awp_cut (l := f4r1) [(9, [8, 10, 12]), (3, [4, 5, 13])] ?_; unfold f4r1)
  | (with_reducible refine awp_cut (l := f4r2) [(2, [17])] ?_; unfold f4r2)
  | with_reducible refine awp_seq ?_
  | with_reducible refine awp_block ?_
  | with_reducible refine awp_scope ?_
  | with_reducible refine awp_reg ?_
  | with_reducible refine awp_regD ?_
  | with_reducible refine awp_ret ?_
  | with_reducible refine awp_skip ?_
  | with_reducible refine awp_exit ?_
  | with_reducible refine normQ_of ?_
  | with_reducible refine wkE_of ?_
  | with_reducible refine midQ_of (Wk_sub rfl rfl ?_ ?_)
  | with_reducible refine runD_nil ?_
  | with_reducible refine runD_cons ?_
  | with_reducible refine runF_cons ?_
  | with_reducible refine runF_nil ?_
  | with_reducible refine KF_of ?_
  | with_reducible refine chkQ_of rfl ?_
  | with_reducible refine awp_cond (by simp only [evX, lget, Option.getD_some, reduceIte, Nat.reduceEqDiff]; rfl) (fun hc => ?_) (fun hc => ?_)
  | with_reducible refine CallU_of (f := 7) (quot0) (by first | exact Or.inr (Or.inl rfl) | exact Or.inl rfl) ?_
  | with_reducible refine CallC_of (f := 7) (fun _ => quot0) (by first | exact Or.inr (Or.inl rfl) | exact Or.inl rfl) ?_
  | (with_reducible assumption)
  | with_reducible refine fun (hG : okL _) => ?_
  | (with_reducible refine fun (hT : (_ : Bool) = _) => ?_)
  | (with_reducible first | exact hG.2 | exact hG.2.2 | exact hG.2.2.2 | exact hG.2.2.2.2)
  | with_reducible refine okL_mk ?_ ?_
  | with_reducible refine And.intro ?_ ?_
  | simp only [f4r0, f4r3, f4k, List.length_cons, List.getElem?_cons_zero, List.getElem?_cons_succ, runG_nil, runG_u, runG_g, runG_ucS, runG_gcS, runG_uvS, stp, avL, avS, evs, evX, lget, lput, strip, putO, PO.dst, updO, okR, cells, splice, AV.cell, toD, toDs, binV, sameK, pickV, guardOf, okL_nil, sides, argsOf, rawOf, dv, dvL, owns, ownsL, flat, flatL, lkeep, seqQ, blockQ, initS, List.drop_succ_cons, List.drop_zero, List.take_succ_cons, List.take_zero, List.getD_cons_zero, List.getD_cons_succ, List.length_cons, List.length_nil, List.set_cons_zero, List.set_cons_succ, List.map_cons, List.map_nil, List.all_cons, List.all_nil, List.elem_cons, List.elem_nil, Option.getD_some, Option.getD_none, Option.bind_some, Option.isNone_none, reduceIte, reduceCtorEq, Nat.reduceEqDiff, Nat.reduceAdd, Nat.reduceLeDiff, Nat.zero_add, Nat.add_zero, Nat.reduceBEq, Bool.and_self, Bool.and_true, Bool.true_and, Bool.or_self, Bool.or_false, Bool.false_or, Bool.or_true, Bool.true_or, true_and, and_true, and_self, implies_true, forall_const, Bool.false_eq_true, id_eq, retQ, resOf, resV, Option.some.injEq, exists_eq_left', AV.d.injEq, D.v.injEq, Value.bool.injEq, imp_self, bldF, bldS, toVals, eqLs, Option.map_some, imp_false, not_true_eq_false, not_false_eq_true, foot, wrs, nm, nmL, PG.reads, PG.dst, PO.reads, X.sl, sls, slB, List.append_nil, List.cons_append, List.nil_append, Option.toList_some, Option.toList_none, loopQ_exit, loopQ_ret, subS, subO, Bool.bne_false, Bool.bne_true, elemsOf, bslD, bslS, mentries, isAgV, asA, lputs, mgetD_set, mcmp_set, mput_set, List.headD_cons, sealS, sealO, sealV, sealL, mput_nil, mcmp_nil, midQ_ret, midQ_exit, sealsS, sealsO, runW_nil, runW_cons, Bool.true_bne, Bool.false_bne, bne_self_eq_false, Int.reduceToNat, bndV, oSl, resR, runS_nil, runS_gc, ren, renL, renO, sg, gBack, scopeQ_normal, scopeQ_ret, scopeQ_exit, lenB, argsN, dvN]
  all_goals first | omega | decide | rfl | (simp; done)

end Go.Proofs.YtgkkaimcchlnaaaDoor

