/- What layer 10 comes to: which routes are better. Printed by a program of this project (wip/mq). -/
import Derived.Test.YtokfackbnnkbnaaGreatDoorQ0
import Derived.Test.YtokfackbnnkbnaaGreatDoorMqPl
set_option linter.unusedVariables false
set_option linter.unusedSimpArgs false

namespace Go.Proofs.YtokfackbnnkbnaaGreatDoor
open Go Mq Go.ChangeShapes Go.WideShapes Go.ChangeAt Go.RowKit
/-! maquette/attr.Better -/
def f50r0 : List PG := [.u (.bx 2 (.t 0)), .u (.bx 3 (.t 1)), .u (.mv 4 (.k (.bool false)))]
def f50r1 : List PG := [.u (.fa 6 0 (.t 2)), .u (.ld 7 1 false (.t 6)), .u (.no 8 (.t 7)), .u (.mv 9 (.t 8)), .g 9 false (.fa 10 0 (.t 3)), .g 9 false (.ld 11 1 false (.t 10)), .g 9 false (.no 12 (.t 11)), .u (.pick 13 (.t 9) (.k (.bool true)) (.t 12)), .u (.mv 5 (.t 13))]
def f50r2 : List PG := [.u (.fa 14 0 (.t 2)), .u (.ld 15 1 false (.t 14)), .u (.mv 16 (.t 15)), .g 16 true (.fa 17 0 (.t 3)), .g 16 true (.ld 18 1 false (.t 17)), .g 16 true (.no 19 (.t 18)), .u (.pick 20 (.t 16) (.t 19) (.k (.bool false))), .u (.mv 4 (.t 20))]
abbrev f50p0 : PC := .seq (.reg f50r2) (.ret)
def f50r3 : List PG := [.u (.fa 22 1 (.t 2)), .u (.ld 23 1 false (.t 22)), .u (.fa 24 1 (.t 3)), .u (.ld 25 1 false (.t 24)), .u (.beq 26 true false (.t 23) (.t 25)), .u (.mv 21 (.t 26))]
def f50r4 : List PG := [.u (.fa 27 1 (.t 2)), .u (.ld 28 1 false (.t 27)), .u (.fa 29 1 (.t 3)), .u (.ld 30 1 false (.t 29)), .u (.bo 31 .gtr (.t 28) (.t 30)), .u (.mv 4 (.t 31))]
abbrev f50p1 : PC := .seq (.reg f50r4) (.ret)
def f50r5 : List PG := [.u (.fa 33 2 (.t 2)), .u (.ld 34 1 false (.t 33)), .u (.fa 35 2 (.t 3)), .u (.ld 36 1 false (.t 35)), .u (.beq 37 true false (.t 34) (.t 36)), .u (.mv 32 (.t 37))]
def f50r6 : List PG := [.u (.fa 38 2 (.t 2)), .u (.ld 39 1 false (.t 38)), .u (.fa 40 2 (.t 3)), .u (.ld 41 1 false (.t 40)), .u (.bo 42 .lss (.t 39) (.t 41)), .u (.mv 4 (.t 42))]
abbrev f50p2 : PC := .seq (.reg f50r6) (.ret)
abbrev f50p3 : PC := .cond (.t 32) (f50p2) (.skip)
abbrev f50p4 : PC := .seq (.reg f50r5) (f50p3)
abbrev f50p5 : PC := .cond (.t 21) (f50p1) (f50p4)
abbrev f50p6 : PC := .seq (.reg f50r3) (f50p5)
abbrev f50p7 : PC := .cond (.t 5) (f50p0) (f50p6)
def f50r7 : List PG := [.u (.fa 43 3 (.t 2)), .u (.ld 44 1 false (.t 43)), .u (.fa 45 3 (.t 3)), .u (.ld 46 1 false (.t 45)), .u (.bo 47 .lss (.t 44) (.t 46)), .u (.mv 4 (.t 47))]
abbrev f50p8 : PC := .seq (.reg f50r7) (.ret)
abbrev f50p9 : PC := .seq (.block 0 (.seq (.reg f50r1) (f50p7))) (f50p8)
abbrev f50pc : PC := .seq (.reg f50r0) (f50p9)
def f50k : List Nat := [0, 1, 2, 3, 4, 5, 21, 32]
theorem f50c : Tryz.f50.body.bind (cC te Tryz.f50.ntmps) = some f50pc := by kernel_rfl
/-! maquette/attr.Same -/
def f24r0 : List PG := [.u (.bx 2 (.t 0)), .u (.bx 3 (.t 1)), .u (.mv 4 (.k (.bool false)))]
def f24r1 : List PG := [.u (.fa 5 0 (.t 2)), .u (.ld 6 1 false (.t 5)), .u (.no 7 (.t 6)), .u (.mv 8 (.t 7)), .g 8 true (.fa 9 0 (.t 3)), .g 8 true (.ld 10 1 false (.t 9)), .g 8 true (.no 11 (.t 10)), .u (.pick 12 (.t 8) (.t 11) (.k (.bool false))), .u (.mv 13 (.t 12)), .g 13 false (.ld 14 4 true (.t 2)), .g 13 false (.ld 15 4 true (.t 3)), .g 13 false (.beqs 16 false [.b, .i, .i, .i] (.t 14) (.t 15)), .u (.pick 17 (.t 13) (.k (.bool true)) (.t 16)), .u (.mv 4 (.t 17))]
abbrev f24p0 : PC := .seq (.reg f24r1) (.ret)
abbrev f24pc : PC := .seq (.reg f24r0) (f24p0)
def f24k : List Nat := [0, 1, 2, 3, 4]
theorem f24c : Tryz.f24.body.bind (cC te Tryz.f24.ntmps) = some f24pc := by kernel_rfl
/-! maquette/attr.Origin -/
def f26r0 : List PG := [.u (.al 0 [.d (.v (.bool false)), .d (.v (.int .i64 0)), .d (.v (.int .i64 0)), .d (.v (.int .u8 0))])]
def f26r1 : List PG := [.u (.bld 1 [.d (.v (.bool false)), .d (.v (.int .i64 0)), .d (.v (.int .i64 0)), .d (.v (.int .u8 0))] [((0, 1), .k (.bool true)), ((1, 1), .k (.int .i64 100))]), .u (.st 4 (.t 0) (.t 1))]
abbrev f26p0 : PC := .seq (.reg f26r1) (.ret)
abbrev f26pc : PC := .seq (.reg f26r0) (f26p0)
def f26k : List Nat := [0]
theorem f26c : Tryz.f26.body.bind (cC te Tryz.f26.ntmps) = some f26pc := by kernel_rfl
/-! maquette/attr.Best -/
def f27r0 : List PG := [.u (.al 2 [.d (.v (.bool false)), .d (.v (.int .i64 0)), .d (.v (.int .i64 0)), .d (.v (.int .u8 0))])]
def f27r1 : List PG := [.u (.al 3 [.d (.v (.bool false)), .d (.v (.int .i64 0)), .d (.v (.int .i64 0)), .d (.v (.int .u8 0))])]
def f27r2 : List PG := [.u (.mv 6 (.t 0)), .u (.len 7 (.t 6)), .u (.mv 8 (.k (.int .i64 0)))]
def f27r3 : List PG := [.u (.bo 9 .lss (.t 8) (.t 7))]
def f27r4 : List PG := [.u (.ia 10 4 (.t 6) (.t 8)), .u (.ld 11 4 true (.t 10)), .u (.al 5 [.d (.v (.bool false)), .d (.v (.int .i64 0)), .d (.v (.int .i64 0)), .d (.v (.int .u8 0))]), .u (.st 4 (.t 5) (.t 11))]
def f27r5 : List PG := [.u (.ld 12 4 true (.t 5)), .u (.ld 13 4 true (.t 3)), .uc 14 50 [.t 12, .t 13]]
def f27r6 : List PG := [.u (.ld 15 4 true (.t 5)), .u (.st 4 (.t 3) (.t 15))]
abbrev f27p0 : PC := .cond (.t 14) (.reg f27r6) (.skip)
abbrev f27p1 : PC := .seq (.reg f27r5) (f27p0)
def f27r7 : List PG := [.u (.bo 16 .add (.t 8) (.k (.int .i64 1))), .u (.mv 8 (.t 16))]
abbrev f27p2 : PC := .seq (.block 1 (.seq (.reg f27r4) (f27p1))) (.reg f27r7)
abbrev f27p3 : PC := .seq (.cond (.t 9) (.skip) (.exit 0)) (f27p2)
abbrev f27p4 : PC := .seq (.reg f27r3) (f27p3)
abbrev f27p5 : PC := .block 0 (.loop (f27p4))
def f27r8 : List PG := [.u (.ld 17 4 true (.t 3)), .u (.st 4 (.t 2) (.t 17))]
abbrev f27p6 : PC := .seq (.reg f27r8) (.ret)
abbrev f27p7 : PC := .seq (.seq (.reg f27r2) (f27p5)) (f27p6)
abbrev f27p8 : PC := .seq (.reg f27r1) (f27p7)
abbrev f27pc : PC := .seq (.reg f27r0) (f27p8)
def f27k : List Nat := [0, 2, 3, 5, 6, 7, 8, 9, 14]
theorem f27c : Tryz.f27.body.bind (cC te Tryz.f27.ntmps) = some f27pc := by kernel_rfl
set_option maxRecDepth 20000
set_option maxHeartbeats 4000000
set_option linter.unusedSimpArgs false
set_option linter.unusedVariables false

theorem better_fn (x y : Attr) : FnS Tryz.prog 50 [x.av, y.av] (.d (.v (.bool (better x y)))) := by
  refine fn_of teok Tryz.func50 (by kernel_rfl) f50c f50k [.tmp 4] rfl (by show 2 ≤ 48; omega) ?_
  repeat' first
  | (with_reducible first | refine awp_seq ?_ | refine awp_block ?_ | refine awp_reg ?_ | refine awp_ret ?_ | refine awp_skip ?_ | refine normQ_of ?_ | refine wkE_of ?_)
  | with_reducible refine awp_cond (by simp only [evX, lget, Option.getD_some, reduceIte, Nat.reduceEqDiff]; rfl) (fun hc => ?_) (fun hc => ?_)
  | (with_reducible assumption)
  | with_reducible refine fun (hG : okL _) => ?_
  | (with_reducible refine fun (hT : (_ : Bool) = _) => ?_)
  | (with_reducible first | exact hG.2 | exact hG.2.2 | exact hG.2.2.2 | exact hG.2.2.2.2)
  | with_reducible refine okL_mk ?_ ?_
  | with_reducible refine And.intro ?_ ?_
  | simp only [f50r0, f50r1, f50r2, f50r3, f50r4, f50r5, f50r6, f50r7, f50k, runG_nil, runG_u, runG_g, runG_ucS, stp, avL, avS, evs, evX, lget, lput, strip, putO, PO.dst, updO, okR, cells, splice, AV.cell, toD, toDs, binV, sameK, pickV, guardOf, okL_nil, sides, argsOf, rawOf, dv, dvL, owns, ownsL, flat, flatL, lkeep, seqQ, blockQ, initS, List.drop_succ_cons, List.drop_zero, List.take_succ_cons, List.take_zero, List.getD_cons_zero, List.getD_cons_succ, List.length_cons, List.length_nil, List.set_cons_zero, List.set_cons_succ, List.map_cons, List.map_nil, List.all_cons, List.all_nil, List.elem_cons, List.elem_nil, Option.getD_some, Option.getD_none, Option.bind_some, Option.isNone_none, reduceIte, reduceCtorEq, Nat.reduceEqDiff, Nat.reduceAdd, Nat.reduceLeDiff, Nat.zero_add, Nat.add_zero, Nat.reduceBEq, Bool.and_self, Bool.and_true, Bool.true_and, Bool.or_self, Bool.or_false, Bool.false_or, Bool.or_true, Bool.true_or, true_and, and_true, and_self, implies_true, forall_const, Bool.false_eq_true, id_eq, retQ, resOf, resV, Option.some.injEq, exists_eq_left', AV.d.injEq, D.v.injEq, Value.bool.injEq, imp_self, bldF, bldS, toVals, eqLs, Option.map_some, imp_false, not_true_eq_false, not_false_eq_true, List.append_nil, List.cons_append, List.nil_append, Option.toList_some, Option.toList_none, subS, subO, Bool.bne_false, Bool.bne_true, elemsOf, bslD, bslS, lputs, List.headD_cons, sealS, sealO, sealV, sealL, sealsS, sealsO, Bool.true_bne, Bool.false_bne, bne_self_eq_false, Int.reduceToNat, oSl, resR, argsN, dvN]
  all_goals simp_all [better]
theorem asame_fn (x y : Attr) : FnS Tryz.prog 24 [x.av, y.av] (.d (.v (.bool (sameA x y)))) := by
  refine fn_of teok Tryz.func24 (by kernel_rfl) f24c f24k [.tmp 4] rfl (by show 2 ≤ 18; omega) ?_
  repeat' first
  | (with_reducible first | refine awp_seq ?_ | refine awp_reg ?_ | refine awp_ret ?_ | refine awp_skip ?_ | refine normQ_of ?_ | refine wkE_of ?_)
  | with_reducible refine awp_cond (by simp only [evX, lget, Option.getD_some, reduceIte, Nat.reduceEqDiff]; rfl) (fun hc => ?_) (fun hc => ?_)
  | (with_reducible assumption)
  | with_reducible refine fun (hG : okL _) => ?_
  | (with_reducible refine fun (hT : (_ : Bool) = _) => ?_)
  | (with_reducible first | exact hG.2 | exact hG.2.2 | exact hG.2.2.2 | exact hG.2.2.2.2)
  | with_reducible refine okL_mk ?_ ?_
  | with_reducible refine And.intro ?_ ?_
  | simp only [f24r0, f24r1, f24k, runG_nil, runG_u, runG_g, runG_ucS, stp, avL, avS, evs, evX, lget, lput, strip, putO, PO.dst, updO, okR, cells, splice, AV.cell, toD, toDs, binV, sameK, pickV, guardOf, okL_nil, sides, argsOf, rawOf, dv, dvL, owns, ownsL, flat, flatL, lkeep, seqQ, blockQ, initS, List.drop_succ_cons, List.drop_zero, List.take_succ_cons, List.take_zero, List.getD_cons_zero, List.getD_cons_succ, List.length_cons, List.length_nil, List.set_cons_zero, List.set_cons_succ, List.map_cons, List.map_nil, List.all_cons, List.all_nil, List.elem_cons, List.elem_nil, Option.getD_some, Option.getD_none, Option.bind_some, Option.isNone_none, reduceIte, reduceCtorEq, Nat.reduceEqDiff, Nat.reduceAdd, Nat.reduceLeDiff, Nat.zero_add, Nat.add_zero, Nat.reduceBEq, Bool.and_self, Bool.and_true, Bool.true_and, Bool.or_self, Bool.or_false, Bool.false_or, Bool.or_true, Bool.true_or, true_and, and_true, and_self, implies_true, forall_const, Bool.false_eq_true, id_eq, retQ, resOf, resV, Option.some.injEq, exists_eq_left', AV.d.injEq, D.v.injEq, Value.bool.injEq, imp_self, bldF, bldS, toVals, eqLs, Option.map_some, imp_false, not_true_eq_false, not_false_eq_true, List.append_nil, List.cons_append, List.nil_append, Option.toList_some, Option.toList_none, subS, subO, Bool.bne_false, Bool.bne_true, elemsOf, bslD, bslS, lputs, List.headD_cons, sealS, sealO, sealV, sealL, sealsS, sealsO, Bool.true_bne, Bool.false_bne, bne_self_eq_false, Int.reduceToNat, oSl, resR, argsN, dvN]
  all_goals (cases x; cases y; rename_i o p c t o' p' c' t'; cases o <;> cases o' <;> simp [sameA])
theorem origin_fn : FnS Tryz.prog 26 [] origA.av := by
  refine fn_of teok Tryz.func26 (by kernel_rfl) f26c f26k [.cell 0 51] rfl (by show 0 ≤ 2; omega) ?_
  repeat' first
  | (with_reducible first | refine awp_seq ?_ | refine awp_reg ?_ | refine awp_ret ?_ | refine awp_skip ?_ | refine normQ_of ?_ | refine wkE_of ?_)
  | with_reducible refine awp_cond (by simp only [evX, lget, Option.getD_some, reduceIte, Nat.reduceEqDiff]; rfl) (fun hc => ?_) (fun hc => ?_)
  | (with_reducible assumption)
  | (with_reducible refine fun (hT : (_ : Bool) = _) => ?_)
  | with_reducible refine And.intro ?_ ?_
  | simp only [f26r0, f26r1, f26k, te51, runG_nil, runG_u, runG_ucS, stp, avL, avS, evs, evX, lget, lput, strip, putO, PO.dst, updO, okR, cells, splice, AV.cell, toD, toDs, binV, sameK, pickV, guardOf, okL_nil, sides, argsOf, rawOf, dv, dvL, owns, ownsL, flat, flatL, lkeep, seqQ, blockQ, initS, List.drop_succ_cons, List.drop_zero, List.take_succ_cons, List.take_zero, List.getD_cons_zero, List.getD_cons_succ, List.length_cons, List.length_nil, List.set_cons_zero, List.set_cons_succ, List.map_cons, List.map_nil, List.all_cons, List.all_nil, List.elem_cons, List.elem_nil, Option.getD_some, Option.getD_none, Option.bind_some, Option.isNone_none, reduceIte, reduceCtorEq, Nat.reduceEqDiff, Nat.reduceAdd, Nat.reduceLeDiff, Nat.zero_add, Nat.add_zero, Nat.reduceBEq, Bool.and_self, Bool.and_true, Bool.true_and, Bool.or_self, Bool.or_false, Bool.false_or, Bool.or_true, Bool.true_or, true_and, and_true, and_self, implies_true, forall_const, Bool.false_eq_true, id_eq, retQ, resOf, resV, Option.some.injEq, exists_eq_left', AV.d.injEq, D.v.injEq, Value.bool.injEq, imp_self, bldF, bldS, toVals, eqLs, Option.map_some, imp_false, not_true_eq_false, not_false_eq_true, List.append_nil, List.cons_append, List.nil_append, Option.toList_some, Option.toList_none, subS, subO, Bool.bne_false, Bool.bne_true, elemsOf, bslD, bslS, lputs, List.headD_cons, sealS, sealO, sealV, sealL, sealsS, sealsO, Bool.true_bne, Bool.false_bne, bne_self_eq_false, Int.reduceToNat, oSl, resR, argsN, dvN]
  all_goals rfl
theorem best_fn (l : List Attr) (hl : l.length ≤ maxLen) : FnS Tryz.prog 27 [.d (.sl 4 (l.map Attr.row))] (bestV l).av := by
  refine fn_of teok Tryz.func27 (by kernel_rfl) f27c f27k [.cell 2 51] rfl (by show 1 ≤ 18; omega) ?_
  first | (have _q := @g1; clear _q) | have g1 : Nat.pred 77 = 76 := rfl
  repeat' first
  | (with_reducible first | refine awp_seq ?_ | refine awp_block ?_ | refine awp_reg ?_ | refine awp_ret ?_ | refine awp_skip ?_ | refine awp_exit ?_ | refine normQ_of ?_ | refine wkE_of ?_)
  | with_reducible refine awp_cond (by simp only [evX, lget, Option.getD_some, reduceIte, Nat.reduceEqDiff]; rfl) (fun hc => ?_) (fun hc => ?_)
  | with_reducible refine CallU_of (f := 50) (better_fn a x.2) (by first | exact Or.inr (Or.inl rfl) | exact Or.inl rfl) ?_
  | (with_reducible assumption)
  | (with_reducible refine fun (hT : (_ : Bool) = _) => ?_)
  | with_reducible refine And.intro ?_ ?_
  | (with_reducible refine awp_loopU (b := f27p4) (fun x : Nat × Attr => x.1 ≤ l.length ∧ bestGo x.2 (l.drop x.1) = bestGo attr0 l) (fun x => l.length - x.1) (fun x => [(8, .d (.v (.int .i64 x.1)))]) (fun x => [(3, .box x.2.box)]) ((0, attr0)) (⟨Nat.zero_le _, rfl⟩) (Wk.refl _ _) (Wk_sub rfl rfl ?_ ?_) (fun x hx => ?_))
  | (refine Exists.elim (at_drop Attr.row l x.1 (Int.ofNat_lt.1 (of_decide_eq_true hc))) (fun a he => ?_); have g1 := he.2.1; replace hc : True := trivial)
  | (have _q : (_ : Bool) = true := hc; with_reducible refine loopQ_next ((x.1 + 1, a)) ?_ ?_ (Wk_sub rfl rfl ?_ ?_))
  | (have _q : (_ : Bool) = false := hc; with_reducible refine loopQ_next ((x.1 + 1, x.2)) ?_ ?_ (Wk_sub rfl rfl ?_ ?_))
  | simp only [f27r0, f27r1, f27r2, f27r3, f27r4, f27r5, f27r6, f27r7, f27r8, g1, f27k, te51, List.length_map, runG_nil, runG_u, runG_ucS, stp, avL, avS, evs, evX, lget, lput, strip, putO, PO.dst, updO, okR, cells, splice, AV.cell, toD, toDs, binV, sameK, pickV, guardOf, okL_nil, sides, argsOf, rawOf, dv, dvL, owns, ownsL, flat, flatL, lkeep, seqQ, blockQ, initS, List.drop_succ_cons, List.drop_zero, List.take_succ_cons, List.take_zero, List.getD_cons_zero, List.getD_cons_succ, List.length_cons, List.length_nil, List.set_cons_zero, List.set_cons_succ, List.map_cons, List.map_nil, List.all_cons, List.all_nil, List.elem_cons, List.elem_nil, Option.getD_some, Option.getD_none, Option.bind_some, Option.isNone_none, reduceIte, reduceCtorEq, Nat.reduceEqDiff, Nat.reduceAdd, Nat.reduceLeDiff, Nat.zero_add, Nat.add_zero, Nat.reduceBEq, Bool.and_self, Bool.and_true, Bool.true_and, Bool.or_self, Bool.or_false, Bool.false_or, Bool.or_true, Bool.true_or, true_and, and_true, and_self, implies_true, forall_const, Bool.false_eq_true, id_eq, retQ, resOf, resV, Option.some.injEq, exists_eq_left', AV.d.injEq, D.v.injEq, Value.bool.injEq, imp_self, bldF, bldS, toVals, eqLs, Option.map_some, imp_false, not_true_eq_false, not_false_eq_true, List.append_nil, List.cons_append, List.nil_append, Option.toList_some, Option.toList_none, loopQ_exit, loopQ_ret, subS, subO, Bool.bne_false, Bool.bne_true, elemsOf, bslD, bslS, lputs, List.headD_cons, sealS, sealO, sealV, sealL, sealsS, sealsO, Bool.true_bne, Bool.false_bne, bne_self_eq_false, Int.reduceToNat, oSl, resR, argsN, dvN]
  all_goals try first
    | omega
    | (with_reducible rfl)
    | (show Value.int _ 0 = _; rfl)
    | (simp only [List.length_append, List.length_cons, List.length_nil]; omega)
    | (simp only [List.length_append, List.length_cons, List.length_nil, List.map_append, List.map_cons, List.map_nil]; done)
    | exact count64 he.2.2.2 hl
    | (grind [bestV, bestGo])
    | rfl
  all_goals trace_state
end Go.Proofs.YtokfackbnnkbnaaGreatDoor

