/- What solve.Likes and edge.Row come to. Printed by a program of this project (wip/mq). -/
import Derived.Test.YtgkkaimcchlnaaaGreatDoorTake
import Derived.Test.YtgkkaimcchlnaaaGreatDoorMqPl
set_option linter.unusedVariables false
set_option linter.unusedSimpArgs false

namespace Go.Proofs.YtgkkaimcchlnaaaGreatDoor
open Go Mq Go.ChangeShapes Go.WideShapes Go.ChangeAt Go.RowKit
/-! maquette/edge.Row -/
def f84r0 : List PG := [.u (.bx 2 (.t 0)), .u (.al 4 [.d (.v (.bool false)), .d (.v (.int .i64 0)), .d (.v (.int .i64 0)), .d (.v (.int .u8 0))]), .u (.mv 5 (.k (.bool false)))]
def f84r1 : List PG := [.u (.ld 7 4 true (.t 2)), .u (.mv 8 (.t 1)), .u (.bo 9 .and (.t 8) (.k (.int .u8 15))), .u (.bld 10 [.d (.v (.bool false)), .d (.v (.int .i64 0)), .d (.v (.int .i64 0)), .d (.v (.int .u8 0))] [((0, 1), .k (.bool true)), ((1, 1), .k (.int .i64 100)), ((3, 1), .t 9)]), .uc 11 45 [.t 7, .t 10], .u (.al 6 [.d (.v (.bool false)), .d (.v (.int .i64 0)), .d (.v (.int .i64 0)), .d (.v (.int .u8 0))]), .u (.st 4 (.t 6) (.t 11))]
def f84r2 : List PG := [.u (.ld 12 4 true (.t 6)), .u (.fa 13 0 (.t 6)), .u (.ld 14 1 false (.t 13)), .u (.st 4 (.t 4) (.t 12)), .u (.mv 5 (.t 14))]
abbrev f84p0 : PC := .seq (.regD f84r2 [(1, 3), (2, 3)]) (.ret)
abbrev f84p1 : PC := .seq (.reg f84r1) (f84p0)
abbrev f84pc : PC := .seq (.reg f84r0) (f84p1)
def f84k : List Nat := [0, 1, 2, 4, 5, 6]
theorem f84c : Tryz.f84.body.bind (cC te Tryz.f84.ntmps) = some f84pc := by kernel_rfl
/-! maquette/edge.Likes -/
def f49r0 : List PG := [.u (.bx 1 (.t 0)), .u (.mv 2 (.k (.bool false)))]
def f49r1 : List PG := [.u (.mv 6 (.k (.int .u8 0)))]
def f49r2 : List PG := [.u (.bo 7 .lss (.t 6) (.k (.int .u8 16)))]
def f49r3 : List PG := [.u (.mv 8 (.t 6)), .u (.mv 3 (.t 8))]
def f49r4 : List PG := [.u (.ld 10 4 true (.t 1)), .u (.mv 11 (.t 3)), .uc 12 84 [.t 10, .t 11], .u (.mv 9 (.t 12)), .u (.ext 13 (.t 9) 0), .u (.ext 14 (.t 9) 1), .u (.al 4 [.d (.v (.bool false)), .d (.v (.int .i64 0)), .d (.v (.int .i64 0)), .d (.v (.int .u8 0))]), .u (.st 4 (.t 4) (.t 13)), .u (.mv 5 (.t 14))]
def f49r5 : List PG := [.u (.mv 15 (.t 5)), .u (.mv 16 (.t 15)), .g 16 true (.fa 17 1 (.t 4)), .g 16 true (.ld 18 1 false (.t 17)), .g 16 true (.beq 19 true false (.t 18) (.k (.int .i64 100))), .u (.pick 20 (.t 16) (.t 19) (.k (.bool false)))]
def f49r6 : List PG := [.u (.mv 2 (.k (.bool true)))]
abbrev f49p0 : PC := .seq (.reg f49r6) (.ret)
abbrev f49p1 : PC := .cond (.t 20) (f49p0) (.skip)
abbrev f49p2 : PC := .seq (.reg f49r5) (f49p1)
abbrev f49p3 : PC := .seq (.reg f49r4) (f49p2)
def f49r7 : List PG := [.u (.bo 21 .add (.t 6) (.k (.int .u8 1))), .u (.mv 6 (.t 21))]
abbrev f49p4 : PC := .seq (.block 1 (.seq (.reg f49r3) (f49p3))) (.reg f49r7)
abbrev f49p5 : PC := .seq (.cond (.t 7) (.skip) (.exit 0)) (f49p4)
abbrev f49p6 : PC := .seq (.reg f49r2) (f49p5)
abbrev f49p7 : PC := .block 0 (.loop (f49p6))
def f49r8 : List PG := [.u (.mv 2 (.k (.bool false)))]
abbrev f49p8 : PC := .seq (.reg f49r8) (.ret)
abbrev f49p9 : PC := .seq (.seq (.reg f49r1) (f49p7)) (f49p8)
abbrev f49pc : PC := .seq (.reg f49r0) (f49p9)
def f49k : List Nat := [0, 1, 2, 3, 4, 5, 6, 7, 20]
theorem f49c : Tryz.f49.body.bind (cC te Tryz.f49.ntmps) = some f49pc := by kernel_rfl
set_option maxRecDepth 20000
set_option maxHeartbeats 4000000


theorem take_fn4 (e : Arc) (he : e.ok) (o : Bool) (p c t : Int) : FnS Tryz.prog 45 [.ag e.box, .ag [.d (.v (.bool o)), .d (.v (.int .i64 p)), .d (.v (.int .i64 c)), .d (.v (.int .u8 t))]] (takeV e ⟨o, p, c, t⟩).av := take_fn e he ⟨o, p, c, t⟩
theorem row_fn (e : Arc) (he : e.ok) (t : Int) : FnS Tryz.prog 84 [.ag e.box, .d (.v (.int .u8 t))] (.tp [(rowV e t).av, .d (.v (.bool (rowV e t).ok))]) := by
  refine fn_of teok Tryz.func84 (by kernel_rfl) f84c f84k [.cell 4 52, .tmp 5] rfl (by show 2 ≤ 15; omega) ?_
  repeat' first
|(with_reducible first | refine awp_seq ?_ | refine awp_reg ?_ | refine awp_regD ?_ | refine awp_ret ?_ | refine awp_skip ?_ | refine normQ_of ?_ | refine wkE_of ?_ | refine runD_nil ?_ | refine runD_cons ?_ | refine runF_cons ?_ | refine runF_nil ?_ | refine KF_of ?_ | refine chkQ_of rfl ?_)
|with_reducible refine awp_cond (by simp only [evX, lget, Option.getD_some, reduceIte, Nat.reduceEqDiff]; rfl) (fun hc => ?_) (fun hc => ?_)
|with_reducible refine CallU_of (f := 45) (take_fn4 e he _ _ _ _) (by first | exact Or.inr (Or.inl rfl) | exact Or.inl rfl) ?_
|(with_reducible assumption)
|(with_reducible refine fun (hT : (_ : Bool) = _) => ?_)
|with_reducible refine And.intro ?_ ?_
|simp only [f84r0, f84r1, f84r2, f84k, te52, runG_nil, runG_u, runG_ucS, stp, avL, avS, evs, evX, lget, lput, strip, putO, PO.dst, updO, okR, cells, splice, AV.cell, toD, toDs, binV, sameK, pickV, guardOf, okL_nil, sides, argsOf, rawOf, dv, dvL, owns, ownsL, flat, flatL, lkeep, seqQ, blockQ, initS, List.drop_succ_cons, List.drop_zero, List.take_succ_cons, List.take_zero, List.getD_cons_zero, List.getD_cons_succ, List.length_cons, List.length_nil, List.set_cons_zero, List.set_cons_succ, List.map_cons, List.map_nil, List.all_cons, List.all_nil, List.elem_cons, List.elem_nil, Option.getD_some, Option.getD_none, Option.bind_some, Option.isNone_none, reduceIte, reduceCtorEq, Nat.reduceEqDiff, Nat.reduceAdd, Nat.reduceLeDiff, Nat.zero_add, Nat.add_zero, Nat.reduceBEq, Bool.and_self, Bool.and_true, Bool.true_and, Bool.or_self, Bool.or_false, Bool.false_or, Bool.or_true, Bool.true_or, true_and, and_true, and_self, implies_true, forall_const, Bool.false_eq_true, id_eq, retQ, resOf, resV, Option.some.injEq, exists_eq_left', AV.d.injEq, D.v.injEq, Value.bool.injEq, imp_self, bldF, bldS, toVals, eqLs, Option.map_some, imp_false, not_true_eq_false, not_false_eq_true, foot, wrs, nm, nmL, PG.reads, PG.dst, PO.reads, X.sl, sls, slB, List.append_nil, List.cons_append, List.nil_append, Option.toList_some, Option.toList_none, subS, subO, Bool.bne_false, Bool.bne_true, elemsOf, bslD, bslS, lputs, List.headD_cons, sealS, sealO, sealV, sealL, sealsS, sealsO, Bool.true_bne, Bool.false_bne, bne_self_eq_false, Int.reduceToNat, oSl, resR, argsN, dvN]
  all_goals first | decide | rfl
theorem likesE_fn (e : Arc) (he : e.ok) : FnS Tryz.prog 49 [.ag e.box] (.d (.v (.bool (likesE e)))) := by
  refine fn_of teok Tryz.func49 (by kernel_rfl) f49c f49k [.tmp 2] rfl (by show 1 ≤ 22; omega) ?_
  repeat' first
|(with_reducible first | refine awp_seq ?_ | refine awp_block ?_ | refine awp_reg ?_ | refine awp_ret ?_ | refine awp_skip ?_ | refine awp_exit ?_ | refine normQ_of ?_ | refine wkE_of ?_)
|with_reducible refine awp_cond (by simp only [evX, lget, Option.getD_some, reduceIte, Nat.reduceEqDiff]; rfl) (fun hc => ?_) (fun hc => ?_)
|with_reducible refine CallU_of (f := 84) (row_fn e he _) (by first | exact Or.inr (Or.inl rfl) | exact Or.inl rfl) ?_
|(with_reducible assumption)
|with_reducible refine fun (hG : okL _) => ?_
|(with_reducible refine fun (hT : (_ : Bool) = _) => ?_)
|(with_reducible first | exact hG.2 | exact hG.2.2 | exact hG.2.2.2 | exact hG.2.2.2.2)
|with_reducible refine okL_mk ?_ ?_
|with_reducible refine And.intro ?_ ?_
|(with_reducible refine awp_loopU (b := f49p6) (fun i : Nat => i ≤ 16 ∧ likesGo e (16 - i) i = likesE e) (fun i => 16 - i) (fun i => [(6, .d (.v (.int .u8 i)))]) (fun i => []) (0) (⟨Nat.zero_le _, rfl⟩) (Wk.refl _ _) (Wk_sub rfl rfl ?_ ?_) (fun i hi => ?_))
|(with_reducible refine loopQ_next (i + 1) ?_ ?_ (Wk_sub rfl rfl ?_ ?_))
|simp only [f49r0, f49r1, f49r2, f49r3, f49r4, f49r5, f49r6, f49r7, f49r8, f49k, List.getElem?_cons_zero, List.getElem?_cons_succ, runG_nil, runG_u, runG_g, runG_ucS, stp, avL, avS, evs, evX, lget, lput, strip, putO, PO.dst, updO, okR, cells, splice, AV.cell, toD, toDs, binV, sameK, pickV, guardOf, okL_nil, sides, argsOf, rawOf, dv, dvL, owns, ownsL, flat, flatL, lkeep, seqQ, blockQ, initS, List.drop_succ_cons, List.drop_zero, List.take_succ_cons, List.take_zero, List.getD_cons_zero, List.getD_cons_succ, List.length_cons, List.length_nil, List.set_cons_zero, List.set_cons_succ, List.map_cons, List.map_nil, List.all_cons, List.all_nil, List.elem_cons, List.elem_nil, Option.getD_some, Option.getD_none, Option.bind_some, Option.isNone_none, reduceIte, reduceCtorEq, Nat.reduceEqDiff, Nat.reduceAdd, Nat.reduceLeDiff, Nat.zero_add, Nat.add_zero, Nat.reduceBEq, Bool.and_self, Bool.and_true, Bool.true_and, Bool.or_self, Bool.or_false, Bool.false_or, Bool.or_true, Bool.true_or, true_and, and_true, and_self, implies_true, forall_const, Bool.false_eq_true, id_eq, retQ, resOf, resV, Option.some.injEq, exists_eq_left', AV.d.injEq, D.v.injEq, Value.bool.injEq, imp_self, bldF, bldS, toVals, eqLs, Option.map_some, imp_false, not_true_eq_false, not_false_eq_true, List.append_nil, List.cons_append, List.nil_append, Option.toList_some, Option.toList_none, loopQ_exit, loopQ_ret, subS, subO, Bool.bne_false, Bool.bne_true, elemsOf, bslD, bslS, lputs, List.headD_cons, sealS, sealO, sealV, sealL, sealsS, sealsO, Bool.true_bne, Bool.false_bne, bne_self_eq_false, Int.reduceToNat, oSl, resR, argsN, dvN]
  all_goals try first
    | omega
    | (have h0 := of_decide_eq_true ‹decide ((i : Int) < 16) = true›; omega)
    | (have h0 := of_decide_eq_true ‹decide ((i : Int) < 16) = true›; exact count8 (by omega))
    | (show Value.int _ 0 = _; rfl)
    | (have h0 := of_decide_eq_true ‹decide ((i : Int) < 16) = true›; have h1 := hi.2; rw [show 16 - i = (16 - (i + 1)) + 1 by omega, likesGo] at h1
       cases ho : (rowV e i).ok <;> simp [ho] at hc h1
       all_goals first | exact h1 | (rw [if_pos hc] at h1; exact h1) | (rw [if_neg hc] at h1; exact h1) | (rw [← h1]; simp [hc]) | (simp [hc] at h1; exact h1) | (simp [hc] at h1; rw [← h1]))
    | (have h0 := of_decide_eq_false hc; have h1 := hi.2; rw [show 16 - i = 0 by omega, likesGo] at h1; rw [h1])
  all_goals trace_state
end Go.Proofs.YtgkkaimcchlnaaaGreatDoor
