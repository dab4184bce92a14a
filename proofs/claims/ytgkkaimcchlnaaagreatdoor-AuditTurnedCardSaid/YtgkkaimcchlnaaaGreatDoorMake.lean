/- What layers 5, 7, 11 and 12 make of numbers: prefixes, clauses, edges. Printed by a program of this project (wip/mq). -/
import Derived.Test.YtgkkaimcchlnaaaGreatDoorTake
import Derived.Test.YtgkkaimcchlnaaaGreatDoorMqPl
set_option linter.unusedVariables false
set_option linter.unusedSimpArgs false

namespace Go.Proofs.YtgkkaimcchlnaaaGreatDoor
open Go Mq Go.ChangeShapes Go.WideShapes Go.ChangeAt Go.RowKit
/-! maquette/maquettelaw05.Make -/
def f65r0 : List PG := [.u (.al 2 [.d (.v (.int .u32 0)), .d (.v (.int .i64 0))])]
def f65r1 : List PG := [.u (.bsl 6 3 1 [.k (.int .i64 0), .k (.int .i64 8), .k (.int .i64 16), .k (.int .i64 24), .k (.int .i64 32), .k (.int .i64 9), .k (.int .i64 17), .k (.int .i64 30)]), .u (.mv 7 (.t 0)), .u (.bo 8 .rem (.t 7) (.k (.int .u8 8))), .u (.ia 9 1 (.t 6) (.t 8)), .u (.ld 10 1 false (.t 9)), .u (.mv 3 (.t 10))]
def f65r2 : List PG := [.u (.mv 11 (.t 0)), .u (.bo 12 .quo (.t 11) (.k (.int .u8 64))), .u (.cv 13 .u32 (.t 12)), .u (.bo 14 .shl (.t 13) (.k (.int .u64 16))), .u (.bo 15 .add (.k (.int .u32 167772160)) (.t 14)), .u (.mv 16 (.t 0)), .u (.bo 17 .quo (.t 16) (.k (.int .u8 16))), .u (.bo 18 .rem (.t 17) (.k (.int .u8 4))), .u (.cv 19 .u32 (.t 18)), .u (.bo 20 .shl (.t 19) (.k (.int .u64 8))), .u (.bo 21 .add (.t 15) (.t 20)), .u (.mv 22 (.t 0)), .u (.bo 23 .quo (.t 22) (.k (.int .u8 8))), .u (.bo 24 .rem (.t 23) (.k (.int .u8 2))), .u (.cv 25 .u32 (.t 24)), .u (.bo 26 .add (.t 21) (.t 25)), .u (.mv 27 (.t 3)), .u (.bld 28 [.d (.v (.int .u32 0)), .d (.v (.int .i64 0))] [((0, 1), .t 26), ((1, 1), .t 27)]), .u (.al 4 [.d (.v (.int .u32 0)), .d (.v (.int .i64 0))]), .u (.st 2 (.t 4) (.t 28))]
def f65r3 : List PG := [.u (.mv 29 (.t 3)), .u (.mv 5 (.t 29))]
def f65r4 : List PG := [.u (.mv 30 (.t 5)), .u (.bo 31 .lss (.t 30) (.k (.int .i64 32)))]
abbrev f65p0 : PC := .cond (.t 31) (.skip) (.exit 0)
def f65r5 : List PG := [.u (.fa 34 0 (.t 4)), .u (.ld 35 1 false (.t 34)), .u (.mv 36 (.t 5)), .u (.bo 37 .sub (.k (.int .i64 31)) (.t 36)), .u (.bo 38 .shl (.k (.int .u32 1)) (.t 37)), .u (.bo 39 .andNot (.t 35) (.t 38)), .u (.fa 40 0 (.t 4)), .u (.st 1 (.t 40) (.t 39))]
def f65r6 : List PG := [.u (.mv 32 (.t 5)), .u (.bo 33 .add (.t 32) (.k (.int .i64 1))), .u (.mv 5 (.t 33))]
abbrev f65p1 : PC := .seq (.block 1 (.regD f65r5 [])) (.reg f65r6)
abbrev f65p2 : PC := .seq (.seq (.reg f65r4) (f65p0)) (f65p1)
abbrev f65p3 : PC := .block 0 (.loop (f65p2))
def f65r7 : List PG := [.u (.ld 41 2 true (.t 4)), .u (.st 2 (.t 2) (.t 41))]
abbrev f65p4 : PC := .seq (.reg f65r7) (.ret)
abbrev f65p5 : PC := .seq (.seq (.reg f65r3) (f65p3)) (f65p4)
abbrev f65p6 : PC := .seq (.reg f65r2) (f65p5)
abbrev f65p7 : PC := .seq (.reg f65r1) (f65p6)
abbrev f65pc : PC := .seq (.reg f65r0) (f65p7)
def f65k : List Nat := [0, 2, 3, 4, 5, 31]
theorem f65c : Tryz.f65.body.bind (cC te Tryz.f65.ntmps) = some f65pc := by kernel_rfl
/-! (maquette/maquettelaw07.Rule).Clause -/
def f102r0 : List PG := [.u (.bx 1 (.t 0)), .u (.al 2 [.d (.v (.bool false)), .d (.v (.int .u32 0)), .d (.v (.int .i64 0)), .d (.v (.int .u8 0)), .d (.v (.int .u8 0)), .d (.v (.bool false)), .d (.v (.int .u8 0)), .d (.v (.int .u8 0)), .d (.v (.int .i64 0)), .d (.v (.int .i64 0))])]
def f102r1 : List PG := [.u (.fa 4 0 (.t 1)), .u (.ld 5 1 false (.t 4)), .u (.bo 6 .rem (.t 5) (.k (.int .u8 3))), .u (.beq 7 false false (.t 6) (.k (.int .u8 0))), .u (.fa 8 1 (.t 1)), .u (.ld 9 1 false (.t 8)), .u (.bo 10 .rem (.t 9) (.k (.int .u8 16))), .u (.fa 11 2 (.t 1)), .u (.ld 12 1 false (.t 11)), .u (.bo 13 .rem (.t 12) (.k (.int .u8 16))), .u (.fa 14 3 (.t 1)), .u (.ld 15 1 false (.t 14)), .u (.bo 16 .rem (.t 15) (.k (.int .u8 4))), .u (.beq 17 false false (.t 16) (.k (.int .u8 3))), .u (.fa 18 3 (.t 1)), .u (.ld 19 1 false (.t 18)), .u (.bo 20 .quo (.t 19) (.k (.int .u8 16))), .u (.fa 21 4 (.t 1)), .u (.ld 22 1 false (.t 21)), .u (.bo 23 .quo (.t 22) (.k (.int .u8 16))), .u (.fa 24 4 (.t 1)), .u (.ld 25 1 false (.t 24)), .u (.bo 26 .rem (.t 25) (.k (.int .u8 4))), .u (.cv 27 .i64 (.t 26)), .u (.fa 28 5 (.t 1)), .u (.ld 29 1 false (.t 28)), .u (.cv 30 .i64 (.t 29)), .u (.bld 31 [.d (.v (.bool false)), .d (.v (.int .u32 0)), .d (.v (.int .i64 0)), .d (.v (.int .u8 0)), .d (.v (.int .u8 0)), .d (.v (.bool false)), .d (.v (.int .u8 0)), .d (.v (.int .u8 0)), .d (.v (.int .i64 0)), .d (.v (.int .i64 0))] [((0, 1), .t 7), ((3, 1), .t 10), ((4, 1), .t 13), ((5, 1), .t 17), ((6, 1), .t 20), ((7, 1), .t 23), ((8, 1), .t 27), ((9, 1), .t 30)]), .u (.al 3 [.d (.v (.bool false)), .d (.v (.int .u32 0)), .d (.v (.int .i64 0)), .d (.v (.int .u8 0)), .d (.v (.int .u8 0)), .d (.v (.bool false)), .d (.v (.int .u8 0)), .d (.v (.int .u8 0)), .d (.v (.int .i64 0)), .d (.v (.int .i64 0))]), .u (.st 10 (.t 3) (.t 31))]
def f102r2 : List PG := [.u (.fa 32 1 (.t 1)), .u (.ld 33 1 false (.t 32)), .u (.bo 34 .gtr (.t 33) (.k (.int .u8 100)))]
def f102r3 : List PG := [.u (.fa 35 3 (.t 3)), .u (.st 1 (.t 35) (.k (.int .u8 0)))]
abbrev f102p0 : PC := .cond (.t 34) (.reg f102r3) (.skip)
def f102r4 : List PG := [.u (.fa 36 2 (.t 1)), .u (.ld 37 1 false (.t 36)), .u (.bo 38 .gtr (.t 37) (.k (.int .u8 60)))]
def f102r5 : List PG := [.u (.fa 39 4 (.t 3)), .u (.st 1 (.t 39) (.k (.int .u8 0)))]
abbrev f102p1 : PC := .cond (.t 38) (.reg f102r5) (.skip)
def f102r6 : List PG := [.u (.fa 40 5 (.t 1)), .u (.ld 41 1 false (.t 40)), .u (.bo 42 .lss (.t 41) (.k (.int .u8 200)))]
def f102r7 : List PG := [.u (.fa 43 9 (.t 3)), .u (.st 1 (.t 43) (.k (.int .i64 0)))]
abbrev f102p2 : PC := .cond (.t 42) (.reg f102r7) (.skip)
def f102r8 : List PG := [.u (.fa 44 0 (.t 3)), .u (.ld 45 1 false (.t 44)), .u (.no 46 (.t 45))]
def f102r9 : List PG := [.u (.fa 47 0 (.t 1)), .u (.ld 48 1 false (.t 47)), .uc 49 65 [.t 48], .u (.fa 50 1 (.t 3)), .u (.st 2 (.t 50) (.t 49))]
abbrev f102p3 : PC := .cond (.t 46) (.reg f102r9) (.skip)
def f102r10 : List PG := [.u (.ld 51 10 true (.t 3)), .u (.st 10 (.t 2) (.t 51))]
abbrev f102p4 : PC := .seq (.reg f102r10) (.ret)
abbrev f102p5 : PC := .seq (.seq (.reg f102r8) (f102p3)) (f102p4)
abbrev f102p6 : PC := .seq (.seq (.reg f102r6) (f102p2)) (f102p5)
abbrev f102p7 : PC := .seq (.seq (.reg f102r4) (f102p1)) (f102p6)
abbrev f102p8 : PC := .seq (.seq (.reg f102r2) (f102p0)) (f102p7)
abbrev f102p9 : PC := .seq (.reg f102r1) (f102p8)
abbrev f102pc : PC := .seq (.reg f102r0) (f102p9)
def f102k : List Nat := [0, 1, 2, 3, 34, 38, 42, 46]
theorem f102c : Tryz.f102.body.bind (cC te Tryz.f102.ntmps) = some f102pc := by kernel_rfl
/-! maquette/maquettelaw07.Clauses -/
def f62r0 : List PG := [.u (.mv 2 (.nl 10))]
def f62r1 : List PG := [.u (.mv 3 (.nl 10))]
def f62r2 : List PG := [.u (.mv 6 (.t 0)), .u (.len 7 (.t 6)), .u (.mv 8 (.k (.int .i64 0)))]
def f62r3 : List PG := [.u (.bo 9 .lss (.t 8) (.t 7))]
def f62r4 : List PG := [.u (.mv 10 (.t 8)), .u (.ia 11 6 (.t 6) (.t 8)), .u (.ld 12 6 true (.t 11)), .u (.al 5 [.d (.v (.int .u8 0)), .d (.v (.int .u8 0)), .d (.v (.int .u8 0)), .d (.v (.int .u8 0)), .d (.v (.int .u8 0)), .d (.v (.int .u8 0))]), .u (.mv 4 (.t 10)), .u (.st 6 (.t 5) (.t 12))]
def f62r5 : List PG := [.u (.mv 13 (.t 4)), .u (.bo 14 .lss (.t 13) (.k (.int .i64 5)))]
def f62r6 : List PG := [.u (.mv 15 (.t 3)), .u (.ld 16 6 true (.t 5)), .uc 17 102 [.t 16], .u (.bslF 18 160 10 [.t 17]), .u (.app 19 160 10 48 (.t 15) (.t 18)), .u (.mv 3 (.t 19))]
abbrev f62p0 : PC := .cond (.t 14) (.reg f62r6) (.skip)
abbrev f62p1 : PC := .seq (.reg f62r5) (f62p0)
def f62r7 : List PG := [.u (.bo 20 .add (.t 8) (.k (.int .i64 1))), .u (.mv 8 (.t 20))]
abbrev f62p2 : PC := .seq (.block 1 (.seq (.reg f62r4) (f62p1))) (.reg f62r7)
abbrev f62p3 : PC := .seq (.cond (.t 9) (.skip) (.exit 0)) (f62p2)
abbrev f62p4 : PC := .seq (.reg f62r3) (f62p3)
abbrev f62p5 : PC := .block 0 (.loop (f62p4))
def f62r8 : List PG := [.u (.mv 21 (.t 3)), .u (.mv 2 (.t 21))]
abbrev f62p6 : PC := .seq (.reg f62r8) (.ret)
abbrev f62p7 : PC := .seq (.seq (.reg f62r2) (f62p5)) (f62p6)
abbrev f62p8 : PC := .seq (.reg f62r1) (f62p7)
abbrev f62pc : PC := .seq (.reg f62r0) (f62p8)
def f62k : List Nat := [0, 2, 3, 4, 5, 6, 7, 8, 9, 14]
theorem f62c : Tryz.f62.body.bind (cC te Tryz.f62.ntmps) = some f62pc := by kernel_rfl
/-! maquette/clause.For -/
def f93r0 : List PG := [.u (.bx 3 (.t 1)), .u (.mv 4 (.nl 10))]
def f93r1 : List PG := [.u (.mv 5 (.nl 10))]
def f93r2 : List PG := [.u (.mv 8 (.t 0)), .u (.len 9 (.t 8)), .u (.mv 10 (.k (.int .i64 0)))]
def f93r3 : List PG := [.u (.bo 11 .lss (.t 10) (.t 9))]
def f93r4 : List PG := [.u (.ia 12 10 (.t 8) (.t 10)), .u (.ld 13 10 true (.t 12)), .u (.al 7 [.d (.v (.bool false)), .d (.v (.int .u32 0)), .d (.v (.int .i64 0)), .d (.v (.int .u8 0)), .d (.v (.int .u8 0)), .d (.v (.bool false)), .d (.v (.int .u8 0)), .d (.v (.int .u8 0)), .d (.v (.int .i64 0)), .d (.v (.int .i64 0))]), .u (.st 10 (.t 7) (.t 13))]
def f93r5 : List PG := [.u (.fa 14 0 (.t 7)), .u (.ld 15 1 false (.t 14)), .u (.no 16 (.t 15)), .u (.mv 17 (.t 16)), .g 17 true (.fa 18 1 (.t 7)), .g 17 true (.ld 19 2 true (.t 18)), .g 17 true (.ld 20 2 true (.t 3)), .gc 17 true 21 120 [.t 19, .t 20], .g 17 true (.no 22 (.t 21)), .u (.pick 23 (.t 17) (.t 22) (.k (.bool false)))]
abbrev f93p0 : PC := .cond (.t 23) (.exit 1) (.skip)
def f93r6 : List PG := [.u (.bld 24 [.d (.v (.int .u32 0)), .d (.v (.int .i64 0))] []), .u (.fa 25 0 (.t 7)), .u (.st 1 (.t 25) (.k (.bool true))), .u (.fa 26 1 (.t 7)), .u (.st 2 (.t 26) (.t 24))]
def f93r7 : List PG := [.u (.mv 27 (.t 5)), .u (.ld 28 10 true (.t 7)), .u (.bslF 29 160 10 [.t 28]), .u (.app 30 160 10 48 (.t 27) (.t 29)), .u (.mv 5 (.t 30))]
def f93r8 : List PG := [.u (.fa 31 3 (.t 7)), .u (.ld 32 1 false (.t 31)), .u (.beq 33 false false (.t 32) (.k (.int .u8 0))), .u (.mv 34 (.t 33)), .g 34 true (.fa 35 4 (.t 7)), .g 34 true (.ld 36 1 false (.t 35)), .g 34 true (.beq 37 false false (.t 36) (.k (.int .u8 0))), .u (.pick 38 (.t 34) (.t 37) (.k (.bool false)))]
abbrev f93p1 : PC := .cond (.t 38) (.exit 0) (.skip)
abbrev f93p2 : PC := .seq (.reg f93r8) (f93p1)
abbrev f93p3 : PC := .seq (.reg f93r7) (f93p2)
abbrev f93p4 : PC := .seq (.reg f93r6) (f93p3)
abbrev f93p5 : PC := .seq (.seq (.reg f93r5) (f93p0)) (f93p4)
def f93r9 : List PG := [.u (.bo 39 .add (.t 10) (.k (.int .i64 1))), .u (.mv 10 (.t 39))]
abbrev f93p6 : PC := .seq (.block 1 (.seq (.reg f93r4) (f93p5))) (.reg f93r9)
abbrev f93p7 : PC := .seq (.cond (.t 11) (.skip) (.exit 0)) (f93p6)
abbrev f93p8 : PC := .seq (.reg f93r3) (f93p7)
abbrev f93p9 : PC := .block 0 (.loop (f93p8))
def f93r10 : List PG := [.u (.mv 40 (.t 5)), .u (.mv 4 (.t 40))]
abbrev f93p10 : PC := .seq (.reg f93r10) (.ret)
abbrev f93p11 : PC := .seq (.seq (.reg f93r2) (f93p9)) (f93p10)
abbrev f93p12 : PC := .seq (.reg f93r1) (f93p11)
abbrev f93pc : PC := .seq (.reg f93r0) (f93p12)
def f93k : List Nat := [0, 1, 3, 4, 5, 7, 8, 9, 10, 11, 23, 38]
theorem f93c : Tryz.f93.body.bind (cC te Tryz.f93.ntmps) = some f93pc := by kernel_rfl
/-! maquette/maquettelaw12.plain -/
def f57r0 : List PG := [.u (.mv 2 (.nl 10))]
def f57r1 : List PG := [.u (.mv 3 (.t 0)), .uc 4 62 [.t 3], .u (.bld 5 [.d (.v (.int .u32 0)), .d (.v (.int .i64 0))] [((0, 1), .k (.int .u32 167772160)), ((1, 1), .k (.int .i64 32))]), .uc 6 93 [.t 4, .t 5], .u (.mv 2 (.t 6))]
abbrev f57p0 : PC := .seq (.reg f57r1) (.ret)
abbrev f57pc : PC := .seq (.reg f57r0) (f57p0)
def f57k : List Nat := [0, 2]
theorem f57c : Tryz.f57.body.bind (cC te Tryz.f57.ntmps) = some f57pc := by kernel_rfl
/-! (maquette/maquettelaw12.Wire).Edge -/
def f33r0 : List PG := [.u (.bx 1 (.t 0)), .u (.al 2 [.d (.v (.int .i64 0)), .d (.v (.int .i64 0)), .nl 10, .nl 10])]
def f33r1 : List PG := [.u (.fa 3 0 (.t 1)), .u (.ld 4 1 false (.t 3)), .u (.cv 5 .i64 (.t 4)), .u (.fa 6 1 (.t 1)), .u (.ld 7 1 false (.t 6)), .u (.bo 8 .rem (.t 7) (.k (.int .u8 3))), .u (.cv 9 .i64 (.t 8)), .u (.bo 10 .add (.k (.int .i64 1)) (.t 9)), .u (.fa 11 2 (.t 1)), .u (.ld 12 1 false (.t 11)), .uc 13 57 [.t 12], .u (.fa 14 3 (.t 1)), .u (.ld 15 1 false (.t 14)), .uc 16 57 [.t 15], .u (.bld 17 [.d (.v (.int .i64 0)), .d (.v (.int .i64 0)), .nl 10, .nl 10] [((0, 1), .t 5), ((1, 1), .t 10), ((2, 1), .t 13), ((3, 1), .t 16)]), .u (.st 4 (.t 2) (.t 17))]
abbrev f33p0 : PC := .seq (.regD f33r1 []) (.ret)
abbrev f33pc : PC := .seq (.reg f33r0) (f33p0)
def f33k : List Nat := [0, 1, 2]
theorem f33c : Tryz.f33.body.bind (cC te Tryz.f33.ntmps) = some f33pc := by kernel_rfl
set_option maxRecDepth 20000
set_option maxHeartbeats 4000000


theorem make_fn (n : Int) (hn : 0 ≤ n ∧ n ≤ 255) : FnS Tryz.prog 65 [.d (.v (.int .u8 n))] (.ag [.d (.v (.int .u32 (mkAddr n))), .d (.v (.int .i64 (mkBits n)))]) := by
  have hmk := mk_row hn.1
  have g1 := hmk.1
  refine fn_of teok Tryz.func65 (by kernel_rfl) f65c f65k [.cell 2 35] rfl (by show 1 ≤ 42; omega) ?_
  first | (have _q := @g1; clear _q) | have g1 : Nat.pred 77 = 76 := rfl
  repeat' first
|(with_reducible first | refine awp_seq ?_ | refine awp_block ?_ | refine awp_reg ?_ | refine awp_regD ?_ | refine awp_ret ?_ | refine awp_skip ?_ | refine awp_exit ?_ | refine normQ_of ?_ | refine wkE_of ?_ | refine runD_nil ?_ | refine runD_cons ?_ | refine runF_cons ?_ | refine runF_nil ?_ | refine KF_of ?_ | refine chkQ_of rfl ?_)
|with_reducible refine awp_cond (by simp only [evX, lget, Option.getD_some, reduceIte, Nat.reduceEqDiff]; rfl) (fun hc => ?_) (fun hc => ?_)
|(with_reducible assumption)
|(with_reducible refine fun (hT : (_ : Bool) = _) => ?_)
|with_reducible refine And.intro ?_ ?_
|(with_reducible refine awp_loopU (b := f65p2) (fun x : Int × Int => 0 ≤ x.1 ∧ x.1 ≤ 32 ∧ mkGo (32 - x.1).toNat x.1 x.2 = mkAddr n) (fun x => (32 - x.1).toNat) (fun x => [(5, .d (.v (.int .i64 x.1)))]) (fun x => [(4, .box [.d (.v (.int .u32 x.2)), .d (.v (.int .i64 (mkBits n)))])]) ((mkBits n, mkAddr0 n)) (⟨hmk.2.2.2.1, hmk.2.2.2.2, rfl⟩) (Wk.refl _ _) (Wk_sub rfl rfl ?_ ?_) (fun x hx => ?_))
|(with_reducible refine loopQ_next ((x.1 + 1, mkStep x.1 x.2)) ?_ ?_ (Wk_sub rfl rfl ?_ ?_))
|simp only [f65r0, f65r1, f65r2, f65r3, f65r4, f65r5, f65r6, f65r7, g1, f65k, te35, runG_nil, runG_u, stp, evs, evX, lget, lput, strip, putO, PO.dst, updO, okR, cells, splice, AV.cell, toD, toDs, binV, sameK, dv, dvL, lkeep, seqQ, blockQ, initS, List.drop_zero, List.take_succ_cons, List.take_zero, List.getD_cons_zero, List.length_cons, List.length_nil, List.set_cons_zero, List.set_cons_succ, List.map_cons, List.map_nil, List.all_cons, List.all_nil, List.elem_cons, List.elem_nil, Option.getD_some, Option.bind_some, Option.isNone_none, reduceIte, reduceCtorEq, Nat.reduceEqDiff, Nat.reduceAdd, Nat.reduceLeDiff, Nat.zero_add, Nat.add_zero, Nat.reduceBEq, Bool.and_self, true_and, and_true, and_self, Bool.false_eq_true, retQ, resOf, resV, Option.some.injEq, exists_eq_left', AV.d.injEq, D.v.injEq, bldF, bldS, loopQ_exit, subS, subO, bslD, bslS, lputs, Int.reduceToNat]
  all_goals try first
    | omega
    | decide
    | (with_reducible rfl)
    | (have h0 := of_decide_eq_true hc; omega)
    | (have h0 := of_decide_eq_true hc; rw [wrapI64 _ (by omega) (by omega)]; omega)
    | (have h0 := of_decide_eq_true hc; rw [wrapI64 _ (by omega) (by omega)]; done)
    | (have h0 := of_decide_eq_true hc; rw [← mkGo_step h0]; exact hx.2.2)
    | (have h0 := of_decide_eq_false hc; have h1 : (32 - x.1).toNat = 0 := by omega
       have h2 := hx.2.2; rw [h1, mkGo] at h2; rw [h2]; done)
    | rfl
  all_goals trace_state
theorem clause_fn (r : Rule) (hr : 0 ≤ r.to ∧ r.to ≤ 255) : FnS Tryz.prog 102 [.ag r.box] (.ag r.c4.box) := by
  refine fn_of teok Tryz.func102 (by kernel_rfl) f102c f102k [.cell 2 160] rfl (by show 1 ≤ 52; omega) ?_
  repeat' first
|(with_reducible refine awp_mid (f102p7) [] [(3, .box r.c1.box)] ?_ ?_)
|(with_reducible refine awp_mid (f102p6) [] [(3, .box r.c2.box)] ?_ ?_)
|(with_reducible refine awp_mid (f102p5) [] [(3, .box r.c3.box)] ?_ ?_)
|(with_reducible refine awp_mid (f102p4) [] [(3, .box r.c4.box)] ?_ ?_)
|(with_reducible first | refine awp_seq ?_ | refine awp_reg ?_ | refine awp_ret ?_ | refine awp_skip ?_ | refine normQ_of ?_ | refine wkE_of ?_)
|with_reducible refine midQ_of (Wk_sub rfl rfl ?_ ?_)
|with_reducible refine awp_cond (by simp only [evX, lget, Option.getD_some, reduceIte, Nat.reduceEqDiff]; rfl) (fun hc => ?_) (fun hc => ?_)
|with_reducible refine CallU_of (f := 65) (make_fn r.to hr) (by first | exact Or.inr (Or.inl rfl) | exact Or.inl rfl) ?_
|(with_reducible assumption)
|(with_reducible refine fun (hT : (_ : Bool) = _) => ?_)
|with_reducible refine And.intro ?_ ?_
|simp only [f102r0, f102r1, f102r2, f102r3, f102r4, f102r5, f102r6, f102r7, f102r8, f102r9, f102r10, f102k, te160, runG_nil, runG_u, runG_ucS, stp, evs, evX, lget, lput, strip, putO, PO.dst, updO, okR, cells, splice, AV.cell, binV, sameK, sides, argsOf, rawOf, dv, dvL, owns, ownsL, lkeep, seqQ, initS, List.drop_succ_cons, List.drop_zero, List.take_succ_cons, List.take_zero, List.getD_cons_zero, List.getD_cons_succ, List.length_cons, List.length_nil, List.set_cons_zero, List.set_cons_succ, List.all_cons, List.all_nil, List.elem_cons, List.elem_nil, Option.getD_some, Option.bind_some, Option.isNone_none, reduceIte, reduceCtorEq, Nat.reduceEqDiff, Nat.reduceAdd, Nat.reduceLeDiff, Nat.zero_add, Nat.add_zero, Nat.reduceBEq, Bool.and_self, Bool.or_self, true_and, and_true, and_self, Bool.false_eq_true, retQ, resOf, resV, Option.some.injEq, exists_eq_left', bldF, bldS, subS, subO, Bool.bne_false, lputs, argsN, dvN]
  all_goals try first
    | decide
    | (simp only [Rule.c1, Rule.c0, of_decide_eq_true hc, reduceIte]; done)
    | (simp only [Rule.c1, Rule.c0, of_decide_eq_false hc, reduceIte]; done)
    | (simp only [Rule.c2, of_decide_eq_true hc, reduceIte]; done)
    | (simp only [Rule.c2, of_decide_eq_false hc, reduceIte]; done)
    | (simp only [Rule.c3, of_decide_eq_true hc, reduceIte]; done)
    | (simp only [Rule.c3, of_decide_eq_false hc, reduceIte]; done)
    | (have hq : r.c3.any = false := by simpa using hc
       simp only [Rule.c4, hq, Bool.false_eq_true, reduceIte]; done)
    | (have hq : r.c3.any = true := by simpa using hc
       have h1 : r.c4 = r.c3 := by simp only [Rule.c4, hq, reduceIte]; rw [← hq]; rfl
       rw [h1])
  all_goals trace_state
theorem clauses_fn (rs : List Rule) (hl : rs.length ≤ maxLen) (hr : ∀ r ∈ rs, 0 ≤ r.to ∧ r.to ≤ 255) : FnS Tryz.prog 62 [.d (.sl 6 (rs.map Rule.row))] (.d (.sl 10 ((clausesL rs).map Clause.row))) := by
  have hm : maxLen = 9223372036854775807 := rfl
  refine fn_of teok Tryz.func62 (by kernel_rfl) f62c f62k [.tmp 2] rfl (by show 1 ≤ 22; omega) ?_
  first | (have _q := @g1; clear _q) | have g1 : Nat.pred 77 = 76 := rfl
  repeat' first
|(with_reducible first | refine awp_seq ?_ | refine awp_block ?_ | refine awp_reg ?_ | refine awp_ret ?_ | refine awp_skip ?_ | refine awp_exit ?_ | refine normQ_of ?_ | refine wkE_of ?_)
|with_reducible refine awp_cond (by simp only [evX, lget, Option.getD_some, reduceIte, Nat.reduceEqDiff]; rfl) (fun hc => ?_) (fun hc => ?_)
|with_reducible refine CallU_of (f := 102) (clause_fn r (hr r (List.mem_of_getElem? he.2.2.1))) (by first | exact Or.inr (Or.inl rfl) | exact Or.inl rfl) ?_
|(with_reducible assumption)
|(with_reducible refine fun (hT : (_ : Bool) = _) => ?_)
|with_reducible refine And.intro ?_ ?_
|(with_reducible refine awp_loopU (b := f62p4) (fun x : Nat × List Clause => x.1 ≤ rs.length ∧ x.2.length ≤ 5 ∧ (x.1 < 5 → x.2.length ≤ x.1) ∧ clsGo (rs.drop x.1) x.1 x.2 = clausesL rs) (fun x => rs.length - x.1) (fun x => [(8, .d (.v (.int .i64 x.1))), (3, .own 19 x.2.length)]) (fun x => [(19, .row 160 10 x.2.length (x.2.map Clause.row))]) ((0, [])) (⟨Nat.zero_le _, by simp, by simp, rfl⟩) (Wk_nl 3 19 160 rfl rfl (by decide)) (Wk_sub rfl rfl ?_ ?_) (fun x hx => ?_))
|(refine Exists.elim (at_drop Rule.row rs x.1 (Int.ofNat_lt.1 (of_decide_eq_true hc))) (fun r he => ?_); have g1 := he.2.1; replace hc : True := trivial)
|(have _q : (_ : Bool) = true := hc; with_reducible refine loopQ_next ((x.1 + 1, x.2 ++ [r.c4])) ?_ ?_ (Wk_sub rfl rfl ?_ ?_))
|(have _q : (_ : Bool) = false := hc; with_reducible refine loopQ_next ((x.1 + 1, x.2)) ?_ ?_ (Wk_sub rfl rfl ?_ ?_))
|simp only [f62r0, f62r1, f62r2, f62r3, f62r4, f62r5, f62r6, f62r7, f62r8, g1, f62k, List.length_map, runG_nil, runG_u, runG_ucS, stp, evs, evX, lget, lput, strip, putO, PO.dst, updO, okR, cells, splice, AV.cell, toD, toDs, binV, sameK, sides, argsOf, rawOf, dv, dvL, owns, ownsL, lkeep, seqQ, blockQ, initS, List.drop_zero, List.take_succ_cons, List.take_zero, List.getD_cons_zero, List.length_cons, List.length_nil, List.set_cons_zero, List.set_cons_succ, List.map_cons, List.map_nil, List.all_cons, List.all_nil, List.elem_cons, List.elem_nil, Option.getD_some, Option.bind_some, Option.isNone_none, reduceIte, reduceCtorEq, Nat.reduceEqDiff, Nat.reduceAdd, Nat.reduceLeDiff, Nat.zero_add, Nat.reduceBEq, Bool.and_self, Bool.or_self, true_and, and_true, and_self, Bool.false_eq_true, retQ, resOf, resV, Option.some.injEq, exists_eq_left', AV.d.injEq, D.v.injEq, loopQ_exit, subS, subO, elemsOf, bslD, bslS, lputs, argsN, dvN]
  all_goals try first
|omega
|(with_reducible rfl)
|(show Value.int _ 0 = _; rfl)
|(simp only [List.length_append, List.length_cons, List.length_nil]; omega)
|(simp only [List.length_append, List.length_cons, List.length_nil, List.map_append, List.map_cons, List.map_nil]; done)
|exact count64 he.2.2.2 hl
|(have h0 := of_decide_eq_true hc; have h1 := hx.2.2.1 (by omega); simp; omega)
|(have h0 := of_decide_eq_false hc; intro q; omega)
|(have h0 := of_decide_eq_true hc; have h1 := hx.2.2.2; rw [he.1, clsGo, if_pos (by omega)] at h1; exact h1)
|(have h0 := of_decide_eq_false hc; have h1 := hx.2.2.2; rw [he.1, clsGo, if_neg (by omega)] at h1; exact h1)
|(have h0 := of_decide_eq_false hc; have h1 := hx.2.2.2; rw [List.drop_eq_nil_of_le (by omega), clsGo] at h1; rw [h1]; done)
  all_goals trace_state
theorem for_fn (cs : List Clause) (hl : cs.length ≤ 1048576) (a b : Int) : FnS Tryz.prog 93 [.d (.sl 10 (cs.map Clause.row)), .ag [.d (.v (.int .u32 a)), .d (.v (.int .i64 b))]] (.d (.sl 10 ((forL cs a b).map Clause.row))) := by
  have hm : maxLen = 9223372036854775807 := rfl
  refine fn_of teok Tryz.func93 (by kernel_rfl) f93c f93k [.tmp 4] rfl (by show 2 ≤ 41; omega) ?_
  first | (have _q := @g1; clear _q) | have g1 : Nat.pred 77 = 76 := rfl
  repeat' first
|(with_reducible first | refine awp_seq ?_ | refine awp_block ?_ | refine awp_reg ?_ | refine awp_ret ?_ | refine awp_skip ?_ | refine awp_exit ?_ | refine normQ_of ?_ | refine wkE_of ?_)
|with_reducible refine awp_cond (by simp only [evX, lget, Option.getD_some, reduceIte, Nat.reduceEqDiff]; rfl) (fun hc => ?_) (fun hc => ?_)
|with_reducible refine CallC_of (f := 120) (fun _ => covers_fn _ _ _ _) (by first | exact Or.inr (Or.inl rfl) | exact Or.inl rfl) ?_
|(with_reducible assumption)
|with_reducible refine fun (hG : okL _) => ?_
|(with_reducible refine fun (hT : (_ : Bool) = _) => ?_)
|(with_reducible first | exact hG.2 | exact hG.2.2 | exact hG.2.2.2 | exact hG.2.2.2.2)
|with_reducible refine okL_mk ?_ ?_
|with_reducible refine And.intro ?_ ?_
|(with_reducible refine awp_loopU (b := f93p8) (fun x : Nat × List Clause => x.1 ≤ cs.length ∧ x.2.length ≤ x.1 ∧ forGo a b (cs.drop x.1) x.2 = forL cs a b) (fun x => cs.length - x.1) (fun x => [(10, .d (.v (.int .i64 x.1))), (5, .own 30 x.2.length)]) (fun x => [(30, .row 160 10 x.2.length (x.2.map Clause.row))]) ((0, [])) (⟨Nat.zero_le _, Nat.le_refl _, rfl⟩) (Wk_nl 5 30 160 rfl rfl (by decide)) (Wk_sub rfl rfl ?_ ?_) (fun x hx => ?_))
|(refine Exists.elim (at_drop Clause.row cs x.1 (Int.ofNat_lt.1 (of_decide_eq_true hc))) (fun c he => ?_); have g1 := he.2.1; replace hc : True := trivial)
|(have _q : (_ : Bool) = true := hc; with_reducible refine loopQ_next ((x.1 + 1, x.2)) ?_ ?_ (Wk_sub rfl rfl ?_ ?_))
|(have _q : (_ : Bool) = false := hc; with_reducible refine loopQ_next ((x.1 + 1, x.2 ++ [c.free])) ?_ ?_ (Wk_sub rfl rfl ?_ ?_))
|simp only [f93r0, f93r1, f93r2, f93r3, f93r4, f93r5, f93r6, f93r7, f93r8, f93r9, f93r10, g1, f93k, List.length_map, runG_nil, runG_u, runG_g, runG_gcS, stp, evs, evX, lget, lput, strip, putO, PO.dst, updO, okR, cells, splice, AV.cell, toD, toDs, binV, sameK, pickV, guardOf, okL_nil, sides, argsOf, rawOf, dv, dvL, owns, ownsL, lkeep, seqQ, blockQ, initS, List.drop_succ_cons, List.drop_zero, List.take_succ_cons, List.take_zero, List.getD_cons_zero, List.getD_cons_succ, List.length_cons, List.length_nil, List.set_cons_zero, List.set_cons_succ, List.map_cons, List.map_nil, List.all_cons, List.all_nil, List.elem_cons, List.elem_nil, Option.getD_some, Option.bind_some, Option.isNone_none, reduceIte, reduceCtorEq, Nat.reduceEqDiff, Nat.reduceAdd, Nat.reduceLeDiff, Nat.zero_add, Nat.add_zero, Nat.reduceBEq, Bool.and_self, Bool.or_self, true_and, and_true, and_self, implies_true, Bool.false_eq_true, retQ, resOf, resV, Option.some.injEq, exists_eq_left', AV.d.injEq, D.v.injEq, imp_self, bldF, bldS, loopQ_exit, subS, subO, Bool.bne_false, elemsOf, bslD, bslS, lputs, argsN, dvN]
  all_goals try first
    | omega
    | (with_reducible rfl)
    | (show Value.int _ 0 = _; rfl)
    | (simp only [List.length_append, List.length_cons, List.length_nil]; omega)
    | (simp only [List.length_append, List.length_cons, List.length_nil, List.map_append, List.map_cons, List.map_nil]; done)
    | exact count64 he.2.2.2 (by omega)
    | (have h0 := of_decide_eq_false hc; have h1 := hx.2.2; rw [List.drop_eq_nil_of_le (by omega), forGo] at h1; rw [h1]; done)
    | (grind [forGo, Clause.free])
    | (have h1 : forL cs a b = x.2 ++ [c.free] := by grind [forGo]
       rw [h1, List.map_append]; rfl)
  all_goals trace_state
theorem plain_fn (rs : List Rule) (hl : rs.length ≤ maxLen) (hr : ∀ r ∈ rs, 0 ≤ r.to ∧ r.to ≤ 255) : FnS Tryz.prog 57 [.d (.sl 6 (rs.map Rule.row))] (.d (.sl 10 ((plainL rs).map Clause.row))) := by
  refine fn_of teok Tryz.func57 (by kernel_rfl) f57c f57k [.tmp 2] rfl (by show 1 ≤ 7; omega) ?_
  repeat' first
|(with_reducible first | refine awp_seq ?_ | refine awp_reg ?_ | refine awp_ret ?_ | refine awp_skip ?_ | refine normQ_of ?_ | refine wkE_of ?_)
|with_reducible refine awp_cond (by simp only [evX]; rfl) (fun hc => ?_) (fun hc => ?_)
|with_reducible refine CallU_of (f := 62) (clauses_fn rs hl hr) (by first | exact Or.inr (Or.inl rfl) | exact Or.inl rfl) ?_
|with_reducible refine CallU_of (f := 93) (for_fn (clausesL rs) (Nat.le_trans (clausesL_len rs) (by decide)) _ _) (by first | exact Or.inr (Or.inl rfl) | exact Or.inl rfl) ?_
|(with_reducible assumption)
|(with_reducible refine fun (hT : (_ : Bool) = _) => ?_)
|with_reducible refine And.intro ?_ ?_
|simp only [f57r0, f57r1, f57k, runG_nil, runG_u, runG_ucS, stp, evs, evX, lget, lput, strip, putO, PO.dst, updO, okR, cells, splice, AV.cell, sides, argsOf, rawOf, dv, dvL, owns, ownsL, lkeep, seqQ, initS, List.length_cons, List.length_nil, List.set_cons_zero, List.set_cons_succ, List.all_cons, List.all_nil, List.elem_cons, List.elem_nil, Option.getD_some, reduceIte, reduceCtorEq, Nat.reduceEqDiff, Nat.reduceAdd, Nat.reduceLeDiff, Nat.zero_add, Nat.reduceBEq, Bool.and_self, Bool.or_self, true_and, and_self, Bool.false_eq_true, retQ, resOf, resV, Option.some.injEq, exists_eq_left', AV.d.injEq, bldF, bldS, argsN, dvN]
  all_goals try rfl
theorem arc_fn (w : Wire) (h1 : w.exp.length ≤ maxLen) (h2 : w.imp.length ≤ maxLen) (h3 : ∀ r ∈ w.exp, 0 ≤ r.to ∧ r.to ≤ 255) (h4 : ∀ r ∈ w.imp, 0 ≤ r.to ∧ r.to ≤ 255) : FnS Tryz.prog 33 [.ag w.box] (.ag w.arc.box) := by
  refine fn_of teok Tryz.func33 (by kernel_rfl) f33c f33k [.cell 2 91] rfl (by show 1 ≤ 18; omega) ?_
  repeat' first
|(with_reducible first | refine awp_seq ?_ | refine awp_reg ?_ | refine awp_regD ?_ | refine awp_ret ?_ | refine awp_skip ?_ | refine normQ_of ?_ | refine wkE_of ?_ | refine runD_nil ?_ | refine runD_cons ?_ | refine runF_cons ?_ | refine runF_nil ?_ | refine KF_of ?_ | refine chkQ_of rfl ?_)
|with_reducible refine awp_cond (by simp only [evX]; rfl) (fun hc => ?_) (fun hc => ?_)
|with_reducible refine CallU_of (f := 57) (plain_fn w.exp h1 h3) (by first | exact Or.inr (Or.inl rfl) | exact Or.inl rfl) ?_
|with_reducible refine CallU_of (f := 57) (plain_fn w.imp h2 h4) (by first | exact Or.inr (Or.inl rfl) | exact Or.inl rfl) ?_
|(with_reducible assumption)
|(with_reducible refine fun (hT : (_ : Bool) = _) => ?_)
|with_reducible refine And.intro ?_ ?_
|simp only [f33r0, f33r1, f33k, te91, runG_nil, runG_u, runG_ucS, stp, evs, evX, lget, lput, strip, putO, PO.dst, updO, okR, cells, splice, AV.cell, binV, sameK, sides, argsOf, rawOf, dv, dvL, owns, ownsL, lkeep, seqQ, initS, List.drop_succ_cons, List.drop_zero, List.take_succ_cons, List.take_zero, List.getD_cons_zero, List.getD_cons_succ, List.length_cons, List.length_nil, List.set_cons_zero, List.set_cons_succ, List.all_cons, List.all_nil, List.elem_cons, List.elem_nil, Option.getD_some, Option.bind_some, Option.isNone_none, reduceIte, reduceCtorEq, Nat.reduceEqDiff, Nat.reduceAdd, Nat.reduceLeDiff, Nat.zero_add, Nat.add_zero, Nat.reduceBEq, Bool.and_self, Bool.or_self, true_and, and_self, Bool.false_eq_true, retQ, resOf, resV, Option.some.injEq, exists_eq_left', bldF, bldS, argsN, dvN]
  all_goals try first
|decide
|rfl
  all_goals trace_state
end Go.Proofs.YtgkkaimcchlnaaaGreatDoor
