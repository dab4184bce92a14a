/- What layers 5, 11 and 12 come to: prefixes, clauses and edges. Printed by a program of this project (wip/mq). -/
import Derived.Test.YtgkkaimcchlnaaaGreatDoorQ0
import Derived.Test.YtgkkaimcchlnaaaGreatDoorMqPl
set_option linter.unusedVariables false
set_option linter.unusedSimpArgs false

namespace Go.Proofs.YtgkkaimcchlnaaaGreatDoor
open Go Mq Go.ChangeShapes Go.WideShapes Go.ChangeAt Go.RowKit
/-! maquette/prefix.mask -/
def f155r0 : List PG := [.u (.mv 2 (.k (.int .u32 0)))]
def f155r1 : List PG := [.u (.mv 3 (.t 0)), .u (.bo 4 .leq (.t 3) (.k (.int .i64 0)))]
def f155r2 : List PG := [.u (.mv 2 (.k (.int .u32 0)))]
abbrev f155p0 : PC := .seq (.reg f155r2) (.ret)
abbrev f155p1 : PC := .cond (.t 4) (f155p0) (.skip)
def f155r3 : List PG := [.u (.mv 5 (.t 0)), .u (.mx 6 true (.t 5) (.k (.int .i64 32))), .u (.bo 7 .sub (.k (.int .i64 32)) (.t 6)), .u (.bo 8 .shl (.k (.int .u32 4294967295)) (.t 7)), .u (.mv 2 (.t 8))]
abbrev f155p2 : PC := .seq (.reg f155r3) (.ret)
abbrev f155p3 : PC := .seq (.seq (.reg f155r1) (f155p1)) (f155p2)
abbrev f155pc : PC := .seq (.reg f155r0) (f155p3)
def f155k : List Nat := [0, 2, 4]
theorem f155c : Tryz.f155.body.bind (cC te Tryz.f155.ntmps) = some f155pc := by kernel_rfl
/-! maquette/prefix.May -/
def f144r0 : List PG := [.u (.bx 1 (.t 0)), .u (.mv 2 (.k (.bool false)))]
def f144r1 : List PG := [.u (.fa 3 1 (.t 1)), .u (.ld 4 1 false (.t 3)), .u (.bo 5 .geq (.t 4) (.k (.int .i64 0))), .u (.mv 6 (.t 5)), .g 6 true (.fa 7 1 (.t 1)), .g 6 true (.ld 8 1 false (.t 7)), .g 6 true (.bo 9 .leq (.t 8) (.k (.int .i64 32))), .u (.pick 10 (.t 6) (.t 9) (.k (.bool false))), .u (.mv 11 (.t 10)), .g 11 true (.fa 12 0 (.t 1)), .g 11 true (.ld 13 1 false (.t 12)), .g 11 true (.fa 14 1 (.t 1)), .g 11 true (.ld 15 1 false (.t 14)), .gc 11 true 16 155 [.t 15], .g 11 true (.bo 17 .andNot (.t 13) (.t 16)), .g 11 true (.beq 18 false false (.t 17) (.k (.int .u32 0))), .u (.pick 19 (.t 11) (.t 18) (.k (.bool false))), .u (.mv 2 (.t 19))]
abbrev f144p0 : PC := .seq (.regD f144r1 []) (.ret)
abbrev f144pc : PC := .seq (.reg f144r0) (f144p0)
def f144k : List Nat := [0, 1, 2]
theorem f144c : Tryz.f144.body.bind (cC te Tryz.f144.ntmps) = some f144pc := by kernel_rfl
/-! maquette/prefix.Covers -/
def f120r0 : List PG := [.u (.bx 2 (.t 0)), .u (.bx 3 (.t 1)), .u (.mv 4 (.k (.bool false)))]
def f120r1 : List PG := [.u (.ld 5 2 true (.t 2)), .uc 6 144 [.t 5], .u (.mv 7 (.t 6)), .g 7 true (.ld 8 2 true (.t 3)), .gc 7 true 9 144 [.t 8], .u (.pick 10 (.t 7) (.t 9) (.k (.bool false))), .u (.mv 11 (.t 10)), .g 11 true (.fa 12 1 (.t 2)), .g 11 true (.ld 13 1 false (.t 12)), .g 11 true (.fa 14 1 (.t 3)), .g 11 true (.ld 15 1 false (.t 14)), .g 11 true (.bo 16 .leq (.t 13) (.t 15)), .u (.pick 17 (.t 11) (.t 16) (.k (.bool false))), .u (.mv 18 (.t 17)), .g 18 true (.fa 19 0 (.t 3)), .g 18 true (.ld 20 1 false (.t 19)), .g 18 true (.fa 21 1 (.t 2)), .g 18 true (.ld 22 1 false (.t 21)), .gc 18 true 23 155 [.t 22], .g 18 true (.bo 24 .and (.t 20) (.t 23)), .g 18 true (.fa 25 0 (.t 2)), .g 18 true (.ld 26 1 false (.t 25)), .g 18 true (.beq 27 false false (.t 24) (.t 26)), .u (.pick 28 (.t 18) (.t 27) (.k (.bool false))), .u (.mv 4 (.t 28))]
abbrev f120p0 : PC := .seq (.regD f120r1 []) (.ret)
abbrev f120pc : PC := .seq (.reg f120r0) (f120p0)
def f120k : List Nat := [0, 1, 2, 3, 4]
theorem f120c : Tryz.f120.body.bind (cC te Tryz.f120.ntmps) = some f120pc := by kernel_rfl
/-! maquette/clause.Matches -/
def f121r0 : List PG := [.u (.bx 3 (.t 0)), .u (.bx 4 (.t 1)), .u (.mv 6 (.k (.bool false)))]
def f121r1 : List PG := [.u (.fa 7 0 (.t 3)), .u (.ld 8 1 false (.t 7)), .u (.mv 9 (.t 8)), .g 9 false (.fa 10 1 (.t 3)), .g 9 false (.ld 11 2 true (.t 10)), .g 9 false (.ld 12 2 true (.t 4)), .gc 9 false 13 120 [.t 11, .t 12], .u (.pick 14 (.t 9) (.k (.bool true)) (.t 13)), .u (.mv 15 (.t 14)), .g 15 true (.mv 16 (.t 2)), .g 15 true (.fa 17 3 (.t 3)), .g 15 true (.ld 18 1 false (.t 17)), .g 15 true (.bo 19 .and (.t 16) (.t 18)), .g 15 true (.fa 20 3 (.t 3)), .g 15 true (.ld 21 1 false (.t 20)), .g 15 true (.beq 22 false false (.t 19) (.t 21)), .u (.pick 23 (.t 15) (.t 22) (.k (.bool false))), .u (.mv 24 (.t 23)), .g 24 true (.mv 25 (.t 2)), .g 24 true (.fa 26 4 (.t 3)), .g 24 true (.ld 27 1 false (.t 26)), .g 24 true (.bo 28 .and (.t 25) (.t 27)), .g 24 true (.beq 29 false false (.t 28) (.k (.int .u8 0))), .u (.pick 30 (.t 24) (.t 29) (.k (.bool false))), .u (.mv 6 (.t 30))]
abbrev f121p0 : PC := .seq (.reg f121r1) (.ret)
abbrev f121pc : PC := .seq (.reg f121r0) (f121p0)
def f121k : List Nat := [0, 1, 2, 3, 4, 6]
theorem f121c : Tryz.f121.body.bind (cC te Tryz.f121.ntmps) = some f121pc := by kernel_rfl
/-! maquette/clause.Do -/
def f79r0 : List PG := [.u (.bx 4 (.t 1)), .u (.bx 5 (.t 2)), .u (.al 6 [.d (.v (.bool false)), .d (.v (.int .i64 0)), .d (.v (.int .i64 0)), .d (.v (.int .u8 0))])]
def f79r1 : List PG := [.u (.fa 9 0 (.t 5)), .u (.ld 10 1 false (.t 9)), .u (.no 11 (.t 10))]
def f79r2 : List PG := [.u (.bld 12 [.d (.v (.bool false)), .d (.v (.int .i64 0)), .d (.v (.int .i64 0)), .d (.v (.int .u8 0))] []), .u (.st 4 (.t 6) (.t 12))]
abbrev f79p0 : PC := .seq (.reg f79r2) (.ret)
abbrev f79p1 : PC := .cond (.t 11) (f79p0) (.skip)
def f79r3 : List PG := [.u (.mv 13 (.t 0)), .u (.len 14 (.t 13)), .u (.mv 15 (.k (.int .i64 0)))]
def f79r4 : List PG := [.u (.bo 16 .lss (.t 15) (.t 14))]
def f79r5 : List PG := [.u (.ia 17 10 (.t 13) (.t 15)), .u (.ld 18 10 true (.t 17)), .u (.al 8 [.d (.v (.bool false)), .d (.v (.int .u32 0)), .d (.v (.int .i64 0)), .d (.v (.int .u8 0)), .d (.v (.int .u8 0)), .d (.v (.bool false)), .d (.v (.int .u8 0)), .d (.v (.int .u8 0)), .d (.v (.int .i64 0)), .d (.v (.int .i64 0))]), .u (.st 10 (.t 8) (.t 18))]
def f79r6 : List PG := [.u (.ld 19 10 true (.t 8)), .u (.ld 20 2 true (.t 4)), .u (.fa 21 3 (.t 5)), .u (.ld 22 1 false (.t 21)), .uc 23 121 [.t 19, .t 20, .t 22], .u (.no 24 (.t 23))]
abbrev f79p2 : PC := .cond (.t 24) (.exit 1) (.skip)
def f79r7 : List PG := [.u (.fa 25 5 (.t 8)), .u (.ld 26 1 false (.t 25))]
def f79r8 : List PG := [.u (.bld 27 [.d (.v (.bool false)), .d (.v (.int .i64 0)), .d (.v (.int .i64 0)), .d (.v (.int .u8 0))] []), .u (.st 4 (.t 6) (.t 27))]
abbrev f79p3 : PC := .seq (.reg f79r8) (.ret)
abbrev f79p4 : PC := .cond (.t 26) (f79p3) (.skip)
def f79r9 : List PG := [.u (.fa 28 3 (.t 5)), .u (.ld 29 1 false (.t 28)), .u (.fa 30 6 (.t 8)), .u (.ld 31 1 false (.t 30)), .u (.bo 32 .or (.t 29) (.t 31)), .u (.fa 33 7 (.t 8)), .u (.ld 34 1 false (.t 33)), .u (.bo 35 .andNot (.t 32) (.t 34)), .u (.bo 36 .and (.t 35) (.k (.int .u8 15))), .u (.fa 37 3 (.t 5)), .u (.st 1 (.t 37) (.t 36))]
def f79r10 : List PG := [.u (.fa 38 2 (.t 5)), .u (.ld 39 1 false (.t 38)), .u (.fa 40 8 (.t 8)), .u (.ld 41 1 false (.t 40)), .u (.mx 42 true (.t 41) (.k (.int .i64 15))), .u (.mx 43 false (.k (.int .i64 0)) (.t 42)), .u (.bo 44 .add (.t 39) (.t 43)), .u (.fa 45 2 (.t 5)), .u (.st 1 (.t 45) (.t 44))]
def f79r11 : List PG := [.u (.fa 46 9 (.t 8)), .u (.ld 47 1 false (.t 46)), .u (.bo 48 .gtr (.t 47) (.k (.int .i64 0))), .u (.mv 49 (.t 48)), .g 49 true (.fa 50 9 (.t 8)), .g 49 true (.ld 51 1 false (.t 50)), .g 49 true (.bo 52 .leq (.t 51) (.k (.int .i64 255))), .u (.pick 53 (.t 49) (.t 52) (.k (.bool false)))]
def f79r12 : List PG := [.u (.fa 54 9 (.t 8)), .u (.ld 55 1 false (.t 54)), .u (.fa 56 1 (.t 5)), .u (.st 1 (.t 56) (.t 55))]
abbrev f79p5 : PC := .cond (.t 53) (.reg f79r12) (.skip)
def f79r13 : List PG := [.u (.ld 57 4 true (.t 5)), .u (.st 4 (.t 6) (.t 57))]
abbrev f79p6 : PC := .seq (.reg f79r13) (.ret)
abbrev f79p7 : PC := .seq (.seq (.reg f79r11) (f79p5)) (f79p6)
abbrev f79p8 : PC := .seq (.reg f79r10) (f79p7)
abbrev f79p9 : PC := .seq (.reg f79r9) (f79p8)
abbrev f79p10 : PC := .seq (.seq (.reg f79r7) (f79p4)) (f79p9)
abbrev f79p11 : PC := .seq (.seq (.reg f79r6) (f79p2)) (f79p10)
def f79r14 : List PG := [.u (.bo 58 .add (.t 15) (.k (.int .i64 1))), .u (.mv 15 (.t 58))]
abbrev f79p12 : PC := .seq (.block 1 (.seq (.reg f79r5) (f79p11))) (.reg f79r14)
abbrev f79p13 : PC := .seq (.cond (.t 16) (.skip) (.exit 0)) (f79p12)
abbrev f79p14 : PC := .seq (.reg f79r4) (f79p13)
abbrev f79p15 : PC := .block 0 (.loop (f79p14))
def f79r15 : List PG := [.u (.ld 59 4 true (.t 5)), .u (.st 4 (.t 6) (.t 59))]
abbrev f79p16 : PC := .seq (.reg f79r15) (.ret)
abbrev f79p17 : PC := .seq (.seq (.reg f79r3) (f79p15)) (f79p16)
abbrev f79p18 : PC := .seq (.seq (.reg f79r1) (f79p1)) (f79p17)
abbrev f79pc : PC := .seq (.reg f79r0) (f79p18)
def f79k : List Nat := [0, 1, 2, 4, 5, 6, 8, 11, 13, 14, 15, 16, 24, 26, 53]
theorem f79c : Tryz.f79.body.bind (cC te Tryz.f79.ntmps) = some f79pc := by kernel_rfl
/-! maquette/edge.Take -/
def f45r0 : List PG := [.u (.bx 2 (.t 0)), .u (.bx 3 (.t 1)), .u (.al 4 [.d (.v (.bool false)), .d (.v (.int .i64 0)), .d (.v (.int .i64 0)), .d (.v (.int .u8 0))])]
def f45r1 : List PG := [.u (.fa 5 2 (.t 2)), .u (.ld 6 1 false (.t 5)), .u (.bld 7 [.d (.v (.int .u32 0)), .d (.v (.int .i64 0))] []), .u (.ld 8 4 true (.t 3)), .uc 9 79 [.t 6, .t 7, .t 8], .u (.st 4 (.t 3) (.t 9))]
def f45r2 : List PG := [.u (.fa 10 0 (.t 3)), .u (.ld 11 1 false (.t 10)), .u (.no 12 (.t 11))]
def f45r3 : List PG := [.u (.bld 13 [.d (.v (.bool false)), .d (.v (.int .i64 0)), .d (.v (.int .i64 0)), .d (.v (.int .u8 0))] []), .u (.st 4 (.t 4) (.t 13))]
abbrev f45p0 : PC := .seq (.reg f45r3) (.ret)
abbrev f45p1 : PC := .cond (.t 12) (f45p0) (.skip)
def f45r4 : List PG := [.u (.fa 14 2 (.t 3)), .u (.ld 15 1 false (.t 14)), .u (.fa 16 1 (.t 2)), .u (.ld 17 1 false (.t 16)), .u (.mx 18 true (.t 17) (.k (.int .i64 1000))), .u (.mx 19 false (.k (.int .i64 1)) (.t 18)), .u (.bo 20 .add (.t 15) (.t 19)), .u (.fa 21 2 (.t 3)), .u (.st 1 (.t 21) (.t 20))]
def f45r5 : List PG := [.u (.fa 22 1 (.t 3)), .u (.st 1 (.t 22) (.k (.int .i64 100)))]
def f45r6 : List PG := [.u (.fa 23 3 (.t 2)), .u (.ld 24 1 false (.t 23)), .u (.bld 25 [.d (.v (.int .u32 0)), .d (.v (.int .i64 0))] []), .u (.ld 26 4 true (.t 3)), .uc 27 79 [.t 24, .t 25, .t 26], .u (.st 4 (.t 4) (.t 27))]
abbrev f45p2 : PC := .seq (.reg f45r6) (.ret)
abbrev f45p3 : PC := .seq (.reg f45r5) (f45p2)
abbrev f45p4 : PC := .seq (.reg f45r4) (f45p3)
abbrev f45p5 : PC := .seq (.seq (.reg f45r2) (f45p1)) (f45p4)
abbrev f45p6 : PC := .seq (.reg f45r1) (f45p5)
abbrev f45pc : PC := .seq (.reg f45r0) (f45p6)
def f45k : List Nat := [0, 1, 2, 3, 4, 12]
theorem f45c : Tryz.f45.body.bind (cC te Tryz.f45.ntmps) = some f45pc := by kernel_rfl
set_option maxRecDepth 20000
set_option maxHeartbeats 4000000


theorem mask_fn (b : Int) : FnS Tryz.prog 155 [.d (.v (.int .i64 b))] (.d (.v (.int .u32 (maskV b)))) := by
  refine fn_of teok Tryz.func155 (by kernel_rfl) f155c f155k [.tmp 2] rfl (by show 1 ≤ 9; omega) ?_
  repeat' first
|(with_reducible first | refine awp_seq ?_ | refine awp_reg ?_ | refine awp_ret ?_ | refine awp_skip ?_ | refine normQ_of ?_ | refine wkE_of ?_)
|with_reducible refine awp_cond (by simp only [evX, lget, Option.getD_some, reduceIte, Nat.reduceEqDiff]; rfl) (fun hc => ?_) (fun hc => ?_)
|(with_reducible assumption)
|(with_reducible refine fun (hT : (_ : Bool) = _) => ?_)
|with_reducible refine And.intro ?_ ?_
|simp only [f155r0, f155r1, f155r2, f155r3, f155k, runG_nil, runG_u, stp, evs, evX, lget, lput, strip, putO, PO.dst, updO, okR, binV, sameK, dv, lkeep, seqQ, initS, List.elem_cons, List.elem_nil, Option.getD_some, Option.bind_some, reduceIte, reduceCtorEq, Nat.reduceEqDiff, Nat.reduceBEq, true_and, and_self, Bool.false_eq_true, retQ, resOf, resV, Option.some.injEq, exists_eq_left', AV.d.injEq, D.v.injEq]
  all_goals try first
|(have hb := of_decide_eq_true hc; simp only [maskV, if_pos hb]; done)
|(have hb := of_decide_eq_false hc; exact mask_ok hb)
|(have hb := of_decide_eq_false hc; simp only [maskV, if_neg hb, mn]; done)
  all_goals trace_state
theorem pmay_fn (a b : Int) : FnS Tryz.prog 144 [.ag [.d (.v (.int .u32 a)), .d (.v (.int .i64 b))]] (.d (.v (.bool (pMay a b)))) := by
  refine fn_of teok Tryz.func144 (by kernel_rfl) f144c f144k [.tmp 2] rfl (by show 1 ≤ 20; omega) ?_
  repeat' first
|(with_reducible first | refine awp_seq ?_ | refine awp_reg ?_ | refine awp_regD ?_ | refine awp_ret ?_ | refine awp_skip ?_ | refine normQ_of ?_ | refine wkE_of ?_ | refine runD_nil ?_ | refine runD_cons ?_ | refine runF_cons ?_ | refine runF_nil ?_ | refine KF_of ?_ | refine chkQ_of rfl ?_)
|with_reducible refine awp_cond (by simp only [evX]; rfl) (fun hc => ?_) (fun hc => ?_)
|with_reducible refine CallC_of (f := 155) (fun _ => mask_fn _) (by first | exact Or.inr (Or.inl rfl) | exact Or.inl rfl) ?_
|(with_reducible assumption)
|with_reducible refine fun (hG : okL _) => ?_
|(with_reducible refine fun (hT : (_ : Bool) = _) => ?_)
|(with_reducible first | exact hG.2 | exact hG.2.2 | exact hG.2.2.2 | exact hG.2.2.2.2)
|with_reducible refine okL_mk ?_ ?_
|with_reducible refine And.intro ?_ ?_
|simp only [f144r0, f144r1, f144k, runG_nil, runG_u, runG_g, runG_gcS, stp, evs, evX, lget, lput, strip, putO, PO.dst, updO, okR, cells, AV.cell, binV, sameK, pickV, guardOf, okL_nil, sides, argsOf, rawOf, dv, owns, ownsL, lkeep, seqQ, initS, List.drop_succ_cons, List.drop_zero, List.take_succ_cons, List.take_zero, List.getD_cons_zero, List.getD_cons_succ, List.length_cons, List.length_nil, List.all_cons, List.all_nil, List.elem_cons, List.elem_nil, Option.getD_some, Option.bind_some, Option.isNone_none, reduceIte, reduceCtorEq, Nat.reduceEqDiff, Nat.reduceAdd, Nat.reduceLeDiff, Nat.zero_add, Nat.add_zero, Nat.reduceBEq, Bool.and_self, Bool.or_self, true_and, and_true, and_self, implies_true, Bool.false_eq_true, retQ, resOf, resV, Option.some.injEq, exists_eq_left', AV.d.injEq, D.v.injEq, Value.bool.injEq, imp_self, Bool.bne_false, argsN, dvN]
  all_goals try first
|(grind [pMay])
  all_goals trace_state
theorem covers_fn (a b a' b' : Int) : FnS Tryz.prog 120 [.ag [.d (.v (.int .u32 a)), .d (.v (.int .i64 b))], .ag [.d (.v (.int .u32 a')), .d (.v (.int .i64 b'))]] (.d (.v (.bool (covers a b a' b')))) := by
  refine fn_of teok Tryz.func120 (by kernel_rfl) f120c f120k [.tmp 4] rfl (by show 2 ≤ 29; omega) ?_
  repeat' first
|(with_reducible first | refine awp_seq ?_ | refine awp_reg ?_ | refine awp_regD ?_ | refine awp_ret ?_ | refine awp_skip ?_ | refine normQ_of ?_ | refine wkE_of ?_ | refine runD_nil ?_ | refine runD_cons ?_ | refine runF_cons ?_ | refine runF_nil ?_ | refine KF_of ?_ | refine chkQ_of rfl ?_)
|with_reducible refine awp_cond (by simp only [evX]; rfl) (fun hc => ?_) (fun hc => ?_)
|with_reducible refine CallU_of (f := 144) (pmay_fn _ _) (by first | exact Or.inr (Or.inl rfl) | exact Or.inl rfl) ?_
|with_reducible refine CallC_of (f := 144) (fun _ => pmay_fn _ _) (by first | exact Or.inr (Or.inl rfl) | exact Or.inl rfl) ?_
|with_reducible refine CallC_of (f := 155) (fun _ => mask_fn _) (by first | exact Or.inr (Or.inl rfl) | exact Or.inl rfl) ?_
|(with_reducible assumption)
|with_reducible refine fun (hG : okL _) => ?_
|(with_reducible refine fun (hT : (_ : Bool) = _) => ?_)
|(with_reducible first | exact hG.2 | exact hG.2.2 | exact hG.2.2.2 | exact hG.2.2.2.2)
|with_reducible refine okL_mk ?_ ?_
|with_reducible refine And.intro ?_ ?_
|simp only [f120r0, f120r1, f120k, runG_nil, runG_u, runG_g, runG_ucS, runG_gcS, stp, evs, evX, lget, lput, strip, putO, PO.dst, updO, okR, cells, AV.cell, binV, sameK, pickV, guardOf, okL_nil, sides, argsOf, rawOf, dv, dvL, owns, ownsL, lkeep, seqQ, initS, List.drop_succ_cons, List.drop_zero, List.take_succ_cons, List.take_zero, List.getD_cons_zero, List.getD_cons_succ, List.length_cons, List.length_nil, List.all_cons, List.all_nil, List.elem_cons, List.elem_nil, Option.getD_some, Option.bind_some, Option.isNone_none, reduceIte, reduceCtorEq, Nat.reduceEqDiff, Nat.reduceAdd, Nat.reduceLeDiff, Nat.zero_add, Nat.add_zero, Nat.reduceBEq, Bool.and_self, Bool.or_self, true_and, and_true, and_self, implies_true, Bool.false_eq_true, retQ, resOf, resV, Option.some.injEq, exists_eq_left', AV.d.injEq, D.v.injEq, Value.bool.injEq, imp_self, Bool.bne_false, argsN, dvN]
  all_goals try first
|(grind [covers])
  all_goals trace_state
theorem matches_fn (c : Clause) (a b g : Int) : FnS Tryz.prog 121 [.ag c.box, .ag [.d (.v (.int .u32 a)), .d (.v (.int .i64 b))], .d (.v (.int .u8 g))] (.d (.v (.bool (matchesV c a b g)))) := by
  refine fn_of teok Tryz.func121 (by kernel_rfl) f121c f121k [.tmp 6] rfl (by show 3 ≤ 31; omega) ?_
  repeat' first
|(with_reducible first | refine awp_seq ?_ | refine awp_reg ?_ | refine awp_ret ?_ | refine awp_skip ?_ | refine normQ_of ?_ | refine wkE_of ?_)
|with_reducible refine awp_cond (by simp only [evX]; rfl) (fun hc => ?_) (fun hc => ?_)
|with_reducible refine CallC_of (f := 120) (fun _ => covers_fn _ _ _ _) (by first | exact Or.inr (Or.inl rfl) | exact Or.inl rfl) ?_
|(with_reducible assumption)
|with_reducible refine fun (hG : okL _) => ?_
|(with_reducible refine fun (hT : (_ : Bool) = _) => ?_)
|(with_reducible first | exact hG.2 | exact hG.2.2 | exact hG.2.2.2 | exact hG.2.2.2.2)
|with_reducible refine okL_mk ?_ ?_
|with_reducible refine And.intro ?_ ?_
|simp only [f121r0, f121r1, f121k, runG_nil, runG_u, runG_g, runG_gcS, stp, evs, evX, lget, lput, strip, putO, PO.dst, updO, okR, cells, AV.cell, binV, sameK, pickV, guardOf, okL_nil, sides, argsOf, rawOf, dv, dvL, owns, ownsL, lkeep, seqQ, initS, List.drop_succ_cons, List.drop_zero, List.take_succ_cons, List.take_zero, List.getD_cons_zero, List.getD_cons_succ, List.length_cons, List.length_nil, List.all_cons, List.all_nil, List.elem_cons, List.elem_nil, Option.getD_some, Option.bind_some, Option.isNone_none, reduceIte, reduceCtorEq, Nat.reduceEqDiff, Nat.reduceAdd, Nat.reduceLeDiff, Nat.zero_add, Nat.add_zero, Nat.reduceBEq, Bool.and_self, Bool.or_self, true_and, and_true, and_self, implies_true, Bool.false_eq_true, retQ, resOf, resV, Option.some.injEq, exists_eq_left', AV.d.injEq, D.v.injEq, Value.bool.injEq, imp_self, Bool.bne_false, argsN, dvN]
  all_goals try first
|(grind [matchesV])
  all_goals trace_state
theorem do_fn (cs : List Clause) (hcs : cs.length ≤ maxLen) (a b : Int) (x : Attr) : FnS Tryz.prog 79 [.d (.sl 10 (cs.map Clause.row)), .ag [.d (.v (.int .u32 a)), .d (.v (.int .i64 b))], x.av] (doV cs a b x).av := by
  refine fn_of teok Tryz.func79 (by kernel_rfl) f79c f79k [.cell 6 52] rfl (by show 3 ≤ 60; omega) ?_
  first | (have _q := @g1; clear _q) | have g1 : Nat.pred 77 = 76 := rfl
  repeat' first
|(with_reducible refine awp_mid (f79p6) [] [(5, .box (clauseV c x).box)] ?_ ?_)
|(with_reducible first | refine awp_seq ?_ | refine awp_block ?_ | refine awp_reg ?_ | refine awp_ret ?_ | refine awp_skip ?_ | refine awp_exit ?_ | refine normQ_of ?_ | refine wkE_of ?_)
|with_reducible refine midQ_of (Wk_sub rfl rfl ?_ ?_)
|with_reducible refine awp_cond (by simp only [evX, lget, Option.getD_some, reduceIte, Nat.reduceEqDiff]; rfl) (fun hc => ?_) (fun hc => ?_)
|with_reducible refine CallU_of (f := 121) (matches_fn _ _ _ _) (by first | exact Or.inr (Or.inl rfl) | exact Or.inl rfl) ?_
|(with_reducible assumption)
|with_reducible refine fun (hG : okL _) => ?_
|(with_reducible refine fun (hT : (_ : Bool) = _) => ?_)
|(with_reducible first | exact hG.2 | exact hG.2.2 | exact hG.2.2.2 | exact hG.2.2.2.2)
|with_reducible refine okL_mk ?_ ?_
|with_reducible refine And.intro ?_ ?_
|(with_reducible refine awp_loopU (b := f79p14) (fun i : Nat => i ≤ cs.length ∧ x.ok = true ∧ doGo a b x (cs.drop i) = doGo a b x cs) (fun i => cs.length - i) (fun i => [(15, .d (.v (.int .i64 i)))]) (fun i => []) (0) (⟨Nat.zero_le _, by simpa using hc, rfl⟩) (Wk.refl _ _) (Wk_sub rfl rfl ?_ ?_) (fun i hi => ?_))
|(refine Exists.elim (at_drop Clause.row cs i (Int.ofNat_lt.1 (of_decide_eq_true hc))) (fun c he => ?_); have g1 := he.2.1; replace hc : True := trivial)
|(with_reducible refine loopQ_next (i + 1) ?_ ?_ (Wk_sub rfl rfl ?_ ?_))
|simp only [f79r0, f79r1, f79r2, f79r3, f79r4, f79r5, f79r6, f79r7, f79r8, f79r9, f79r10, f79r11, f79r12, f79r13, f79r14, f79r15, g1, f79k, te52, List.length_map, runG_nil, runG_u, runG_g, runG_ucS, stp, evs, evX, lget, lput, strip, putO, PO.dst, updO, okR, cells, splice, AV.cell, binV, sameK, pickV, guardOf, okL_nil, sides, argsOf, rawOf, dv, dvL, owns, ownsL, lkeep, seqQ, blockQ, initS, List.drop_succ_cons, List.drop_zero, List.take_succ_cons, List.take_zero, List.getD_cons_zero, List.getD_cons_succ, List.length_cons, List.length_nil, List.set_cons_zero, List.set_cons_succ, List.map_cons, List.map_nil, List.all_cons, List.all_nil, List.elem_cons, List.elem_nil, Option.getD_some, Option.bind_some, Option.isNone_none, reduceIte, reduceCtorEq, Nat.reduceEqDiff, Nat.reduceAdd, Nat.reduceLeDiff, Nat.zero_add, Nat.add_zero, Nat.reduceBEq, Bool.and_self, Bool.or_self, true_and, and_true, and_self, implies_true, Bool.false_eq_true, retQ, resOf, resV, Option.some.injEq, exists_eq_left', AV.d.injEq, D.v.injEq, imp_self, bldF, bldS, loopQ_exit, loopQ_ret, subS, subO, lputs, argsN, dvN]
  all_goals try first
    | omega
    | (with_reducible rfl)
    | (show Value.int _ 0 = _; rfl)
    | (simp only [List.length_append, List.length_cons, List.length_nil]; omega)
    | (simp only [List.length_append, List.length_cons, List.length_nil, List.map_append, List.map_cons, List.map_nil]; done)
    | exact count64 he.2.2.2 hcs
    | (have h : doV cs a b x = attr0 := by grind [doV, doGo]
       rw [h]; rfl)
    | (grind [doV, doGo, clauseV, mn, mx])
    | rfl
  all_goals trace_state
theorem do_fn4 (cs : List Clause) (hcs : cs.length ≤ maxLen) (a b : Int) (o : Bool) (p c t : Int) : FnS Tryz.prog 79 [.d (.sl 10 (cs.map Clause.row)), .ag [.d (.v (.int .u32 a)), .d (.v (.int .i64 b))], .ag [.d (.v (.bool o)), .d (.v (.int .i64 p)), .d (.v (.int .i64 c)), .d (.v (.int .u8 t))]] (doV cs a b ⟨o, p, c, t⟩).av := do_fn cs hcs a b ⟨o, p, c, t⟩
theorem take_fn (e : Arc) (he : e.ok) (x : Attr) : FnS Tryz.prog 45 [.ag e.box, x.av] (takeV e x).av := by
  refine fn_of teok Tryz.func45 (by kernel_rfl) f45c f45k [.cell 4 52] rfl (by show 2 ≤ 28; omega) ?_
  repeat' first
|(with_reducible first | refine awp_seq ?_ | refine awp_reg ?_ | refine awp_ret ?_ | refine awp_skip ?_ | refine normQ_of ?_ | refine wkE_of ?_)
|with_reducible refine awp_cond (by simp only [evX, lget, Option.getD_some, reduceIte, Nat.reduceEqDiff]; rfl) (fun hc => ?_) (fun hc => ?_)
|with_reducible refine CallU_of (f := 79) (do_fn e.exp he.exp _ _ x) (by first | exact Or.inr (Or.inl rfl) | exact Or.inl rfl) ?_
|with_reducible refine CallU_of (f := 79) (do_fn4 e.imp he.imp _ _ _ _ _ _) (by first | exact Or.inr (Or.inl rfl) | exact Or.inl rfl) ?_
|(with_reducible assumption)
|(with_reducible refine fun (hT : (_ : Bool) = _) => ?_)
|with_reducible refine And.intro ?_ ?_
|simp only [f45r0, f45r1, f45r2, f45r3, f45r4, f45r5, f45r6, f45k, te52, runG_nil, runG_u, runG_ucS, stp, evs, evX, lget, lput, strip, putO, PO.dst, updO, okR, cells, splice, AV.cell, binV, sameK, sides, argsOf, rawOf, dv, dvL, owns, ownsL, lkeep, seqQ, initS, List.drop_succ_cons, List.drop_zero, List.take_succ_cons, List.take_zero, List.getD_cons_zero, List.getD_cons_succ, List.length_cons, List.length_nil, List.set_cons_zero, List.set_cons_succ, List.all_cons, List.all_nil, List.elem_cons, List.elem_nil, Option.getD_some, Option.bind_some, Option.isNone_none, reduceIte, reduceCtorEq, Nat.reduceEqDiff, Nat.reduceAdd, Nat.reduceLeDiff, Nat.zero_add, Nat.add_zero, Nat.reduceBEq, Bool.and_self, Bool.or_self, true_and, and_self, Bool.false_eq_true, retQ, resOf, resV, Option.some.injEq, exists_eq_left', bldF, bldS, argsN, dvN]
  all_goals try first
    | (have h : takeV e x = attr0 := by grind [takeV]
       rw [h]; rfl)
    | (have h : (doV e.exp 0 0 x).ok = true := by simpa using hc
       rw [show takeV e x = _ from if_pos h]; rfl)
  all_goals trace_state
end Go.Proofs.YtgkkaimcchlnaaaGreatDoor
