/- What layer 13's Same comes to, of a network and itself. Printed by a program of this project (wip/mq). -/
import Derived.Test.YtgkkaimcchlnaaaDoorTake
set_option linter.unusedVariables false
set_option linter.unusedSimpArgs false

namespace Go.Proofs.YtgkkaimcchlnaaaDoor
open Go Mq Go.ChangeShapes Go.WideShapes Go.ChangeAt Go.RowKit
/-! maquette/maquettelaw13.Same -/
def f10r0 : List PG := [.u (.bx 2 (.t 0)), .u (.bx 3 (.t 1)), .u (.mv 4 (.k (.bool false)))]
def f10r1 : List PG := [.u (.fa 11 0 (.t 2)), .u (.ld 12 1 false (.t 11)), .u (.len 13 (.t 12)), .u (.fa 14 0 (.t 3)), .u (.ld 15 1 false (.t 14)), .u (.len 16 (.t 15)), .u (.beq 17 true false (.t 13) (.t 16)), .u (.mv 18 (.t 17)), .g 18 false (.fa 19 1 (.t 2)), .g 18 false (.ld 20 1 false (.t 19)), .g 18 false (.len 21 (.t 20)), .g 18 false (.fa 22 1 (.t 3)), .g 18 false (.ld 23 1 false (.t 22)), .g 18 false (.len 24 (.t 23)), .g 18 false (.beq 25 true false (.t 21) (.t 24)), .u (.pick 26 (.t 18) (.k (.bool true)) (.t 25)), .u (.mv 27 (.t 26)), .g 27 false (.fa 28 2 (.t 2)), .g 27 false (.ld 29 1 false (.t 28)), .g 27 false (.len 30 (.t 29)), .g 27 false (.fa 31 2 (.t 3)), .g 27 false (.ld 32 1 false (.t 31)), .g 27 false (.len 33 (.t 32)), .g 27 false (.beq 34 true false (.t 30) (.t 33)), .u (.pick 35 (.t 27) (.k (.bool true)) (.t 34))]
def f10r2 : List PG := [.u (.mv 4 (.k (.bool false)))]
abbrev f10p0 : PC := .seq (.reg f10r2) (.ret)
abbrev f10p1 : PC := .cond (.t 35) (f10p0) (.skip)
def f10r3 : List PG := [.u (.fa 36 0 (.t 2)), .u (.ld 37 1 false (.t 36)), .u (.len 38 (.t 37)), .u (.mv 39 (.k (.int .i64 0)))]
def f10r4 : List PG := [.u (.bo 40 .lss (.t 39) (.t 38))]
def f10r5 : List PG := [.u (.mv 41 (.t 39)), .u (.mv 5 (.t 41))]
def f10r6 : List PG := [.u (.fa 42 0 (.t 2)), .u (.ld 43 1 false (.t 42)), .u (.mv 44 (.t 5)), .u (.ia 45 1 (.t 43) (.t 44)), .u (.ld 46 1 false (.t 45)), .u (.fa 47 0 (.t 3)), .u (.ld 48 1 false (.t 47)), .u (.mv 49 (.t 5)), .u (.ia 50 1 (.t 48) (.t 49)), .u (.ld 51 1 false (.t 50)), .u (.beq 52 true true (.t 46) (.t 51))]
def f10r7 : List PG := [.u (.mv 4 (.k (.bool false)))]
abbrev f10p2 : PC := .seq (.reg f10r7) (.ret)
abbrev f10p3 : PC := .cond (.t 52) (f10p2) (.skip)
abbrev f10p4 : PC := .seq (.regD f10r6 []) (f10p3)
def f10r8 : List PG := [.u (.bo 53 .add (.t 39) (.k (.int .i64 1))), .u (.mv 39 (.t 53))]
abbrev f10p5 : PC := .seq (.block 1 (.seq (.reg f10r5) (f10p4))) (.reg f10r8)
abbrev f10p6 : PC := .seq (.cond (.t 40) (.skip) (.exit 0)) (f10p5)
abbrev f10p7 : PC := .seq (.reg f10r4) (f10p6)
abbrev f10p8 : PC := .block 0 (.loop (f10p7))
def f10r9 : List PG := [.u (.fa 54 1 (.t 2)), .u (.ld 55 1 false (.t 54)), .u (.len 56 (.t 55)), .u (.mv 57 (.k (.int .i64 0)))]
def f10r10 : List PG := [.u (.bo 58 .lss (.t 57) (.t 56))]
def f10r11 : List PG := [.u (.mv 59 (.t 57)), .u (.mv 6 (.t 59))]
def f10r12 : List PG := [.u (.fa 60 1 (.t 2)), .u (.ld 61 1 false (.t 60)), .u (.mv 62 (.t 6)), .u (.ia 63 1 (.t 61) (.t 62)), .u (.ld 64 1 false (.t 63)), .u (.fa 65 1 (.t 3)), .u (.ld 66 1 false (.t 65)), .u (.mv 67 (.t 6)), .u (.ia 68 1 (.t 66) (.t 67)), .u (.ld 69 1 false (.t 68)), .u (.beq 70 true false (.t 64) (.t 69))]
def f10r13 : List PG := [.u (.mv 4 (.k (.bool false)))]
abbrev f10p9 : PC := .seq (.reg f10r13) (.ret)
abbrev f10p10 : PC := .cond (.t 70) (f10p9) (.skip)
abbrev f10p11 : PC := .seq (.regD f10r12 []) (f10p10)
def f10r14 : List PG := [.u (.bo 71 .add (.t 57) (.k (.int .i64 1))), .u (.mv 57 (.t 71))]
abbrev f10p12 : PC := .seq (.block 3 (.seq (.reg f10r11) (f10p11))) (.reg f10r14)
abbrev f10p13 : PC := .seq (.cond (.t 58) (.skip) (.exit 2)) (f10p12)
abbrev f10p14 : PC := .seq (.reg f10r10) (f10p13)
abbrev f10p15 : PC := .block 2 (.loop (f10p14))
def f10r15 : List PG := [.u (.fa 72 2 (.t 2)), .u (.ld 73 1 false (.t 72)), .u (.len 74 (.t 73)), .u (.mv 75 (.k (.int .i64 0)))]
def f10r16 : List PG := [.u (.bo 76 .lss (.t 75) (.t 74))]
def f10r17 : List PG := [.u (.mv 77 (.t 75)), .u (.mv 7 (.t 77))]
def f10r18 : List PG := [.u (.fa 78 2 (.t 2)), .u (.ld 79 1 false (.t 78)), .u (.mv 80 (.t 7)), .u (.ia 81 1 (.t 79) (.t 80)), .u (.ld 82 1 false (.t 81)), .u (.len 83 (.t 82)), .u (.fa 84 2 (.t 3)), .u (.ld 85 1 false (.t 84)), .u (.mv 86 (.t 7)), .u (.ia 87 1 (.t 85) (.t 86)), .u (.ld 88 1 false (.t 87)), .u (.len 89 (.t 88)), .u (.beq 90 true false (.t 83) (.t 89))]
def f10r19 : List PG := [.u (.mv 4 (.k (.bool false)))]
abbrev f10p16 : PC := .seq (.reg f10r19) (.ret)
abbrev f10p17 : PC := .cond (.t 90) (f10p16) (.skip)
def f10r20 : List PG := [.u (.fa 91 2 (.t 2)), .u (.ld 92 1 false (.t 91)), .u (.mv 93 (.t 7)), .u (.ia 94 1 (.t 92) (.t 93)), .u (.ld 95 1 false (.t 94)), .u (.len 96 (.t 95)), .u (.mv 97 (.k (.int .i64 0)))]
def f10r21 : List PG := [.u (.bo 98 .lss (.t 97) (.t 96))]
def f10r22 : List PG := [.u (.mv 99 (.t 97)), .u (.ia 100 4 (.t 95) (.t 97)), .u (.ld 101 4 true (.t 100)), .u (.al 9 [.d (.v (.int .i64 0)), .d (.v (.int .i64 0)), .nl 10, .nl 10]), .u (.mv 8 (.t 99)), .u (.st 4 (.t 9) (.t 101))]
def f10r23 : List PG := [.u (.fa 102 2 (.t 3)), .u (.ld 103 1 false (.t 102)), .u (.mv 104 (.t 7)), .u (.ia 105 1 (.t 103) (.t 104)), .u (.ld 106 1 false (.t 105)), .u (.mv 107 (.t 8)), .u (.ia 108 4 (.t 106) (.t 107)), .u (.ld 109 4 true (.t 108)), .u (.al 10 [.d (.v (.int .i64 0)), .d (.v (.int .i64 0)), .nl 10, .nl 10]), .u (.st 4 (.t 10) (.t 109))]
def f10r24 : List PG := [.u (.fa 110 0 (.t 9)), .u (.ld 111 1 false (.t 110)), .u (.fa 112 0 (.t 10)), .u (.ld 113 1 false (.t 112)), .u (.beq 114 true false (.t 111) (.t 113)), .u (.mv 115 (.t 114)), .g 115 false (.fa 116 1 (.t 9)), .g 115 false (.ld 117 1 false (.t 116)), .g 115 false (.fa 118 1 (.t 10)), .g 115 false (.ld 119 1 false (.t 118)), .g 115 false (.beq 120 true false (.t 117) (.t 119)), .u (.pick 121 (.t 115) (.k (.bool true)) (.t 120)), .u (.mv 122 (.t 121)), .g 122 false (.fa 123 2 (.t 9)), .g 122 false (.ld 124 1 false (.t 123)), .g 122 false (.fa 125 2 (.t 10)), .g 122 false (.ld 126 1 false (.t 125)), .gc 122 false 127 22 [.t 124, .t 126], .g 122 false (.no 128 (.t 127)), .u (.pick 129 (.t 122) (.k (.bool true)) (.t 128)), .u (.mv 130 (.t 129)), .g 130 false (.fa 131 3 (.t 9)), .g 130 false (.ld 132 1 false (.t 131)), .g 130 false (.fa 133 3 (.t 10)), .g 130 false (.ld 134 1 false (.t 133)), .gc 130 false 135 22 [.t 132, .t 134], .g 130 false (.no 136 (.t 135)), .u (.pick 137 (.t 130) (.k (.bool true)) (.t 136))]
def f10r25 : List PG := [.u (.mv 4 (.k (.bool false)))]
abbrev f10p18 : PC := .seq (.reg f10r25) (.ret)
abbrev f10p19 : PC := .cond (.t 137) (f10p18) (.skip)
abbrev f10p20 : PC := .seq (.reg f10r24) (f10p19)
abbrev f10p21 : PC := .seq (.reg f10r23) (f10p20)
def f10r26 : List PG := [.u (.bo 138 .add (.t 97) (.k (.int .i64 1))), .u (.mv 97 (.t 138))]
abbrev f10p22 : PC := .seq (.block 7 (.seq (.reg f10r22) (f10p21))) (.reg f10r26)
abbrev f10p23 : PC := .seq (.cond (.t 98) (.skip) (.exit 6)) (f10p22)
abbrev f10p24 : PC := .seq (.reg f10r21) (f10p23)
abbrev f10p25 : PC := .block 6 (.loop (f10p24))
abbrev f10p26 : PC := .seq (.reg f10r20) (f10p25)
abbrev f10p27 : PC := .seq (.seq (.regD f10r18 []) (f10p17)) (f10p26)
def f10r27 : List PG := [.u (.bo 139 .add (.t 75) (.k (.int .i64 1))), .u (.mv 75 (.t 139))]
abbrev f10p28 : PC := .seq (.block 5 (.seq (.reg f10r17) (f10p27))) (.reg f10r27)
abbrev f10p29 : PC := .seq (.cond (.t 76) (.skip) (.exit 4)) (f10p28)
abbrev f10p30 : PC := .seq (.reg f10r16) (f10p29)
abbrev f10p31 : PC := .block 4 (.loop (f10p30))
def f10r28 : List PG := [.u (.mv 4 (.k (.bool true)))]
abbrev f10p32 : PC := .seq (.reg f10r28) (.ret)
abbrev f10p33 : PC := .seq (.seq (.reg f10r15) (f10p31)) (f10p32)
abbrev f10p34 : PC := .seq (.seq (.reg f10r9) (f10p15)) (f10p33)
abbrev f10p35 : PC := .seq (.seq (.reg f10r3) (f10p8)) (f10p34)
abbrev f10p36 : PC := .seq (.seq (.reg f10r1) (f10p1)) (f10p35)
abbrev f10pc : PC := .seq (.reg f10r0) (f10p36)
def f10k : List Nat := [0, 1, 2, 3, 4, 5, 6, 7, 8, 9, 10, 35, 38, 39, 40, 52, 56, 57, 58, 70, 74, 75, 76, 90, 95, 96, 97, 98, 137]
theorem f10c : Tryd.f10.body.bind (cC te Tryd.f10.ntmps) = some f10pc := by kernel_rfl
/-! maquette/maquettelaw13.SameClauses -/
def f22r0 : List PG := [.u (.mv 4 (.k (.bool false)))]
def f22r1 : List PG := [.u (.mv 6 (.t 0)), .u (.len 7 (.t 6)), .u (.mv 8 (.t 1)), .u (.len 9 (.t 8)), .u (.beq 10 true false (.t 7) (.t 9))]
def f22r2 : List PG := [.u (.mv 4 (.k (.bool false)))]
abbrev f22p0 : PC := .seq (.reg f22r2) (.ret)
abbrev f22p1 : PC := .cond (.t 10) (f22p0) (.skip)
def f22r3 : List PG := [.u (.mv 11 (.t 0)), .u (.len 12 (.t 11)), .u (.mv 13 (.k (.int .i64 0)))]
def f22r4 : List PG := [.u (.bo 14 .lss (.t 13) (.t 12))]
def f22r5 : List PG := [.u (.mv 15 (.t 13)), .u (.mv 5 (.t 15))]
def f22r6 : List PG := [.u (.mv 16 (.t 0)), .u (.mv 17 (.t 5)), .u (.ia 18 10 (.t 16) (.t 17)), .u (.ld 19 10 true (.t 18)), .u (.mv 20 (.t 1)), .u (.mv 21 (.t 5)), .u (.ia 22 10 (.t 20) (.t 21)), .u (.ld 23 10 true (.t 22)), .u (.beqs 24 true [.b, .i, .i, .i, .i, .b, .i, .i, .i, .i] (.t 19) (.t 23))]
def f22r7 : List PG := [.u (.mv 4 (.k (.bool false)))]
abbrev f22p2 : PC := .seq (.reg f22r7) (.ret)
abbrev f22p3 : PC := .cond (.t 24) (f22p2) (.skip)
abbrev f22p4 : PC := .seq (.regD f22r6 []) (f22p3)
def f22r8 : List PG := [.u (.bo 25 .add (.t 13) (.k (.int .i64 1))), .u (.mv 13 (.t 25))]
abbrev f22p5 : PC := .seq (.block 1 (.seq (.reg f22r5) (f22p4))) (.reg f22r8)
abbrev f22p6 : PC := .seq (.cond (.t 14) (.skip) (.exit 0)) (f22p5)
abbrev f22p7 : PC := .seq (.reg f22r4) (f22p6)
abbrev f22p8 : PC := .block 0 (.loop (f22p7))
def f22r9 : List PG := [.u (.mv 4 (.k (.bool true)))]
abbrev f22p9 : PC := .seq (.reg f22r9) (.ret)
abbrev f22p10 : PC := .seq (.seq (.reg f22r3) (f22p8)) (f22p9)
abbrev f22p11 : PC := .seq (.seq (.reg f22r1) (f22p1)) (f22p10)
abbrev f22pc : PC := .seq (.reg f22r0) (f22p11)
def f22k : List Nat := [0, 1, 4, 5, 10, 12, 13, 14, 24]
theorem f22c : Tryd.f22.body.bind (cC te Tryd.f22.ntmps) = some f22pc := by kernel_rfl
set_option maxRecDepth 20000
set_option maxHeartbeats 4000000
set_option linter.unusedSimpArgs false
set_option linter.unusedVariables false

theorem sc_self (a : List Clause) (hl : a.length ≤ maxLen) : FnS Tryd.prog 22 [.d (.sl 10 (a.map Clause.row)), .d (.sl 10 (a.map Clause.row))] (.d (.v (.bool true))) := by
  have hm : maxLen = 9223372036854775807 := rfl
  refine fn_of teok Tryd.func22 (by kernel_rfl) f22c f22k [.tmp 4] rfl (by show 2 ≤ 26; omega) ?_
  first | (have _q := @g1; clear _q) | have g1 : Nat.pred 77 = 76 := rfl
  repeat' first
  | (exact absurd hc (by decide))
  | with_reducible refine awp_seq ?_
  | with_reducible refine awp_block ?_
  | with_reducible refine awp_scope ?_
  | with_reducible refine awp_reg ?_
  | with_reducible refine awp_regD ?_
  | with_reducible refine awp_ret ?_
  | with_reducible refine awp_skip ?_
  | with_reducible refine awp_exit ?_
  | with_reducible refine normQ_of ?_
  | with_reducible refine wkE_of ?_
  | with_reducible refine midQ_of (Wk_sub rfl rfl ?_ ?_)
  | with_reducible refine runD_nil ?_
  | with_reducible refine runD_cons ?_
  | with_reducible refine runF_cons ?_
  | with_reducible refine runF_nil ?_
  | with_reducible refine KF_of ?_
  | with_reducible refine chkQ_of rfl ?_
  | with_reducible refine awp_cond (by simp only [evX, lget, Option.getD_some, reduceIte, Nat.reduceEqDiff]; rfl) (fun hc => ?_) (fun hc => ?_)
  | (with_reducible assumption)
  | with_reducible refine fun (hG : okL _) => ?_
  | (with_reducible refine fun (hT : (_ : Bool) = _) => ?_)
  | (with_reducible first | exact hG.2 | exact hG.2.2 | exact hG.2.2.2 | exact hG.2.2.2.2)
  | with_reducible refine okL_mk ?_ ?_
  | with_reducible refine And.intro ?_ ?_
  | (with_reducible refine awp_loopU (b := f22p7) (fun i : Nat => i ≤ a.length) (fun i => a.length - i) (fun i => [(13, .d (.v (.int .i64 i)))]) (fun i => []) (0) (Nat.zero_le _) (Wk.refl _ _) (Wk_sub rfl rfl ?_ ?_) (fun i hi => ?_))
  | (refine Exists.elim (at_drop Clause.row a i (Int.ofNat_lt.1 (of_decide_eq_true (show decide ((i : Int) < a.length) = true from hc)))) (fun c he => ?_); have g1 := he.2.1; replace hc : True := trivial)
  | (with_reducible refine loopQ_next (i + 1) ?_ ?_ (Wk_sub rfl rfl ?_ ?_))
  | simp only [f22r0, f22r1, f22r2, f22r3, f22r4, f22r5, f22r6, f22r7, f22r8, f22r9, g1, f22k, List.length_map, beq_self_eq_true, Bool.not_true, Bool.true_and, Bool.and_true, runG_nil, runG_u, runG_g, runG_ucS, runG_gcS, runG_uvS, stp, avL, avS, evs, evX, lget, lput, strip, putO, PO.dst, updO, okR, cells, splice, AV.cell, toD, toDs, binV, sameK, pickV, guardOf, okL_nil, sides, argsOf, rawOf, dv, dvL, owns, ownsL, flat, flatL, lkeep, seqQ, blockQ, initS, List.drop_succ_cons, List.drop_zero, List.take_succ_cons, List.take_zero, List.getD_cons_zero, List.getD_cons_succ, List.length_cons, List.length_nil, List.set_cons_zero, List.set_cons_succ, List.map_cons, List.map_nil, List.all_cons, List.all_nil, List.elem_cons, List.elem_nil, Option.getD_some, Option.getD_none, Option.bind_some, Option.isNone_none, reduceIte, reduceCtorEq, Nat.reduceEqDiff, Nat.reduceAdd, Nat.reduceLeDiff, Nat.zero_add, Nat.add_zero, Nat.reduceBEq, Bool.and_self, Bool.and_true, Bool.true_and, Bool.or_self, Bool.or_false, Bool.false_or, Bool.or_true, Bool.true_or, true_and, and_true, and_self, implies_true, forall_const, Bool.false_eq_true, id_eq, retQ, resOf, resV, Option.some.injEq, exists_eq_left', AV.d.injEq, D.v.injEq, Value.bool.injEq, imp_self, bldF, bldS, toVals, eqLs, Option.map_some, imp_false, not_true_eq_false, not_false_eq_true, foot, wrs, nm, nmL, PG.reads, PG.dst, PO.reads, X.sl, sls, slB, List.append_nil, List.cons_append, List.nil_append, Option.toList_some, Option.toList_none, loopQ_exit, loopQ_ret, subS, subO, Bool.bne_false, Bool.bne_true, elemsOf, bslD, bslS, mentries, isAgV, asA, lputs, mgetD_set, mcmp_set, mput_set, List.headD_cons, sealS, sealO, sealV, sealL, mput_nil, mcmp_nil, midQ_ret, midQ_exit, sealsS, sealsO, runW_nil, runW_cons, Bool.true_bne, Bool.false_bne, bne_self_eq_false, Int.reduceToNat, bndV, oSl, resR, runS_nil, runS_gc, ren, renL, renO, sg, gBack, scopeQ_normal, scopeQ_ret, scopeQ_exit, lenB, argsN, dvN]
  all_goals try first
    | omega
    | (with_reducible rfl)
    | exact count64 he.2.2.2 hl
    | (show Value.int _ 0 = _; rfl)
  all_goals trace_state
theorem same_self (n : Net) (hn : n.ok) : FnS Tryd.prog 10 [n.av, n.av] (.d (.v (.bool true))) := by
  have hm : maxLen = 9223372036854775807 := rfl
  refine fn_of teok Tryd.func10 (by kernel_rfl) f10c f10k [.tmp 4] rfl (by show 2 ≤ 140; omega) ?_
  first | (have _q := @g2; clear _q) | have g2 : Nat.pred 77 = 76 := rfl
  first | (have _q := @g1; clear _q) | have g1 : Nat.pred 77 = 76 := rfl
  repeat' first
  | (exact absurd hc (by decide))
  | with_reducible refine awp_seq ?_
  | with_reducible refine awp_block ?_
  | with_reducible refine awp_scope ?_
  | with_reducible refine awp_reg ?_
  | with_reducible refine awp_regD ?_
  | with_reducible refine awp_ret ?_
  | with_reducible refine awp_skip ?_
  | with_reducible refine awp_exit ?_
  | with_reducible refine normQ_of ?_
  | with_reducible refine wkE_of ?_
  | with_reducible refine midQ_of (Wk_sub rfl rfl ?_ ?_)
  | with_reducible refine runD_nil ?_
  | with_reducible refine runD_cons ?_
  | with_reducible refine runF_cons ?_
  | with_reducible refine runF_nil ?_
  | with_reducible refine KF_of ?_
  | with_reducible refine chkQ_of rfl ?_
  | with_reducible refine awp_cond (by simp only [evX, lget, Option.getD_some, reduceIte, Nat.reduceEqDiff]; rfl) (fun hc => ?_) (fun hc => ?_)
  | with_reducible refine CallU_of (f := 22) (sc_self e.exp (hn.edge es (List.mem_of_getElem? hq.2.2.1) e (List.mem_of_getElem? he.2.2.1)).1) (by first | exact Or.inr (Or.inl rfl) | exact Or.inl rfl) ?_
  | with_reducible refine CallC_of (f := 22) (fun _ => sc_self e.exp (hn.edge es (List.mem_of_getElem? hq.2.2.1) e (List.mem_of_getElem? he.2.2.1)).1) (by first | exact Or.inr (Or.inl rfl) | exact Or.inl rfl) ?_
  | with_reducible refine CallU_of (f := 22) (sc_self e.imp (hn.edge es (List.mem_of_getElem? hq.2.2.1) e (List.mem_of_getElem? he.2.2.1)).2) (by first | exact Or.inr (Or.inl rfl) | exact Or.inl rfl) ?_
  | with_reducible refine CallC_of (f := 22) (fun _ => sc_self e.imp (hn.edge es (List.mem_of_getElem? hq.2.2.1) e (List.mem_of_getElem? he.2.2.1)).2) (by first | exact Or.inr (Or.inl rfl) | exact Or.inl rfl) ?_
  | (with_reducible assumption)
  | with_reducible refine fun (hG : okL _) => ?_
  | (with_reducible refine fun (hT : (_ : Bool) = _) => ?_)
  | (with_reducible first | exact hG.2 | exact hG.2.2 | exact hG.2.2.2 | exact hG.2.2.2.2)
  | with_reducible refine okL_mk ?_ ?_
  | with_reducible refine And.intro ?_ ?_
  | (with_reducible refine awp_loopU (b := f10p7) (fun i : Nat => i ≤ n.origin.length) (fun i => n.origin.length - i) (fun i => [(39, .d (.v (.int .i64 i)))]) (fun i => []) (0) (Nat.zero_le _) (Wk.refl _ _) (Wk_sub rfl rfl ?_ ?_) (fun i hi => ?_))
  | (with_reducible refine awp_loopU (b := f10p14) (fun i : Nat => i ≤ n.static.length) (fun i => n.static.length - i) (fun i => [(57, .d (.v (.int .i64 i)))]) (fun i => []) (0) (Nat.zero_le _) (Wk.refl _ _) (Wk_sub rfl rfl ?_ ?_) (fun i hi => ?_))
  | (with_reducible refine awp_loopU (b := f10p30) (fun i : Nat => i ≤ n.edges.length) (fun i => n.edges.length - i) (fun i => [(75, .d (.v (.int .i64 i)))]) (fun i => []) (0) (Nat.zero_le _) (Wk.refl _ _) (Wk_sub rfl rfl ?_ ?_) (fun i hi => ?_))
  | (refine Exists.elim (at_drop bD n.origin i (Int.ofNat_lt.1 (of_decide_eq_true (show decide ((i : Int) < n.origin.length) = true from hc)))) (fun c he => ?_); have g1 := he.2.1; replace hc : True := trivial)
  | (refine Exists.elim (at_drop iD n.static i (Int.ofNat_lt.1 (of_decide_eq_true (show decide ((i : Int) < n.static.length) = true from hc)))) (fun c he => ?_); have g1 := he.2.1; replace hc : True := trivial)
  | (refine Exists.elim (at_drop esD n.edges i (Int.ofNat_lt.1 (of_decide_eq_true (show decide ((i : Int) < n.edges.length) = true from hc)))) (fun es hq => ?_); have g2 := hq.2.1; replace hc : True := trivial)
  | (with_reducible refine awp_loopU (b := f10p24) (fun y : Nat × Unit => y.1 ≤ es.length) (fun y => es.length - y.1) (fun y => [(97, .d (.v (.int .i64 y.1)))]) (fun y => []) ((0, ())) (Nat.zero_le _) (Wk.refl _ _) (Wk_sub rfl rfl ?_ ?_) (fun y hi => ?_))
  | (refine Exists.elim (at_drop Arc.row es y.1 (Int.ofNat_lt.1 (of_decide_eq_true (show decide ((y.1 : Int) < es.length) = true from hc)))) (fun e he => ?_); have g1 := he.2.1; replace hc : True := trivial)
  | (with_reducible refine loopQ_next ((y.1 + 1, ())) ?_ ?_ (Wk_sub rfl rfl ?_ ?_))
  | (with_reducible refine loopQ_next (i + 1) ?_ ?_ (Wk_sub rfl rfl ?_ ?_))
  | simp only [f10r0, f10r1, f10r2, f10r3, f10r4, f10r5, f10r6, f10r7, f10r8, f10r9, f10r10, f10r11, f10r12, f10r13, f10r14, f10r15, f10r16, f10r17, f10r18, f10r19, f10r20, f10r21, f10r22, f10r23, f10r24, f10r25, f10r26, f10r27, f10r28, g2, g1, f10k, List.length_map, beq_self_eq_true, Bool.not_true, Bool.true_and, Bool.and_true, runG_nil, runG_u, runG_g, runG_ucS, runG_gcS, runG_uvS, stp, avL, avS, evs, evX, lget, lput, strip, putO, PO.dst, updO, okR, cells, splice, AV.cell, toD, toDs, binV, sameK, pickV, guardOf, okL_nil, sides, argsOf, rawOf, dv, dvL, owns, ownsL, flat, flatL, lkeep, seqQ, blockQ, initS, List.drop_succ_cons, List.drop_zero, List.take_succ_cons, List.take_zero, List.getD_cons_zero, List.getD_cons_succ, List.length_cons, List.length_nil, List.set_cons_zero, List.set_cons_succ, List.map_cons, List.map_nil, List.all_cons, List.all_nil, List.elem_cons, List.elem_nil, Option.getD_some, Option.getD_none, Option.bind_some, Option.isNone_none, reduceIte, reduceCtorEq, Nat.reduceEqDiff, Nat.reduceAdd, Nat.reduceLeDiff, Nat.zero_add, Nat.add_zero, Nat.reduceBEq, Bool.and_self, Bool.and_true, Bool.true_and, Bool.or_self, Bool.or_false, Bool.false_or, Bool.or_true, Bool.true_or, true_and, and_true, and_self, implies_true, forall_const, Bool.false_eq_true, id_eq, retQ, resOf, resV, Option.some.injEq, exists_eq_left', AV.d.injEq, D.v.injEq, Value.bool.injEq, imp_self, bldF, bldS, toVals, eqLs, Option.map_some, imp_false, not_true_eq_false, not_false_eq_true, foot, wrs, nm, nmL, PG.reads, PG.dst, PO.reads, X.sl, sls, slB, List.append_nil, List.cons_append, List.nil_append, Option.toList_some, Option.toList_none, loopQ_exit, loopQ_ret, subS, subO, Bool.bne_false, Bool.bne_true, elemsOf, bslD, bslS, mentries, isAgV, asA, lputs, mgetD_set, mcmp_set, mput_set, List.headD_cons, sealS, sealO, sealV, sealL, mput_nil, mcmp_nil, midQ_ret, midQ_exit, sealsS, sealsO, runW_nil, runW_cons, Bool.true_bne, Bool.false_bne, bne_self_eq_false, Int.reduceToNat, bndV, oSl, resR, runS_nil, runS_gc, ren, renL, renO, sg, gBack, scopeQ_normal, scopeQ_ret, scopeQ_exit, lenB, argsN, dvN]
  all_goals try first
    | omega
    | (with_reducible rfl)
    | exact count64 hq.2.2.2 hn.edges
    | exact count64 he.2.2.2 (hn.row es (List.mem_of_getElem? hq.2.2.1))
    | exact count64 he.2.2.2 (by have := hn.origin; have := hn.static; have := hn.edges; omega)
    | (show Value.int _ 0 = _; rfl)
  all_goals trace_state
end Go.Proofs.YtgkkaimcchlnaaaDoor

