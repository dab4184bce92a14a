/- What stable.May comes to. Printed by a program of this project (wip/mq). -/
import Derived.Test.YtgkkaimcchlnaaaGreatDoorQ0
set_option linter.unusedVariables false
set_option linter.unusedSimpArgs false

namespace Go.Proofs.YtgkkaimcchlnaaaGreatDoor
open Go Mq Go.ChangeShapes Go.WideShapes Go.ChangeAt Go.RowKit
/-! maquette/stable.May -/
def f42r0 : List PG := [.u (.bx 1 (.t 0)), .u (.mv 2 (.k (.bool false)))]
def f42r1 : List PG := [.u (.fa 9 1 (.t 1)), .u (.ld 10 1 false (.t 9)), .u (.len 11 (.t 10)), .u (.fa 12 0 (.t 1)), .u (.ld 13 1 false (.t 12)), .u (.len 14 (.t 13)), .u (.beq 15 true false (.t 11) (.t 14)), .u (.mv 16 (.t 15)), .g 16 false (.fa 17 2 (.t 1)), .g 16 false (.ld 18 1 false (.t 17)), .g 16 false (.len 19 (.t 18)), .g 16 false (.fa 20 0 (.t 1)), .g 16 false (.ld 21 1 false (.t 20)), .g 16 false (.len 22 (.t 21)), .g 16 false (.beq 23 true false (.t 19) (.t 22)), .u (.pick 24 (.t 16) (.k (.bool true)) (.t 23)), .u (.mv 25 (.t 24)), .g 25 false (.fa 26 0 (.t 1)), .g 25 false (.ld 27 1 false (.t 26)), .g 25 false (.len 28 (.t 27)), .g 25 false (.bo 29 .gtr (.t 28) (.k (.int .i64 64))), .u (.pick 30 (.t 25) (.k (.bool true)) (.t 29))]
def f42r2 : List PG := [.u (.mv 2 (.k (.bool false)))]
abbrev f42p0 : PC := .seq (.reg f42r2) (.ret)
abbrev f42p1 : PC := .cond (.t 30) (f42p0) (.skip)
def f42r3 : List PG := [.u (.fa 31 2 (.t 1)), .u (.ld 32 1 false (.t 31)), .u (.len 33 (.t 32)), .u (.mv 34 (.k (.int .i64 0)))]
def f42r4 : List PG := [.u (.bo 35 .lss (.t 34) (.t 33))]
def f42r5 : List PG := [.u (.mv 36 (.t 34)), .u (.ia 37 1 (.t 32) (.t 34)), .u (.ld 38 1 false (.t 37)), .u (.mv 3 (.t 36)), .u (.mv 4 (.t 38))]
def f42r6 : List PG := [.u (.fa 39 1 (.t 1)), .u (.ld 40 1 false (.t 39)), .u (.mv 41 (.t 3)), .u (.ia 42 1 (.t 40) (.t 41)), .u (.ld 43 1 false (.t 42)), .u (.bo 44 .lss (.t 43) (.k (.int .i64 0))), .u (.mv 5 (.t 44))]
def f42r7 : List PG := [.u (.mkm 45 false false), .u (.mv 6 (.t 45))]
def f42r8 : List PG := [.u (.mv 46 (.t 4)), .u (.len 47 (.t 46)), .u (.mv 48 (.k (.int .i64 0)))]
def f42r9 : List PG := [.u (.bo 49 .lss (.t 48) (.t 47))]
def f42r10 : List PG := [.u (.ia 50 4 (.t 46) (.t 48)), .u (.ld 51 4 true (.t 50)), .u (.al 8 [.d (.v (.int .i64 0)), .d (.v (.int .i64 0)), .nl 10, .nl 10]), .u (.st 4 (.t 8) (.t 51))]
def f42r11 : List PG := [.u (.fa 52 0 (.t 8)), .u (.ld 53 1 false (.t 52)), .u (.bo 54 .lss (.t 53) (.k (.int .i64 0))), .u (.mv 55 (.t 54)), .g 55 false (.fa 56 0 (.t 8)), .g 55 false (.ld 57 1 false (.t 56)), .g 55 false (.fa 58 0 (.t 1)), .g 55 false (.ld 59 1 false (.t 58)), .g 55 false (.len 60 (.t 59)), .g 55 false (.bo 61 .geq (.t 57) (.t 60)), .u (.pick 62 (.t 55) (.k (.bool true)) (.t 61)), .u (.mv 63 (.t 62)), .g 63 false (.fa 64 0 (.t 8)), .g 63 false (.ld 65 1 false (.t 64)), .g 63 false (.mv 66 (.t 3)), .g 63 false (.beq 67 false false (.t 65) (.t 66)), .u (.pick 68 (.t 63) (.k (.bool true)) (.t 67)), .u (.mv 69 (.t 68)), .g 69 false (.mv 70 (.t 6)), .g 69 false (.fa 71 0 (.t 8)), .g 69 false (.ld 72 1 false (.t 71)), .g 69 false (.lkp 73 false false [.i] [.d (.v (.bool false))] false (.t 70) (.t 72)), .u (.pick 74 (.t 69) (.k (.bool true)) (.t 73))]
def f42r12 : List PG := [.u (.mv 2 (.k (.bool false)))]
abbrev f42p2 : PC := .seq (.reg f42r12) (.ret)
abbrev f42p3 : PC := .cond (.t 74) (f42p2) (.skip)
def f42r13 : List PG := [.u (.mv 75 (.t 6)), .u (.fa 76 0 (.t 8)), .u (.ld 77 1 false (.t 76)), .u (.mup false false [.i] 1 (.t 75) (.t 77) (.k (.bool true)))]
def f42r14 : List PG := [.u (.mv 78 (.t 5)), .u (.mv 79 (.t 78)), .g 79 false (.fa 80 0 (.t 8)), .g 79 false (.ld 81 1 false (.t 80)), .g 79 false (.fa 82 1 (.t 1)), .g 79 false (.ld 83 1 false (.t 82)), .g 79 false (.mv 84 (.t 3)), .g 79 false (.ia 85 1 (.t 83) (.t 84)), .g 79 false (.ld 86 1 false (.t 85)), .g 79 false (.beq 87 false false (.t 81) (.t 86)), .u (.pick 88 (.t 79) (.k (.bool true)) (.t 87)), .u (.mv 5 (.t 88))]
abbrev f42p4 : PC := .seq (.reg f42r13) (.regD f42r14 [])
abbrev f42p5 : PC := .seq (.seq (.reg f42r11) (f42p3)) (f42p4)
def f42r15 : List PG := [.u (.bo 89 .add (.t 48) (.k (.int .i64 1))), .u (.mv 48 (.t 89))]
abbrev f42p6 : PC := .seq (.block 3 (.seq (.reg f42r10) (f42p5))) (.reg f42r15)
abbrev f42p7 : PC := .seq (.cond (.t 49) (.skip) (.exit 2)) (f42p6)
abbrev f42p8 : PC := .seq (.reg f42r9) (f42p7)
abbrev f42p9 : PC := .block 2 (.loop (f42p8))
def f42r16 : List PG := [.u (.mv 90 (.t 5)), .u (.no 91 (.t 90))]
def f42r17 : List PG := [.u (.mv 2 (.k (.bool false)))]
abbrev f42p10 : PC := .seq (.reg f42r17) (.ret)
abbrev f42p11 : PC := .cond (.t 91) (f42p10) (.skip)
abbrev f42p12 : PC := .seq (.reg f42r16) (f42p11)
abbrev f42p13 : PC := .seq (.seq (.reg f42r8) (f42p9)) (f42p12)
abbrev f42p14 : PC := .seq (.reg f42r7) (f42p13)
abbrev f42p15 : PC := .seq (.reg f42r6) (f42p14)
def f42r18 : List PG := [.u (.bo 92 .add (.t 34) (.k (.int .i64 1))), .u (.mv 34 (.t 92))]
abbrev f42p16 : PC := .seq (.block 1 (.seq (.reg f42r5) (f42p15))) (.reg f42r18)
abbrev f42p17 : PC := .seq (.cond (.t 35) (.skip) (.exit 0)) (f42p16)
abbrev f42p18 : PC := .seq (.reg f42r4) (f42p17)
abbrev f42p19 : PC := .block 0 (.loop (f42p18))
def f42r19 : List PG := [.u (.mv 2 (.k (.bool true)))]
abbrev f42p20 : PC := .seq (.reg f42r19) (.ret)
abbrev f42p21 : PC := .seq (.seq (.reg f42r3) (f42p19)) (f42p20)
abbrev f42p22 : PC := .seq (.seq (.reg f42r1) (f42p1)) (f42p21)
abbrev f42pc : PC := .seq (.reg f42r0) (f42p22)
def f42k : List Nat := [0, 1, 2, 3, 4, 5, 6, 8, 30, 32, 33, 34, 35, 46, 47, 48, 49, 74, 91]
theorem f42c : Tryz.f42.body.bind (cC te Tryz.f42.ntmps) = some f42pc := by kernel_rfl
set_option maxRecDepth 20000
set_option maxHeartbeats 4000000


theorem may_fn (n : Net) (hn : n.ok) : FnS Tryz.prog 42 [n.av] (.d (.v (.bool n.may))) := by
  refine fn_of teok Tryz.func42 (by kernel_rfl) f42c f42k [.tmp 2] rfl (by show 1 ≤ 93; omega) ?_
  first | (have _q := @g2; clear _q) | have g2 : Nat.pred 77 = 76 := rfl
  first | (have _q := @g1; clear _q) | have g1 : Nat.pred 77 = 76 := rfl
  first | (have _q := @g3; clear _q) | have g3 : Nat.pred 77 = 76 := rfl
  repeat' first
|(with_reducible first | refine awp_seq ?_ | refine awp_block ?_ | refine awp_reg ?_ | refine awp_regD ?_ | refine awp_ret ?_ | refine awp_skip ?_ | refine awp_exit ?_ | refine normQ_of ?_ | refine wkE_of ?_ | refine runD_nil ?_ | refine runD_cons ?_ | refine runF_cons ?_ | refine runF_nil ?_ | refine KF_of ?_ | refine chkQ_of rfl ?_)
|with_reducible refine awp_cond (by simp only [evX, lget, Option.getD_some, reduceIte, Nat.reduceEqDiff]; rfl) (fun hc => ?_) (fun hc => ?_)
|(with_reducible assumption)
|with_reducible refine fun (hG : okL _) => ?_
|(with_reducible refine fun (hT : (_ : Bool) = _) => ?_)
|(with_reducible first | exact hG.2 | exact hG.2.2 | exact hG.2.2.2 | exact hG.2.2.2.2)
|with_reducible refine okL_mk ?_ ?_
|with_reducible refine And.intro ?_ ?_
|(with_reducible refine awp_loopU (b := f42p18) (fun i : Nat => i ≤ n.edges.length ∧ n.static.length = n.edges.length ∧ goN n.origin.length (n.edges.drop i) (n.static.drop i) i = goN n.origin.length n.edges n.static 0) (fun i => n.edges.length - i) (fun i => [(34, .d (.v (.int .i64 i)))]) (fun i => []) (0) (⟨Nat.zero_le _, by simp at hc; omega, rfl⟩) (Wk.refl _ _) (Wk_sub rfl rfl ?_ ?_) (fun i hi => ?_))
|(refine Exists.elim (at_drop esD n.edges i (Int.ofNat_lt.1 (of_decide_eq_true hc))) (fun es he => ?_); refine Exists.elim (at_drop iD n.static i (by have := he.2.2.2; omega)) (fun st hs => ?_); have g1 := he.2.1; have g3 := hs.2.1; replace hc : True := trivial)
|(with_reducible refine awp_loopU (b := f42p8) (fun x : Nat × List Int × Bool => x.1 ≤ es.length ∧ goE n.origin.length i st (es.drop x.1) x.2.1 x.2.2 = goE n.origin.length i st es [] (decide (st < 0))) (fun x => es.length - x.1) (fun x => [(48, .d (.v (.int .i64 x.1))), (5, .d (.v (.bool x.2.2)))]) (fun x => [(45, .map false false (mset x.2.1))]) ((0, [], decide (st < 0))) (⟨Nat.zero_le _, rfl⟩) (Wk.refl _ _) (Wk_sub rfl rfl ?_ ?_) (fun x hx => ?_))
|(refine Exists.elim (at_drop Arc.row es x.1 (Int.ofNat_lt.1 (of_decide_eq_true hc))) (fun e he2 => ?_); have g2 := he2.2.1; replace hc : True := trivial)
|(with_reducible refine loopQ_next ((x.1 + 1, sadd x.2.1 e.src, x.2.2 || e.src == st)) ?_ ?_ (Wk_sub rfl rfl ?_ ?_))
|(with_reducible refine loopQ_next (i + 1) ?_ ?_ (Wk_sub rfl rfl ?_ ?_))
|simp only [f42r0, f42r1, f42r2, f42r3, f42r4, f42r5, f42r6, f42r7, f42r8, f42r9, f42r10, f42r11, f42r12, f42r13, f42r14, f42r15, f42r16, f42r17, f42r18, f42r19, g2, g1, g3, f42k, List.length_map, runG_nil, runG_u, runG_g, runG_ucS, stp, avL, avS, evs, evX, lget, lput, strip, putO, PO.dst, updO, okR, cells, splice, AV.cell, toD, toDs, binV, sameK, pickV, guardOf, okL_nil, sides, argsOf, rawOf, dv, dvL, owns, ownsL, flat, flatL, lkeep, seqQ, blockQ, initS, List.drop_succ_cons, List.drop_zero, List.take_succ_cons, List.take_zero, List.getD_cons_zero, List.getD_cons_succ, List.length_cons, List.length_nil, List.set_cons_zero, List.set_cons_succ, List.map_cons, List.map_nil, List.all_cons, List.all_nil, List.elem_cons, List.elem_nil, Option.getD_some, Option.getD_none, Option.bind_some, Option.isNone_none, reduceIte, reduceCtorEq, Nat.reduceEqDiff, Nat.reduceAdd, Nat.reduceLeDiff, Nat.zero_add, Nat.add_zero, Nat.reduceBEq, Bool.and_self, Bool.and_true, Bool.true_and, Bool.or_self, Bool.or_false, Bool.false_or, Bool.or_true, Bool.true_or, true_and, and_true, and_self, implies_true, forall_const, Bool.false_eq_true, id_eq, retQ, resOf, resV, Option.some.injEq, exists_eq_left', AV.d.injEq, D.v.injEq, Value.bool.injEq, imp_self, bldF, bldS, toVals, eqLs, Option.map_some, imp_false, not_true_eq_false, not_false_eq_true, foot, wrs, nm, nmL, PG.reads, PG.dst, PO.reads, X.sl, sls, slB, List.append_nil, List.cons_append, List.nil_append, Option.toList_some, Option.toList_none, loopQ_exit, loopQ_ret, subS, subO, Bool.bne_false, Bool.bne_true, elemsOf, bslD, bslS, mentries, isAgV, asA, lputs, mgetD_set, mcmp_set, mput_set, List.headD_cons, sealS, sealO, sealV, sealL, mput_nil, mcmp_nil, sealsS, sealsO, Bool.true_bne, Bool.false_bne, bne_self_eq_false, Int.reduceToNat, oSl, resR, lenB, argsN, dvN]
  all_goals first | omega | rfl | exact count64 he2.2.2.2 (hn.row es (List.mem_of_getElem? he.2.2.1)) | exact count64 he.2.2.2 hn.edges | (grind [goE, goN, Net.may])
end Go.Proofs.YtgkkaimcchlnaaaGreatDoor
