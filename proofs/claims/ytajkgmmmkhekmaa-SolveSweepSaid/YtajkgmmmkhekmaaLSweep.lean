/- The law SolveSweep: whatever the input, it returns true and changes nothing. Printed by a program of this project (wip/mq). -/
import Derived.Test.YtajkgmmmkhekmaaNetF
import Derived.Test.YtajkgmmmkhekmaaMqPl10
import Derived.Test.YtajkgmmmkhekmaaSome
import Derived.Test.YtajkgmmmkhekmaaAwk16
import Derived.Test.YtajkgmmmkhekmaaArgs
import Derived.Test.YtajkgmmmkhekmaaSame
import Derived.Test.YtajkgmmmkhekmaaSweep
import Derived.Test.YtajkgmmmkhekmaaMqSealB
namespace Go.Proofs.Ytajkgmmmkhekmaa
open Go Mq Go.ChangeShapes Go.WideShapes Go.ChangeAt Go.RowKit
/-! maquette/maquettelaw16.SolveSweep$1 -/
def f34r0 : List PG := [.u (.mv 3 (.nl 4))]
def f34r1 : List PG := [.u (.mv 6 (.t 0)), .u (.app 7 45 4 32 (.nl 4) (.t 6)), .u (.mv 4 (.t 7))]
def f34r2 : List PG := [.u (.mv 8 (.t 4)), .u (.len 9 (.t 8)), .u (.mv 10 (.k (.int .i64 0)))]
def f34r3 : List PG := [.u (.bo 11 .lss (.t 10) (.t 9))]
def f34r4 : List PG := [.u (.mv 12 (.t 10)), .u (.mv 5 (.t 12))]
def f34r5 : List PG := [.u (.mv 13 (.t 4)), .u (.mv 14 (.t 5)), .u (.ld 15 3 true (.t 1)), .u (.mv 16 (.t 4)), .u (.mv 17 (.t 5)), .uc 18 21 [.t 15, .t 16, .t 17], .u (.ia 19 4 (.t 13) (.t 14)), .u (.st 4 (.t 19) (.t 18))]
def f34r6 : List PG := [.u (.bo 20 .add (.t 10) (.k (.int .i64 1))), .u (.mv 10 (.t 20))]
abbrev f34p0 : PC := .seq (.block 1 (.seq (.reg f34r4) (.reg f34r5))) (.reg f34r6)
abbrev f34p1 : PC := .seq (.cond (.t 11) (.skip) (.exit 0)) (f34p0)
abbrev f34p2 : PC := .seq (.reg f34r3) (f34p1)
abbrev f34p3 : PC := .block 0 (.loop (f34p2))
def f34r7 : List PG := [.u (.mv 21 (.t 4)), .u (.mv 3 (.t 21))]
abbrev f34p4 : PC := .seq (.reg f34r7) (.ret)
abbrev f34p5 : PC := .seq (.seq (.reg f34r2) (f34p3)) (f34p4)
abbrev f34p6 : PC := .seq (.reg f34r1) (f34p5)
abbrev f34pc : PC := .seq (.reg f34r0) (f34p6)
def f34k : List Nat := [0, 1, 3, 4, 5, 9, 10, 11]
theorem f34c : Try.f34.body.bind (cC te Try.f34.ntmps) = some f34pc := by kernel_rfl
/-! maquette/maquettelaw16.SolveSweep -/
def f11r0 : List PG := [.u (.bx 4 (.t 0)), .u (.mv 8 (.k (.bool false)))]
def f11r1 : List PG := [.uc 18 27 [], .u (.no 19 (.t 18))]
def f11r2 : List PG := [.u (.mv 8 (.k (.bool false)))]
abbrev f11p0 : PC := .seq (.reg f11r2) (.ret)
abbrev f11p1 : PC := .cond (.t 19) (f11p0) (.skip)
def f11r3 : List PG := [.u (.ld 21 6 true (.t 4)), .u (.mv 22 (.t 1)), .uc 23 14 [.t 21, .t 22], .u (.mv 20 (.t 23)), .u (.ext 24 (.t 20) 0), .u (.ext 25 (.t 20) 1), .u (.ext 26 (.t 20) 2), .u (.al 9 [.nl 1, .nl 1, .nl 1]), .u (.al 10 [.d (.v (.int .u32 0)), .d (.v (.int .i64 0))]), .u (.st 3 (.t 9) (.t 24)), .u (.st 2 (.t 10) (.t 25)), .u (.mv 11 (.t 26))]
def f11r4 : List PG := [.u (.mv 27 (.t 11)), .u (.no 28 (.t 27))]
def f11r5 : List PG := [.u (.mv 8 (.k (.bool true)))]
abbrev f11p2 : PC := .seq (.reg f11r5) (.ret)
abbrev f11p3 : PC := .cond (.t 28) (f11p2) (.skip)
def f11r6 : List PG := [.u (.mv 29 (.t 2)), .u (.fa 30 0 (.t 9)), .u (.ld 31 1 false (.t 30)), .u (.len 32 (.t 31)), .uc 33 15 [.t 29, .t 32], .u (.mv 12 (.t 33))]
def f11r7 : List PG := [.u (.mkf 34 34 [.t 9]), .u (.mv 13 (.t 34))]
def f11r8 : List PG := [.u (.ld 35 3 true (.t 9)), .u (.mv 36 (.t 12)), .uc 37 35 [.t 35, .t 36], .u (.mv 38 (.t 13)), .u (.mv 39 (.t 12)), .uv 40 38 [.t 39], .uc 41 32 [.t 37, .t 40], .u (.no 42 (.t 41))]
def f11r9 : List PG := [.u (.mv 8 (.k (.bool false)))]
abbrev f11p4 : PC := .seq (.reg f11r9) (.ret)
abbrev f11p5 : PC := .cond (.t 42) (f11p4) (.skip)
def f11r10 : List PG := [.u (.ld 44 3 true (.t 9)), .u (.mv 45 (.t 12)), .u (.mv 46 (.t 3)), .u (.cv 47 .i64 (.t 46)), .uc 48 33 [.t 44, .t 45, .t 47], .u (.mv 43 (.t 48)), .u (.ext 49 (.t 43) 0), .u (.ext 50 (.t 43) 1), .u (.mv 14 (.t 49)), .u (.mv 15 (.t 50))]
def f11r11 : List PG := [.u (.mv 51 (.t 12)), .u (.mv 16 (.t 51))]
def f11r12 : List PG := [.u (.mv 17 (.k (.int .i64 0)))]
def f11r13 : List PG := [.u (.mv 52 (.t 17)), .u (.mv 53 (.t 3)), .u (.cv 54 .i64 (.t 53)), .u (.bo 55 .lss (.t 52) (.t 54)), .u (.mv 56 (.t 55)), .g 56 true (.ld 57 3 true (.t 9)), .g 56 true (.mv 58 (.t 16)), .gc 56 true 59 24 [.t 57, .t 58], .g 56 true (.no 60 (.t 59)), .u (.pick 61 (.t 56) (.t 60) (.k (.bool false)))]
abbrev f11p6 : PC := .cond (.t 61) (.skip) (.exit 0)
def f11r14 : List PG := [.u (.mv 64 (.t 13)), .u (.mv 65 (.t 16)), .uv 66 64 [.t 65], .u (.mv 16 (.t 66))]
def f11r15 : List PG := [.u (.mv 62 (.t 17)), .u (.bo 63 .add (.t 62) (.k (.int .i64 1))), .u (.mv 17 (.t 63))]
abbrev f11p7 : PC := .seq (.block 1 (.reg f11r14)) (.reg f11r15)
abbrev f11p8 : PC := .seq (.seq (.reg f11r13) (f11p6)) (f11p7)
abbrev f11p9 : PC := .block 0 (.loop (f11p8))
def f11r16 : List PG := [.u (.mv 67 (.t 14)), .u (.mv 68 (.t 16)), .uc 69 32 [.t 67, .t 68], .u (.mv 70 (.t 69)), .g 70 true (.mv 71 (.t 15)), .g 70 true (.ld 72 3 true (.t 9)), .g 70 true (.mv 73 (.t 16)), .gc 70 true 74 24 [.t 72, .t 73], .g 70 true (.beq 75 false true (.t 71) (.t 74)), .u (.pick 76 (.t 70) (.t 75) (.k (.bool false))), .u (.mv 8 (.t 76))]
abbrev f11p10 : PC := .seq (.reg f11r16) (.ret)
abbrev f11p11 : PC := .seq (.seq (.reg f11r12) (f11p9)) (f11p10)
abbrev f11p12 : PC := .seq (.reg f11r11) (f11p11)
abbrev f11p13 : PC := .seq (.reg f11r10) (f11p12)
abbrev f11p14 : PC := .seq (.seq (.reg f11r8) (f11p5)) (f11p13)
abbrev f11p15 : PC := .seq (.reg f11r7) (f11p14)
abbrev f11p16 : PC := .seq (.reg f11r6) (f11p15)
abbrev f11p17 : PC := .seq (.seq (.reg f11r4) (f11p3)) (f11p16)
abbrev f11p18 : PC := .seq (.reg f11r3) (f11p17)
abbrev f11p19 : PC := .seq (.seq (.reg f11r1) (f11p1)) (f11p18)
abbrev f11pc : PC := .seq (.reg f11r0) (f11p19)
def f11k : List Nat := [0, 1, 2, 3, 4, 8, 9, 11, 12, 13, 14, 15, 16, 17, 19, 28, 42, 61]
theorem f11c : Try.f11.body.bind (cC te Try.f11.ntmps) = some f11pc := by kernel_rfl
set_option maxRecDepth 20000
set_option maxHeartbeats 4000000
set_option linter.unusedSimpArgs false
set_option linter.unusedVariables false

theorem sweepC_fn (n : Net) (hn : n.small) (l : List Attr) (hl : l.length ≤ 1048576) : FnS Try.prog 34 [.d (.sl 4 (l.map Attr.row)), .d (.cp [.sl 1 (n.origin.map bD), .sl 1 (n.static.map iD), .sl 1 (n.edges.map esD)] 0)] (.d (.sl 4 ((n.sweep l).map Attr.row))) := by
  have hm : maxLen = 9223372036854775807 := rfl
  refine fn_of teok Try.func34 (by kernel_rfl) f34c f34k [.tmp 3] rfl (by show 2 ≤ 22; omega) ?_
  repeat' first
  | with_reducible refine awp_seq ?_
  | with_reducible refine awp_block ?_
  | with_reducible refine awp_reg ?_
  | with_reducible refine awp_regD ?_
  | with_reducible refine awp_ret ?_
  | with_reducible refine awp_skip ?_
  | with_reducible refine awp_exit ?_
  | with_reducible refine normQ_of ?_
  | with_reducible refine wkE_of ?_
  | with_reducible refine midQ_of (Wk_sub rfl rfl ?_ ?_)
  | with_reducible refine runD_nil ?_
  | with_reducible refine runD_cons ?_
  | with_reducible refine runF_cons ?_
  | with_reducible refine runF_nil ?_
  | with_reducible refine KF_of ?_
  | with_reducible refine chkQ_of rfl ?_
  | with_reducible refine awp_cond (by simp only [evX, lget, Option.getD_some, reduceIte, Nat.reduceEqDiff]; rfl) (fun hc => ?_) (fun hc => ?_)
  | with_reducible refine CallU_of (f := 21) (choice_fn n hn x.2 (by omega) x.1) (by first | exact Or.inr (Or.inl rfl) | exact Or.inl rfl) ?_
  | with_reducible refine CallC_of (f := 21) (fun _ => choice_fn n hn x.2 (by omega) x.1) (by first | exact Or.inr (Or.inl rfl) | exact Or.inl rfl) ?_
  | (with_reducible assumption)
  | with_reducible refine fun (hG : okL _) => ?_
  | (with_reducible refine fun (hT : (_ : Bool) = _) => ?_)
  | (with_reducible first | exact hG.2 | exact hG.2.2 | exact hG.2.2.2 | exact hG.2.2.2.2)
  | with_reducible refine okL_mk ?_ ?_
  | with_reducible refine And.intro ?_ ?_
  | (with_reducible refine awp_loopU (b := f34p2) (fun x : Nat × List Attr => x.1 ≤ l.length ∧ x.2.length = l.length ∧ sweepGo n (l.length - x.1) x.1 x.2 = n.sweep l) (fun x => l.length - x.1) (fun x => [(10, .d (.v (.int .i64 x.1)))]) (fun x => [(7, .row 45 4 0 (x.2.map Attr.row))]) ((0, l)) (⟨Nat.zero_le _, rfl, rfl⟩) (Wk.refl _ _) (Wk_sub rfl rfl ?_ ?_) (fun x hx => ?_))
  | (have hlt := Int.ofNat_lt.1 (of_decide_eq_true (show decide ((x.1 : Int) < (l.length : Int)) = true from hc)); refine Exists.elim (at_drop Attr.row x.2 x.1 (by rw [hx.2.1]; exact hlt)) (fun a he => ?_); have g1 := he.2.1; replace hc : True := trivial)
  | (with_reducible refine loopQ_next ((x.1 + 1, x.2.set x.1 (n.choice x.2 x.1))) ?_ ?_ (Wk_sub rfl rfl ?_ ?_))
  | simp only [f34r0, f34r1, f34r2, f34r3, f34r4, f34r5, f34r6, f34r7, g1, f34k, te33, List.length_map, runG_nil, runG_u, runG_g, runG_ucS, runG_gcS, runG_uvS, stp, avL, avS, evs, evX, lget, lput, strip, putO, PO.dst, updO, okR, cells, splice, AV.cell, toD, toDs, binV, sameK, pickV, guardOf, okL_nil, sides, argsOf, rawOf, dv, dvL, owns, ownsL, flat, flatL, lkeep, seqQ, blockQ, initS, List.drop_succ_cons, List.drop_zero, List.take_succ_cons, List.take_zero, List.getD_cons_zero, List.getD_cons_succ, List.length_cons, List.length_nil, List.set_cons_zero, List.set_cons_succ, List.map_cons, List.map_nil, List.all_cons, List.all_nil, List.elem_cons, List.elem_nil, Option.getD_some, Option.getD_none, Option.bind_some, Option.isNone_none, reduceIte, reduceCtorEq, Nat.reduceEqDiff, Nat.reduceAdd, Nat.reduceLeDiff, Nat.zero_add, Nat.add_zero, Nat.reduceBEq, Bool.and_self, Bool.and_true, Bool.true_and, Bool.or_self, Bool.or_false, Bool.false_or, Bool.or_true, Bool.true_or, true_and, and_true, and_self, implies_true, forall_const, Bool.false_eq_true, id_eq, retQ, resOf, resV, Option.some.injEq, exists_eq_left', AV.d.injEq, D.v.injEq, Value.bool.injEq, imp_self, bldF, bldS, toVals, eqLs, Option.map_some, imp_false, not_true_eq_false, not_false_eq_true, foot, wrs, nm, nmL, PG.reads, PG.dst, PO.reads, X.sl, sls, slB, List.append_nil, List.cons_append, List.nil_append, Option.toList_some, Option.toList_none, loopQ_exit, loopQ_ret, subS, subO, Bool.bne_false, Bool.bne_true, elemsOf, bslD, bslS, mentries, isAgV, asA, lputs, mgetD_set, mcmp_set, mput_set, List.headD_cons, sealS, sealO, sealV, sealL, mput_nil, mcmp_nil, midQ_ret, midQ_exit, sealsS, sealsO, runW_nil, runW_cons, Bool.true_bne, Bool.false_bne, bne_self_eq_false, Int.reduceToNat, bndV, oSl, resR, runS_nil, runS_gc, ren, renL, renO, sg, gBack]
  | simp only [f34r0, f34r1, f34r2, f34r3, f34r4, f34r5, f34r6, f34r7, f34k, te33, List.length_map, runG_nil, runG_u, runG_g, runG_ucS, runG_gcS, runG_uvS, stp, avL, avS, evs, evX, lget, lput, strip, putO, PO.dst, updO, okR, cells, splice, AV.cell, toD, toDs, binV, sameK, pickV, guardOf, okL_nil, sides, argsOf, rawOf, dv, dvL, owns, ownsL, flat, flatL, lkeep, seqQ, blockQ, initS, List.drop_succ_cons, List.drop_zero, List.take_succ_cons, List.take_zero, List.getD_cons_zero, List.getD_cons_succ, List.length_cons, List.length_nil, List.set_cons_zero, List.set_cons_succ, List.map_cons, List.map_nil, List.all_cons, List.all_nil, List.elem_cons, List.elem_nil, Option.getD_some, Option.getD_none, Option.bind_some, Option.isNone_none, reduceIte, reduceCtorEq, Nat.reduceEqDiff, Nat.reduceAdd, Nat.reduceLeDiff, Nat.zero_add, Nat.add_zero, Nat.reduceBEq, Bool.and_self, Bool.and_true, Bool.true_and, Bool.or_self, Bool.or_false, Bool.false_or, Bool.or_true, Bool.true_or, true_and, and_true, and_self, implies_true, forall_const, Bool.false_eq_true, id_eq, retQ, resOf, resV, Option.some.injEq, exists_eq_left', AV.d.injEq, D.v.injEq, Value.bool.injEq, imp_self, bldF, bldS, toVals, eqLs, Option.map_some, imp_false, not_true_eq_false, not_false_eq_true, foot, wrs, nm, nmL, PG.reads, PG.dst, PO.reads, X.sl, sls, slB, List.append_nil, List.cons_append, List.nil_append, Option.toList_some, Option.toList_none, loopQ_exit, loopQ_ret, subS, subO, Bool.bne_false, Bool.bne_true, elemsOf, bslD, bslS, mentries, isAgV, asA, lputs, mgetD_set, mcmp_set, mput_set, List.headD_cons, sealS, sealO, sealV, sealL, mput_nil, mcmp_nil, midQ_ret, midQ_exit, sealsS, sealsO, runW_nil, runW_cons, Bool.true_bne, Bool.false_bne, bne_self_eq_false, Int.reduceToNat, bndV, oSl, resR, runS_nil, runS_gc, ren, renL, renO, sg, gBack]
  all_goals try first
    | omega
    | (with_reducible rfl)
    | (show Value.int _ 0 = _; rfl)
    | (simp only [List.length_append, List.length_cons, List.length_nil]; omega)
    | (simp only [List.length_append, List.length_cons, List.length_nil, List.map_append, List.map_cons, List.map_nil]; done)
    | exact count64 hlt (by omega)
    | (simp only [List.length_set]; omega)
    | (rw [box_set', Int.toNat_natCast]; done)
    | (rw [← sweepGo_step hlt]; exact hx.2.2)
    | (have h0 := of_decide_eq_false hc; have h1 := hx.2.2; rw [show l.length - x.1 = 0 by omega, sweepGo] at h1; rw [h1]; done)
  all_goals trace_state

theorem solveSweep_none (sh : Shape) (hs : sh.ok) (w : Int) (hw : 0 ≤ w ∧ w ≤ 255)(ns : List Int) (mo : Int) (hx : sh.netV w = none) : FnS Try.prog 11 [sh.av, .d (.v (.int .u8 w)), .d (.sl 1 (ns.map wD)), .d (.v (.int .i8 mo))] (.d (.v (.bool true))) := by
  have hN := netOfF_fn sh hs w hw
  rw [hx] at hN
  simp only [netA] at hN
  refine fn_of teok Try.func11 (by kernel_rfl) f11c f11k [.tmp 8] rfl (by show 4 ≤ 77; omega) ?_
  repeat' first
  | (exact absurd hc (by decide))
  | with_reducible refine awp_seq ?_
  | with_reducible refine awp_block ?_
  | with_reducible refine awp_reg ?_
  | with_reducible refine awp_regD ?_
  | with_reducible refine awp_ret ?_
  | with_reducible refine awp_skip ?_
  | with_reducible refine awp_exit ?_
  | with_reducible refine normQ_of ?_
  | with_reducible refine wkE_of ?_
  | with_reducible refine midQ_of (Wk_sub rfl rfl ?_ ?_)
  | with_reducible refine runD_nil ?_
  | with_reducible refine runD_cons ?_
  | with_reducible refine runF_cons ?_
  | with_reducible refine runF_nil ?_
  | with_reducible refine KF_of ?_
  | with_reducible refine chkQ_of rfl ?_
  | with_reducible refine awp_cond (by simp only [evX, lget, Option.getD_some, reduceIte, Nat.reduceEqDiff]; rfl) (fun hc => ?_) (fun hc => ?_)
  | with_reducible refine CallU_of (f := 27) (awake16_fn) (by first | exact Or.inr (Or.inl rfl) | exact Or.inl rfl) ?_
  | with_reducible refine CallC_of (f := 27) (fun _ => awake16_fn) (by first | exact Or.inr (Or.inl rfl) | exact Or.inl rfl) ?_
  | with_reducible refine CallU_of (f := 14) (hN) (by first | exact Or.inr (Or.inl rfl) | exact Or.inl rfl) ?_
  | with_reducible refine CallC_of (f := 14) (fun _ => hN) (by first | exact Or.inr (Or.inl rfl) | exact Or.inl rfl) ?_
  | (with_reducible assumption)
  | with_reducible refine fun (hG : okL _) => ?_
  | (with_reducible refine fun (hT : (_ : Bool) = _) => ?_)
  | (with_reducible first | exact hG.2 | exact hG.2.2 | exact hG.2.2.2 | exact hG.2.2.2.2)
  | with_reducible refine okL_mk ?_ ?_
  | with_reducible refine And.intro ?_ ?_
  | simp only [f11r0, f11r1, f11r2, f11r3, f11r4, f11r5, f11r6, f11r7, f11r8, f11r9, f11r10, f11r11, f11r12, f11r13, f11r14, f11r15, f11r16, f11k, te33, te36, te25, List.getElem?_cons_zero, List.getElem?_cons_succ, runG_nil, runG_u, runG_g, runG_ucS, runG_gcS, runG_uvS, stp, avL, avS, evs, evX, lget, lput, strip, putO, PO.dst, updO, okR, cells, splice, AV.cell, toD, toDs, binV, sameK, pickV, guardOf, okL_nil, sides, argsOf, rawOf, dv, dvL, owns, ownsL, flat, flatL, lkeep, seqQ, blockQ, initS, List.drop_succ_cons, List.drop_zero, List.take_succ_cons, List.take_zero, List.getD_cons_zero, List.getD_cons_succ, List.length_cons, List.length_nil, List.set_cons_zero, List.set_cons_succ, List.map_cons, List.map_nil, List.all_cons, List.all_nil, List.elem_cons, List.elem_nil, Option.getD_some, Option.getD_none, Option.bind_some, Option.isNone_none, reduceIte, reduceCtorEq, Nat.reduceEqDiff, Nat.reduceAdd, Nat.reduceLeDiff, Nat.zero_add, Nat.add_zero, Nat.reduceBEq, Bool.and_self, Bool.and_true, Bool.true_and, Bool.or_self, Bool.or_false, Bool.false_or, Bool.or_true, Bool.true_or, true_and, and_true, and_self, implies_true, forall_const, Bool.false_eq_true, id_eq, retQ, resOf, resV, Option.some.injEq, exists_eq_left', AV.d.injEq, D.v.injEq, Value.bool.injEq, imp_self, bldF, bldS, toVals, eqLs, Option.map_some, imp_false, not_true_eq_false, not_false_eq_true, foot, wrs, nm, nmL, PG.reads, PG.dst, PO.reads, X.sl, sls, slB, List.append_nil, List.cons_append, List.nil_append, Option.toList_some, Option.toList_none, loopQ_exit, loopQ_ret, subS, subO, Bool.bne_false, Bool.bne_true, elemsOf, bslD, bslS, mentries, isAgV, asA, lputs, mgetD_set, mcmp_set, mput_set, List.headD_cons, sealS, sealO, sealV, sealL, mput_nil, mcmp_nil, midQ_ret, midQ_exit, sealsS, sealsO, runW_nil, runW_cons, Bool.true_bne, Bool.false_bne, bne_self_eq_false, Int.reduceToNat, bndV, oSl, resR, runS_nil, runS_gc, ren, renL, renO, sg, gBack]
  all_goals first
    | rfl
    | decide
    | trace_state
theorem solveSweep_some (sh : Shape) (hs : sh.ok) (w : Int) (hw : 0 ≤ w ∧ w ≤ 255)(ns : List Int) (mo : Int) (n : Net) (p : Int × Int) (hx : sh.netV w = some (n, p)) (hns : B16 ns) (hmo : -128 ≤ mo ∧ mo ≤ 127) : FnS Try.prog 11 [sh.av, .d (.v (.int .u8 w)), .d (.sl 1 (ns.map wD)), .d (.v (.int .i8 mo))] (.d (.v (.bool true))) := by
  have hm : maxLen = 9223372036854775807 := rfl
  have hN := netOfF_fn sh hs w hw
  rw [hx] at hN
  simp only [netA] at hN
  obtain ⟨hsm, hmay, m, hnl, hn0⟩ := net_facts hx
  simp only at hsm hmay m hnl hn0
  have hS := some_fn ns hns n.origin.length (by omega)
  have hsl := someV_len ns n.origin.length
  generalize someV ns n.origin.length = l at hS hsl
  have g1 : IntKind.i64.wrap mo = mo := wrapI64 _ (by omega) (by omega)
  have hSL := sameL_fn (n.sweep l) (n.sweep l) (by rw [sweep_len]; omega) (by rw [sweep_len]; omega)
  rw [sameL_refl] at hSL
  have hM0 : 0 ≤ mx 0 mo ∧ mx 0 mo ≤ 127 ∧ (0 < mo → mx 0 mo = mo) ∧ (mo ≤ 0 → mx 0 mo = 0) := by unfold mx; split <;> omega
  refine fn_of teok Try.func11 (by kernel_rfl) f11c f11k [.tmp 8] rfl (by show 4 ≤ 77; omega) ?_
  repeat' first
  | (exact absurd hc (by decide))
  | (with_reducible refine awp_cut (l := f11r7) [(0, [1009])] ?_; unfold f11r7)
  | (with_reducible refine wkE_box (ns := [1009]) 9 (by decide) rfl rfl ?_)
  | with_reducible refine awp_seq ?_
  | with_reducible refine awp_block ?_
  | with_reducible refine awp_reg ?_
  | with_reducible refine awp_regD ?_
  | with_reducible refine awp_ret ?_
  | with_reducible refine awp_skip ?_
  | with_reducible refine awp_exit ?_
  | with_reducible refine normQ_of ?_
  | with_reducible refine wkE_of ?_
  | with_reducible refine midQ_of (Wk_sub rfl rfl ?_ ?_)
  | with_reducible refine runD_nil ?_
  | with_reducible refine runD_cons ?_
  | with_reducible refine runF_cons ?_
  | with_reducible refine runF_nil ?_
  | with_reducible refine KF_of ?_
  | with_reducible refine chkQ_of rfl ?_
  | with_reducible refine awp_cond (by simp only [evX, lget, Option.getD_some, reduceIte, Nat.reduceEqDiff]; rfl) (fun hc => ?_) (fun hc => ?_)
  | with_reducible refine CallU_of (f := 27) (awake16_fn) (by first | exact Or.inr (Or.inl rfl) | exact Or.inl rfl) ?_
  | with_reducible refine CallC_of (f := 27) (fun _ => awake16_fn) (by first | exact Or.inr (Or.inl rfl) | exact Or.inl rfl) ?_
  | with_reducible refine CallU_of (f := 14) (hN) (by first | exact Or.inr (Or.inl rfl) | exact Or.inl rfl) ?_
  | with_reducible refine CallC_of (f := 14) (fun _ => hN) (by first | exact Or.inr (Or.inl rfl) | exact Or.inl rfl) ?_
  | with_reducible refine CallU_of (f := 15) (hS) (by first | exact Or.inr (Or.inl rfl) | exact Or.inl rfl) ?_
  | with_reducible refine CallC_of (f := 15) (fun _ => hS) (by first | exact Or.inr (Or.inl rfl) | exact Or.inl rfl) ?_
  | with_reducible refine CallU_of (f := 35) (sweep_fn n hsm l (by omega)) (by first | exact Or.inr (Or.inl rfl) | exact Or.inl rfl) ?_
  | with_reducible refine CallC_of (f := 35) (fun _ => sweep_fn n hsm l (by omega)) (by first | exact Or.inr (Or.inl rfl) | exact Or.inl rfl) ?_
  | with_reducible refine CallU_of (f := 34) (sweepC_fn n hsm l (by omega)) (by first | exact Or.inr (Or.inl rfl) | exact Or.inl rfl) ?_
  | with_reducible refine CallC_of (f := 34) (fun _ => sweepC_fn n hsm l (by omega)) (by first | exact Or.inr (Or.inl rfl) | exact Or.inl rfl) ?_
  | with_reducible refine CallU_of (f := 34) (sweepC_fn n hsm x.2 (by omega)) (by first | exact Or.inr (Or.inl rfl) | exact Or.inl rfl) ?_
  | with_reducible refine CallC_of (f := 34) (fun _ => sweepC_fn n hsm x.2 (by omega)) (by first | exact Or.inr (Or.inl rfl) | exact Or.inl rfl) ?_
  | with_reducible refine CallU_of (f := 32) (hSL) (by first | exact Or.inr (Or.inl rfl) | exact Or.inl rfl) ?_
  | with_reducible refine CallC_of (f := 32) (fun _ => hSL) (by first | exact Or.inr (Or.inl rfl) | exact Or.inl rfl) ?_
  | with_reducible refine CallU_of (f := 33) (settle_fn n hsm l (by omega) mo (by omega)) (by first | exact Or.inr (Or.inl rfl) | exact Or.inl rfl) ?_
  | with_reducible refine CallC_of (f := 33) (fun _ => settle_fn n hsm l (by omega) mo (by omega)) (by first | exact Or.inr (Or.inl rfl) | exact Or.inl rfl) ?_
  | with_reducible refine CallU_of (f := 24) (is_fn n hsm x.2 (by omega)) (by first | exact Or.inr (Or.inl rfl) | exact Or.inl rfl) ?_
  | with_reducible refine CallC_of (f := 24) (fun _ => is_fn n hsm x.2 (by omega)) (by first | exact Or.inr (Or.inl rfl) | exact Or.inl rfl) ?_
  | with_reducible refine CallU_of (f := 32) (sameL_fn (n.settle (mx 0 mo).toNat l) x.2 (by rw [settle_len]; omega) (by omega)) (by first | exact Or.inr (Or.inl rfl) | exact Or.inl rfl) ?_
  | with_reducible refine CallC_of (f := 32) (fun _ => sameL_fn (n.settle (mx 0 mo).toNat l) x.2 (by rw [settle_len]; omega) (by omega)) (by first | exact Or.inr (Or.inl rfl) | exact Or.inl rfl) ?_
  | (with_reducible assumption)
  | with_reducible refine fun (hG : okL _) => ?_
  | (with_reducible refine fun (hT : (_ : Bool) = _) => ?_)
  | (with_reducible first | exact hG.2 | exact hG.2.2 | exact hG.2.2.2 | exact hG.2.2.2.2)
  | with_reducible refine okL_mk ?_ ?_
  | with_reducible refine And.intro ?_ ?_
  | (with_reducible refine awp_loopU (b := f11p8) (fun x : Nat × List Attr => x.1 ≤ (mx 0 mo).toNat ∧ x.2.length = n.origin.length ∧ n.settle ((mx 0 mo).toNat - x.1) x.2 = n.settle (mx 0 mo).toNat l) (fun x => (mx 0 mo).toNat - x.1) (fun x => [(17, .d (.v (.int .i64 x.1))), (16, .d (.sl 4 (x.2.map Attr.row)))]) (fun x => []) ((0, l)) (⟨Nat.zero_le _, hsl, rfl⟩) (Wk.refl _ _) (Wk_sub rfl rfl ?_ ?_) (fun x hx => ?_))
  | (have _q : (if decide ((x.1 : Int) < mo) = true then (!n.isV x.2) else false) = true := hc; have hlt : (x.1 : Int) < mo ∧ n.isV x.2 = false := (by rcases Classical.em ((x.1 : Int) < mo) with h | h; exact ⟨h, by rw [decide_eq_true h] at _q; simpa using _q⟩; exact absurd (show false = true by rw [decide_eq_false h] at _q; exact _q) (by decide)); replace hc : True := trivial)
  | (have _q : (if decide ((x.1 : Int) < mo) = true then (!n.isV x.2) else false) = false := hc; have hend : n.settle (mx 0 mo).toNat l = x.2 := (by rw [← hx.2.2]; rcases Classical.em ((x.1 : Int) < mo) with h | h; exact settle_isV _ _ (by rw [decide_eq_true h] at _q; simpa using _q); rw [show (mx 0 mo).toNat - x.1 = 0 by omega]; rfl); have hss := sameL_refl x.2; replace hc : True := trivial)
  | (have _q := hlt; with_reducible refine loopQ_next (x.1 + 1, n.sweep x.2) ?_ ?_ (Wk_sub rfl rfl ?_ ?_))
  | simp only [f11r0, f11r1, f11r2, f11r3, f11r4, f11r5, f11r6, f11r8, f11r9, f11r10, f11r11, f11r12, f11r13, f11r14, f11r15, f11r16, g1, f11k, te33, te36, te25, List.length_map, List.getElem?_cons_zero, List.getElem?_cons_succ, sealBS, sealBO, sealBV, sealBL, runG_nil, runG_u, runG_g, runG_ucS, runG_gcS, runG_uvS, stp, avL, avS, evs, evX, lget, lput, strip, putO, PO.dst, updO, okR, cells, splice, AV.cell, toD, toDs, binV, sameK, pickV, guardOf, okL_nil, sides, argsOf, rawOf, dv, dvL, owns, ownsL, flat, flatL, lkeep, seqQ, blockQ, initS, List.drop_succ_cons, List.drop_zero, List.take_succ_cons, List.take_zero, List.getD_cons_zero, List.getD_cons_succ, List.length_cons, List.length_nil, List.set_cons_zero, List.set_cons_succ, List.map_cons, List.map_nil, List.all_cons, List.all_nil, List.elem_cons, List.elem_nil, Option.getD_some, Option.getD_none, Option.bind_some, Option.isNone_none, reduceIte, reduceCtorEq, Nat.reduceEqDiff, Nat.reduceAdd, Nat.reduceLeDiff, Nat.zero_add, Nat.add_zero, Nat.reduceBEq, Bool.and_self, Bool.and_true, Bool.true_and, Bool.or_self, Bool.or_false, Bool.false_or, Bool.or_true, Bool.true_or, true_and, and_true, and_self, implies_true, forall_const, Bool.false_eq_true, id_eq, retQ, resOf, resV, Option.some.injEq, exists_eq_left', AV.d.injEq, D.v.injEq, Value.bool.injEq, imp_self, bldF, bldS, toVals, eqLs, Option.map_some, imp_false, not_true_eq_false, not_false_eq_true, foot, wrs, nm, nmL, PG.reads, PG.dst, PO.reads, X.sl, sls, slB, List.append_nil, List.cons_append, List.nil_append, Option.toList_some, Option.toList_none, loopQ_exit, loopQ_ret, subS, subO, Bool.bne_false, Bool.bne_true, elemsOf, bslD, bslS, mentries, isAgV, asA, lputs, mgetD_set, mcmp_set, mput_set, List.headD_cons, sealS, sealO, sealV, sealL, mput_nil, mcmp_nil, midQ_ret, midQ_exit, sealsS, sealsO, runW_nil, runW_cons, Bool.true_bne, Bool.false_bne, bne_self_eq_false, Int.reduceToNat, bndV, oSl, resR, runS_nil, runS_gc, ren, renL, renO, sg, gBack]
  | simp only [f11r0, f11r1, f11r2, f11r3, f11r4, f11r5, f11r6, f11r8, f11r9, f11r10, f11r11, f11r12, f11r13, f11r14, f11r15, f11r16, f11k, te33, te36, te25, List.length_map, List.getElem?_cons_zero, List.getElem?_cons_succ, sealBS, sealBO, sealBV, sealBL, runG_nil, runG_u, runG_g, runG_ucS, runG_gcS, runG_uvS, stp, avL, avS, evs, evX, lget, lput, strip, putO, PO.dst, updO, okR, cells, splice, AV.cell, toD, toDs, binV, sameK, pickV, guardOf, okL_nil, sides, argsOf, rawOf, dv, dvL, owns, ownsL, flat, flatL, lkeep, seqQ, blockQ, initS, List.drop_succ_cons, List.drop_zero, List.take_succ_cons, List.take_zero, List.getD_cons_zero, List.getD_cons_succ, List.length_cons, List.length_nil, List.set_cons_zero, List.set_cons_succ, List.map_cons, List.map_nil, List.all_cons, List.all_nil, List.elem_cons, List.elem_nil, Option.getD_some, Option.getD_none, Option.bind_some, Option.isNone_none, reduceIte, reduceCtorEq, Nat.reduceEqDiff, Nat.reduceAdd, Nat.reduceLeDiff, Nat.zero_add, Nat.add_zero, Nat.reduceBEq, Bool.and_self, Bool.and_true, Bool.true_and, Bool.or_self, Bool.or_false, Bool.false_or, Bool.or_true, Bool.true_or, true_and, and_true, and_self, implies_true, forall_const, Bool.false_eq_true, id_eq, retQ, resOf, resV, Option.some.injEq, exists_eq_left', AV.d.injEq, D.v.injEq, Value.bool.injEq, imp_self, bldF, bldS, toVals, eqLs, Option.map_some, imp_false, not_true_eq_false, not_false_eq_true, foot, wrs, nm, nmL, PG.reads, PG.dst, PO.reads, X.sl, sls, slB, List.append_nil, List.cons_append, List.nil_append, Option.toList_some, Option.toList_none, loopQ_exit, loopQ_ret, subS, subO, Bool.bne_false, Bool.bne_true, elemsOf, bslD, bslS, mentries, isAgV, asA, lputs, mgetD_set, mcmp_set, mput_set, List.headD_cons, sealS, sealO, sealV, sealL, mput_nil, mcmp_nil, midQ_ret, midQ_exit, sealsS, sealsO, runW_nil, runW_cons, Bool.true_bne, Bool.false_bne, bne_self_eq_false, Int.reduceToNat, bndV, oSl, resR, runS_nil, runS_gc, ren, renL, renO, sg, gBack]
  all_goals try first
    | omega
    | (with_reducible rfl)
    | (show Value.int _ 0 = _; rfl)
    | (simp only [List.length_append, List.length_cons, List.length_nil]; omega)
    | (simp only [List.length_append, List.length_cons, List.length_nil, List.map_append, List.map_cons, List.map_nil]; done)
    | exact count64 (n := (mx 0 mo).toNat) (by omega) (by omega)
    | (rw [sweep_len]; omega)
    | (rw [← settle_step (by omega) hlt.2]; exact hx.2.2)
    | (rw [hend, hss]; simp; done)
    | (simp at hc; done)
  all_goals trace_state

theorem solveSweep_as (av : List AV) (h : dArgs te 8 [25, 5, 26, 27] av) : FnS Try.prog 11 av (.d (.v (.bool true))) := by
  obtain ⟨x, _, rfl, hx, y, _, rfl, hy, z, _, rfl, hz, u, _, rfl, hu, rfl⟩ := h
  obtain ⟨sh, rfl, hs⟩ := shape_of (n := 3) hx
  obtain ⟨w, rfl, hw⟩ := u8_row (n := 7) hy
  obtain ⟨ns, rfl, hns⟩ := u16s_of (n := 6) hz
  obtain ⟨k, rfl, hk⟩ := i8_row (n := 7) hu
  cases hx : sh.netV w with
  | none => exact solveSweep_none sh hs w hw ns k hx
  | some x =>
    obtain ⟨n, p⟩ := x
    exact solveSweep_some sh hs w hw ns k n p hx hns hk

set_option maxRecDepth 100000 in
theorem solveSweep_lifted (os : Os) (started : os.Started) (H : Type) (enc : TypeId × Value → H) :
    ReturnsInHanded {} Try.checked os 11 .any (Rows.solveSweepSpec.pre6 enc Try.prog Try.f11 Rows.solveSweepRow.domain false) (Rows.solveSweepSpec.post enc Try.prog Try.f11 false true false false) := by
  refine returnsInHanded_of_change (C := Try.checked) own started (by kernel_rfl) Try.func11
    (ChangeSpec.witness6 (enc := enc) (C := Try.checked) false ⟨#[], #[.agg #[.int .u8 0, .slice none 0 0, .slice none 0 0, .slice none 0 0, .slice none 0 0, .slice none 0 0], .int .u8 0, .slice none 0 0, .int .i8 0], []⟩ 8 (by kernel_rfl) (by kernel_rfl) (by kernel_rfl) (by kernel_rfl)) ?_
  intro W base args ds gs before hval hW hcnd _
  have hp : Try.f11.params.toList = [25, 5, 26, 27] := by kernel_rfl
  refine law_calls (n := 8) (b := 4) laidOut (by rw [hp]; exact List.forall_mem_cons.2 ⟨⟨by kernel_rfl, of_decide_eq_true (by kernel_rfl)⟩, List.forall_mem_cons.2 ⟨⟨by kernel_rfl, of_decide_eq_true (by kernel_rfl)⟩, List.forall_mem_cons.2 ⟨⟨by kernel_rfl, of_decide_eq_true (by kernel_rfl)⟩, List.forall_mem_cons.2 ⟨⟨by kernel_rfl, of_decide_eq_true (by kernel_rfl)⟩, (by simp)⟩⟩⟩⟩) (by rw [hp]; exact List.forall_mem_cons.2 ⟨by kernel_rfl, List.forall_mem_cons.2 ⟨by kernel_rfl, List.forall_mem_cons.2 ⟨by kernel_rfl, List.forall_mem_cons.2 ⟨by kernel_rfl, (by simp)⟩⟩⟩⟩) rfl (by kernel_rfl) (by kernel_rfl) (fun ds hd => ?_) hval hW (fun av h => solveSweep_as av (argsT_d teok _ _ _ (by rw [hp]; exact List.forall_mem_cons.2 ⟨rfl, List.forall_mem_cons.2 ⟨rfl, List.forall_mem_cons.2 ⟨rfl, List.forall_mem_cons.2 ⟨rfl, (by simp)⟩⟩⟩⟩) h |> (hp ▸ ·)))
  have hd : ds.length = 4 := hd
  match ds, hd with
  | [_, _, _, _], _ => rfl
theorem solveSweep_holds : Rows.SolveSweepSaid :=
  OpenClaim.holds_of_wide 11 Try.f11 rfl rfl rfl rfl rfl rfl rfl ⟨rfl, rfl, rfl, rfl, rfl⟩ rfl rfl rfl rfl rfl (by kernel_rfl) Try.func11 (by kernel_rfl)
    (of_decide_eq_true (by kernel_rfl)) (by unfold Func.isWrapper; first | (rw [if_pos (by decide +kernel)]; kernel_rfl) | (rw [if_neg (by decide +kernel)]; exact ⟨rfl, rfl⟩))
    (fun os started H enc _ => solveSweep_lifted os started H enc)
end Go.Proofs.Ytajkgmmmkhekmaa
