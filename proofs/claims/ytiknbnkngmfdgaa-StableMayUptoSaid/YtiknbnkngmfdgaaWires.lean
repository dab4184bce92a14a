/- What layer 15's Wires comes to. Printed by a program of this project (wip/mq). -/
import Derived.Test.YtiknbnkngmfdgaaMake
namespace Go.Proofs.Ytiknbnkngmfdgaa
open Go Mq Go.ChangeShapes Go.WideShapes Go.ChangeAt Go.RowKit
/-! maquette/maquettelaw15.Wires -/
def f20r0 : List PG := [.u (.al 6 [.nl 1, .nl 1, .nl 1])]
def f20r1 : List PG := [.u (.al 7 [.nl 1, .nl 1, .nl 1])]
def f20r2 : List PG := [.u (.mv 14 (.t 0)), .u (.len 15 (.t 14)), .u (.mv 16 (.k (.int .i64 0)))]
def f20r3 : List PG := [.u (.bo 17 .lss (.t 16) (.t 15))]
def f20r4 : List PG := [.u (.mv 18 (.t 16)), .u (.ia 19 1 (.t 14) (.t 16)), .u (.ld 20 1 false (.t 19)), .u (.mv 8 (.t 18)), .u (.mv 9 (.t 20))]
def f20r5 : List PG := [.u (.mv 21 (.t 8)), .u (.beq 22 false false (.t 21) (.k (.int .i64 8)))]
abbrev f20p0 : PC := .cond (.t 22) (.exit 0) (.skip)
def f20r6 : List PG := [.u (.fa 23 0 (.t 7)), .u (.ld 24 1 false (.t 23)), .u (.mv 25 (.t 9)), .u (.bsl 26 4 1 [.t 25]), .u (.app 27 4 1 1 (.t 24) (.t 26)), .u (.fa 28 0 (.t 7)), .u (.st 1 (.t 28) (.t 27))]
def f20r7 : List PG := [.u (.mv 10 (.k (.int .i64 (-1))))]
def f20r8 : List PG := [.u (.mv 29 (.t 8)), .u (.mv 30 (.t 1)), .u (.len 31 (.t 30)), .u (.bo 32 .lss (.t 29) (.t 31))]
def f20r9 : List PG := [.u (.mv 33 (.t 1)), .u (.mv 34 (.t 8)), .u (.ia 35 1 (.t 33) (.t 34)), .u (.ld 36 1 false (.t 35)), .u (.cv 37 .i64 (.t 36)), .u (.mv 10 (.t 37))]
abbrev f20p1 : PC := .cond (.t 32) (.reg f20r9) (.skip)
def f20r10 : List PG := [.u (.fa 38 1 (.t 7)), .u (.ld 39 1 false (.t 38)), .u (.mv 40 (.t 10)), .u (.bsl 41 3 1 [.t 40]), .u (.app 42 3 1 8 (.t 39) (.t 41)), .u (.fa 43 1 (.t 7)), .u (.st 1 (.t 43) (.t 42))]
def f20r11 : List PG := [.u (.mv 11 (.nl 4))]
def f20r12 : List PG := [.u (.mv 44 (.t 8)), .u (.mv 45 (.t 2)), .u (.len 46 (.t 45)), .u (.bo 47 .lss (.t 44) (.t 46))]
def f20r13 : List PG := [.u (.mv 48 (.t 2)), .u (.mv 49 (.t 8)), .u (.ia 50 1 (.t 48) (.t 49)), .u (.ld 51 1 false (.t 50)), .u (.len 52 (.t 51)), .u (.mv 53 (.k (.int .i64 0)))]
def f20r14 : List PG := [.u (.bo 54 .lss (.t 53) (.t 52))]
def f20r15 : List PG := [.u (.mv 55 (.t 53)), .u (.ia 56 4 (.t 51) (.t 53)), .u (.ld 57 4 true (.t 56)), .u (.al 13 [.d (.v (.int .u8 0)), .d (.v (.int .u8 0)), .nl 6, .nl 6]), .u (.mv 12 (.t 55)), .u (.st 4 (.t 13) (.t 57))]
def f20r16 : List PG := [.u (.mv 58 (.t 12)), .u (.bo 59 .lss (.t 58) (.k (.int .i64 5)))]
def f20r17 : List PG := [.u (.mv 60 (.t 11)), .u (.ld 61 4 true (.t 13)), .uc 62 35 [.t 61], .u (.bsl 63 47 4 [.t 62]), .u (.app 64 47 4 64 (.t 60) (.t 63)), .u (.mv 11 (.t 64))]
abbrev f20p2 : PC := .cond (.t 59) (.reg f20r17) (.skip)
abbrev f20p3 : PC := .seq (.reg f20r16) (f20p2)
def f20r18 : List PG := [.u (.bo 65 .add (.t 53) (.k (.int .i64 1))), .u (.mv 53 (.t 65))]
abbrev f20p4 : PC := .seq (.block 3 (.seq (.reg f20r15) (f20p3))) (.reg f20r18)
abbrev f20p5 : PC := .seq (.cond (.t 54) (.skip) (.exit 2)) (f20p4)
abbrev f20p6 : PC := .seq (.reg f20r14) (f20p5)
abbrev f20p7 : PC := .block 2 (.loop (f20p6))
abbrev f20p8 : PC := .seq (.reg f20r13) (f20p7)
abbrev f20p9 : PC := .cond (.t 47) (f20p8) (.skip)
def f20r19 : List PG := [.u (.fa 66 2 (.t 7)), .u (.ld 67 1 false (.t 66)), .u (.mv 68 (.t 11)), .u (.bsl 69 44 1 [.t 68]), .u (.app 70 44 1 24 (.t 67) (.t 69)), .u (.fa 71 2 (.t 7)), .u (.st 1 (.t 71) (.t 70))]
abbrev f20p10 : PC := .seq (.seq (.reg f20r12) (f20p9)) (.reg f20r19)
abbrev f20p11 : PC := .seq (.reg f20r11) (f20p10)
abbrev f20p12 : PC := .seq (.reg f20r10) (f20p11)
abbrev f20p13 : PC := .seq (.seq (.reg f20r8) (f20p1)) (f20p12)
abbrev f20p14 : PC := .seq (.reg f20r7) (f20p13)
abbrev f20p15 : PC := .seq (.reg f20r6) (f20p14)
abbrev f20p16 : PC := .seq (.seq (.reg f20r5) (f20p0)) (f20p15)
def f20r20 : List PG := [.u (.bo 72 .add (.t 16) (.k (.int .i64 1))), .u (.mv 16 (.t 72))]
abbrev f20p17 : PC := .seq (.block 1 (.seq (.reg f20r4) (f20p16))) (.reg f20r20)
abbrev f20p18 : PC := .seq (.cond (.t 17) (.skip) (.exit 0)) (f20p17)
abbrev f20p19 : PC := .seq (.reg f20r3) (f20p18)
abbrev f20p20 : PC := .block 0 (.loop (f20p19))
def f20r21 : List PG := [.u (.ld 73 3 true (.t 7)), .u (.st 3 (.t 6) (.t 73))]
abbrev f20p21 : PC := .seq (.reg f20r21) (.ret)
abbrev f20p22 : PC := .seq (.seq (.reg f20r2) (f20p20)) (f20p21)
abbrev f20p23 : PC := .seq (.reg f20r1) (f20p22)
abbrev f20pc : PC := .seq (.reg f20r0) (f20p23)
def f20k : List Nat := [0, 1, 2, 6, 7, 8, 9, 10, 11, 12, 13, 14, 15, 16, 17, 22, 32, 47, 51, 52, 53, 54, 59]
theorem f20c : Try.f20.body.bind (cC te Try.f20.ntmps) = some f20pc := by kernel_rfl
set_option maxRecDepth 20000
set_option maxHeartbeats 4000000
set_option linter.unusedSimpArgs false
set_option linter.unusedVariables false

structure WsOk (ws : List (List Wire)) : Prop where
  row : ∀ r ∈ ws, r.length ≤ maxLen
  exp : ∀ r ∈ ws, ∀ w ∈ r, w.exp.length ≤ maxLen
  imp : ∀ r ∈ ws, ∀ w ∈ r, w.imp.length ≤ maxLen
  expR : ∀ r ∈ ws, ∀ w ∈ r, ∀ q ∈ w.exp, 0 ≤ q.to ∧ q.to ≤ 255
  impR : ∀ r ∈ ws, ∀ w ∈ r, ∀ q ∈ w.imp, 0 ≤ q.to ∧ q.to ≤ 255
theorem wires_fn (o : List Bool) (ho : o.length ≤ 1048576) (st : List Int) (hst : st.length ≤ maxLen) (ws : List (List Wire)) (hws : WsOk ws) : FnS Try.prog 20 [.d (.sl 1 (o.map bD)), .d (.sl 1 (st.map fun x => [D.v (.int .i8 x)])), .d (.sl 1 (ws.map wsD))] (wiresV o st ws).av := by
  have hm : maxLen = 9223372036854775807 := rfl
  refine fn_of teok Try.func20 (by kernel_rfl) f20c f20k [.cell 6 35] rfl (by show 3 ≤ 74; omega) ?_
  repeat' first
  | (with_reducible refine awp_exit_seal (i := 2) [64] ?_)
  | (with_reducible refine awp_mid (f20p12) [(10, .d (.v (.int .i64 (wVia st x.1))))] [] ?_ ?_)
  | (with_reducible refine awp_mid (.reg f20r19) [(11, .d (.sl 4 ((wArcs ws x.1).map Arc.row)))] [] ?_ ?_)
  | (with_reducible refine midQ_of ((Wk_nlD 11 rfl).trans (Wk_sub rfl rfl ?_ ?_)))
  | with_reducible refine awp_seq ?_
  | with_reducible refine awp_block ?_
  | with_reducible refine awp_reg ?_
  | with_reducible refine awp_regD ?_
  | with_reducible refine awp_ret ?_
  | with_reducible refine awp_skip ?_
  | with_reducible refine awp_exit ?_
  | with_reducible refine normQ_of ?_
  | with_reducible refine wkE_of ?_
  | with_reducible refine midQ_of (Wk_sub rfl rfl ?_ ?_)
  | with_reducible refine runD_nil ?_
  | with_reducible refine runD_cons ?_
  | with_reducible refine runF_cons ?_
  | with_reducible refine runF_nil ?_
  | with_reducible refine KF_of ?_
  | with_reducible refine chkQ_of rfl ?_
  | with_reducible refine awp_cond (by simp only [evX, lget, Option.getD_some, reduceIte, Nat.reduceEqDiff]; rfl) (fun hc => ?_) (fun hc => ?_)
  | with_reducible refine CallU_of (f := 35) (arc_fn w (hws.exp _ hrm w hwm) (hws.imp _ hrm w hwm) (hws.expR _ hrm w hwm) (hws.impR _ hrm w hwm)) (by first | exact Or.inr rfl | exact Or.inl rfl) ?_
  | with_reducible refine CallC_of (f := 35) (fun _ => arc_fn w (hws.exp _ hrm w hwm) (hws.imp _ hrm w hwm) (hws.expR _ hrm w hwm) (hws.impR _ hrm w hwm)) (by first | exact Or.inr rfl | exact Or.inl rfl) ?_
  | (with_reducible assumption)
  | with_reducible refine fun (hG : okL _) => ?_
  | (with_reducible refine fun (hT : (_ : Bool) = _) => ?_)
  | (with_reducible first | exact hG.2 | exact hG.2.2 | exact hG.2.2.2 | exact hG.2.2.2.2)
  | with_reducible refine okL_mk ?_ ?_
  | with_reducible refine And.intro ?_ ?_
  | (with_reducible refine awp_loopU (b := f20p19) (fun x : Nat × Net => x.1 ≤ o.length ∧ x.1 ≤ 8 ∧ x.2.origin.length = x.1 ∧ x.2.static.length = x.1 ∧ x.2.edges.length = x.1 ∧ wiresGo st ws (o.drop x.1) x.1 x.2 = wiresV o st ws) (fun x => o.length - x.1) (fun x => [(16, .d (.v (.int .i64 x.1)))]) (fun x => [(7, .box [.own 27 x.2.origin.length, .own 42 x.2.static.length, .own 70 x.2.edges.length]), (27, .row 4 1 x.2.origin.length (x.2.origin.map bD)), (42, .row 3 1 x.2.static.length (x.2.static.map iD)), (70, .row 44 1 x.2.edges.length (x.2.edges.map esD))]) ((0, ⟨[], [], []⟩)) (⟨Nat.zero_le _, by decide, rfl, rfl, rfl, rfl⟩) (((Wk_nlB 7 0 27 4 rfl rfl rfl (by decide)).trans (Wk_nlB 7 1 42 3 rfl rfl rfl (by decide))).trans (Wk_nlB 7 2 70 44 rfl rfl rfl (by decide))) (Wk_sub rfl rfl ?_ ?_) (fun x hx => ?_))
  | (refine Exists.elim (at_drop bD o x.1 (Int.ofNat_lt.1 (of_decide_eq_true hc))) (fun b he => ?_); have g1 := he.2.1; replace hc : True := trivial)
  | (refine Exists.elim (at_drop (fun x => [D.v (.int .i8 x)]) st x.1 (Int.ofNat_lt.1 (of_decide_eq_true hc))) (fun v hv => ?_); have g2 := hv.2.1; replace hc : True := trivial)
  | (refine Exists.elim (at_drop wsD ws x.1 (Int.ofNat_lt.1 (of_decide_eq_true hc))) (fun r hr => ?_); have g3 := hr.2.1; have hrm : r ∈ ws := List.mem_of_getElem? hr.2.2.1; replace hc : True := trivial)
  | (with_reducible refine awp_loopU (b := f20p6) (fun y : Nat × List Arc => y.1 ≤ r.length ∧ y.2.length ≤ 5 ∧ (y.1 < 5 → y.2.length ≤ y.1) ∧ arcsGo (r.drop y.1) y.1 y.2 = arcsGo r 0 []) (fun y => r.length - y.1) (fun y => [(53, .d (.v (.int .i64 y.1))), (11, .own 64 y.2.length)]) (fun y => [(64, .row 47 4 y.2.length (y.2.map Arc.row))]) ((0, [])) (⟨Nat.zero_le _, by simp, by simp, rfl⟩) (Wk_nl 11 64 47 rfl rfl (by decide)) (Wk_sub rfl rfl ?_ ?_) (fun y hy => ?_))
  | (refine Exists.elim (at_drop Wire.row r y.1 (Int.ofNat_lt.1 (of_decide_eq_true hc))) (fun w hw => ?_); have g4 := hw.2.1; have hwm : w ∈ r := List.mem_of_getElem? hw.2.2.1; replace hc : True := trivial)
  | (have _q : (_ : Bool) = true := hc; with_reducible refine loopQ_next ((y.1 + 1, y.2 ++ [w.arc])) ?_ ?_ (Wk_sub rfl rfl ?_ ?_))
  | (have _q : (_ : Bool) = false := hc; with_reducible refine loopQ_next ((y.1 + 1, y.2)) ?_ ?_ (Wk_sub rfl rfl ?_ ?_))
  | (with_reducible refine loopQ_next ((x.1 + 1, ⟨x.2.origin ++ [b], x.2.static ++ [wVia st x.1], x.2.edges ++ [wArcs ws x.1]⟩)) ?_ ?_ (Wk_sub rfl rfl ?_ ?_))
  | simp only [f20r0, f20r1, f20r2, f20r3, f20r4, f20r5, f20r6, f20r7, f20r8, f20r9, f20r10, f20r11, f20r12, f20r13, f20r14, f20r15, f20r16, f20r17, f20r18, f20r19, f20r20, f20r21, g4, g3, f20k, te35, List.length_map, List.getElem?_cons_zero, List.getElem?_cons_succ, runG_nil, runG_u, runG_g, runG_ucS, runG_gcS, stp, evs, evX, lget, lput, strip, putO, PO.dst, updO, okR, cells, splice, AV.cell, toD, toDs, binV, sameK, pickV, guardOf, okL_nil, sides, argsOf, rawOf, dv, dvL, owns, ownsL, flat, flatL, lkeep, seqQ, blockQ, initS, List.drop_succ_cons, List.drop_zero, List.take_succ_cons, List.take_zero, List.getD_cons_zero, List.getD_cons_succ, List.length_cons, List.length_nil, List.set_cons_zero, List.set_cons_succ, List.map_cons, List.map_nil, List.all_cons, List.all_nil, List.elem_cons, List.elem_nil, Option.getD_some, Option.getD_none, Option.bind_some, Option.isNone_none, reduceIte, reduceCtorEq, Nat.reduceEqDiff, Nat.reduceAdd, Nat.reduceLeDiff, Nat.zero_add, Nat.add_zero, Nat.reduceBEq, Bool.and_self, Bool.and_true, Bool.true_and, Bool.or_self, Bool.or_false, Bool.false_or, Bool.or_true, Bool.true_or, true_and, and_true, and_self, implies_true, forall_const, Bool.false_eq_true, id_eq, retQ, resOf, resV, Option.some.injEq, exists_eq_left', AV.d.injEq, D.v.injEq, Value.bool.injEq, imp_self, bldF, bldS, toVals, eqLs, Option.map_some, imp_false, not_true_eq_false, not_false_eq_true, foot, wrs, nm, nmL, PG.reads, PG.dst, PO.reads, X.sl, sls, slB, List.append_nil, List.cons_append, List.nil_append, Option.toList_some, Option.toList_none, loopQ_exit, loopQ_ret, subS, subO, Bool.bne_false, Bool.bne_true, elemsOf, bslD, bslS, mentries, isAgV, asA, lputs, mgetD_set, mcmp_set, mput_set, List.headD_cons, sealS, sealO, sealV, sealL, mput_nil, mcmp_nil, midQ_ret, midQ_exit, sealsS, sealsO, runW_nil, runW_cons, Bool.true_bne, Bool.false_bne, bne_self_eq_false, Int.reduceToNat, bndV, oSl]
  | simp only [f20r0, f20r1, f20r2, f20r3, f20r4, f20r5, f20r6, f20r7, f20r8, f20r9, f20r10, f20r11, f20r12, f20r13, f20r14, f20r15, f20r16, f20r17, f20r18, f20r19, f20r20, f20r21, g3, f20k, te35, List.length_map, List.getElem?_cons_zero, List.getElem?_cons_succ, runG_nil, runG_u, runG_g, runG_ucS, runG_gcS, stp, evs, evX, lget, lput, strip, putO, PO.dst, updO, okR, cells, splice, AV.cell, toD, toDs, binV, sameK, pickV, guardOf, okL_nil, sides, argsOf, rawOf, dv, dvL, owns, ownsL, flat, flatL, lkeep, seqQ, blockQ, initS, List.drop_succ_cons, List.drop_zero, List.take_succ_cons, List.take_zero, List.getD_cons_zero, List.getD_cons_succ, List.length_cons, List.length_nil, List.set_cons_zero, List.set_cons_succ, List.map_cons, List.map_nil, List.all_cons, List.all_nil, List.elem_cons, List.elem_nil, Option.getD_some, Option.getD_none, Option.bind_some, Option.isNone_none, reduceIte, reduceCtorEq, Nat.reduceEqDiff, Nat.reduceAdd, Nat.reduceLeDiff, Nat.zero_add, Nat.add_zero, Nat.reduceBEq, Bool.and_self, Bool.and_true, Bool.true_and, Bool.or_self, Bool.or_false, Bool.false_or, Bool.or_true, Bool.true_or, true_and, and_true, and_self, implies_true, forall_const, Bool.false_eq_true, id_eq, retQ, resOf, resV, Option.some.injEq, exists_eq_left', AV.d.injEq, D.v.injEq, Value.bool.injEq, imp_self, bldF, bldS, toVals, eqLs, Option.map_some, imp_false, not_true_eq_false, not_false_eq_true, foot, wrs, nm, nmL, PG.reads, PG.dst, PO.reads, X.sl, sls, slB, List.append_nil, List.cons_append, List.nil_append, Option.toList_some, Option.toList_none, loopQ_exit, loopQ_ret, subS, subO, Bool.bne_false, Bool.bne_true, elemsOf, bslD, bslS, mentries, isAgV, asA, lputs, mgetD_set, mcmp_set, mput_set, List.headD_cons, sealS, sealO, sealV, sealL, mput_nil, mcmp_nil, midQ_ret, midQ_exit, sealsS, sealsO, runW_nil, runW_cons, Bool.true_bne, Bool.false_bne, bne_self_eq_false, Int.reduceToNat, bndV, oSl]
  | simp only [f20r0, f20r1, f20r2, f20r3, f20r4, f20r5, f20r6, f20r7, f20r8, f20r9, f20r10, f20r11, f20r12, f20r13, f20r14, f20r15, f20r16, f20r17, f20r18, f20r19, f20r20, f20r21, g2, f20k, te35, List.length_map, List.getElem?_cons_zero, List.getElem?_cons_succ, runG_nil, runG_u, runG_g, runG_ucS, runG_gcS, stp, evs, evX, lget, lput, strip, putO, PO.dst, updO, okR, cells, splice, AV.cell, toD, toDs, binV, sameK, pickV, guardOf, okL_nil, sides, argsOf, rawOf, dv, dvL, owns, ownsL, flat, flatL, lkeep, seqQ, blockQ, initS, List.drop_succ_cons, List.drop_zero, List.take_succ_cons, List.take_zero, List.getD_cons_zero, List.getD_cons_succ, List.length_cons, List.length_nil, List.set_cons_zero, List.set_cons_succ, List.map_cons, List.map_nil, List.all_cons, List.all_nil, List.elem_cons, List.elem_nil, Option.getD_some, Option.getD_none, Option.bind_some, Option.isNone_none, reduceIte, reduceCtorEq, Nat.reduceEqDiff, Nat.reduceAdd, Nat.reduceLeDiff, Nat.zero_add, Nat.add_zero, Nat.reduceBEq, Bool.and_self, Bool.and_true, Bool.true_and, Bool.or_self, Bool.or_false, Bool.false_or, Bool.or_true, Bool.true_or, true_and, and_true, and_self, implies_true, forall_const, Bool.false_eq_true, id_eq, retQ, resOf, resV, Option.some.injEq, exists_eq_left', AV.d.injEq, D.v.injEq, Value.bool.injEq, imp_self, bldF, bldS, toVals, eqLs, Option.map_some, imp_false, not_true_eq_false, not_false_eq_true, foot, wrs, nm, nmL, PG.reads, PG.dst, PO.reads, X.sl, sls, slB, List.append_nil, List.cons_append, List.nil_append, Option.toList_some, Option.toList_none, loopQ_exit, loopQ_ret, subS, subO, Bool.bne_false, Bool.bne_true, elemsOf, bslD, bslS, mentries, isAgV, asA, lputs, mgetD_set, mcmp_set, mput_set, List.headD_cons, sealS, sealO, sealV, sealL, mput_nil, mcmp_nil, midQ_ret, midQ_exit, sealsS, sealsO, runW_nil, runW_cons, Bool.true_bne, Bool.false_bne, bne_self_eq_false, Int.reduceToNat, bndV, oSl]
  | simp only [f20r0, f20r1, f20r2, f20r3, f20r4, f20r5, f20r6, f20r7, f20r8, f20r9, f20r10, f20r11, f20r12, f20r13, f20r14, f20r15, f20r16, f20r17, f20r18, f20r19, f20r20, f20r21, g1, f20k, te35, List.length_map, List.getElem?_cons_zero, List.getElem?_cons_succ, runG_nil, runG_u, runG_g, runG_ucS, runG_gcS, stp, evs, evX, lget, lput, strip, putO, PO.dst, updO, okR, cells, splice, AV.cell, toD, toDs, binV, sameK, pickV, guardOf, okL_nil, sides, argsOf, rawOf, dv, dvL, owns, ownsL, flat, flatL, lkeep, seqQ, blockQ, initS, List.drop_succ_cons, List.drop_zero, List.take_succ_cons, List.take_zero, List.getD_cons_zero, List.getD_cons_succ, List.length_cons, List.length_nil, List.set_cons_zero, List.set_cons_succ, List.map_cons, List.map_nil, List.all_cons, List.all_nil, List.elem_cons, List.elem_nil, Option.getD_some, Option.getD_none, Option.bind_some, Option.isNone_none, reduceIte, reduceCtorEq, Nat.reduceEqDiff, Nat.reduceAdd, Nat.reduceLeDiff, Nat.zero_add, Nat.add_zero, Nat.reduceBEq, Bool.and_self, Bool.and_true, Bool.true_and, Bool.or_self, Bool.or_false, Bool.false_or, Bool.or_true, Bool.true_or, true_and, and_true, and_self, implies_true, forall_const, Bool.false_eq_true, id_eq, retQ, resOf, resV, Option.some.injEq, exists_eq_left', AV.d.injEq, D.v.injEq, Value.bool.injEq, imp_self, bldF, bldS, toVals, eqLs, Option.map_some, imp_false, not_true_eq_false, not_false_eq_true, foot, wrs, nm, nmL, PG.reads, PG.dst, PO.reads, X.sl, sls, slB, List.append_nil, List.cons_append, List.nil_append, Option.toList_some, Option.toList_none, loopQ_exit, loopQ_ret, subS, subO, Bool.bne_false, Bool.bne_true, elemsOf, bslD, bslS, mentries, isAgV, asA, lputs, mgetD_set, mcmp_set, mput_set, List.headD_cons, sealS, sealO, sealV, sealL, mput_nil, mcmp_nil, midQ_ret, midQ_exit, sealsS, sealsO, runW_nil, runW_cons, Bool.true_bne, Bool.false_bne, bne_self_eq_false, Int.reduceToNat, bndV, oSl]
  | simp only [f20r0, f20r1, f20r2, f20r3, f20r4, f20r5, f20r6, f20r7, f20r8, f20r9, f20r10, f20r11, f20r12, f20r13, f20r14, f20r15, f20r16, f20r17, f20r18, f20r19, f20r20, f20r21, f20k, te35, List.length_map, List.getElem?_cons_zero, List.getElem?_cons_succ, runG_nil, runG_u, runG_g, runG_ucS, runG_gcS, stp, evs, evX, lget, lput, strip, putO, PO.dst, updO, okR, cells, splice, AV.cell, toD, toDs, binV, sameK, pickV, guardOf, okL_nil, sides, argsOf, rawOf, dv, dvL, owns, ownsL, flat, flatL, lkeep, seqQ, blockQ, initS, List.drop_succ_cons, List.drop_zero, List.take_succ_cons, List.take_zero, List.getD_cons_zero, List.getD_cons_succ, List.length_cons, List.length_nil, List.set_cons_zero, List.set_cons_succ, List.map_cons, List.map_nil, List.all_cons, List.all_nil, List.elem_cons, List.elem_nil, Option.getD_some, Option.getD_none, Option.bind_some, Option.isNone_none, reduceIte, reduceCtorEq, Nat.reduceEqDiff, Nat.reduceAdd, Nat.reduceLeDiff, Nat.zero_add, Nat.add_zero, Nat.reduceBEq, Bool.and_self, Bool.and_true, Bool.true_and, Bool.or_self, Bool.or_false, Bool.false_or, Bool.or_true, Bool.true_or, true_and, and_true, and_self, implies_true, forall_const, Bool.false_eq_true, id_eq, retQ, resOf, resV, Option.some.injEq, exists_eq_left', AV.d.injEq, D.v.injEq, Value.bool.injEq, imp_self, bldF, bldS, toVals, eqLs, Option.map_some, imp_false, not_true_eq_false, not_false_eq_true, foot, wrs, nm, nmL, PG.reads, PG.dst, PO.reads, X.sl, sls, slB, List.append_nil, List.cons_append, List.nil_append, Option.toList_some, Option.toList_none, loopQ_exit, loopQ_ret, subS, subO, Bool.bne_false, Bool.bne_true, elemsOf, bslD, bslS, mentries, isAgV, asA, lputs, mgetD_set, mcmp_set, mput_set, List.headD_cons, sealS, sealO, sealV, sealL, mput_nil, mcmp_nil, midQ_ret, midQ_exit, sealsS, sealsO, runW_nil, runW_cons, Bool.true_bne, Bool.false_bne, bne_self_eq_false, Int.reduceToNat, bndV, oSl]
  all_goals try first
    | omega
    | (with_reducible rfl)
    | (show Value.int _ 0 = _; rfl)
    | (simp only [List.length_append, List.length_cons, List.length_nil]; omega)
    | (simp only [List.length_append, List.length_cons, List.length_nil, List.map_append, List.map_cons, List.map_nil]; done)
    | exact count64 hw.2.2.2 (hws.row _ hrm)
    | exact count64 he.2.2.2 (by omega)
    | (have h0 := of_decide_eq_true hc; have h1 := hy.2.2.1 (by omega); simp; omega)
    | (have h0 := of_decide_eq_false hc; intro q; omega)
    | (have h0 := of_decide_eq_true hc; have h1 := hy.2.2.2; rw [hw.1, arcsGo, if_pos (by omega)] at h1; exact h1)
    | (have h0 := of_decide_eq_false hc; have h1 := hy.2.2.2; rw [hw.1, arcsGo, if_neg (by omega)] at h1; exact h1)
    | (have h0 := of_decide_eq_false hc; have h1 := hy.2.2.2; rw [List.drop_eq_nil_of_le (by omega), arcsGo] at h1
       have h2 : wArcs ws x.1 = y.2 := by rw [h1, wArcs, if_pos hr.2.2.2]; simp [List.getD, hr.2.2.1]
       rw [h2]; done)
    | (have h0 := of_decide_eq_false hc; have h2 : wArcs ws x.1 = [] := by rw [wArcs, if_neg (by omega)]
       rw [h2]; rfl)
    | (have h0 := of_decide_eq_false hc; rw [wVia, if_neg (by omega)]; done)
    | (have h2 : wVia st x.1 = IntKind.i64.wrap v := by rw [wVia, if_pos hv.2.2.2]; simp [List.getD, hv.2.2.1]
       rw [h2]; done)
    | (have h2 : x.1 ≠ 8 := by rintro h3; simp [h3] at hc
       omega)
    | (have h2 : x.1 ≠ 8 := by rintro h3; simp [h3] at hc
       have h1 := hx.2.2.2.2.2; rw [he.1, wiresGo, if_neg h2] at h1; exact h1)
    | (have h2 : x.1 = 8 := by simp at hc; omega
       have h1 := hx.2.2.2.2.2; rw [he.1, wiresGo, if_pos h2] at h1; rw [h1]; done)
    | (have h0 := of_decide_eq_false hc; have h1 := hx.2.2.2.2.2; rw [List.drop_eq_nil_of_le (by omega), wiresGo] at h1; rw [h1]; done)
    | (simp only [← hx.2.2.2.2.2]; done)
  all_goals trace_state
end Go.Proofs.Ytiknbnkngmfdgaa
