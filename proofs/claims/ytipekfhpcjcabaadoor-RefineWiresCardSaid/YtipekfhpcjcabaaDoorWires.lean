/- What layer 15's Wires comes to. Printed by a program of this project (wip/mq). -/
import Derived.Test.YtipekfhpcjcabaaDoorMake
set_option linter.unusedVariables false
set_option linter.unusedSimpArgs false

namespace Go.Proofs.YtipekfhpcjcabaaDoor
open Go Mq Go.ChangeShapes Go.WideShapes Go.ChangeAt Go.RowKit
/-! maquette/maquettelaw15.Wires -/
def f10r0 : List PG := [.u (.al 6 [.nl 1, .nl 1, .nl 1])]
def f10r1 : List PG := [.u (.al 7 [.nl 1, .nl 1, .nl 1])]
def f10r2 : List PG := [.u (.mv 14 (.t 0)), .u (.len 15 (.t 14)), .u (.mv 16 (.k (.int .i64 0)))]
def f10r3 : List PG := [.u (.bo 17 .lss (.t 16) (.t 15))]
def f10r4 : List PG := [.u (.mv 18 (.t 16)), .u (.ia 19 1 (.t 14) (.t 16)), .u (.ld 20 1 false (.t 19)), .u (.mv 8 (.t 18)), .u (.mv 9 (.t 20))]
def f10r5 : List PG := [.u (.mv 21 (.t 8)), .u (.beq 22 false false (.t 21) (.k (.int .i64 8)))]
abbrev f10p0 : PC := .cond (.t 22) (.exit 0) (.skip)
def f10r6 : List PG := [.u (.fa 23 0 (.t 7)), .u (.ld 24 1 false (.t 23)), .u (.mv 25 (.t 9)), .u (.bsl 26 4 1 [.t 25]), .u (.app 27 4 1 1 (.t 24) (.t 26)), .u (.fa 28 0 (.t 7)), .u (.st 1 (.t 28) (.t 27))]
def f10r7 : List PG := [.u (.mv 10 (.k (.int .i64 (-1))))]
def f10r8 : List PG := [.u (.mv 29 (.t 8)), .u (.mv 30 (.t 1)), .u (.len 31 (.t 30)), .u (.bo 32 .lss (.t 29) (.t 31))]
def f10r9 : List PG := [.u (.mv 33 (.t 1)), .u (.mv 34 (.t 8)), .u (.ia 35 1 (.t 33) (.t 34)), .u (.ld 36 1 false (.t 35)), .u (.cv 37 .i64 (.t 36)), .u (.mv 10 (.t 37))]
abbrev f10p1 : PC := .cond (.t 32) (.reg f10r9) (.skip)
def f10r10 : List PG := [.u (.fa 38 1 (.t 7)), .u (.ld 39 1 false (.t 38)), .u (.mv 40 (.t 10)), .u (.bsl 41 3 1 [.t 40]), .u (.app 42 3 1 8 (.t 39) (.t 41)), .u (.fa 43 1 (.t 7)), .u (.st 1 (.t 43) (.t 42))]
def f10r11 : List PG := [.u (.mv 11 (.nl 4))]
def f10r12 : List PG := [.u (.mv 44 (.t 8)), .u (.mv 45 (.t 2)), .u (.len 46 (.t 45)), .u (.bo 47 .lss (.t 44) (.t 46))]
def f10r13 : List PG := [.u (.mv 48 (.t 2)), .u (.mv 49 (.t 8)), .u (.ia 50 1 (.t 48) (.t 49)), .u (.ld 51 1 false (.t 50)), .u (.len 52 (.t 51)), .u (.mv 53 (.k (.int .i64 0)))]
def f10r14 : List PG := [.u (.bo 54 .lss (.t 53) (.t 52))]
def f10r15 : List PG := [.u (.mv 55 (.t 53)), .u (.ia 56 4 (.t 51) (.t 53)), .u (.ld 57 4 true (.t 56)), .u (.al 13 [.d (.v (.int .u8 0)), .d (.v (.int .u8 0)), .nl 6, .nl 6]), .u (.mv 12 (.t 55)), .u (.st 4 (.t 13) (.t 57))]
def f10r16 : List PG := [.u (.mv 58 (.t 12)), .u (.bo 59 .lss (.t 58) (.k (.int .i64 5)))]
def f10r17 : List PG := [.u (.mv 60 (.t 11)), .u (.ld 61 4 true (.t 13)), .uc 62 27 [.t 61], .u (.bsl 63 71 4 [.t 62]), .u (.app 64 71 4 64 (.t 60) (.t 63)), .u (.mv 11 (.t 64))]
abbrev f10p2 : PC := .cond (.t 59) (.reg f10r17) (.skip)
abbrev f10p3 : PC := .seq (.reg f10r16) (f10p2)
def f10r18 : List PG := [.u (.bo 65 .add (.t 53) (.k (.int .i64 1))), .u (.mv 53 (.t 65))]
abbrev f10p4 : PC := .seq (.block 3 (.seq (.reg f10r15) (f10p3))) (.reg f10r18)
abbrev f10p5 : PC := .seq (.cond (.t 54) (.skip) (.exit 2)) (f10p4)
abbrev f10p6 : PC := .seq (.reg f10r14) (f10p5)
abbrev f10p7 : PC := .block 2 (.loop (f10p6))
abbrev f10p8 : PC := .seq (.reg f10r13) (f10p7)
abbrev f10p9 : PC := .cond (.t 47) (f10p8) (.skip)
def f10r19 : List PG := [.u (.fa 66 2 (.t 7)), .u (.ld 67 1 false (.t 66)), .u (.mv 68 (.t 11)), .u (.bsl 69 72 1 [.t 68]), .u (.app 70 72 1 24 (.t 67) (.t 69)), .u (.fa 71 2 (.t 7)), .u (.st 1 (.t 71) (.t 70))]
abbrev f10p10 : PC := .seq (.seq (.reg f10r12) (f10p9)) (.reg f10r19)
abbrev f10p11 : PC := .seq (.reg f10r11) (f10p10)
abbrev f10p12 : PC := .seq (.reg f10r10) (f10p11)
abbrev f10p13 : PC := .seq (.seq (.reg f10r8) (f10p1)) (f10p12)
abbrev f10p14 : PC := .seq (.reg f10r7) (f10p13)
abbrev f10p15 : PC := .seq (.reg f10r6) (f10p14)
abbrev f10p16 : PC := .seq (.seq (.reg f10r5) (f10p0)) (f10p15)
def f10r20 : List PG := [.u (.bo 72 .add (.t 16) (.k (.int .i64 1))), .u (.mv 16 (.t 72))]
abbrev f10p17 : PC := .seq (.block 1 (.seq (.reg f10r4) (f10p16))) (.reg f10r20)
abbrev f10p18 : PC := .seq (.cond (.t 17) (.skip) (.exit 0)) (f10p17)
abbrev f10p19 : PC := .seq (.reg f10r3) (f10p18)
abbrev f10p20 : PC := .block 0 (.loop (f10p19))
def f10r21 : List PG := [.u (.ld 73 3 true (.t 7)), .u (.st 3 (.t 6) (.t 73))]
abbrev f10p21 : PC := .seq (.reg f10r21) (.ret)
abbrev f10p22 : PC := .seq (.seq (.reg f10r2) (f10p20)) (f10p21)
abbrev f10p23 : PC := .seq (.reg f10r1) (f10p22)
abbrev f10pc : PC := .seq (.reg f10r0) (f10p23)
def f10k : List Nat := [0, 1, 2, 6, 7, 8, 9, 10, 11, 12, 13, 14, 15, 16, 17, 22, 32, 47, 51, 52, 53, 54, 59]
theorem f10c : Tryd.f10.body.bind (cC te Tryd.f10.ntmps) = some f10pc := by kernel_rfl
set_option maxRecDepth 20000
set_option maxHeartbeats 4000000
set_option linter.unusedSimpArgs false
set_option linter.unusedVariables false

structure WsOk (ws : List (List Wire)) : Prop where
  row : ∀ r ∈ ws, r.length ≤ maxLen
  exp : ∀ r ∈ ws, ∀ w ∈ r, w.exp.length ≤ maxLen
  imp : ∀ r ∈ ws, ∀ w ∈ r, w.imp.length ≤ maxLen
  expR : ∀ r ∈ ws, ∀ w ∈ r, ∀ q ∈ w.exp, 0 ≤ q.to ∧ q.to ≤ 255
  impR : ∀ r ∈ ws, ∀ w ∈ r, ∀ q ∈ w.imp, 0 ≤ q.to ∧ q.to ≤ 255
theorem wires_fnG (o : List Bool) (ho : o.length ≤ maxLen) (st : List Int) (hst : st.length ≤ maxLen) (ws : List (List Wire)) (hws : WsOk ws) : FnG Tryd.prog 10 [.d (.sl 1 (o.map bD)), .d (.sl 1 (st.map fun x => [D.v (.int .i8 x)])), .d (.sl 1 (ws.map wsD))] [] (.ag [.own 27 (wiresV o st ws).origin.length, .own 42 (wiresV o st ws).static.length, .own 70 (wiresV o st ws).edges.length]) [(27, .row 4 1 (wiresV o st ws).origin.length ((wiresV o st ws).origin.map bD)), (42, .row 3 1 (wiresV o st ws).static.length ((wiresV o st ws).static.map iD)), (70, .row 72 1 (wiresV o st ws).edges.length ((wiresV o st ws).edges.map esD))] := by
  have hm : maxLen = 9223372036854775807 := rfl
  refine fnG_of teok Tryd.func10 (by kernel_rfl) f10c f10k [.cell 6 29] rfl (by show 3 ≤ 74; omega) ?_
  repeat' first
  | (with_reducible refine awp_exit_seal (i := 2) [64] ?_)
  | (with_reducible refine awp_mid (f10p12) [(10, .d (.v (.int .i64 (wVia st x.1))))] [] ?_ ?_)
  | (with_reducible refine awp_mid (.reg f10r19) [(11, .d (.sl 4 ((wArcs ws x.1).map Arc.row)))] [] ?_ ?_)
  | (with_reducible refine midQ_of ((Wk_nlD 11 rfl).trans (Wk_sub rfl rfl ?_ ?_)))
  | with_reducible refine awp_seq ?_
  | with_reducible refine awp_block ?_
  | with_reducible refine awp_scope ?_
  | with_reducible refine awp_reg ?_
  | with_reducible refine awp_regD ?_
  | with_reducible refine awp_ret ?_
  | with_reducible refine awp_skip ?_
  | with_reducible refine awp_exit ?_
  | with_reducible refine normQ_of ?_
  | with_reducible refine wkE_of ?_
  | with_reducible refine retG_ret rfl ?_ ?_
  | with_reducible refine retG_nrm rfl ?_ ?_
  | with_reducible refine midQ_of (Wk_sub rfl rfl ?_ ?_)
  | with_reducible refine runD_nil ?_
  | with_reducible refine runD_cons ?_
  | with_reducible refine runF_cons ?_
  | with_reducible refine runF_nil ?_
  | with_reducible refine KF_of ?_
  | with_reducible refine chkQ_of rfl ?_
  | with_reducible refine awp_cond (by simp only [evX, lget, Option.getD_some, reduceIte, Nat.reduceEqDiff]; rfl) (fun hc => ?_) (fun hc => ?_)
  | with_reducible refine CallU_of (f := 27) (arc_fn w (hws.exp _ hrm w hwm) (hws.imp _ hrm w hwm) (hws.expR _ hrm w hwm) (hws.impR _ hrm w hwm)) (by first | exact Or.inr (Or.inl rfl) | exact Or.inl rfl) ?_
  | with_reducible refine CallC_of (f := 27) (fun _ => arc_fn w (hws.exp _ hrm w hwm) (hws.imp _ hrm w hwm) (hws.expR _ hrm w hwm) (hws.impR _ hrm w hwm)) (by first | exact Or.inr (Or.inl rfl) | exact Or.inl rfl) ?_
  | (with_reducible assumption)
  | with_reducible refine fun (hG : okL _) => ?_
  | (with_reducible refine fun (hT : (_ : Bool) = _) => ?_)
  | (with_reducible first | exact hG.2 | exact hG.2.2 | exact hG.2.2.2 | exact hG.2.2.2.2)
  | with_reducible refine okL_mk ?_ ?_
  | with_reducible refine And.intro ?_ ?_
  | (with_reducible refine awp_loopU (b := f10p19) (fun x : Nat × Net => x.1 ≤ o.length ∧ x.1 ≤ 8 ∧ x.2.origin.length = x.1 ∧ x.2.static.length = x.1 ∧ x.2.edges.length = x.1 ∧ wiresGo st ws (o.drop x.1) x.1 x.2 = wiresV o st ws) (fun x => o.length - x.1) (fun x => [(16, .d (.v (.int .i64 x.1)))]) (fun x => [(7, .box [.own 27 x.2.origin.length, .own 42 x.2.static.length, .own 70 x.2.edges.length]), (27, .row 4 1 x.2.origin.length (x.2.origin.map bD)), (42, .row 3 1 x.2.static.length (x.2.static.map iD)), (70, .row 72 1 x.2.edges.length (x.2.edges.map esD))]) ((0, ⟨[], [], []⟩)) (⟨Nat.zero_le _, by decide, rfl, rfl, rfl, rfl⟩) (((Wk_nlB 7 0 27 4 rfl rfl rfl (by decide)).trans (Wk_nlB 7 1 42 3 rfl rfl rfl (by decide))).trans (Wk_nlB 7 2 70 72 rfl rfl rfl (by decide))) (Wk_sub rfl rfl ?_ ?_) (fun x hx => ?_))
  | (refine Exists.elim (at_drop bD o x.1 (Int.ofNat_lt.1 (of_decide_eq_true hc))) (fun b he => ?_); have g1 := he.2.1; replace hc : True := trivial)
  | (refine Exists.elim (at_drop (fun x => [D.v (.int .i8 x)]) st x.1 (Int.ofNat_lt.1 (of_decide_eq_true hc))) (fun v hv => ?_); have g2 := hv.2.1; replace hc : True := trivial)
  | (refine Exists.elim (at_drop wsD ws x.1 (Int.ofNat_lt.1 (of_decide_eq_true hc))) (fun r hr => ?_); have g3 := hr.2.1; have hrm : r ∈ ws := List.mem_of_getElem? hr.2.2.1; replace hc : True := trivial)
  | (with_reducible refine awp_loopU (b := f10p6) (fun y : Nat × List Arc => y.1 ≤ r.length ∧ y.2.length ≤ 5 ∧ (y.1 < 5 → y.2.length ≤ y.1) ∧ arcsGo (r.drop y.1) y.1 y.2 = arcsGo r 0 []) (fun y => r.length - y.1) (fun y => [(53, .d (.v (.int .i64 y.1))), (11, .own 64 y.2.length)]) (fun y => [(64, .row 71 4 y.2.length (y.2.map Arc.row))]) ((0, [])) (⟨Nat.zero_le _, by simp, by simp, rfl⟩) (Wk_nl 11 64 71 rfl rfl (by decide)) (Wk_sub rfl rfl ?_ ?_) (fun y hy => ?_))
  | (refine Exists.elim (at_drop Wire.row r y.1 (Int.ofNat_lt.1 (of_decide_eq_true hc))) (fun w hw => ?_); have g4 := hw.2.1; have hwm : w ∈ r := List.mem_of_getElem? hw.2.2.1; replace hc : True := trivial)
  | (have _q : (_ : Bool) = true := hc; with_reducible refine loopQ_next ((y.1 + 1, y.2 ++ [w.arc])) ?_ ?_ (Wk_sub rfl rfl ?_ ?_))
  | (have _q : (_ : Bool) = false := hc; with_reducible refine loopQ_next ((y.1 + 1, y.2)) ?_ ?_ (Wk_sub rfl rfl ?_ ?_))
  | (with_reducible refine loopQ_next ((x.1 + 1, ⟨x.2.origin ++ [b], x.2.static ++ [wVia st x.1], x.2.edges ++ [wArcs ws x.1]⟩)) ?_ ?_ (Wk_sub rfl rfl ?_ ?_))
  | simp only [f10r0, f10r1, f10r2, f10r3, f10r4, f10r5, f10r6, f10r7, f10r8, f10r9, f10r10, f10r11, f10r12, f10r13, f10r14, f10r15, f10r16, f10r17, f10r18, f10r19, f10r20, f10r21, g4, g3, f10k, te29, List.length_map, List.getElem?_cons_zero, List.getElem?_cons_succ, runG_nil, runG_u, runG_g, runG_ucS, runG_gcS, runG_uvS, stp, avL, avS, evs, evX, lget, lput, strip, putO, PO.dst, updO, okR, cells, splice, AV.cell, toD, toDs, binV, sameK, pickV, guardOf, okL_nil, sides, argsOf, rawOf, dv, dvL, owns, ownsL, flat, flatL, lkeep, seqQ, blockQ, initS, List.drop_succ_cons, List.drop_zero, List.take_succ_cons, List.take_zero, List.getD_cons_zero, List.getD_cons_succ, List.length_cons, List.length_nil, List.set_cons_zero, List.set_cons_succ, List.map_cons, List.map_nil, List.all_cons, List.all_nil, List.elem_cons, List.elem_nil, Option.getD_some, Option.getD_none, Option.bind_some, Option.isNone_none, reduceIte, reduceCtorEq, Nat.reduceEqDiff, Nat.reduceAdd, Nat.reduceLeDiff, Nat.zero_add, Nat.add_zero, Nat.reduceBEq, Bool.and_self, Bool.and_true, Bool.true_and, Bool.or_self, Bool.or_false, Bool.false_or, Bool.or_true, Bool.true_or, true_and, and_true, and_self, implies_true, forall_const, Bool.false_eq_true, id_eq, retQ, resOf, resV, Option.some.injEq, exists_eq_left', AV.d.injEq, D.v.injEq, Value.bool.injEq, imp_self, bldF, bldS, toVals, eqLs, Option.map_some, imp_false, not_true_eq_false, not_false_eq_true, foot, wrs, nm, nmL, PG.reads, PG.dst, PO.reads, X.sl, sls, slB, List.append_nil, List.cons_append, List.nil_append, Option.toList_some, Option.toList_none, loopQ_exit, loopQ_ret, subS, subO, Bool.bne_false, Bool.bne_true, elemsOf, bslD, bslS, mentries, isAgV, asA, lputs, mgetD_set, mcmp_set, mput_set, List.headD_cons, sealS, sealO, sealV, sealL, mput_nil, mcmp_nil, midQ_ret, midQ_exit, sealsS, sealsO, runW_nil, runW_cons, Bool.true_bne, Bool.false_bne, bne_self_eq_false, Int.reduceToNat, bndV, oSl, resR, runS_nil, runS_gc, ren, renL, renO, sg, gBack, scopeQ_normal, scopeQ_ret, scopeQ_exit, lenB, argsN, dvN]
  | simp only [f10r0, f10r1, f10r2, f10r3, f10r4, f10r5, f10r6, f10r7, f10r8, f10r9, f10r10, f10r11, f10r12, f10r13, f10r14, f10r15, f10r16, f10r17, f10r18, f10r19, f10r20, f10r21, g3, f10k, te29, List.length_map, List.getElem?_cons_zero, List.getElem?_cons_succ, runG_nil, runG_u, runG_g, runG_ucS, runG_gcS, runG_uvS, stp, avL, avS, evs, evX, lget, lput, strip, putO, PO.dst, updO, okR, cells, splice, AV.cell, toD, toDs, binV, sameK, pickV, guardOf, okL_nil, sides, argsOf, rawOf, dv, dvL, owns, ownsL, flat, flatL, lkeep, seqQ, blockQ, initS, List.drop_succ_cons, List.drop_zero, List.take_succ_cons, List.take_zero, List.getD_cons_zero, List.getD_cons_succ, List.length_cons, List.length_nil, List.set_cons_zero, List.set_cons_succ, List.map_cons, List.map_nil, List.all_cons, List.all_nil, List.elem_cons, List.elem_nil, Option.getD_some, Option.getD_none, Option.bind_some, Option.isNone_none, reduceIte, reduceCtorEq, Nat.reduceEqDiff, Nat.reduceAdd, Nat.reduceLeDiff, Nat.zero_add, Nat.add_zero, Nat.reduceBEq, Bool.and_self, Bool.and_true, Bool.true_and, Bool.or_self, Bool.or_false, Bool.false_or, Bool.or_true, Bool.true_or, true_and, and_true, and_self, implies_true, forall_const, Bool.false_eq_true, id_eq, retQ, resOf, resV, Option.some.injEq, exists_eq_left', AV.d.injEq, D.v.injEq, Value.bool.injEq, imp_self, bldF, bldS, toVals, eqLs, Option.map_some, imp_false, not_true_eq_false, not_false_eq_true, foot, wrs, nm, nmL, PG.reads, PG.dst, PO.reads, X.sl, sls, slB, List.append_nil, List.cons_append, List.nil_append, Option.toList_some, Option.toList_none, loopQ_exit, loopQ_ret, subS, subO, Bool.bne_false, Bool.bne_true, elemsOf, bslD, bslS, mentries, isAgV, asA, lputs, mgetD_set, mcmp_set, mput_set, List.headD_cons, sealS, sealO, sealV, sealL, mput_nil, mcmp_nil, midQ_ret, midQ_exit, sealsS, sealsO, runW_nil, runW_cons, Bool.true_bne, Bool.false_bne, bne_self_eq_false, Int.reduceToNat, bndV, oSl, resR, runS_nil, runS_gc, ren, renL, renO, sg, gBack, scopeQ_normal, scopeQ_ret, scopeQ_exit, lenB, argsN, dvN]
  | simp only [f10r0, f10r1, f10r2, f10r3, f10r4, f10r5, f10r6, f10r7, f10r8, f10r9, f10r10, f10r11, f10r12, f10r13, f10r14, f10r15, f10r16, f10r17, f10r18, f10r19, f10r20, f10r21, g2, f10k, te29, List.length_map, List.getElem?_cons_zero, List.getElem?_cons_succ, runG_nil, runG_u, runG_g, runG_ucS, runG_gcS, runG_uvS, stp, avL, avS, evs, evX, lget, lput, strip, putO, PO.dst, updO, okR, cells, splice, AV.cell, toD, toDs, binV, sameK, pickV, guardOf, okL_nil, sides, argsOf, rawOf, dv, dvL, owns, ownsL, flat, flatL, lkeep, seqQ, blockQ, initS, List.drop_succ_cons, List.drop_zero, List.take_succ_cons, List.take_zero, List.getD_cons_zero, List.getD_cons_succ, List.length_cons, List.length_nil, List.set_cons_zero, List.set_cons_succ, List.map_cons, List.map_nil, List.all_cons, List.all_nil, List.elem_cons, List.elem_nil, Option.getD_some, Option.getD_none, Option.bind_some, Option.isNone_none, reduceIte, reduceCtorEq, Nat.reduceEqDiff, Nat.reduceAdd, Nat.reduceLeDiff, Nat.zero_add, Nat.add_zero, Nat.reduceBEq, Bool.and_self, Bool.and_true, Bool.true_and, Bool.or_self, Bool.or_false, Bool.false_or, Bool.or_true, Bool.true_or, true_and, and_true, and_self, implies_true, forall_const, Bool.false_eq_true, id_eq, retQ, resOf, resV, Option.some.injEq, exists_eq_left', AV.d.injEq, D.v.injEq, Value.bool.injEq, imp_self, bldF, bldS, toVals, eqLs, Option.map_some, imp_false, not_true_eq_false, not_false_eq_true, foot, wrs, nm, nmL, PG.reads, PG.dst, PO.reads, X.sl, sls, slB, List.append_nil, List.cons_append, List.nil_append, Option.toList_some, Option.toList_none, loopQ_exit, loopQ_ret, subS, subO, Bool.bne_false, Bool.bne_true, elemsOf, bslD, bslS, mentries, isAgV, asA, lputs, mgetD_set, mcmp_set, mput_set, List.headD_cons, sealS, sealO, sealV, sealL, mput_nil, mcmp_nil, midQ_ret, midQ_exit, sealsS, sealsO, runW_nil, runW_cons, Bool.true_bne, Bool.false_bne, bne_self_eq_false, Int.reduceToNat, bndV, oSl, resR, runS_nil, runS_gc, ren, renL, renO, sg, gBack, scopeQ_normal, scopeQ_ret, scopeQ_exit, lenB, argsN, dvN]
  | simp only [f10r0, f10r1, f10r2, f10r3, f10r4, f10r5, f10r6, f10r7, f10r8, f10r9, f10r10, f10r11, f10r12, f10r13, f10r14, f10r15, f10r16, f10r17, f10r18, f10r19, f10r20, f10r21, g1, f10k, te29, List.length_map, List.getElem?_cons_zero, List.getElem?_cons_succ, runG_nil, runG_u, runG_g, runG_ucS, runG_gcS, runG_uvS, stp, avL, avS, evs, evX, lget, lput, strip, putO, PO.dst, updO, okR, cells, splice, AV.cell, toD, toDs, binV, sameK, pickV, guardOf, okL_nil, sides, argsOf, rawOf, dv, dvL, owns, ownsL, flat, flatL, lkeep, seqQ, blockQ, initS, List.drop_succ_cons, List.drop_zero, List.take_succ_cons, List.take_zero, List.getD_cons_zero, List.getD_cons_succ, List.length_cons, List.length_nil, List.set_cons_zero, List.set_cons_succ, List.map_cons, List.map_nil, List.all_cons, List.all_nil, List.elem_cons, List.elem_nil, Option.getD_some, Option.getD_none, Option.bind_some, Option.isNone_none, reduceIte, reduceCtorEq, Nat.reduceEqDiff, Nat.reduceAdd, Nat.reduceLeDiff, Nat.zero_add, Nat.add_zero, Nat.reduceBEq, Bool.and_self, Bool.and_true, Bool.true_and, Bool.or_self, Bool.or_false, Bool.false_or, Bool.or_true, Bool.true_or, true_and, and_true, and_self, implies_true, forall_const, Bool.false_eq_true, id_eq, retQ, resOf, resV, Option.some.injEq, exists_eq_left', AV.d.injEq, D.v.injEq, Value.bool.injEq, imp_self, bldF, bldS, toVals, eqLs, Option.map_some, imp_false, not_true_eq_false, not_false_eq_true, foot, wrs, nm, nmL, PG.reads, PG.dst, PO.reads, X.sl, sls, slB, List.append_nil, List.cons_append, List.nil_append, Option.toList_some, Option.toList_none, loopQ_exit, loopQ_ret, subS, subO, Bool.bne_false, Bool.bne_true, elemsOf, bslD, bslS, mentries, isAgV, asA, lputs, mgetD_set, mcmp_set, mput_set, List.headD_cons, sealS, sealO, sealV, sealL, mput_nil, mcmp_nil, midQ_ret, midQ_exit, sealsS, sealsO, runW_nil, runW_cons, Bool.true_bne, Bool.false_bne, bne_self_eq_false, Int.reduceToNat, bndV, oSl, resR, runS_nil, runS_gc, ren, renL, renO, sg, gBack, scopeQ_normal, scopeQ_ret, scopeQ_exit, lenB, argsN, dvN]
  | simp only [f10r0, f10r1, f10r2, f10r3, f10r4, f10r5, f10r6, f10r7, f10r8, f10r9, f10r10, f10r11, f10r12, f10r13, f10r14, f10r15, f10r16, f10r17, f10r18, f10r19, f10r20, f10r21, f10k, te29, List.length_map, List.getElem?_cons_zero, List.getElem?_cons_succ, runG_nil, runG_u, runG_g, runG_ucS, runG_gcS, runG_uvS, stp, avL, avS, evs, evX, lget, lput, strip, putO, PO.dst, updO, okR, cells, splice, AV.cell, toD, toDs, binV, sameK, pickV, guardOf, okL_nil, sides, argsOf, rawOf, dv, dvL, owns, ownsL, flat, flatL, lkeep, seqQ, blockQ, initS, List.drop_succ_cons, List.drop_zero, List.take_succ_cons, List.take_zero, List.getD_cons_zero, List.getD_cons_succ, List.length_cons, List.length_nil, List.set_cons_zero, List.set_cons_succ, List.map_cons, List.map_nil, List.all_cons, List.all_nil, List.elem_cons, List.elem_nil, Option.getD_some, Option.getD_none, Option.bind_some, Option.isNone_none, reduceIte, reduceCtorEq, Nat.reduceEqDiff, Nat.reduceAdd, Nat.reduceLeDiff, Nat.zero_add, Nat.add_zero, Nat.reduceBEq, Bool.and_self, Bool.and_true, Bool.true_and, Bool.or_self, Bool.or_false, Bool.false_or, Bool.or_true, Bool.true_or, true_and, and_true, and_self, implies_true, forall_const, Bool.false_eq_true, id_eq, retQ, resOf, resV, Option.some.injEq, exists_eq_left', AV.d.injEq, D.v.injEq, Value.bool.injEq, imp_self, bldF, bldS, toVals, eqLs, Option.map_some, imp_false, not_true_eq_false, not_false_eq_true, foot, wrs, nm, nmL, PG.reads, PG.dst, PO.reads, X.sl, sls, slB, List.append_nil, List.cons_append, List.nil_append, Option.toList_some, Option.toList_none, loopQ_exit, loopQ_ret, subS, subO, Bool.bne_false, Bool.bne_true, elemsOf, bslD, bslS, mentries, isAgV, asA, lputs, mgetD_set, mcmp_set, mput_set, List.headD_cons, sealS, sealO, sealV, sealL, mput_nil, mcmp_nil, midQ_ret, midQ_exit, sealsS, sealsO, runW_nil, runW_cons, Bool.true_bne, Bool.false_bne, bne_self_eq_false, Int.reduceToNat, bndV, oSl, resR, runS_nil, runS_gc, ren, renL, renO, sg, gBack, scopeQ_normal, scopeQ_ret, scopeQ_exit, lenB, argsN, dvN]
  all_goals try first
    | omega
    | (with_reducible rfl)
    | (show Value.int _ 0 = _; rfl)
    | (simp only [List.length_append, List.length_cons, List.length_nil]; omega)
    | (simp only [List.length_append, List.length_cons, List.length_nil, List.map_append, List.map_cons, List.map_nil]; done)
    | exact count64 hw.2.2.2 (hws.row _ hrm)
    | exact count64 he.2.2.2 (by omega)
    | (have h0 := of_decide_eq_true hc; have h1 := hy.2.2.1 (by omega); simp; omega)
    | (have h0 := of_decide_eq_false hc; intro q; omega)
    | (have h0 := of_decide_eq_true hc; have h1 := hy.2.2.2; rw [hw.1, arcsGo, if_pos (by omega)] at h1; exact h1)
    | (have h0 := of_decide_eq_false hc; have h1 := hy.2.2.2; rw [hw.1, arcsGo, if_neg (by omega)] at h1; exact h1)
    | (have h0 := of_decide_eq_false hc; have h1 := hy.2.2.2; rw [List.drop_eq_nil_of_le (by omega), arcsGo] at h1
       have h2 : wArcs ws x.1 = y.2 := by rw [h1, wArcs, if_pos hr.2.2.2]; simp [List.getD, hr.2.2.1]
       rw [h2]; done)
    | (have h0 := of_decide_eq_false hc; have h2 : wArcs ws x.1 = [] := by rw [wArcs, if_neg (by omega)]
       rw [h2]; rfl)
    | (have h0 := of_decide_eq_false hc; rw [wVia, if_neg (by omega)]; done)
    | (have h2 : wVia st x.1 = IntKind.i64.wrap v := by rw [wVia, if_pos hv.2.2.2]; simp [List.getD, hv.2.2.1]
       rw [h2]; done)
    | (have h2 : x.1 ≠ 8 := by rintro h3; simp [h3] at hc
       omega)
    | (have h2 : x.1 ≠ 8 := by rintro h3; simp [h3] at hc
       have h1 := hx.2.2.2.2.2; rw [he.1, wiresGo, if_neg h2] at h1; exact h1)
    | (have h2 : x.1 = 8 := by simp at hc; omega
       have h1 := hx.2.2.2.2.2; rw [he.1, wiresGo, if_pos h2] at h1; rw [h1]; done)
    | (have h0 := of_decide_eq_false hc; have h1 := hx.2.2.2.2.2; rw [List.drop_eq_nil_of_le (by omega), wiresGo] at h1; rw [h1]; done)
    | (simp only [← hx.2.2.2.2.2]; done)
  all_goals trace_state
end Go.Proofs.YtipekfhpcjcabaaDoor

