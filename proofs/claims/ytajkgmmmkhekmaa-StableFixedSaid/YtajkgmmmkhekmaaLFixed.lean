/- The law StableFixed: whatever the input, it returns true and changes nothing. Printed by a program of this project (wip/mq). -/
import Derived.Test.YtajkgmmmkhekmaaNetF
import Derived.Test.YtajkgmmmkhekmaaMqPl10
import Derived.Test.YtajkgmmmkhekmaaSome
import Derived.Test.YtajkgmmmkhekmaaAwk15
import Derived.Test.YtajkgmmmkhekmaaArgs
import Derived.Test.YtajkgmmmkhekmaaSame
namespace Go.Proofs.Ytajkgmmmkhekmaa
open Go Mq Go.ChangeShapes Go.WideShapes Go.ChangeAt Go.RowKit
/-! maquette/maquettelaw15.StableFixed -/
def f5r0 : List PG := [.u (.bx 4 (.t 0)), .u (.mv 8 (.k (.bool false)))]
def f5r1 : List PG := [.uc 18 13 [], .u (.no 19 (.t 18))]
def f5r2 : List PG := [.u (.mv 8 (.k (.bool false)))]
abbrev f5p0 : PC := .seq (.reg f5r2) (.ret)
abbrev f5p1 : PC := .cond (.t 19) (f5p0) (.skip)
def f5r3 : List PG := [.u (.ld 21 6 true (.t 4)), .u (.mv 22 (.t 1)), .uc 23 14 [.t 21, .t 22], .u (.mv 20 (.t 23)), .u (.ext 24 (.t 20) 0), .u (.ext 25 (.t 20) 1), .u (.ext 26 (.t 20) 2), .u (.al 9 [.nl 1, .nl 1, .nl 1]), .u (.al 10 [.d (.v (.int .u32 0)), .d (.v (.int .i64 0))]), .u (.st 3 (.t 9) (.t 24)), .u (.st 2 (.t 10) (.t 25)), .u (.mv 11 (.t 26))]
def f5r4 : List PG := [.u (.mv 27 (.t 11)), .u (.no 28 (.t 27))]
def f5r5 : List PG := [.u (.mv 8 (.k (.bool true)))]
abbrev f5p2 : PC := .seq (.reg f5r5) (.ret)
abbrev f5p3 : PC := .cond (.t 28) (f5p2) (.skip)
def f5r6 : List PG := [.u (.mv 29 (.t 2)), .u (.fa 30 0 (.t 9)), .u (.ld 31 1 false (.t 30)), .u (.len 32 (.t 31)), .uc 33 15 [.t 29, .t 32], .u (.mv 34 (.t 3)), .u (.fa 35 0 (.t 9)), .u (.ld 36 1 false (.t 35)), .u (.len 37 (.t 36)), .uc 38 15 [.t 34, .t 37], .u (.mv 12 (.t 33)), .u (.mv 13 (.t 38))]
def f5r7 : List PG := [.u (.mv 39 (.t 12)), .u (.len 40 (.t 39)), .u (.mv 41 (.k (.int .i64 0)))]
def f5r8 : List PG := [.u (.bo 42 .lss (.t 41) (.t 40))]
def f5r9 : List PG := [.u (.mv 43 (.t 41)), .u (.mv 14 (.t 43))]
def f5r10 : List PG := [.u (.mv 44 (.t 13)), .u (.app 45 45 4 32 (.nl 4) (.t 44)), .u (.mv 15 (.t 45))]
def f5r11 : List PG := [.u (.fa 46 2 (.t 9)), .u (.ld 47 1 false (.t 46)), .u (.mv 48 (.t 14)), .u (.ia 49 1 (.t 47) (.t 48)), .u (.ld 50 1 false (.t 49)), .u (.len 51 (.t 50)), .u (.mv 52 (.k (.int .i64 0)))]
def f5r12 : List PG := [.u (.bo 53 .lss (.t 52) (.t 51))]
def f5r13 : List PG := [.u (.ia 54 4 (.t 50) (.t 52)), .u (.ld 55 4 true (.t 54)), .u (.al 17 [.d (.v (.int .i64 0)), .d (.v (.int .i64 0)), .nl 10, .nl 10]), .u (.st 4 (.t 17) (.t 55))]
def f5r14 : List PG := [.u (.mv 56 (.t 15)), .u (.fa 57 0 (.t 17)), .u (.ld 58 1 false (.t 57)), .u (.mv 59 (.t 12)), .u (.fa 60 0 (.t 17)), .u (.ld 61 1 false (.t 60)), .u (.ia 62 4 (.t 59) (.t 61)), .u (.ld 63 4 true (.t 62)), .u (.ia 64 4 (.t 56) (.t 58)), .u (.st 4 (.t 64) (.t 63))]
def f5r15 : List PG := [.u (.bo 65 .add (.t 52) (.k (.int .i64 1))), .u (.mv 52 (.t 65))]
abbrev f5p4 : PC := .seq (.block 3 (.seq (.reg f5r13) (.regD f5r14 []))) (.reg f5r15)
abbrev f5p5 : PC := .seq (.cond (.t 53) (.skip) (.exit 2)) (f5p4)
abbrev f5p6 : PC := .seq (.reg f5r12) (f5p5)
abbrev f5p7 : PC := .block 2 (.loop (f5p6))
def f5r16 : List PG := [.u (.ld 66 3 true (.t 9)), .u (.mv 67 (.t 15)), .u (.mv 68 (.t 14)), .uc 69 21 [.t 66, .t 67, .t 68], .u (.ld 70 3 true (.t 9)), .u (.mv 71 (.t 12)), .u (.mv 72 (.t 14)), .uc 73 21 [.t 70, .t 71, .t 72], .uc 74 20 [.t 69, .t 73], .u (.no 75 (.t 74)), .u (.mv 76 (.t 75)), .g 76 false (.ld 77 3 true (.t 9)), .g 76 false (.mv 78 (.t 14)), .gc 76 false 79 18 [.t 77, .t 78], .g 76 false (.mv 80 (.t 79)), .g 80 true (.ld 81 3 true (.t 9)), .g 80 true (.mv 82 (.t 13)), .g 80 true (.mv 83 (.t 14)), .gc 80 true 84 21 [.t 81, .t 82, .t 83], .gc 80 true 85 25 [], .g 80 true (.beqs 86 true [.b, .i, .i, .i] (.t 84) (.t 85)), .g 76 false (.pick 87 (.t 80) (.t 86) (.k (.bool false))), .u (.pick 88 (.t 76) (.k (.bool true)) (.t 87))]
def f5r17 : List PG := [.u (.mv 8 (.k (.bool false)))]
abbrev f5p8 : PC := .seq (.reg f5r17) (.ret)
abbrev f5p9 : PC := .cond (.t 88) (f5p8) (.skip)
abbrev f5p10 : PC := .seq (.regD f5r16 []) (f5p9)
abbrev f5p11 : PC := .seq (.seq (.reg f5r11) (f5p7)) (f5p10)
abbrev f5p12 : PC := .seq (.reg f5r10) (f5p11)
def f5r18 : List PG := [.u (.bo 89 .add (.t 41) (.k (.int .i64 1))), .u (.mv 41 (.t 89))]
abbrev f5p13 : PC := .seq (.block 1 (.seq (.reg f5r9) (f5p12))) (.reg f5r18)
abbrev f5p14 : PC := .seq (.cond (.t 42) (.skip) (.exit 0)) (f5p13)
abbrev f5p15 : PC := .seq (.reg f5r8) (f5p14)
abbrev f5p16 : PC := .block 0 (.loop (f5p15))
def f5r19 : List PG := [.u (.mv 8 (.k (.bool true)))]
abbrev f5p17 : PC := .seq (.reg f5r19) (.ret)
abbrev f5p18 : PC := .seq (.seq (.reg f5r7) (f5p16)) (f5p17)
abbrev f5p19 : PC := .seq (.regD f5r6 []) (f5p18)
abbrev f5p20 : PC := .seq (.seq (.reg f5r4) (f5p3)) (f5p19)
abbrev f5p21 : PC := .seq (.reg f5r3) (f5p20)
abbrev f5p22 : PC := .seq (.seq (.reg f5r1) (f5p1)) (f5p21)
abbrev f5pc : PC := .seq (.reg f5r0) (f5p22)
def f5k : List Nat := [0, 1, 2, 3, 4, 8, 9, 11, 12, 13, 14, 15, 17, 19, 28, 40, 41, 42, 50, 51, 52, 53, 88]
theorem f5c : Try.f5.body.bind (cC te Try.f5.ntmps) = some f5pc := by kernel_rfl
set_option maxRecDepth 20000
set_option maxHeartbeats 4000000
set_option linter.unusedSimpArgs false
set_option linter.unusedVariables false

theorem stableFixed_none (sh : Shape) (hs : sh.ok) (w : Int) (hw : 0 ≤ w ∧ w ≤ 255)(ns ms : List Int) (hx : sh.netV w = none) : FnS Try.prog 5 [sh.av, .d (.v (.int .u8 w)), .d (.sl 1 (ns.map wD)), .d (.sl 1 (ms.map wD))] (.d (.v (.bool true))) := by
  have hN := netOfF_fn sh hs w hw
  rw [hx] at hN
  simp only [netA] at hN
  refine fn_of teok Try.func5 (by kernel_rfl) f5c f5k [.tmp 8] rfl (by show 4 ≤ 90; omega) ?_
  repeat' first
  | (exact absurd hc (by decide))
  | with_reducible refine awp_seq ?_
  | with_reducible refine awp_block ?_
  | with_reducible refine awp_reg ?_
  | with_reducible refine awp_regD ?_
  | with_reducible refine awp_ret ?_
  | with_reducible refine awp_skip ?_
  | with_reducible refine awp_exit ?_
  | with_reducible refine normQ_of ?_
  | with_reducible refine wkE_of ?_
  | with_reducible refine midQ_of (Wk_sub rfl rfl ?_ ?_)
  | with_reducible refine runD_nil ?_
  | with_reducible refine runD_cons ?_
  | with_reducible refine runF_cons ?_
  | with_reducible refine runF_nil ?_
  | with_reducible refine KF_of ?_
  | with_reducible refine chkQ_of rfl ?_
  | with_reducible refine awp_cond (by simp only [evX, lget, Option.getD_some, reduceIte, Nat.reduceEqDiff]; rfl) (fun hc => ?_) (fun hc => ?_)
  | with_reducible refine CallU_of (f := 13) (awake15_fn) (by first | exact Or.inr (Or.inl rfl) | exact Or.inl rfl) ?_
  | with_reducible refine CallC_of (f := 13) (fun _ => awake15_fn) (by first | exact Or.inr (Or.inl rfl) | exact Or.inl rfl) ?_
  | with_reducible refine CallU_of (f := 14) (hN) (by first | exact Or.inr (Or.inl rfl) | exact Or.inl rfl) ?_
  | with_reducible refine CallC_of (f := 14) (fun _ => hN) (by first | exact Or.inr (Or.inl rfl) | exact Or.inl rfl) ?_
  | (with_reducible assumption)
  | with_reducible refine fun (hG : okL _) => ?_
  | (with_reducible refine fun (hT : (_ : Bool) = _) => ?_)
  | (with_reducible first | exact hG.2 | exact hG.2.2 | exact hG.2.2.2 | exact hG.2.2.2.2)
  | with_reducible refine okL_mk ?_ ?_
  | with_reducible refine And.intro ?_ ?_
  | simp only [f5r0, f5r1, f5r2, f5r3, f5r4, f5r5, f5r6, f5r7, f5r8, f5r9, f5r10, f5r11, f5r12, f5r13, f5r14, f5r15, f5r16, f5r17, f5r18, f5r19, f5k, te33, te36, te25, List.getElem?_cons_zero, List.getElem?_cons_succ, runG_nil, runG_u, runG_g, runG_ucS, runG_gcS, runG_uvS, stp, avL, avS, evs, evX, lget, lput, strip, putO, PO.dst, updO, okR, cells, splice, AV.cell, toD, toDs, binV, sameK, pickV, guardOf, okL_nil, sides, argsOf, rawOf, dv, dvL, owns, ownsL, flat, flatL, lkeep, seqQ, blockQ, initS, List.drop_succ_cons, List.drop_zero, List.take_succ_cons, List.take_zero, List.getD_cons_zero, List.getD_cons_succ, List.length_cons, List.length_nil, List.set_cons_zero, List.set_cons_succ, List.map_cons, List.map_nil, List.all_cons, List.all_nil, List.elem_cons, List.elem_nil, Option.getD_some, Option.getD_none, Option.bind_some, Option.isNone_none, reduceIte, reduceCtorEq, Nat.reduceEqDiff, Nat.reduceAdd, Nat.reduceLeDiff, Nat.zero_add, Nat.add_zero, Nat.reduceBEq, Bool.and_self, Bool.and_true, Bool.true_and, Bool.or_self, Bool.or_false, Bool.false_or, Bool.or_true, Bool.true_or, true_and, and_true, and_self, implies_true, forall_const, Bool.false_eq_true, id_eq, retQ, resOf, resV, Option.some.injEq, exists_eq_left', AV.d.injEq, D.v.injEq, Value.bool.injEq, imp_self, bldF, bldS, toVals, eqLs, Option.map_some, imp_false, not_true_eq_false, not_false_eq_true, foot, wrs, nm, nmL, PG.reads, PG.dst, PO.reads, X.sl, sls, slB, List.append_nil, List.cons_append, List.nil_append, Option.toList_some, Option.toList_none, loopQ_exit, loopQ_ret, subS, subO, Bool.bne_false, Bool.bne_true, elemsOf, bslD, bslS, mentries, isAgV, asA, lputs, mgetD_set, mcmp_set, mput_set, List.headD_cons, sealS, sealO, sealV, sealL, mput_nil, mcmp_nil, midQ_ret, midQ_exit, sealsS, sealsO, runW_nil, runW_cons, Bool.true_bne, Bool.false_bne, bne_self_eq_false, Int.reduceToNat, bndV, oSl, resR, runS_nil, runS_gc, ren, renL, renO, sg, gBack]
  all_goals first
    | rfl
    | decide
    | trace_state
theorem stableFixed_some (sh : Shape) (hs : sh.ok) (w : Int) (hw : 0 ≤ w ∧ w ≤ 255)(ns ms : List Int) (n : Net) (p : Int × Int) (hx : sh.netV w = some (n, p)) (hns : B16 ns) (hms : B16 ms) : FnS Try.prog 5 [sh.av, .d (.v (.int .u8 w)), .d (.sl 1 (ns.map wD)), .d (.sl 1 (ms.map wD))] (.d (.v (.bool true))) := by
  have hm : maxLen = 9223372036854775807 := rfl
  have hN := netOfF_fn sh hs w hw
  rw [hx] at hN
  simp only [netA] at hN
  obtain ⟨hsm, hmay, m, hnl, hn0⟩ := net_facts hx
  simp only at hsm hmay m hnl hn0
  have hS := some_fn ns hns n.origin.length (by omega)
  have hS2 := some_fn ms hms n.origin.length (by omega)
  have hll := someV_len ns n.origin.length
  have hml := someV_len ms n.origin.length
  generalize someV ns n.origin.length = l at hS hll
  generalize someV ms n.origin.length = ml at hS2 hml
  have hel := m.edges
  refine fn_of teok Try.func5 (by kernel_rfl) f5c f5k [.tmp 8] rfl (by show 4 ≤ 90; omega) ?_
  repeat' first
  | (exact absurd hc (by decide))
  | with_reducible refine awp_seq ?_
  | with_reducible refine awp_block ?_
  | with_reducible refine awp_reg ?_
  | with_reducible refine awp_regD ?_
  | with_reducible refine awp_ret ?_
  | with_reducible refine awp_skip ?_
  | with_reducible refine awp_exit ?_
  | with_reducible refine normQ_of ?_
  | with_reducible refine wkE_of ?_
  | with_reducible refine midQ_of (Wk_sub rfl rfl ?_ ?_)
  | with_reducible refine runD_nil ?_
  | with_reducible refine runD_cons ?_
  | with_reducible refine runF_cons ?_
  | with_reducible refine runF_nil ?_
  | with_reducible refine KF_of ?_
  | with_reducible refine chkQ_of rfl ?_
  | with_reducible refine awp_cond (by simp only [evX, lget, Option.getD_some, reduceIte, Nat.reduceEqDiff]; rfl) (fun hc => ?_) (fun hc => ?_)
  | with_reducible refine CallU_of (f := 13) (awake15_fn) (by first | exact Or.inr (Or.inl rfl) | exact Or.inl rfl) ?_
  | with_reducible refine CallC_of (f := 13) (fun _ => awake15_fn) (by first | exact Or.inr (Or.inl rfl) | exact Or.inl rfl) ?_
  | with_reducible refine CallU_of (f := 14) (hN) (by first | exact Or.inr (Or.inl rfl) | exact Or.inl rfl) ?_
  | with_reducible refine CallC_of (f := 14) (fun _ => hN) (by first | exact Or.inr (Or.inl rfl) | exact Or.inl rfl) ?_
  | with_reducible refine CallU_of (f := 15) (hS) (by first | exact Or.inr (Or.inl rfl) | exact Or.inl rfl) ?_
  | with_reducible refine CallC_of (f := 15) (fun _ => hS) (by first | exact Or.inr (Or.inl rfl) | exact Or.inl rfl) ?_
  | with_reducible refine CallU_of (f := 15) (hS2) (by first | exact Or.inr (Or.inl rfl) | exact Or.inl rfl) ?_
  | with_reducible refine CallC_of (f := 15) (fun _ => hS2) (by first | exact Or.inr (Or.inl rfl) | exact Or.inl rfl) ?_
  | with_reducible refine CallU_of (f := 21) (choice_fn n hsm y.2 (by omega) x.1) (by first | exact Or.inr (Or.inl rfl) | exact Or.inl rfl) ?_
  | with_reducible refine CallC_of (f := 21) (fun _ => choice_fn n hsm y.2 (by omega) x.1) (by first | exact Or.inr (Or.inl rfl) | exact Or.inl rfl) ?_
  | with_reducible refine CallU_of (f := 21) (choice_fn n hsm l (by omega) x.1) (by first | exact Or.inr (Or.inl rfl) | exact Or.inl rfl) ?_
  | with_reducible refine CallC_of (f := 21) (fun _ => choice_fn n hsm l (by omega) x.1) (by first | exact Or.inr (Or.inl rfl) | exact Or.inl rfl) ?_
  | with_reducible refine CallU_of (f := 21) (choice_fn n hsm ml (by omega) x.1) (by first | exact Or.inr (Or.inl rfl) | exact Or.inl rfl) ?_
  | with_reducible refine CallC_of (f := 21) (fun _ => choice_fn n hsm ml (by omega) x.1) (by first | exact Or.inr (Or.inl rfl) | exact Or.inl rfl) ?_
  | with_reducible refine CallU_of (f := 18) (fixed_fn n x.1) (by first | exact Or.inr (Or.inl rfl) | exact Or.inl rfl) ?_
  | with_reducible refine CallC_of (f := 18) (fun _ => fixed_fn n x.1) (by first | exact Or.inr (Or.inl rfl) | exact Or.inl rfl) ?_
  | with_reducible refine CallU_of (f := 25) (origin_fn) (by first | exact Or.inr (Or.inl rfl) | exact Or.inl rfl) ?_
  | with_reducible refine CallC_of (f := 25) (fun _ => origin_fn) (by first | exact Or.inr (Or.inl rfl) | exact Or.inl rfl) ?_
  | with_reducible refine CallU_of (f := 20) (same_fn4 (n.choice y.2 x.1) (n.choice l x.1)) (by first | exact Or.inr (Or.inl rfl) | exact Or.inl rfl) ?_
  | with_reducible refine CallC_of (f := 20) (fun _ => same_fn4 (n.choice y.2 x.1) (n.choice l x.1)) (by first | exact Or.inr (Or.inl rfl) | exact Or.inl rfl) ?_
  | (with_reducible assumption)
  | with_reducible refine fun (hG : okL _) => ?_
  | (with_reducible refine fun (hT : (_ : Bool) = _) => ?_)
  | (with_reducible first | exact hG.2 | exact hG.2.2 | exact hG.2.2.2 | exact hG.2.2.2.2)
  | with_reducible refine okL_mk ?_ ?_
  | with_reducible refine And.intro ?_ ?_
  | (with_reducible refine awp_loopU (b := f5p15) (fun x : Nat × Unit => x.1 ≤ n.origin.length) (fun x => n.origin.length - x.1) (fun x => [(41, .d (.v (.int .i64 x.1)))]) (fun x => []) ((0, ())) (Nat.zero_le _) (Wk.refl _ _) (Wk_sub rfl rfl ?_ ?_) (fun x hx => ?_))
  | (refine Exists.elim (at_drop esD n.edges x.1 (by have := Int.ofNat_lt.1 (of_decide_eq_true (show decide ((x.1 : Int) < n.origin.length) = true from hc)); omega)) (fun es he => ?_); have g1 := he.2.1; have hrow := hsm.row es (List.mem_of_getElem? he.2.2.1); replace hc : True := trivial)
  | (with_reducible refine awp_loopU (b := f5p6) (fun y : Nat × List Attr => y.1 ≤ es.length ∧ y.2.length = n.origin.length ∧ nearGo l (es.drop y.1) y.2 = nearGo l es ml) (fun y => es.length - y.1) (fun y => [(52, .d (.v (.int .i64 y.1)))]) (fun y => [(45, .row 45 4 0 (y.2.map Attr.row))]) ((0, ml)) (⟨Nat.zero_le _, hml, rfl⟩) (Wk.refl _ _) (Wk_sub rfl rfl ?_ ?_) (fun y hy => ?_))
  | (refine Exists.elim (at_drop Arc.row es y.1 (Int.ofNat_lt.1 (of_decide_eq_true (show decide ((y.1 : Int) < es.length) = true from hc)))) (fun e hq => ?_); have hs := m.src _ _ he.2.2.1 e (List.mem_of_getElem? hq.2.2.1); have g4 := hq.2.1; have g5 := at_int Attr.row l default hs.1 (by omega); have g7 := at_int Attr.row y.2 default hs.1 (by omega); replace hc : True := trivial)
  | (with_reducible refine loopQ_next (y.1 + 1, y.2.set e.src.toNat (l.getD e.src.toNat default)) ?_ ?_ (Wk_sub rfl rfl ?_ ?_))
  | (with_reducible refine loopQ_next ((x.1 + 1, ())) ?_ ?_ (Wk_sub rfl rfl ?_ ?_))
  | simp only [f5r0, f5r1, f5r2, f5r3, f5r4, f5r5, f5r6, f5r7, f5r8, f5r9, f5r10, f5r11, f5r12, f5r13, f5r14, f5r15, f5r16, f5r17, f5r18, f5r19, g7, g5, g4, g1, f5k, te33, te36, te25, List.length_map, List.getElem?_cons_zero, List.getElem?_cons_succ, hll, hml, runG_nil, runG_u, runG_g, runG_ucS, runG_gcS, runG_uvS, stp, avL, avS, evs, evX, lget, lput, strip, putO, PO.dst, updO, okR, cells, splice, AV.cell, toD, toDs, binV, sameK, pickV, guardOf, okL_nil, sides, argsOf, rawOf, dv, dvL, owns, ownsL, flat, flatL, lkeep, seqQ, blockQ, initS, List.drop_succ_cons, List.drop_zero, List.take_succ_cons, List.take_zero, List.getD_cons_zero, List.getD_cons_succ, List.length_cons, List.length_nil, List.set_cons_zero, List.set_cons_succ, List.map_cons, List.map_nil, List.all_cons, List.all_nil, List.elem_cons, List.elem_nil, Option.getD_some, Option.getD_none, Option.bind_some, Option.isNone_none, reduceIte, reduceCtorEq, Nat.reduceEqDiff, Nat.reduceAdd, Nat.reduceLeDiff, Nat.zero_add, Nat.add_zero, Nat.reduceBEq, Bool.and_self, Bool.and_true, Bool.true_and, Bool.or_self, Bool.or_false, Bool.false_or, Bool.or_true, Bool.true_or, true_and, and_true, and_self, implies_true, forall_const, Bool.false_eq_true, id_eq, retQ, resOf, resV, Option.some.injEq, exists_eq_left', AV.d.injEq, D.v.injEq, Value.bool.injEq, imp_self, bldF, bldS, toVals, eqLs, Option.map_some, imp_false, not_true_eq_false, not_false_eq_true, foot, wrs, nm, nmL, PG.reads, PG.dst, PO.reads, X.sl, sls, slB, List.append_nil, List.cons_append, List.nil_append, Option.toList_some, Option.toList_none, loopQ_exit, loopQ_ret, subS, subO, Bool.bne_false, Bool.bne_true, elemsOf, bslD, bslS, mentries, isAgV, asA, lputs, mgetD_set, mcmp_set, mput_set, List.headD_cons, sealS, sealO, sealV, sealL, mput_nil, mcmp_nil, midQ_ret, midQ_exit, sealsS, sealsO, runW_nil, runW_cons, Bool.true_bne, Bool.false_bne, bne_self_eq_false, Int.reduceToNat, bndV, oSl, resR, runS_nil, runS_gc, ren, renL, renO, sg, gBack]
  | simp only [f5r0, f5r1, f5r2, f5r3, f5r4, f5r5, f5r6, f5r7, f5r8, f5r9, f5r10, f5r11, f5r12, f5r13, f5r14, f5r15, f5r16, f5r17, f5r18, f5r19, g1, f5k, te33, te36, te25, List.length_map, List.getElem?_cons_zero, List.getElem?_cons_succ, hll, hml, runG_nil, runG_u, runG_g, runG_ucS, runG_gcS, runG_uvS, stp, avL, avS, evs, evX, lget, lput, strip, putO, PO.dst, updO, okR, cells, splice, AV.cell, toD, toDs, binV, sameK, pickV, guardOf, okL_nil, sides, argsOf, rawOf, dv, dvL, owns, ownsL, flat, flatL, lkeep, seqQ, blockQ, initS, List.drop_succ_cons, List.drop_zero, List.take_succ_cons, List.take_zero, List.getD_cons_zero, List.getD_cons_succ, List.length_cons, List.length_nil, List.set_cons_zero, List.set_cons_succ, List.map_cons, List.map_nil, List.all_cons, List.all_nil, List.elem_cons, List.elem_nil, Option.getD_some, Option.getD_none, Option.bind_some, Option.isNone_none, reduceIte, reduceCtorEq, Nat.reduceEqDiff, Nat.reduceAdd, Nat.reduceLeDiff, Nat.zero_add, Nat.add_zero, Nat.reduceBEq, Bool.and_self, Bool.and_true, Bool.true_and, Bool.or_self, Bool.or_false, Bool.false_or, Bool.or_true, Bool.true_or, true_and, and_true, and_self, implies_true, forall_const, Bool.false_eq_true, id_eq, retQ, resOf, resV, Option.some.injEq, exists_eq_left', AV.d.injEq, D.v.injEq, Value.bool.injEq, imp_self, bldF, bldS, toVals, eqLs, Option.map_some, imp_false, not_true_eq_false, not_false_eq_true, foot, wrs, nm, nmL, PG.reads, PG.dst, PO.reads, X.sl, sls, slB, List.append_nil, List.cons_append, List.nil_append, Option.toList_some, Option.toList_none, loopQ_exit, loopQ_ret, subS, subO, Bool.bne_false, Bool.bne_true, elemsOf, bslD, bslS, mentries, isAgV, asA, lputs, mgetD_set, mcmp_set, mput_set, List.headD_cons, sealS, sealO, sealV, sealL, mput_nil, mcmp_nil, midQ_ret, midQ_exit, sealsS, sealsO, runW_nil, runW_cons, Bool.true_bne, Bool.false_bne, bne_self_eq_false, Int.reduceToNat, bndV, oSl, resR, runS_nil, runS_gc, ren, renL, renO, sg, gBack]
  | simp only [f5r0, f5r1, f5r2, f5r3, f5r4, f5r5, f5r6, f5r7, f5r8, f5r9, f5r10, f5r11, f5r12, f5r13, f5r14, f5r15, f5r16, f5r17, f5r18, f5r19, f5k, te33, te36, te25, List.length_map, List.getElem?_cons_zero, List.getElem?_cons_succ, hll, hml, runG_nil, runG_u, runG_g, runG_ucS, runG_gcS, runG_uvS, stp, avL, avS, evs, evX, lget, lput, strip, putO, PO.dst, updO, okR, cells, splice, AV.cell, toD, toDs, binV, sameK, pickV, guardOf, okL_nil, sides, argsOf, rawOf, dv, dvL, owns, ownsL, flat, flatL, lkeep, seqQ, blockQ, initS, List.drop_succ_cons, List.drop_zero, List.take_succ_cons, List.take_zero, List.getD_cons_zero, List.getD_cons_succ, List.length_cons, List.length_nil, List.set_cons_zero, List.set_cons_succ, List.map_cons, List.map_nil, List.all_cons, List.all_nil, List.elem_cons, List.elem_nil, Option.getD_some, Option.getD_none, Option.bind_some, Option.isNone_none, reduceIte, reduceCtorEq, Nat.reduceEqDiff, Nat.reduceAdd, Nat.reduceLeDiff, Nat.zero_add, Nat.add_zero, Nat.reduceBEq, Bool.and_self, Bool.and_true, Bool.true_and, Bool.or_self, Bool.or_false, Bool.false_or, Bool.or_true, Bool.true_or, true_and, and_true, and_self, implies_true, forall_const, Bool.false_eq_true, id_eq, retQ, resOf, resV, Option.some.injEq, exists_eq_left', AV.d.injEq, D.v.injEq, Value.bool.injEq, imp_self, bldF, bldS, toVals, eqLs, Option.map_some, imp_false, not_true_eq_false, not_false_eq_true, foot, wrs, nm, nmL, PG.reads, PG.dst, PO.reads, X.sl, sls, slB, List.append_nil, List.cons_append, List.nil_append, Option.toList_some, Option.toList_none, loopQ_exit, loopQ_ret, subS, subO, Bool.bne_false, Bool.bne_true, elemsOf, bslD, bslS, mentries, isAgV, asA, lputs, mgetD_set, mcmp_set, mput_set, List.headD_cons, sealS, sealO, sealV, sealL, mput_nil, mcmp_nil, midQ_ret, midQ_exit, sealsS, sealsO, runW_nil, runW_cons, Bool.true_bne, Bool.false_bne, bne_self_eq_false, Int.reduceToNat, bndV, oSl, resR, runS_nil, runS_gc, ren, renL, renO, sg, gBack]
  all_goals try first
    | omega
    | (with_reducible rfl)
    | (show Value.int _ 0 = _; rfl)
    | (simp only [List.length_append, List.length_cons, List.length_nil]; omega)
    | (simp only [List.length_append, List.length_cons, List.length_nil, List.map_append, List.map_cons, List.map_nil]; done)
    | exact count64 hq.2.2.2 (by omega)
    | exact count64 (n := n.origin.length) (by have := he.2.2.2; omega) (by omega)
    | (simp only [List.length_set]; omega)
    | (simp only [List.length_map]; omega)
    | exact some_set _ _ _
    | (have h1 := hy.2.2; rw [hq.1, nearGo] at h1; exact h1)
    | (have h0 := of_decide_eq_false ‹decide ((y.1 : Int) < (es.length : Int)) = false›; have h1 := hy.2.2; rw [List.drop_eq_nil_of_le (by omega), nearGo] at h1
       have h2 := near_choice m (l := l) (x := ml) (by omega) he.2.2.1
       rw [← h1] at h2; rw [h2, sameA_refl] at hc
       exfalso; simp [Net.choice] at hc
       try (obtain ⟨h3, h4⟩ := hc; simp [h3, origA] at h4); done)
  all_goals trace_state

theorem stableFixed_as (av : List AV) (h : dArgs te 8 [25, 5, 26, 26] av) : FnS Try.prog 5 av (.d (.v (.bool true))) := by
  obtain ⟨x, _, rfl, hx, y, _, rfl, hy, z, _, rfl, hz, u, _, rfl, hu, rfl⟩ := h
  obtain ⟨sh, rfl, hs⟩ := shape_of (n := 3) hx
  obtain ⟨w, rfl, hw⟩ := u8_row (n := 7) hy
  obtain ⟨ns, rfl, hns⟩ := u16s_of (n := 6) hz
  obtain ⟨ms, rfl, hms⟩ := u16s_of (n := 6) hu
  cases hx : sh.netV w with
  | none => exact stableFixed_none sh hs w hw ns ms hx
  | some x =>
    obtain ⟨n, p⟩ := x
    exact stableFixed_some sh hs w hw ns ms n p hx hns hms

set_option maxRecDepth 100000 in
theorem stableFixed_lifted (os : Os) (started : os.Started) (H : Type) (enc : TypeId × Value → H) :
    ReturnsInHanded {} Try.checked os 5 .any (Rows.stableFixedSpec.pre6 enc Try.prog Try.f5 Rows.stableFixedRow.domain false) (Rows.stableFixedSpec.post enc Try.prog Try.f5 false true false false) := by
  refine returnsInHanded_of_change (C := Try.checked) own started (by kernel_rfl) Try.func5
    (ChangeSpec.witness6 (enc := enc) (C := Try.checked) false ⟨#[], #[.agg #[.int .u8 0, .slice none 0 0, .slice none 0 0, .slice none 0 0, .slice none 0 0, .slice none 0 0], .int .u8 0, .slice none 0 0, .slice none 0 0], []⟩ 8 (by kernel_rfl) (by kernel_rfl) (by kernel_rfl) (by kernel_rfl)) ?_
  intro W base args ds gs before hval hW hcnd _
  have hp : Try.f5.params.toList = [25, 5, 26, 26] := by kernel_rfl
  refine law_calls (n := 8) (b := 4) laidOut (by rw [hp]; exact List.forall_mem_cons.2 ⟨⟨by kernel_rfl, of_decide_eq_true (by kernel_rfl)⟩, List.forall_mem_cons.2 ⟨⟨by kernel_rfl, of_decide_eq_true (by kernel_rfl)⟩, List.forall_mem_cons.2 ⟨⟨by kernel_rfl, of_decide_eq_true (by kernel_rfl)⟩, List.forall_mem_cons.2 ⟨⟨by kernel_rfl, of_decide_eq_true (by kernel_rfl)⟩, (by simp)⟩⟩⟩⟩) (by rw [hp]; exact List.forall_mem_cons.2 ⟨by kernel_rfl, List.forall_mem_cons.2 ⟨by kernel_rfl, List.forall_mem_cons.2 ⟨by kernel_rfl, List.forall_mem_cons.2 ⟨by kernel_rfl, (by simp)⟩⟩⟩⟩) rfl (by kernel_rfl) (by kernel_rfl) (fun ds hd => ?_) hval hW (fun av h => stableFixed_as av (argsT_d teok _ _ _ (by rw [hp]; exact List.forall_mem_cons.2 ⟨rfl, List.forall_mem_cons.2 ⟨rfl, List.forall_mem_cons.2 ⟨rfl, List.forall_mem_cons.2 ⟨rfl, (by simp)⟩⟩⟩⟩) h |> (hp ▸ ·)))
  have hd : ds.length = 4 := hd
  match ds, hd with
  | [_, _, _, _], _ => rfl
theorem stableFixed_holds : Rows.StableFixedSaid :=
  OpenClaim.holds_of_wide 5 Try.f5 rfl rfl rfl rfl rfl rfl rfl ⟨rfl, rfl, rfl, rfl, rfl⟩ rfl rfl rfl rfl rfl (by kernel_rfl) Try.func5 (by kernel_rfl)
    (of_decide_eq_true (by kernel_rfl)) (by unfold Func.isWrapper; first | (rw [if_pos (by decide +kernel)]; kernel_rfl) | (rw [if_neg (by decide +kernel)]; exact ⟨rfl, rfl⟩))
    (fun os started H enc _ => stableFixed_lifted os started H enc)
end Go.Proofs.Ytajkgmmmkhekmaa
