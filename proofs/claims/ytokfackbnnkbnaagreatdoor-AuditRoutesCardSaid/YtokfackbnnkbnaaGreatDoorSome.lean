/- Routes out of numbers. Printed by a program of this project (wip/mq). -/
import Derived.Test.YtokfackbnnkbnaaGreatDoorQ0
import Derived.Test.YtokfackbnnkbnaaGreatDoorMqPl
import Derived.Test.YtokfackbnnkbnaaGreatDoorAttr
set_option linter.unusedVariables false
set_option linter.unusedSimpArgs false

namespace Go.Proofs.YtokfackbnnkbnaaGreatDoor
open Go Mq Go.ChangeShapes Go.WideShapes Go.ChangeAt Go.RowKit
/-! maquette/maquettelaw15.Some -/
def f8r0 : List PG := [.u (.mv 4 (.nl 4))]
def f8r1 : List PG := [.u (.mv 7 (.t 1)), .u (.mks 8 51 4 32 [.d (.v (.bool false)), .d (.v (.int .i64 0)), .d (.v (.int .i64 0)), .d (.v (.int .u8 0))] (.t 7)), .u (.mv 5 (.t 8))]
def f8r2 : List PG := [.u (.mv 9 (.t 5)), .u (.len 10 (.t 9)), .u (.mv 11 (.k (.int .i64 0)))]
def f8r3 : List PG := [.u (.bo 12 .lss (.t 11) (.t 10))]
def f8r4 : List PG := [.u (.mv 13 (.t 11)), .u (.mv 6 (.t 13))]
def f8r5 : List PG := [.u (.mv 14 (.t 6)), .u (.mv 15 (.t 0)), .u (.len 16 (.t 15)), .u (.bo 17 .lss (.t 14) (.t 16)), .u (.mv 18 (.t 17)), .g 18 true (.mv 19 (.t 0)), .g 18 true (.mv 20 (.t 6)), .g 18 true (.ia 21 1 (.t 19) (.t 20)), .g 18 true (.ld 22 1 false (.t 21)), .g 18 true (.bo 23 .rem (.t 22) (.k (.int .u16 4))), .g 18 true (.bo 24 .gtr (.t 23) (.k (.int .u16 0))), .u (.pick 25 (.t 18) (.t 24) (.k (.bool false)))]
def f8r6 : List PG := [.u (.mv 26 (.t 5)), .u (.mv 27 (.t 6)), .u (.mv 28 (.t 0)), .u (.mv 29 (.t 6)), .u (.ia 30 1 (.t 28) (.t 29)), .u (.ld 31 1 false (.t 30)), .u (.bo 32 .rem (.t 31) (.k (.int .u16 4))), .u (.cv 33 .i64 (.t 32)), .u (.bo 34 .quo (.t 33) (.k (.int .i64 3))), .u (.bo 35 .add (.k (.int .i64 100)) (.t 34)), .u (.mv 36 (.t 0)), .u (.mv 37 (.t 6)), .u (.ia 38 1 (.t 36) (.t 37)), .u (.ld 39 1 false (.t 38)), .u (.bo 40 .quo (.t 39) (.k (.int .u16 64))), .u (.bo 41 .rem (.t 40) (.k (.int .u16 16))), .u (.cv 42 .i64 (.t 41)), .u (.mv 43 (.t 0)), .u (.mv 44 (.t 6)), .u (.ia 45 1 (.t 43) (.t 44)), .u (.ld 46 1 false (.t 45)), .u (.bo 47 .quo (.t 46) (.k (.int .u16 4))), .u (.bo 48 .rem (.t 47) (.k (.int .u16 16))), .u (.cv 49 .u8 (.t 48)), .u (.bld 50 [.d (.v (.bool false)), .d (.v (.int .i64 0)), .d (.v (.int .i64 0)), .d (.v (.int .u8 0))] [((0, 1), .k (.bool true)), ((1, 1), .t 35), ((2, 1), .t 42), ((3, 1), .t 49)]), .u (.ia 51 4 (.t 26) (.t 27)), .u (.st 4 (.t 51) (.t 50))]
abbrev f8p0 : PC := .cond (.t 25) (.regD f8r6 []) (.skip)
abbrev f8p1 : PC := .seq (.reg f8r5) (f8p0)
def f8r7 : List PG := [.u (.bo 52 .add (.t 11) (.k (.int .i64 1))), .u (.mv 11 (.t 52))]
abbrev f8p2 : PC := .seq (.block 1 (.seq (.reg f8r4) (f8p1))) (.reg f8r7)
abbrev f8p3 : PC := .seq (.cond (.t 12) (.skip) (.exit 0)) (f8p2)
abbrev f8p4 : PC := .seq (.reg f8r3) (f8p3)
abbrev f8p5 : PC := .block 0 (.loop (f8p4))
def f8r8 : List PG := [.u (.mv 53 (.t 5)), .u (.mv 4 (.t 53))]
abbrev f8p6 : PC := .seq (.reg f8r8) (.ret)
abbrev f8p7 : PC := .seq (.seq (.reg f8r2) (f8p5)) (f8p6)
abbrev f8p8 : PC := .seq (.reg f8r1) (f8p7)
abbrev f8pc : PC := .seq (.reg f8r0) (f8p8)
def f8k : List Nat := [0, 1, 4, 5, 6, 10, 11, 12, 25]
theorem f8c : Tryz.f8.body.bind (cC te Tryz.f8.ntmps) = some f8pc := by kernel_rfl
set_option maxRecDepth 20000
set_option maxHeartbeats 4000000
set_option linter.unusedSimpArgs false
set_option linter.unusedVariables false

theorem w16_row (ns : List Int) {i : Nat} (h : i < ns.length) : (ns.map wD).getD (Int.toNat (i : Int)) [] = wD (ns.getD i 0) := by simp [List.getD, h]
theorem gd_w (ns : List Int) {i : Nat} (h : i < ns.length) : AV.d (((ns.map wD).getD (Int.toNat (i : Int)) []).getD 0 (.v undef)) = .d (.v (.int .u16 (ns.getD i 0))) := by rw [w16_row ns h]; rfl
theorem someA_yes {ns : List Int} {i : Nat} (h : i < ns.length) (h2 : 0 < (ns.getD i 0).tmod 4) : someA ns i = someAt (ns.getD i 0) := by rw [someA, if_pos ⟨h, h2⟩]
theorem some_set {e s g : Nat} (L : List Attr) (k : Nat) (a : Attr) : AO.row e s g ((L.map Attr.row).set k [.v (.bool a.ok), .v (.int .i64 a.pref), .v (.int .i64 a.cost), .v (.int .u8 a.tags)]) = AO.row e s g ((L.set k a).map Attr.row) := by rw [show [D.v (.bool a.ok), .v (.int .i64 a.pref), .v (.int .i64 a.cost), .v (.int .u8 a.tags)] = a.row from rfl, row_set]
theorem some_cond {ns : List Int} {i : Nat} {b : Bool} (hc : (if decide ((i : Int) < (ns.length : Int)) = true then decide (0 < (ns.getD i 0).tmod 4) else false) = b) : b = decide (i < ns.length ∧ 0 < (ns.getD i 0).tmod 4) := by
  rw [← hc]
  by_cases h : i < ns.length
  · have : (i : Int) < ns.length := by omega
    simp [h, this]
  · have : ¬ (i : Int) < ns.length := by omega
    simp [h, this]
theorem some_fnG (ns : List Int) (hns : B16 ns) (many : Nat) (hm2 : many ≤ 1048576) : FnG Tryz.prog 8 [.d (.sl 1 (ns.map wD)), .d (.v (.int .i64 many))] [] (.own 8 0) [(8, .row 51 4 0 ((someV ns many).map Attr.row))] := by
  have hm : maxLen = 9223372036854775807 := rfl
  refine fnG_of teok Tryz.func8 (by kernel_rfl) f8c f8k [.tmp 4] rfl (by show 2 ≤ 54; omega) ?_
  first | (have _q := @g9; clear _q) | have g9 : Nat.pred 77 = 76 := rfl
  first | (have _q := @g8; clear _q) | have g8 : Nat.pred 77 = 76 := rfl
  first | (have _q := @g7; clear _q) | have g7 : Nat.pred 77 = 76 := rfl
  first | (have _q := @g6; clear _q) | have g6 : Nat.pred 77 = 76 := rfl
  first | (have _q := @g5; clear _q) | have g5 : Nat.pred 77 = 76 := rfl
  first | (have _q := @g4; clear _q) | have g4 : Nat.pred 77 = 76 := rfl
  first | (have _q := @g3; clear _q) | have g3 : Nat.pred 77 = 76 := rfl
  first | (have _q := @g2; clear _q) | have g2 : Nat.pred 77 = 76 := rfl
  first | (have _q := @g1; clear _q) | have g1 : Nat.pred 77 = 76 := rfl
  repeat' first
  | (with_reducible refine awp_cut (l := f8r5) [(9, [1022])] ?_; unfold f8r5)
  | (with_reducible refine wkE_gd (ns := [1022]) 22 (.d (.v (.int .u16 (ns.getD i 0)))) rfl (fun hG => gd_w ns ?_) ?_)
  | (have _q : (if decide ((i : Int) < (ns.length : Int)) = true then _ else false) = true := hc; have hs := of_decide_eq_true (some_cond hc).symm; have hv := num16 (hns.rng (ns.getD i 0) (by rw [List.getD_eq_getElem?_getD, List.getElem?_eq_getElem hs.1]; exact List.getElem_mem hs.1)); have g1 := w16_row ns hs.1; have g2 := hv.1; have g3 := hv.2.1; have g4 := hv.2.2.1; have g5 := hv.2.2.2.1; have g6 := hv.2.2.2.2.1; have g7 := hv.2.2.2.2.2.1; have g8 := hv.2.2.2.2.2.2.1; refine Exists.elim (at_drop Attr.row (someG ns many i) i (by rw [someG_len]; exact hlt)) (fun a ha => ?_); have g9 := ha.2.1; replace hc : True := trivial)
  | (with_reducible refine awp_loopU (b := f8p4) (fun i : Nat => i ≤ many) (fun i => many - i) (fun i => [(11, .d (.v (.int .i64 i)))]) (fun i => [(8, .row 51 4 0 ((someG ns many i).map Attr.row))]) (0) (Nat.zero_le _) (Wk.refl _ _) (Wk_sub rfl rfl ?_ ?_) (fun i hi => ?_))
  | (have hlt : i < many := Int.ofNat_lt.1 (of_decide_eq_true (show decide ((i : Int) < (many : Int)) = true from hc)); replace hc : True := trivial)
  | (with_reducible refine loopQ_next (i + 1) ?_ ?_ (Wk_sub rfl rfl ?_ ?_))
  | (with_reducible first | refine awp_seq ?_ | refine awp_block ?_ | refine awp_reg ?_ | refine awp_regD ?_ | refine awp_ret ?_ | refine awp_skip ?_ | refine awp_exit ?_ | refine normQ_of ?_ | refine wkE_of ?_)
  | with_reducible refine retG_ret rfl ?_ ?_
  | with_reducible refine retG_nrm rfl ?_ ?_
  | (with_reducible first | refine runD_nil ?_ | refine runD_cons ?_ | refine runF_cons ?_ | refine runF_nil ?_ | refine KF_of ?_ | refine chkQ_of rfl ?_)
  | with_reducible refine awp_cond (by simp only [evX, lget, Option.getD_some, reduceIte, Nat.reduceEqDiff]; rfl) (fun hc => ?_) (fun hc => ?_)
  | (with_reducible assumption)
  | with_reducible refine fun (hG : okL _) => ?_
  | (with_reducible refine fun (hT : (_ : Bool) = _) => ?_)
  | (with_reducible first | exact hG.2 | exact hG.2.2 | exact hG.2.2.2 | exact hG.2.2.2.2)
  | with_reducible refine okL_mk ?_ ?_
  | with_reducible refine And.intro ?_ ?_
  | simp only [f8r0, f8r1, f8r2, f8r3, f8r4, f8r6, f8r7, f8r8, g9, g8, g7, g6, g5, g4, g3, g2, g1, f8k, List.length_map, rep_len, runG_nil, runG_u, runG_g, runG_ucS, stp, avL, avS, evs, evX, lget, lput, strip, putO, PO.dst, updO, okR, cells, splice, AV.cell, toD, toDs, binV, sameK, pickV, guardOf, okL_nil, sides, argsOf, rawOf, dv, dvL, owns, ownsL, flat, flatL, lkeep, seqQ, blockQ, initS, List.drop_succ_cons, List.drop_zero, List.take_succ_cons, List.take_zero, List.getD_cons_zero, List.getD_cons_succ, List.length_cons, List.length_nil, List.set_cons_zero, List.set_cons_succ, List.map_cons, List.map_nil, List.all_cons, List.all_nil, List.elem_cons, List.elem_nil, Option.getD_some, Option.getD_none, Option.bind_some, Option.isNone_none, reduceIte, reduceCtorEq, Nat.reduceEqDiff, Nat.reduceAdd, Nat.reduceLeDiff, Nat.zero_add, Nat.add_zero, Nat.reduceBEq, Bool.and_self, Bool.and_true, Bool.true_and, Bool.or_self, Bool.or_false, Bool.false_or, Bool.or_true, Bool.true_or, true_and, and_true, and_self, implies_true, forall_const, Bool.false_eq_true, id_eq, retQ, resOf, resV, Option.some.injEq, exists_eq_left', AV.d.injEq, D.v.injEq, Value.bool.injEq, imp_self, bldF, bldS, toVals, eqLs, Option.map_some, imp_false, not_true_eq_false, not_false_eq_true, foot, wrs, nm, nmL, PG.reads, PG.dst, PO.reads, X.sl, sls, slB, List.append_nil, List.cons_append, List.nil_append, Option.toList_some, Option.toList_none, loopQ_exit, loopQ_ret, subS, subO, Bool.bne_false, Bool.bne_true, elemsOf, bslD, bslS, lputs, List.headD_cons, sealS, sealO, sealV, sealL, sealsS, sealsO, runW_nil, runW_cons, Bool.true_bne, Bool.false_bne, bne_self_eq_false, Int.reduceToNat, oSl, resR, runS_nil, runS_gc, ren, renL, renO, sg, gBack, argsN, dvN]
  all_goals try first
    | omega
    | rfl
    | (rw [← someG_zero]; rfl)
    | exact of_decide_eq_true hG.1
    | exact Int.ofNat_lt.1 (of_decide_eq_true hG.1)
    | (rw [w16_row ns (Int.ofNat_lt.1 (of_decide_eq_true hG.1))]; exact Nat.le_refl _)
    | (rw [someG_len]; omega)
    | exact count64 hlt (by omega)
    | (have h1 := someG_set (ns := ns) hlt; rw [someA_yes hs.1 hs.2] at h1; rw [← h1, ← some_set, Int.toNat_natCast]; rfl)
    | (rw [← someG_no (by rw [someA, if_neg (of_decide_eq_false (some_cond hc).symm)])]; done)
    | (have h0 := of_decide_eq_false hc; rw [← someG_end, show i = many by omega]; done)
  all_goals trace_state
end Go.Proofs.YtokfackbnnkbnaaGreatDoor

