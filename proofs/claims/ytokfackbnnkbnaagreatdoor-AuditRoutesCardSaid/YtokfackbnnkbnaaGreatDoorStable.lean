/- What layer 15 comes to: offers, choices, and whether all is stable. Printed by a program of this project (wip/mq). -/
import Derived.Test.YtokfackbnnkbnaaGreatDoorTake
import Derived.Test.YtokfackbnnkbnaaGreatDoorAttr
import Derived.Test.YtokfackbnnkbnaaGreatDoorMay
import Derived.Test.YtokfackbnnkbnaaGreatDoorEsame
set_option linter.unusedVariables false
set_option linter.unusedSimpArgs false

namespace Go.Proofs.YtokfackbnnkbnaaGreatDoor
open Go Mq Go.ChangeShapes Go.WideShapes Go.ChangeAt Go.RowKit
/-! maquette/stable.Offers -/
def f28r0 : List PG := [.u (.bx 3 (.t 0)), .u (.mv 6 (.nl 4))]
def f28r1 : List PG := [.u (.mv 7 (.nl 4))]
def f28r2 : List PG := [.u (.mv 11 (.t 2)), .u (.bo 12 .lss (.t 11) (.k (.int .i64 0))), .u (.mv 13 (.t 12)), .g 13 false (.mv 14 (.t 2)), .g 13 false (.fa 15 2 (.t 3)), .g 13 false (.ld 16 1 false (.t 15)), .g 13 false (.len 17 (.t 16)), .g 13 false (.bo 18 .geq (.t 14) (.t 17)), .u (.pick 19 (.t 13) (.k (.bool true)) (.t 18))]
def f28r3 : List PG := [.u (.mv 6 (.nl 4))]
abbrev f28p0 : PC := .seq (.reg f28r3) (.ret)
abbrev f28p1 : PC := .cond (.t 19) (f28p0) (.skip)
def f28r4 : List PG := [.u (.fa 20 2 (.t 3)), .u (.ld 21 1 false (.t 20)), .u (.mv 22 (.t 2)), .u (.ia 23 1 (.t 21) (.t 22)), .u (.ld 24 1 false (.t 23)), .u (.len 25 (.t 24)), .u (.mv 26 (.k (.int .i64 0)))]
def f28r5 : List PG := [.u (.bo 27 .lss (.t 26) (.t 25))]
def f28r6 : List PG := [.u (.ia 28 4 (.t 24) (.t 26)), .u (.ld 29 4 true (.t 28)), .u (.al 9 [.d (.v (.int .i64 0)), .d (.v (.int .i64 0)), .nl 10, .nl 10]), .u (.st 4 (.t 9) (.t 29))]
def f28r7 : List PG := [.u (.al 10 [.d (.v (.bool false)), .d (.v (.int .i64 0)), .d (.v (.int .i64 0)), .d (.v (.int .u8 0))])]
def f28r8 : List PG := [.u (.fa 30 0 (.t 9)), .u (.ld 31 1 false (.t 30)), .u (.bo 32 .geq (.t 31) (.k (.int .i64 0))), .u (.mv 33 (.t 32)), .g 33 true (.fa 34 0 (.t 9)), .g 33 true (.ld 35 1 false (.t 34)), .g 33 true (.mv 36 (.t 1)), .g 33 true (.len 37 (.t 36)), .g 33 true (.bo 38 .lss (.t 35) (.t 37)), .u (.pick 39 (.t 33) (.t 38) (.k (.bool false)))]
def f28r9 : List PG := [.u (.ld 40 4 true (.t 9)), .u (.mv 41 (.t 1)), .u (.fa 42 0 (.t 9)), .u (.ld 43 1 false (.t 42)), .u (.ia 44 4 (.t 41) (.t 43)), .u (.ld 45 4 true (.t 44)), .uc 46 51 [.t 40, .t 45], .u (.st 4 (.t 10) (.t 46))]
abbrev f28p2 : PC := .cond (.t 39) (.regD f28r9 []) (.skip)
def f28r10 : List PG := [.u (.mv 47 (.t 7)), .u (.ld 48 4 true (.t 10)), .u (.bslF 49 51 4 [.t 48]), .u (.app 50 51 4 32 (.t 47) (.t 49)), .u (.mv 7 (.t 50))]
abbrev f28p3 : PC := .seq (.seq (.reg f28r8) (f28p2)) (.reg f28r10)
abbrev f28p4 : PC := .seq (.reg f28r7) (f28p3)
def f28r11 : List PG := [.u (.bo 51 .add (.t 26) (.k (.int .i64 1))), .u (.mv 26 (.t 51))]
abbrev f28p5 : PC := .seq (.block 1 (.seq (.reg f28r6) (f28p4))) (.reg f28r11)
abbrev f28p6 : PC := .seq (.cond (.t 27) (.skip) (.exit 0)) (f28p5)
abbrev f28p7 : PC := .seq (.reg f28r5) (f28p6)
abbrev f28p8 : PC := .block 0 (.loop (f28p7))
def f28r12 : List PG := [.u (.mv 52 (.t 7)), .u (.mv 6 (.t 52))]
abbrev f28p9 : PC := .seq (.reg f28r12) (.ret)
abbrev f28p10 : PC := .seq (.seq (.reg f28r4) (f28p8)) (f28p9)
abbrev f28p11 : PC := .seq (.seq (.reg f28r2) (f28p1)) (f28p10)
abbrev f28p12 : PC := .seq (.reg f28r1) (f28p11)
abbrev f28pc : PC := .seq (.reg f28r0) (f28p12)
def f28k : List Nat := [0, 1, 2, 3, 6, 7, 9, 10, 19, 24, 25, 26, 27, 39]
theorem f28c : Tryz.f28.body.bind (cC te Tryz.f28.ntmps) = some f28pc := by kernel_rfl
/-! maquette/stable.Choice -/
def f10r0 : List PG := [.u (.bx 3 (.t 0)), .u (.al 6 [.d (.v (.bool false)), .d (.v (.int .i64 0)), .d (.v (.int .i64 0)), .d (.v (.int .u8 0))])]
def f10r1 : List PG := [.u (.ld 7 3 true (.t 3)), .u (.mv 8 (.t 2)), .uc 9 25 [.t 7, .t 8]]
def f10r2 : List PG := [.uc 10 26 [], .u (.st 4 (.t 6) (.t 10))]
abbrev f10p0 : PC := .seq (.reg f10r2) (.ret)
abbrev f10p1 : PC := .cond (.t 9) (f10p0) (.skip)
def f10r3 : List PG := [.u (.ld 11 3 true (.t 3)), .u (.mv 12 (.t 1)), .u (.mv 13 (.t 2)), .uc 14 28 [.t 11, .t 12, .t 13], .uc 15 27 [.t 14], .u (.st 4 (.t 6) (.t 15))]
abbrev f10p2 : PC := .seq (.reg f10r3) (.ret)
abbrev f10p3 : PC := .seq (.seq (.reg f10r1) (f10p1)) (f10p2)
abbrev f10pc : PC := .seq (.reg f10r0) (f10p3)
def f10k : List Nat := [0, 1, 2, 3, 6, 9]
theorem f10c : Tryz.f10.body.bind (cC te Tryz.f10.ntmps) = some f10pc := by kernel_rfl
/-! maquette/stable.Is -/
def f9r0 : List PG := [.u (.bx 2 (.t 0)), .u (.mv 4 (.k (.bool false)))]
def f9r1 : List PG := [.u (.mv 6 (.t 1)), .u (.len 7 (.t 6)), .u (.fa 8 0 (.t 2)), .u (.ld 9 1 false (.t 8)), .u (.len 10 (.t 9)), .u (.beq 11 true false (.t 7) (.t 10))]
def f9r2 : List PG := [.u (.mv 4 (.k (.bool false)))]
abbrev f9p0 : PC := .seq (.reg f9r2) (.ret)
abbrev f9p1 : PC := .cond (.t 11) (f9p0) (.skip)
def f9r3 : List PG := [.u (.mv 12 (.t 1)), .u (.len 13 (.t 12)), .u (.mv 14 (.k (.int .i64 0)))]
def f9r4 : List PG := [.u (.bo 15 .lss (.t 14) (.t 13))]
def f9r5 : List PG := [.u (.mv 16 (.t 14)), .u (.mv 5 (.t 16))]
def f9r6 : List PG := [.u (.mv 17 (.t 1)), .u (.mv 18 (.t 5)), .u (.ia 19 4 (.t 17) (.t 18)), .u (.ld 20 4 true (.t 19)), .u (.ld 21 3 true (.t 2)), .u (.mv 22 (.t 1)), .u (.mv 23 (.t 5)), .uc 24 10 [.t 21, .t 22, .t 23], .uc 25 24 [.t 20, .t 24], .u (.no 26 (.t 25))]
def f9r7 : List PG := [.u (.mv 4 (.k (.bool false)))]
abbrev f9p2 : PC := .seq (.reg f9r7) (.ret)
abbrev f9p3 : PC := .cond (.t 26) (f9p2) (.skip)
abbrev f9p4 : PC := .seq (.regD f9r6 []) (f9p3)
def f9r8 : List PG := [.u (.bo 27 .add (.t 14) (.k (.int .i64 1))), .u (.mv 14 (.t 27))]
abbrev f9p5 : PC := .seq (.block 1 (.seq (.reg f9r5) (f9p4))) (.reg f9r8)
abbrev f9p6 : PC := .seq (.cond (.t 15) (.skip) (.exit 0)) (f9p5)
abbrev f9p7 : PC := .seq (.reg f9r4) (f9p6)
abbrev f9p8 : PC := .block 0 (.loop (f9p7))
def f9r9 : List PG := [.u (.mv 4 (.k (.bool true)))]
abbrev f9p9 : PC := .seq (.reg f9r9) (.ret)
abbrev f9p10 : PC := .seq (.seq (.reg f9r3) (f9p8)) (f9p9)
abbrev f9p11 : PC := .seq (.seq (.reg f9r1) (f9p1)) (f9p10)
abbrev f9pc : PC := .seq (.reg f9r0) (f9p11)
def f9k : List Nat := [0, 1, 2, 4, 5, 11, 13, 14, 15, 26]
theorem f9c : Tryz.f9.body.bind (cC te Tryz.f9.ntmps) = some f9pc := by kernel_rfl
set_option maxRecDepth 20000
set_option maxHeartbeats 4000000
set_option linter.unusedSimpArgs false
set_option linter.unusedVariables false

theorem offers_fn (n : Net) (hn : n.small) (l : List Attr) (hl : l.length ≤ 1048576) (k : Int) : FnS Tryz.prog 28 [n.av, .d (.sl 4 (l.map Attr.row)), .d (.v (.int .i64 k))] (.d (.sl 4 ((n.offers l k).map Attr.row))) := by
  have hm : maxLen = 9223372036854775807 := rfl
  refine fn_of teok Tryz.func28 (by kernel_rfl) f28c f28k [.tmp 6] rfl (by show 3 ≤ 53; omega) ?_
  first | (have _q := @g3; clear _q) | have g3 : Nat.pred 77 = 76 := rfl
  first | (have _q := @g2; clear _q) | have g2 : Nat.pred 77 = 76 := rfl
  first | (have _q := @g1; clear _q) | have g1 : Nat.pred 77 = 76 := rfl
  repeat' first
  | (with_reducible refine awp_mid (.reg f28r10) [] [(10, .box (offerV l e).box)] ?_ ?_)
  | (with_reducible first | refine awp_seq ?_ | refine awp_block ?_ | refine awp_reg ?_ | refine awp_regD ?_ | refine awp_ret ?_ | refine awp_skip ?_ | refine awp_exit ?_ | refine normQ_of ?_ | refine wkE_of ?_)
  | with_reducible refine midQ_of (Wk_sub rfl rfl ?_ ?_)
  | (with_reducible first | refine runD_nil ?_ | refine runD_cons ?_ | refine runF_cons ?_ | refine runF_nil ?_ | refine KF_of ?_ | refine chkQ_of rfl ?_)
  | with_reducible refine awp_cond (by simp only [evX, lget, Option.getD_some, reduceIte, Nat.reduceEqDiff]; rfl) (fun hc => ?_) (fun hc => ?_)
  | with_reducible refine CallU_of (f := 51) (take_fn e (hn.ok.edge _ (List.mem_of_getElem? (getD_mem n.edges [] hk.1 hk.2)) e (List.mem_of_getElem? he.2.2.1)) (l.getD e.src.toNat default)) (by first | exact Or.inr (Or.inl rfl) | exact Or.inl rfl) ?_
  | (with_reducible assumption)
  | with_reducible refine fun (hG : okL _) => ?_
  | (with_reducible refine fun (hT : (_ : Bool) = _) => ?_)
  | (with_reducible first | exact hG.2 | exact hG.2.2 | exact hG.2.2.2 | exact hG.2.2.2.2)
  | with_reducible refine okL_mk ?_ ?_
  | with_reducible refine And.intro ?_ ?_
  | (have hk := fix_rng hc; have g1 := at_int esD n.edges [] hk.1 hk.2; replace hc : True := trivial)
  | (with_reducible refine awp_loopU (b := f28p7) (fun x : Nat × List Attr => x.1 ≤ (n.edges.getD k.toNat []).length ∧ x.2.length = x.1 ∧ x.2 ++ ((n.edges.getD k.toNat []).drop x.1).map (offerV l) = n.offers l k) (fun x => (n.edges.getD k.toNat []).length - x.1) (fun x => [(26, .d (.v (.int .i64 x.1))), (7, .own 50 x.2.length)]) (fun x => [(50, .row 51 4 x.2.length (x.2.map Attr.row))]) ((0, [])) (⟨Nat.zero_le _, rfl, by rw [Net.offers, if_neg (by omega)]; simp⟩) (Wk_nl 7 50 51 rfl rfl (by decide)) (Wk_sub rfl rfl ?_ ?_) (fun x hx => ?_))
  | (refine Exists.elim (at_drop Arc.row (n.edges.getD k.toNat []) x.1 (Int.ofNat_lt.1 (of_decide_eq_true hc))) (fun e he => ?_); have g2 := he.2.1; have hrow := hn.row _ (List.mem_of_getElem? (getD_mem n.edges [] hk.1 hk.2)); replace hc : True := trivial)
  | (have g3v := offer_row hc; have g3 := g3v.1; replace hc : True := trivial)
  | (with_reducible refine loopQ_next ((x.1 + 1, x.2 ++ [offerV l e])) ?_ ?_ (Wk_sub rfl rfl ?_ ?_))
  | simp only [f28r0, f28r1, f28r2, f28r3, f28r4, f28r5, f28r6, f28r7, f28r8, f28r9, f28r10, f28r11, f28r12, g3, g2, g1, f28k, List.length_map, runG_nil, runG_u, runG_g, runG_ucS, stp, avL, avS, evs, evX, lget, lput, strip, putO, PO.dst, updO, okR, cells, splice, AV.cell, toD, toDs, binV, sameK, pickV, guardOf, okL_nil, sides, argsOf, rawOf, dv, dvL, owns, ownsL, flat, flatL, lkeep, seqQ, blockQ, initS, List.drop_succ_cons, List.drop_zero, List.take_succ_cons, List.take_zero, List.getD_cons_zero, List.getD_cons_succ, List.length_cons, List.length_nil, List.set_cons_zero, List.set_cons_succ, List.map_cons, List.map_nil, List.all_cons, List.all_nil, List.elem_cons, List.elem_nil, Option.getD_some, Option.getD_none, Option.bind_some, Option.isNone_none, reduceIte, reduceCtorEq, Nat.reduceEqDiff, Nat.reduceAdd, Nat.reduceLeDiff, Nat.zero_add, Nat.add_zero, Nat.reduceBEq, Bool.and_self, Bool.and_true, Bool.true_and, Bool.or_self, Bool.or_false, Bool.false_or, Bool.or_true, Bool.true_or, true_and, and_true, and_self, implies_true, forall_const, Bool.false_eq_true, id_eq, retQ, resOf, resV, Option.some.injEq, exists_eq_left', AV.d.injEq, D.v.injEq, Value.bool.injEq, imp_self, bldF, bldS, toVals, eqLs, Option.map_some, imp_false, not_true_eq_false, not_false_eq_true, foot, wrs, nm, nmL, PG.reads, PG.dst, PO.reads, X.sl, sls, slB, List.append_nil, List.cons_append, List.nil_append, Option.toList_some, Option.toList_none, loopQ_exit, loopQ_ret, subS, subO, Bool.bne_false, Bool.bne_true, elemsOf, bslD, bslS, lputs, List.headD_cons, sealS, sealO, sealV, sealL, midQ_ret, midQ_exit, sealsS, sealsO, Bool.true_bne, Bool.false_bne, bne_self_eq_false, Int.reduceToNat, oSl, resR, argsN, dvN]
  all_goals try first
    | omega
    | (with_reducible rfl)
    | (show Value.int _ 0 = _; rfl)
    | (simp only [List.length_append, List.length_cons, List.length_nil]; omega)
    | (simp only [List.length_append, List.length_cons, List.length_nil, List.map_append, List.map_cons, List.map_nil]; done)
    | exact count64 he.2.2.2 (by omega)
    | (have ho := fix_out hc; simp [Net.offers, ho]; done)
    | (rw [offer_none hc]; rfl)
    | (rw [g3v.2.2.2]; done)
    | (have h0 := of_decide_eq_false hc; have h1 : (n.edges.getD k.toNat []).drop x.1 = [] := List.drop_eq_nil_of_le (by omega); rw [h1] at hx; rw [← hx.2.2]; simp; done)
    | (have h1 := hx.2.2; rw [he.1] at h1; rw [← h1]; simp; done)
    | (rw [hx.2.1]; done)
  all_goals trace_state
theorem choice_fn (n : Net) (hn : n.small) (l : List Attr) (hl : l.length ≤ 1048576) (k : Int) : FnS Tryz.prog 10 [n.av, .d (.sl 4 (l.map Attr.row)), .d (.v (.int .i64 k))] (n.choice l k).av := by
  have hm : maxLen = 9223372036854775807 := rfl
  refine fn_of teok Tryz.func10 (by kernel_rfl) f10c f10k [.cell 6 51] rfl (by show 3 ≤ 16; omega) ?_
  repeat' first
  | (with_reducible first | refine awp_seq ?_ | refine awp_reg ?_ | refine awp_ret ?_ | refine awp_skip ?_ | refine normQ_of ?_ | refine wkE_of ?_)
  | with_reducible refine awp_cond (by simp only [evX, lget, Option.getD_some, reduceIte, Nat.reduceEqDiff]; rfl) (fun hc => ?_) (fun hc => ?_)
  | with_reducible refine CallU_of (f := 25) (fixed_fn n k) (by first | exact Or.inr (Or.inl rfl) | exact Or.inl rfl) ?_
  | with_reducible refine CallU_of (f := 26) (origin_fn) (by first | exact Or.inr (Or.inl rfl) | exact Or.inl rfl) ?_
  | with_reducible refine CallU_of (f := 28) (offers_fn n hn l hl k) (by first | exact Or.inr (Or.inl rfl) | exact Or.inl rfl) ?_
  | with_reducible refine CallU_of (f := 27) (best_fn (n.offers l k) (by have := Net.offers_len hn l k; omega)) (by first | exact Or.inr (Or.inl rfl) | exact Or.inl rfl) ?_
  | (with_reducible assumption)
  | (with_reducible refine fun (hT : (_ : Bool) = _) => ?_)
  | with_reducible refine And.intro ?_ ?_
  | simp only [f10r0, f10r1, f10r2, f10r3, f10k, te51, List.length_map, runG_nil, runG_u, runG_ucS, stp, avL, avS, evs, evX, lget, lput, strip, putO, PO.dst, updO, okR, cells, splice, AV.cell, toD, toDs, binV, sameK, pickV, guardOf, okL_nil, sides, argsOf, rawOf, dv, dvL, owns, ownsL, flat, flatL, lkeep, seqQ, blockQ, initS, List.drop_succ_cons, List.drop_zero, List.take_succ_cons, List.take_zero, List.getD_cons_zero, List.getD_cons_succ, List.length_cons, List.length_nil, List.set_cons_zero, List.set_cons_succ, List.map_cons, List.map_nil, List.all_cons, List.all_nil, List.elem_cons, List.elem_nil, Option.getD_some, Option.getD_none, Option.bind_some, Option.isNone_none, reduceIte, reduceCtorEq, Nat.reduceEqDiff, Nat.reduceAdd, Nat.reduceLeDiff, Nat.zero_add, Nat.add_zero, Nat.reduceBEq, Bool.and_self, Bool.and_true, Bool.true_and, Bool.or_self, Bool.or_false, Bool.false_or, Bool.or_true, Bool.true_or, true_and, and_true, and_self, implies_true, forall_const, Bool.false_eq_true, id_eq, retQ, resOf, resV, Option.some.injEq, exists_eq_left', AV.d.injEq, D.v.injEq, Value.bool.injEq, imp_self, bldF, bldS, toVals, eqLs, Option.map_some, imp_false, not_true_eq_false, not_false_eq_true, List.append_nil, List.cons_append, List.nil_append, Option.toList_some, Option.toList_none, subS, subO, Bool.bne_false, Bool.bne_true, elemsOf, bslD, bslS, lputs, List.headD_cons, sealS, sealO, sealV, sealL, sealsS, sealsO, Bool.true_bne, Bool.false_bne, bne_self_eq_false, Int.reduceToNat, oSl, resR, argsN, dvN]
  all_goals try first
    | (simp only [Net.choice, hc, reduceIte]; done)
    | (simp only [Net.choice, hc, Bool.false_eq_true, reduceIte]; done)
  all_goals trace_state
theorem sis_fn (n : Net) (hn : n.small) (l : List Attr) (hl : l.length ≤ 1048576) : FnS Tryz.prog 9 [n.av, .d (.sl 4 (l.map Attr.row))] (.d (.v (.bool (n.isV l)))) := by
  have hm : maxLen = 9223372036854775807 := rfl
  refine fn_of teok Tryz.func9 (by kernel_rfl) f9c f9k [.tmp 4] rfl (by show 2 ≤ 28; omega) ?_
  first | (have _q := @g1; clear _q) | have g1 : Nat.pred 77 = 76 := rfl
  repeat' first
  | (with_reducible first | refine awp_seq ?_ | refine awp_block ?_ | refine awp_reg ?_ | refine awp_regD ?_ | refine awp_ret ?_ | refine awp_skip ?_ | refine awp_exit ?_ | refine normQ_of ?_ | refine wkE_of ?_ | refine runD_nil ?_ | refine runD_cons ?_ | refine runF_cons ?_ | refine runF_nil ?_ | refine KF_of ?_ | refine chkQ_of rfl ?_)
  | with_reducible refine awp_cond (by simp only [evX, lget, Option.getD_some, reduceIte, Nat.reduceEqDiff]; rfl) (fun hc => ?_) (fun hc => ?_)
  | with_reducible refine CallU_of (f := 10) (choice_fn n hn l hl _) (by first | exact Or.inr (Or.inl rfl) | exact Or.inl rfl) ?_
  | with_reducible refine CallU_of (f := 24) (asame_fn a (n.choice l i)) (by first | exact Or.inr (Or.inl rfl) | exact Or.inl rfl) ?_
  | (with_reducible assumption)
  | (with_reducible refine fun (hT : (_ : Bool) = _) => ?_)
  | with_reducible refine And.intro ?_ ?_
  | (with_reducible refine awp_loopU (b := f9p7) (fun i : Nat => i ≤ l.length ∧ l.length = n.origin.length ∧ isGo n l (l.drop i) i = isGo n l l 0) (fun i => l.length - i) (fun i => [(14, .d (.v (.int .i64 i)))]) (fun i => []) (0) (⟨Nat.zero_le _, by simp at hc; omega, rfl⟩) (Wk.refl _ _) (Wk_sub rfl rfl ?_ ?_) (fun i hi => ?_))
  | (refine Exists.elim (at_drop Attr.row l i (Int.ofNat_lt.1 (of_decide_eq_true hc))) (fun a he => ?_); have g1 := he.2.1; replace hc : True := trivial)
  | (with_reducible refine loopQ_next (i + 1) ?_ ?_ (Wk_sub rfl rfl ?_ ?_))
  | simp only [f9r0, f9r1, f9r2, f9r3, f9r4, f9r5, f9r6, f9r7, f9r8, f9r9, g1, f9k, List.length_map, runG_nil, runG_u, runG_ucS, stp, avL, avS, evs, evX, lget, lput, strip, putO, PO.dst, updO, okR, cells, splice, AV.cell, toD, toDs, binV, sameK, pickV, guardOf, okL_nil, sides, argsOf, rawOf, dv, dvL, owns, ownsL, flat, flatL, lkeep, seqQ, blockQ, initS, List.drop_succ_cons, List.drop_zero, List.take_succ_cons, List.take_zero, List.getD_cons_zero, List.getD_cons_succ, List.length_cons, List.length_nil, List.set_cons_zero, List.set_cons_succ, List.map_cons, List.map_nil, List.all_cons, List.all_nil, List.elem_cons, List.elem_nil, Option.getD_some, Option.getD_none, Option.bind_some, Option.isNone_none, reduceIte, reduceCtorEq, Nat.reduceEqDiff, Nat.reduceAdd, Nat.reduceLeDiff, Nat.zero_add, Nat.add_zero, Nat.reduceBEq, Bool.and_self, Bool.and_true, Bool.true_and, Bool.or_self, Bool.or_false, Bool.false_or, Bool.or_true, Bool.true_or, true_and, and_true, and_self, implies_true, forall_const, Bool.false_eq_true, id_eq, retQ, resOf, resV, Option.some.injEq, exists_eq_left', AV.d.injEq, D.v.injEq, Value.bool.injEq, imp_self, bldF, bldS, toVals, eqLs, Option.map_some, imp_false, not_true_eq_false, not_false_eq_true, foot, wrs, nm, nmL, PG.reads, PG.dst, PO.reads, X.sl, sls, slB, List.append_nil, List.cons_append, List.nil_append, Option.toList_some, Option.toList_none, loopQ_exit, loopQ_ret, subS, subO, Bool.bne_false, Bool.bne_true, elemsOf, bslD, bslS, lputs, List.headD_cons, sealS, sealO, sealV, sealL, sealsS, sealsO, Bool.true_bne, Bool.false_bne, bne_self_eq_false, Int.reduceToNat, oSl, resR, argsN, dvN]
  all_goals try first
    | omega
    | (with_reducible rfl)
    | (show Value.int _ 0 = _; rfl)
    | (simp only [List.length_append, List.length_cons, List.length_nil]; omega)
    | (simp only [List.length_append, List.length_cons, List.length_nil, List.map_append, List.map_cons, List.map_nil]; done)
    | exact count64 he.2.2.2 (by omega)
    | (grind [Net.isV, isGo])
  all_goals trace_state
end Go.Proofs.YtokfackbnnkbnaaGreatDoor

