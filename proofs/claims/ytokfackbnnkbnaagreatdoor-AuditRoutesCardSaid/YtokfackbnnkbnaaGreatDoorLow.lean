/- What layer 13's parts come to: a row's places, ways, peers, clauses of a name. Printed by a program of this project (wip/mq). -/
import Derived.Test.YtokfackbnnkbnaaGreatDoorMake
import Derived.Test.YtokfackbnnkbnaaGreatDoorMqPl
set_option linter.unusedVariables false
set_option linter.unusedSimpArgs false

namespace Go.Proofs.YtokfackbnnkbnaaGreatDoor
open Go Mq Go.ChangeShapes Go.WideShapes Go.ChangeAt Go.RowKit
/-! slices.Index[[]maquette/api.Prefix,maquette/api.Prefix] -/
def f59r0 : List PG := [.u (.bx 3 (.t 1)), .u (.mv 4 (.k (.int .i64 0)))]
def f59r1 : List PG := [.u (.mv 6 (.t 0)), .u (.len 7 (.t 6)), .u (.mv 8 (.k (.int .i64 0)))]
def f59r2 : List PG := [.u (.bo 9 .lss (.t 8) (.t 7))]
def f59r3 : List PG := [.u (.mv 10 (.t 8)), .u (.mv 5 (.t 10))]
def f59r4 : List PG := [.u (.ld 11 2 true (.t 3)), .u (.mv 12 (.t 0)), .u (.mv 13 (.t 5)), .u (.ia 14 2 (.t 12) (.t 13)), .u (.ld 15 2 true (.t 14)), .u (.beqs 16 false [.i, .i] (.t 11) (.t 15))]
def f59r5 : List PG := [.u (.mv 17 (.t 5)), .u (.mv 4 (.t 17))]
abbrev f59p0 : PC := .seq (.reg f59r5) (.ret)
abbrev f59p1 : PC := .cond (.t 16) (f59p0) (.skip)
abbrev f59p2 : PC := .seq (.regD f59r4 []) (f59p1)
def f59r6 : List PG := [.u (.bo 18 .add (.t 8) (.k (.int .i64 1))), .u (.mv 8 (.t 18))]
abbrev f59p3 : PC := .seq (.block 1 (.seq (.reg f59r3) (f59p2))) (.reg f59r6)
abbrev f59p4 : PC := .seq (.cond (.t 9) (.skip) (.exit 0)) (f59p3)
abbrev f59p5 : PC := .seq (.reg f59r2) (f59p4)
abbrev f59p6 : PC := .block 0 (.loop (f59p5))
def f59r7 : List PG := [.u (.mv 4 (.k (.int .i64 (-1))))]
abbrev f59p7 : PC := .seq (.reg f59r7) (.ret)
abbrev f59p8 : PC := .seq (.seq (.reg f59r1) (f59p6)) (f59p7)
abbrev f59pc : PC := .seq (.reg f59r0) (f59p8)
def f59k : List Nat := [0, 1, 3, 4, 5, 7, 8, 9, 16]
theorem f59c : Tryz.f59.body.bind (cC te Tryz.f59.ntmps) = some f59pc := by kernel_rfl
/-! slices.Contains[[]maquette/api.Prefix,maquette/api.Prefix] -/
def f36r0 : List PG := [.u (.bx 3 (.t 1)), .u (.mv 4 (.k (.bool false)))]
def f36r1 : List PG := [.u (.mv 5 (.t 0)), .u (.ld 6 2 true (.t 3)), .uc 7 59 [.t 5, .t 6], .u (.bo 8 .geq (.t 7) (.k (.int .i64 0))), .u (.mv 4 (.t 8))]
abbrev f36p0 : PC := .seq (.reg f36r1) (.ret)
abbrev f36pc : PC := .seq (.reg f36r0) (f36p0)
def f36k : List Nat := [0, 1, 3, 4]
theorem f36c : Tryz.f36.body.bind (cC te Tryz.f36.ntmps) = some f36pc := by kernel_rfl
/-! maquette/lower.static -/
def f40r0 : List PG := [.u (.bx 2 (.t 0)), .u (.bx 3 (.t 1)), .u (.mv 4 (.k (.string ⟨#[]⟩))), .u (.mv 5 (.k (.bool false)))]
def f40r1 : List PG := [.u (.mv 6 (.k (.string ⟨#[]⟩))), .u (.mv 7 (.k (.int .i64 (-1))))]
def f40r2 : List PG := [.u (.fa 10 3 (.t 2)), .u (.ld 11 1 false (.t 10)), .u (.len 12 (.t 11)), .u (.mv 13 (.k (.int .i64 0)))]
def f40r3 : List PG := [.u (.bo 14 .lss (.t 13) (.t 12))]
def f40r4 : List PG := [.u (.ia 15 4 (.t 11) (.t 13)), .u (.ld 16 4 true (.t 15)), .u (.al 9 [.d (.v (.int .u32 0)), .d (.v (.int .i64 0)), .d (.v (.string ⟨#[]⟩)), .d (.v (.int .i64 0))]), .u (.st 4 (.t 9) (.t 16))]
def f40r5 : List PG := [.u (.fa 17 0 (.t 9)), .u (.ld 18 2 true (.t 17)), .u (.ld 19 2 true (.t 3)), .uc 20 62 [.t 18, .t 19], .u (.mv 21 (.t 20)), .g 21 true (.fa 22 0 (.t 9)), .g 21 true (.fa 23 1 (.t 22)), .g 21 true (.ld 24 1 false (.t 23)), .g 21 true (.mv 25 (.t 7)), .g 21 true (.bo 26 .gtr (.t 24) (.t 25)), .u (.pick 27 (.t 21) (.t 26) (.k (.bool false)))]
def f40r6 : List PG := [.u (.fa 28 2 (.t 9)), .u (.ld 29 1 false (.t 28)), .u (.fa 30 0 (.t 9)), .u (.fa 31 1 (.t 30)), .u (.ld 32 1 false (.t 31)), .u (.mv 6 (.t 29)), .u (.mv 7 (.t 32))]
abbrev f40p0 : PC := .cond (.t 27) (.regD f40r6 []) (.skip)
abbrev f40p1 : PC := .seq (.reg f40r5) (f40p0)
def f40r7 : List PG := [.u (.bo 33 .add (.t 13) (.k (.int .i64 1))), .u (.mv 13 (.t 33))]
abbrev f40p2 : PC := .seq (.block 1 (.seq (.reg f40r4) (f40p1))) (.reg f40r7)
abbrev f40p3 : PC := .seq (.cond (.t 14) (.skip) (.exit 0)) (f40p2)
abbrev f40p4 : PC := .seq (.reg f40r3) (f40p3)
abbrev f40p5 : PC := .block 0 (.loop (f40p4))
def f40r8 : List PG := [.u (.mv 34 (.t 6)), .u (.mv 35 (.t 7)), .u (.bo 36 .geq (.t 35) (.k (.int .i64 0))), .u (.mv 4 (.t 34)), .u (.mv 5 (.t 36))]
abbrev f40p6 : PC := .seq (.reg f40r8) (.ret)
abbrev f40p7 : PC := .seq (.seq (.reg f40r2) (f40p5)) (f40p6)
abbrev f40p8 : PC := .seq (.reg f40r1) (f40p7)
abbrev f40pc : PC := .seq (.reg f40r0) (f40p8)
def f40k : List Nat := [0, 1, 2, 3, 4, 5, 6, 7, 9, 11, 12, 13, 14, 27]
theorem f40c : Tryz.f40.body.bind (cC te Tryz.f40.ntmps) = some f40pc := by kernel_rfl
/-! maquette/check.Peer -/
def f41r0 : List PG := [.u (.bx 2 (.t 0)), .u (.al 4 [.d (.v (.string ⟨#[]⟩)), .d (.v (.int .i64 0)), .d (.v (.string ⟨#[]⟩)), .d (.v (.string ⟨#[]⟩)), .d (.v (.int .i64 0))]), .u (.mv 5 (.k (.bool false)))]
def f41r1 : List PG := [.u (.fa 8 2 (.t 2)), .u (.ld 9 1 false (.t 8)), .u (.len 10 (.t 9)), .u (.mv 11 (.k (.int .i64 0)))]
def f41r2 : List PG := [.u (.bo 12 .lss (.t 11) (.t 10))]
def f41r3 : List PG := [.u (.ia 13 5 (.t 9) (.t 11)), .u (.ld 14 5 true (.t 13)), .u (.al 7 [.d (.v (.string ⟨#[]⟩)), .d (.v (.int .i64 0)), .d (.v (.string ⟨#[]⟩)), .d (.v (.string ⟨#[]⟩)), .d (.v (.int .i64 0))]), .u (.st 5 (.t 7) (.t 14))]
def f41r4 : List PG := [.u (.fa 15 0 (.t 7)), .u (.ld 16 1 false (.t 15)), .u (.mv 17 (.t 1)), .u (.beq 18 false false (.t 16) (.t 17))]
def f41r5 : List PG := [.u (.ld 19 5 true (.t 7)), .u (.st 5 (.t 4) (.t 19)), .u (.mv 5 (.k (.bool true)))]
abbrev f41p0 : PC := .seq (.reg f41r5) (.ret)
abbrev f41p1 : PC := .cond (.t 18) (f41p0) (.skip)
abbrev f41p2 : PC := .seq (.reg f41r4) (f41p1)
def f41r6 : List PG := [.u (.bo 20 .add (.t 11) (.k (.int .i64 1))), .u (.mv 11 (.t 20))]
abbrev f41p3 : PC := .seq (.block 1 (.seq (.reg f41r3) (f41p2))) (.reg f41r6)
abbrev f41p4 : PC := .seq (.cond (.t 12) (.skip) (.exit 0)) (f41p3)
abbrev f41p5 : PC := .seq (.reg f41r2) (f41p4)
abbrev f41p6 : PC := .block 0 (.loop (f41p5))
def f41r7 : List PG := [.u (.bld 21 [.d (.v (.string ⟨#[]⟩)), .d (.v (.int .i64 0)), .d (.v (.string ⟨#[]⟩)), .d (.v (.string ⟨#[]⟩)), .d (.v (.int .i64 0))] []), .u (.st 5 (.t 4) (.t 21)), .u (.mv 5 (.k (.bool false)))]
abbrev f41p7 : PC := .seq (.reg f41r7) (.ret)
abbrev f41p8 : PC := .seq (.seq (.reg f41r1) (f41p6)) (f41p7)
abbrev f41pc : PC := .seq (.reg f41r0) (f41p8)
def f41k : List Nat := [0, 1, 2, 4, 5, 7, 9, 10, 11, 12, 18]
theorem f41c : Tryz.f41.body.bind (cC te Tryz.f41.ntmps) = some f41pc := by kernel_rfl
/-! maquette/lower.clauses -/
def f42r0 : List PG := [.u (.bx 3 (.t 0)), .u (.bx 5 (.t 2)), .u (.mv 6 (.nl 10))]
def f42r1 : List PG := [.u (.fa 9 0 (.t 3)), .u (.ld 10 1 false (.t 9)), .u (.len 11 (.t 10)), .u (.mv 12 (.k (.int .i64 0)))]
def f42r2 : List PG := [.u (.bo 13 .lss (.t 12) (.t 11))]
def f42r3 : List PG := [.u (.ia 14 3 (.t 10) (.t 12)), .u (.ld 15 3 true (.t 14)), .u (.al 8 [.d (.v (.string ⟨#[]⟩)), .nl 10, .d (.v (.int .i64 0))]), .u (.st 3 (.t 8) (.t 15))]
def f42r4 : List PG := [.u (.fa 16 0 (.t 8)), .u (.ld 17 1 false (.t 16)), .u (.mv 18 (.t 1)), .u (.beq 19 false false (.t 17) (.t 18))]
def f42r5 : List PG := [.u (.fa 20 1 (.t 8)), .u (.ld 21 1 false (.t 20)), .u (.ld 22 2 true (.t 5)), .uc 23 63 [.t 21, .t 22], .u (.mv 6 (.t 23))]
abbrev f42p0 : PC := .seq (.reg f42r5) (.ret)
abbrev f42p1 : PC := .cond (.t 19) (f42p0) (.skip)
abbrev f42p2 : PC := .seq (.reg f42r4) (f42p1)
def f42r6 : List PG := [.u (.bo 24 .add (.t 12) (.k (.int .i64 1))), .u (.mv 12 (.t 24))]
abbrev f42p3 : PC := .seq (.block 1 (.seq (.reg f42r3) (f42p2))) (.reg f42r6)
abbrev f42p4 : PC := .seq (.cond (.t 13) (.skip) (.exit 0)) (f42p3)
abbrev f42p5 : PC := .seq (.reg f42r2) (f42p4)
abbrev f42p6 : PC := .block 0 (.loop (f42p5))
def f42r7 : List PG := [.u (.mv 6 (.nl 10))]
abbrev f42p7 : PC := .seq (.reg f42r7) (.ret)
abbrev f42p8 : PC := .seq (.seq (.reg f42r1) (f42p6)) (f42p7)
abbrev f42pc : PC := .seq (.reg f42r0) (f42p8)
def f42k : List Nat := [0, 1, 2, 3, 5, 6, 8, 10, 11, 12, 13, 19]
theorem f42c : Tryz.f42.body.bind (cC te Tryz.f42.ntmps) = some f42pc := by kernel_rfl
set_option maxRecDepth 20000
set_option maxHeartbeats 4000000
set_option linter.unusedSimpArgs false
set_option linter.unusedVariables false

attribute [local irreducible] rname
theorem index_fn (l : List (Int × Int)) (hl : l.length ≤ maxLen) (a b : Int) : FnS Tryz.prog 59 [.d (.sl 2 (l.map pD)), .ag [.d (.v (.int .u32 a)), .d (.v (.int .i64 b))]] (.d (.v (.int .i64 (ixGo (a, b) l 0)))) := by
  refine fn_of teok Tryz.func59 (by kernel_rfl) f59c f59k [.tmp 4] rfl (by show 2 ≤ 19; omega) ?_
  first | (have _q := @g1; clear _q) | have g1 : Nat.pred 77 = 76 := rfl
  repeat' first
  | (with_reducible first | refine awp_seq ?_ | refine awp_block ?_ | refine awp_reg ?_ | refine awp_regD ?_ | refine awp_ret ?_ | refine awp_skip ?_ | refine awp_exit ?_ | refine normQ_of ?_ | refine wkE_of ?_ | refine runD_nil ?_ | refine runD_cons ?_ | refine runF_cons ?_ | refine runF_nil ?_ | refine KF_of ?_ | refine chkQ_of rfl ?_)
  | with_reducible refine awp_cond (by simp only [evX, lget, Option.getD_some, reduceIte, Nat.reduceEqDiff]; rfl) (fun hc => ?_) (fun hc => ?_)
  | (with_reducible assumption)
  | (with_reducible refine fun (hT : (_ : Bool) = _) => ?_)
  | with_reducible refine And.intro ?_ ?_
  | (with_reducible refine awp_loopU (b := f59p5) (fun i : Nat => i ≤ l.length ∧ ixGo (a, b) (l.drop i) i = ixGo (a, b) l 0) (fun i => l.length - i) (fun i => [(8, .d (.v (.int .i64 i)))]) (fun i => []) (0) (⟨Nat.zero_le _, rfl⟩) (Wk.refl _ _) (Wk_sub rfl rfl ?_ ?_) (fun i hi => ?_))
  | (refine Exists.elim (at_drop pD l i (Int.ofNat_lt.1 (of_decide_eq_true hc))) (fun p he => ?_); have g1 := he.2.1; replace hc : True := trivial)
  | (with_reducible refine loopQ_next (i + 1) ?_ ?_ (Wk_sub rfl rfl ?_ ?_))
  | simp only [f59r0, f59r1, f59r2, f59r3, f59r4, f59r5, f59r6, f59r7, g1, f59k, List.length_map, runG_nil, runG_u, runG_ucS, stp, avL, avS, evs, evX, lget, lput, strip, putO, PO.dst, updO, okR, cells, splice, AV.cell, toD, toDs, binV, sameK, pickV, guardOf, okL_nil, sides, argsOf, rawOf, dv, dvL, owns, ownsL, flat, flatL, lkeep, seqQ, blockQ, initS, List.drop_succ_cons, List.drop_zero, List.take_succ_cons, List.take_zero, List.getD_cons_zero, List.getD_cons_succ, List.length_cons, List.length_nil, List.set_cons_zero, List.set_cons_succ, List.map_cons, List.map_nil, List.all_cons, List.all_nil, List.elem_cons, List.elem_nil, Option.getD_some, Option.getD_none, Option.bind_some, Option.isNone_none, reduceIte, reduceCtorEq, Nat.reduceEqDiff, Nat.reduceAdd, Nat.reduceLeDiff, Nat.zero_add, Nat.add_zero, Nat.reduceBEq, Bool.and_self, Bool.and_true, Bool.true_and, Bool.or_self, Bool.or_false, Bool.false_or, Bool.or_true, Bool.true_or, true_and, and_true, and_self, implies_true, forall_const, Bool.false_eq_true, id_eq, retQ, resOf, resV, Option.some.injEq, exists_eq_left', AV.d.injEq, D.v.injEq, Value.bool.injEq, imp_self, bldF, bldS, toVals, eqLs, Option.map_some, imp_false, not_true_eq_false, not_false_eq_true, foot, wrs, nm, nmL, PG.reads, PG.dst, PO.reads, X.sl, sls, slB, List.append_nil, List.cons_append, List.nil_append, Option.toList_some, Option.toList_none, loopQ_exit, loopQ_ret, subS, subO, Bool.bne_false, Bool.bne_true, elemsOf, bslD, bslS, lputs, List.headD_cons, sealS, sealO, sealV, sealL, sealsS, sealsO, Bool.true_bne, Bool.false_bne, bne_self_eq_false, Int.reduceToNat, oSl, resR, argsN, dvN]
  all_goals try first
    | omega
    | (with_reducible rfl)
    | (show Value.int _ 0 = _; rfl)
    | (simp only [List.length_append, List.length_cons, List.length_nil]; omega)
    | (simp only [List.length_append, List.length_cons, List.length_nil, List.map_append, List.map_cons, List.map_nil]; done)
    | exact count64 he.2.2.2 hl
    | (have h1 := hi.2; rw [he.1, ixGo] at h1; have h2 : (a, b) = p := Prod.ext (by simp at hc; exact hc.1) (by simp at hc; exact hc.2)
       rw [if_pos h2] at h1; rw [← h1]; done)
    | (have h1 := hi.2; rw [he.1, ixGo] at h1; have h2 : (a, b) ≠ p := by rintro rfl; simp at hc
       rw [if_neg h2] at h1; exact h1)
    | (have h0 := of_decide_eq_false hc; have h1 := hi.2; rw [List.drop_eq_nil_of_le (by omega), ixGo] at h1; rw [← h1]; done)
  all_goals trace_state
theorem contains_fn (l : List (Int × Int)) (hl : l.length ≤ maxLen) (a b : Int) : FnS Tryz.prog 36 [.d (.sl 2 (l.map pD)), .ag [.d (.v (.int .u32 a)), .d (.v (.int .i64 b))]] (.d (.v (.bool (l.elem (a, b))))) := by
  have g1 := ix_elem (a, b) l
  refine fn_of teok Tryz.func36 (by kernel_rfl) f36c f36k [.tmp 4] rfl (by show 2 ≤ 9; omega) ?_
  first | (have _q := @g1; clear _q) | have g1 : Nat.pred 77 = 76 := rfl
  repeat' first
  | (with_reducible first | refine awp_seq ?_ | refine awp_reg ?_ | refine awp_ret ?_ | refine awp_skip ?_ | refine normQ_of ?_ | refine wkE_of ?_)
  | with_reducible refine awp_cond (by simp only [evX, lget, Option.getD_some, reduceIte, Nat.reduceEqDiff]; rfl) (fun hc => ?_) (fun hc => ?_)
  | with_reducible refine CallU_of (f := 59) (index_fn l hl a b) (by first | exact Or.inr (Or.inl rfl) | exact Or.inl rfl) ?_
  | (with_reducible assumption)
  | (with_reducible refine fun (hT : (_ : Bool) = _) => ?_)
  | with_reducible refine And.intro ?_ ?_
  | simp only [f36r0, f36r1, g1, f36k, List.length_map, runG_nil, runG_u, runG_ucS, stp, avL, avS, evs, evX, lget, lput, strip, putO, PO.dst, updO, okR, cells, splice, AV.cell, toD, toDs, binV, sameK, pickV, guardOf, okL_nil, sides, argsOf, rawOf, dv, dvL, owns, ownsL, flat, flatL, lkeep, seqQ, blockQ, initS, List.drop_succ_cons, List.drop_zero, List.take_succ_cons, List.take_zero, List.getD_cons_zero, List.getD_cons_succ, List.length_cons, List.length_nil, List.set_cons_zero, List.set_cons_succ, List.map_cons, List.map_nil, List.all_cons, List.all_nil, List.elem_cons, List.elem_nil, Option.getD_some, Option.getD_none, Option.bind_some, Option.isNone_none, reduceIte, reduceCtorEq, Nat.reduceEqDiff, Nat.reduceAdd, Nat.reduceLeDiff, Nat.zero_add, Nat.add_zero, Nat.reduceBEq, Bool.and_self, Bool.and_true, Bool.true_and, Bool.or_self, Bool.or_false, Bool.false_or, Bool.or_true, Bool.true_or, true_and, and_true, and_self, implies_true, forall_const, Bool.false_eq_true, id_eq, retQ, resOf, resV, Option.some.injEq, exists_eq_left', AV.d.injEq, D.v.injEq, Value.bool.injEq, imp_self, bldF, bldS, toVals, eqLs, Option.map_some, imp_false, not_true_eq_false, not_false_eq_true, List.append_nil, List.cons_append, List.nil_append, Option.toList_some, Option.toList_none, subS, subO, Bool.bne_false, Bool.bne_true, elemsOf, bslD, bslS, lputs, List.headD_cons, sealS, sealO, sealV, sealL, sealsS, sealsO, Bool.true_bne, Bool.false_bne, bne_self_eq_false, Int.reduceToNat, oSl, resR, argsN, dvN]
  all_goals trace_state
theorem static_fn (r : Ro) (hr : r.sts.length ≤ maxLen) (a b : Int) : FnS Tryz.prog 40 [.ag r.box, .ag [.d (.v (.int .u32 a)), .d (.v (.int .i64 b))]] (.tp [.d (.v (.string (oname (statGo a b r.sts (none, -1)).1))), .d (.v (.bool (decide (0 ≤ (statGo a b r.sts (none, -1)).2))))]) := by
  refine fn_of teok Tryz.func40 (by kernel_rfl) f40c f40k [.tmp 4, .tmp 5] rfl (by show 2 ≤ 37; omega) ?_
  first | (have _q := @g1; clear _q) | have g1 : Nat.pred 77 = 76 := rfl
  repeat' first
  | (with_reducible first | refine awp_seq ?_ | refine awp_block ?_ | refine awp_reg ?_ | refine awp_regD ?_ | refine awp_ret ?_ | refine awp_skip ?_ | refine awp_exit ?_ | refine normQ_of ?_ | refine wkE_of ?_ | refine runD_nil ?_ | refine runD_cons ?_ | refine runF_cons ?_ | refine runF_nil ?_ | refine KF_of ?_ | refine chkQ_of rfl ?_)
  | with_reducible refine awp_cond (by simp only [evX, lget, Option.getD_some, reduceIte, Nat.reduceEqDiff]; rfl) (fun hc => ?_) (fun hc => ?_)
  | with_reducible refine CallU_of (f := 62) (covers_fn _ _ _ _) (by first | exact Or.inr (Or.inl rfl) | exact Or.inl rfl) ?_
  | (with_reducible assumption)
  | with_reducible refine fun (hG : okL _) => ?_
  | (with_reducible refine fun (hT : (_ : Bool) = _) => ?_)
  | (with_reducible first | exact hG.2 | exact hG.2.2 | exact hG.2.2.2 | exact hG.2.2.2.2)
  | with_reducible refine okL_mk ?_ ?_
  | with_reducible refine And.intro ?_ ?_
  | (with_reducible refine awp_loopU (b := f40p4) (fun x : Nat × Option Nat × Int => x.1 ≤ r.sts.length ∧ statGo a b (r.sts.drop x.1) x.2 = statGo a b r.sts (none, -1)) (fun x => r.sts.length - x.1) (fun x => [(13, .d (.v (.int .i64 x.1))), (6, .d (.v (.string (oname x.2.1)))), (7, .d (.v (.int .i64 x.2.2)))]) (fun x => []) ((0, none, -1)) (⟨Nat.zero_le _, rfl⟩) (Wk.refl _ _) (Wk_sub rfl rfl ?_ ?_) (fun x hx => ?_))
  | (refine Exists.elim (at_drop Way.row r.sts x.1 (Int.ofNat_lt.1 (of_decide_eq_true hc))) (fun w he => ?_); have g1 := he.2.1; replace hc : True := trivial)
  | (have _q : (_ : Bool) = true := hc; with_reducible refine loopQ_next ((x.1 + 1, some w.via, w.b)) ?_ ?_ (Wk_sub rfl rfl ?_ ?_))
  | (have _q : (_ : Bool) = false := hc; with_reducible refine loopQ_next ((x.1 + 1, x.2)) ?_ ?_ (Wk_sub rfl rfl ?_ ?_))
  | simp only [f40r0, f40r1, f40r2, f40r3, f40r4, f40r5, f40r6, f40r7, f40r8, g1, f40k, List.length_map, runG_nil, runG_u, runG_g, runG_ucS, stp, avL, avS, evs, evX, lget, lput, strip, putO, PO.dst, updO, okR, cells, splice, AV.cell, toD, toDs, binV, sameK, pickV, guardOf, okL_nil, sides, argsOf, rawOf, dv, dvL, owns, ownsL, flat, flatL, lkeep, seqQ, blockQ, initS, List.drop_succ_cons, List.drop_zero, List.take_succ_cons, List.take_zero, List.getD_cons_zero, List.getD_cons_succ, List.length_cons, List.length_nil, List.set_cons_zero, List.set_cons_succ, List.map_cons, List.map_nil, List.all_cons, List.all_nil, List.elem_cons, List.elem_nil, Option.getD_some, Option.getD_none, Option.bind_some, Option.isNone_none, reduceIte, reduceCtorEq, Nat.reduceEqDiff, Nat.reduceAdd, Nat.reduceLeDiff, Nat.zero_add, Nat.add_zero, Nat.reduceBEq, Bool.and_self, Bool.and_true, Bool.true_and, Bool.or_self, Bool.or_false, Bool.false_or, Bool.or_true, Bool.true_or, true_and, and_true, and_self, implies_true, forall_const, Bool.false_eq_true, id_eq, retQ, resOf, resV, Option.some.injEq, exists_eq_left', AV.d.injEq, D.v.injEq, Value.bool.injEq, imp_self, bldF, bldS, toVals, eqLs, Option.map_some, imp_false, not_true_eq_false, not_false_eq_true, foot, wrs, nm, nmL, PG.reads, PG.dst, PO.reads, X.sl, sls, slB, List.append_nil, List.cons_append, List.nil_append, Option.toList_some, Option.toList_none, loopQ_exit, loopQ_ret, subS, subO, Bool.bne_false, Bool.bne_true, elemsOf, bslD, bslS, lputs, List.headD_cons, sealS, sealO, sealV, sealL, sealsS, sealsO, Bool.true_bne, Bool.false_bne, bne_self_eq_false, Int.reduceToNat, oSl, resR, argsN, dvN]
  all_goals try first
    | omega
    | (with_reducible rfl)
    | (show Value.int _ 0 = _; rfl)
    | (simp only [List.length_append, List.length_cons, List.length_nil]; omega)
    | (simp only [List.length_append, List.length_cons, List.length_nil, List.map_append, List.map_cons, List.map_nil]; done)
    | exact count64 he.2.2.2 hr
    | rfl
    | (have h1 := hx.2; rw [he.1, statGo] at h1; simp only [Bool.and_eq_true, decide_eq_true_eq] at h1; simp at hc; rw [if_pos hc] at h1; exact h1)
    | (have h1 := hx.2; rw [he.1, statGo] at h1; simp only [Bool.and_eq_true, decide_eq_true_eq] at h1; rw [if_neg (by intro q; simp [q.1, q.2] at hc)] at h1; exact h1)
    | (have h0 := of_decide_eq_false hc; have h1 := hx.2; rw [List.drop_eq_nil_of_le (by omega), statGo] at h1; rw [← h1]; done)
  all_goals trace_state
def peerA : Option Lk → AV
  | none => .tp [.ag [.d (.v (.string ⟨#[]⟩)), .d (.v (.int .i64 0)), .d (.v (.string ⟨#[]⟩)), .d (.v (.string ⟨#[]⟩)), .d (.v (.int .i64 0))], .d (.v (.bool false))]
  | some l => .tp [.ag l.box, .d (.v (.bool true))]
theorem peer_fn (r : Ro) (hr : r.links.length ≤ maxLen) (hp : ∀ l ∈ r.links, l.peer < 8) (k : Nat) (hk : k < 8) : FnS Tryz.prog 41 [.ag r.box, .d (.v (.string (rname k)))] (peerA (peerV r.links k)) := by
  refine fn_of teok Tryz.func41 (by kernel_rfl) f41c f41k [.cell 4 102, .tmp 5] rfl (by show 2 ≤ 22; omega) ?_
  first | (have _q := @g1; clear _q) | have g1 : Nat.pred 77 = 76 := rfl
  repeat' first
  | (with_reducible first | refine awp_seq ?_ | refine awp_block ?_ | refine awp_reg ?_ | refine awp_ret ?_ | refine awp_skip ?_ | refine awp_exit ?_ | refine normQ_of ?_ | refine wkE_of ?_)
  | with_reducible refine awp_cond (by simp only [evX, lget, Option.getD_some, reduceIte, Nat.reduceEqDiff]; rfl) (fun hc => ?_) (fun hc => ?_)
  | (with_reducible assumption)
  | (with_reducible refine fun (hT : (_ : Bool) = _) => ?_)
  | with_reducible refine And.intro ?_ ?_
  | (with_reducible refine awp_loopU (b := f41p5) (fun i : Nat => i ≤ r.links.length ∧ peerV (r.links.drop i) k = peerV r.links k) (fun i => r.links.length - i) (fun i => [(11, .d (.v (.int .i64 i)))]) (fun i => []) (0) (⟨Nat.zero_le _, rfl⟩) (Wk.refl _ _) (Wk_sub rfl rfl ?_ ?_) (fun i hi => ?_))
  | (refine Exists.elim (at_drop Lk.row r.links i (Int.ofNat_lt.1 (of_decide_eq_true hc))) (fun l he => ?_); have g1 := he.2.1; replace hc : True := trivial)
  | (with_reducible refine loopQ_next (i + 1) ?_ ?_ (Wk_sub rfl rfl ?_ ?_))
  | simp only [f41r0, f41r1, f41r2, f41r3, f41r4, f41r5, f41r6, f41r7, g1, f41k, te102, List.length_map, runG_nil, runG_u, runG_ucS, stp, avL, avS, evs, evX, lget, lput, strip, putO, PO.dst, updO, okR, cells, splice, AV.cell, toD, toDs, binV, sameK, pickV, guardOf, okL_nil, sides, argsOf, rawOf, dv, dvL, owns, ownsL, flat, flatL, lkeep, seqQ, blockQ, initS, List.drop_succ_cons, List.drop_zero, List.take_succ_cons, List.take_zero, List.getD_cons_zero, List.getD_cons_succ, List.length_cons, List.length_nil, List.set_cons_zero, List.set_cons_succ, List.map_cons, List.map_nil, List.all_cons, List.all_nil, List.elem_cons, List.elem_nil, Option.getD_some, Option.getD_none, Option.bind_some, Option.isNone_none, reduceIte, reduceCtorEq, Nat.reduceEqDiff, Nat.reduceAdd, Nat.reduceLeDiff, Nat.zero_add, Nat.add_zero, Nat.reduceBEq, Bool.and_self, Bool.and_true, Bool.true_and, Bool.or_self, Bool.or_false, Bool.false_or, Bool.or_true, Bool.true_or, true_and, and_true, and_self, implies_true, forall_const, Bool.false_eq_true, id_eq, retQ, resOf, resV, Option.some.injEq, exists_eq_left', AV.d.injEq, D.v.injEq, Value.bool.injEq, imp_self, bldF, bldS, toVals, eqLs, Option.map_some, imp_false, not_true_eq_false, not_false_eq_true, List.append_nil, List.cons_append, List.nil_append, Option.toList_some, Option.toList_none, loopQ_exit, loopQ_ret, subS, subO, Bool.bne_false, Bool.bne_true, elemsOf, bslD, bslS, lputs, List.headD_cons, sealS, sealO, sealV, sealL, sealsS, sealsO, Bool.true_bne, Bool.false_bne, bne_self_eq_false, Int.reduceToNat, oSl, resR, argsN, dvN]
  all_goals try first
    | omega
    | (with_reducible rfl)
    | (show Value.int _ 0 = _; rfl)
    | (simp only [List.length_append, List.length_cons, List.length_nil]; omega)
    | (simp only [List.length_append, List.length_cons, List.length_nil, List.map_append, List.map_cons, List.map_nil]; done)
    | exact count64 he.2.2.2 hr
    | (have h3 := rname_inj l.peer (hp l (List.mem_of_getElem? he.2.2.1)) k hk; have h1 := hi.2; rw [he.1, peerV, List.find?_cons] at h1
       have h4 : (l.peer == k) = true := by simpa [h3] using hc
       rw [h4] at h1; rw [← h1]; rfl)
    | (have h3 := rname_inj l.peer (hp l (List.mem_of_getElem? he.2.2.1)) k hk; have h1 := hi.2; rw [he.1, peerV, List.find?_cons] at h1
       have h4 : (l.peer == k) = false := by simpa [h3] using hc
       rw [h4] at h1; exact h1)
    | (have h0 := of_decide_eq_false hc; have h1 := hi.2; rw [List.drop_eq_nil_of_le (by omega)] at h1; rw [← h1]; rfl)
  all_goals trace_state
theorem clauses_of_fn (c : Conf) (hl : c.maps.length ≤ maxLen) (hm : ∀ m ∈ c.maps, m.cls.length ≤ 1048576) (name : ByteArray) (a b : Int) : FnS Tryz.prog 42 [c.av, .d (.v (.string name)), .ag [.d (.v (.int .u32 a)), .d (.v (.int .i64 b))]] (.d (.sl 10 ((clausesV c.maps name a b).map Clause.row))) := by
  refine fn_of teok Tryz.func42 (by kernel_rfl) f42c f42k [.tmp 6] rfl (by show 3 ≤ 25; omega) ?_
  first | (have _q := @g1; clear _q) | have g1 : Nat.pred 77 = 76 := rfl
  repeat' first
  | (with_reducible first | refine awp_seq ?_ | refine awp_block ?_ | refine awp_reg ?_ | refine awp_ret ?_ | refine awp_skip ?_ | refine awp_exit ?_ | refine normQ_of ?_ | refine wkE_of ?_)
  | with_reducible refine awp_cond (by simp only [evX, lget, Option.getD_some, reduceIte, Nat.reduceEqDiff]; rfl) (fun hc => ?_) (fun hc => ?_)
  | with_reducible refine CallU_of (f := 63) (for_fn m.cls (hm m (List.mem_of_getElem? he.2.2.1)) a b) (by first | exact Or.inr (Or.inl rfl) | exact Or.inl rfl) ?_
  | (with_reducible assumption)
  | (with_reducible refine fun (hT : (_ : Bool) = _) => ?_)
  | with_reducible refine And.intro ?_ ?_
  | (with_reducible refine awp_loopU (b := f42p5) (fun i : Nat => i ≤ c.maps.length ∧ clausesV (c.maps.drop i) name a b = clausesV c.maps name a b) (fun i => c.maps.length - i) (fun i => [(12, .d (.v (.int .i64 i)))]) (fun i => []) (0) (⟨Nat.zero_le _, rfl⟩) (Wk.refl _ _) (Wk_sub rfl rfl ?_ ?_) (fun i hi => ?_))
  | (refine Exists.elim (at_drop Mp.row c.maps i (Int.ofNat_lt.1 (of_decide_eq_true hc))) (fun m he => ?_); have g1 := he.2.1; replace hc : True := trivial)
  | (with_reducible refine loopQ_next (i + 1) ?_ ?_ (Wk_sub rfl rfl ?_ ?_))
  | simp only [f42r0, f42r1, f42r2, f42r3, f42r4, f42r5, f42r6, f42r7, g1, f42k, te93, List.length_map, runG_nil, runG_u, runG_ucS, stp, avL, avS, evs, evX, lget, lput, strip, putO, PO.dst, updO, okR, cells, splice, AV.cell, toD, toDs, binV, sameK, pickV, guardOf, okL_nil, sides, argsOf, rawOf, dv, dvL, owns, ownsL, flat, flatL, lkeep, seqQ, blockQ, initS, List.drop_succ_cons, List.drop_zero, List.take_succ_cons, List.take_zero, List.getD_cons_zero, List.getD_cons_succ, List.length_cons, List.length_nil, List.set_cons_zero, List.set_cons_succ, List.map_cons, List.map_nil, List.all_cons, List.all_nil, List.elem_cons, List.elem_nil, Option.getD_some, Option.getD_none, Option.bind_some, Option.isNone_none, reduceIte, reduceCtorEq, Nat.reduceEqDiff, Nat.reduceAdd, Nat.reduceLeDiff, Nat.zero_add, Nat.add_zero, Nat.reduceBEq, Bool.and_self, Bool.and_true, Bool.true_and, Bool.or_self, Bool.or_false, Bool.false_or, Bool.or_true, Bool.true_or, true_and, and_true, and_self, implies_true, forall_const, Bool.false_eq_true, id_eq, retQ, resOf, resV, Option.some.injEq, exists_eq_left', AV.d.injEq, D.v.injEq, Value.bool.injEq, imp_self, bldF, bldS, toVals, eqLs, Option.map_some, imp_false, not_true_eq_false, not_false_eq_true, List.append_nil, List.cons_append, List.nil_append, Option.toList_some, Option.toList_none, loopQ_exit, loopQ_ret, subS, subO, Bool.bne_false, Bool.bne_true, elemsOf, bslD, bslS, lputs, List.headD_cons, sealS, sealO, sealV, sealL, sealsS, sealsO, Bool.true_bne, Bool.false_bne, bne_self_eq_false, Int.reduceToNat, oSl, resR, argsN, dvN]
  all_goals try first
    | omega
    | (with_reducible rfl)
    | (show Value.int _ 0 = _; rfl)
    | (simp only [List.length_append, List.length_cons, List.length_nil]; omega)
    | (simp only [List.length_append, List.length_cons, List.length_nil, List.map_append, List.map_cons, List.map_nil]; done)
    | exact count64 he.2.2.2 hl
    | (have h1 := hi.2; rw [he.1, clausesV, List.find?_cons] at h1
       have h4 : decide (m.name = name) = true := by simpa using hc
       rw [h4] at h1; simp only at h1; rw [h1]; done)
    | (have h1 := hi.2; rw [he.1, clausesV, List.find?_cons] at h1
       have h4 : decide (m.name = name) = false := by simpa using hc
       rw [h4] at h1; exact h1)
    | (have h0 := of_decide_eq_false hc; have h1 := hi.2; rw [List.drop_eq_nil_of_le (by omega)] at h1; rw [← h1]; rfl)
  all_goals trace_state
end Go.Proofs.YtokfackbnnkbnaaGreatDoor

