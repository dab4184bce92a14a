/- What layer 13's parts come to: a row's places, ways, peers, clauses of a name. Printed by a program of this project (wip/mq). -/
import Derived.Test.YtgkkaimcchlnaaaGreatDoorMake
import Derived.Test.YtgkkaimcchlnaaaGreatDoorMqPl
set_option linter.unusedVariables false
set_option linter.unusedSimpArgs false

namespace Go.Proofs.YtgkkaimcchlnaaaGreatDoor
open Go Mq Go.ChangeShapes Go.WideShapes Go.ChangeAt Go.RowKit
/-! slices.Index[[]maquette/api.Prefix,maquette/api.Prefix] -/
def f119r0 : List PG := [.u (.bx 3 (.t 1)), .u (.mv 4 (.k (.int .i64 0)))]
def f119r1 : List PG := [.u (.mv 6 (.t 0)), .u (.len 7 (.t 6)), .u (.mv 8 (.k (.int .i64 0)))]
def f119r2 : List PG := [.u (.bo 9 .lss (.t 8) (.t 7))]
def f119r3 : List PG := [.u (.mv 10 (.t 8)), .u (.mv 5 (.t 10))]
def f119r4 : List PG := [.u (.ld 11 2 true (.t 3)), .u (.mv 12 (.t 0)), .u (.mv 13 (.t 5)), .u (.ia 14 2 (.t 12) (.t 13)), .u (.ld 15 2 true (.t 14)), .u (.beqs 16 false [.i, .i] (.t 11) (.t 15))]
def f119r5 : List PG := [.u (.mv 17 (.t 5)), .u (.mv 4 (.t 17))]
abbrev f119p0 : PC := .seq (.reg f119r5) (.ret)
abbrev f119p1 : PC := .cond (.t 16) (f119p0) (.skip)
abbrev f119p2 : PC := .seq (.regD f119r4 []) (f119p1)
def f119r6 : List PG := [.u (.bo 18 .add (.t 8) (.k (.int .i64 1))), .u (.mv 8 (.t 18))]
abbrev f119p3 : PC := .seq (.block 1 (.seq (.reg f119r3) (f119p2))) (.reg f119r6)
abbrev f119p4 : PC := .seq (.cond (.t 9) (.skip) (.exit 0)) (f119p3)
abbrev f119p5 : PC := .seq (.reg f119r2) (f119p4)
abbrev f119p6 : PC := .block 0 (.loop (f119p5))
def f119r7 : List PG := [.u (.mv 4 (.k (.int .i64 (-1))))]
abbrev f119p7 : PC := .seq (.reg f119r7) (.ret)
abbrev f119p8 : PC := .seq (.seq (.reg f119r1) (f119p6)) (f119p7)
abbrev f119pc : PC := .seq (.reg f119r0) (f119p8)
def f119k : List Nat := [0, 1, 3, 4, 5, 7, 8, 9, 16]
theorem f119c : Tryz.f119.body.bind (cC te Tryz.f119.ntmps) = some f119pc := by kernel_rfl
/-! slices.Contains[[]maquette/api.Prefix,maquette/api.Prefix] -/
def f73r0 : List PG := [.u (.bx 3 (.t 1)), .u (.mv 4 (.k (.bool false)))]
def f73r1 : List PG := [.u (.mv 5 (.t 0)), .u (.ld 6 2 true (.t 3)), .uc 7 119 [.t 5, .t 6], .u (.bo 8 .geq (.t 7) (.k (.int .i64 0))), .u (.mv 4 (.t 8))]
abbrev f73p0 : PC := .seq (.reg f73r1) (.ret)
abbrev f73pc : PC := .seq (.reg f73r0) (f73p0)
def f73k : List Nat := [0, 1, 3, 4]
theorem f73c : Tryz.f73.body.bind (cC te Tryz.f73.ntmps) = some f73pc := by kernel_rfl
/-! maquette/lower.static -/
def f74r0 : List PG := [.u (.bx 2 (.t 0)), .u (.bx 3 (.t 1)), .u (.mv 4 (.k (.string ⟨#[]⟩))), .u (.mv 5 (.k (.bool false)))]
def f74r1 : List PG := [.u (.mv 6 (.k (.string ⟨#[]⟩))), .u (.mv 7 (.k (.int .i64 (-1))))]
def f74r2 : List PG := [.u (.fa 10 3 (.t 2)), .u (.ld 11 1 false (.t 10)), .u (.len 12 (.t 11)), .u (.mv 13 (.k (.int .i64 0)))]
def f74r3 : List PG := [.u (.bo 14 .lss (.t 13) (.t 12))]
def f74r4 : List PG := [.u (.ia 15 4 (.t 11) (.t 13)), .u (.ld 16 4 true (.t 15)), .u (.al 9 [.d (.v (.int .u32 0)), .d (.v (.int .i64 0)), .d (.v (.string ⟨#[]⟩)), .d (.v (.int .i64 0))]), .u (.st 4 (.t 9) (.t 16))]
def f74r5 : List PG := [.u (.fa 17 0 (.t 9)), .u (.ld 18 2 true (.t 17)), .u (.ld 19 2 true (.t 3)), .uc 20 120 [.t 18, .t 19], .u (.mv 21 (.t 20)), .g 21 true (.fa 22 0 (.t 9)), .g 21 true (.fa 23 1 (.t 22)), .g 21 true (.ld 24 1 false (.t 23)), .g 21 true (.mv 25 (.t 7)), .g 21 true (.bo 26 .gtr (.t 24) (.t 25)), .u (.pick 27 (.t 21) (.t 26) (.k (.bool false)))]
def f74r6 : List PG := [.u (.fa 28 2 (.t 9)), .u (.ld 29 1 false (.t 28)), .u (.fa 30 0 (.t 9)), .u (.fa 31 1 (.t 30)), .u (.ld 32 1 false (.t 31)), .u (.mv 6 (.t 29)), .u (.mv 7 (.t 32))]
abbrev f74p0 : PC := .cond (.t 27) (.regD f74r6 []) (.skip)
abbrev f74p1 : PC := .seq (.reg f74r5) (f74p0)
def f74r7 : List PG := [.u (.bo 33 .add (.t 13) (.k (.int .i64 1))), .u (.mv 13 (.t 33))]
abbrev f74p2 : PC := .seq (.block 1 (.seq (.reg f74r4) (f74p1))) (.reg f74r7)
abbrev f74p3 : PC := .seq (.cond (.t 14) (.skip) (.exit 0)) (f74p2)
abbrev f74p4 : PC := .seq (.reg f74r3) (f74p3)
abbrev f74p5 : PC := .block 0 (.loop (f74p4))
def f74r8 : List PG := [.u (.mv 34 (.t 6)), .u (.mv 35 (.t 7)), .u (.bo 36 .geq (.t 35) (.k (.int .i64 0))), .u (.mv 4 (.t 34)), .u (.mv 5 (.t 36))]
abbrev f74p6 : PC := .seq (.reg f74r8) (.ret)
abbrev f74p7 : PC := .seq (.seq (.reg f74r2) (f74p5)) (f74p6)
abbrev f74p8 : PC := .seq (.reg f74r1) (f74p7)
abbrev f74pc : PC := .seq (.reg f74r0) (f74p8)
def f74k : List Nat := [0, 1, 2, 3, 4, 5, 6, 7, 9, 11, 12, 13, 14, 27]
theorem f74c : Tryz.f74.body.bind (cC te Tryz.f74.ntmps) = some f74pc := by kernel_rfl
/-! maquette/check.Peer -/
def f75r0 : List PG := [.u (.bx 2 (.t 0)), .u (.al 4 [.d (.v (.string ⟨#[]⟩)), .d (.v (.int .i64 0)), .d (.v (.string ⟨#[]⟩)), .d (.v (.string ⟨#[]⟩)), .d (.v (.int .i64 0))]), .u (.mv 5 (.k (.bool false)))]
def f75r1 : List PG := [.u (.fa 8 2 (.t 2)), .u (.ld 9 1 false (.t 8)), .u (.len 10 (.t 9)), .u (.mv 11 (.k (.int .i64 0)))]
def f75r2 : List PG := [.u (.bo 12 .lss (.t 11) (.t 10))]
def f75r3 : List PG := [.u (.ia 13 5 (.t 9) (.t 11)), .u (.ld 14 5 true (.t 13)), .u (.al 7 [.d (.v (.string ⟨#[]⟩)), .d (.v (.int .i64 0)), .d (.v (.string ⟨#[]⟩)), .d (.v (.string ⟨#[]⟩)), .d (.v (.int .i64 0))]), .u (.st 5 (.t 7) (.t 14))]
def f75r4 : List PG := [.u (.fa 15 0 (.t 7)), .u (.ld 16 1 false (.t 15)), .u (.mv 17 (.t 1)), .u (.beq 18 false false (.t 16) (.t 17))]
def f75r5 : List PG := [.u (.ld 19 5 true (.t 7)), .u (.st 5 (.t 4) (.t 19)), .u (.mv 5 (.k (.bool true)))]
abbrev f75p0 : PC := .seq (.reg f75r5) (.ret)
abbrev f75p1 : PC := .cond (.t 18) (f75p0) (.skip)
abbrev f75p2 : PC := .seq (.reg f75r4) (f75p1)
def f75r6 : List PG := [.u (.bo 20 .add (.t 11) (.k (.int .i64 1))), .u (.mv 11 (.t 20))]
abbrev f75p3 : PC := .seq (.block 1 (.seq (.reg f75r3) (f75p2))) (.reg f75r6)
abbrev f75p4 : PC := .seq (.cond (.t 12) (.skip) (.exit 0)) (f75p3)
abbrev f75p5 : PC := .seq (.reg f75r2) (f75p4)
abbrev f75p6 : PC := .block 0 (.loop (f75p5))
def f75r7 : List PG := [.u (.bld 21 [.d (.v (.string ⟨#[]⟩)), .d (.v (.int .i64 0)), .d (.v (.string ⟨#[]⟩)), .d (.v (.string ⟨#[]⟩)), .d (.v (.int .i64 0))] []), .u (.st 5 (.t 4) (.t 21)), .u (.mv 5 (.k (.bool false)))]
abbrev f75p7 : PC := .seq (.reg f75r7) (.ret)
abbrev f75p8 : PC := .seq (.seq (.reg f75r1) (f75p6)) (f75p7)
abbrev f75pc : PC := .seq (.reg f75r0) (f75p8)
def f75k : List Nat := [0, 1, 2, 4, 5, 7, 9, 10, 11, 12, 18]
theorem f75c : Tryz.f75.body.bind (cC te Tryz.f75.ntmps) = some f75pc := by kernel_rfl
/-! maquette/lower.clauses -/
def f76r0 : List PG := [.u (.bx 3 (.t 0)), .u (.bx 5 (.t 2)), .u (.mv 6 (.nl 10))]
def f76r1 : List PG := [.u (.fa 9 0 (.t 3)), .u (.ld 10 1 false (.t 9)), .u (.len 11 (.t 10)), .u (.mv 12 (.k (.int .i64 0)))]
def f76r2 : List PG := [.u (.bo 13 .lss (.t 12) (.t 11))]
def f76r3 : List PG := [.u (.ia 14 3 (.t 10) (.t 12)), .u (.ld 15 3 true (.t 14)), .u (.al 8 [.d (.v (.string ⟨#[]⟩)), .nl 10, .d (.v (.int .i64 0))]), .u (.st 3 (.t 8) (.t 15))]
def f76r4 : List PG := [.u (.fa 16 0 (.t 8)), .u (.ld 17 1 false (.t 16)), .u (.mv 18 (.t 1)), .u (.beq 19 false false (.t 17) (.t 18))]
def f76r5 : List PG := [.u (.fa 20 1 (.t 8)), .u (.ld 21 1 false (.t 20)), .u (.ld 22 2 true (.t 5)), .uc 23 93 [.t 21, .t 22], .u (.mv 6 (.t 23))]
abbrev f76p0 : PC := .seq (.reg f76r5) (.ret)
abbrev f76p1 : PC := .cond (.t 19) (f76p0) (.skip)
abbrev f76p2 : PC := .seq (.reg f76r4) (f76p1)
def f76r6 : List PG := [.u (.bo 24 .add (.t 12) (.k (.int .i64 1))), .u (.mv 12 (.t 24))]
abbrev f76p3 : PC := .seq (.block 1 (.seq (.reg f76r3) (f76p2))) (.reg f76r6)
abbrev f76p4 : PC := .seq (.cond (.t 13) (.skip) (.exit 0)) (f76p3)
abbrev f76p5 : PC := .seq (.reg f76r2) (f76p4)
abbrev f76p6 : PC := .block 0 (.loop (f76p5))
def f76r7 : List PG := [.u (.mv 6 (.nl 10))]
abbrev f76p7 : PC := .seq (.reg f76r7) (.ret)
abbrev f76p8 : PC := .seq (.seq (.reg f76r1) (f76p6)) (f76p7)
abbrev f76pc : PC := .seq (.reg f76r0) (f76p8)
def f76k : List Nat := [0, 1, 2, 3, 5, 6, 8, 10, 11, 12, 13, 19]
theorem f76c : Tryz.f76.body.bind (cC te Tryz.f76.ntmps) = some f76pc := by kernel_rfl
set_option maxRecDepth 20000
set_option maxHeartbeats 4000000


attribute [local irreducible] rname
theorem index_fn (l : List (Int × Int)) (hl : l.length ≤ maxLen) (a b : Int) : FnS Tryz.prog 119 [.d (.sl 2 (l.map pD)), .ag [.d (.v (.int .u32 a)), .d (.v (.int .i64 b))]] (.d (.v (.int .i64 (ixGo (a, b) l 0)))) := by
  refine fn_of teok Tryz.func119 (by kernel_rfl) f119c f119k [.tmp 4] rfl (by show 2 ≤ 19; omega) ?_
  first | (have _q := @g1; clear _q) | have g1 : Nat.pred 77 = 76 := rfl
  repeat' first
|(with_reducible first | refine awp_seq ?_ | refine awp_block ?_ | refine awp_reg ?_ | refine awp_regD ?_ | refine awp_ret ?_ | refine awp_skip ?_ | refine awp_exit ?_ | refine normQ_of ?_ | refine wkE_of ?_ | refine runD_nil ?_ | refine runD_cons ?_ | refine runF_cons ?_ | refine runF_nil ?_ | refine KF_of ?_ | refine chkQ_of rfl ?_)
|with_reducible refine awp_cond (by simp only [evX, lget, Option.getD_some, reduceIte, Nat.reduceEqDiff]; rfl) (fun hc => ?_) (fun hc => ?_)
|(with_reducible assumption)
|(with_reducible refine fun (hT : (_ : Bool) = _) => ?_)
|with_reducible refine And.intro ?_ ?_
|(with_reducible refine awp_loopU (b := f119p5) (fun i : Nat => i ≤ l.length ∧ ixGo (a, b) (l.drop i) i = ixGo (a, b) l 0) (fun i => l.length - i) (fun i => [(8, .d (.v (.int .i64 i)))]) (fun i => []) (0) (⟨Nat.zero_le _, rfl⟩) (Wk.refl _ _) (Wk_sub rfl rfl ?_ ?_) (fun i hi => ?_))
|(refine Exists.elim (at_drop pD l i (Int.ofNat_lt.1 (of_decide_eq_true hc))) (fun p he => ?_); have g1 := he.2.1; replace hc : True := trivial)
|(with_reducible refine loopQ_next (i + 1) ?_ ?_ (Wk_sub rfl rfl ?_ ?_))
|simp only [f119r0, f119r1, f119r2, f119r3, f119r4, f119r5, f119r6, f119r7, g1, f119k, List.length_map, runG_nil, runG_u, stp, evs, evX, lget, lput, strip, putO, PO.dst, updO, okR, cells, AV.cell, binV, sameK, dv, lkeep, seqQ, blockQ, initS, List.drop_zero, List.take_succ_cons, List.take_zero, List.getD_cons_zero, List.length_cons, List.length_nil, List.map_cons, List.map_nil, List.all_cons, List.all_nil, List.elem_cons, List.elem_nil, Option.getD_some, Option.bind_some, Option.isNone_none, reduceIte, reduceCtorEq, Nat.reduceEqDiff, Nat.reduceAdd, Nat.reduceLeDiff, Nat.zero_add, Nat.reduceBEq, Bool.and_self, Bool.and_true, true_and, and_true, and_self, Bool.false_eq_true, retQ, resOf, resV, Option.some.injEq, exists_eq_left', AV.d.injEq, D.v.injEq, toVals, eqLs, Option.map_some, loopQ_exit, loopQ_ret, subS, subO, Bool.bne_false, lputs]
  all_goals try first
    | omega
    | (with_reducible rfl)
    | (show Value.int _ 0 = _; rfl)
    | (simp only [List.length_append, List.length_cons, List.length_nil]; omega)
    | (simp only [List.length_append, List.length_cons, List.length_nil, List.map_append, List.map_cons, List.map_nil]; done)
    | exact count64 he.2.2.2 hl
    | (have h1 := hi.2; rw [he.1, ixGo] at h1; have h2 : (a, b) = p := Prod.ext (by simp at hc; exact hc.1) (by simp at hc; exact hc.2)
       rw [if_pos h2] at h1; rw [← h1]; done)
    | (have h1 := hi.2; rw [he.1, ixGo] at h1; have h2 : (a, b) ≠ p := by rintro rfl; simp at hc
       rw [if_neg h2] at h1; exact h1)
    | (have h0 := of_decide_eq_false hc; have h1 := hi.2; rw [List.drop_eq_nil_of_le (by omega), ixGo] at h1; rw [← h1]; done)
  all_goals trace_state
theorem contains_fn (l : List (Int × Int)) (hl : l.length ≤ maxLen) (a b : Int) : FnS Tryz.prog 73 [.d (.sl 2 (l.map pD)), .ag [.d (.v (.int .u32 a)), .d (.v (.int .i64 b))]] (.d (.v (.bool (l.elem (a, b))))) := by
  have g1 := ix_elem (a, b) l
  refine fn_of teok Tryz.func73 (by kernel_rfl) f73c f73k [.tmp 4] rfl (by show 2 ≤ 9; omega) ?_
  first | (have _q := @g1; clear _q) | have g1 : Nat.pred 77 = 76 := rfl
  repeat' first
|(with_reducible first | refine awp_seq ?_ | refine awp_reg ?_ | refine awp_ret ?_ | refine awp_skip ?_ | refine normQ_of ?_ | refine wkE_of ?_)
|with_reducible refine awp_cond (by simp only [evX]; rfl) (fun hc => ?_) (fun hc => ?_)
|with_reducible refine CallU_of (f := 119) (index_fn l hl a b) (by first | exact Or.inr (Or.inl rfl) | exact Or.inl rfl) ?_
|(with_reducible assumption)
|(with_reducible refine fun (hT : (_ : Bool) = _) => ?_)
|with_reducible refine And.intro ?_ ?_
|simp only [f73r0, f73r1, g1, f73k, runG_nil, runG_u, runG_ucS, stp, evs, evX, lget, lput, strip, putO, PO.dst, updO, okR, cells, AV.cell, binV, sameK, sides, argsOf, rawOf, dv, dvL, owns, ownsL, lkeep, seqQ, initS, List.drop_zero, List.take_succ_cons, List.take_zero, List.getD_cons_zero, List.length_cons, List.length_nil, List.all_cons, List.all_nil, List.elem_cons, List.elem_nil, Option.getD_some, Option.bind_some, Option.isNone_none, reduceIte, reduceCtorEq, Nat.reduceEqDiff, Nat.reduceAdd, Nat.reduceLeDiff, Nat.zero_add, Nat.reduceBEq, Bool.and_self, Bool.or_self, true_and, and_self, Bool.false_eq_true, retQ, resOf, resV, Option.some.injEq, exists_eq_left', argsN, dvN]
  all_goals trace_state
theorem static_fn (r : Ro) (hr : r.sts.length ≤ maxLen) (a b : Int) : FnS Tryz.prog 74 [.ag r.box, .ag [.d (.v (.int .u32 a)), .d (.v (.int .i64 b))]] (.tp [.d (.v (.string (oname (statGo a b r.sts (none, -1)).1))), .d (.v (.bool (decide (0 ≤ (statGo a b r.sts (none, -1)).2))))]) := by
  refine fn_of teok Tryz.func74 (by kernel_rfl) f74c f74k [.tmp 4, .tmp 5] rfl (by show 2 ≤ 37; omega) ?_
  first | (have _q := @g1; clear _q) | have g1 : Nat.pred 77 = 76 := rfl
  repeat' first
|(with_reducible first | refine awp_seq ?_ | refine awp_block ?_ | refine awp_reg ?_ | refine awp_regD ?_ | refine awp_ret ?_ | refine awp_skip ?_ | refine awp_exit ?_ | refine normQ_of ?_ | refine wkE_of ?_ | refine runD_nil ?_ | refine runD_cons ?_ | refine runF_cons ?_ | refine runF_nil ?_ | refine KF_of ?_ | refine chkQ_of rfl ?_)
|with_reducible refine awp_cond (by simp only [evX, lget, Option.getD_some, reduceIte, Nat.reduceEqDiff]; rfl) (fun hc => ?_) (fun hc => ?_)
|with_reducible refine CallU_of (f := 120) (covers_fn _ _ _ _) (by first | exact Or.inr (Or.inl rfl) | exact Or.inl rfl) ?_
|(with_reducible assumption)
|with_reducible refine fun (hG : okL _) => ?_
|(with_reducible refine fun (hT : (_ : Bool) = _) => ?_)
|(with_reducible first | exact hG.2 | exact hG.2.2 | exact hG.2.2.2 | exact hG.2.2.2.2)
|with_reducible refine okL_mk ?_ ?_
|with_reducible refine And.intro ?_ ?_
|(with_reducible refine awp_loopU (b := f74p4) (fun x : Nat × Option Nat × Int => x.1 ≤ r.sts.length ∧ statGo a b (r.sts.drop x.1) x.2 = statGo a b r.sts (none, -1)) (fun x => r.sts.length - x.1) (fun x => [(13, .d (.v (.int .i64 x.1))), (6, .d (.v (.string (oname x.2.1)))), (7, .d (.v (.int .i64 x.2.2)))]) (fun x => []) ((0, none, -1)) (⟨Nat.zero_le _, rfl⟩) (Wk.refl _ _) (Wk_sub rfl rfl ?_ ?_) (fun x hx => ?_))
|(refine Exists.elim (at_drop Way.row r.sts x.1 (Int.ofNat_lt.1 (of_decide_eq_true hc))) (fun w he => ?_); have g1 := he.2.1; replace hc : True := trivial)
|(have _q : (_ : Bool) = true := hc; with_reducible refine loopQ_next ((x.1 + 1, some w.via, w.b)) ?_ ?_ (Wk_sub rfl rfl ?_ ?_))
|(have _q : (_ : Bool) = false := hc; with_reducible refine loopQ_next ((x.1 + 1, x.2)) ?_ ?_ (Wk_sub rfl rfl ?_ ?_))
|simp only [f74r0, f74r1, f74r2, f74r3, f74r4, f74r5, f74r6, f74r7, f74r8, g1, f74k, List.length_map, runG_nil, runG_u, runG_g, runG_ucS, stp, evs, evX, lget, lput, strip, putO, PO.dst, updO, okR, cells, splice, AV.cell, binV, sameK, pickV, guardOf, okL_nil, sides, argsOf, rawOf, dv, dvL, owns, ownsL, lkeep, seqQ, blockQ, initS, List.drop_succ_cons, List.drop_zero, List.take_succ_cons, List.take_zero, List.getD_cons_zero, List.getD_cons_succ, List.length_cons, List.length_nil, List.set_cons_zero, List.set_cons_succ, List.map_cons, List.map_nil, List.all_cons, List.all_nil, List.elem_cons, List.elem_nil, Option.getD_some, Option.bind_some, Option.isNone_none, reduceIte, reduceCtorEq, Nat.reduceEqDiff, Nat.reduceAdd, Nat.reduceLeDiff, Nat.zero_add, Nat.add_zero, Nat.reduceBEq, Bool.and_self, Bool.or_self, true_and, and_true, and_self, implies_true, Bool.false_eq_true, retQ, resOf, resV, Option.some.injEq, exists_eq_left', AV.d.injEq, D.v.injEq, imp_self, loopQ_exit, subS, subO, lputs, argsN, dvN]
  all_goals try first
|omega
|(with_reducible rfl)
|(show Value.int _ 0 = _; rfl)
|(simp only [List.length_append, List.length_cons, List.length_nil]; omega)
|(simp only [List.length_append, List.length_cons, List.length_nil, List.map_append, List.map_cons, List.map_nil]; done)
|exact count64 he.2.2.2 hr
|rfl
|(have h1 := hx.2; rw [he.1, statGo] at h1; simp only [Bool.and_eq_true, decide_eq_true_eq] at h1; simp at hc; rw [if_pos hc] at h1; exact h1)
|(have h1 := hx.2; rw [he.1, statGo] at h1; simp only [Bool.and_eq_true, decide_eq_true_eq] at h1; rw [if_neg (by intro q; simp [q.1, q.2] at hc)] at h1; exact h1)
|(have h0 := of_decide_eq_false hc; have h1 := hx.2; rw [List.drop_eq_nil_of_le (by omega), statGo] at h1; rw [← h1]; done)
  all_goals trace_state
def peerA : Option Lk → AV
  | none => .tp [.ag [.d (.v (.string ⟨#[]⟩)), .d (.v (.int .i64 0)), .d (.v (.string ⟨#[]⟩)), .d (.v (.string ⟨#[]⟩)), .d (.v (.int .i64 0))], .d (.v (.bool false))]
  | some l => .tp [.ag l.box, .d (.v (.bool true))]
theorem peer_fn (r : Ro) (hr : r.links.length ≤ maxLen) (hp : ∀ l ∈ r.links, l.peer < 8) (k : Nat) (hk : k < 8) : FnS Tryz.prog 75 [.ag r.box, .d (.v (.string (rname k)))] (peerA (peerV r.links k)) := by
  refine fn_of teok Tryz.func75 (by kernel_rfl) f75c f75k [.cell 4 151, .tmp 5] rfl (by show 2 ≤ 22; omega) ?_
  first | (have _q := @g1; clear _q) | have g1 : Nat.pred 77 = 76 := rfl
  repeat' first
|(with_reducible first | refine awp_seq ?_ | refine awp_block ?_ | refine awp_reg ?_ | refine awp_ret ?_ | refine awp_skip ?_ | refine awp_exit ?_ | refine normQ_of ?_ | refine wkE_of ?_)
|with_reducible refine awp_cond (by simp only [evX, lget, Option.getD_some, reduceIte, Nat.reduceEqDiff]; rfl) (fun hc => ?_) (fun hc => ?_)
|(with_reducible assumption)
|(with_reducible refine fun (hT : (_ : Bool) = _) => ?_)
|with_reducible refine And.intro ?_ ?_
|(with_reducible refine awp_loopU (b := f75p5) (fun i : Nat => i ≤ r.links.length ∧ peerV (r.links.drop i) k = peerV r.links k) (fun i => r.links.length - i) (fun i => [(11, .d (.v (.int .i64 i)))]) (fun i => []) (0) (⟨Nat.zero_le _, rfl⟩) (Wk.refl _ _) (Wk_sub rfl rfl ?_ ?_) (fun i hi => ?_))
|(refine Exists.elim (at_drop Lk.row r.links i (Int.ofNat_lt.1 (of_decide_eq_true hc))) (fun l he => ?_); have g1 := he.2.1; replace hc : True := trivial)
|(with_reducible refine loopQ_next (i + 1) ?_ ?_ (Wk_sub rfl rfl ?_ ?_))
|simp only [f75r0, f75r1, f75r2, f75r3, f75r4, f75r5, f75r6, f75r7, g1, f75k, te151, List.length_map, runG_nil, runG_u, stp, evs, evX, lget, lput, strip, putO, PO.dst, updO, okR, cells, splice, AV.cell, binV, sameK, dv, dvL, lkeep, seqQ, blockQ, initS, List.drop_succ_cons, List.drop_zero, List.take_succ_cons, List.take_zero, List.getD_cons_zero, List.getD_cons_succ, List.length_cons, List.length_nil, List.set_cons_zero, List.set_cons_succ, List.map_cons, List.map_nil, List.all_cons, List.all_nil, List.elem_cons, List.elem_nil, Option.getD_some, Option.bind_some, Option.isNone_none, reduceIte, reduceCtorEq, Nat.reduceEqDiff, Nat.reduceAdd, Nat.reduceLeDiff, Nat.zero_add, Nat.add_zero, Nat.reduceBEq, Bool.and_self, true_and, and_true, and_self, Bool.false_eq_true, retQ, resOf, resV, Option.some.injEq, exists_eq_left', AV.d.injEq, D.v.injEq, bldF, bldS, loopQ_exit, loopQ_ret, subS, subO, Bool.bne_false, lputs]
  all_goals try first
    | omega
    | (with_reducible rfl)
    | (show Value.int _ 0 = _; rfl)
    | (simp only [List.length_append, List.length_cons, List.length_nil]; omega)
    | (simp only [List.length_append, List.length_cons, List.length_nil, List.map_append, List.map_cons, List.map_nil]; done)
    | exact count64 he.2.2.2 hr
    | (have h3 := rname_inj l.peer (hp l (List.mem_of_getElem? he.2.2.1)) k hk; have h1 := hi.2; rw [he.1, peerV, List.find?_cons] at h1
       have h4 : (l.peer == k) = true := by simpa [h3] using hc
       rw [h4] at h1; rw [← h1]; rfl)
    | (have h3 := rname_inj l.peer (hp l (List.mem_of_getElem? he.2.2.1)) k hk; have h1 := hi.2; rw [he.1, peerV, List.find?_cons] at h1
       have h4 : (l.peer == k) = false := by simpa [h3] using hc
       rw [h4] at h1; exact h1)
    | (have h0 := of_decide_eq_false hc; have h1 := hi.2; rw [List.drop_eq_nil_of_le (by omega)] at h1; rw [← h1]; rfl)
  all_goals trace_state
theorem clauses_of_fn (c : Conf) (hl : c.maps.length ≤ maxLen) (hm : ∀ m ∈ c.maps, m.cls.length ≤ 1048576) (name : ByteArray) (a b : Int) : FnS Tryz.prog 76 [c.av, .d (.v (.string name)), .ag [.d (.v (.int .u32 a)), .d (.v (.int .i64 b))]] (.d (.sl 10 ((clausesV c.maps name a b).map Clause.row))) := by
  refine fn_of teok Tryz.func76 (by kernel_rfl) f76c f76k [.tmp 6] rfl (by show 3 ≤ 25; omega) ?_
  first | (have _q := @g1; clear _q) | have g1 : Nat.pred 77 = 76 := rfl
  repeat' first
|(with_reducible first | refine awp_seq ?_ | refine awp_block ?_ | refine awp_reg ?_ | refine awp_ret ?_ | refine awp_skip ?_ | refine awp_exit ?_ | refine normQ_of ?_ | refine wkE_of ?_)
|with_reducible refine awp_cond (by simp only [evX, lget, Option.getD_some, reduceIte, Nat.reduceEqDiff]; rfl) (fun hc => ?_) (fun hc => ?_)
|with_reducible refine CallU_of (f := 93) (for_fn m.cls (hm m (List.mem_of_getElem? he.2.2.1)) a b) (by first | exact Or.inr (Or.inl rfl) | exact Or.inl rfl) ?_
|(with_reducible assumption)
|(with_reducible refine fun (hT : (_ : Bool) = _) => ?_)
|with_reducible refine And.intro ?_ ?_
|(with_reducible refine awp_loopU (b := f76p5) (fun i : Nat => i ≤ c.maps.length ∧ clausesV (c.maps.drop i) name a b = clausesV c.maps name a b) (fun i => c.maps.length - i) (fun i => [(12, .d (.v (.int .i64 i)))]) (fun i => []) (0) (⟨Nat.zero_le _, rfl⟩) (Wk.refl _ _) (Wk_sub rfl rfl ?_ ?_) (fun i hi => ?_))
|(refine Exists.elim (at_drop Mp.row c.maps i (Int.ofNat_lt.1 (of_decide_eq_true hc))) (fun m he => ?_); have g1 := he.2.1; replace hc : True := trivial)
|(with_reducible refine loopQ_next (i + 1) ?_ ?_ (Wk_sub rfl rfl ?_ ?_))
|simp only [f76r0, f76r1, f76r2, f76r3, f76r4, f76r5, f76r6, f76r7, g1, f76k, List.length_map, runG_nil, runG_u, runG_ucS, stp, evs, evX, lget, lput, strip, putO, PO.dst, updO, okR, cells, splice, AV.cell, binV, sameK, sides, argsOf, rawOf, dv, dvL, owns, ownsL, lkeep, seqQ, blockQ, initS, List.drop_succ_cons, List.drop_zero, List.take_succ_cons, List.take_zero, List.getD_cons_zero, List.getD_cons_succ, List.length_cons, List.length_nil, List.set_cons_zero, List.set_cons_succ, List.map_cons, List.map_nil, List.all_cons, List.all_nil, List.elem_cons, List.elem_nil, Option.getD_some, Option.bind_some, Option.isNone_none, reduceIte, reduceCtorEq, Nat.reduceEqDiff, Nat.reduceAdd, Nat.reduceLeDiff, Nat.zero_add, Nat.add_zero, Nat.reduceBEq, Bool.and_self, Bool.or_self, true_and, and_true, and_self, Bool.false_eq_true, retQ, resOf, resV, Option.some.injEq, exists_eq_left', AV.d.injEq, D.v.injEq, loopQ_exit, loopQ_ret, subS, subO, Bool.bne_false, lputs, argsN, dvN]
  all_goals try first
    | omega
    | (with_reducible rfl)
    | (show Value.int _ 0 = _; rfl)
    | (simp only [List.length_append, List.length_cons, List.length_nil]; omega)
    | (simp only [List.length_append, List.length_cons, List.length_nil, List.map_append, List.map_cons, List.map_nil]; done)
    | exact count64 he.2.2.2 hl
    | (have h1 := hi.2; rw [he.1, clausesV, List.find?_cons] at h1
       have h4 : decide (m.name = name) = true := by simpa using hc
       rw [h4] at h1; simp only at h1; rw [h1]; done)
    | (have h1 := hi.2; rw [he.1, clausesV, List.find?_cons] at h1
       have h4 : decide (m.name = name) = false := by simpa using hc
       rw [h4] at h1; exact h1)
    | (have h0 := of_decide_eq_false hc; have h1 := hi.2; rw [List.drop_eq_nil_of_le (by omega)] at h1; rw [← h1]; rfl)
  all_goals trace_state
end Go.Proofs.YtgkkaimcchlnaaaGreatDoor
