/- What solve.Sweep and solve.Settle come to. Printed by a program of this project (wip/mq). -/
import Derived.Test.YtajkgmmmkhekmaaStable
import Derived.Test.YtajkgmmmkhekmaaMqPl4
namespace Go.Proofs.Ytajkgmmmkhekmaa
open Go Mq Go.ChangeShapes Go.WideShapes Go.ChangeAt Go.RowKit
/-! maquette/solve.Sweep -/
def f35r0 : List PG := [.u (.bx 2 (.t 0)), .u (.mv 4 (.nl 4))]
def f35r1 : List PG := [.u (.mv 7 (.t 1)), .u (.app 8 45 4 32 (.nl 4) (.t 7)), .u (.mv 5 (.t 8))]
def f35r2 : List PG := [.u (.mv 9 (.t 5)), .u (.len 10 (.t 9)), .u (.mv 11 (.k (.int .i64 0)))]
def f35r3 : List PG := [.u (.bo 12 .lss (.t 11) (.t 10))]
def f35r4 : List PG := [.u (.mv 13 (.t 11)), .u (.mv 6 (.t 13))]
def f35r5 : List PG := [.u (.mv 14 (.t 5)), .u (.mv 15 (.t 6)), .u (.ld 16 3 true (.t 2)), .u (.mv 17 (.t 5)), .u (.mv 18 (.t 6)), .uc 19 21 [.t 16, .t 17, .t 18], .u (.ia 20 4 (.t 14) (.t 15)), .u (.st 4 (.t 20) (.t 19))]
def f35r6 : List PG := [.u (.bo 21 .add (.t 11) (.k (.int .i64 1))), .u (.mv 11 (.t 21))]
abbrev f35p0 : PC := .seq (.block 1 (.seq (.reg f35r4) (.reg f35r5))) (.reg f35r6)
abbrev f35p1 : PC := .seq (.cond (.t 12) (.skip) (.exit 0)) (f35p0)
abbrev f35p2 : PC := .seq (.reg f35r3) (f35p1)
abbrev f35p3 : PC := .block 0 (.loop (f35p2))
def f35r7 : List PG := [.u (.mv 22 (.t 5)), .u (.mv 4 (.t 22))]
abbrev f35p4 : PC := .seq (.reg f35r7) (.ret)
abbrev f35p5 : PC := .seq (.seq (.reg f35r2) (f35p3)) (f35p4)
abbrev f35p6 : PC := .seq (.reg f35r1) (f35p5)
abbrev f35pc : PC := .seq (.reg f35r0) (f35p6)
def f35k : List Nat := [0, 1, 2, 4, 5, 6, 10, 11, 12]
theorem f35c : Try.f35.body.bind (cC te Try.f35.ntmps) = some f35pc := by kernel_rfl
/-! maquette/solve.Settle -/
def f33r0 : List PG := [.u (.bx 3 (.t 0)), .u (.mv 6 (.nl 4)), .u (.mv 7 (.k (.bool false)))]
def f33r1 : List PG := [.u (.mv 8 (.t 2)), .u (.mx 9 false (.k (.int .i64 0)) (.t 8)), .u (.mv 10 (.k (.int .i64 0)))]
def f33r2 : List PG := [.u (.bo 11 .lss (.t 10) (.t 9))]
def f33r3 : List PG := [.u (.ld 12 3 true (.t 3)), .u (.mv 13 (.t 1)), .uc 14 24 [.t 12, .t 13]]
abbrev f33p0 : PC := .cond (.t 14) (.exit 0) (.skip)
def f33r4 : List PG := [.u (.ld 15 3 true (.t 3)), .u (.mv 16 (.t 1)), .uc 17 35 [.t 15, .t 16], .u (.mv 1 (.t 17))]
def f33r5 : List PG := [.u (.bo 18 .add (.t 10) (.k (.int .i64 1))), .u (.mv 10 (.t 18))]
abbrev f33p1 : PC := .seq (.block 1 (.seq (.seq (.reg f33r3) (f33p0)) (.reg f33r4))) (.reg f33r5)
abbrev f33p2 : PC := .seq (.cond (.t 11) (.skip) (.exit 0)) (f33p1)
abbrev f33p3 : PC := .seq (.reg f33r2) (f33p2)
abbrev f33p4 : PC := .block 0 (.loop (f33p3))
def f33r6 : List PG := [.u (.mv 19 (.t 1)), .u (.app 20 45 4 32 (.nl 4) (.t 19)), .u (.ld 21 3 true (.t 3)), .u (.mv 22 (.t 1)), .uc 23 24 [.t 21, .t 22], .u (.mv 6 (.t 20)), .u (.mv 7 (.t 23))]
abbrev f33p5 : PC := .seq (.regD f33r6 [(1, 2), (1, 3)]) (.ret)
abbrev f33p6 : PC := .seq (.seq (.reg f33r1) (f33p4)) (f33p5)
abbrev f33pc : PC := .seq (.reg f33r0) (f33p6)
def f33k : List Nat := [0, 1, 2, 3, 6, 7, 9, 10, 11, 14]
theorem f33c : Try.f33.body.bind (cC te Try.f33.ntmps) = some f33pc := by kernel_rfl
set_option maxRecDepth 20000
set_option maxHeartbeats 4000000
set_option linter.unusedSimpArgs false
set_option linter.unusedVariables false

theorem box_set' {e s g : Nat} (L : List Attr) (k : Nat) (a : Attr) : AO.row e s g ((L.map Attr.row).set k [.v (.bool a.ok), .v (.int .i64 a.pref), .v (.int .i64 a.cost), .v (.int .u8 a.tags)]) = AO.row e s g ((L.set k a).map Attr.row) := by rw [show [D.v (.bool a.ok), .v (.int .i64 a.pref), .v (.int .i64 a.cost), .v (.int .u8 a.tags)] = a.row from rfl, row_set]
theorem sweepGo_step {n : Net} {i m : Nat} {l : List Attr} (h : i < m) : sweepGo n (m - i) i l = sweepGo n (m - (i + 1)) (i + 1) (l.set i (n.choice l i)) := by
  rw [show m - i = (m - (i + 1)) + 1 by omega, sweepGo]
theorem sweep_fn (n : Net) (hn : n.small) (l : List Attr) (hl : l.length ≤ 1048576) : FnS Try.prog 35 [n.av, .d (.sl 4 (l.map Attr.row))] (.d (.sl 4 ((n.sweep l).map Attr.row))) := by
  have hm : maxLen = 9223372036854775807 := rfl
  refine fn_of teok Try.func35 (by kernel_rfl) f35c f35k [.tmp 4] rfl (by show 2 ≤ 23; omega) ?_
  repeat' first
  | with_reducible refine awp_seq ?_
  | with_reducible refine awp_block ?_
  | with_reducible refine awp_reg ?_
  | with_reducible refine awp_regD ?_
  | with_reducible refine awp_ret ?_
  | with_reducible refine awp_skip ?_
  | with_reducible refine awp_exit ?_
  | with_reducible refine normQ_of ?_
  | with_reducible refine wkE_of ?_
  | with_reducible refine midQ_of (Wk_sub rfl rfl ?_ ?_)
  | with_reducible refine runD_nil ?_
  | with_reducible refine runD_cons ?_
  | with_reducible refine runF_cons ?_
  | with_reducible refine runF_nil ?_
  | with_reducible refine KF_of ?_
  | with_reducible refine chkQ_of rfl ?_
  | with_reducible refine awp_cond (by simp only [evX, lget, Option.getD_some, reduceIte, Nat.reduceEqDiff]; rfl) (fun hc => ?_) (fun hc => ?_)
  | with_reducible refine CallU_of (f := 21) (choice_fn n hn x.2 (by omega) x.1) (by first | exact Or.inr (Or.inl rfl) | exact Or.inl rfl) ?_
  | with_reducible refine CallC_of (f := 21) (fun _ => choice_fn n hn x.2 (by omega) x.1) (by first | exact Or.inr (Or.inl rfl) | exact Or.inl rfl) ?_
  | (with_reducible assumption)
  | with_reducible refine fun (hG : okL _) => ?_
  | (with_reducible refine fun (hT : (_ : Bool) = _) => ?_)
  | (with_reducible first | exact hG.2 | exact hG.2.2 | exact hG.2.2.2 | exact hG.2.2.2.2)
  | with_reducible refine okL_mk ?_ ?_
  | with_reducible refine And.intro ?_ ?_
  | (with_reducible refine awp_loopU (b := f35p2) (fun x : Nat × List Attr => x.1 ≤ l.length ∧ x.2.length = l.length ∧ sweepGo n (l.length - x.1) x.1 x.2 = n.sweep l) (fun x => l.length - x.1) (fun x => [(11, .d (.v (.int .i64 x.1)))]) (fun x => [(8, .row 45 4 0 (x.2.map Attr.row))]) ((0, l)) (⟨Nat.zero_le _, rfl, rfl⟩) (Wk.refl _ _) (Wk_sub rfl rfl ?_ ?_) (fun x hx => ?_))
  | (have hlt := Int.ofNat_lt.1 (of_decide_eq_true hc); refine Exists.elim (at_drop Attr.row x.2 x.1 (by rw [hx.2.1]; exact hlt)) (fun a he => ?_); have g1 := he.2.1; replace hc : True := trivial)
  | (with_reducible refine loopQ_next ((x.1 + 1, x.2.set x.1 (n.choice x.2 x.1))) ?_ ?_ (Wk_sub rfl rfl ?_ ?_))
  | simp only [f35r0, f35r1, f35r2, f35r3, f35r4, f35r5, f35r6, f35r7, g1, f35k, List.length_map, runG_nil, runG_u, runG_g, runG_ucS, runG_gcS, runG_uvS, stp, avL, avS, evs, evX, lget, lput, strip, putO, PO.dst, updO, okR, cells, splice, AV.cell, toD, toDs, binV, sameK, pickV, guardOf, okL_nil, sides, argsOf, rawOf, dv, dvL, owns, ownsL, flat, flatL, lkeep, seqQ, blockQ, initS, List.drop_succ_cons, List.drop_zero, List.take_succ_cons, List.take_zero, List.getD_cons_zero, List.getD_cons_succ, List.length_cons, List.length_nil, List.set_cons_zero, List.set_cons_succ, List.map_cons, List.map_nil, List.all_cons, List.all_nil, List.elem_cons, List.elem_nil, Option.getD_some, Option.getD_none, Option.bind_some, Option.isNone_none, reduceIte, reduceCtorEq, Nat.reduceEqDiff, Nat.reduceAdd, Nat.reduceLeDiff, Nat.zero_add, Nat.add_zero, Nat.reduceBEq, Bool.and_self, Bool.and_true, Bool.true_and, Bool.or_self, Bool.or_false, Bool.false_or, Bool.or_true, Bool.true_or, true_and, and_true, and_self, implies_true, forall_const, Bool.false_eq_true, id_eq, retQ, resOf, resV, Option.some.injEq, exists_eq_left', AV.d.injEq, D.v.injEq, Value.bool.injEq, imp_self, bldF, bldS, toVals, eqLs, Option.map_some, imp_false, not_true_eq_false, not_false_eq_true, foot, wrs, nm, nmL, PG.reads, PG.dst, PO.reads, X.sl, sls, slB, List.append_nil, List.cons_append, List.nil_append, Option.toList_some, Option.toList_none, loopQ_exit, loopQ_ret, subS, subO, Bool.bne_false, Bool.bne_true, elemsOf, bslD, bslS, mentries, isAgV, asA, lputs, mgetD_set, mcmp_set, mput_set, List.headD_cons, sealS, sealO, sealV, sealL, mput_nil, mcmp_nil, midQ_ret, midQ_exit, sealsS, sealsO, runW_nil, runW_cons, Bool.true_bne, Bool.false_bne, bne_self_eq_false, Int.reduceToNat, bndV, oSl, resR, runS_nil, runS_gc, ren, renL, renO, sg, gBack]
  | simp only [f35r0, f35r1, f35r2, f35r3, f35r4, f35r5, f35r6, f35r7, f35k, List.length_map, runG_nil, runG_u, runG_g, runG_ucS, runG_gcS, runG_uvS, stp, avL, avS, evs, evX, lget, lput, strip, putO, PO.dst, updO, okR, cells, splice, AV.cell, toD, toDs, binV, sameK, pickV, guardOf, okL_nil, sides, argsOf, rawOf, dv, dvL, owns, ownsL, flat, flatL, lkeep, seqQ, blockQ, initS, List.drop_succ_cons, List.drop_zero, List.take_succ_cons, List.take_zero, List.getD_cons_zero, List.getD_cons_succ, List.length_cons, List.length_nil, List.set_cons_zero, List.set_cons_succ, List.map_cons, List.map_nil, List.all_cons, List.all_nil, List.elem_cons, List.elem_nil, Option.getD_some, Option.getD_none, Option.bind_some, Option.isNone_none, reduceIte, reduceCtorEq, Nat.reduceEqDiff, Nat.reduceAdd, Nat.reduceLeDiff, Nat.zero_add, Nat.add_zero, Nat.reduceBEq, Bool.and_self, Bool.and_true, Bool.true_and, Bool.or_self, Bool.or_false, Bool.false_or, Bool.or_true, Bool.true_or, true_and, and_true, and_self, implies_true, forall_const, Bool.false_eq_true, id_eq, retQ, resOf, resV, Option.some.injEq, exists_eq_left', AV.d.injEq, D.v.injEq, Value.bool.injEq, imp_self, bldF, bldS, toVals, eqLs, Option.map_some, imp_false, not_true_eq_false, not_false_eq_true, foot, wrs, nm, nmL, PG.reads, PG.dst, PO.reads, X.sl, sls, slB, List.append_nil, List.cons_append, List.nil_append, Option.toList_some, Option.toList_none, loopQ_exit, loopQ_ret, subS, subO, Bool.bne_false, Bool.bne_true, elemsOf, bslD, bslS, mentries, isAgV, asA, lputs, mgetD_set, mcmp_set, mput_set, List.headD_cons, sealS, sealO, sealV, sealL, mput_nil, mcmp_nil, midQ_ret, midQ_exit, sealsS, sealsO, runW_nil, runW_cons, Bool.true_bne, Bool.false_bne, bne_self_eq_false, Int.reduceToNat, bndV, oSl, resR, runS_nil, runS_gc, ren, renL, renO, sg, gBack]
  all_goals try first
    | omega
    | (with_reducible rfl)
    | (show Value.int _ 0 = _; rfl)
    | (simp only [List.length_append, List.length_cons, List.length_nil]; omega)
    | (simp only [List.length_append, List.length_cons, List.length_nil, List.map_append, List.map_cons, List.map_nil]; done)
    | exact count64 hlt (by omega)
    | (simp only [List.length_set]; omega)
    | (rw [box_set', Int.toNat_natCast]; done)
    | (rw [← sweepGo_step hlt]; exact hx.2.2)
    | (have h0 := of_decide_eq_false hc; have h1 := hx.2.2; rw [show l.length - x.1 = 0 by omega, sweepGo] at h1; rw [h1]; done)
  all_goals trace_state
theorem settle_step {n : Net} {i m : Nat} {l : List Attr} (h : i < m) (hi : n.isV l = false) : n.settle (m - i) l = n.settle (m - (i + 1)) (n.sweep l) := by
  rw [show m - i = (m - (i + 1)) + 1 by omega, Net.settle, hi]; rfl
theorem settle_stop {n : Net} {l : List Attr} (hi : n.isV l = true) : ∀ m, n.settle m l = l
  | 0 => rfl
  | m + 1 => by rw [Net.settle, hi]; rfl
theorem settle_fn (n : Net) (hn : n.small) (l : List Attr) (hl : l.length ≤ 1048576) (m : Int) (hm2 : m ≤ 1000) : FnS Try.prog 33 [n.av, .d (.sl 4 (l.map Attr.row)), .d (.v (.int .i64 m))]
    (.tp [.d (.sl 4 ((n.settle (mx 0 m).toNat l).map Attr.row)), .d (.v (.bool (n.isV (n.settle (mx 0 m).toNat l))))]) := by
  have hm : maxLen = 9223372036854775807 := rfl
  have hM : (if m > 0 then m else 0) = mx 0 m := rfl
  have hM0 : 0 ≤ mx 0 m ∧ mx 0 m ≤ 1000 := by unfold mx; split <;> omega
  refine fn_of teok Try.func33 (by kernel_rfl) f33c f33k [.tmp 6, .tmp 7] rfl (by show 3 ≤ 24; omega) ?_
  repeat' first
  | with_reducible refine awp_seq ?_
  | with_reducible refine awp_block ?_
  | with_reducible refine awp_reg ?_
  | with_reducible refine awp_regD ?_
  | with_reducible refine awp_ret ?_
  | with_reducible refine awp_skip ?_
  | with_reducible refine awp_exit ?_
  | with_reducible refine normQ_of ?_
  | with_reducible refine wkE_of ?_
  | with_reducible refine midQ_of (Wk_sub rfl rfl ?_ ?_)
  | with_reducible refine runD_nil ?_
  | with_reducible refine runD_cons ?_
  | with_reducible refine runF_cons ?_
  | with_reducible refine runF_nil ?_
  | with_reducible refine KF_of ?_
  | with_reducible refine chkQ_of rfl ?_
  | with_reducible refine awp_cond (by simp only [evX, lget, Option.getD_some, reduceIte, Nat.reduceEqDiff]; rfl) (fun hc => ?_) (fun hc => ?_)
  | with_reducible refine CallU_of (f := 24) (is_fn n hn x.2 (by omega)) (by first | exact Or.inr (Or.inl rfl) | exact Or.inl rfl) ?_
  | with_reducible refine CallC_of (f := 24) (fun _ => is_fn n hn x.2 (by omega)) (by first | exact Or.inr (Or.inl rfl) | exact Or.inl rfl) ?_
  | with_reducible refine CallU_of (f := 35) (sweep_fn n hn x.2 (by omega)) (by first | exact Or.inr (Or.inl rfl) | exact Or.inl rfl) ?_
  | with_reducible refine CallC_of (f := 35) (fun _ => sweep_fn n hn x.2 (by omega)) (by first | exact Or.inr (Or.inl rfl) | exact Or.inl rfl) ?_
  | (with_reducible assumption)
  | with_reducible refine fun (hG : okL _) => ?_
  | (with_reducible refine fun (hT : (_ : Bool) = _) => ?_)
  | (with_reducible first | exact hG.2 | exact hG.2.2 | exact hG.2.2.2 | exact hG.2.2.2.2)
  | with_reducible refine okL_mk ?_ ?_
  | with_reducible refine And.intro ?_ ?_
  | (with_reducible refine awp_loopU (b := f33p3) (fun x : Nat × List Attr => (x.1 : Int) ≤ mx 0 m ∧ x.2.length = l.length ∧ n.settle ((mx 0 m).toNat - x.1) x.2 = n.settle (mx 0 m).toNat l) (fun x => (mx 0 m).toNat - x.1) (fun x => [(10, .d (.v (.int .i64 x.1))), (1, .d (.sl 4 (x.2.map Attr.row)))]) (fun x => []) ((0, l)) (⟨by simpa using hM0.1, rfl, by simp⟩) (Wk.refl _ _) (Wk_sub rfl rfl ?_ ?_) (fun x hx => ?_))
  | (with_reducible refine loopQ_next ((x.1 + 1, n.sweep x.2)) ?_ ?_ (Wk_sub rfl rfl ?_ ?_))
  | simp only [f33r0, f33r1, f33r2, f33r3, f33r4, f33r5, f33r6, f33k, hM, List.length_map, List.getElem?_cons_zero, List.getElem?_cons_succ, runG_nil, runG_u, runG_g, runG_ucS, runG_gcS, runG_uvS, stp, avL, avS, evs, evX, lget, lput, strip, putO, PO.dst, updO, okR, cells, splice, AV.cell, toD, toDs, binV, sameK, pickV, guardOf, okL_nil, sides, argsOf, rawOf, dv, dvL, owns, ownsL, flat, flatL, lkeep, seqQ, blockQ, initS, List.drop_succ_cons, List.drop_zero, List.take_succ_cons, List.take_zero, List.getD_cons_zero, List.getD_cons_succ, List.length_cons, List.length_nil, List.set_cons_zero, List.set_cons_succ, List.map_cons, List.map_nil, List.all_cons, List.all_nil, List.elem_cons, List.elem_nil, Option.getD_some, Option.getD_none, Option.bind_some, Option.isNone_none, reduceIte, reduceCtorEq, Nat.reduceEqDiff, Nat.reduceAdd, Nat.reduceLeDiff, Nat.zero_add, Nat.add_zero, Nat.reduceBEq, Bool.and_self, Bool.and_true, Bool.true_and, Bool.or_self, Bool.or_false, Bool.false_or, Bool.or_true, Bool.true_or, true_and, and_true, and_self, implies_true, forall_const, Bool.false_eq_true, id_eq, retQ, resOf, resV, Option.some.injEq, exists_eq_left', AV.d.injEq, D.v.injEq, Value.bool.injEq, imp_self, bldF, bldS, toVals, eqLs, Option.map_some, imp_false, not_true_eq_false, not_false_eq_true, foot, wrs, nm, nmL, PG.reads, PG.dst, PO.reads, X.sl, sls, slB, List.append_nil, List.cons_append, List.nil_append, Option.toList_some, Option.toList_none, loopQ_exit, loopQ_ret, subS, subO, Bool.bne_false, Bool.bne_true, elemsOf, bslD, bslS, mentries, isAgV, asA, lputs, mgetD_set, mcmp_set, mput_set, List.headD_cons, sealS, sealO, sealV, sealL, mput_nil, mcmp_nil, midQ_ret, midQ_exit, sealsS, sealsO, runW_nil, runW_cons, Bool.true_bne, Bool.false_bne, bne_self_eq_false, Int.reduceToNat, bndV, oSl, resR, runS_nil, runS_gc, ren, renL, renO, sg, gBack]
  all_goals try first
    | omega
    | (with_reducible rfl)
    | (show Value.int _ 0 = _; rfl)
    | (have h0 := of_decide_eq_true ‹decide ((x.1 : Int) < _) = true›; omega)
    | (have h0 := of_decide_eq_true ‹decide ((x.1 : Int) < _) = true›; exact count64 (n := (mx 0 m).toNat) (by omega) (by omega))
    | (rw [sweep_len]; omega)
    | (have h0 := of_decide_eq_true ‹decide ((x.1 : Int) < _) = true›; rw [← settle_step (by omega) hc]; exact hx.2.2)
    | (have h1 := hx.2.2; rw [settle_stop hc] at h1; rw [← h1]; done)
    | (have h0 := of_decide_eq_false hc; have h1 := hx.2.2; rw [show (mx 0 m).toNat - x.1 = 0 by omega, Net.settle] at h1; rw [← h1]; done)
    | (have h1 := hx.2.1; simp; omega)
  all_goals trace_state
end Go.Proofs.Ytajkgmmmkhekmaa
