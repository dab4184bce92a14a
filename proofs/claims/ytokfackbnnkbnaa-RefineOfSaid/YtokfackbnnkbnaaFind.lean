/- What maquettelaw17.Find comes to. Printed by a program of this project (wip/mq). -/
import Derived.Test.YtokfackbnnkbnaaHv17
import Derived.Test.YtokfackbnnkbnaaTk17
set_option linter.unusedVariables false
set_option linter.unusedSimpArgs false

namespace Go.Proofs.Ytokfackbnnkbnaa
open Go Mq Go.ChangeShapes Go.WideShapes Go.ChangeAt Go.RowKit
/-! maquette/maquettelaw17.Find -/
def f17r0 : List PG := [.u (.bx 1 (.t 0)), .u (.mv 2 (.nl 1))]
def f17r1 : List PG := [.u (.fa 8 0 (.t 1)), .u (.ld 9 1 false (.t 8)), .u (.len 10 (.t 9)), .u (.mks 11 3 1 8 [.d (.v (.int .i64 0))] (.t 10)), .u (.mv 3 (.t 11))]
def f17r2 : List PG := [.u (.mv 12 (.t 3)), .u (.len 13 (.t 12)), .u (.mv 14 (.k (.int .i64 0)))]
def f17r3 : List PG := [.u (.bo 15 .lss (.t 14) (.t 13))]
def f17r4 : List PG := [.u (.mv 16 (.t 14)), .u (.mv 4 (.t 16))]
def f17r5 : List PG := [.u (.ld 17 3 true (.t 1)), .u (.mv 18 (.t 4)), .uc 19 34 [.t 17, .t 18]]
def f17r6 : List PG := [.u (.mv 20 (.t 3)), .u (.mv 21 (.t 4)), .u (.mv 22 (.t 4)), .u (.bo 23 .add (.t 22) (.k (.int .i64 1))), .u (.ia 24 1 (.t 20) (.t 21)), .u (.st 1 (.t 24) (.t 23))]
abbrev f17p0 : PC := .cond (.t 19) (.reg f17r6) (.skip)
abbrev f17p1 : PC := .seq (.reg f17r5) (f17p0)
def f17r7 : List PG := [.u (.bo 25 .add (.t 14) (.k (.int .i64 1))), .u (.mv 14 (.t 25))]
abbrev f17p2 : PC := .seq (.block 1 (.seq (.reg f17r4) (f17p1))) (.reg f17r7)
abbrev f17p3 : PC := .seq (.cond (.t 15) (.skip) (.exit 0)) (f17p2)
abbrev f17p4 : PC := .seq (.reg f17r3) (f17p3)
abbrev f17p5 : PC := .block 0 (.loop (f17p4))
def f17r8 : List PG := [.u (.mv 26 (.t 3)), .uc 27 16 [.t 26], .u (.mv 5 (.t 27))]
def f17r9 : List PG := [.u (.ld 28 3 true (.t 1)), .u (.mv 29 (.t 5)), .uc 30 35 [.t 28, .t 29], .u (.mv 6 (.t 30))]
def f17r10 : List PG := [.u (.mv 31 (.t 5)), .u (.mv 32 (.t 6)), .uc 33 15 [.t 31, .t 32], .u (.no 34 (.t 33))]
def f17r11 : List PG := [.u (.mv 35 (.t 6)), .u (.mv 5 (.t 35))]
abbrev f17p6 : PC := .seq (.reg f17r11) (.exit 3)
abbrev f17p7 : PC := .cond (.t 34) (f17p6) (.skip)
def f17r12 : List PG := [.u (.ld 37 3 true (.t 1)), .u (.mv 38 (.t 5)), .uc 39 36 [.t 37, .t 38], .u (.mv 36 (.t 39)), .u (.ext 40 (.t 36) 0), .u (.ext 41 (.t 36) 1), .u (.mv 6 (.t 40)), .u (.mv 7 (.t 41))]
def f17r13 : List PG := [.u (.mv 42 (.t 7)), .u (.no 43 (.t 42))]
def f17r14 : List PG := [.u (.mv 44 (.t 5)), .u (.mv 2 (.t 44))]
abbrev f17p8 : PC := .seq (.reg f17r14) (.ret)
abbrev f17p9 : PC := .cond (.t 43) (f17p8) (.skip)
def f17r15 : List PG := [.u (.mv 45 (.t 6)), .u (.mv 5 (.t 45))]
abbrev f17p10 : PC := .seq (.seq (.reg f17r13) (f17p9)) (.reg f17r15)
abbrev f17p11 : PC := .seq (.reg f17r12) (f17p10)
abbrev f17p12 : PC := .seq (.seq (.reg f17r10) (f17p7)) (f17p11)
abbrev f17p13 : PC := .block 3 (.seq (.reg f17r9) (f17p12))
abbrev f17p14 : PC := .block 2 (.loop (f17p13))
abbrev f17p15 : PC := .seq (.reg f17r8) (f17p14)
abbrev f17p16 : PC := .seq (.seq (.reg f17r2) (f17p5)) (f17p15)
abbrev f17p17 : PC := .seq (.reg f17r1) (f17p16)
abbrev f17pc : PC := .seq (.reg f17r0) (f17p17)
def f17k : List Nat := [0, 1, 2, 3, 4, 5, 6, 7, 13, 14, 15, 19, 34, 43]
theorem f17c : Try.f17.body.bind (cC te Try.f17.ntmps) = some f17pc := by kernel_rfl
set_option maxRecDepth 20000
set_option maxHeartbeats 4000000
set_option linter.unusedSimpArgs false
set_option linter.unusedVariables false

theorem rangeA_len (n : Net) (k : Nat) : ((List.range k).map (aloneN n)).length = k := by simp
theorem rangeA_yes {n : Net} {k : Nat} (h : aloneV n (k : Int) = true) : (List.range (k + 1)).map (aloneN n) = (List.range k).map (aloneN n) ++ [(k : Int) + 1] := by
  rw [List.range_succ, List.map_append, List.map_singleton, aloneN, if_pos h]
theorem rangeA_no {n : Net} {k : Nat} (h : aloneV n (k : Int) = false) : (List.range (k + 1)).map (aloneN n) = (List.range k).map (aloneN n) ++ [0] := by
  rw [List.range_succ, List.map_append, List.map_singleton, aloneN, if_neg (by rw [h]; decide)]
theorem num_start (n : Net) (h64 : n.origin.length ≤ 64) {k : Nat} (hk : k ≤ n.origin.length) (h : ¬ k < n.origin.length) : FnS Try.prog 16 [.d (.sl 1 ((outR n.origin.length ((List.range k).map (aloneN n))).map iD))] (.d (.sl 1 ((startL n).map iD))) := by
  obtain rfl : k = n.origin.length := by omega
  rw [outR_end (by rw [rangeA_len]; exact Nat.le_refl _)]
  exact num17_fn _ (by rw [rangeA_len]; omega)
theorem taken_no (n : Net) (hn : n.small) (m : n.May) (b : List Int) (hb : b.length = n.origin.length) (ht : takenV n b = none) : FnS Try.prog 36 [n.av, .d (.sl 1 (b.map iD))] (.tp [.d (.sl 1 []), .d (.v (.bool false))]) := by
  have h := taken_fn n hn m b hb
  rw [ht] at h; exact h
theorem taken_yes (n : Net) (hn : n.small) (m : n.May) (b : List Int) (hb : b.length = n.origin.length) {c : List Int} (ht : takenV n b = some c) : FnS Try.prog 36 [n.av, .d (.sl 1 (b.map iD))] (.tp [.d (.sl 1 (c.map iD)), .d (.v (.bool true))]) := by
  have h := taken_fn n hn m b hb
  rw [ht] at h; exact h
theorem ne_of_beq {a c : List Int} (h : (a == c) = false) : c ≠ a := by rintro rfl; simp at h
theorem eq_of_beq2 {a c : List Int} (h : (a == c) = true) : c = a := by simpa using Eq.symm (by simpa using h)

theorem find_fn (n : Net) (hn : n.small) (hmay : n.may = true) : FnS Try.prog 17 [n.av] (.d (.sl 1 ((findV n).map iD))) := by
  have hm : maxLen = 9223372036854775807 := rfl
  have m := Net.may_spec hmay
  have m2 := m.edges
  have m3 := m.most
  refine fn_of teok Try.func17 (by kernel_rfl) f17c f17k [.tmp 2] rfl (by show 1 ≤ 46; omega) ?_
  first | (have _q := @g1; clear _q) | have g1 : Nat.pred 77 = 76 := rfl
  repeat' first
  | (exact absurd hc (by decide))
  | (with_reducible refine awp_exit_seal (i := 0) [11] ?_)
  | with_reducible refine awp_seq ?_
  | with_reducible refine awp_block ?_
  | with_reducible refine awp_scope ?_
  | with_reducible refine awp_reg ?_
  | with_reducible refine awp_regD ?_
  | with_reducible refine awp_ret ?_
  | with_reducible refine awp_skip ?_
  | with_reducible refine awp_exit ?_
  | with_reducible refine normQ_of ?_
  | with_reducible refine wkE_of ?_
  | with_reducible refine midQ_of (Wk_sub rfl rfl ?_ ?_)
  | with_reducible refine runD_nil ?_
  | with_reducible refine runD_cons ?_
  | with_reducible refine runF_cons ?_
  | with_reducible refine runF_nil ?_
  | with_reducible refine KF_of ?_
  | with_reducible refine chkQ_of rfl ?_
  | with_reducible refine awp_cond (by simp only [evX, lget, Option.getD_some, reduceIte, Nat.reduceEqDiff]; rfl) (fun hc => ?_) (fun hc => ?_)
  | with_reducible refine CallU_of (f := 34) (alone17_fn n hn m x.1 hlt) (by first | exact Or.inr (Or.inl rfl) | exact Or.inl rfl) ?_
  | with_reducible refine CallC_of (f := 34) (fun _ => alone17_fn n hn m x.1 hlt) (by first | exact Or.inr (Or.inl rfl) | exact Or.inl rfl) ?_
  | with_reducible refine CallU_of (f := 16) (num_start n m3 hx (by have := of_decide_eq_false hc; omega)) (by first | exact Or.inr (Or.inl rfl) | exact Or.inl rfl) ?_
  | with_reducible refine CallC_of (f := 16) (fun _ => num_start n m3 hx (by have := of_decide_eq_false hc; omega)) (by first | exact Or.inr (Or.inl rfl) | exact Or.inl rfl) ?_
  | with_reducible refine CallU_of (f := 35) (halved_fn n hn m y.1 hy.blk.len) (by first | exact Or.inr (Or.inl rfl) | exact Or.inl rfl) ?_
  | with_reducible refine CallC_of (f := 35) (fun _ => halved_fn n hn m y.1 hy.blk.len) (by first | exact Or.inr (Or.inl rfl) | exact Or.inl rfl) ?_
  | with_reducible refine CallU_of (f := 15) (sameB_fn y.1 (halvV n y.1) (by have := hy.blk.len; omega)) (by first | exact Or.inr (Or.inl rfl) | exact Or.inl rfl) ?_
  | with_reducible refine CallC_of (f := 15) (fun _ => sameB_fn y.1 (halvV n y.1) (by have := hy.blk.len; omega)) (by first | exact Or.inr (Or.inl rfl) | exact Or.inl rfl) ?_
  | with_reducible refine CallU_of (f := 36) (taken_no n hn m y.1 hy.blk.len htk) (by first | exact Or.inr (Or.inl rfl) | exact Or.inl rfl) ?_
  | with_reducible refine CallC_of (f := 36) (fun _ => taken_no n hn m y.1 hy.blk.len htk) (by first | exact Or.inr (Or.inl rfl) | exact Or.inl rfl) ?_
  | with_reducible refine CallU_of (f := 36) (taken_yes n hn m y.1 hy.blk.len htk) (by first | exact Or.inr (Or.inl rfl) | exact Or.inl rfl) ?_
  | with_reducible refine CallC_of (f := 36) (fun _ => taken_yes n hn m y.1 hy.blk.len htk) (by first | exact Or.inr (Or.inl rfl) | exact Or.inl rfl) ?_
  | (with_reducible assumption)
  | with_reducible refine fun (hG : okL _) => ?_
  | (with_reducible refine fun (hT : (_ : Bool) = _) => ?_)
  | (with_reducible first | exact hG.2 | exact hG.2.2 | exact hG.2.2.2 | exact hG.2.2.2.2)
  | with_reducible refine okL_mk ?_ ?_
  | with_reducible refine And.intro ?_ ?_
  | (with_reducible refine awp_loopU (b := f17p4) (fun x : Nat × Unit => x.1 ≤ n.origin.length) (fun x => n.origin.length - x.1) (fun x => [(14, .d (.v (.int .i64 x.1)))]) (fun x => [(11, .row 3 1 0 ((outR n.origin.length ((List.range x.1).map (aloneN n))).map iD))]) ((0, ())) (Nat.zero_le _) (Wk.refl _ _) (Wk_sub rfl rfl ?_ ?_) (fun x hx => ?_))
  | (have hlt : x.1 < n.origin.length := (by have h0 := of_decide_eq_true (show decide ((x.1 : Int) < _) = true from hc); first | exact Int.ofNat_lt.1 h0 | (rw [outR_len (by rw [rangeA_len]; exact hx)] at h0; exact Int.ofNat_lt.1 h0)); have g1 := wrapI64 ((x.1 : Int) + 1) (by omega) (by omega); replace hc : True := trivial)
  | (have hal : aloneV n (x.1 : Int) = true := hc; replace hc : True := trivial)
  | (have hal : aloneV n (x.1 : Int) = false := hc; replace hc : True := trivial)
  | (have _q : x.1 < n.origin.length := hlt; with_reducible refine loopQ_next (x.1 + 1, ()) ?_ ?_ (Wk_sub rfl rfl ?_ ?_))
  | (have hno : (y.1 == halvV n y.1) = false := (by simpa using hc); have hst := stepL_halv (ne_of_beq hno); replace hc : True := trivial)
  | (have hno : (y.1 == halvV n y.1) = true := (by simpa using hc); have hst := stepL_take (eq_of_beq2 hno); replace hc : True := trivial; rcases htk : takenV n y.1 with _ | c)
  | (have _q : stepL n y.1 = some (halvV n y.1) := hst; with_reducible refine loopQ_next (halvV n y.1, ()) ?_ ?_ (Wk_sub rfl rfl ?_ ?_))
  | (have _q : takenV n y.1 = some c := htk; with_reducible refine loopQ_next (c, ()) ?_ ?_ (Wk_sub rfl rfl ?_ ?_))
  | (with_reducible refine awp_loopU (b := f17p13) (fun y : List Int × Unit => OnWay n y.1) (fun y => ((n.origin.length : Int) - countV y.1).toNat) (fun y => [(5, .d (.sl 1 (y.1.map iD)))]) (fun y => []) ((startL n, ())) (OnWay.zero n) (Wk.refl _ _) (Wk_sub rfl rfl ?_ ?_) (fun y hy => ?_))
  | simp only [f17r0, f17r1, f17r2, f17r3, f17r4, f17r5, f17r6, f17r7, f17r8, f17r9, f17r10, f17r11, f17r12, f17r13, f17r14, f17r15, g1, f17k, List.length_map, List.length_replicate, Int.toNat_natCast, outR_len, List.getElem?_cons_zero, List.getElem?_cons_succ, runG_nil, runG_u, runG_g, runG_ucS, runG_gcS, runG_uvS, stp, avL, avS, evs, evX, lget, lput, strip, putO, PO.dst, updO, okR, cells, splice, AV.cell, toD, toDs, binV, sameK, pickV, guardOf, okL_nil, sides, argsOf, rawOf, dv, dvL, owns, ownsL, flat, flatL, lkeep, seqQ, blockQ, initS, List.drop_succ_cons, List.drop_zero, List.take_succ_cons, List.take_zero, List.getD_cons_zero, List.getD_cons_succ, List.length_cons, List.length_nil, List.set_cons_zero, List.set_cons_succ, List.map_cons, List.map_nil, List.all_cons, List.all_nil, List.elem_cons, List.elem_nil, Option.getD_some, Option.getD_none, Option.bind_some, Option.isNone_none, reduceIte, reduceCtorEq, Nat.reduceEqDiff, Nat.reduceAdd, Nat.reduceLeDiff, Nat.zero_add, Nat.add_zero, Nat.reduceBEq, Bool.and_self, Bool.and_true, Bool.true_and, Bool.or_self, Bool.or_false, Bool.false_or, Bool.or_true, Bool.true_or, true_and, and_true, and_self, implies_true, forall_const, Bool.false_eq_true, id_eq, retQ, resOf, resV, Option.some.injEq, exists_eq_left', AV.d.injEq, D.v.injEq, Value.bool.injEq, imp_self, bldF, bldS, toVals, eqLs, Option.map_some, imp_false, not_true_eq_false, not_false_eq_true, foot, wrs, nm, nmL, PG.reads, PG.dst, PO.reads, X.sl, sls, slB, List.append_nil, List.cons_append, List.nil_append, Option.toList_some, Option.toList_none, loopQ_exit, loopQ_ret, subS, subO, Bool.bne_false, Bool.bne_true, elemsOf, bslD, bslS, mentries, isAgV, asA, lputs, mgetD_set, mcmp_set, mput_set, List.headD_cons, sealS, sealO, sealV, sealL, mput_nil, mcmp_nil, midQ_ret, midQ_exit, sealsS, sealsO, runW_nil, runW_cons, Bool.true_bne, Bool.false_bne, bne_self_eq_false, Int.reduceToNat, bndV, oSl, resR, runS_nil, runS_gc, ren, renL, renO, sg, gBack, scopeQ_normal, scopeQ_ret, scopeQ_exit, lenB, argsN, dvN]
  all_goals try first
    | omega
    | (with_reducible rfl)
    | (show Value.int _ 0 = _; rfl)
    | exact count64 hlt (by omega)
    | (simp [outR, List.map_replicate]; done)
    | (rw [outR_len (by rw [rangeA_len]; omega)]; omega)
    | (rw [rangeA_yes hal]; exact outR_row2 (rangeA_len n x.1) hlt _)
    | (rw [rangeA_yes hal]; exact outR_row (rangeA_len n x.1) hlt _)
    | (rw [rangeA_no hal, ← outR_skip (rangeA_len n x.1) hlt]; done)
    | (have h1 := hy.step m hst; exact h1.1)
    | (have h1 := hy.step m hst; exact meas_lt h1.2.1 h1.2.2)
    | (have h1 := hy.step m (hst.trans htk); exact h1.1)
    | (have h1 := hy.step m (hst.trans htk); exact meas_lt h1.2.1 h1.2.2)
    | (rw [hy.stop (hst.trans htk)]; done)
  all_goals trace_state
end Go.Proofs.Ytokfackbnnkbnaa

