/- Whether routes are the same; shapes without what sets how routes are liked, or without maps. Printed by a program of this project (wip/mq). -/
import Derived.Test.YtajkgmmmkhekmaaQ0
import Derived.Test.YtajkgmmmkhekmaaMqPl8
import Derived.Test.YtajkgmmmkhekmaaAttr
namespace Go.Proofs.Ytajkgmmmkhekmaa
open Go Mq Go.ChangeShapes Go.WideShapes Go.ChangeAt Go.RowKit
/-! maquette/maquettelaw15.SameAttrs -/
def f32r0 : List PG := [.u (.mv 4 (.k (.bool false)))]
def f32r1 : List PG := [.u (.mv 6 (.t 0)), .u (.len 7 (.t 6)), .u (.mv 8 (.t 1)), .u (.len 9 (.t 8)), .u (.beq 10 true false (.t 7) (.t 9))]
def f32r2 : List PG := [.u (.mv 4 (.k (.bool false)))]
abbrev f32p0 : PC := .seq (.reg f32r2) (.ret)
abbrev f32p1 : PC := .cond (.t 10) (f32p0) (.skip)
def f32r3 : List PG := [.u (.mv 11 (.t 0)), .u (.len 12 (.t 11)), .u (.mv 13 (.k (.int .i64 0)))]
def f32r4 : List PG := [.u (.bo 14 .lss (.t 13) (.t 12))]
def f32r5 : List PG := [.u (.mv 15 (.t 13)), .u (.mv 5 (.t 15))]
def f32r6 : List PG := [.u (.mv 16 (.t 0)), .u (.mv 17 (.t 5)), .u (.ia 18 4 (.t 16) (.t 17)), .u (.ld 19 4 true (.t 18)), .u (.mv 20 (.t 1)), .u (.mv 21 (.t 5)), .u (.ia 22 4 (.t 20) (.t 21)), .u (.ld 23 4 true (.t 22)), .uc 24 20 [.t 19, .t 23], .u (.no 25 (.t 24))]
def f32r7 : List PG := [.u (.mv 4 (.k (.bool false)))]
abbrev f32p2 : PC := .seq (.reg f32r7) (.ret)
abbrev f32p3 : PC := .cond (.t 25) (f32p2) (.skip)
abbrev f32p4 : PC := .seq (.regD f32r6 []) (f32p3)
def f32r8 : List PG := [.u (.bo 26 .add (.t 13) (.k (.int .i64 1))), .u (.mv 13 (.t 26))]
abbrev f32p5 : PC := .seq (.block 1 (.seq (.reg f32r5) (f32p4))) (.reg f32r8)
abbrev f32p6 : PC := .seq (.cond (.t 14) (.skip) (.exit 0)) (f32p5)
abbrev f32p7 : PC := .seq (.reg f32r4) (f32p6)
abbrev f32p8 : PC := .block 0 (.loop (f32p7))
def f32r9 : List PG := [.u (.mv 4 (.k (.bool true)))]
abbrev f32p9 : PC := .seq (.reg f32r9) (.ret)
abbrev f32p10 : PC := .seq (.seq (.reg f32r3) (f32p8)) (f32p9)
abbrev f32p11 : PC := .seq (.seq (.reg f32r1) (f32p1)) (f32p10)
abbrev f32pc : PC := .seq (.reg f32r0) (f32p11)
def f32k : List Nat := [0, 1, 4, 5, 10, 12, 13, 14, 25]
theorem f32c : Try.f32.body.bind (cC te Try.f32.ntmps) = some f32pc := by kernel_rfl
/-! maquette/maquettelaw16.Plain -/
def f31r0 : List PG := [.u (.bx 1 (.t 0)), .u (.al 2 [.d (.v (.int .u8 0)), .nl 1, .nl 1, .nl 1, .nl 1, .nl 1])]
def f31r1 : List PG := [.u (.mv 3 (.nl 1))]
def f31r2 : List PG := [.u (.fa 9 2 (.t 1)), .u (.ld 10 1 false (.t 9)), .u (.len 11 (.t 10)), .u (.mv 12 (.k (.int .i64 0)))]
def f31r3 : List PG := [.u (.bo 13 .lss (.t 12) (.t 11))]
def f31r4 : List PG := [.u (.ia 14 1 (.t 10) (.t 12)), .u (.ld 15 1 false (.t 14)), .u (.mv 5 (.t 15))]
def f31r5 : List PG := [.u (.mv 6 (.nl 6))]
def f31r6 : List PG := [.u (.mv 16 (.t 5)), .u (.len 17 (.t 16)), .u (.mv 18 (.k (.int .i64 0)))]
def f31r7 : List PG := [.u (.bo 19 .lss (.t 18) (.t 17))]
def f31r8 : List PG := [.u (.ia 20 6 (.t 16) (.t 18)), .u (.ld 21 6 true (.t 20)), .u (.al 8 [.d (.v (.int .u8 0)), .d (.v (.int .u8 0)), .d (.v (.int .u8 0)), .d (.v (.int .u8 0)), .d (.v (.int .u8 0)), .d (.v (.int .u8 0))]), .u (.st 6 (.t 8) (.t 21))]
def f31r9 : List PG := [.u (.fa 22 5 (.t 8)), .u (.st 1 (.t 22) (.k (.int .u8 0)))]
def f31r10 : List PG := [.u (.mv 23 (.t 6)), .u (.ld 24 6 true (.t 8)), .u (.bsl 25 85 6 [.t 24]), .u (.app 26 85 6 6 (.t 23) (.t 25)), .u (.mv 6 (.t 26))]
abbrev f31p0 : PC := .seq (.reg f31r9) (.reg f31r10)
def f31r11 : List PG := [.u (.bo 27 .add (.t 18) (.k (.int .i64 1))), .u (.mv 18 (.t 27))]
abbrev f31p1 : PC := .seq (.block 3 (.seq (.reg f31r8) (f31p0))) (.reg f31r11)
abbrev f31p2 : PC := .seq (.cond (.t 19) (.skip) (.exit 2)) (f31p1)
abbrev f31p3 : PC := .seq (.reg f31r7) (f31p2)
abbrev f31p4 : PC := .block 2 (.loop (f31p3))
def f31r12 : List PG := [.u (.mv 28 (.t 3)), .u (.mv 29 (.t 6)), .u (.bsl 30 83 1 [.t 29]), .u (.app 31 83 1 24 (.t 28) (.t 30)), .u (.mv 3 (.t 31))]
abbrev f31p5 : PC := .seq (.seq (.reg f31r6) (f31p4)) (.reg f31r12)
abbrev f31p6 : PC := .seq (.reg f31r5) (f31p5)
def f31r13 : List PG := [.u (.bo 32 .add (.t 12) (.k (.int .i64 1))), .u (.mv 12 (.t 32))]
abbrev f31p7 : PC := .seq (.block 1 (.seq (.reg f31r4) (f31p6))) (.reg f31r13)
abbrev f31p8 : PC := .seq (.cond (.t 13) (.skip) (.exit 0)) (f31p7)
abbrev f31p9 : PC := .seq (.reg f31r3) (f31p8)
abbrev f31p10 : PC := .block 0 (.loop (f31p9))
def f31r14 : List PG := [.u (.mv 33 (.t 3)), .u (.fa 34 2 (.t 1)), .u (.st 1 (.t 34) (.t 33))]
def f31r15 : List PG := [.u (.ld 35 6 true (.t 1)), .u (.st 6 (.t 2) (.t 35))]
abbrev f31p11 : PC := .seq (.reg f31r15) (.ret)
abbrev f31p12 : PC := .seq (.reg f31r14) (f31p11)
abbrev f31p13 : PC := .seq (.seq (.reg f31r2) (f31p10)) (f31p12)
abbrev f31p14 : PC := .seq (.reg f31r1) (f31p13)
abbrev f31pc : PC := .seq (.reg f31r0) (f31p14)
def f31k : List Nat := [0, 1, 2, 3, 5, 6, 8, 10, 11, 12, 13, 16, 17, 18, 19]
theorem f31c : Try.f31.body.bind (cC te Try.f31.ntmps) = some f31pc := by kernel_rfl
/-! maquette/maquettelaw16.Bare -/
def f36r0 : List PG := [.u (.bx 1 (.t 0)), .u (.al 2 [.d (.v (.int .u8 0)), .nl 1, .nl 1, .nl 1, .nl 1, .nl 1])]
def f36r1 : List PG := [.u (.fa 3 2 (.t 1)), .u (.st 1 (.t 3) (.nl 1))]
def f36r2 : List PG := [.u (.ld 4 6 true (.t 1)), .u (.st 6 (.t 2) (.t 4))]
abbrev f36p0 : PC := .seq (.reg f36r2) (.ret)
abbrev f36p1 : PC := .seq (.reg f36r1) (f36p0)
abbrev f36pc : PC := .seq (.reg f36r0) (f36p1)
def f36k : List Nat := [0, 1, 2]
theorem f36c : Try.f36.body.bind (cC te Try.f36.ntmps) = some f36pc := by kernel_rfl
set_option maxRecDepth 20000
set_option maxHeartbeats 4000000
set_option linter.unusedSimpArgs false
set_option linter.unusedVariables false

theorem same_fn4 (a b : Attr) : FnS Try.prog 20 [.ag [.d (.v (.bool a.ok)), .d (.v (.int .i64 a.pref)), .d (.v (.int .i64 a.cost)), .d (.v (.int .u8 a.tags))], .ag [.d (.v (.bool b.ok)), .d (.v (.int .i64 b.pref)), .d (.v (.int .i64 b.cost)), .d (.v (.int .u8 b.tags))]] (.d (.v (.bool (sameA a b)))) := same_fn a b
theorem sameL_fn (a b : List Attr) (ha : a.length ≤ maxLen) (hb : b.length ≤ maxLen) : FnS Try.prog 32 [.d (.sl 4 (a.map Attr.row)), .d (.sl 4 (b.map Attr.row))] (.d (.v (.bool (sameL a b)))) := by
  refine fn_of teok Try.func32 (by kernel_rfl) f32c f32k [.tmp 4] rfl (by show 2 ≤ 27; omega) ?_
  repeat' first
  | with_reducible refine awp_seq ?_
  | with_reducible refine awp_block ?_
  | with_reducible refine awp_reg ?_
  | with_reducible refine awp_regD ?_
  | with_reducible refine awp_ret ?_
  | with_reducible refine awp_skip ?_
  | with_reducible refine awp_exit ?_
  | with_reducible refine normQ_of ?_
  | with_reducible refine wkE_of ?_
  | with_reducible refine midQ_of (Wk_sub rfl rfl ?_ ?_)
  | with_reducible refine runD_nil ?_
  | with_reducible refine runD_cons ?_
  | with_reducible refine runF_cons ?_
  | with_reducible refine runF_nil ?_
  | with_reducible refine KF_of ?_
  | with_reducible refine chkQ_of rfl ?_
  | with_reducible refine awp_cond (by simp only [evX, lget, Option.getD_some, reduceIte, Nat.reduceEqDiff]; rfl) (fun hc => ?_) (fun hc => ?_)
  | with_reducible refine CallU_of (f := 20) (same_fn4 u v) (by first | exact Or.inr (Or.inl rfl) | exact Or.inl rfl) ?_
  | with_reducible refine CallC_of (f := 20) (fun _ => same_fn4 u v) (by first | exact Or.inr (Or.inl rfl) | exact Or.inl rfl) ?_
  | (with_reducible assumption)
  | with_reducible refine fun (hG : okL _) => ?_
  | (with_reducible refine fun (hT : (_ : Bool) = _) => ?_)
  | (with_reducible first | exact hG.2 | exact hG.2.2 | exact hG.2.2.2 | exact hG.2.2.2.2)
  | with_reducible refine okL_mk ?_ ?_
  | with_reducible refine And.intro ?_ ?_
  | (with_reducible refine awp_loopU (b := f32p7) (fun i : Nat => i ≤ a.length ∧ a.length = b.length ∧ sameGo (a.drop i) (b.drop i) = sameGo a b) (fun i => a.length - i) (fun i => [(13, .d (.v (.int .i64 i)))]) (fun i => []) (0) (⟨Nat.zero_le _, by have := hc; simp at this; omega, rfl⟩) (Wk.refl _ _) (Wk_sub rfl rfl ?_ ?_) (fun i hi => ?_))
  | (refine Exists.elim (at_drop Attr.row a i (Int.ofNat_lt.1 (of_decide_eq_true hc))) (fun u hu => ?_); refine Exists.elim (at_drop Attr.row b i (by have := hu.2.2.2; omega)) (fun v hv => ?_); have g1 := hu.2.1; have g2 := hv.2.1; replace hc : True := trivial)
  | (with_reducible refine loopQ_next (i + 1) ?_ ?_ (Wk_sub rfl rfl ?_ ?_))
  | simp only [f32r0, f32r1, f32r2, f32r3, f32r4, f32r5, f32r6, f32r7, f32r8, f32r9, g2, g1, f32k, List.length_map, runG_nil, runG_u, runG_g, runG_ucS, runG_gcS, runG_uvS, stp, avL, avS, evs, evX, lget, lput, strip, putO, PO.dst, updO, okR, cells, splice, AV.cell, toD, toDs, binV, sameK, pickV, guardOf, okL_nil, sides, argsOf, rawOf, dv, dvL, owns, ownsL, flat, flatL, lkeep, seqQ, blockQ, initS, List.drop_succ_cons, List.drop_zero, List.take_succ_cons, List.take_zero, List.getD_cons_zero, List.getD_cons_succ, List.length_cons, List.length_nil, List.set_cons_zero, List.set_cons_succ, List.map_cons, List.map_nil, List.all_cons, List.all_nil, List.elem_cons, List.elem_nil, Option.getD_some, Option.getD_none, Option.bind_some, Option.isNone_none, reduceIte, reduceCtorEq, Nat.reduceEqDiff, Nat.reduceAdd, Nat.reduceLeDiff, Nat.zero_add, Nat.add_zero, Nat.reduceBEq, Bool.and_self, Bool.and_true, Bool.true_and, Bool.or_self, Bool.or_false, Bool.false_or, Bool.or_true, Bool.true_or, true_and, and_true, and_self, implies_true, forall_const, Bool.false_eq_true, id_eq, retQ, resOf, resV, Option.some.injEq, exists_eq_left', AV.d.injEq, D.v.injEq, Value.bool.injEq, imp_self, bldF, bldS, toVals, eqLs, Option.map_some, imp_false, not_true_eq_false, not_false_eq_true, foot, wrs, nm, nmL, PG.reads, PG.dst, PO.reads, X.sl, sls, slB, List.append_nil, List.cons_append, List.nil_append, Option.toList_some, Option.toList_none, loopQ_exit, loopQ_ret, subS, subO, Bool.bne_false, Bool.bne_true, elemsOf, bslD, bslS, mentries, isAgV, asA, lputs, mgetD_set, mcmp_set, mput_set, List.headD_cons, sealS, sealO, sealV, sealL, mput_nil, mcmp_nil, midQ_ret, midQ_exit, sealsS, sealsO, runW_nil, runW_cons, Bool.true_bne, Bool.false_bne, bne_self_eq_false, Int.reduceToNat, bndV, oSl, resR, runS_nil, runS_gc, ren, renL, renO, sg, gBack]
  | simp only [f32r0, f32r1, f32r2, f32r3, f32r4, f32r5, f32r6, f32r7, f32r8, f32r9, f32k, List.length_map, runG_nil, runG_u, runG_g, runG_ucS, runG_gcS, runG_uvS, stp, avL, avS, evs, evX, lget, lput, strip, putO, PO.dst, updO, okR, cells, splice, AV.cell, toD, toDs, binV, sameK, pickV, guardOf, okL_nil, sides, argsOf, rawOf, dv, dvL, owns, ownsL, flat, flatL, lkeep, seqQ, blockQ, initS, List.drop_succ_cons, List.drop_zero, List.take_succ_cons, List.take_zero, List.getD_cons_zero, List.getD_cons_succ, List.length_cons, List.length_nil, List.set_cons_zero, List.set_cons_succ, List.map_cons, List.map_nil, List.all_cons, List.all_nil, List.elem_cons, List.elem_nil, Option.getD_some, Option.getD_none, Option.bind_some, Option.isNone_none, reduceIte, reduceCtorEq, Nat.reduceEqDiff, Nat.reduceAdd, Nat.reduceLeDiff, Nat.zero_add, Nat.add_zero, Nat.reduceBEq, Bool.and_self, Bool.and_true, Bool.true_and, Bool.or_self, Bool.or_false, Bool.false_or, Bool.or_true, Bool.true_or, true_and, and_true, and_self, implies_true, forall_const, Bool.false_eq_true, id_eq, retQ, resOf, resV, Option.some.injEq, exists_eq_left', AV.d.injEq, D.v.injEq, Value.bool.injEq, imp_self, bldF, bldS, toVals, eqLs, Option.map_some, imp_false, not_true_eq_false, not_false_eq_true, foot, wrs, nm, nmL, PG.reads, PG.dst, PO.reads, X.sl, sls, slB, List.append_nil, List.cons_append, List.nil_append, Option.toList_some, Option.toList_none, loopQ_exit, loopQ_ret, subS, subO, Bool.bne_false, Bool.bne_true, elemsOf, bslD, bslS, mentries, isAgV, asA, lputs, mgetD_set, mcmp_set, mput_set, List.headD_cons, sealS, sealO, sealV, sealL, mput_nil, mcmp_nil, midQ_ret, midQ_exit, sealsS, sealsO, runW_nil, runW_cons, Bool.true_bne, Bool.false_bne, bne_self_eq_false, Int.reduceToNat, bndV, oSl, resR, runS_nil, runS_gc, ren, renL, renO, sg, gBack]
  all_goals try first
    | omega
    | (with_reducible rfl)
    | (show Value.int _ 0 = _; rfl)
    | (simp only [List.length_append, List.length_cons, List.length_nil]; omega)
    | (simp only [List.length_append, List.length_cons, List.length_nil, List.map_append, List.map_cons, List.map_nil]; done)
    | exact count64 hu.2.2.2 ha
    | (have h1 : a.length ≠ b.length := by have := hc; simp at this; omega
       rw [sameL, if_pos h1]; done)
    | (have h1 := hi.2.2; rw [hu.1, hv.1, sameGo] at h1; rw [sameL, if_neg (by omega), ← h1]; simp only [Bool.not_eq_eq_eq_not, Bool.not_true] at hc; rw [hc]; rfl)
    | (have h1 := hi.2.2; rw [hu.1, hv.1, sameGo] at h1; simp only [Bool.not_eq_eq_eq_not, Bool.not_false] at hc; rw [hc, Bool.true_and] at h1; exact h1)
    | (have h0 := of_decide_eq_false hc; have h1 := hi.2.2; rw [List.drop_eq_nil_of_le (by omega)] at h1; rw [sameL, if_neg (by omega), ← h1]; simp [sameGo]; done)
  all_goals trace_state
theorem bare_fn (sh : Shape) : FnS Try.prog 36 [sh.av] sh.bare.av := by
  refine fn_of teok Try.func36 (by kernel_rfl) f36c f36k [.cell 2 25] rfl (by show 1 ≤ 5; omega) ?_
  repeat' first
  | with_reducible refine awp_seq ?_
  | with_reducible refine awp_block ?_
  | with_reducible refine awp_reg ?_
  | with_reducible refine awp_regD ?_
  | with_reducible refine awp_ret ?_
  | with_reducible refine awp_skip ?_
  | with_reducible refine awp_exit ?_
  | with_reducible refine normQ_of ?_
  | with_reducible refine wkE_of ?_
  | with_reducible refine midQ_of (Wk_sub rfl rfl ?_ ?_)
  | with_reducible refine runD_nil ?_
  | with_reducible refine runD_cons ?_
  | with_reducible refine runF_cons ?_
  | with_reducible refine runF_nil ?_
  | with_reducible refine KF_of ?_
  | with_reducible refine chkQ_of rfl ?_
  | with_reducible refine awp_cond (by simp only [evX, lget, Option.getD_some, reduceIte, Nat.reduceEqDiff]; rfl) (fun hc => ?_) (fun hc => ?_)
  | (with_reducible assumption)
  | with_reducible refine fun (hG : okL _) => ?_
  | (with_reducible refine fun (hT : (_ : Bool) = _) => ?_)
  | (with_reducible first | exact hG.2 | exact hG.2.2 | exact hG.2.2.2 | exact hG.2.2.2.2)
  | with_reducible refine okL_mk ?_ ?_
  | with_reducible refine And.intro ?_ ?_
  | simp only [f36r0, f36r1, f36r2, f36k, te25, List.length_map, runG_nil, runG_u, runG_g, runG_ucS, runG_gcS, runG_uvS, stp, avL, avS, evs, evX, lget, lput, strip, putO, PO.dst, updO, okR, cells, splice, AV.cell, toD, toDs, binV, sameK, pickV, guardOf, okL_nil, sides, argsOf, rawOf, dv, dvL, owns, ownsL, flat, flatL, lkeep, seqQ, blockQ, initS, List.drop_succ_cons, List.drop_zero, List.take_succ_cons, List.take_zero, List.getD_cons_zero, List.getD_cons_succ, List.length_cons, List.length_nil, List.set_cons_zero, List.set_cons_succ, List.map_cons, List.map_nil, List.all_cons, List.all_nil, List.elem_cons, List.elem_nil, Option.getD_some, Option.getD_none, Option.bind_some, Option.isNone_none, reduceIte, reduceCtorEq, Nat.reduceEqDiff, Nat.reduceAdd, Nat.reduceLeDiff, Nat.zero_add, Nat.add_zero, Nat.reduceBEq, Bool.and_self, Bool.and_true, Bool.true_and, Bool.or_self, Bool.or_false, Bool.false_or, Bool.or_true, Bool.true_or, true_and, and_true, and_self, implies_true, forall_const, Bool.false_eq_true, id_eq, retQ, resOf, resV, Option.some.injEq, exists_eq_left', AV.d.injEq, D.v.injEq, Value.bool.injEq, imp_self, bldF, bldS, toVals, eqLs, Option.map_some, imp_false, not_true_eq_false, not_false_eq_true, foot, wrs, nm, nmL, PG.reads, PG.dst, PO.reads, X.sl, sls, slB, List.append_nil, List.cons_append, List.nil_append, Option.toList_some, Option.toList_none, loopQ_exit, loopQ_ret, subS, subO, Bool.bne_false, Bool.bne_true, elemsOf, bslD, bslS, mentries, isAgV, asA, lputs, mgetD_set, mcmp_set, mput_set, List.headD_cons, sealS, sealO, sealV, sealL, mput_nil, mcmp_nil, midQ_ret, midQ_exit, sealsS, sealsO, runW_nil, runW_cons, Bool.true_bne, Bool.false_bne, bne_self_eq_false, Int.reduceToNat, bndV, oSl, resR, runS_nil, runS_gc, ren, renL, renO, sg, gBack]
  all_goals try first
    | rfl
  all_goals trace_state
theorem plain_fnS (sh : Shape) (h1 : sh.maps.length ≤ 1048576) (h2 : ∀ rs ∈ sh.maps, rs.length ≤ 1048576) : FnS Try.prog 31 [sh.av] sh.plain.av := by
  have hm : maxLen = 9223372036854775807 := rfl
  refine fn_of teok Try.func31 (by kernel_rfl) f31c f31k [.cell 2 25] rfl (by show 1 ≤ 36; omega) ?_
  repeat' first
  | (with_reducible refine awp_cut (l := f31r12) [(2, [86])] ?_; unfold f31r12)
  | with_reducible refine awp_seq ?_
  | with_reducible refine awp_block ?_
  | with_reducible refine awp_reg ?_
  | with_reducible refine awp_regD ?_
  | with_reducible refine awp_ret ?_
  | with_reducible refine awp_skip ?_
  | with_reducible refine awp_exit ?_
  | with_reducible refine normQ_of ?_
  | with_reducible refine wkE_of ?_
  | with_reducible refine midQ_of (Wk_sub rfl rfl ?_ ?_)
  | with_reducible refine runD_nil ?_
  | with_reducible refine runD_cons ?_
  | with_reducible refine runF_cons ?_
  | with_reducible refine runF_nil ?_
  | with_reducible refine KF_of ?_
  | with_reducible refine chkQ_of rfl ?_
  | with_reducible refine awp_cond (by simp only [evX, lget, Option.getD_some, reduceIte, Nat.reduceEqDiff]; rfl) (fun hc => ?_) (fun hc => ?_)
  | (with_reducible assumption)
  | with_reducible refine fun (hG : okL _) => ?_
  | (with_reducible refine fun (hT : (_ : Bool) = _) => ?_)
  | (with_reducible first | exact hG.2 | exact hG.2.2 | exact hG.2.2.2 | exact hG.2.2.2.2)
  | with_reducible refine okL_mk ?_ ?_
  | with_reducible refine And.intro ?_ ?_
  | (with_reducible refine awp_loopU (b := f31p9) (fun i : Nat => i ≤ sh.maps.length) (fun i => sh.maps.length - i) (fun i => [(12, .d (.v (.int .i64 i))), (3, .own 131 i)]) (fun i => [(131, .row 83 1 i ((((sh.maps.take i).map (·.map Rule.plain))).map rsD))]) (0) (Nat.zero_le _) (Wk_nl 3 131 83 rfl rfl (by decide)) (Wk_sub rfl rfl ?_ ?_) (fun i hi => ?_))
  | (refine Exists.elim (at_drop rsD sh.maps i (Int.ofNat_lt.1 (of_decide_eq_true hc))) (fun rs he => ?_); have g1 := he.2.1; have hrl := h2 rs (List.mem_of_getElem? he.2.2.1); replace hc : True := trivial)
  | (with_reducible refine awp_loopU (b := f31p3) (fun j : Nat × Unit => j.1 ≤ rs.length) (fun j => rs.length - j.1) (fun j => [(18, .d (.v (.int .i64 j.1))), (6, .own 86 j.1)]) (fun j => [(86, .row 85 6 j.1 (((rs.take j.1).map Rule.plain).map Rule.row))]) ((0, ())) (Nat.zero_le _) (Wk_nl 6 86 85 rfl rfl (by decide)) (Wk_sub rfl rfl ?_ ?_) (fun j hj => ?_))
  | (refine Exists.elim (at_drop Rule.row rs j.1 (Int.ofNat_lt.1 (of_decide_eq_true hc))) (fun r hr => ?_); have g2 := hr.2.1; replace hc : True := trivial)
  | (with_reducible refine loopQ_next ((j.1 + 1, ())) ?_ ?_ (Wk_sub rfl rfl ?_ ?_))
  | (with_reducible refine loopQ_next (i + 1) ?_ ?_ (Wk_sub rfl rfl ?_ ?_))
  | simp only [f31r0, f31r1, f31r2, f31r3, f31r4, f31r5, f31r6, f31r7, f31r8, f31r9, f31r10, f31r11, f31r13, f31r14, f31r15, g2, g1, f31k, te25, List.length_map, runG_nil, runG_u, runG_g, runG_ucS, runG_gcS, runG_uvS, stp, avL, avS, evs, evX, lget, lput, strip, putO, PO.dst, updO, okR, cells, splice, AV.cell, toD, toDs, binV, sameK, pickV, guardOf, okL_nil, sides, argsOf, rawOf, dv, dvL, owns, ownsL, flat, flatL, lkeep, seqQ, blockQ, initS, List.drop_succ_cons, List.drop_zero, List.take_succ_cons, List.take_zero, List.getD_cons_zero, List.getD_cons_succ, List.length_cons, List.length_nil, List.set_cons_zero, List.set_cons_succ, List.map_cons, List.map_nil, List.all_cons, List.all_nil, List.elem_cons, List.elem_nil, Option.getD_some, Option.getD_none, Option.bind_some, Option.isNone_none, reduceIte, reduceCtorEq, Nat.reduceEqDiff, Nat.reduceAdd, Nat.reduceLeDiff, Nat.zero_add, Nat.add_zero, Nat.reduceBEq, Bool.and_self, Bool.and_true, Bool.true_and, Bool.or_self, Bool.or_false, Bool.false_or, Bool.or_true, Bool.true_or, true_and, and_true, and_self, implies_true, forall_const, Bool.false_eq_true, id_eq, retQ, resOf, resV, Option.some.injEq, exists_eq_left', AV.d.injEq, D.v.injEq, Value.bool.injEq, imp_self, bldF, bldS, toVals, eqLs, Option.map_some, imp_false, not_true_eq_false, not_false_eq_true, foot, wrs, nm, nmL, PG.reads, PG.dst, PO.reads, X.sl, sls, slB, List.append_nil, List.cons_append, List.nil_append, Option.toList_some, Option.toList_none, loopQ_exit, loopQ_ret, subS, subO, Bool.bne_false, Bool.bne_true, elemsOf, bslD, bslS, mentries, isAgV, asA, lputs, mgetD_set, mcmp_set, mput_set, List.headD_cons, sealS, sealO, sealV, sealL, mput_nil, mcmp_nil, midQ_ret, midQ_exit, sealsS, sealsO, runW_nil, runW_cons, Bool.true_bne, Bool.false_bne, bne_self_eq_false, Int.reduceToNat, bndV, oSl, resR, runS_nil, runS_gc, ren, renL, renO, sg, gBack]
  | simp only [f31r0, f31r1, f31r2, f31r3, f31r4, f31r5, f31r6, f31r7, f31r8, f31r9, f31r10, f31r11, f31r13, f31r14, f31r15, g1, f31k, te25, List.length_map, runG_nil, runG_u, runG_g, runG_ucS, runG_gcS, runG_uvS, stp, avL, avS, evs, evX, lget, lput, strip, putO, PO.dst, updO, okR, cells, splice, AV.cell, toD, toDs, binV, sameK, pickV, guardOf, okL_nil, sides, argsOf, rawOf, dv, dvL, owns, ownsL, flat, flatL, lkeep, seqQ, blockQ, initS, List.drop_succ_cons, List.drop_zero, List.take_succ_cons, List.take_zero, List.getD_cons_zero, List.getD_cons_succ, List.length_cons, List.length_nil, List.set_cons_zero, List.set_cons_succ, List.map_cons, List.map_nil, List.all_cons, List.all_nil, List.elem_cons, List.elem_nil, Option.getD_some, Option.getD_none, Option.bind_some, Option.isNone_none, reduceIte, reduceCtorEq, Nat.reduceEqDiff, Nat.reduceAdd, Nat.reduceLeDiff, Nat.zero_add, Nat.add_zero, Nat.reduceBEq, Bool.and_self, Bool.and_true, Bool.true_and, Bool.or_self, Bool.or_false, Bool.false_or, Bool.or_true, Bool.true_or, true_and, and_true, and_self, implies_true, forall_const, Bool.false_eq_true, id_eq, retQ, resOf, resV, Option.some.injEq, exists_eq_left', AV.d.injEq, D.v.injEq, Value.bool.injEq, imp_self, bldF, bldS, toVals, eqLs, Option.map_some, imp_false, not_true_eq_false, not_false_eq_true, foot, wrs, nm, nmL, PG.reads, PG.dst, PO.reads, X.sl, sls, slB, List.append_nil, List.cons_append, List.nil_append, Option.toList_some, Option.toList_none, loopQ_exit, loopQ_ret, subS, subO, Bool.bne_false, Bool.bne_true, elemsOf, bslD, bslS, mentries, isAgV, asA, lputs, mgetD_set, mcmp_set, mput_set, List.headD_cons, sealS, sealO, sealV, sealL, mput_nil, mcmp_nil, midQ_ret, midQ_exit, sealsS, sealsO, runW_nil, runW_cons, Bool.true_bne, Bool.false_bne, bne_self_eq_false, Int.reduceToNat, bndV, oSl, resR, runS_nil, runS_gc, ren, renL, renO, sg, gBack]
  | simp only [f31r0, f31r1, f31r2, f31r3, f31r4, f31r5, f31r6, f31r7, f31r8, f31r9, f31r10, f31r11, f31r13, f31r14, f31r15, f31k, te25, List.length_map, runG_nil, runG_u, runG_g, runG_ucS, runG_gcS, runG_uvS, stp, avL, avS, evs, evX, lget, lput, strip, putO, PO.dst, updO, okR, cells, splice, AV.cell, toD, toDs, binV, sameK, pickV, guardOf, okL_nil, sides, argsOf, rawOf, dv, dvL, owns, ownsL, flat, flatL, lkeep, seqQ, blockQ, initS, List.drop_succ_cons, List.drop_zero, List.take_succ_cons, List.take_zero, List.getD_cons_zero, List.getD_cons_succ, List.length_cons, List.length_nil, List.set_cons_zero, List.set_cons_succ, List.map_cons, List.map_nil, List.all_cons, List.all_nil, List.elem_cons, List.elem_nil, Option.getD_some, Option.getD_none, Option.bind_some, Option.isNone_none, reduceIte, reduceCtorEq, Nat.reduceEqDiff, Nat.reduceAdd, Nat.reduceLeDiff, Nat.zero_add, Nat.add_zero, Nat.reduceBEq, Bool.and_self, Bool.and_true, Bool.true_and, Bool.or_self, Bool.or_false, Bool.false_or, Bool.or_true, Bool.true_or, true_and, and_true, and_self, implies_true, forall_const, Bool.false_eq_true, id_eq, retQ, resOf, resV, Option.some.injEq, exists_eq_left', AV.d.injEq, D.v.injEq, Value.bool.injEq, imp_self, bldF, bldS, toVals, eqLs, Option.map_some, imp_false, not_true_eq_false, not_false_eq_true, foot, wrs, nm, nmL, PG.reads, PG.dst, PO.reads, X.sl, sls, slB, List.append_nil, List.cons_append, List.nil_append, Option.toList_some, Option.toList_none, loopQ_exit, loopQ_ret, subS, subO, Bool.bne_false, Bool.bne_true, elemsOf, bslD, bslS, mentries, isAgV, asA, lputs, mgetD_set, mcmp_set, mput_set, List.headD_cons, sealS, sealO, sealV, sealL, mput_nil, mcmp_nil, midQ_ret, midQ_exit, sealsS, sealsO, runW_nil, runW_cons, Bool.true_bne, Bool.false_bne, bne_self_eq_false, Int.reduceToNat, bndV, oSl, resR, runS_nil, runS_gc, ren, renL, renO, sg, gBack]
  all_goals try first
    | omega
    | (with_reducible rfl)
    | (show Value.int _ 0 = _; rfl)
    | (simp only [List.length_append, List.length_cons, List.length_nil]; omega)
    | (simp only [List.length_append, List.length_cons, List.length_nil, List.map_append, List.map_cons, List.map_nil]; done)
    | exact count64 hr.2.2.2 (by omega)
    | exact count64 he.2.2.2 (by omega)
    | (rw [List.length_take]; omega)
    | (simp only [List.length_map, List.length_take]; omega)
    | (simp only [List.map_take, take_map_succ _ hr.2.2.1, List.map_append, List.map_cons, List.map_nil]; done)
    | (simp only [List.map_take]; rw [List.map_map, take_map_succ _ hr.2.2.1]; rfl)
    | (have h0 := of_decide_eq_false hc; rw [List.take_of_length_le (show rs.length ≤ j.1 by omega), List.take_add_one, he.2.2.1]; simp only [Option.toList_some, List.map_append, List.map_cons, List.map_nil]; done)
    | (have h0 := of_decide_eq_false hc; rw [List.take_of_length_le (show sh.maps.length ≤ i by omega)]; rfl)
  all_goals trace_state
end Go.Proofs.Ytajkgmmmkhekmaa
