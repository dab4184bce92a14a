/- Whether routes are the same; shapes without what sets how routes are liked, or without maps. Printed by a program of this project (wip/mq). -/
import Derived.Test.YtokfackbnnkbnaaQ0
import Derived.Test.YtokfackbnnkbnaaMqPl
import Derived.Test.YtokfackbnnkbnaaAttr
set_option linter.unusedVariables false
set_option linter.unusedSimpArgs false

namespace Go.Proofs.Ytokfackbnnkbnaa
open Go Mq Go.ChangeShapes Go.WideShapes Go.ChangeAt Go.RowKit
/-! maquette/maquettelaw15.SameAttrs -/
def f24r0 : List PG := [.u (.mv 4 (.k (.bool false)))]
def f24r1 : List PG := [.u (.mv 6 (.t 0)), .u (.len 7 (.t 6)), .u (.mv 8 (.t 1)), .u (.len 9 (.t 8)), .u (.beq 10 true false (.t 7) (.t 9))]
def f24r2 : List PG := [.u (.mv 4 (.k (.bool false)))]
abbrev f24p0 : PC := .seq (.reg f24r2) (.ret)
abbrev f24p1 : PC := .cond (.t 10) (f24p0) (.skip)
def f24r3 : List PG := [.u (.mv 11 (.t 0)), .u (.len 12 (.t 11)), .u (.mv 13 (.k (.int .i64 0)))]
def f24r4 : List PG := [.u (.bo 14 .lss (.t 13) (.t 12))]
def f24r5 : List PG := [.u (.mv 15 (.t 13)), .u (.mv 5 (.t 15))]
def f24r6 : List PG := [.u (.mv 16 (.t 0)), .u (.mv 17 (.t 5)), .u (.ia 18 4 (.t 16) (.t 17)), .u (.ld 19 4 true (.t 18)), .u (.mv 20 (.t 1)), .u (.mv 21 (.t 5)), .u (.ia 22 4 (.t 20) (.t 21)), .u (.ld 23 4 true (.t 22)), .uc 24 39 [.t 19, .t 23], .u (.no 25 (.t 24))]
def f24r7 : List PG := [.u (.mv 4 (.k (.bool false)))]
abbrev f24p2 : PC := .seq (.reg f24r7) (.ret)
abbrev f24p3 : PC := .cond (.t 25) (f24p2) (.skip)
abbrev f24p4 : PC := .seq (.regD f24r6 []) (f24p3)
def f24r8 : List PG := [.u (.bo 26 .add (.t 13) (.k (.int .i64 1))), .u (.mv 13 (.t 26))]
abbrev f24p5 : PC := .seq (.block 1 (.seq (.reg f24r5) (f24p4))) (.reg f24r8)
abbrev f24p6 : PC := .seq (.cond (.t 14) (.skip) (.exit 0)) (f24p5)
abbrev f24p7 : PC := .seq (.reg f24r4) (f24p6)
abbrev f24p8 : PC := .block 0 (.loop (f24p7))
def f24r9 : List PG := [.u (.mv 4 (.k (.bool true)))]
abbrev f24p9 : PC := .seq (.reg f24r9) (.ret)
abbrev f24p10 : PC := .seq (.seq (.reg f24r3) (f24p8)) (f24p9)
abbrev f24p11 : PC := .seq (.seq (.reg f24r1) (f24p1)) (f24p10)
abbrev f24pc : PC := .seq (.reg f24r0) (f24p11)
def f24k : List Nat := [0, 1, 4, 5, 10, 12, 13, 14, 25]
theorem f24c : Try.f24.body.bind (cC te Try.f24.ntmps) = some f24pc := by kernel_rfl
set_option maxRecDepth 20000
set_option maxHeartbeats 4000000
set_option linter.unusedSimpArgs false
set_option linter.unusedVariables false

theorem same_fn4 (a b : Attr) : FnS Try.prog 39 [.ag [.d (.v (.bool a.ok)), .d (.v (.int .i64 a.pref)), .d (.v (.int .i64 a.cost)), .d (.v (.int .u8 a.tags))], .ag [.d (.v (.bool b.ok)), .d (.v (.int .i64 b.pref)), .d (.v (.int .i64 b.cost)), .d (.v (.int .u8 b.tags))]] (.d (.v (.bool (sameA a b)))) := asame_fn a b
theorem sameL_fn (a b : List Attr) (ha : a.length ≤ maxLen) (hb : b.length ≤ maxLen) : FnS Try.prog 24 [.d (.sl 4 (a.map Attr.row)), .d (.sl 4 (b.map Attr.row))] (.d (.v (.bool (sameL a b)))) := by
  refine fn_of teok Try.func24 (by kernel_rfl) f24c f24k [.tmp 4] rfl (by show 2 ≤ 27; omega) ?_
  first | (have _q := @g2; clear _q) | have g2 : Nat.pred 77 = 76 := rfl
  first | (have _q := @g1; clear _q) | have g1 : Nat.pred 77 = 76 := rfl
  repeat' first
  | with_reducible refine awp_seq ?_
  | with_reducible refine awp_block ?_
  | with_reducible refine awp_scope ?_
  | with_reducible refine awp_reg ?_
  | with_reducible refine awp_regD ?_
  | with_reducible refine awp_ret ?_
  | with_reducible refine awp_skip ?_
  | with_reducible refine awp_exit ?_
  | with_reducible refine normQ_of ?_
  | with_reducible refine wkE_of ?_
  | with_reducible refine midQ_of (Wk_sub rfl rfl ?_ ?_)
  | with_reducible refine runD_nil ?_
  | with_reducible refine runD_cons ?_
  | with_reducible refine runF_cons ?_
  | with_reducible refine runF_nil ?_
  | with_reducible refine KF_of ?_
  | with_reducible refine chkQ_of rfl ?_
  | with_reducible refine awp_cond (by simp only [evX, lget, Option.getD_some, reduceIte, Nat.reduceEqDiff]; rfl) (fun hc => ?_) (fun hc => ?_)
  | with_reducible refine CallU_of (f := 39) (same_fn4 u v) (by first | exact Or.inr (Or.inl rfl) | exact Or.inl rfl) ?_
  | with_reducible refine CallC_of (f := 39) (fun _ => same_fn4 u v) (by first | exact Or.inr (Or.inl rfl) | exact Or.inl rfl) ?_
  | (with_reducible assumption)
  | with_reducible refine fun (hG : okL _) => ?_
  | (with_reducible refine fun (hT : (_ : Bool) = _) => ?_)
  | (with_reducible first | exact hG.2 | exact hG.2.2 | exact hG.2.2.2 | exact hG.2.2.2.2)
  | with_reducible refine okL_mk ?_ ?_
  | with_reducible refine And.intro ?_ ?_
  | (with_reducible refine awp_loopU (b := f24p7) (fun i : Nat => i ≤ a.length ∧ a.length = b.length ∧ sameGo (a.drop i) (b.drop i) = sameGo a b) (fun i => a.length - i) (fun i => [(13, .d (.v (.int .i64 i)))]) (fun i => []) (0) (⟨Nat.zero_le _, by have := hc; simp at this; omega, rfl⟩) (Wk.refl _ _) (Wk_sub rfl rfl ?_ ?_) (fun i hi => ?_))
  | (refine Exists.elim (at_drop Attr.row a i (Int.ofNat_lt.1 (of_decide_eq_true hc))) (fun u hu => ?_); refine Exists.elim (at_drop Attr.row b i (by have := hu.2.2.2; omega)) (fun v hv => ?_); have g1 := hu.2.1; have g2 := hv.2.1; replace hc : True := trivial)
  | (with_reducible refine loopQ_next (i + 1) ?_ ?_ (Wk_sub rfl rfl ?_ ?_))
  | simp only [f24r0, f24r1, f24r2, f24r3, f24r4, f24r5, f24r6, f24r7, f24r8, f24r9, g2, g1, f24k, List.length_map, runG_nil, runG_u, runG_g, runG_ucS, runG_gcS, runG_uvS, stp, avL, avS, evs, evX, lget, lput, strip, putO, PO.dst, updO, okR, cells, splice, AV.cell, toD, toDs, binV, sameK, pickV, guardOf, okL_nil, sides, argsOf, rawOf, dv, dvL, owns, ownsL, flat, flatL, lkeep, seqQ, blockQ, initS, List.drop_succ_cons, List.drop_zero, List.take_succ_cons, List.take_zero, List.getD_cons_zero, List.getD_cons_succ, List.length_cons, List.length_nil, List.set_cons_zero, List.set_cons_succ, List.map_cons, List.map_nil, List.all_cons, List.all_nil, List.elem_cons, List.elem_nil, Option.getD_some, Option.getD_none, Option.bind_some, Option.isNone_none, reduceIte, reduceCtorEq, Nat.reduceEqDiff, Nat.reduceAdd, Nat.reduceLeDiff, Nat.zero_add, Nat.add_zero, Nat.reduceBEq, Bool.and_self, Bool.and_true, Bool.true_and, Bool.or_self, Bool.or_false, Bool.false_or, Bool.or_true, Bool.true_or, true_and, and_true, and_self, implies_true, forall_const, Bool.false_eq_true, id_eq, retQ, resOf, resV, Option.some.injEq, exists_eq_left', AV.d.injEq, D.v.injEq, Value.bool.injEq, imp_self, bldF, bldS, toVals, eqLs, Option.map_some, imp_false, not_true_eq_false, not_false_eq_true, foot, wrs, nm, nmL, PG.reads, PG.dst, PO.reads, X.sl, sls, slB, List.append_nil, List.cons_append, List.nil_append, Option.toList_some, Option.toList_none, loopQ_exit, loopQ_ret, subS, subO, Bool.bne_false, Bool.bne_true, elemsOf, bslD, bslS, mentries, isAgV, asA, lputs, mgetD_set, mcmp_set, mput_set, List.headD_cons, sealS, sealO, sealV, sealL, mput_nil, mcmp_nil, midQ_ret, midQ_exit, sealsS, sealsO, runW_nil, runW_cons, Bool.true_bne, Bool.false_bne, bne_self_eq_false, Int.reduceToNat, bndV, oSl, resR, runS_nil, runS_gc, ren, renL, renO, sg, gBack, scopeQ_normal, scopeQ_ret, scopeQ_exit, lenB, argsN, dvN]
  all_goals try first
    | omega
    | (with_reducible rfl)
    | (show Value.int _ 0 = _; rfl)
    | (simp only [List.length_append, List.length_cons, List.length_nil]; omega)
    | (simp only [List.length_append, List.length_cons, List.length_nil, List.map_append, List.map_cons, List.map_nil]; done)
    | exact count64 hu.2.2.2 ha
    | (have h1 : a.length ≠ b.length := by have := hc; simp at this; omega
       rw [sameL, if_pos h1]; done)
    | (have h1 := hi.2.2; rw [hu.1, hv.1, sameGo] at h1; rw [sameL, if_neg (by omega), ← h1]; simp only [Bool.not_eq_eq_eq_not, Bool.not_true] at hc; rw [hc]; rfl)
    | (have h1 := hi.2.2; rw [hu.1, hv.1, sameGo] at h1; simp only [Bool.not_eq_eq_eq_not, Bool.not_false] at hc; rw [hc, Bool.true_and] at h1; exact h1)
    | (have h0 := of_decide_eq_false hc; have h1 := hi.2.2; rw [List.drop_eq_nil_of_le (by omega)] at h1; rw [sameL, if_neg (by omega), ← h1]; simp [sameGo]; done)
  all_goals trace_state

end Go.Proofs.Ytokfackbnnkbnaa

