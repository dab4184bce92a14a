/- What maquettelaw17.like, alone and Same come to. Printed by a program of this project (wip/mq). -/
import Derived.Test.YtokfackbnnkbnaaOf
set_option linter.unusedVariables false
set_option linter.unusedSimpArgs false

namespace Go.Proofs.Ytokfackbnnkbnaa
open Go Mq Go.ChangeShapes Go.WideShapes Go.ChangeAt Go.RowKit
/-! maquette/maquettelaw17.like -/
/-! maquette/maquettelaw17.alone -/
/-! maquette/maquettelaw17.Same -/
def f15r0 : List PG := [.u (.mv 4 (.k (.bool false)))]
def f15r1 : List PG := [.u (.mv 6 (.t 0)), .u (.len 7 (.t 6)), .u (.mv 8 (.t 1)), .u (.len 9 (.t 8)), .u (.beq 10 true false (.t 7) (.t 9))]
def f15r2 : List PG := [.u (.mv 4 (.k (.bool false)))]
abbrev f15p0 : PC := .seq (.reg f15r2) (.ret)
abbrev f15p1 : PC := .cond (.t 10) (f15p0) (.skip)
def f15r3 : List PG := [.u (.mv 11 (.t 0)), .u (.len 12 (.t 11)), .u (.mv 13 (.k (.int .i64 0)))]
def f15r4 : List PG := [.u (.bo 14 .lss (.t 13) (.t 12))]
def f15r5 : List PG := [.u (.mv 15 (.t 13)), .u (.mv 5 (.t 15))]
def f15r6 : List PG := [.u (.mv 16 (.t 0)), .u (.mv 17 (.t 5)), .u (.ia 18 1 (.t 16) (.t 17)), .u (.ld 19 1 false (.t 18)), .u (.mv 20 (.t 1)), .u (.mv 21 (.t 5)), .u (.ia 22 1 (.t 20) (.t 21)), .u (.ld 23 1 false (.t 22)), .u (.beq 24 true false (.t 19) (.t 23))]
def f15r7 : List PG := [.u (.mv 4 (.k (.bool false)))]
abbrev f15p2 : PC := .seq (.reg f15r7) (.ret)
abbrev f15p3 : PC := .cond (.t 24) (f15p2) (.skip)
abbrev f15p4 : PC := .seq (.regD f15r6 []) (f15p3)
def f15r8 : List PG := [.u (.bo 25 .add (.t 13) (.k (.int .i64 1))), .u (.mv 13 (.t 25))]
abbrev f15p5 : PC := .seq (.block 1 (.seq (.reg f15r5) (f15p4))) (.reg f15r8)
abbrev f15p6 : PC := .seq (.cond (.t 14) (.skip) (.exit 0)) (f15p5)
abbrev f15p7 : PC := .seq (.reg f15r4) (f15p6)
abbrev f15p8 : PC := .block 0 (.loop (f15p7))
def f15r9 : List PG := [.u (.mv 4 (.k (.bool true)))]
abbrev f15p9 : PC := .seq (.reg f15r9) (.ret)
abbrev f15p10 : PC := .seq (.seq (.reg f15r3) (f15p8)) (f15p9)
abbrev f15p11 : PC := .seq (.seq (.reg f15r1) (f15p1)) (f15p10)
abbrev f15pc : PC := .seq (.reg f15r0) (f15p11)
def f15k : List Nat := [0, 1, 4, 5, 10, 12, 13, 14, 24]
theorem f15c : Try.f15.body.bind (cC te Try.f15.ntmps) = some f15pc := by kernel_rfl
set_option maxRecDepth 20000
set_option maxHeartbeats 4000000
set_option linter.unusedSimpArgs false
set_option linter.unusedVariables false

theorem eq_drop {a c : List Int} {k : Nat} {v w : Int} (hl : a.length = c.length) (h : (a.drop k == c.drop k) = (a == c)) (h1 : a.drop k = v :: a.drop (k + 1)) (h2 : c.drop k = w :: c.drop (k + 1)) : (v == w && (a.drop (k + 1) == c.drop (k + 1))) = (a == c) := by
  rw [← h, h1, h2]; rfl

theorem sameB_fn (a c : List Int) (ha : a.length ≤ maxLen) : FnS Try.prog 15 [.d (.sl 1 (a.map iD)), .d (.sl 1 (c.map iD))] (.d (.v (.bool (a == c)))) := by
  have hm : maxLen = 9223372036854775807 := rfl
  refine fn_of teok Try.func15 (by kernel_rfl) f15c f15k [.tmp 4] rfl (by show 2 ≤ 26; omega) ?_
  first | (have _q := @g1; clear _q) | have g1 : Nat.pred 77 = 76 := rfl
  first | (have _q := @g2; clear _q) | have g2 : Nat.pred 77 = 76 := rfl
  repeat' first
  | with_reducible refine awp_seq ?_
  | with_reducible refine awp_block ?_
  | with_reducible refine awp_scope ?_
  | with_reducible refine awp_reg ?_
  | with_reducible refine awp_regD ?_
  | with_reducible refine awp_ret ?_
  | with_reducible refine awp_skip ?_
  | with_reducible refine awp_exit ?_
  | with_reducible refine normQ_of ?_
  | with_reducible refine wkE_of ?_
  | with_reducible refine midQ_of (Wk_sub rfl rfl ?_ ?_)
  | with_reducible refine runD_nil ?_
  | with_reducible refine runD_cons ?_
  | with_reducible refine runF_cons ?_
  | with_reducible refine runF_nil ?_
  | with_reducible refine KF_of ?_
  | with_reducible refine chkQ_of rfl ?_
  | with_reducible refine awp_cond (by simp only [evX, lget, Option.getD_some, reduceIte, Nat.reduceEqDiff]; rfl) (fun hc => ?_) (fun hc => ?_)
  | (with_reducible assumption)
  | with_reducible refine fun (hG : okL _) => ?_
  | (with_reducible refine fun (hT : (_ : Bool) = _) => ?_)
  | (with_reducible first | exact hG.2 | exact hG.2.2 | exact hG.2.2.2 | exact hG.2.2.2.2)
  | with_reducible refine okL_mk ?_ ?_
  | with_reducible refine And.intro ?_ ?_
  | (have hlen : a.length = c.length := (by have h0 : (!((a.length : Int) == (c.length : Int))) = false := hc; simp at h0; omega); replace hc : True := trivial)
  | (with_reducible refine loopQ_next (x + 1) ?_ ?_ (Wk_sub rfl rfl ?_ ?_))
  | (with_reducible refine awp_loopU (b := f15p7) (fun x : Nat => x ≤ a.length ∧ (a.drop x == c.drop x) = (a == c)) (fun x => a.length - x) (fun x => [(13, .d (.v (.int .i64 x)))]) (fun x => []) (0) (⟨Nat.zero_le _, rfl⟩) (Wk.refl _ _) (Wk_sub rfl rfl ?_ ?_) (fun x hx => ?_))
  | (refine Exists.elim (at_drop iD a x (Int.ofNat_lt.1 (of_decide_eq_true (show decide ((x : Int) < a.length) = true from hc)))) (fun v hv => ?_); refine Exists.elim (at_drop iD c x (by have := hv.2.2.2; omega)) (fun w hw => ?_); have g1 := hv.2.1; have g2 := hw.2.1; simp only [Int.toNat_natCast] at g1 g2; replace hc : True := trivial)
  | simp only [f15r0, f15r1, f15r2, f15r3, f15r4, f15r5, f15r6, f15r7, f15r8, f15r9, g1, g2, f15k, List.length_map, Int.toNat_natCast, runG_nil, runG_u, runG_g, runG_ucS, runG_gcS, runG_uvS, stp, avL, avS, evs, evX, lget, lput, strip, putO, PO.dst, updO, okR, cells, splice, AV.cell, toD, toDs, binV, sameK, pickV, guardOf, okL_nil, sides, argsOf, rawOf, dv, dvL, owns, ownsL, flat, flatL, lkeep, seqQ, blockQ, initS, List.drop_succ_cons, List.drop_zero, List.take_succ_cons, List.take_zero, List.getD_cons_zero, List.getD_cons_succ, List.length_cons, List.length_nil, List.set_cons_zero, List.set_cons_succ, List.map_cons, List.map_nil, List.all_cons, List.all_nil, List.elem_cons, List.elem_nil, Option.getD_some, Option.getD_none, Option.bind_some, Option.isNone_none, reduceIte, reduceCtorEq, Nat.reduceEqDiff, Nat.reduceAdd, Nat.reduceLeDiff, Nat.zero_add, Nat.add_zero, Nat.reduceBEq, Bool.and_self, Bool.and_true, Bool.true_and, Bool.or_self, Bool.or_false, Bool.false_or, Bool.or_true, Bool.true_or, true_and, and_true, and_self, implies_true, forall_const, Bool.false_eq_true, id_eq, retQ, resOf, resV, Option.some.injEq, exists_eq_left', AV.d.injEq, D.v.injEq, Value.bool.injEq, imp_self, bldF, bldS, toVals, eqLs, Option.map_some, imp_false, not_true_eq_false, not_false_eq_true, foot, wrs, nm, nmL, PG.reads, PG.dst, PO.reads, X.sl, sls, slB, List.append_nil, List.cons_append, List.nil_append, Option.toList_some, Option.toList_none, loopQ_exit, loopQ_ret, subS, subO, Bool.bne_false, Bool.bne_true, elemsOf, bslD, bslS, mentries, isAgV, asA, lputs, mgetD_set, mcmp_set, mput_set, List.headD_cons, sealS, sealO, sealV, sealL, mput_nil, mcmp_nil, midQ_ret, midQ_exit, sealsS, sealsO, runW_nil, runW_cons, Bool.true_bne, Bool.false_bne, bne_self_eq_false, Int.reduceToNat, bndV, oSl, resR, runS_nil, runS_gc, ren, renL, renO, sg, gBack, scopeQ_normal, scopeQ_ret, scopeQ_exit, lenB, argsN, dvN]
  all_goals try first
    | omega
    | (with_reducible rfl)
    | exact count64 hv.2.2.2 ha
    | (show Value.int _ 0 = _; rfl)
    | (have h0 : (!((a.length : Int) == (c.length : Int))) = true := hc
       have h1 : (a == c) = false := by
         rw [beq_eq_false_iff_ne]; rintro rfl; simp at h0
       rw [h1]; done)
    | (have h1 := eq_drop hlen hx.2 hv.1 hw.1; have h2 : (v == w) = false := (by simpa using hc); rw [h2, Bool.false_and] at h1; rw [← h1]; done)
    | (have h1 := eq_drop hlen hx.2 hv.1 hw.1; have h2 : (v == w) = true := (by simpa using hc); rw [h2, Bool.true_and] at h1; exact h1)
    | (have h0 := of_decide_eq_false (show decide ((x : Int) < a.length) = false from hc); have h1 := hx.2; rw [List.drop_eq_nil_of_le (by omega), List.drop_eq_nil_of_le (by omega)] at h1; rw [← h1]; rfl)
  all_goals trace_state
end Go.Proofs.Ytokfackbnnkbnaa

