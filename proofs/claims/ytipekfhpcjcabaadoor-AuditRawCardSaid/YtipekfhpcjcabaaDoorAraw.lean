/- The law AuditRaw: its walk. Printed by a program of this project (wip/mq). -/
import Derived.Test.YtipekfhpcjcabaaDoorFits
import Derived.Test.YtipekfhpcjcabaaDoorAself
set_option linter.unusedVariables false
set_option linter.unusedSimpArgs false
namespace Go.Proofs.YtipekfhpcjcabaaDoor
open Go Mq Go.ChangeShapes Go.WideShapes Go.ChangeAt Go.RowKit
/-! maquette/maquettelaw19.AuditRaw -/
def f5r0 : List PG := [.u (.bx 3 (.t 0)), .u (.bx 4 (.t 1)), .u (.mv 6 (.k (.bool false)))]
def f5r1 : List PG := [.uc 8 18 [], .u (.no 9 (.t 8))]
def f5r2 : List PG := [.u (.mv 6 (.k (.bool false)))]
abbrev f5p0 : PC := .seq (.reg f5r2) (.ret)
abbrev f5p1 : PC := .cond (.t 9) (f5p0) (.skip)
def f5r3 : List PG := [.u (.ld 10 3 true (.t 3)), .u (.ld 11 3 true (.t 4)), .u (.mv 12 (.t 2)), .uc 13 19 [.t 10, .t 11, .t 12], .u (.mv 7 (.t 13))]
def f5r4 : List PG := [.u (.ld 14 3 true (.t 3)), .uc 15 12 [.t 14], .u (.no 16 (.t 15)), .u (.mv 17 (.t 16)), .g 17 false (.ld 18 3 true (.t 4)), .gc 17 false 19 12 [.t 18], .g 17 false (.no 20 (.t 19)), .u (.pick 21 (.t 17) (.k (.bool true)) (.t 20)), .u (.mv 22 (.t 21)), .g 22 false (.mv 23 (.t 2)), .g 22 false (.len 24 (.t 23)), .g 22 false (.fa 25 0 (.t 3)), .g 22 false (.ld 26 1 false (.t 25)), .g 22 false (.len 27 (.t 26)), .g 22 false (.beq 28 true false (.t 24) (.t 27)), .u (.pick 29 (.t 22) (.k (.bool true)) (.t 28))]
def f5r5 : List PG := [.u (.mv 30 (.t 7)), .uc 31 13 [.t 30], .u (.beq 32 false false (.t 31) (.k (.int .i64 10))), .u (.mv 6 (.t 32))]
abbrev f5p2 : PC := .seq (.reg f5r5) (.ret)
abbrev f5p3 : PC := .cond (.t 29) (f5p2) (.skip)
def f5r6 : List PG := [.u (.mv 33 (.t 7)), .uc 34 13 [.t 33], .u (.ld 35 3 true (.t 3)), .u (.ld 36 3 true (.t 4)), .u (.mv 37 (.t 2)), .uc 38 20 [.t 35, .t 36, .t 37], .u (.beq 39 false false (.t 34) (.t 38)), .u (.mv 6 (.t 39))]
abbrev f5p4 : PC := .seq (.regD f5r6 []) (.ret)
abbrev f5p5 : PC := .seq (.seq (.reg f5r4) (f5p3)) (f5p4)
abbrev f5p6 : PC := .seq (.reg f5r3) (f5p5)
abbrev f5p7 : PC := .seq (.seq (.reg f5r1) (f5p1)) (f5p6)
abbrev f5pc : PC := .seq (.reg f5r0) (f5p7)
def f5k : List Nat := [0, 1, 2, 3, 4, 6, 7, 9, 29]
theorem f5c : Tryd.f5.body.bind (cC te Tryd.f5.ntmps) = some f5pc := by kernel_rfl
set_option maxRecDepth 20000
set_option maxHeartbeats 4000000
set_option linter.unusedSimpArgs false
set_option linter.unusedVariables false

theorem araw_fn (n : Net) (hn : n.ok) (m : Net) (hm : m.ok) (b : List Int) (hb : b.length ≤ maxLen) : FnS Tryd.prog 5 [n.av, m.av, .d (.sl 1 (b.map iD))] (.d (.v (.bool true))) := by
  have hM : maxLen = 9223372036854775807 := rfl
  have hI := is_fn n m hn hm b hb
  have hF := fits_fn n m hn hm b hb
  generalize hcode : isCode n m b = c at hI hF
  have hN := number_fn c
  obtain ⟨v, hv⟩ : ∃ v, errV c = .d (.v v) := by unfold errV; split <;> exact ⟨_, rfl⟩
  rw [hv] at hI hN
  refine fn_of teok Tryd.func5 (by kernel_rfl) f5c f5k [.tmp 6] rfl (by show 3 ≤ 40; omega) ?_
  repeat' first
  | (exact absurd hc (by decide))
  | with_reducible refine awp_seq ?_
  | with_reducible refine awp_block ?_
  | with_reducible refine awp_scope ?_
  | with_reducible refine awp_reg ?_
  | with_reducible refine awp_regD ?_
  | with_reducible refine awp_ret ?_
  | with_reducible refine awp_skip ?_
  | with_reducible refine awp_exit ?_
  | with_reducible refine normQ_of ?_
  | with_reducible refine wkE_of ?_
  | with_reducible refine midQ_of (Wk_sub rfl rfl ?_ ?_)
  | with_reducible refine runD_nil ?_
  | with_reducible refine runD_cons ?_
  | with_reducible refine runF_cons ?_
  | with_reducible refine runF_nil ?_
  | with_reducible refine KF_of ?_
  | with_reducible refine chkQ_of rfl ?_
  | with_reducible refine awp_cond (by simp only [evX, lget, Option.getD_some, reduceIte, Nat.reduceEqDiff]; rfl) (fun hc => ?_) (fun hc => ?_)
  | with_reducible refine CallU_of (f := 18) (awake19_fn) (by first | exact Or.inr (Or.inl rfl) | exact Or.inl rfl) ?_
  | with_reducible refine CallC_of (f := 18) (fun _ => awake19_fn) (by first | exact Or.inr (Or.inl rfl) | exact Or.inl rfl) ?_
  | with_reducible refine CallU_of (f := 19) (hI) (by first | exact Or.inr (Or.inl rfl) | exact Or.inl rfl) ?_
  | with_reducible refine CallC_of (f := 19) (fun _ => hI) (by first | exact Or.inr (Or.inl rfl) | exact Or.inl rfl) ?_
  | with_reducible refine CallU_of (f := 12) (may_fn n hn) (by first | exact Or.inr (Or.inl rfl) | exact Or.inl rfl) ?_
  | with_reducible refine CallC_of (f := 12) (fun _ => may_fn n hn) (by first | exact Or.inr (Or.inl rfl) | exact Or.inl rfl) ?_
  | with_reducible refine CallU_of (f := 12) (may_fn m hm) (by first | exact Or.inr (Or.inl rfl) | exact Or.inl rfl) ?_
  | with_reducible refine CallC_of (f := 12) (fun _ => may_fn m hm) (by first | exact Or.inr (Or.inl rfl) | exact Or.inl rfl) ?_
  | with_reducible refine CallU_of (f := 13) (hN) (by first | exact Or.inr (Or.inl rfl) | exact Or.inl rfl) ?_
  | with_reducible refine CallC_of (f := 13) (fun _ => hN) (by first | exact Or.inr (Or.inl rfl) | exact Or.inl rfl) ?_
  | with_reducible refine CallU_of (f := 20) (hF) (by first | exact Or.inr (Or.inl rfl) | exact Or.inl rfl) ?_
  | with_reducible refine CallC_of (f := 20) (fun _ => hF) (by first | exact Or.inr (Or.inl rfl) | exact Or.inl rfl) ?_
  | (with_reducible assumption)
  | with_reducible refine fun (hG : okL _) => ?_
  | (with_reducible refine fun (hT : (_ : Bool) = _) => ?_)
  | (with_reducible first | exact hG.2 | exact hG.2.2 | exact hG.2.2.2 | exact hG.2.2.2.2)
  | with_reducible refine okL_mk ?_ ?_
  | with_reducible refine And.intro ?_ ?_
  | simp only [f5r0, f5r1, f5r2, f5r3, f5r4, f5r5, f5r6, f5k, List.length_map, beq_self_eq_true, runG_nil, runG_u, runG_g, runG_ucS, runG_gcS, runG_uvS, stp, avL, avS, evs, evX, lget, lput, strip, putO, PO.dst, updO, okR, cells, splice, AV.cell, toD, toDs, binV, sameK, pickV, guardOf, okL_nil, sides, argsOf, rawOf, dv, dvL, owns, ownsL, flat, flatL, lkeep, seqQ, blockQ, initS, List.drop_succ_cons, List.drop_zero, List.take_succ_cons, List.take_zero, List.getD_cons_zero, List.getD_cons_succ, List.length_cons, List.length_nil, List.set_cons_zero, List.set_cons_succ, List.map_cons, List.map_nil, List.all_cons, List.all_nil, List.elem_cons, List.elem_nil, Option.getD_some, Option.getD_none, Option.bind_some, Option.isNone_none, reduceIte, reduceCtorEq, Nat.reduceEqDiff, Nat.reduceAdd, Nat.reduceLeDiff, Nat.zero_add, Nat.add_zero, Nat.reduceBEq, Bool.and_self, Bool.and_true, Bool.true_and, Bool.or_self, Bool.or_false, Bool.false_or, Bool.or_true, Bool.true_or, true_and, and_true, and_self, implies_true, forall_const, Bool.false_eq_true, id_eq, retQ, resOf, resV, Option.some.injEq, exists_eq_left', AV.d.injEq, D.v.injEq, Value.bool.injEq, imp_self, bldF, bldS, toVals, eqLs, Option.map_some, imp_false, not_true_eq_false, not_false_eq_true, foot, wrs, nm, nmL, PG.reads, PG.dst, PO.reads, X.sl, sls, slB, List.append_nil, List.cons_append, List.nil_append, Option.toList_some, Option.toList_none, loopQ_exit, loopQ_ret, subS, subO, Bool.bne_false, Bool.bne_true, elemsOf, bslD, bslS, mentries, isAgV, asA, lputs, mgetD_set, mcmp_set, mput_set, List.headD_cons, sealS, sealO, sealV, sealL, mput_nil, mcmp_nil, midQ_ret, midQ_exit, sealsS, sealsO, runW_nil, runW_cons, Bool.true_bne, Bool.false_bne, bne_self_eq_false, Int.reduceToNat, bndV, oSl, resR, runS_nil, runS_gc, ren, renL, renO, sg, gBack, scopeQ_normal, scopeQ_ret, scopeQ_exit, lenB, argsN, dvN]
  all_goals try first
    | omega
    | (with_reducible rfl)
    | (rw [← hcode, is_bad (is_testT hc)]; done)
    | (rw [← hcode, is_bad (is_testT hc)]; rfl)
  all_goals trace_state
end Go.Proofs.YtipekfhpcjcabaaDoor
