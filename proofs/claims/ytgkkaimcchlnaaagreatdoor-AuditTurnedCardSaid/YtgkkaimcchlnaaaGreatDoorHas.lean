/- What layer 19's has comes to. Printed by a program of this project (wip/mq). -/
import Derived.Test.YtgkkaimcchlnaaaGreatDoorEsame
set_option linter.unusedVariables false
set_option linter.unusedSimpArgs false

namespace Go.Proofs.YtgkkaimcchlnaaaGreatDoor
open Go Mq Go.ChangeShapes Go.WideShapes Go.ChangeAt Go.RowKit
/-! maquette/maquettelaw19.has -/
def f60r0 : List PG := [.u (.bx 7 (.t 3)), .u (.mv 8 (.k (.bool false)))]
def f60r1 : List PG := [.u (.mv 12 (.t 0)), .u (.len 13 (.t 12)), .u (.mv 14 (.k (.int .i64 0)))]
def f60r2 : List PG := [.u (.bo 15 .lss (.t 14) (.t 13))]
def f60r3 : List PG := [.u (.ia 16 4 (.t 12) (.t 14)), .u (.ld 17 4 true (.t 16)), .u (.al 10 [.d (.v (.int .i64 0)), .d (.v (.int .i64 0)), .nl 10, .nl 10]), .u (.st 4 (.t 10) (.t 17))]
def f60r4 : List PG := [.u (.fa 18 0 (.t 10)), .u (.ld 19 1 false (.t 18)), .u (.mv 11 (.t 19))]
def f60r5 : List PG := [.u (.mv 20 (.t 1)), .u (.bsn 21 true (.t 20))]
def f60r6 : List PG := [.u (.mv 22 (.t 1)), .u (.fa 23 0 (.t 10)), .u (.ld 24 1 false (.t 23)), .u (.ia 25 1 (.t 22) (.t 24)), .u (.ld 26 1 false (.t 25)), .u (.mv 11 (.t 26))]
abbrev f60p0 : PC := .cond (.t 21) (.reg f60r6) (.skip)
def f60r7 : List PG := [.u (.mv 27 (.t 11)), .u (.mv 28 (.t 2)), .u (.beq 29 false false (.t 27) (.t 28)), .u (.mv 30 (.t 29)), .g 30 true (.ld 31 4 true (.t 10)), .g 30 true (.ld 32 4 true (.t 7)), .gc 30 true 33 100 [.t 31, .t 32], .u (.pick 34 (.t 30) (.t 33) (.k (.bool false)))]
def f60r8 : List PG := [.u (.mv 8 (.k (.bool true)))]
abbrev f60p1 : PC := .seq (.reg f60r8) (.ret)
abbrev f60p2 : PC := .cond (.t 34) (f60p1) (.skip)
abbrev f60p3 : PC := .seq (.reg f60r7) (f60p2)
abbrev f60p4 : PC := .seq (.seq (.reg f60r5) (f60p0)) (f60p3)
abbrev f60p5 : PC := .seq (.reg f60r4) (f60p4)
def f60r9 : List PG := [.u (.bo 35 .add (.t 14) (.k (.int .i64 1))), .u (.mv 14 (.t 35))]
abbrev f60p6 : PC := .seq (.block 1 (.seq (.reg f60r3) (f60p5))) (.reg f60r9)
abbrev f60p7 : PC := .seq (.cond (.t 15) (.skip) (.exit 0)) (f60p6)
abbrev f60p8 : PC := .seq (.reg f60r2) (f60p7)
abbrev f60p9 : PC := .block 0 (.loop (f60p8))
def f60r10 : List PG := [.u (.mv 8 (.k (.bool false)))]
abbrev f60p10 : PC := .seq (.reg f60r10) (.ret)
abbrev f60p11 : PC := .seq (.seq (.reg f60r1) (f60p9)) (f60p10)
abbrev f60pc : PC := .seq (.reg f60r0) (f60p11)
def f60k : List Nat := [0, 1, 2, 3, 7, 8, 10, 11, 12, 13, 14, 15, 21, 34]
theorem f60c : Tryz.f60.body.bind (cC te Tryz.f60.ntmps) = some f60pc := by kernel_rfl
set_option maxRecDepth 20000
set_option maxHeartbeats 4000000


theorem has_nil (es : List Arc) (hl : es.length ≤ maxLen) (hok : ∀ f ∈ es, f.ok) (y : Int) (e : Arc) (he : e.ok) : FnS Tryz.prog 60 [.d (.sl 4 (es.map Arc.row)), .nl 1, .d (.v (.int .i64 y)), .ag e.box] (.d (.v (.bool (es.any fun f => f.src == y && sameE f e)))) := by
  refine fn_of teok Tryz.func60 (by kernel_rfl) f60c f60k [.tmp 8] rfl (by show 4 ≤ 36; omega) ?_
  first | (have _q := @g1; clear _q) | have g1 : Nat.pred 77 = 76 := rfl
  repeat' first
|(exact absurd hc (by decide))
|(with_reducible first | refine awp_seq ?_ | refine awp_block ?_ | refine awp_reg ?_ | refine awp_ret ?_ | refine awp_skip ?_ | refine awp_exit ?_ | refine normQ_of ?_ | refine wkE_of ?_)
|with_reducible refine awp_cond (by simp only [evX, lget, Option.getD_some, reduceIte, Nat.reduceEqDiff]; rfl) (fun hc => ?_) (fun hc => ?_)
|with_reducible refine CallC_of (f := 100) (fun _ => esame_fn f (hok f (List.mem_of_getElem? hf.2.2.1)) e he) (by first | exact Or.inr (Or.inl rfl) | exact Or.inl rfl) ?_
|(with_reducible assumption)
|with_reducible refine fun (hG : okL _) => ?_
|(with_reducible refine fun (hT : (_ : Bool) = _) => ?_)
|(with_reducible first | exact hG.2 | exact hG.2.2 | exact hG.2.2.2 | exact hG.2.2.2.2)
|with_reducible refine okL_mk ?_ ?_
|with_reducible refine And.intro ?_ ?_
|(with_reducible refine awp_loopU (b := f60p8) (fun i : Nat => i ≤ es.length ∧ ((es.drop i).any fun f => f.src == y && sameE f e) = es.any fun f => f.src == y && sameE f e) (fun i => es.length - i) (fun i => [(14, .d (.v (.int .i64 i)))]) (fun i => []) (0) (⟨Nat.zero_le _, rfl⟩) (Wk.refl _ _) (Wk_sub rfl rfl ?_ ?_) (fun i hi => ?_))
|(refine Exists.elim (at_drop Arc.row es i (Int.ofNat_lt.1 (of_decide_eq_true (show decide ((i : Int) < es.length) = true from hc)))) (fun f hf => ?_); have g1 := hf.2.1; replace hc : True := trivial)
|(with_reducible refine loopQ_next (i + 1) ?_ ?_ (Wk_sub rfl rfl ?_ ?_))
|simp only [f60r0, f60r1, f60r2, f60r3, f60r4, f60r5, f60r6, f60r7, f60r8, f60r9, f60r10, g1, f60k, te91, List.length_map, runG_nil, runG_u, runG_g, runG_ucS, runG_gcS, stp, avL, avS, evs, evX, lget, lput, strip, putO, PO.dst, updO, okR, cells, splice, AV.cell, toD, toDs, binV, sameK, pickV, guardOf, okL_nil, sides, argsOf, rawOf, dv, dvL, owns, ownsL, flat, flatL, lkeep, seqQ, blockQ, initS, List.drop_succ_cons, List.drop_zero, List.take_succ_cons, List.take_zero, List.getD_cons_zero, List.getD_cons_succ, List.length_cons, List.length_nil, List.set_cons_zero, List.set_cons_succ, List.map_cons, List.map_nil, List.all_cons, List.all_nil, List.elem_cons, List.elem_nil, Option.getD_some, Option.getD_none, Option.bind_some, Option.isNone_none, reduceIte, reduceCtorEq, Nat.reduceEqDiff, Nat.reduceAdd, Nat.reduceLeDiff, Nat.zero_add, Nat.add_zero, Nat.reduceBEq, Bool.and_self, Bool.and_true, Bool.true_and, Bool.or_self, Bool.or_false, Bool.false_or, Bool.or_true, Bool.true_or, true_and, and_true, and_self, implies_true, forall_const, Bool.false_eq_true, id_eq, retQ, resOf, resV, Option.some.injEq, exists_eq_left', AV.d.injEq, D.v.injEq, Value.bool.injEq, imp_self, bldF, bldS, toVals, eqLs, Option.map_some, imp_false, not_true_eq_false, not_false_eq_true, List.append_nil, List.cons_append, List.nil_append, Option.toList_some, Option.toList_none, loopQ_exit, loopQ_ret, subS, subO, Bool.bne_false, Bool.bne_true, elemsOf, bslD, bslS, lputs, List.headD_cons, sealS, sealO, sealV, sealL, sealsS, sealsO, Bool.true_bne, Bool.false_bne, bne_self_eq_false, Int.reduceToNat, oSl, resR, argsN, dvN]
  all_goals try first
    | omega
    | (with_reducible rfl)
    | (show Value.int _ 0 = _; rfl)
    | (simp only [List.length_append, List.length_cons, List.length_nil]; omega)
    | (simp only [List.length_append, List.length_cons, List.length_nil, List.map_append, List.map_cons, List.map_nil]; done)
    | exact count64 hf.2.2.2 hl
    | (have q := hBl; simp only [List.length_cons] at q; omega)
    | (have h1 := hi.2; rw [hf.1, List.any_cons] at h1
       have h2 : (f.src == y && sameE f e) = true := by simpa using hc
       rw [h2, Bool.true_or] at h1; rw [← h1]; done)
    | (have h1 := hi.2; rw [hf.1, List.any_cons] at h1
       have h2 : (f.src == y && sameE f e) = false := by simpa using hc
       rw [h2, Bool.false_or] at h1; exact h1)
    | (have h0 := of_decide_eq_false hc; have h1 := hi.2; rw [List.drop_eq_nil_of_le (by omega)] at h1; rw [← h1]; rfl)
  all_goals trace_state
theorem has_cons (es : List Arc) (hl : es.length ≤ maxLen) (hok : ∀ f ∈ es, f.ok) (b : List Int) (x : List D) (B : List (List D)) (hB : b.map iD = x :: B) (hsr : ∀ f ∈ es, 0 ≤ f.src ∧ f.src < b.length) (y : Int) (e : Arc) (he : e.ok) : FnS Tryz.prog 60 [.d (.sl 4 (es.map Arc.row)), .d (.sl 1 (x :: B)), .d (.v (.int .i64 y)), .ag e.box] (.d (.v (.bool (es.any fun f => b.getD f.src.toNat 0 == y && sameE f e)))) := by
  have hBl : (x :: B).length = b.length := by rw [← hB]; simp
  refine fn_of teok Tryz.func60 (by kernel_rfl) f60c f60k [.tmp 8] rfl (by show 4 ≤ 36; omega) ?_
  first | (have _q := @g2; clear _q) | have g2 : Nat.pred 77 = 76 := rfl
  first | (have _q := @g1; clear _q) | have g1 : Nat.pred 77 = 76 := rfl
  repeat' first
|(exact absurd hc (by decide))
|(with_reducible first | refine awp_seq ?_ | refine awp_block ?_ | refine awp_reg ?_ | refine awp_ret ?_ | refine awp_skip ?_ | refine awp_exit ?_ | refine normQ_of ?_ | refine wkE_of ?_)
|with_reducible refine awp_cond (by simp only [evX, lget, Option.getD_some, reduceIte, Nat.reduceEqDiff]; rfl) (fun hc => ?_) (fun hc => ?_)
|with_reducible refine CallC_of (f := 100) (fun _ => esame_fn f (hok f (List.mem_of_getElem? hf.2.2.1)) e he) (by first | exact Or.inr (Or.inl rfl) | exact Or.inl rfl) ?_
|(with_reducible assumption)
|with_reducible refine fun (hG : okL _) => ?_
|(with_reducible refine fun (hT : (_ : Bool) = _) => ?_)
|(with_reducible first | exact hG.2 | exact hG.2.2 | exact hG.2.2.2 | exact hG.2.2.2.2)
|with_reducible refine okL_mk ?_ ?_
|with_reducible refine And.intro ?_ ?_
|(with_reducible refine awp_loopU (b := f60p8) (fun i : Nat => i ≤ es.length ∧ ((es.drop i).any fun f => b.getD f.src.toNat 0 == y && sameE f e) = es.any fun f => b.getD f.src.toNat 0 == y && sameE f e) (fun i => es.length - i) (fun i => [(14, .d (.v (.int .i64 i)))]) (fun i => []) (0) (⟨Nat.zero_le _, rfl⟩) (Wk.refl _ _) (Wk_sub rfl rfl ?_ ?_) (fun i hi => ?_))
|(refine Exists.elim (at_drop Arc.row es i (Int.ofNat_lt.1 (of_decide_eq_true (show decide ((i : Int) < es.length) = true from hc)))) (fun f hf => ?_); have g1 := hf.2.1; have hs := hsr f (List.mem_of_getElem? hf.2.2.1); have g2 := at_int iD b 0 hs.1 hs.2; rw [hB] at g2; replace hc : True := trivial)
|(with_reducible refine loopQ_next (i + 1) ?_ ?_ (Wk_sub rfl rfl ?_ ?_))
|simp only [f60r0, f60r1, f60r2, f60r3, f60r4, f60r5, f60r6, f60r7, f60r8, f60r9, f60r10, g2, g1, f60k, te91, List.length_map, runG_nil, runG_u, runG_g, runG_ucS, runG_gcS, stp, avL, avS, evs, evX, lget, lput, strip, putO, PO.dst, updO, okR, cells, splice, AV.cell, toD, toDs, binV, sameK, pickV, guardOf, okL_nil, sides, argsOf, rawOf, dv, dvL, owns, ownsL, flat, flatL, lkeep, seqQ, blockQ, initS, List.drop_succ_cons, List.drop_zero, List.take_succ_cons, List.take_zero, List.getD_cons_zero, List.getD_cons_succ, List.length_cons, List.length_nil, List.set_cons_zero, List.set_cons_succ, List.map_cons, List.map_nil, List.all_cons, List.all_nil, List.elem_cons, List.elem_nil, Option.getD_some, Option.getD_none, Option.bind_some, Option.isNone_none, reduceIte, reduceCtorEq, Nat.reduceEqDiff, Nat.reduceAdd, Nat.reduceLeDiff, Nat.zero_add, Nat.add_zero, Nat.reduceBEq, Bool.and_self, Bool.and_true, Bool.true_and, Bool.or_self, Bool.or_false, Bool.false_or, Bool.or_true, Bool.true_or, true_and, and_true, and_self, implies_true, forall_const, Bool.false_eq_true, id_eq, retQ, resOf, resV, Option.some.injEq, exists_eq_left', AV.d.injEq, D.v.injEq, Value.bool.injEq, imp_self, bldF, bldS, toVals, eqLs, Option.map_some, imp_false, not_true_eq_false, not_false_eq_true, List.append_nil, List.cons_append, List.nil_append, Option.toList_some, Option.toList_none, loopQ_exit, loopQ_ret, subS, subO, Bool.bne_false, Bool.bne_true, elemsOf, bslD, bslS, lputs, List.headD_cons, sealS, sealO, sealV, sealL, sealsS, sealsO, Bool.true_bne, Bool.false_bne, bne_self_eq_false, Int.reduceToNat, oSl, resR, argsN, dvN]
  all_goals try first
    | omega
    | (with_reducible rfl)
    | (show Value.int _ 0 = _; rfl)
    | (simp only [List.length_append, List.length_cons, List.length_nil]; omega)
    | (simp only [List.length_append, List.length_cons, List.length_nil, List.map_append, List.map_cons, List.map_nil]; done)
    | exact count64 hf.2.2.2 hl
    | (have q := hBl; simp only [List.length_cons] at q; omega)
    | (have h1 := hi.2; rw [hf.1, List.any_cons] at h1
       have h2 : (b.getD f.src.toNat 0 == y && sameE f e) = true := by simpa using hc
       rw [h2, Bool.true_or] at h1; rw [← h1]; done)
    | (have h1 := hi.2; rw [hf.1, List.any_cons] at h1
       have h2 : (b.getD f.src.toNat 0 == y && sameE f e) = false := by simpa using hc
       rw [h2, Bool.false_or] at h1; exact h1)
    | (have h0 := of_decide_eq_false hc; have h1 := hi.2; rw [List.drop_eq_nil_of_le (by omega)] at h1; rw [← h1]; rfl)
  all_goals trace_state
theorem has_none (b : List (List D)) (y : Int) (e : Arc) : FnS Tryz.prog 60 [.d (.sl 4 []), .d (.sl 1 b), .d (.v (.int .i64 y)), .ag e.box] (.d (.v (.bool false))) := by
  refine fn_of teok Tryz.func60 (by kernel_rfl) f60c f60k [.tmp 8] rfl (by show 4 ≤ 36; omega) ?_
  repeat' first
|(exact absurd hc (by decide))
|(with_reducible first | refine awp_seq ?_ | refine awp_block ?_ | refine awp_reg ?_ | refine awp_ret ?_ | refine awp_skip ?_ | refine awp_exit ?_ | refine normQ_of ?_ | refine wkE_of ?_)
|with_reducible refine awp_cond (by simp only [evX, lget, Option.getD_some, reduceIte, Nat.reduceEqDiff]; rfl) (fun hc => ?_) (fun hc => ?_)
|(with_reducible assumption)
|with_reducible refine fun (hG : okL _) => ?_
|(with_reducible refine fun (hT : (_ : Bool) = _) => ?_)
|(with_reducible first | exact hG.2 | exact hG.2.2 | exact hG.2.2.2 | exact hG.2.2.2.2)
|with_reducible refine okL_mk ?_ ?_
|with_reducible refine And.intro ?_ ?_
|(with_reducible refine awp_loopU (b := f60p8) (fun i : Nat => i = 0) (fun i => 0 - i) (fun i => [(14, .d (.v (.int .i64 i)))]) (fun i => []) (0) (rfl) (Wk.refl _ _) (Wk_sub rfl rfl ?_ ?_) (fun i hi => ?_))
|(exfalso; have _q : decide ((i : Int) < ((0 : Nat) : Int)) = true := hc; subst hi; exact absurd _q (by decide))
|simp only [f60r0, f60r1, f60r2, f60r3, f60r4, f60r5, f60r6, f60r7, f60r8, f60r9, f60r10, f60k, te91, List.length_nil, runG_nil, runG_u, runG_g, runG_ucS, runG_gcS, stp, avL, avS, evs, evX, lget, lput, strip, putO, PO.dst, updO, okR, cells, splice, AV.cell, toD, toDs, binV, sameK, pickV, guardOf, okL_nil, sides, argsOf, rawOf, dv, dvL, owns, ownsL, flat, flatL, lkeep, seqQ, blockQ, initS, List.drop_succ_cons, List.drop_zero, List.take_succ_cons, List.take_zero, List.getD_cons_zero, List.getD_cons_succ, List.length_cons, List.length_nil, List.set_cons_zero, List.set_cons_succ, List.map_cons, List.map_nil, List.all_cons, List.all_nil, List.elem_cons, List.elem_nil, Option.getD_some, Option.getD_none, Option.bind_some, Option.isNone_none, reduceIte, reduceCtorEq, Nat.reduceEqDiff, Nat.reduceAdd, Nat.reduceLeDiff, Nat.zero_add, Nat.add_zero, Nat.reduceBEq, Bool.and_self, Bool.and_true, Bool.true_and, Bool.or_self, Bool.or_false, Bool.false_or, Bool.or_true, Bool.true_or, true_and, and_true, and_self, implies_true, forall_const, Bool.false_eq_true, id_eq, retQ, resOf, resV, Option.some.injEq, exists_eq_left', AV.d.injEq, D.v.injEq, Value.bool.injEq, imp_self, bldF, bldS, toVals, eqLs, Option.map_some, imp_false, not_true_eq_false, not_false_eq_true, List.append_nil, List.cons_append, List.nil_append, Option.toList_some, Option.toList_none, loopQ_exit, loopQ_ret, subS, subO, Bool.bne_false, Bool.bne_true, elemsOf, bslD, bslS, lputs, List.headD_cons, sealS, sealO, sealV, sealL, sealsS, sealsO, Bool.true_bne, Bool.false_bne, bne_self_eq_false, Int.reduceToNat, oSl, resR, argsN, dvN]
  all_goals try first
|omega
|(with_reducible rfl)
|rfl
  all_goals trace_state
theorem has_fn (es : List Arc) (hl : es.length ≤ maxLen) (hok : ∀ f ∈ es, f.ok) (b : List Int) (hsr : ∀ f ∈ es, 0 ≤ f.src ∧ f.src < b.length) (y : Int) (e : Arc) (he : e.ok) : FnS Tryz.prog 60 [.d (.sl 4 (es.map Arc.row)), .d (.sl 1 (b.map iD)), .d (.v (.int .i64 y)), .ag e.box] (.d (.v (.bool (es.any fun f => b.getD f.src.toNat 0 == y && sameE f e)))) := by
  cases es with
  | nil => exact has_none _ y e
  | cons f r =>
    cases b with
    | nil => have := hsr f (by simp); simp at this; omega
    | cons x b => exact has_cons (f :: r) hl hok (x :: b) _ _ rfl hsr y e he
end Go.Proofs.YtgkkaimcchlnaaaGreatDoor
