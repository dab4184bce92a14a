/- What lower.Classes comes to. Printed by a program of this project (wip/mq). -/
import Derived.Test.YtgkkaimcchlnaaaGreatDoorLow
import Derived.Test.YtgkkaimcchlnaaaGreatDoorSort
import Derived.Test.YtgkkaimcchlnaaaGreatDoorMqPl
set_option linter.unusedVariables false
set_option linter.unusedSimpArgs false

namespace Go.Proofs.YtgkkaimcchlnaaaGreatDoor
open Go Mq Go.ChangeShapes Go.WideShapes Go.ChangeAt Go.RowKit
/-! maquette/lower.Classes -/
def f46r0 : List PG := [.u (.bx 1 (.t 0)), .u (.mv 2 (.nl 2))]
def f46r1 : List PG := [.u (.mv 3 (.nl 2))]
def f46r2 : List PG := [.u (.fa 8 1 (.t 1)), .u (.ld 9 1 false (.t 8)), .u (.len 10 (.t 9)), .u (.mv 11 (.k (.int .i64 0)))]
def f46r3 : List PG := [.u (.bo 12 .lss (.t 11) (.t 10))]
def f46r4 : List PG := [.u (.ia 13 5 (.t 9) (.t 11)), .u (.ld 14 5 true (.t 13)), .u (.al 5 [.d (.v (.string ⟨#[]⟩)), .nl 2, .nl 5, .nl 4, .d (.v (.int .i64 0))]), .u (.st 5 (.t 5) (.t 14))]
def f46r5 : List PG := [.u (.fa 15 1 (.t 5)), .u (.ld 16 1 false (.t 15)), .u (.len 17 (.t 16)), .u (.mv 18 (.k (.int .i64 0)))]
def f46r6 : List PG := [.u (.bo 19 .lss (.t 18) (.t 17))]
def f46r7 : List PG := [.u (.ia 20 2 (.t 16) (.t 18)), .u (.ld 21 2 true (.t 20)), .u (.al 7 [.d (.v (.int .u32 0)), .d (.v (.int .i64 0))]), .u (.st 2 (.t 7) (.t 21))]
def f46r8 : List PG := [.u (.mv 22 (.t 3)), .u (.ld 23 2 true (.t 7)), .uc 24 73 [.t 22, .t 23], .u (.no 25 (.t 24))]
def f46r9 : List PG := [.u (.mv 26 (.t 3)), .u (.ld 27 2 true (.t 7)), .u (.bslF 28 35 2 [.t 27]), .u (.app 29 35 2 16 (.t 26) (.t 28)), .u (.mv 3 (.t 29))]
abbrev f46p0 : PC := .cond (.t 25) (.reg f46r9) (.skip)
abbrev f46p1 : PC := .seq (.reg f46r8) (f46p0)
def f46r10 : List PG := [.u (.bo 30 .add (.t 18) (.k (.int .i64 1))), .u (.mv 18 (.t 30))]
abbrev f46p2 : PC := .seq (.block 3 (.seq (.reg f46r7) (f46p1))) (.reg f46r10)
abbrev f46p3 : PC := .seq (.cond (.t 19) (.skip) (.exit 2)) (f46p2)
abbrev f46p4 : PC := .seq (.reg f46r6) (f46p3)
abbrev f46p5 : PC := .block 2 (.loop (f46p4))
abbrev f46p6 : PC := .seq (.reg f46r5) (f46p5)
def f46r11 : List PG := [.u (.bo 31 .add (.t 11) (.k (.int .i64 1))), .u (.mv 11 (.t 31))]
abbrev f46p7 : PC := .seq (.block 1 (.seq (.reg f46r4) (f46p6))) (.reg f46r11)
abbrev f46p8 : PC := .seq (.cond (.t 12) (.skip) (.exit 0)) (f46p7)
abbrev f46p9 : PC := .seq (.reg f46r3) (f46p8)
abbrev f46p10 : PC := .block 0 (.loop (f46p9))
def f46r12 : List PG := [.u (.mv 32 (.t 3)), .uc 33 80 [.t 32, .fn 81]]
def f46r13 : List PG := [.u (.mv 34 (.t 3)), .u (.mv 2 (.t 34))]
abbrev f46p11 : PC := .seq (.reg f46r13) (.ret)
abbrev f46p12 : PC := .seq (.reg f46r12) (f46p11)
abbrev f46p13 : PC := .seq (.seq (.reg f46r2) (f46p10)) (f46p12)
abbrev f46p14 : PC := .seq (.reg f46r1) (f46p13)
abbrev f46pc : PC := .seq (.reg f46r0) (f46p14)
def f46k : List Nat := [0, 1, 2, 3, 5, 7, 9, 10, 11, 12, 16, 17, 18, 19, 25]
theorem f46c : Tryz.f46.body.bind (cC te Tryz.f46.ntmps) = some f46pc := by kernel_rfl
set_option maxRecDepth 20000
set_option maxHeartbeats 4000000


theorem classes_fn (c : Conf) (hl : c.ros.length ≤ 7) (hn : ∀ r ∈ c.ros, r.nets.length ≤ 1) : FnS Tryz.prog 46 [c.av] (.d (.sl 2 ((sortP (collGo c.ros [])).map pD))) := by
  have hm : maxLen = 9223372036854775807 := rfl
  refine fn_of teok Tryz.func46 (by kernel_rfl) f46c f46k [.tmp 2] rfl (by show 1 ≤ 35; omega) ?_
  first | (have _q := @g2; clear _q) | have g2 : Nat.pred 77 = 76 := rfl
  first | (have _q := @g1; clear _q) | have g1 : Nat.pred 77 = 76 := rfl
  repeat' first
|(with_reducible refine awp_turn (l := f46r12) 1 ?_; unfold f46r12)
|(with_reducible refine runT_of ?_)
|(refine turnK_of (n := 29) (s := 2) ?_ rfl rfl rfl (sort_fnT x.2 (by omega)) ?_)
|(with_reducible first | refine awp_seq ?_ | refine awp_block ?_ | refine awp_reg ?_ | refine awp_ret ?_ | refine awp_skip ?_ | refine awp_exit ?_ | refine normQ_of ?_ | refine wkE_of ?_)
|with_reducible refine awp_cond (by simp only [evX, lget, Option.getD_some, reduceIte, Nat.reduceEqDiff]; rfl) (fun hc => ?_) (fun hc => ?_)
|with_reducible refine CallU_of (f := 73) (contains_fn y.2 (by omega) _ _) (by first | exact Or.inr (Or.inl rfl) | exact Or.inl rfl) ?_
|(with_reducible assumption)
|(with_reducible refine fun (hT : (_ : Bool) = _) => ?_)
|with_reducible refine And.intro ?_ ?_
|(with_reducible refine awp_loopU (b := f46p9) (fun x : Nat × List (Int × Int) => x.1 ≤ c.ros.length ∧ x.2.length ≤ x.1 ∧ collGo (c.ros.drop x.1) x.2 = collGo c.ros []) (fun x => c.ros.length - x.1) (fun x => [(11, .d (.v (.int .i64 x.1))), (3, .own 29 x.2.length)]) (fun x => [(29, .row 35 2 x.2.length (x.2.map pD))]) ((0, [])) (⟨Nat.zero_le _, by simp, rfl⟩) (Wk_nl 3 29 35 rfl rfl (by decide)) (Wk_sub rfl rfl ?_ ?_) (fun x hx => ?_))
|(refine Exists.elim (at_drop Ro.row c.ros x.1 (Int.ofNat_lt.1 (of_decide_eq_true hc))) (fun r he => ?_); have g1 := he.2.1; have hrn := hn r (List.mem_of_getElem? he.2.2.1); have hcl := collR_len r.nets x.2; have hx20 : x.2.length ≤ 1000 := (by omega); replace hc : True := trivial)
|(with_reducible refine awp_loopU (b := f46p4) (fun y : Nat × List (Int × Int) => y.1 ≤ r.nets.length ∧ y.2.length ≤ 1000 ∧ collR (r.nets.drop y.1) y.2 = collR r.nets x.2) (fun y => r.nets.length - y.1) (fun y => [(18, .d (.v (.int .i64 y.1))), (3, .own 29 y.2.length)]) (fun y => [(29, .row 35 2 y.2.length (y.2.map pD))]) ((0, x.2)) (⟨Nat.zero_le _, hx20, rfl⟩) (Wk.refl _ _) (Wk_sub rfl rfl ?_ ?_) (fun y hy => ?_))
|(refine Exists.elim (at_drop pD r.nets y.1 (Int.ofNat_lt.1 (of_decide_eq_true hc))) (fun p he2 => ?_); have g2 := he2.2.1; have hcl2 := collR_len (r.nets.drop y.1) y.2; rw [hy.2.2] at hcl2; replace hc : True := trivial)
|(have _q : (_ : Bool) = true := hc; with_reducible refine loopQ_next (y.1 + 1, y.2 ++ [p]) ?_ ?_ (Wk_sub rfl rfl ?_ ?_))
|(have _q : (!List.elem _ _) = false := hc; with_reducible refine loopQ_next (y.1 + 1, y.2) ?_ ?_ (Wk_sub rfl rfl ?_ ?_))
|(with_reducible refine loopQ_next ((x.1 + 1, y.2)) ?_ ?_ (Wk_sub rfl rfl ?_ ?_))
|simp only [f46r0, f46r1, f46r2, f46r3, f46r4, f46r5, f46r6, f46r7, f46r8, f46r9, f46r10, f46r11, f46r13, g2, g1, f46k, te35, List.length_map, runG_nil, runG_u, runG_ucS, stp, avL, avS, evs, evX, lget, lput, strip, putO, PO.dst, updO, okR, cells, splice, AV.cell, toD, toDs, binV, sameK, pickV, guardOf, okL_nil, sides, argsOf, rawOf, dv, dvL, owns, ownsL, flat, flatL, lkeep, seqQ, blockQ, initS, List.drop_succ_cons, List.drop_zero, List.take_succ_cons, List.take_zero, List.getD_cons_zero, List.getD_cons_succ, List.length_cons, List.length_nil, List.set_cons_zero, List.set_cons_succ, List.map_cons, List.map_nil, List.all_cons, List.all_nil, List.elem_cons, List.elem_nil, Option.getD_some, Option.getD_none, Option.bind_some, Option.isNone_none, reduceIte, reduceCtorEq, Nat.reduceEqDiff, Nat.reduceAdd, Nat.reduceLeDiff, Nat.zero_add, Nat.add_zero, Nat.reduceBEq, Bool.and_self, Bool.and_true, Bool.true_and, Bool.or_self, Bool.or_false, Bool.false_or, Bool.or_true, Bool.true_or, true_and, and_true, and_self, implies_true, forall_const, Bool.false_eq_true, id_eq, retQ, resOf, resV, Option.some.injEq, exists_eq_left', AV.d.injEq, D.v.injEq, Value.bool.injEq, imp_self, bldF, bldS, toVals, eqLs, Option.map_some, imp_false, not_true_eq_false, not_false_eq_true, List.append_nil, List.cons_append, List.nil_append, Option.toList_some, Option.toList_none, loopQ_exit, loopQ_ret, subS, subO, Bool.bne_false, Bool.bne_true, elemsOf, bslD, bslS, lputs, List.headD_cons, sealS, sealO, sealV, sealL, sealsS, sealsO, Bool.true_bne, Bool.false_bne, bne_self_eq_false, Int.reduceToNat, oSl, resR, argsN, dvN]
  all_goals try first
    | omega
    | (with_reducible rfl)
    | (show Value.int _ 0 = _; rfl)
    | (simp only [List.length_append, List.length_cons, List.length_nil]; omega)
    | (simp only [List.length_append, List.length_cons, List.length_nil, List.map_append, List.map_cons, List.map_nil]; done)
    | exact count64 he2.2.2.2 (by omega)
    | exact count64 he.2.2.2 (by omega)
    | (have h1 : p ∉ y.2 := by simpa using hc
       have h2 := hy.2.2; rw [he2.1, collR, if_neg (by simpa using h1)] at h2; exact h2)
    | (have h1 : p ∈ y.2 := by simpa using hc
       have h2 := hy.2.2; rw [he2.1, collR, if_pos (by simpa using h1)] at h2; exact h2)
    | (have h1 : p ∉ y.2 := by simpa using hc
       have h2 := hcl2; rw [he2.1, collR, if_neg (by simpa using h1)] at h2; simp at h2 ⊢; omega)
    | (have h0 := of_decide_eq_false hc; have h1 := hy.2.2; rw [List.drop_eq_nil_of_le (by omega), collR] at h1; simp only [h1]; omega)
    | (have h0 := of_decide_eq_false hc; have h1 := hy.2.2; rw [List.drop_eq_nil_of_le (by omega), collR] at h1; have h2 := hx.2.2; rw [he.1, collGo] at h2; simp only [h1]; exact h2)
    | (have h0 := of_decide_eq_false hc; have h1 := hx.2.2; rw [List.drop_eq_nil_of_le (by omega), collGo] at h1; rw [h1]; done)
  all_goals trace_state
end Go.Proofs.YtgkkaimcchlnaaaGreatDoor
