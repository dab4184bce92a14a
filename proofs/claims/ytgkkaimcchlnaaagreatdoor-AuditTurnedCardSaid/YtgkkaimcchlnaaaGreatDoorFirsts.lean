/- What quotient.firsts comes to. Printed by a program of this project (wip/mq). -/
import Derived.Test.YtgkkaimcchlnaaaGreatDoorMay
set_option linter.unusedVariables false
set_option linter.unusedSimpArgs false

namespace Go.Proofs.YtgkkaimcchlnaaaGreatDoor
open Go Mq Go.ChangeShapes Go.WideShapes Go.ChangeAt Go.RowKit
/-! maquette/quotient.firsts -/
def f56r0 : List PG := [.u (.bx 2 (.t 0)), .u (.mv 4 (.nl 1)), .u (.mv 5 (.k (.bool false)))]
def f56r1 : List PG := [.u (.ld 9 3 true (.t 2)), .uc 10 42 [.t 9], .u (.no 11 (.t 10)), .u (.mv 12 (.t 11)), .g 12 false (.mv 13 (.t 1)), .g 12 false (.len 14 (.t 13)), .g 12 false (.fa 15 0 (.t 2)), .g 12 false (.ld 16 1 false (.t 15)), .g 12 false (.len 17 (.t 16)), .g 12 false (.beq 18 true false (.t 14) (.t 17)), .u (.pick 19 (.t 12) (.k (.bool true)) (.t 18))]
def f56r2 : List PG := [.u (.mv 4 (.nl 1)), .u (.mv 5 (.k (.bool false)))]
abbrev f56p0 : PC := .seq (.reg f56r2) (.ret)
abbrev f56p1 : PC := .cond (.t 19) (f56p0) (.skip)
def f56r3 : List PG := [.u (.mv 6 (.nl 1))]
def f56r4 : List PG := [.u (.mv 20 (.t 1)), .u (.len 21 (.t 20)), .u (.mv 22 (.k (.int .i64 0)))]
def f56r5 : List PG := [.u (.bo 23 .lss (.t 22) (.t 21))]
def f56r6 : List PG := [.u (.mv 24 (.t 22)), .u (.ia 25 1 (.t 20) (.t 22)), .u (.ld 26 1 false (.t 25)), .u (.mv 7 (.t 24)), .u (.mv 8 (.t 26))]
def f56r7 : List PG := [.u (.mv 27 (.t 8)), .u (.bo 28 .lss (.t 27) (.k (.int .i64 0))), .u (.mv 29 (.t 28)), .g 29 false (.mv 30 (.t 8)), .g 29 false (.mv 31 (.t 6)), .g 29 false (.len 32 (.t 31)), .g 29 false (.bo 33 .gtr (.t 30) (.t 32)), .u (.pick 34 (.t 29) (.k (.bool true)) (.t 33))]
def f56r8 : List PG := [.u (.mv 4 (.nl 1)), .u (.mv 5 (.k (.bool false)))]
abbrev f56p2 : PC := .seq (.reg f56r8) (.ret)
abbrev f56p3 : PC := .cond (.t 34) (f56p2) (.skip)
def f56r9 : List PG := [.u (.mv 35 (.t 8)), .u (.mv 36 (.t 6)), .u (.len 37 (.t 36)), .u (.beq 38 false false (.t 35) (.t 37))]
def f56r10 : List PG := [.u (.mv 39 (.t 6)), .u (.mv 40 (.t 7)), .u (.bslF 41 3 1 [.t 40]), .u (.app 42 3 1 8 (.t 39) (.t 41)), .u (.mv 6 (.t 42))]
abbrev f56p4 : PC := .cond (.t 38) (.reg f56r10) (.skip)
abbrev f56p5 : PC := .seq (.reg f56r9) (f56p4)
abbrev f56p6 : PC := .seq (.seq (.reg f56r7) (f56p3)) (f56p5)
def f56r11 : List PG := [.u (.bo 43 .add (.t 22) (.k (.int .i64 1))), .u (.mv 22 (.t 43))]
abbrev f56p7 : PC := .seq (.block 1 (.seq (.reg f56r6) (f56p6))) (.reg f56r11)
abbrev f56p8 : PC := .seq (.cond (.t 23) (.skip) (.exit 0)) (f56p7)
abbrev f56p9 : PC := .seq (.reg f56r5) (f56p8)
abbrev f56p10 : PC := .block 0 (.loop (f56p9))
def f56r12 : List PG := [.u (.mv 44 (.t 6)), .u (.mv 4 (.t 44)), .u (.mv 5 (.k (.bool true)))]
abbrev f56p11 : PC := .seq (.reg f56r12) (.ret)
abbrev f56p12 : PC := .seq (.seq (.reg f56r4) (f56p10)) (f56p11)
abbrev f56p13 : PC := .seq (.reg f56r3) (f56p12)
abbrev f56p14 : PC := .seq (.seq (.reg f56r1) (f56p1)) (f56p13)
abbrev f56pc : PC := .seq (.reg f56r0) (f56p14)
def f56k : List Nat := [0, 1, 2, 4, 5, 6, 7, 8, 19, 20, 21, 22, 23, 34, 38]
theorem f56c : Tryz.f56.body.bind (cC te Tryz.f56.ntmps) = some f56pc := by kernel_rfl
set_option maxRecDepth 20000
set_option maxHeartbeats 4000000


def firstsV : Option (List Int) → AV
  | none => .tp [.d (.sl 1 []), .d (.v (.bool false))]
  | some fs => .tp [.d (.sl 1 (fs.map iD)), .d (.v (.bool true))]
theorem firsts_fn (n : Net) (hn : n.ok) (b : List Int) (hb : b.length ≤ maxLen) : FnS Tryz.prog 56 [n.av, .d (.sl 1 (b.map iD))] (firstsV (n.firsts b)) := by
  refine fn_of teok Tryz.func56 (by kernel_rfl) f56c f56k [.tmp 4, .tmp 5] rfl (by show 2 ≤ 45; omega) ?_
  first | (have _q := @g1; clear _q) | have g1 : Nat.pred 77 = 76 := rfl
  repeat' first
|(with_reducible first | refine awp_seq ?_ | refine awp_block ?_ | refine awp_reg ?_ | refine awp_ret ?_ | refine awp_skip ?_ | refine awp_exit ?_ | refine normQ_of ?_ | refine wkE_of ?_)
|with_reducible refine awp_cond (by simp only [evX, lget, Option.getD_some, reduceIte, Nat.reduceEqDiff]; rfl) (fun hc => ?_) (fun hc => ?_)
|with_reducible refine CallU_of (f := 42) (may_fn n hn) (by first | exact Or.inr (Or.inl rfl) | exact Or.inl rfl) ?_
|(with_reducible assumption)
|with_reducible refine fun (hG : okL _) => ?_
|(with_reducible refine fun (hT : (_ : Bool) = _) => ?_)
|(with_reducible first | exact hG.2 | exact hG.2.2 | exact hG.2.2.2 | exact hG.2.2.2.2)
|with_reducible refine okL_mk ?_ ?_
|with_reducible refine And.intro ?_ ?_
|(with_reducible refine awp_loopU (b := f56p9) (fun x : Nat × List Int => x.1 ≤ b.length ∧ x.2.length ≤ x.1 ∧ b.length ≤ 64 ∧ firstsGo (b.drop x.1) x.1 x.2 = firstsGo b 0 []) (fun x => b.length - x.1) (fun x => [(22, .d (.v (.int .i64 x.1))), (6, .own 42 x.2.length)]) (fun x => [(42, .row 3 1 x.2.length (x.2.map iD))]) ((0, [])) (⟨Nat.zero_le _, Nat.le_refl _, ?_, rfl⟩) (Wk_nl 6 42 3 rfl rfl (by decide)) (Wk_sub rfl rfl ?_ ?_) (fun x hx => ?_))
|(refine Exists.elim (at_drop iD b x.1 (Int.ofNat_lt.1 (of_decide_eq_true hc))) (fun v he => ?_); have g1 := he.2.1; replace hc : True := trivial)
|(have _q : (_ : Bool) = true := hc; with_reducible refine loopQ_next ((x.1 + 1, x.2 ++ [(x.1 : Int)])) ?_ ?_ (Wk_sub rfl rfl ?_ ?_))
|(have _q : (_ : Bool) = false := hc; with_reducible refine loopQ_next ((x.1 + 1, x.2)) ?_ ?_ (Wk_sub rfl rfl ?_ ?_))
|simp only [f56r0, f56r1, f56r2, f56r3, f56r4, f56r5, f56r6, f56r7, f56r8, f56r9, f56r10, f56r11, f56r12, g1, f56k, List.length_map, runG_nil, runG_u, runG_g, runG_ucS, stp, avL, avS, evs, evX, lget, lput, strip, putO, PO.dst, updO, okR, cells, splice, AV.cell, toD, toDs, binV, sameK, pickV, guardOf, okL_nil, sides, argsOf, rawOf, dv, dvL, owns, ownsL, flat, flatL, lkeep, seqQ, blockQ, initS, List.drop_succ_cons, List.drop_zero, List.take_succ_cons, List.take_zero, List.getD_cons_zero, List.getD_cons_succ, List.length_cons, List.length_nil, List.set_cons_zero, List.set_cons_succ, List.map_cons, List.map_nil, List.all_cons, List.all_nil, List.elem_cons, List.elem_nil, Option.getD_some, Option.getD_none, Option.bind_some, Option.isNone_none, reduceIte, reduceCtorEq, Nat.reduceEqDiff, Nat.reduceAdd, Nat.reduceLeDiff, Nat.zero_add, Nat.add_zero, Nat.reduceBEq, Bool.and_self, Bool.and_true, Bool.true_and, Bool.or_self, Bool.or_false, Bool.false_or, Bool.or_true, Bool.true_or, true_and, and_true, and_self, implies_true, forall_const, Bool.false_eq_true, id_eq, retQ, resOf, resV, Option.some.injEq, exists_eq_left', AV.d.injEq, D.v.injEq, Value.bool.injEq, imp_self, bldF, bldS, toVals, eqLs, Option.map_some, imp_false, not_true_eq_false, not_false_eq_true, List.append_nil, List.cons_append, List.nil_append, Option.toList_some, Option.toList_none, loopQ_exit, loopQ_ret, subS, subO, Bool.bne_false, Bool.bne_true, elemsOf, bslD, bslS, lputs, List.headD_cons, sealS, sealO, sealV, sealL, sealsS, sealsO, Bool.true_bne, Bool.false_bne, bne_self_eq_false, Int.reduceToNat, oSl, resR, argsN, dvN]
  all_goals try first
|omega
|(with_reducible rfl)
|exact count64 he.2.2.2 hb
|(simp at hc; have hm := Net.may_spec hc.1; have := hm.most; omega)
|(simp only [List.length_append, List.length_cons, List.length_nil]; omega)
|(simp only [List.length_append, List.length_cons, List.length_nil, List.map_append, List.map_cons, List.map_nil]; done)
|(grind [firstsGo, Net.firsts, firstsV])
end Go.Proofs.YtgkkaimcchlnaaaGreatDoor
