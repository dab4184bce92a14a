/- What layer 7 makes of numbers: rows' numbers and names. Printed by a program of this project (wip/mq). -/
import Derived.Test.YtgkkaimcchlnaaaGreatDoorQ0
import Derived.Test.YtgkkaimcchlnaaaGreatDoorMqPl
set_option linter.unusedVariables false
set_option linter.unusedSimpArgs false

namespace Go.Proofs.YtgkkaimcchlnaaaGreatDoor
open Go Mq Go.ChangeShapes Go.WideShapes Go.ChangeAt Go.RowKit
/-! maquette/maquettelaw07.number -/
def f64r0 : List PG := [.u (.mv 4 (.k (.int .i64 0)))]
def f64r1 : List PG := [.u (.mv 5 (.t 0)), .u (.len 6 (.t 5)), .u (.beq 7 false false (.t 6) (.k (.int .i64 0)))]
def f64r2 : List PG := [.u (.mv 4 (.k (.int .i64 0)))]
abbrev f64p0 : PC := .seq (.reg f64r2) (.ret)
abbrev f64p1 : PC := .cond (.t 7) (f64p0) (.skip)
def f64r3 : List PG := [.u (.mv 8 (.t 0)), .u (.mv 9 (.t 1)), .u (.mv 10 (.t 0)), .u (.len 11 (.t 10)), .u (.bo 12 .rem (.t 9) (.t 11)), .u (.ia 13 1 (.t 8) (.t 12)), .u (.ld 14 1 false (.t 13)), .u (.cv 15 .i64 (.t 14)), .u (.mv 4 (.t 15))]
abbrev f64p2 : PC := .seq (.reg f64r3) (.ret)
abbrev f64p3 : PC := .seq (.seq (.reg f64r1) (f64p1)) (f64p2)
abbrev f64pc : PC := .seq (.reg f64r0) (f64p3)
def f64k : List Nat := [0, 1, 4, 7]
theorem f64c : Tryz.f64.body.bind (cC te Tryz.f64.ntmps) = some f64pc := by kernel_rfl
/-! maquette/maquettelaw07.Name -/
def f63r0 : List PG := [.u (.mv 2 (.k (.string ⟨#[]⟩)))]
def f63r1 : List PG := [.u (.mv 3 (.t 0)), .u (.bo 4 .add (.k (.int .i64 97)) (.t 3)), .u (.cv 5 .i32 (.t 4)), .u (.cvs 6 (.t 5)), .u (.bo 7 .add (.k (.string ⟨#[114]⟩)) (.t 6)), .u (.mv 2 (.t 7))]
abbrev f63p0 : PC := .seq (.reg f63r1) (.ret)
abbrev f63pc : PC := .seq (.reg f63r0) (f63p0)
def f63k : List Nat := [0, 2]
theorem f63c : Tryz.f63.body.bind (cC te Tryz.f63.ntmps) = some f63pc := by kernel_rfl
/-! (maquette/maquettelaw07.Shape).mapped -/
def f66r0 : List PG := [.u (.bx 2 (.t 0)), .u (.mv 4 (.k (.string ⟨#[]⟩)))]
def f66r1 : List PG := [.u (.fa 6 2 (.t 2)), .u (.ld 7 1 false (.t 6)), .u (.len 8 (.t 7)), .u (.mx 9 true (.t 8) (.k (.int .i64 4))), .u (.mv 5 (.t 9))]
def f66r2 : List PG := [.u (.mv 10 (.t 5)), .u (.beq 11 false false (.t 10) (.k (.int .i64 0))), .u (.mv 12 (.t 11)), .g 12 false (.mv 13 (.t 1)), .g 12 false (.bo 14 .rem (.t 13) (.k (.int .i64 3))), .g 12 false (.bo 15 .gtr (.t 14) (.k (.int .i64 0))), .u (.pick 16 (.t 12) (.k (.bool true)) (.t 15))]
def f66r3 : List PG := [.u (.mv 4 (.k (.string ⟨#[]⟩)))]
abbrev f66p0 : PC := .seq (.reg f66r3) (.ret)
abbrev f66p1 : PC := .cond (.t 16) (f66p0) (.skip)
def f66r4 : List PG := [.u (.mv 17 (.t 1)), .u (.bo 18 .quo (.t 17) (.k (.int .i64 3))), .u (.mv 19 (.t 5)), .u (.bo 20 .rem (.t 18) (.t 19)), .u (.bo 21 .add (.k (.int .i64 97)) (.t 20)), .u (.cv 22 .i32 (.t 21)), .u (.cvs 23 (.t 22)), .u (.bo 24 .add (.k (.string ⟨#[109]⟩)) (.t 23)), .u (.mv 4 (.t 24))]
abbrev f66p2 : PC := .seq (.reg f66r4) (.ret)
abbrev f66p3 : PC := .seq (.seq (.reg f66r2) (f66p1)) (f66p2)
abbrev f66p4 : PC := .seq (.reg f66r1) (f66p3)
abbrev f66pc : PC := .seq (.reg f66r0) (f66p4)
def f66k : List Nat := [0, 1, 2, 4, 5, 16]
theorem f66c : Tryz.f66.body.bind (cC te Tryz.f66.ntmps) = some f66pc := by kernel_rfl
set_option maxRecDepth 20000
set_option maxHeartbeats 4000000


theorem number_fn (l : List Int) (hl : B8 l) (k : Nat) : FnS Tryz.prog 64 [.d (.sl 1 (l.map uD)), .d (.v (.int .i64 k))] (.d (.v (.int .i64 (numV l k)))) := by
  have hr := numV_rng hl k
  have g2 : IntKind.i64.wrap (numV l k) = numV l k := wrapI64 _ (by omega) (by omega)
  refine fn_of teok Tryz.func64 (by kernel_rfl) f64c f64k [.tmp 4] rfl (by show 2 ≤ 16; omega) ?_
  first | (have _q := @g2; clear _q) | have g2 : Nat.pred 77 = 76 := rfl
  first | (have _q := @g1; clear _q) | have g1 : Nat.pred 77 = 76 := rfl
  repeat' first
|(with_reducible first | refine awp_seq ?_ | refine awp_reg ?_ | refine awp_ret ?_ | refine awp_skip ?_ | refine normQ_of ?_ | refine wkE_of ?_)
|with_reducible refine awp_cond (by simp only [evX, lget, Option.getD_some, reduceIte, Nat.reduceEqDiff]; rfl) (fun hc => ?_) (fun hc => ?_)
|(with_reducible assumption)
|(with_reducible refine fun (hT : (_ : Bool) = _) => ?_)
|with_reducible refine And.intro ?_ ?_
|(have h0 : l.length ≠ 0 := (by simpa using hc); have gk := num_row h0 k; have g1 := gk.1; replace hc : True := trivial)
|simp only [f64r0, f64r1, f64r2, f64r3, g2, g1, f64k, List.length_map, runG_nil, runG_u, runG_ucS, stp, avL, avS, evs, evX, lget, lput, strip, putO, PO.dst, updO, okR, cells, splice, AV.cell, toD, toDs, binV, sameK, pickV, guardOf, okL_nil, sides, argsOf, rawOf, dv, dvL, owns, ownsL, flat, flatL, lkeep, seqQ, blockQ, initS, List.drop_succ_cons, List.drop_zero, List.take_succ_cons, List.take_zero, List.getD_cons_zero, List.getD_cons_succ, List.length_cons, List.length_nil, List.set_cons_zero, List.set_cons_succ, List.map_cons, List.map_nil, List.all_cons, List.all_nil, List.elem_cons, List.elem_nil, Option.getD_some, Option.getD_none, Option.bind_some, Option.isNone_none, reduceIte, reduceCtorEq, Nat.reduceEqDiff, Nat.reduceAdd, Nat.reduceLeDiff, Nat.zero_add, Nat.add_zero, Nat.reduceBEq, Bool.and_self, Bool.and_true, Bool.true_and, Bool.or_self, Bool.or_false, Bool.false_or, Bool.or_true, Bool.true_or, true_and, and_true, and_self, implies_true, forall_const, Bool.false_eq_true, id_eq, retQ, resOf, resV, Option.some.injEq, exists_eq_left', AV.d.injEq, D.v.injEq, Value.bool.injEq, imp_self, bldF, bldS, toVals, eqLs, Option.map_some, imp_false, not_true_eq_false, not_false_eq_true, List.append_nil, List.cons_append, List.nil_append, Option.toList_some, Option.toList_none, subS, subO, Bool.bne_false, Bool.bne_true, elemsOf, bslD, bslS, lputs, List.headD_cons, sealS, sealO, sealV, sealL, sealsS, sealsO, Bool.true_bne, Bool.false_bne, bne_self_eq_false, Int.reduceToNat, oSl, resR, argsN, dvN]
  all_goals try first
    | omega
    | decide
    | (have h0 : l.length = 0 := by simpa using hc
       simp [numV, h0]; done)
  all_goals trace_state
theorem name_fn (k : Nat) (hk : k ≤ 1000) : FnS Tryz.prog 63 [.d (.v (.int .i64 k))] (.d (.v (.string (rname k)))) := by
  have g1 := chr_of k (by omega) (by omega)
  refine fn_of teok Tryz.func63 (by kernel_rfl) f63c f63k [.tmp 2] rfl (by show 1 ≤ 8; omega) ?_
  first | (have _q := @g1; clear _q) | have g1 : Nat.pred 77 = 76 := rfl
  repeat' first
|(with_reducible first | refine awp_seq ?_ | refine awp_reg ?_ | refine awp_ret ?_ | refine awp_skip ?_ | refine normQ_of ?_ | refine wkE_of ?_)
|with_reducible refine awp_cond (by simp only [evX, lget, Option.getD_some, reduceIte, Nat.reduceEqDiff]; rfl) (fun hc => ?_) (fun hc => ?_)
|(with_reducible assumption)
|(with_reducible refine fun (hT : (_ : Bool) = _) => ?_)
|with_reducible refine And.intro ?_ ?_
|simp only [f63r0, f63r1, g1, f63k, List.length_map, runG_nil, runG_u, runG_ucS, stp, avL, avS, evs, evX, lget, lput, strip, putO, PO.dst, updO, okR, cells, splice, AV.cell, toD, toDs, binV, sameK, pickV, guardOf, okL_nil, sides, argsOf, rawOf, dv, dvL, owns, ownsL, flat, flatL, lkeep, seqQ, blockQ, initS, List.drop_succ_cons, List.drop_zero, List.take_succ_cons, List.take_zero, List.getD_cons_zero, List.getD_cons_succ, List.length_cons, List.length_nil, List.set_cons_zero, List.set_cons_succ, List.map_cons, List.map_nil, List.all_cons, List.all_nil, List.elem_cons, List.elem_nil, Option.getD_some, Option.getD_none, Option.bind_some, Option.isNone_none, reduceIte, reduceCtorEq, Nat.reduceEqDiff, Nat.reduceAdd, Nat.reduceLeDiff, Nat.zero_add, Nat.add_zero, Nat.reduceBEq, Bool.and_self, Bool.and_true, Bool.true_and, Bool.or_self, Bool.or_false, Bool.false_or, Bool.or_true, Bool.true_or, true_and, and_true, and_self, implies_true, forall_const, Bool.false_eq_true, id_eq, retQ, resOf, resV, Option.some.injEq, exists_eq_left', AV.d.injEq, D.v.injEq, Value.bool.injEq, imp_self, bldF, bldS, toVals, eqLs, Option.map_some, imp_false, not_true_eq_false, not_false_eq_true, List.append_nil, List.cons_append, List.nil_append, Option.toList_some, Option.toList_none, subS, subO, Bool.bne_false, Bool.bne_true, elemsOf, bslD, bslS, lputs, List.headD_cons, sealS, sealO, sealV, sealL, sealsS, sealsO, Bool.true_bne, Bool.false_bne, bne_self_eq_false, Int.reduceToNat, oSl, resR, argsN, dvN]
  all_goals first
    | exact chr_fit _ _
    | rfl
theorem mapped_fn (sh : Shape) (n : Int) (hn : 0 ≤ n ∧ n ≤ 255) : FnS Tryz.prog 66 [sh.av, .d (.v (.int .i64 n))] (.d (.v (.string (mapV sh.m n)))) := by
  have g1 : (if 4 < (sh.maps.length : Int) then 4 else (sh.maps.length : Int)) = (sh.m : Int) := by unfold Shape.m; split <;> omega
  have hd : 0 ≤ n.tdiv 3 ∧ n.tdiv 3 ≤ 255 := by
    rw [Int.tdiv_eq_ediv_of_nonneg hn.1]; omega
  have g2 : IntKind.i64.wrap (n.tdiv 3) = n.tdiv 3 := wrapI64 _ (by omega) (by omega)
  have hm : 0 ≤ (n.tdiv 3).tmod sh.m ∧ (n.tdiv 3).tmod sh.m ≤ 255 := by
    rw [Int.tmod_eq_emod_of_nonneg hd.1]
    by_cases h0 : sh.m = 0
    · simp [h0]; exact hd
    · have h4 : sh.m ≤ 4 := Nat.min_le_right _ _
      have := Int.emod_lt_of_pos (n.tdiv 3) (show (0 : Int) < sh.m by omega)
      exact ⟨Int.emod_nonneg _ (by omega), by omega⟩
  have g3 := chr_of ((n.tdiv 3).tmod sh.m) hm.1 (by omega)
  refine fn_of teok Tryz.func66 (by kernel_rfl) f66c f66k [.tmp 4] rfl (by show 2 ≤ 25; omega) ?_
  first | (have _q := @g1; clear _q) | have g1 : Nat.pred 77 = 76 := rfl
  first | (have _q := @g2; clear _q) | have g2 : Nat.pred 77 = 76 := rfl
  first | (have _q := @g3; clear _q) | have g3 : Nat.pred 77 = 76 := rfl
  repeat' first
|(with_reducible first | refine awp_seq ?_ | refine awp_reg ?_ | refine awp_ret ?_ | refine awp_skip ?_ | refine normQ_of ?_ | refine wkE_of ?_)
|with_reducible refine awp_cond (by simp only [evX, lget, Option.getD_some, reduceIte, Nat.reduceEqDiff]; rfl) (fun hc => ?_) (fun hc => ?_)
|(with_reducible assumption)
|with_reducible refine fun (hG : okL _) => ?_
|(with_reducible refine fun (hT : (_ : Bool) = _) => ?_)
|(with_reducible first | exact hG.2 | exact hG.2.2 | exact hG.2.2.2 | exact hG.2.2.2.2)
|with_reducible refine okL_mk ?_ ?_
|with_reducible refine And.intro ?_ ?_
|simp only [f66r0, f66r1, f66r2, f66r3, f66r4, g1, g2, g3, f66k, List.length_map, runG_nil, runG_u, runG_g, runG_ucS, stp, avL, avS, evs, evX, lget, lput, strip, putO, PO.dst, updO, okR, cells, splice, AV.cell, toD, toDs, binV, sameK, pickV, guardOf, okL_nil, sides, argsOf, rawOf, dv, dvL, owns, ownsL, flat, flatL, lkeep, seqQ, blockQ, initS, List.drop_succ_cons, List.drop_zero, List.take_succ_cons, List.take_zero, List.getD_cons_zero, List.getD_cons_succ, List.length_cons, List.length_nil, List.set_cons_zero, List.set_cons_succ, List.map_cons, List.map_nil, List.all_cons, List.all_nil, List.elem_cons, List.elem_nil, Option.getD_some, Option.getD_none, Option.bind_some, Option.isNone_none, reduceIte, reduceCtorEq, Nat.reduceEqDiff, Nat.reduceAdd, Nat.reduceLeDiff, Nat.zero_add, Nat.add_zero, Nat.reduceBEq, Bool.and_self, Bool.and_true, Bool.true_and, Bool.or_self, Bool.or_false, Bool.false_or, Bool.or_true, Bool.true_or, true_and, and_true, and_self, implies_true, forall_const, Bool.false_eq_true, id_eq, retQ, resOf, resV, Option.some.injEq, exists_eq_left', AV.d.injEq, D.v.injEq, Value.bool.injEq, imp_self, bldF, bldS, toVals, eqLs, Option.map_some, imp_false, not_true_eq_false, not_false_eq_true, List.append_nil, List.cons_append, List.nil_append, Option.toList_some, Option.toList_none, subS, subO, Bool.bne_false, Bool.bne_true, elemsOf, bslD, bslS, lputs, List.headD_cons, sealS, sealO, sealV, sealL, sealsS, sealsO, Bool.true_bne, Bool.false_bne, bne_self_eq_false, Int.reduceToNat, oSl, resR, argsN, dvN]
  all_goals first
    | decide
    | exact chr_fit _ _
    | (have h0 : sh.m = 0 ∨ 0 < n.tmod 3 := by simpa using hc
       simp [mapV, h0]; done)
    | (simp at hc; have := hc.1; omega)
    | (have h0 : ¬ (sh.m = 0 ∨ 0 < n.tmod 3) := by simpa using hc
       rw [mapV, if_neg h0]; rfl)
end Go.Proofs.YtgkkaimcchlnaaaGreatDoor
