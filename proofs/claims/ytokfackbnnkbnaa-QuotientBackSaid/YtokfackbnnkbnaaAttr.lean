/- When two routes are the same. Printed by a program of this project (wip/mq). -/
import Derived.Test.YtokfackbnnkbnaaQ0
import Derived.Test.YtokfackbnnkbnaaMqPl
set_option linter.unusedVariables false
set_option linter.unusedSimpArgs false

namespace Go.Proofs.Ytokfackbnnkbnaa
open Go Mq Go.ChangeShapes Go.WideShapes Go.ChangeAt Go.RowKit
/-! maquette/attr.Same -/
def f39r0 : List PG := [.u (.bx 2 (.t 0)), .u (.bx 3 (.t 1)), .u (.mv 4 (.k (.bool false)))]
def f39r1 : List PG := [.u (.fa 5 0 (.t 2)), .u (.ld 6 1 false (.t 5)), .u (.no 7 (.t 6)), .u (.mv 8 (.t 7)), .g 8 true (.fa 9 0 (.t 3)), .g 8 true (.ld 10 1 false (.t 9)), .g 8 true (.no 11 (.t 10)), .u (.pick 12 (.t 8) (.t 11) (.k (.bool false))), .u (.mv 13 (.t 12)), .g 13 false (.ld 14 4 true (.t 2)), .g 13 false (.ld 15 4 true (.t 3)), .g 13 false (.beqs 16 false [.b, .i, .i, .i] (.t 14) (.t 15)), .u (.pick 17 (.t 13) (.k (.bool true)) (.t 16)), .u (.mv 4 (.t 17))]
abbrev f39p0 : PC := .seq (.reg f39r1) (.ret)
abbrev f39pc : PC := .seq (.reg f39r0) (f39p0)
def f39k : List Nat := [0, 1, 2, 3, 4]
theorem f39c : Try.f39.body.bind (cC te Try.f39.ntmps) = some f39pc := by kernel_rfl
set_option maxRecDepth 20000
set_option maxHeartbeats 4000000
set_option linter.unusedSimpArgs false
set_option linter.unusedVariables false

theorem asame_fn (x y : Attr) : FnS Try.prog 39 [x.av, y.av] (.d (.v (.bool (sameA x y)))) := by
  refine fn_of teok Try.func39 (by kernel_rfl) f39c f39k [.tmp 4] rfl (by show 2 ≤ 18; omega) ?_
  repeat' first
  | with_reducible refine awp_seq ?_
  | with_reducible refine awp_block ?_
  | with_reducible refine awp_scope ?_
  | with_reducible refine awp_reg ?_
  | with_reducible refine awp_regD ?_
  | with_reducible refine awp_ret ?_
  | with_reducible refine awp_skip ?_
  | with_reducible refine awp_exit ?_
  | with_reducible refine normQ_of ?_
  | with_reducible refine wkE_of ?_
  | with_reducible refine midQ_of (Wk_sub rfl rfl ?_ ?_)
  | with_reducible refine runD_nil ?_
  | with_reducible refine runD_cons ?_
  | with_reducible refine runF_cons ?_
  | with_reducible refine runF_nil ?_
  | with_reducible refine KF_of ?_
  | with_reducible refine chkQ_of rfl ?_
  | with_reducible refine awp_cond (by simp only [evX, lget, Option.getD_some, reduceIte, Nat.reduceEqDiff]; rfl) (fun hc => ?_) (fun hc => ?_)
  | (with_reducible assumption)
  | with_reducible refine fun (hG : okL _) => ?_
  | (with_reducible refine fun (hT : (_ : Bool) = _) => ?_)
  | (with_reducible first | exact hG.2 | exact hG.2.2 | exact hG.2.2.2 | exact hG.2.2.2.2)
  | with_reducible refine okL_mk ?_ ?_
  | with_reducible refine And.intro ?_ ?_
  | simp only [f39r0, f39r1, f39k, runG_nil, runG_u, runG_g, runG_ucS, runG_gcS, runG_uvS, stp, avL, avS, evs, evX, lget, lput, strip, putO, PO.dst, updO, okR, cells, splice, AV.cell, toD, toDs, binV, sameK, pickV, guardOf, okL_nil, sides, argsOf, rawOf, dv, dvL, owns, ownsL, flat, flatL, lkeep, seqQ, blockQ, initS, List.drop_succ_cons, List.drop_zero, List.take_succ_cons, List.take_zero, List.getD_cons_zero, List.getD_cons_succ, List.length_cons, List.length_nil, List.set_cons_zero, List.set_cons_succ, List.map_cons, List.map_nil, List.all_cons, List.all_nil, List.elem_cons, List.elem_nil, Option.getD_some, Option.getD_none, Option.bind_some, Option.isNone_none, reduceIte, reduceCtorEq, Nat.reduceEqDiff, Nat.reduceAdd, Nat.reduceLeDiff, Nat.zero_add, Nat.add_zero, Nat.reduceBEq, Bool.and_self, Bool.and_true, Bool.true_and, Bool.or_self, Bool.or_false, Bool.false_or, Bool.or_true, Bool.true_or, true_and, and_true, and_self, implies_true, forall_const, Bool.false_eq_true, id_eq, retQ, resOf, resV, Option.some.injEq, exists_eq_left', AV.d.injEq, D.v.injEq, Value.bool.injEq, imp_self, bldF, bldS, toVals, eqLs, Option.map_some, imp_false, not_true_eq_false, not_false_eq_true, foot, wrs, nm, nmL, PG.reads, PG.dst, PO.reads, X.sl, sls, slB, List.append_nil, List.cons_append, List.nil_append, Option.toList_some, Option.toList_none, loopQ_exit, loopQ_ret, subS, subO, Bool.bne_false, Bool.bne_true, elemsOf, bslD, bslS, mentries, isAgV, asA, lputs, mgetD_set, mcmp_set, mput_set, List.headD_cons, sealS, sealO, sealV, sealL, mput_nil, mcmp_nil, midQ_ret, midQ_exit, sealsS, sealsO, runW_nil, runW_cons, Bool.true_bne, Bool.false_bne, bne_self_eq_false, Int.reduceToNat, bndV, oSl, resR, runS_nil, runS_gc, ren, renL, renO, sg, gBack, scopeQ_normal, scopeQ_ret, scopeQ_exit, lenB, argsN, dvN]
  all_goals (cases x; cases y; rename_i o p c t o' p' c' t'; cases o <;> cases o' <;> simp [sameA])
end Go.Proofs.Ytokfackbnnkbnaa

