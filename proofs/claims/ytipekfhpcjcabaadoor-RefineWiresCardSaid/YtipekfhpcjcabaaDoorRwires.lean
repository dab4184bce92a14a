/- The law RefineWires: its walk. Printed by a program of this project (wip/mq). -/
import Derived.Test.YtipekfhpcjcabaaDoorAwk17
import Derived.Test.YtipekfhpcjcabaaDoorWires
set_option linter.unusedVariables false
set_option linter.unusedSimpArgs false

namespace Go.Proofs.YtipekfhpcjcabaaDoor
open Go Mq Go.ChangeShapes Go.WideShapes Go.ChangeAt Go.RowKit
/-! maquette/maquettelaw17.RefineWires -/
def f7r0 : List PG := [.u (.mv 6 (.k (.bool false)))]
def f7r1 : List PG := [.uc 10 21 [], .u (.no 11 (.t 10))]
def f7r2 : List PG := [.u (.mv 6 (.k (.bool false)))]
abbrev f7p0 : PC := .seq (.reg f7r2) (.ret)
abbrev f7p1 : PC := .cond (.t 11) (f7p0) (.skip)
def f7r3 : List PG := [.u (.mv 12 (.t 0)), .u (.mv 13 (.t 1)), .u (.mv 14 (.t 2)), .uc 15 10 [.t 12, .t 13, .t 14], .u (.al 7 [.nl 1, .nl 1, .nl 1]), .u (.st 3 (.t 7) (.t 15))]
def f7r4 : List PG := [.u (.ld 17 3 true (.t 7)), .uc 18 22 [.t 17], .u (.mv 16 (.t 18)), .u (.ext 19 (.t 16) 0), .u (.ext 20 (.t 16) 1), .u (.mv 8 (.t 19)), .u (.mv 9 (.t 20))]
def f7r5 : List PG := [.u (.ld 21 3 true (.t 7)), .uc 22 12 [.t 21], .u (.no 23 (.t 22))]
def f7r6 : List PG := [.u (.mv 24 (.t 8)), .u (.len 25 (.t 24)), .u (.beq 26 false false (.t 25) (.k (.int .i64 0))), .u (.mv 27 (.t 26)), .g 27 true (.mv 28 (.t 9)), .gc 27 true 29 13 [.t 28], .g 27 true (.beq 30 false false (.t 29) (.k (.int .i64 10))), .u (.pick 31 (.t 27) (.t 30) (.k (.bool false))), .u (.mv 6 (.t 31))]
abbrev f7p2 : PC := .seq (.reg f7r6) (.ret)
abbrev f7p3 : PC := .cond (.t 23) (f7p2) (.skip)
def f7r7 : List PG := [.u (.mv 32 (.t 9)), .u (.beqn 33 false (.t 32)), .u (.mv 34 (.t 33)), .g 34 true (.mv 35 (.t 8)), .g 34 true (.ld 36 3 true (.t 7)), .gc 34 true 37 24 [.t 36], .gc 34 true 38 23 [.t 35, .t 37], .u (.pick 39 (.t 34) (.t 38) (.k (.bool false))), .u (.mv 6 (.t 39))]
abbrev f7p4 : PC := .seq (.reg f7r7) (.ret)
abbrev f7p5 : PC := .seq (.seq (.reg f7r5) (f7p3)) (f7p4)
abbrev f7p6 : PC := .seq (.reg f7r4) (f7p5)
abbrev f7p7 : PC := .seq (.reg f7r3) (f7p6)
abbrev f7p8 : PC := .seq (.seq (.reg f7r1) (f7p1)) (f7p7)
abbrev f7pc : PC := .seq (.reg f7r0) (f7p8)
def f7k : List Nat := [0, 1, 2, 6, 7, 8, 9, 11, 23]
theorem f7c : Tryd.f7.body.bind (cC te Tryd.f7.ntmps) = some f7pc := by kernel_rfl
set_option maxRecDepth 20000
set_option maxHeartbeats 4000000
set_option linter.unusedSimpArgs false
set_option linter.unusedVariables false

theorem wires_fnS (o : List Bool) (ho : o.length ≤ maxLen) (st : List Int) (hst : st.length ≤ maxLen) (ws : List (List Wire)) (hws : WsOk ws) : FnS Tryd.prog 10 [.d (.sl 1 (o.map bD)), .d (.sl 1 (st.map fun x => [D.v (.int .i8 x)])), .d (.sl 1 (ws.map wsD))] (wiresV o st ws).av := by
  have h := FnS_of_FnG (wires_fnG o ho st hst ws hws)
  generalize wiresV o st ws = n at h ⊢
  simp only [dvR, dv, dvL, lget, reduceIte, Nat.reduceEqDiff] at h
  exact h
theorem rwires_of (o : List Bool) (ho : o.length ≤ maxLen) (st : List Int) (hst : st.length ≤ maxLen) (ws : List (List Wire)) (hws : WsOk ws) (n : Net) (hn : wiresV o st ws = n) (hmay : n.may = true) : FnS Tryd.prog 7 [.d (.sl 1 (o.map bD)), .d (.sl 1 (st.map fun x => [D.v (.int .i8 x)])), .d (.sl 1 (ws.map wsD))] (.d (.v (.bool true))) := by
  have hm : maxLen = 9223372036854775807 := rfl
  have hT := wiresV_tiny o st ws
  have hW : FnS Tryd.prog 10 [.d (.sl 1 (o.map bD)), .d (.sl 1 (st.map fun x => [D.v (.int .i8 x)])), .d (.sl 1 (ws.map wsD))] (wiresV o st ws).av := wires_fnS o ho st hst ws hws
  rw [hn] at hT hW
  have hR := rof_yes n hT.small hmay
  have hl := (find_spec (Net.may_spec hmay)).1.len
  have h8 := hT.origin
  have hS := sameB_self (findV n) (by omega)
  refine fn_of teok Tryd.func7 (by kernel_rfl) f7c f7k [.tmp 6] rfl (by show 3 ≤ 40; omega) ?_
  repeat' first
  | (exact absurd hc (by decide))
  | with_reducible refine awp_seq ?_
  | with_reducible refine awp_block ?_
  | with_reducible refine awp_scope ?_
  | with_reducible refine awp_reg ?_
  | with_reducible refine awp_regD ?_
  | with_reducible refine awp_ret ?_
  | with_reducible refine awp_skip ?_
  | with_reducible refine awp_exit ?_
  | with_reducible refine normQ_of ?_
  | with_reducible refine wkE_of ?_
  | with_reducible refine midQ_of (Wk_sub rfl rfl ?_ ?_)
  | with_reducible refine runD_nil ?_
  | with_reducible refine runD_cons ?_
  | with_reducible refine runF_cons ?_
  | with_reducible refine runF_nil ?_
  | with_reducible refine KF_of ?_
  | with_reducible refine chkQ_of rfl ?_
  | with_reducible refine awp_cond (by simp only [evX, lget, Option.getD_some, reduceIte, Nat.reduceEqDiff]; rfl) (fun hc => ?_) (fun hc => ?_)
  | with_reducible refine CallU_of (f := 21) (awake17_fn) (by first | exact Or.inr (Or.inl rfl) | exact Or.inl rfl) ?_
  | with_reducible refine CallC_of (f := 21) (fun _ => awake17_fn) (by first | exact Or.inr (Or.inl rfl) | exact Or.inl rfl) ?_
  | with_reducible refine CallU_of (f := 10) (hW) (by first | exact Or.inr (Or.inl rfl) | exact Or.inl rfl) ?_
  | with_reducible refine CallC_of (f := 10) (fun _ => hW) (by first | exact Or.inr (Or.inl rfl) | exact Or.inl rfl) ?_
  | with_reducible refine CallU_of (f := 22) (hR) (by first | exact Or.inr (Or.inl rfl) | exact Or.inl rfl) ?_
  | with_reducible refine CallC_of (f := 22) (fun _ => hR) (by first | exact Or.inr (Or.inl rfl) | exact Or.inl rfl) ?_
  | with_reducible refine CallU_of (f := 12) (may_is hmay hT.small.ok) (by first | exact Or.inr (Or.inl rfl) | exact Or.inl rfl) ?_
  | with_reducible refine CallC_of (f := 12) (fun _ => may_is hmay hT.small.ok) (by first | exact Or.inr (Or.inl rfl) | exact Or.inl rfl) ?_
  | with_reducible refine CallU_of (f := 24) (find_fn n hT.small hmay) (by first | exact Or.inr (Or.inl rfl) | exact Or.inl rfl) ?_
  | with_reducible refine CallC_of (f := 24) (fun _ => find_fn n hT.small hmay) (by first | exact Or.inr (Or.inl rfl) | exact Or.inl rfl) ?_
  | with_reducible refine CallU_of (f := 23) (hS) (by first | exact Or.inr (Or.inl rfl) | exact Or.inl rfl) ?_
  | with_reducible refine CallC_of (f := 23) (fun _ => hS) (by first | exact Or.inr (Or.inl rfl) | exact Or.inl rfl) ?_
  | (with_reducible assumption)
  | with_reducible refine fun (hG : okL _) => ?_
  | (with_reducible refine fun (hT : (_ : Bool) = _) => ?_)
  | (with_reducible first | exact hG.2 | exact hG.2.2 | exact hG.2.2.2 | exact hG.2.2.2.2)
  | with_reducible refine okL_mk ?_ ?_
  | with_reducible refine And.intro ?_ ?_
  | simp only [f7r0, f7r1, f7r2, f7r3, f7r4, f7r5, f7r6, f7r7, f7k, te29, List.length_map, List.getElem?_cons_zero, List.getElem?_cons_succ, runG_nil, runG_u, runG_g, runG_ucS, runG_gcS, runG_uvS, stp, avL, avS, evs, evX, lget, lput, strip, putO, PO.dst, updO, okR, cells, splice, AV.cell, toD, toDs, binV, sameK, pickV, guardOf, okL_nil, sides, argsOf, rawOf, dv, dvL, owns, ownsL, flat, flatL, lkeep, seqQ, blockQ, initS, List.drop_succ_cons, List.drop_zero, List.take_succ_cons, List.take_zero, List.getD_cons_zero, List.getD_cons_succ, List.length_cons, List.length_nil, List.set_cons_zero, List.set_cons_succ, List.map_cons, List.map_nil, List.all_cons, List.all_nil, List.elem_cons, List.elem_nil, Option.getD_some, Option.getD_none, Option.bind_some, Option.isNone_none, reduceIte, reduceCtorEq, Nat.reduceEqDiff, Nat.reduceAdd, Nat.reduceLeDiff, Nat.zero_add, Nat.add_zero, Nat.reduceBEq, Bool.and_self, Bool.and_true, Bool.true_and, Bool.or_self, Bool.or_false, Bool.false_or, Bool.or_true, Bool.true_or, true_and, and_true, and_self, implies_true, forall_const, Bool.false_eq_true, id_eq, retQ, resOf, resV, Option.some.injEq, exists_eq_left', AV.d.injEq, D.v.injEq, Value.bool.injEq, imp_self, bldF, bldS, toVals, eqLs, Option.map_some, imp_false, not_true_eq_false, not_false_eq_true, foot, wrs, nm, nmL, PG.reads, PG.dst, PO.reads, X.sl, sls, slB, List.append_nil, List.cons_append, List.nil_append, Option.toList_some, Option.toList_none, loopQ_exit, loopQ_ret, subS, subO, Bool.bne_false, Bool.bne_true, elemsOf, bslD, bslS, mentries, isAgV, asA, lputs, mgetD_set, mcmp_set, mput_set, List.headD_cons, sealS, sealO, sealV, sealL, mput_nil, mcmp_nil, midQ_ret, midQ_exit, sealsS, sealsO, runW_nil, runW_cons, Bool.true_bne, Bool.false_bne, bne_self_eq_false, Int.reduceToNat, bndV, oSl, resR, runS_nil, runS_gc, ren, renL, renO, sg, gBack, scopeQ_normal, scopeQ_ret, scopeQ_exit, lenB, argsN, dvN]
  all_goals try first | omega | decide | rfl | (simp; done)
  all_goals trace_state
theorem rwires_no (o : List Bool) (ho : o.length ≤ maxLen) (st : List Int) (hst : st.length ≤ maxLen) (ws : List (List Wire)) (hws : WsOk ws) (n : Net) (hn : wiresV o st ws = n) (hmay : n.may = false) : FnS Tryd.prog 7 [.d (.sl 1 (o.map bD)), .d (.sl 1 (st.map fun x => [D.v (.int .i8 x)])), .d (.sl 1 (ws.map wsD))] (.d (.v (.bool true))) := by
  have hm : maxLen = 9223372036854775807 := rfl
  have hT := wiresV_tiny o st ws
  have hW : FnS Tryd.prog 10 [.d (.sl 1 (o.map bD)), .d (.sl 1 (st.map fun x => [D.v (.int .i8 x)])), .d (.sl 1 (ws.map wsD))] (wiresV o st ws).av := wires_fnS o ho st hst ws hws
  rw [hn] at hT hW
  have hR := rof_no n hT.small hmay
  refine fn_of teok Tryd.func7 (by kernel_rfl) f7c f7k [.tmp 6] rfl (by show 3 ≤ 40; omega) ?_
  repeat' first
  | (exact absurd hc (by decide))
  | with_reducible refine awp_seq ?_
  | with_reducible refine awp_block ?_
  | with_reducible refine awp_scope ?_
  | with_reducible refine awp_reg ?_
  | with_reducible refine awp_regD ?_
  | with_reducible refine awp_ret ?_
  | with_reducible refine awp_skip ?_
  | with_reducible refine awp_exit ?_
  | with_reducible refine normQ_of ?_
  | with_reducible refine wkE_of ?_
  | with_reducible refine midQ_of (Wk_sub rfl rfl ?_ ?_)
  | with_reducible refine runD_nil ?_
  | with_reducible refine runD_cons ?_
  | with_reducible refine runF_cons ?_
  | with_reducible refine runF_nil ?_
  | with_reducible refine KF_of ?_
  | with_reducible refine chkQ_of rfl ?_
  | with_reducible refine awp_cond (by simp only [evX, lget, Option.getD_some, reduceIte, Nat.reduceEqDiff]; rfl) (fun hc => ?_) (fun hc => ?_)
  | with_reducible refine CallU_of (f := 21) (awake17_fn) (by first | exact Or.inr (Or.inl rfl) | exact Or.inl rfl) ?_
  | with_reducible refine CallC_of (f := 21) (fun _ => awake17_fn) (by first | exact Or.inr (Or.inl rfl) | exact Or.inl rfl) ?_
  | with_reducible refine CallU_of (f := 10) (hW) (by first | exact Or.inr (Or.inl rfl) | exact Or.inl rfl) ?_
  | with_reducible refine CallC_of (f := 10) (fun _ => hW) (by first | exact Or.inr (Or.inl rfl) | exact Or.inl rfl) ?_
  | with_reducible refine CallU_of (f := 22) (hR) (by first | exact Or.inr (Or.inl rfl) | exact Or.inl rfl) ?_
  | with_reducible refine CallC_of (f := 22) (fun _ => hR) (by first | exact Or.inr (Or.inl rfl) | exact Or.inl rfl) ?_
  | with_reducible refine CallU_of (f := 12) (may_not hmay hT.small.ok) (by first | exact Or.inr (Or.inl rfl) | exact Or.inl rfl) ?_
  | with_reducible refine CallC_of (f := 12) (fun _ => may_not hmay hT.small.ok) (by first | exact Or.inr (Or.inl rfl) | exact Or.inl rfl) ?_
  | with_reducible refine CallU_of (f := 13) (number_hit 10) (by first | exact Or.inr (Or.inl rfl) | exact Or.inl rfl) ?_
  | with_reducible refine CallC_of (f := 13) (fun _ => number_hit 10) (by first | exact Or.inr (Or.inl rfl) | exact Or.inl rfl) ?_
  | (with_reducible assumption)
  | with_reducible refine fun (hG : okL _) => ?_
  | (with_reducible refine fun (hT : (_ : Bool) = _) => ?_)
  | (with_reducible first | exact hG.2 | exact hG.2.2 | exact hG.2.2.2 | exact hG.2.2.2.2)
  | with_reducible refine okL_mk ?_ ?_
  | with_reducible refine And.intro ?_ ?_
  | simp only [f7r0, f7r1, f7r2, f7r3, f7r4, f7r5, f7r6, f7r7, f7k, te29, List.length_map, List.getElem?_cons_zero, List.getElem?_cons_succ, runG_nil, runG_u, runG_g, runG_ucS, runG_gcS, runG_uvS, stp, avL, avS, evs, evX, lget, lput, strip, putO, PO.dst, updO, okR, cells, splice, AV.cell, toD, toDs, binV, sameK, pickV, guardOf, okL_nil, sides, argsOf, rawOf, dv, dvL, owns, ownsL, flat, flatL, lkeep, seqQ, blockQ, initS, List.drop_succ_cons, List.drop_zero, List.take_succ_cons, List.take_zero, List.getD_cons_zero, List.getD_cons_succ, List.length_cons, List.length_nil, List.set_cons_zero, List.set_cons_succ, List.map_cons, List.map_nil, List.all_cons, List.all_nil, List.elem_cons, List.elem_nil, Option.getD_some, Option.getD_none, Option.bind_some, Option.isNone_none, reduceIte, reduceCtorEq, Nat.reduceEqDiff, Nat.reduceAdd, Nat.reduceLeDiff, Nat.zero_add, Nat.add_zero, Nat.reduceBEq, Bool.and_self, Bool.and_true, Bool.true_and, Bool.or_self, Bool.or_false, Bool.false_or, Bool.or_true, Bool.true_or, true_and, and_true, and_self, implies_true, forall_const, Bool.false_eq_true, id_eq, retQ, resOf, resV, Option.some.injEq, exists_eq_left', AV.d.injEq, D.v.injEq, Value.bool.injEq, imp_self, bldF, bldS, toVals, eqLs, Option.map_some, imp_false, not_true_eq_false, not_false_eq_true, foot, wrs, nm, nmL, PG.reads, PG.dst, PO.reads, X.sl, sls, slB, List.append_nil, List.cons_append, List.nil_append, Option.toList_some, Option.toList_none, loopQ_exit, loopQ_ret, subS, subO, Bool.bne_false, Bool.bne_true, elemsOf, bslD, bslS, mentries, isAgV, asA, lputs, mgetD_set, mcmp_set, mput_set, List.headD_cons, sealS, sealO, sealV, sealL, mput_nil, mcmp_nil, midQ_ret, midQ_exit, sealsS, sealsO, runW_nil, runW_cons, Bool.true_bne, Bool.false_bne, bne_self_eq_false, Int.reduceToNat, bndV, oSl, resR, runS_nil, runS_gc, ren, renL, renO, sg, gBack, scopeQ_normal, scopeQ_ret, scopeQ_exit, lenB, argsN, dvN]
  all_goals try first | omega | decide | rfl | (simp; done)
  all_goals trace_state
theorem rwires_fn (o : List Bool) (ho : o.length ≤ maxLen) (st : List Int) (hst : st.length ≤ maxLen) (ws : List (List Wire)) (hws : WsOk ws) : FnS Tryd.prog 7 [.d (.sl 1 (o.map bD)), .d (.sl 1 (st.map fun x => [D.v (.int .i8 x)])), .d (.sl 1 (ws.map wsD))] (.d (.v (.bool true))) := by
  cases h : (wiresV o st ws).may
  · exact rwires_no o ho st hst ws hws _ rfl h
  · exact rwires_of o ho st hst ws hws _ rfl h
end Go.Proofs.YtipekfhpcjcabaaDoor

