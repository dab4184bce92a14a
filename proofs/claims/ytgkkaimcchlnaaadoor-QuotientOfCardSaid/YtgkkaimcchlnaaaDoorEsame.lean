/- What edge.Same, stable.Fixed and refine.Alone come to. Printed by a program of this project (wip/mq). -/
import Derived.Test.YtgkkaimcchlnaaaDoorLikes
import Derived.Test.YtgkkaimcchlnaaaDoorMqPl
set_option linter.unusedVariables false
set_option linter.unusedSimpArgs false

namespace Go.Proofs.YtgkkaimcchlnaaaDoor
open Go Mq Go.ChangeShapes Go.WideShapes Go.ChangeAt Go.RowKit
/-! maquette/stable.Fixed -/
def f37r0 : List PG := [.u (.bx 2 (.t 0)), .u (.mv 4 (.k (.bool false)))]
def f37r1 : List PG := [.u (.mv 5 (.t 1)), .u (.bo 6 .geq (.t 5) (.k (.int .i64 0))), .u (.mv 7 (.t 6)), .g 7 true (.mv 8 (.t 1)), .g 7 true (.fa 9 0 (.t 2)), .g 7 true (.ld 10 1 false (.t 9)), .g 7 true (.len 11 (.t 10)), .g 7 true (.bo 12 .lss (.t 8) (.t 11)), .u (.pick 13 (.t 7) (.t 12) (.k (.bool false))), .u (.mv 14 (.t 13)), .g 14 true (.fa 15 0 (.t 2)), .g 14 true (.ld 16 1 false (.t 15)), .g 14 true (.mv 17 (.t 1)), .g 14 true (.ia 18 1 (.t 16) (.t 17)), .g 14 true (.ld 19 1 false (.t 18)), .g 14 true (.mv 20 (.t 19)), .g 20 false (.mv 21 (.t 1)), .g 20 false (.fa 22 1 (.t 2)), .g 20 false (.ld 23 1 false (.t 22)), .g 20 false (.len 24 (.t 23)), .g 20 false (.bo 25 .lss (.t 21) (.t 24)), .g 20 false (.mv 26 (.t 25)), .g 26 true (.fa 27 1 (.t 2)), .g 26 true (.ld 28 1 false (.t 27)), .g 26 true (.mv 29 (.t 1)), .g 26 true (.ia 30 1 (.t 28) (.t 29)), .g 26 true (.ld 31 1 false (.t 30)), .g 26 true (.bo 32 .geq (.t 31) (.k (.int .i64 0))), .g 20 false (.pick 33 (.t 26) (.t 32) (.k (.bool false))), .g 14 true (.pick 34 (.t 20) (.k (.bool true)) (.t 33)), .u (.pick 35 (.t 14) (.t 34) (.k (.bool false))), .u (.mv 4 (.t 35))]
abbrev f37p0 : PC := .seq (.reg f37r1) (.ret)
abbrev f37pc : PC := .seq (.reg f37r0) (f37p0)
def f37k : List Nat := [0, 1, 2, 4]
theorem f37c : Tryd.f37.body.bind (cC te Tryd.f37.ntmps) = some f37pc := by kernel_rfl
/-! slices.IndexFunc[[]maquette/api.Edge,maquette/api.Edge] -/
def f56r0 : List PG := [.u (.mv 4 (.k (.int .i64 0)))]
def f56r1 : List PG := [.u (.mv 6 (.t 0)), .u (.len 7 (.t 6)), .u (.mv 8 (.k (.int .i64 0)))]
def f56r2 : List PG := [.u (.bo 9 .lss (.t 8) (.t 7))]
def f56r3 : List PG := [.u (.mv 10 (.t 8)), .u (.mv 5 (.t 10))]
def f56r4 : List PG := [.u (.mv 11 (.t 1)), .u (.mv 12 (.t 0)), .u (.mv 13 (.t 5)), .u (.ia 14 4 (.t 12) (.t 13)), .u (.ld 15 4 true (.t 14)), .uv 16 11 [.t 15]]
def f56r5 : List PG := [.u (.mv 17 (.t 5)), .u (.mv 4 (.t 17))]
abbrev f56p0 : PC := .seq (.reg f56r5) (.ret)
abbrev f56p1 : PC := .cond (.t 16) (f56p0) (.skip)
abbrev f56p2 : PC := .seq (.reg f56r4) (f56p1)
def f56r6 : List PG := [.u (.bo 18 .add (.t 8) (.k (.int .i64 1))), .u (.mv 8 (.t 18))]
abbrev f56p3 : PC := .seq (.block 1 (.seq (.reg f56r3) (f56p2))) (.reg f56r6)
abbrev f56p4 : PC := .seq (.cond (.t 9) (.skip) (.exit 0)) (f56p3)
abbrev f56p5 : PC := .seq (.reg f56r2) (f56p4)
abbrev f56p6 : PC := .block 0 (.loop (f56p5))
def f56r7 : List PG := [.u (.mv 4 (.k (.int .i64 (-1))))]
abbrev f56p7 : PC := .seq (.reg f56r7) (.ret)
abbrev f56p8 : PC := .seq (.seq (.reg f56r1) (f56p6)) (f56p7)
abbrev f56pc : PC := .seq (.reg f56r0) (f56p8)
def f56k : List Nat := [0, 1, 4, 5, 7, 8, 9, 16]
theorem f56c : Tryd.f56.body.bind (cC te Tryd.f56.ntmps) = some f56pc := by kernel_rfl
/-! slices.ContainsFunc[[]maquette/api.Edge,maquette/api.Edge] -/
def f38r0 : List PG := [.u (.mv 4 (.k (.bool false)))]
def f38r1 : List PG := [.u (.mv 5 (.t 0)), .u (.mv 6 (.t 1)), .uc 7 56 [.t 5, .t 6], .u (.bo 8 .geq (.t 7) (.k (.int .i64 0))), .u (.mv 4 (.t 8))]
abbrev f38p0 : PC := .seq (.reg f38r1) (.ret)
abbrev f38pc : PC := .seq (.reg f38r0) (f38p0)
def f38k : List Nat := [0, 1, 4]
theorem f38c : Tryd.f38.body.bind (cC te Tryd.f38.ntmps) = some f38pc := by kernel_rfl
/-! maquette/refine.Alone -/
def f16r0 : List PG := [.u (.bx 2 (.t 0)), .u (.mv 4 (.k (.bool false)))]
def f16r1 : List PG := [.u (.ld 5 3 true (.t 2)), .u (.mv 6 (.t 1)), .uc 7 37 [.t 5, .t 6]]
def f16r2 : List PG := [.u (.mv 4 (.k (.bool true)))]
abbrev f16p0 : PC := .seq (.reg f16r2) (.ret)
abbrev f16p1 : PC := .cond (.t 7) (f16p0) (.skip)
def f16r3 : List PG := [.u (.mv 8 (.t 1)), .u (.bo 9 .geq (.t 8) (.k (.int .i64 0))), .u (.mv 10 (.t 9)), .g 10 true (.mv 11 (.t 1)), .g 10 true (.fa 12 2 (.t 2)), .g 10 true (.ld 13 1 false (.t 12)), .g 10 true (.len 14 (.t 13)), .g 10 true (.bo 15 .lss (.t 11) (.t 14)), .u (.pick 16 (.t 10) (.t 15) (.k (.bool false))), .u (.mv 17 (.t 16)), .g 17 true (.fa 18 2 (.t 2)), .g 17 true (.ld 19 1 false (.t 18)), .g 17 true (.mv 20 (.t 1)), .g 17 true (.ia 21 1 (.t 19) (.t 20)), .g 17 true (.ld 22 1 false (.t 21)), .gc 17 true 23 38 [.t 22, .fn 39], .u (.pick 24 (.t 17) (.t 23) (.k (.bool false))), .u (.mv 4 (.t 24))]
abbrev f16p2 : PC := .seq (.reg f16r3) (.ret)
abbrev f16p3 : PC := .seq (.seq (.reg f16r1) (f16p1)) (f16p2)
abbrev f16pc : PC := .seq (.reg f16r0) (f16p3)
def f16k : List Nat := [0, 1, 2, 4, 7]
theorem f16c : Tryd.f16.body.bind (cC te Tryd.f16.ntmps) = some f16pc := by kernel_rfl
set_option maxRecDepth 20000
set_option maxHeartbeats 4000000
set_option linter.unusedSimpArgs false
set_option linter.unusedVariables false
theorem gd_o {n : Net} {k : Int} (h : 0 ≤ k ∧ k < n.origin.length) : AV.d (((n.origin.map bD).getD k.toNat []).getD 0 (.v undef)) = .d (.v (.bool (n.origin.getD k.toNat false))) := by rw [at_int bD n.origin false h.1 h.2]; rfl
theorem gd_s {n : Net} {k : Int} (h : 0 ≤ k ∧ k < n.static.length) : AV.d (((n.static.map iD).getD k.toNat []).getD 0 (.v undef)) = .d (.v (.int .i64 (n.static.getD k.toNat 0))) := by rw [at_int iD n.static 0 h.1 h.2]; rfl
theorem fixed_fn (n : Net) (k : Int) : FnS Tryd.prog 37 [n.av, .d (.v (.int .i64 k))] (.d (.v (.bool (n.fixed k)))) := by
  refine fn_of teok Tryd.func37 (by kernel_rfl) f37c f37k [.tmp 4] rfl (by show 2 ≤ 36; omega) ?_
  repeat' first
  | (with_reducible refine awp_cut (l := f37r1) [(15, [1019]), (12, [1031])] ?_; unfold f37r1)
  | (with_reducible refine wkE_gd (ns := [1019]) 19 (.d (.v (.bool (n.origin.getD k.toNat false)))) rfl (fun hG => gd_o ?_) ?_)
  | (with_reducible refine wkE_gd (ns := [1031]) 31 (.d (.v (.int .i64 (n.static.getD k.toNat 0)))) rfl (fun hG => gd_s ?_) ?_)
  | with_reducible refine awp_seq ?_
  | with_reducible refine awp_block ?_
  | with_reducible refine awp_scope ?_
  | with_reducible refine awp_reg ?_
  | with_reducible refine awp_regD ?_
  | with_reducible refine awp_ret ?_
  | with_reducible refine awp_skip ?_
  | with_reducible refine awp_exit ?_
  | with_reducible refine normQ_of ?_
  | with_reducible refine wkE_of ?_
  | with_reducible refine midQ_of (Wk_sub rfl rfl ?_ ?_)
  | with_reducible refine runD_nil ?_
  | with_reducible refine runD_cons ?_
  | with_reducible refine runF_cons ?_
  | with_reducible refine runF_nil ?_
  | with_reducible refine KF_of ?_
  | with_reducible refine chkQ_of rfl ?_
  | with_reducible refine awp_cond (by simp only [evX, lget, Option.getD_some, reduceIte, Nat.reduceEqDiff]; rfl) (fun hc => ?_) (fun hc => ?_)
  | (with_reducible assumption)
  | with_reducible refine fun (hG : okL _) => ?_
  | (with_reducible refine fun (hT : (_ : Bool) = _) => ?_)
  | (with_reducible first | exact hG.2 | exact hG.2.2 | exact hG.2.2.2 | exact hG.2.2.2.2)
  | with_reducible refine okL_mk ?_ ?_
  | with_reducible refine And.intro ?_ ?_
  | simp only [f37r0, f37k, List.length_map, runG_nil, runG_u, runG_g, runG_ucS, runG_gcS, runG_uvS, stp, avL, avS, evs, evX, lget, lput, strip, putO, PO.dst, updO, okR, cells, splice, AV.cell, toD, toDs, binV, sameK, pickV, guardOf, okL_nil, sides, argsOf, rawOf, dv, dvL, owns, ownsL, flat, flatL, lkeep, seqQ, blockQ, initS, List.drop_succ_cons, List.drop_zero, List.take_succ_cons, List.take_zero, List.getD_cons_zero, List.getD_cons_succ, List.length_cons, List.length_nil, List.set_cons_zero, List.set_cons_succ, List.map_cons, List.map_nil, List.all_cons, List.all_nil, List.elem_cons, List.elem_nil, Option.getD_some, Option.getD_none, Option.bind_some, Option.isNone_none, reduceIte, reduceCtorEq, Nat.reduceEqDiff, Nat.reduceAdd, Nat.reduceLeDiff, Nat.zero_add, Nat.add_zero, Nat.reduceBEq, Bool.and_self, Bool.and_true, Bool.true_and, Bool.or_self, Bool.or_false, Bool.false_or, Bool.or_true, Bool.true_or, true_and, and_true, and_self, implies_true, forall_const, Bool.false_eq_true, id_eq, retQ, resOf, resV, Option.some.injEq, exists_eq_left', AV.d.injEq, D.v.injEq, Value.bool.injEq, imp_self, bldF, bldS, toVals, eqLs, Option.map_some, imp_false, not_true_eq_false, not_false_eq_true, foot, wrs, nm, nmL, PG.reads, PG.dst, PO.reads, X.sl, sls, slB, List.append_nil, List.cons_append, List.nil_append, Option.toList_some, Option.toList_none, loopQ_exit, loopQ_ret, subS, subO, Bool.bne_false, Bool.bne_true, elemsOf, bslD, bslS, mentries, isAgV, asA, lputs, mgetD_set, mcmp_set, mput_set, List.headD_cons, sealS, sealO, sealV, sealL, mput_nil, mcmp_nil, midQ_ret, midQ_exit, sealsS, sealsO, runW_nil, runW_cons, Bool.true_bne, Bool.false_bne, bne_self_eq_false, Int.reduceToNat, bndV, oSl, resR, runS_nil, runS_gc, ren, renL, renO, sg, gBack, scopeQ_normal, scopeQ_ret, scopeQ_exit, lenB, argsN, dvN]
  all_goals try first
    | (simp [okL] at hG; omega)
    | (simp [okL] at hG; rw [at_int bD n.origin false (by omega) (by omega)]; exact Nat.le_refl _)
    | (simp [okL] at hG; rw [at_int iD n.static 0 (by omega) (by omega)]; exact Nat.le_refl _)
    | (grind [Net.fixed])
  all_goals trace_state

def idxGo : List Arc → Nat → Int
  | [], _ => -1
  | e :: r, k => if likesE e then k else idxGo r (k + 1)
theorem idxGo_iff : ∀ (es : List Arc) (k : Nat), 0 ≤ idxGo es k ↔ es.any likesE = true
  | [], _ => by simp [idxGo]
  | e :: r, k => by
    have ih := idxGo_iff r (k + 1)
    simp only [idxGo, List.any_cons, Bool.or_eq_true]
    split
    · rename_i h; simp [h]
    · rename_i h; rw [ih]; simp [h]
theorem idxGo_ge (es : List Arc) (k : Nat) : decide (0 ≤ idxGo es k) = es.any likesE := by
  rw [Bool.eq_iff_iff, decide_eq_true_iff]; exact idxGo_iff es k
theorem idx_fn (es : List Arc) (hl : es.length ≤ maxLen) (hok : ∀ e ∈ es, e.ok) : FnS Tryd.prog 56 [.d (.sl 4 (es.map Arc.row)), .clo 39 []] (.d (.v (.int .i64 (idxGo es 0)))) := by
  refine fn_of teok Tryd.func56 (by kernel_rfl) f56c f56k [.tmp 4] rfl (by show 2 ≤ 19; omega) ?_
  first | (have _q := @g1; clear _q) | have g1 : Nat.pred 77 = 76 := rfl
  repeat' first
  | with_reducible refine awp_seq ?_
  | with_reducible refine awp_block ?_
  | with_reducible refine awp_scope ?_
  | with_reducible refine awp_reg ?_
  | with_reducible refine awp_regD ?_
  | with_reducible refine awp_ret ?_
  | with_reducible refine awp_skip ?_
  | with_reducible refine awp_exit ?_
  | with_reducible refine normQ_of ?_
  | with_reducible refine wkE_of ?_
  | with_reducible refine midQ_of (Wk_sub rfl rfl ?_ ?_)
  | with_reducible refine runD_nil ?_
  | with_reducible refine runD_cons ?_
  | with_reducible refine runF_cons ?_
  | with_reducible refine runF_nil ?_
  | with_reducible refine KF_of ?_
  | with_reducible refine chkQ_of rfl ?_
  | with_reducible refine awp_cond (by simp only [evX, lget, Option.getD_some, reduceIte, Nat.reduceEqDiff]; rfl) (fun hc => ?_) (fun hc => ?_)
  | with_reducible refine CallU_of (f := 39) (likesE_fn e (hok e (List.mem_of_getElem? he.2.2.1))) (by first | exact Or.inr (Or.inl rfl) | exact Or.inl rfl) ?_
  | with_reducible refine CallC_of (f := 39) (fun _ => likesE_fn e (hok e (List.mem_of_getElem? he.2.2.1))) (by first | exact Or.inr (Or.inl rfl) | exact Or.inl rfl) ?_
  | (with_reducible assumption)
  | with_reducible refine fun (hG : okL _) => ?_
  | (with_reducible refine fun (hT : (_ : Bool) = _) => ?_)
  | (with_reducible first | exact hG.2 | exact hG.2.2 | exact hG.2.2.2 | exact hG.2.2.2.2)
  | with_reducible refine okL_mk ?_ ?_
  | with_reducible refine And.intro ?_ ?_
  | (with_reducible refine awp_loopU (b := f56p5) (fun i : Nat => i ≤ es.length ∧ idxGo (es.drop i) i = idxGo es 0) (fun i => es.length - i) (fun i => [(8, .d (.v (.int .i64 i)))]) (fun i => []) (0) (⟨Nat.zero_le _, rfl⟩) (Wk.refl _ _) (Wk_sub rfl rfl ?_ ?_) (fun i hi => ?_))
  | (refine Exists.elim (at_drop Arc.row es i (Int.ofNat_lt.1 (of_decide_eq_true hc))) (fun e he => ?_); have g1 := he.2.1; replace hc : True := trivial)
  | (with_reducible refine loopQ_next (i + 1) ?_ ?_ (Wk_sub rfl rfl ?_ ?_))
  | simp only [f56r0, f56r1, f56r2, f56r3, f56r4, f56r5, f56r6, f56r7, g1, f56k, List.length_map, runG_nil, runG_u, runG_g, runG_ucS, runG_gcS, runG_uvS, stp, avL, avS, evs, evX, lget, lput, strip, putO, PO.dst, updO, okR, cells, splice, AV.cell, toD, toDs, binV, sameK, pickV, guardOf, okL_nil, sides, argsOf, rawOf, dv, dvL, owns, ownsL, flat, flatL, lkeep, seqQ, blockQ, initS, List.drop_succ_cons, List.drop_zero, List.take_succ_cons, List.take_zero, List.getD_cons_zero, List.getD_cons_succ, List.length_cons, List.length_nil, List.set_cons_zero, List.set_cons_succ, List.map_cons, List.map_nil, List.all_cons, List.all_nil, List.elem_cons, List.elem_nil, Option.getD_some, Option.getD_none, Option.bind_some, Option.isNone_none, reduceIte, reduceCtorEq, Nat.reduceEqDiff, Nat.reduceAdd, Nat.reduceLeDiff, Nat.zero_add, Nat.add_zero, Nat.reduceBEq, Bool.and_self, Bool.and_true, Bool.true_and, Bool.or_self, Bool.or_false, Bool.false_or, Bool.or_true, Bool.true_or, true_and, and_true, and_self, implies_true, forall_const, Bool.false_eq_true, id_eq, retQ, resOf, resV, Option.some.injEq, exists_eq_left', AV.d.injEq, D.v.injEq, Value.bool.injEq, imp_self, bldF, bldS, toVals, eqLs, Option.map_some, imp_false, not_true_eq_false, not_false_eq_true, foot, wrs, nm, nmL, PG.reads, PG.dst, PO.reads, X.sl, sls, slB, List.append_nil, List.cons_append, List.nil_append, Option.toList_some, Option.toList_none, loopQ_exit, loopQ_ret, subS, subO, Bool.bne_false, Bool.bne_true, elemsOf, bslD, bslS, mentries, isAgV, asA, lputs, mgetD_set, mcmp_set, mput_set, List.headD_cons, sealS, sealO, sealV, sealL, mput_nil, mcmp_nil, midQ_ret, midQ_exit, sealsS, sealsO, runW_nil, runW_cons, Bool.true_bne, Bool.false_bne, bne_self_eq_false, Int.reduceToNat, bndV, oSl, resR, runS_nil, runS_gc, ren, renL, renO, sg, gBack, scopeQ_normal, scopeQ_ret, scopeQ_exit, lenB, argsN, dvN]
  all_goals try first
    | omega
    | (with_reducible rfl)
    | (show Value.int _ 0 = _; rfl)
    | (simp only [List.length_append, List.length_cons, List.length_nil]; omega)
    | (simp only [List.length_append, List.length_cons, List.length_nil, List.map_append, List.map_cons, List.map_nil]; done)
    | exact count64 he.2.2.2 hl
    | (have h1 := hi.2; rw [he.1, idxGo, if_pos hc] at h1; rw [← h1]; done)
    | (have h1 := hi.2; rw [he.1, idxGo, if_neg (by simp [hc])] at h1; exact h1)
    | (have h0 := of_decide_eq_false hc; have h1 := hi.2; rw [List.drop_eq_nil_of_le (by omega), idxGo] at h1; rw [← h1]; done)
  all_goals trace_state
theorem cf_fn (es : List Arc) (hl : es.length ≤ maxLen) (hok : ∀ e ∈ es, e.ok) : FnS Tryd.prog 38 [.d (.sl 4 (es.map Arc.row)), .clo 39 []] (.d (.v (.bool (es.any likesE)))) := by
  have g1 := idxGo_ge es 0
  refine fn_of teok Tryd.func38 (by kernel_rfl) f38c f38k [.tmp 4] rfl (by show 2 ≤ 9; omega) ?_
  first | (have _q := @g1; clear _q) | have g1 : Nat.pred 77 = 76 := rfl
  repeat' first
  | with_reducible refine awp_seq ?_
  | with_reducible refine awp_block ?_
  | with_reducible refine awp_scope ?_
  | with_reducible refine awp_reg ?_
  | with_reducible refine awp_regD ?_
  | with_reducible refine awp_ret ?_
  | with_reducible refine awp_skip ?_
  | with_reducible refine awp_exit ?_
  | with_reducible refine normQ_of ?_
  | with_reducible refine wkE_of ?_
  | with_reducible refine midQ_of (Wk_sub rfl rfl ?_ ?_)
  | with_reducible refine runD_nil ?_
  | with_reducible refine runD_cons ?_
  | with_reducible refine runF_cons ?_
  | with_reducible refine runF_nil ?_
  | with_reducible refine KF_of ?_
  | with_reducible refine chkQ_of rfl ?_
  | with_reducible refine awp_cond (by simp only [evX, lget, Option.getD_some, reduceIte, Nat.reduceEqDiff]; rfl) (fun hc => ?_) (fun hc => ?_)
  | with_reducible refine CallU_of (f := 56) (idx_fn es hl hok) (by first | exact Or.inr (Or.inl rfl) | exact Or.inl rfl) ?_
  | with_reducible refine CallC_of (f := 56) (fun _ => idx_fn es hl hok) (by first | exact Or.inr (Or.inl rfl) | exact Or.inl rfl) ?_
  | (with_reducible assumption)
  | with_reducible refine fun (hG : okL _) => ?_
  | (with_reducible refine fun (hT : (_ : Bool) = _) => ?_)
  | (with_reducible first | exact hG.2 | exact hG.2.2 | exact hG.2.2.2 | exact hG.2.2.2.2)
  | with_reducible refine okL_mk ?_ ?_
  | with_reducible refine And.intro ?_ ?_
  | simp only [f38r0, f38r1, g1, f38k, List.length_map, runG_nil, runG_u, runG_g, runG_ucS, runG_gcS, runG_uvS, stp, avL, avS, evs, evX, lget, lput, strip, putO, PO.dst, updO, okR, cells, splice, AV.cell, toD, toDs, binV, sameK, pickV, guardOf, okL_nil, sides, argsOf, rawOf, dv, dvL, owns, ownsL, flat, flatL, lkeep, seqQ, blockQ, initS, List.drop_succ_cons, List.drop_zero, List.take_succ_cons, List.take_zero, List.getD_cons_zero, List.getD_cons_succ, List.length_cons, List.length_nil, List.set_cons_zero, List.set_cons_succ, List.map_cons, List.map_nil, List.all_cons, List.all_nil, List.elem_cons, List.elem_nil, Option.getD_some, Option.getD_none, Option.bind_some, Option.isNone_none, reduceIte, reduceCtorEq, Nat.reduceEqDiff, Nat.reduceAdd, Nat.reduceLeDiff, Nat.zero_add, Nat.add_zero, Nat.reduceBEq, Bool.and_self, Bool.and_true, Bool.true_and, Bool.or_self, Bool.or_false, Bool.false_or, Bool.or_true, Bool.true_or, true_and, and_true, and_self, implies_true, forall_const, Bool.false_eq_true, id_eq, retQ, resOf, resV, Option.some.injEq, exists_eq_left', AV.d.injEq, D.v.injEq, Value.bool.injEq, imp_self, bldF, bldS, toVals, eqLs, Option.map_some, imp_false, not_true_eq_false, not_false_eq_true, foot, wrs, nm, nmL, PG.reads, PG.dst, PO.reads, X.sl, sls, slB, List.append_nil, List.cons_append, List.nil_append, Option.toList_some, Option.toList_none, loopQ_exit, loopQ_ret, subS, subO, Bool.bne_false, Bool.bne_true, elemsOf, bslD, bslS, mentries, isAgV, asA, lputs, mgetD_set, mcmp_set, mput_set, List.headD_cons, sealS, sealO, sealV, sealL, mput_nil, mcmp_nil, midQ_ret, midQ_exit, sealsS, sealsO, runW_nil, runW_cons, Bool.true_bne, Bool.false_bne, bne_self_eq_false, Int.reduceToNat, bndV, oSl, resR, runS_nil, runS_gc, ren, renL, renO, sg, gBack, scopeQ_normal, scopeQ_ret, scopeQ_exit, lenB, argsN, dvN]
  all_goals trace_state
theorem alone_in (n : Net) (hn : n.ok) (k : Int) (hk : 0 ≤ k ∧ k < n.edges.length) : FnS Tryd.prog 16 [n.av, .d (.v (.int .i64 k))] (.d (.v (.bool (aloneV n k)))) := by
  have g1 := at_int esD n.edges [] hk.1 hk.2
  have hm := List.mem_of_getElem? (getD_mem n.edges [] hk.1 hk.2)
  refine fn_of teok Tryd.func16 (by kernel_rfl) f16c f16k [.tmp 4] rfl (by show 2 ≤ 25; omega) ?_
  first | (have _q := @g1; clear _q) | have g1 : Nat.pred 77 = 76 := rfl
  repeat' first
  | with_reducible refine awp_seq ?_
  | with_reducible refine awp_block ?_
  | with_reducible refine awp_scope ?_
  | with_reducible refine awp_reg ?_
  | with_reducible refine awp_regD ?_
  | with_reducible refine awp_ret ?_
  | with_reducible refine awp_skip ?_
  | with_reducible refine awp_exit ?_
  | with_reducible refine normQ_of ?_
  | with_reducible refine wkE_of ?_
  | with_reducible refine midQ_of (Wk_sub rfl rfl ?_ ?_)
  | with_reducible refine runD_nil ?_
  | with_reducible refine runD_cons ?_
  | with_reducible refine runF_cons ?_
  | with_reducible refine runF_nil ?_
  | with_reducible refine KF_of ?_
  | with_reducible refine chkQ_of rfl ?_
  | with_reducible refine awp_cond (by simp only [evX, lget, Option.getD_some, reduceIte, Nat.reduceEqDiff]; rfl) (fun hc => ?_) (fun hc => ?_)
  | with_reducible refine CallU_of (f := 37) (fixed_fn n k) (by first | exact Or.inr (Or.inl rfl) | exact Or.inl rfl) ?_
  | with_reducible refine CallC_of (f := 37) (fun _ => fixed_fn n k) (by first | exact Or.inr (Or.inl rfl) | exact Or.inl rfl) ?_
  | with_reducible refine CallU_of (f := 38) (cf_fn (n.edges.getD k.toNat []) (hn.row _ hm) (hn.edge _ hm)) (by first | exact Or.inr (Or.inl rfl) | exact Or.inl rfl) ?_
  | with_reducible refine CallC_of (f := 38) (fun _ => cf_fn (n.edges.getD k.toNat []) (hn.row _ hm) (hn.edge _ hm)) (by first | exact Or.inr (Or.inl rfl) | exact Or.inl rfl) ?_
  | (with_reducible assumption)
  | with_reducible refine fun (hG : okL _) => ?_
  | (with_reducible refine fun (hT : (_ : Bool) = _) => ?_)
  | (with_reducible first | exact hG.2 | exact hG.2.2 | exact hG.2.2.2 | exact hG.2.2.2.2)
  | with_reducible refine okL_mk ?_ ?_
  | with_reducible refine And.intro ?_ ?_
  | simp only [f16r0, f16r1, f16r2, f16r3, g1, f16k, List.length_map, List.getD_cons_zero, runG_nil, runG_u, runG_g, runG_ucS, runG_gcS, runG_uvS, stp, avL, avS, evs, evX, lget, lput, strip, putO, PO.dst, updO, okR, cells, splice, AV.cell, toD, toDs, binV, sameK, pickV, guardOf, okL_nil, sides, argsOf, rawOf, dv, dvL, owns, ownsL, flat, flatL, lkeep, seqQ, blockQ, initS, List.drop_succ_cons, List.drop_zero, List.take_succ_cons, List.take_zero, List.getD_cons_zero, List.getD_cons_succ, List.length_cons, List.length_nil, List.set_cons_zero, List.set_cons_succ, List.map_cons, List.map_nil, List.all_cons, List.all_nil, List.elem_cons, List.elem_nil, Option.getD_some, Option.getD_none, Option.bind_some, Option.isNone_none, reduceIte, reduceCtorEq, Nat.reduceEqDiff, Nat.reduceAdd, Nat.reduceLeDiff, Nat.zero_add, Nat.add_zero, Nat.reduceBEq, Bool.and_self, Bool.and_true, Bool.true_and, Bool.or_self, Bool.or_false, Bool.false_or, Bool.or_true, Bool.true_or, true_and, and_true, and_self, implies_true, forall_const, Bool.false_eq_true, id_eq, retQ, resOf, resV, Option.some.injEq, exists_eq_left', AV.d.injEq, D.v.injEq, Value.bool.injEq, imp_self, bldF, bldS, toVals, eqLs, Option.map_some, imp_false, not_true_eq_false, not_false_eq_true, foot, wrs, nm, nmL, PG.reads, PG.dst, PO.reads, X.sl, sls, slB, List.append_nil, List.cons_append, List.nil_append, Option.toList_some, Option.toList_none, loopQ_exit, loopQ_ret, subS, subO, Bool.bne_false, Bool.bne_true, elemsOf, bslD, bslS, mentries, isAgV, asA, lputs, mgetD_set, mcmp_set, mput_set, List.headD_cons, sealS, sealO, sealV, sealL, mput_nil, mcmp_nil, midQ_ret, midQ_exit, sealsS, sealsO, runW_nil, runW_cons, Bool.true_bne, Bool.false_bne, bne_self_eq_false, Int.reduceToNat, bndV, oSl, resR, runS_nil, runS_gc, ren, renL, renO, sg, gBack, scopeQ_normal, scopeQ_ret, scopeQ_exit, lenB, argsN, dvN]
  all_goals try first
    | (simp [okL] at hG; omega)
    | (simp; done)
    | (unfold aloneV; rw [hc]; rfl)
    | (unfold aloneV; rw [hc]; simp [hk.1, hk.2]; done)
  all_goals trace_state
theorem alone_out (n : Net) (k : Int) (hk : ¬ (0 ≤ k ∧ k < n.edges.length)) : FnS Tryd.prog 16 [n.av, .d (.v (.int .i64 k))] (.d (.v (.bool (aloneV n k)))) := by
  refine fn_of teok Tryd.func16 (by kernel_rfl) f16c f16k [.tmp 4] rfl (by show 2 ≤ 25; omega) ?_
  repeat' first
  | with_reducible refine awp_seq ?_
  | with_reducible refine awp_block ?_
  | with_reducible refine awp_scope ?_
  | with_reducible refine awp_reg ?_
  | with_reducible refine awp_regD ?_
  | with_reducible refine awp_ret ?_
  | with_reducible refine awp_skip ?_
  | with_reducible refine awp_exit ?_
  | with_reducible refine normQ_of ?_
  | with_reducible refine wkE_of ?_
  | with_reducible refine midQ_of (Wk_sub rfl rfl ?_ ?_)
  | with_reducible refine runD_nil ?_
  | with_reducible refine runD_cons ?_
  | with_reducible refine runF_cons ?_
  | with_reducible refine runF_nil ?_
  | with_reducible refine KF_of ?_
  | with_reducible refine chkQ_of rfl ?_
  | with_reducible refine awp_cond (by simp only [evX, lget, Option.getD_some, reduceIte, Nat.reduceEqDiff]; rfl) (fun hc => ?_) (fun hc => ?_)
  | with_reducible refine CallU_of (f := 37) (fixed_fn n k) (by first | exact Or.inr (Or.inl rfl) | exact Or.inl rfl) ?_
  | with_reducible refine CallC_of (f := 37) (fun _ => fixed_fn n k) (by first | exact Or.inr (Or.inl rfl) | exact Or.inl rfl) ?_
  | (with_reducible assumption)
  | with_reducible refine fun (hG : okL _) => ?_
  | (with_reducible refine fun (hT : (_ : Bool) = _) => ?_)
  | (with_reducible first | exact hG.2 | exact hG.2.2 | exact hG.2.2.2 | exact hG.2.2.2.2)
  | with_reducible refine okL_mk ?_ ?_
  | with_reducible refine And.intro ?_ ?_
  | (with_reducible refine CallC_of (f := 38) (rv := .d (.v (.bool false))) (fun hG => ?_) (Or.inl rfl) ?_)
  | simp only [f16r0, f16r1, f16r2, f16r3, f16k, List.length_map, runG_nil, runG_u, runG_g, runG_ucS, runG_gcS, runG_uvS, stp, avL, avS, evs, evX, lget, lput, strip, putO, PO.dst, updO, okR, cells, splice, AV.cell, toD, toDs, binV, sameK, pickV, guardOf, okL_nil, sides, argsOf, rawOf, dv, dvL, owns, ownsL, flat, flatL, lkeep, seqQ, blockQ, initS, List.drop_succ_cons, List.drop_zero, List.take_succ_cons, List.take_zero, List.getD_cons_zero, List.getD_cons_succ, List.length_cons, List.length_nil, List.set_cons_zero, List.set_cons_succ, List.map_cons, List.map_nil, List.all_cons, List.all_nil, List.elem_cons, List.elem_nil, Option.getD_some, Option.getD_none, Option.bind_some, Option.isNone_none, reduceIte, reduceCtorEq, Nat.reduceEqDiff, Nat.reduceAdd, Nat.reduceLeDiff, Nat.zero_add, Nat.add_zero, Nat.reduceBEq, Bool.and_self, Bool.and_true, Bool.true_and, Bool.or_self, Bool.or_false, Bool.false_or, Bool.or_true, Bool.true_or, true_and, and_true, and_self, implies_true, forall_const, Bool.false_eq_true, id_eq, retQ, resOf, resV, Option.some.injEq, exists_eq_left', AV.d.injEq, D.v.injEq, Value.bool.injEq, imp_self, bldF, bldS, toVals, eqLs, Option.map_some, imp_false, not_true_eq_false, not_false_eq_true, foot, wrs, nm, nmL, PG.reads, PG.dst, PO.reads, X.sl, sls, slB, List.append_nil, List.cons_append, List.nil_append, Option.toList_some, Option.toList_none, loopQ_exit, loopQ_ret, subS, subO, Bool.bne_false, Bool.bne_true, elemsOf, bslD, bslS, mentries, isAgV, asA, lputs, mgetD_set, mcmp_set, mput_set, List.headD_cons, sealS, sealO, sealV, sealL, mput_nil, mcmp_nil, midQ_ret, midQ_exit, sealsS, sealsO, runW_nil, runW_cons, Bool.true_bne, Bool.false_bne, bne_self_eq_false, Int.reduceToNat, bndV, oSl, resR, runS_nil, runS_gc, ren, renL, renO, sg, gBack, scopeQ_normal, scopeQ_ret, scopeQ_exit, lenB, argsN, dvN]
  all_goals try first
    | (exfalso; simp [okL] at hG; omega)
    | (unfold aloneV; rw [hc]; rfl)
    | (have h2 : (decide (0 ≤ k) && decide (k < n.edges.length)) = false := by simpa using hk
       unfold aloneV; rw [hc]; simp; intro h0 h1; exact absurd ⟨h0, h1⟩ hk)
  all_goals trace_state
theorem alone_fn (n : Net) (hn : n.ok) (k : Int) : FnS Tryd.prog 16 [n.av, .d (.v (.int .i64 k))] (.d (.v (.bool (aloneV n k)))) := by
  by_cases hk : 0 ≤ k ∧ k < n.edges.length
  · exact alone_in n hn k hk
  · exact alone_out n k hk
end Go.Proofs.YtgkkaimcchlnaaaDoor

