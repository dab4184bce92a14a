/- What solve.Likes and edge.Row come to. Printed by a program of this project (wip/mq). -/
import Derived.Test.YtajkgmmmkhekmaaTake
import Derived.Test.YtajkgmmmkhekmaaMqPl4
namespace Go.Proofs.Ytajkgmmmkhekmaa
open Go Mq Go.ChangeShapes Go.WideShapes Go.ChangeAt Go.RowKit
/-! maquette/edge.Row -/
def f43r0 : List PG := [.u (.bx 2 (.t 0)), .u (.al 4 [.d (.v (.bool false)), .d (.v (.int .i64 0)), .d (.v (.int .i64 0)), .d (.v (.int .u8 0))]), .u (.mv 5 (.k (.bool false)))]
def f43r1 : List PG := [.u (.ld 7 4 true (.t 2)), .u (.mv 8 (.t 1)), .u (.bo 9 .and (.t 8) (.k (.int .u8 15))), .u (.bld 10 [.d (.v (.bool false)), .d (.v (.int .i64 0)), .d (.v (.int .i64 0)), .d (.v (.int .u8 0))] [((0, 1), .k (.bool true)), ((1, 1), .k (.int .i64 100)), ((3, 1), .t 9)]), .uc 11 26 [.t 7, .t 10], .u (.al 6 [.d (.v (.bool false)), .d (.v (.int .i64 0)), .d (.v (.int .i64 0)), .d (.v (.int .u8 0))]), .u (.st 4 (.t 6) (.t 11))]
def f43r2 : List PG := [.u (.ld 12 4 true (.t 6)), .u (.fa 13 0 (.t 6)), .u (.ld 14 1 false (.t 13)), .u (.st 4 (.t 4) (.t 12)), .u (.mv 5 (.t 14))]
abbrev f43p0 : PC := .seq (.regD f43r2 [(1, 3), (2, 3)]) (.ret)
abbrev f43p1 : PC := .seq (.reg f43r1) (f43p0)
abbrev f43pc : PC := .seq (.reg f43r0) (f43p1)
def f43k : List Nat := [0, 1, 2, 4, 5, 6]
theorem f43c : Try.f43.body.bind (cC te Try.f43.ntmps) = some f43pc := by kernel_rfl
/-! maquette/edge.Likes -/
def f28r0 : List PG := [.u (.bx 1 (.t 0)), .u (.mv 2 (.k (.bool false)))]
def f28r1 : List PG := [.u (.mv 6 (.k (.int .u8 0)))]
def f28r2 : List PG := [.u (.bo 7 .lss (.t 6) (.k (.int .u8 16)))]
def f28r3 : List PG := [.u (.mv 8 (.t 6)), .u (.mv 3 (.t 8))]
def f28r4 : List PG := [.u (.ld 10 4 true (.t 1)), .u (.mv 11 (.t 3)), .uc 12 43 [.t 10, .t 11], .u (.mv 9 (.t 12)), .u (.ext 13 (.t 9) 0), .u (.ext 14 (.t 9) 1), .u (.al 4 [.d (.v (.bool false)), .d (.v (.int .i64 0)), .d (.v (.int .i64 0)), .d (.v (.int .u8 0))]), .u (.st 4 (.t 4) (.t 13)), .u (.mv 5 (.t 14))]
def f28r5 : List PG := [.u (.mv 15 (.t 5)), .u (.mv 16 (.t 15)), .g 16 true (.fa 17 1 (.t 4)), .g 16 true (.ld 18 1 false (.t 17)), .g 16 true (.beq 19 true false (.t 18) (.k (.int .i64 100))), .u (.pick 20 (.t 16) (.t 19) (.k (.bool false)))]
def f28r6 : List PG := [.u (.mv 2 (.k (.bool true)))]
abbrev f28p0 : PC := .seq (.reg f28r6) (.ret)
abbrev f28p1 : PC := .cond (.t 20) (f28p0) (.skip)
abbrev f28p2 : PC := .seq (.reg f28r5) (f28p1)
abbrev f28p3 : PC := .seq (.reg f28r4) (f28p2)
def f28r7 : List PG := [.u (.bo 21 .add (.t 6) (.k (.int .u8 1))), .u (.mv 6 (.t 21))]
abbrev f28p4 : PC := .seq (.block 1 (.seq (.reg f28r3) (f28p3))) (.reg f28r7)
abbrev f28p5 : PC := .seq (.cond (.t 7) (.skip) (.exit 0)) (f28p4)
abbrev f28p6 : PC := .seq (.reg f28r2) (f28p5)
abbrev f28p7 : PC := .block 0 (.loop (f28p6))
def f28r8 : List PG := [.u (.mv 2 (.k (.bool false)))]
abbrev f28p8 : PC := .seq (.reg f28r8) (.ret)
abbrev f28p9 : PC := .seq (.seq (.reg f28r1) (f28p7)) (f28p8)
abbrev f28pc : PC := .seq (.reg f28r0) (f28p9)
def f28k : List Nat := [0, 1, 2, 3, 4, 5, 6, 7, 20]
theorem f28c : Try.f28.body.bind (cC te Try.f28.ntmps) = some f28pc := by kernel_rfl
/-! maquette/solve.Likes -/
def f30r0 : List PG := [.u (.bx 1 (.t 0)), .u (.mv 2 (.k (.bool false)))]
def f30r1 : List PG := [.u (.fa 7 2 (.t 1)), .u (.ld 8 1 false (.t 7)), .u (.len 9 (.t 8)), .u (.mv 10 (.k (.int .i64 0)))]
def f30r2 : List PG := [.u (.bo 11 .lss (.t 10) (.t 9))]
def f30r3 : List PG := [.u (.ia 12 1 (.t 8) (.t 10)), .u (.ld 13 1 false (.t 12)), .u (.mv 4 (.t 13))]
def f30r4 : List PG := [.u (.mv 14 (.t 4)), .u (.len 15 (.t 14)), .u (.mv 16 (.k (.int .i64 0)))]
def f30r5 : List PG := [.u (.bo 17 .lss (.t 16) (.t 15))]
def f30r6 : List PG := [.u (.ia 18 4 (.t 14) (.t 16)), .u (.ld 19 4 true (.t 18)), .u (.al 6 [.d (.v (.int .i64 0)), .d (.v (.int .i64 0)), .nl 10, .nl 10]), .u (.st 4 (.t 6) (.t 19))]
def f30r7 : List PG := [.u (.ld 20 4 true (.t 6)), .uc 21 28 [.t 20]]
def f30r8 : List PG := [.u (.mv 2 (.k (.bool true)))]
abbrev f30p0 : PC := .seq (.reg f30r8) (.ret)
abbrev f30p1 : PC := .cond (.t 21) (f30p0) (.skip)
abbrev f30p2 : PC := .seq (.reg f30r7) (f30p1)
def f30r9 : List PG := [.u (.bo 22 .add (.t 16) (.k (.int .i64 1))), .u (.mv 16 (.t 22))]
abbrev f30p3 : PC := .seq (.block 3 (.seq (.reg f30r6) (f30p2))) (.reg f30r9)
abbrev f30p4 : PC := .seq (.cond (.t 17) (.skip) (.exit 2)) (f30p3)
abbrev f30p5 : PC := .seq (.reg f30r5) (f30p4)
abbrev f30p6 : PC := .block 2 (.loop (f30p5))
abbrev f30p7 : PC := .seq (.reg f30r4) (f30p6)
def f30r10 : List PG := [.u (.bo 23 .add (.t 10) (.k (.int .i64 1))), .u (.mv 10 (.t 23))]
abbrev f30p8 : PC := .seq (.block 1 (.seq (.reg f30r3) (f30p7))) (.reg f30r10)
abbrev f30p9 : PC := .seq (.cond (.t 11) (.skip) (.exit 0)) (f30p8)
abbrev f30p10 : PC := .seq (.reg f30r2) (f30p9)
abbrev f30p11 : PC := .block 0 (.loop (f30p10))
def f30r11 : List PG := [.u (.mv 2 (.k (.bool false)))]
abbrev f30p12 : PC := .seq (.reg f30r11) (.ret)
abbrev f30p13 : PC := .seq (.seq (.reg f30r1) (f30p11)) (f30p12)
abbrev f30pc : PC := .seq (.reg f30r0) (f30p13)
def f30k : List Nat := [0, 1, 2, 4, 6, 8, 9, 10, 11, 14, 15, 16, 17, 21]
theorem f30c : Try.f30.body.bind (cC te Try.f30.ntmps) = some f30pc := by kernel_rfl
set_option maxRecDepth 20000
set_option maxHeartbeats 4000000
set_option linter.unusedSimpArgs false
set_option linter.unusedVariables false

theorem take_fn4 (e : Arc) (he : e.ok) (o : Bool) (p c t : Int) : FnS Try.prog 26 [.ag e.box, .ag [.d (.v (.bool o)), .d (.v (.int .i64 p)), .d (.v (.int .i64 c)), .d (.v (.int .u8 t))]] (takeV e ⟨o, p, c, t⟩).av := take_fn e he ⟨o, p, c, t⟩
theorem row_fn (e : Arc) (he : e.ok) (t : Int) : FnS Try.prog 43 [.ag e.box, .d (.v (.int .u8 t))] (.tp [(rowV e t).av, .d (.v (.bool (rowV e t).ok))]) := by
  refine fn_of teok Try.func43 (by kernel_rfl) f43c f43k [.cell 4 45, .tmp 5] rfl (by show 2 ≤ 15; omega) ?_
  repeat' first
  | with_reducible refine awp_seq ?_
  | with_reducible refine awp_block ?_
  | with_reducible refine awp_reg ?_
  | with_reducible refine awp_regD ?_
  | with_reducible refine awp_ret ?_
  | with_reducible refine awp_skip ?_
  | with_reducible refine awp_exit ?_
  | with_reducible refine normQ_of ?_
  | with_reducible refine wkE_of ?_
  | with_reducible refine midQ_of (Wk_sub rfl rfl ?_ ?_)
  | with_reducible refine runD_nil ?_
  | with_reducible refine runD_cons ?_
  | with_reducible refine runF_cons ?_
  | with_reducible refine runF_nil ?_
  | with_reducible refine KF_of ?_
  | with_reducible refine chkQ_of rfl ?_
  | with_reducible refine awp_cond (by simp only [evX, lget, Option.getD_some, reduceIte, Nat.reduceEqDiff]; rfl) (fun hc => ?_) (fun hc => ?_)
  | with_reducible refine CallU_of (f := 26) (take_fn4 e he _ _ _ _) (by first | exact Or.inr (Or.inl rfl) | exact Or.inl rfl) ?_
  | with_reducible refine CallC_of (f := 26) (fun _ => take_fn4 e he _ _ _ _) (by first | exact Or.inr (Or.inl rfl) | exact Or.inl rfl) ?_
  | (with_reducible assumption)
  | with_reducible refine fun (hG : okL _) => ?_
  | (with_reducible refine fun (hT : (_ : Bool) = _) => ?_)
  | (with_reducible first | exact hG.2 | exact hG.2.2 | exact hG.2.2.2 | exact hG.2.2.2.2)
  | with_reducible refine okL_mk ?_ ?_
  | with_reducible refine And.intro ?_ ?_
  | simp only [f43r0, f43r1, f43r2, f43k, te45, runG_nil, runG_u, runG_g, runG_ucS, runG_gcS, runG_uvS, stp, avL, avS, evs, evX, lget, lput, strip, putO, PO.dst, updO, okR, cells, splice, AV.cell, toD, toDs, binV, sameK, pickV, guardOf, okL_nil, sides, argsOf, rawOf, dv, dvL, owns, ownsL, flat, flatL, lkeep, seqQ, blockQ, initS, List.drop_succ_cons, List.drop_zero, List.take_succ_cons, List.take_zero, List.getD_cons_zero, List.getD_cons_succ, List.length_cons, List.length_nil, List.set_cons_zero, List.set_cons_succ, List.map_cons, List.map_nil, List.all_cons, List.all_nil, List.elem_cons, List.elem_nil, Option.getD_some, Option.getD_none, Option.bind_some, Option.isNone_none, reduceIte, reduceCtorEq, Nat.reduceEqDiff, Nat.reduceAdd, Nat.reduceLeDiff, Nat.zero_add, Nat.add_zero, Nat.reduceBEq, Bool.and_self, Bool.and_true, Bool.true_and, Bool.or_self, Bool.or_false, Bool.false_or, Bool.or_true, Bool.true_or, true_and, and_true, and_self, implies_true, forall_const, Bool.false_eq_true, id_eq, retQ, resOf, resV, Option.some.injEq, exists_eq_left', AV.d.injEq, D.v.injEq, Value.bool.injEq, imp_self, bldF, bldS, toVals, eqLs, Option.map_some, imp_false, not_true_eq_false, not_false_eq_true, foot, wrs, nm, nmL, PG.reads, PG.dst, PO.reads, X.sl, sls, slB, List.append_nil, List.cons_append, List.nil_append, Option.toList_some, Option.toList_none, loopQ_exit, loopQ_ret, subS, subO, Bool.bne_false, Bool.bne_true, elemsOf, bslD, bslS, mentries, isAgV, asA, lputs, mgetD_set, mcmp_set, mput_set, List.headD_cons, sealS, sealO, sealV, sealL, mput_nil, mcmp_nil, midQ_ret, midQ_exit, sealsS, sealsO, runW_nil, runW_cons, Bool.true_bne, Bool.false_bne, bne_self_eq_false, Int.reduceToNat, bndV, oSl, resR, runS_nil, runS_gc, ren, renL, renO, sg, gBack]
  all_goals first | decide | rfl
theorem likesE_fn (e : Arc) (he : e.ok) : FnS Try.prog 28 [.ag e.box] (.d (.v (.bool (likesE e)))) := by
  refine fn_of teok Try.func28 (by kernel_rfl) f28c f28k [.tmp 2] rfl (by show 1 ≤ 22; omega) ?_
  repeat' first
  | with_reducible refine awp_seq ?_
  | with_reducible refine awp_block ?_
  | with_reducible refine awp_reg ?_
  | with_reducible refine awp_regD ?_
  | with_reducible refine awp_ret ?_
  | with_reducible refine awp_skip ?_
  | with_reducible refine awp_exit ?_
  | with_reducible refine normQ_of ?_
  | with_reducible refine wkE_of ?_
  | with_reducible refine midQ_of (Wk_sub rfl rfl ?_ ?_)
  | with_reducible refine runD_nil ?_
  | with_reducible refine runD_cons ?_
  | with_reducible refine runF_cons ?_
  | with_reducible refine runF_nil ?_
  | with_reducible refine KF_of ?_
  | with_reducible refine chkQ_of rfl ?_
  | with_reducible refine awp_cond (by simp only [evX, lget, Option.getD_some, reduceIte, Nat.reduceEqDiff]; rfl) (fun hc => ?_) (fun hc => ?_)
  | with_reducible refine CallU_of (f := 43) (row_fn e he _) (by first | exact Or.inr (Or.inl rfl) | exact Or.inl rfl) ?_
  | with_reducible refine CallC_of (f := 43) (fun _ => row_fn e he _) (by first | exact Or.inr (Or.inl rfl) | exact Or.inl rfl) ?_
  | (with_reducible assumption)
  | with_reducible refine fun (hG : okL _) => ?_
  | (with_reducible refine fun (hT : (_ : Bool) = _) => ?_)
  | (with_reducible first | exact hG.2 | exact hG.2.2 | exact hG.2.2.2 | exact hG.2.2.2.2)
  | with_reducible refine okL_mk ?_ ?_
  | with_reducible refine And.intro ?_ ?_
  | (with_reducible refine awp_loopU (b := f28p6) (fun i : Nat => i ≤ 16 ∧ likesGo e (16 - i) i = likesE e) (fun i => 16 - i) (fun i => [(6, .d (.v (.int .u8 i)))]) (fun i => []) (0) (⟨Nat.zero_le _, rfl⟩) (Wk.refl _ _) (Wk_sub rfl rfl ?_ ?_) (fun i hi => ?_))
  | (with_reducible refine loopQ_next (i + 1) ?_ ?_ (Wk_sub rfl rfl ?_ ?_))
  | simp only [f28r0, f28r1, f28r2, f28r3, f28r4, f28r5, f28r6, f28r7, f28r8, f28k, List.getElem?_cons_zero, List.getElem?_cons_succ, runG_nil, runG_u, runG_g, runG_ucS, runG_gcS, runG_uvS, stp, avL, avS, evs, evX, lget, lput, strip, putO, PO.dst, updO, okR, cells, splice, AV.cell, toD, toDs, binV, sameK, pickV, guardOf, okL_nil, sides, argsOf, rawOf, dv, dvL, owns, ownsL, flat, flatL, lkeep, seqQ, blockQ, initS, List.drop_succ_cons, List.drop_zero, List.take_succ_cons, List.take_zero, List.getD_cons_zero, List.getD_cons_succ, List.length_cons, List.length_nil, List.set_cons_zero, List.set_cons_succ, List.map_cons, List.map_nil, List.all_cons, List.all_nil, List.elem_cons, List.elem_nil, Option.getD_some, Option.getD_none, Option.bind_some, Option.isNone_none, reduceIte, reduceCtorEq, Nat.reduceEqDiff, Nat.reduceAdd, Nat.reduceLeDiff, Nat.zero_add, Nat.add_zero, Nat.reduceBEq, Bool.and_self, Bool.and_true, Bool.true_and, Bool.or_self, Bool.or_false, Bool.false_or, Bool.or_true, Bool.true_or, true_and, and_true, and_self, implies_true, forall_const, Bool.false_eq_true, id_eq, retQ, resOf, resV, Option.some.injEq, exists_eq_left', AV.d.injEq, D.v.injEq, Value.bool.injEq, imp_self, bldF, bldS, toVals, eqLs, Option.map_some, imp_false, not_true_eq_false, not_false_eq_true, foot, wrs, nm, nmL, PG.reads, PG.dst, PO.reads, X.sl, sls, slB, List.append_nil, List.cons_append, List.nil_append, Option.toList_some, Option.toList_none, loopQ_exit, loopQ_ret, subS, subO, Bool.bne_false, Bool.bne_true, elemsOf, bslD, bslS, mentries, isAgV, asA, lputs, mgetD_set, mcmp_set, mput_set, List.headD_cons, sealS, sealO, sealV, sealL, mput_nil, mcmp_nil, midQ_ret, midQ_exit, sealsS, sealsO, runW_nil, runW_cons, Bool.true_bne, Bool.false_bne, bne_self_eq_false, Int.reduceToNat, bndV, oSl, resR, runS_nil, runS_gc, ren, renL, renO, sg, gBack]
  all_goals try first
    | omega
    | (have h0 := of_decide_eq_true ‹decide ((i : Int) < 16) = true›; omega)
    | (have h0 := of_decide_eq_true ‹decide ((i : Int) < 16) = true›; exact count8 (by omega))
    | (show Value.int _ 0 = _; rfl)
    | (have h0 := of_decide_eq_true ‹decide ((i : Int) < 16) = true›; have h1 := hi.2; rw [show 16 - i = (16 - (i + 1)) + 1 by omega, likesGo] at h1
       cases ho : (rowV e i).ok <;> simp [ho] at hc h1
       all_goals first | exact h1 | (rw [if_pos hc] at h1; exact h1) | (rw [if_neg hc] at h1; exact h1) | (rw [← h1]; simp [hc]) | (simp [hc] at h1; exact h1) | (simp [hc] at h1; rw [← h1]))
    | (have h0 := of_decide_eq_false hc; have h1 := hi.2; rw [show 16 - i = 0 by omega, likesGo] at h1; rw [h1])
  all_goals trace_state
theorem likesN_fn (n : Net) (hn : n.ok) : FnS Try.prog 30 [n.av] (.d (.v (.bool (likesN n)))) := by
  refine fn_of teok Try.func30 (by kernel_rfl) f30c f30k [.tmp 2] rfl (by show 1 ≤ 24; omega) ?_
  repeat' first
  | with_reducible refine awp_seq ?_
  | with_reducible refine awp_block ?_
  | with_reducible refine awp_reg ?_
  | with_reducible refine awp_regD ?_
  | with_reducible refine awp_ret ?_
  | with_reducible refine awp_skip ?_
  | with_reducible refine awp_exit ?_
  | with_reducible refine normQ_of ?_
  | with_reducible refine wkE_of ?_
  | with_reducible refine midQ_of (Wk_sub rfl rfl ?_ ?_)
  | with_reducible refine runD_nil ?_
  | with_reducible refine runD_cons ?_
  | with_reducible refine runF_cons ?_
  | with_reducible refine runF_nil ?_
  | with_reducible refine KF_of ?_
  | with_reducible refine chkQ_of rfl ?_
  | with_reducible refine awp_cond (by simp only [evX, lget, Option.getD_some, reduceIte, Nat.reduceEqDiff]; rfl) (fun hc => ?_) (fun hc => ?_)
  | with_reducible refine CallU_of (f := 28) (likesE_fn e (hn.edge es hes e (List.mem_of_getElem? he2.2.2.1))) (by first | exact Or.inr (Or.inl rfl) | exact Or.inl rfl) ?_
  | with_reducible refine CallC_of (f := 28) (fun _ => likesE_fn e (hn.edge es hes e (List.mem_of_getElem? he2.2.2.1))) (by first | exact Or.inr (Or.inl rfl) | exact Or.inl rfl) ?_
  | (with_reducible assumption)
  | with_reducible refine fun (hG : okL _) => ?_
  | (with_reducible refine fun (hT : (_ : Bool) = _) => ?_)
  | (with_reducible first | exact hG.2 | exact hG.2.2 | exact hG.2.2.2 | exact hG.2.2.2.2)
  | with_reducible refine okL_mk ?_ ?_
  | with_reducible refine And.intro ?_ ?_
  | (with_reducible refine awp_loopU (b := f30p10) (fun i : Nat => i ≤ n.edges.length ∧ ((n.edges.drop i).any fun es => es.any likesE) = likesN n) (fun i => n.edges.length - i) (fun i => [(10, .d (.v (.int .i64 i)))]) (fun i => []) (0) (⟨Nat.zero_le _, rfl⟩) (Wk.refl _ _) (Wk_sub rfl rfl ?_ ?_) (fun i hi => ?_))
  | (refine Exists.elim (at_drop esD n.edges i (Int.ofNat_lt.1 (of_decide_eq_true hc))) (fun es he => ?_); have g1 := he.2.1; have hes : es ∈ n.edges := List.mem_of_getElem? he.2.2.1; replace hc : True := trivial)
  | (with_reducible refine awp_loopU (b := f30p5) (fun j : Nat => j ≤ es.length ∧ ((es.drop j).any likesE || ((n.edges.drop (i + 1)).any fun es => es.any likesE)) = likesN n) (fun j => es.length - j) (fun j => [(16, .d (.v (.int .i64 j)))]) (fun j => []) (0) (⟨Nat.zero_le _, by have h1 := hi.2; rw [he.1] at h1; simpa using h1⟩) (Wk.refl _ _) (Wk_sub rfl rfl ?_ ?_) (fun j hj => ?_))
  | (refine Exists.elim (at_drop Arc.row es j (Int.ofNat_lt.1 (of_decide_eq_true hc))) (fun e he2 => ?_); have g2 := he2.2.1; replace hc : True := trivial)
  | (have _q : likesE e = false := hc; with_reducible refine loopQ_next (j + 1) ?_ ?_ (Wk_sub rfl rfl ?_ ?_))
  | (with_reducible refine loopQ_next (i + 1) ?_ ?_ (Wk_sub rfl rfl ?_ ?_))
  | simp only [f30r0, f30r1, f30r2, f30r3, f30r4, f30r5, f30r6, f30r7, f30r8, f30r9, f30r10, f30r11, g2, g1, f30k, List.length_map, runG_nil, runG_u, runG_g, runG_ucS, runG_gcS, runG_uvS, stp, avL, avS, evs, evX, lget, lput, strip, putO, PO.dst, updO, okR, cells, splice, AV.cell, toD, toDs, binV, sameK, pickV, guardOf, okL_nil, sides, argsOf, rawOf, dv, dvL, owns, ownsL, flat, flatL, lkeep, seqQ, blockQ, initS, List.drop_succ_cons, List.drop_zero, List.take_succ_cons, List.take_zero, List.getD_cons_zero, List.getD_cons_succ, List.length_cons, List.length_nil, List.set_cons_zero, List.set_cons_succ, List.map_cons, List.map_nil, List.all_cons, List.all_nil, List.elem_cons, List.elem_nil, Option.getD_some, Option.getD_none, Option.bind_some, Option.isNone_none, reduceIte, reduceCtorEq, Nat.reduceEqDiff, Nat.reduceAdd, Nat.reduceLeDiff, Nat.zero_add, Nat.add_zero, Nat.reduceBEq, Bool.and_self, Bool.and_true, Bool.true_and, Bool.or_self, Bool.or_false, Bool.false_or, Bool.or_true, Bool.true_or, true_and, and_true, and_self, implies_true, forall_const, Bool.false_eq_true, id_eq, retQ, resOf, resV, Option.some.injEq, exists_eq_left', AV.d.injEq, D.v.injEq, Value.bool.injEq, imp_self, bldF, bldS, toVals, eqLs, Option.map_some, imp_false, not_true_eq_false, not_false_eq_true, foot, wrs, nm, nmL, PG.reads, PG.dst, PO.reads, X.sl, sls, slB, List.append_nil, List.cons_append, List.nil_append, Option.toList_some, Option.toList_none, loopQ_exit, loopQ_ret, subS, subO, Bool.bne_false, Bool.bne_true, elemsOf, bslD, bslS, mentries, isAgV, asA, lputs, mgetD_set, mcmp_set, mput_set, List.headD_cons, sealS, sealO, sealV, sealL, mput_nil, mcmp_nil, midQ_ret, midQ_exit, sealsS, sealsO, runW_nil, runW_cons, Bool.true_bne, Bool.false_bne, bne_self_eq_false, Int.reduceToNat, bndV, oSl, resR, runS_nil, runS_gc, ren, renL, renO, sg, gBack]
  | simp only [f30r0, f30r1, f30r2, f30r3, f30r4, f30r5, f30r6, f30r7, f30r8, f30r9, f30r10, f30r11, g1, f30k, List.length_map, runG_nil, runG_u, runG_g, runG_ucS, runG_gcS, runG_uvS, stp, avL, avS, evs, evX, lget, lput, strip, putO, PO.dst, updO, okR, cells, splice, AV.cell, toD, toDs, binV, sameK, pickV, guardOf, okL_nil, sides, argsOf, rawOf, dv, dvL, owns, ownsL, flat, flatL, lkeep, seqQ, blockQ, initS, List.drop_succ_cons, List.drop_zero, List.take_succ_cons, List.take_zero, List.getD_cons_zero, List.getD_cons_succ, List.length_cons, List.length_nil, List.set_cons_zero, List.set_cons_succ, List.map_cons, List.map_nil, List.all_cons, List.all_nil, List.elem_cons, List.elem_nil, Option.getD_some, Option.getD_none, Option.bind_some, Option.isNone_none, reduceIte, reduceCtorEq, Nat.reduceEqDiff, Nat.reduceAdd, Nat.reduceLeDiff, Nat.zero_add, Nat.add_zero, Nat.reduceBEq, Bool.and_self, Bool.and_true, Bool.true_and, Bool.or_self, Bool.or_false, Bool.false_or, Bool.or_true, Bool.true_or, true_and, and_true, and_self, implies_true, forall_const, Bool.false_eq_true, id_eq, retQ, resOf, resV, Option.some.injEq, exists_eq_left', AV.d.injEq, D.v.injEq, Value.bool.injEq, imp_self, bldF, bldS, toVals, eqLs, Option.map_some, imp_false, not_true_eq_false, not_false_eq_true, foot, wrs, nm, nmL, PG.reads, PG.dst, PO.reads, X.sl, sls, slB, List.append_nil, List.cons_append, List.nil_append, Option.toList_some, Option.toList_none, loopQ_exit, loopQ_ret, subS, subO, Bool.bne_false, Bool.bne_true, elemsOf, bslD, bslS, mentries, isAgV, asA, lputs, mgetD_set, mcmp_set, mput_set, List.headD_cons, sealS, sealO, sealV, sealL, mput_nil, mcmp_nil, midQ_ret, midQ_exit, sealsS, sealsO, runW_nil, runW_cons, Bool.true_bne, Bool.false_bne, bne_self_eq_false, Int.reduceToNat, bndV, oSl, resR, runS_nil, runS_gc, ren, renL, renO, sg, gBack]
  | simp only [f30r0, f30r1, f30r2, f30r3, f30r4, f30r5, f30r6, f30r7, f30r8, f30r9, f30r10, f30r11, f30k, List.length_map, runG_nil, runG_u, runG_g, runG_ucS, runG_gcS, runG_uvS, stp, avL, avS, evs, evX, lget, lput, strip, putO, PO.dst, updO, okR, cells, splice, AV.cell, toD, toDs, binV, sameK, pickV, guardOf, okL_nil, sides, argsOf, rawOf, dv, dvL, owns, ownsL, flat, flatL, lkeep, seqQ, blockQ, initS, List.drop_succ_cons, List.drop_zero, List.take_succ_cons, List.take_zero, List.getD_cons_zero, List.getD_cons_succ, List.length_cons, List.length_nil, List.set_cons_zero, List.set_cons_succ, List.map_cons, List.map_nil, List.all_cons, List.all_nil, List.elem_cons, List.elem_nil, Option.getD_some, Option.getD_none, Option.bind_some, Option.isNone_none, reduceIte, reduceCtorEq, Nat.reduceEqDiff, Nat.reduceAdd, Nat.reduceLeDiff, Nat.zero_add, Nat.add_zero, Nat.reduceBEq, Bool.and_self, Bool.and_true, Bool.true_and, Bool.or_self, Bool.or_false, Bool.false_or, Bool.or_true, Bool.true_or, true_and, and_true, and_self, implies_true, forall_const, Bool.false_eq_true, id_eq, retQ, resOf, resV, Option.some.injEq, exists_eq_left', AV.d.injEq, D.v.injEq, Value.bool.injEq, imp_self, bldF, bldS, toVals, eqLs, Option.map_some, imp_false, not_true_eq_false, not_false_eq_true, foot, wrs, nm, nmL, PG.reads, PG.dst, PO.reads, X.sl, sls, slB, List.append_nil, List.cons_append, List.nil_append, Option.toList_some, Option.toList_none, loopQ_exit, loopQ_ret, subS, subO, Bool.bne_false, Bool.bne_true, elemsOf, bslD, bslS, mentries, isAgV, asA, lputs, mgetD_set, mcmp_set, mput_set, List.headD_cons, sealS, sealO, sealV, sealL, mput_nil, mcmp_nil, midQ_ret, midQ_exit, sealsS, sealsO, runW_nil, runW_cons, Bool.true_bne, Bool.false_bne, bne_self_eq_false, Int.reduceToNat, bndV, oSl, resR, runS_nil, runS_gc, ren, renL, renO, sg, gBack]
  all_goals try first
    | omega
    | (with_reducible rfl)
    | (show Value.int _ 0 = _; rfl)
    | (simp only [List.length_append, List.length_cons, List.length_nil]; omega)
    | (simp only [List.length_append, List.length_cons, List.length_nil, List.map_append, List.map_cons, List.map_nil]; done)
    | exact count64 he2.2.2.2 (hn.row es hes)
    | exact count64 he.2.2.2 hn.edges
    | (have h1 := hj.2; rw [he2.1, List.any_cons, hc, Bool.true_or, Bool.true_or] at h1; rw [← h1]; done)
    | (have h1 := hj.2; rw [he2.1, List.any_cons, hc, Bool.false_or] at h1; exact h1)
    | (have h0 := of_decide_eq_false hc; have h1 := hj.2; rw [List.drop_eq_nil_of_le (by omega)] at h1; simpa using h1)
    | (have h0 := of_decide_eq_false hc; have h1 := hi.2; rw [List.drop_eq_nil_of_le (by omega)] at h1; simp at h1; rw [← h1]; done)
  all_goals trace_state
end Go.Proofs.Ytajkgmmmkhekmaa
