/- What layer 18's functions come to. Printed by a program of this project (wip/mq). -/
import Derived.Test.YtokfackbnnkbnaaQuot
set_option linter.unusedVariables false
set_option linter.unusedSimpArgs false

namespace Go.Proofs.Ytokfackbnnkbnaa
open Go Mq Go.ChangeShapes Go.WideShapes Go.ChangeAt Go.RowKit
/-! maquette/maquettelaw18.awake -/
def f20r0 : List PG := [.u (.mv 0 (.k (.bool false)))]
def f20r1 : List PG := [.u (.bsl 4 4 1 [.k (.bool true), .k (.bool false), .k (.bool false)]), .u (.bsl 5 3 1 [.k (.int .i64 (-1)), .k (.int .i64 (-1)), .k (.int .i64 (-1))]), .u (.bld 6 [.d (.v (.int .i64 0)), .d (.v (.int .i64 0)), .nl 10, .nl 10] [((0, 1), .k (.int .i64 1)), ((1, 1), .k (.int .i64 2))]), .u (.bld 7 [.d (.v (.int .i64 0)), .d (.v (.int .i64 0)), .nl 10, .nl 10] [((0, 1), .k (.int .i64 2)), ((1, 1), .k (.int .i64 2))]), .u (.bsl 8 33 4 [.t 6, .t 7]), .u (.bld 9 [.d (.v (.int .i64 0)), .d (.v (.int .i64 0)), .nl 10, .nl 10] [((0, 1), .k (.int .i64 0)), ((1, 1), .k (.int .i64 2))]), .u (.bsl 10 33 4 [.t 9]), .u (.bld 11 [.d (.v (.int .i64 0)), .d (.v (.int .i64 0)), .nl 10, .nl 10] [((0, 1), .k (.int .i64 0)), ((1, 1), .k (.int .i64 2))]), .u (.bsl 12 33 4 [.t 11]), .u (.bsl 13 34 1 [.t 8, .t 10, .t 12]), .u (.bld 14 [.nl 1, .nl 1, .nl 1] [((0, 1), .t 4), ((1, 1), .t 5), ((2, 1), .t 13)]), .u (.al 1 [.nl 1, .nl 1, .nl 1]), .u (.st 3 (.t 1) (.t 14))]
def f20r2 : List PG := [.u (.ld 16 3 true (.t 1)), .u (.bsl 17 3 1 [.k (.int .i64 0), .k (.int .i64 1), .k (.int .i64 1)]), .uc 18 21 [.t 16, .t 17], .u (.mv 15 (.t 18)), .u (.ext 19 (.t 15) 0), .u (.ext 20 (.t 15) 1), .u (.al 2 [.nl 1, .nl 1, .nl 1]), .u (.st 3 (.t 2) (.t 19)), .u (.mv 3 (.t 20))]
def f20r3 : List PG := [.u (.mv 21 (.t 3)), .u (.beqn 22 false (.t 21)), .u (.mv 23 (.t 22)), .g 23 true (.fa 24 0 (.t 2)), .g 23 true (.ld 25 1 false (.t 24)), .g 23 true (.len 26 (.t 25)), .g 23 true (.beq 27 false false (.t 26) (.k (.int .i64 2))), .u (.pick 28 (.t 23) (.t 27) (.k (.bool false))), .u (.mv 29 (.t 28)), .g 29 true (.fa 30 2 (.t 2)), .g 29 true (.ld 31 1 false (.t 30)), .g 29 true (.ia 32 1 (.t 31) (.k (.int .i64 0))), .g 29 true (.ld 33 1 false (.t 32)), .g 29 true (.len 34 (.t 33)), .g 29 true (.beq 35 false false (.t 34) (.k (.int .i64 1))), .u (.pick 36 (.t 29) (.t 35) (.k (.bool false))), .u (.mv 37 (.t 36)), .g 37 true (.fa 38 2 (.t 2)), .g 37 true (.ld 39 1 false (.t 38)), .g 37 true (.ia 40 1 (.t 39) (.k (.int .i64 1))), .g 37 true (.ld 41 1 false (.t 40)), .g 37 true (.len 42 (.t 41)), .g 37 true (.beq 43 false false (.t 42) (.k (.int .i64 1))), .u (.pick 44 (.t 37) (.t 43) (.k (.bool false))), .u (.mv 45 (.t 44)), .g 45 true (.fa 46 2 (.t 2)), .g 45 true (.ld 47 1 false (.t 46)), .g 45 true (.ia 48 1 (.t 47) (.k (.int .i64 0))), .g 45 true (.ld 49 1 false (.t 48)), .g 45 true (.ia 50 4 (.t 49) (.k (.int .i64 0))), .g 45 true (.fa 51 0 (.t 50)), .g 45 true (.ld 52 1 false (.t 51)), .g 45 true (.beq 53 false false (.t 52) (.k (.int .i64 1))), .u (.pick 54 (.t 45) (.t 53) (.k (.bool false))), .u (.mv 0 (.t 54))]
abbrev f20p0 : PC := .seq (.reg f20r3) (.ret)
abbrev f20p1 : PC := .seq (.reg f20r2) (f20p0)
abbrev f20p2 : PC := .seq (.reg f20r1) (f20p1)
abbrev f20pc : PC := .seq (.reg f20r0) (f20p2)
def f20k : List Nat := [0, 1, 2, 3]
theorem f20c : Try.f20.body.bind (cC te Try.f20.ntmps) = some f20pc := by kernel_rfl
/-! maquette/quotient.Up -/
def f25r0 : List PG := [.u (.mv 4 (.nl 4))]
def f25r1 : List PG := [.u (.mv 5 (.nl 4))]
def f25r2 : List PG := [.u (.mv 8 (.t 0)), .u (.len 9 (.t 8)), .u (.mv 10 (.t 1)), .u (.len 11 (.t 10)), .u (.beq 12 true false (.t 9) (.t 11))]
def f25r3 : List PG := [.u (.mv 4 (.nl 4))]
abbrev f25p0 : PC := .seq (.reg f25r3) (.ret)
abbrev f25p1 : PC := .cond (.t 12) (f25p0) (.skip)
def f25r4 : List PG := [.u (.mv 13 (.t 0)), .u (.len 14 (.t 13)), .u (.mv 15 (.k (.int .i64 0)))]
def f25r5 : List PG := [.u (.bo 16 .lss (.t 15) (.t 14))]
def f25r6 : List PG := [.u (.mv 17 (.t 15)), .u (.ia 18 1 (.t 13) (.t 15)), .u (.ld 19 1 false (.t 18)), .u (.mv 6 (.t 17)), .u (.mv 7 (.t 19))]
def f25r7 : List PG := [.u (.mv 20 (.t 7)), .u (.mv 21 (.t 5)), .u (.len 22 (.t 21)), .u (.beq 23 false false (.t 20) (.t 22))]
def f25r8 : List PG := [.u (.mv 24 (.t 5)), .u (.mv 25 (.t 1)), .u (.mv 26 (.t 6)), .u (.ia 27 4 (.t 25) (.t 26)), .u (.ld 28 4 true (.t 27)), .u (.bsl 29 85 4 [.t 28]), .u (.app 30 85 4 32 (.t 24) (.t 29)), .u (.mv 5 (.t 30))]
abbrev f25p2 : PC := .cond (.t 23) (.reg f25r8) (.skip)
abbrev f25p3 : PC := .seq (.reg f25r7) (f25p2)
def f25r9 : List PG := [.u (.bo 31 .add (.t 15) (.k (.int .i64 1))), .u (.mv 15 (.t 31))]
abbrev f25p4 : PC := .seq (.block 1 (.seq (.reg f25r6) (f25p3))) (.reg f25r9)
abbrev f25p5 : PC := .seq (.cond (.t 16) (.skip) (.exit 0)) (f25p4)
abbrev f25p6 : PC := .seq (.reg f25r5) (f25p5)
abbrev f25p7 : PC := .block 0 (.loop (f25p6))
def f25r10 : List PG := [.u (.mv 32 (.t 5)), .u (.mv 4 (.t 32))]
abbrev f25p8 : PC := .seq (.reg f25r10) (.ret)
abbrev f25p9 : PC := .seq (.seq (.reg f25r4) (f25p7)) (f25p8)
abbrev f25p10 : PC := .seq (.seq (.reg f25r2) (f25p1)) (f25p9)
abbrev f25p11 : PC := .seq (.reg f25r1) (f25p10)
abbrev f25pc : PC := .seq (.reg f25r0) (f25p11)
def f25k : List Nat := [0, 1, 4, 5, 6, 7, 12, 13, 14, 15, 16, 23]
theorem f25c : Try.f25.body.bind (cC te Try.f25.ntmps) = some f25pc := by kernel_rfl
/-! maquette/quotient.Down -/
def f26r0 : List PG := [.u (.mv 4 (.nl 4))]
def f26r1 : List PG := [.u (.mv 5 (.nl 4))]
def f26r2 : List PG := [.u (.mv 9 (.t 0)), .u (.len 10 (.t 9)), .u (.mv 11 (.k (.int .i64 0)))]
def f26r3 : List PG := [.u (.bo 12 .lss (.t 11) (.t 10))]
def f26r4 : List PG := [.u (.ia 13 1 (.t 9) (.t 11)), .u (.ld 14 1 false (.t 13)), .u (.mv 7 (.t 14))]
def f26r5 : List PG := [.u (.al 8 [.d (.v (.bool false)), .d (.v (.int .i64 0)), .d (.v (.int .i64 0)), .d (.v (.int .u8 0))])]
def f26r6 : List PG := [.u (.mv 15 (.t 7)), .u (.bo 16 .geq (.t 15) (.k (.int .i64 0))), .u (.mv 17 (.t 16)), .g 17 true (.mv 18 (.t 7)), .g 17 true (.mv 19 (.t 1)), .g 17 true (.len 20 (.t 19)), .g 17 true (.bo 21 .lss (.t 18) (.t 20)), .u (.pick 22 (.t 17) (.t 21) (.k (.bool false)))]
def f26r7 : List PG := [.u (.mv 23 (.t 1)), .u (.mv 24 (.t 7)), .u (.ia 25 4 (.t 23) (.t 24)), .u (.ld 26 4 true (.t 25)), .u (.st 4 (.t 8) (.t 26))]
abbrev f26p0 : PC := .cond (.t 22) (.reg f26r7) (.skip)
def f26r8 : List PG := [.u (.mv 27 (.t 5)), .u (.ld 28 4 true (.t 8)), .u (.bsl 29 85 4 [.t 28]), .u (.app 30 85 4 32 (.t 27) (.t 29)), .u (.mv 5 (.t 30))]
abbrev f26p1 : PC := .seq (.seq (.reg f26r6) (f26p0)) (.reg f26r8)
abbrev f26p2 : PC := .seq (.reg f26r5) (f26p1)
def f26r9 : List PG := [.u (.bo 31 .add (.t 11) (.k (.int .i64 1))), .u (.mv 11 (.t 31))]
abbrev f26p3 : PC := .seq (.block 1 (.seq (.reg f26r4) (f26p2))) (.reg f26r9)
abbrev f26p4 : PC := .seq (.cond (.t 12) (.skip) (.exit 0)) (f26p3)
abbrev f26p5 : PC := .seq (.reg f26r3) (f26p4)
abbrev f26p6 : PC := .block 0 (.loop (f26p5))
def f26r10 : List PG := [.u (.mv 32 (.t 5)), .u (.mv 4 (.t 32))]
abbrev f26p7 : PC := .seq (.reg f26r10) (.ret)
abbrev f26p8 : PC := .seq (.seq (.reg f26r2) (f26p6)) (f26p7)
abbrev f26p9 : PC := .seq (.reg f26r1) (f26p8)
abbrev f26pc : PC := .seq (.reg f26r0) (f26p9)
def f26k : List Nat := [0, 1, 4, 5, 7, 8, 9, 10, 11, 12, 22]
theorem f26c : Try.f26.body.bind (cC te Try.f26.ntmps) = some f26pc := by kernel_rfl
set_option maxRecDepth 20000
set_option maxHeartbeats 4000000
set_option linter.unusedSimpArgs false
set_option linter.unusedVariables false

theorem quot_fn (n : Net) (hn : n.ok) (b : List Int) (hb : b.length ≤ maxLen) : FnS Try.prog 21 [n.av, .d (.sl 1 (b.map iD))] (quotV (n.quot b)) := by
  cases hf : n.firsts b with
  | none => exact quot_none n hn b hb hf
  | some fs => exact quot_some n hn b hb fs hf
def net0 : Net := ⟨[true, false, false], [-1, -1, -1], [[⟨1, 2, [], []⟩, ⟨2, 2, [], []⟩], [⟨0, 2, [], []⟩], [⟨0, 2, [], []⟩]]⟩
theorem quot0 : FnS Try.prog 21 [.ag [.d (.sl 1 [[.v (.bool true)], [.v (.bool false)], [.v (.bool false)]]), .d (.sl 1 [[.v (.int .i64 (-1))], [.v (.int .i64 (-1))], [.v (.int .i64 (-1))]]), .d (.sl 1 [[.sl 4 [[.v (.int .i64 1), .v (.int .i64 2), .sl 10 [], .sl 10 []], [.v (.int .i64 2), .v (.int .i64 2), .sl 10 [], .sl 10 []]]], [.sl 4 [[.v (.int .i64 0), .v (.int .i64 2), .sl 10 [], .sl 10 []]]], [.sl 4 [[.v (.int .i64 0), .v (.int .i64 2), .sl 10 [], .sl 10 []]]]])], .d (.sl 1 [[.v (.int .i64 0)], [.v (.int .i64 1)], [.v (.int .i64 1)]])]
    (.tp [.ag [.d (.sl 1 [[.v (.bool true)], [.v (.bool false)]]), .d (.sl 1 [[.v (.int .i64 (-1))], [.v (.int .i64 (-1))]]), .d (.sl 1 [[.sl 4 [[.v (.int .i64 1), .v (.int .i64 2), .sl 10 [], .sl 10 []]]], [.sl 4 [[.v (.int .i64 0), .v (.int .i64 2), .sl 10 [], .sl 10 []]]]])], .d (.v .nilIface)]) := by
  have hm : maxLen = 9223372036854775807 := rfl
  have h := quot_fn net0 ⟨by simp [net0, hm], by simp [net0, hm], by simp [net0, hm], by simp [net0, hm], by
    intro es hes e he
    simp only [net0, List.mem_cons, List.not_mem_nil, or_false] at hes
    rcases hes with rfl | rfl | rfl <;> simp only [List.mem_cons, List.not_mem_nil, or_false] at he <;> (rcases he with rfl | rfl <;> exact ⟨by simp [hm], by simp [hm]⟩) ⟩ [0, 1, 1] (by simp [hm])
  have hq : net0.quot [0, 1, 1] = some ⟨[true, false], [-1, -1], [[⟨1, 2, [], []⟩], [⟨0, 2, [], []⟩]]⟩ := by kernel_rfl
  rw [hq] at h
  exact h
theorem awake18_fn : FnS Try.prog 20 [] (.d (.v (.bool true))) := by
  refine fn_of teok Try.func20 (by kernel_rfl) f20c f20k [.tmp 0] rfl (by show 0 ≤ 55; omega) ?_
  repeat' first
  | (with_reducible refine awp_cut (l := f20r1) [(9, [8, 10, 12]), (3, [4, 5, 13])] ?_; unfold f20r1)
  | (with_reducible refine awp_cut (l := f20r2) [(2, [17])] ?_; unfold f20r2)
  | with_reducible refine awp_seq ?_
  | with_reducible refine awp_block ?_
  | with_reducible refine awp_scope ?_
  | with_reducible refine awp_reg ?_
  | with_reducible refine awp_regD ?_
  | with_reducible refine awp_ret ?_
  | with_reducible refine awp_skip ?_
  | with_reducible refine awp_exit ?_
  | with_reducible refine normQ_of ?_
  | with_reducible refine wkE_of ?_
  | with_reducible refine midQ_of (Wk_sub rfl rfl ?_ ?_)
  | with_reducible refine runD_nil ?_
  | with_reducible refine runD_cons ?_
  | with_reducible refine runF_cons ?_
  | with_reducible refine runF_nil ?_
  | with_reducible refine KF_of ?_
  | with_reducible refine chkQ_of rfl ?_
  | with_reducible refine awp_cond (by simp only [evX, lget, Option.getD_some, reduceIte, Nat.reduceEqDiff]; rfl) (fun hc => ?_) (fun hc => ?_)
  | with_reducible refine CallU_of (f := 21) (quot0) (by first | exact Or.inr (Or.inl rfl) | exact Or.inl rfl) ?_
  | with_reducible refine CallC_of (f := 21) (fun _ => quot0) (by first | exact Or.inr (Or.inl rfl) | exact Or.inl rfl) ?_
  | (with_reducible assumption)
  | with_reducible refine fun (hG : okL _) => ?_
  | (with_reducible refine fun (hT : (_ : Bool) = _) => ?_)
  | (with_reducible first | exact hG.2 | exact hG.2.2 | exact hG.2.2.2 | exact hG.2.2.2.2)
  | with_reducible refine okL_mk ?_ ?_
  | with_reducible refine And.intro ?_ ?_
  | simp only [f20r0, f20r3, f20k, List.length_cons, List.getElem?_cons_zero, List.getElem?_cons_succ, runG_nil, runG_u, runG_g, runG_ucS, runG_gcS, runG_uvS, stp, avL, avS, evs, evX, lget, lput, strip, putO, PO.dst, updO, okR, cells, splice, AV.cell, toD, toDs, binV, sameK, pickV, guardOf, okL_nil, sides, argsOf, rawOf, dv, dvL, owns, ownsL, flat, flatL, lkeep, seqQ, blockQ, initS, List.drop_succ_cons, List.drop_zero, List.take_succ_cons, List.take_zero, List.getD_cons_zero, List.getD_cons_succ, List.length_cons, List.length_nil, List.set_cons_zero, List.set_cons_succ, List.map_cons, List.map_nil, List.all_cons, List.all_nil, List.elem_cons, List.elem_nil, Option.getD_some, Option.getD_none, Option.bind_some, Option.isNone_none, reduceIte, reduceCtorEq, Nat.reduceEqDiff, Nat.reduceAdd, Nat.reduceLeDiff, Nat.zero_add, Nat.add_zero, Nat.reduceBEq, Bool.and_self, Bool.and_true, Bool.true_and, Bool.or_self, Bool.or_false, Bool.false_or, Bool.or_true, Bool.true_or, true_and, and_true, and_self, implies_true, forall_const, Bool.false_eq_true, id_eq, retQ, resOf, resV, Option.some.injEq, exists_eq_left', AV.d.injEq, D.v.injEq, Value.bool.injEq, imp_self, bldF, bldS, toVals, eqLs, Option.map_some, imp_false, not_true_eq_false, not_false_eq_true, foot, wrs, nm, nmL, PG.reads, PG.dst, PO.reads, X.sl, sls, slB, List.append_nil, List.cons_append, List.nil_append, Option.toList_some, Option.toList_none, loopQ_exit, loopQ_ret, subS, subO, Bool.bne_false, Bool.bne_true, elemsOf, bslD, bslS, mentries, isAgV, asA, lputs, mgetD_set, mcmp_set, mput_set, List.headD_cons, sealS, sealO, sealV, sealL, mput_nil, mcmp_nil, midQ_ret, midQ_exit, sealsS, sealsO, runW_nil, runW_cons, Bool.true_bne, Bool.false_bne, bne_self_eq_false, Int.reduceToNat, bndV, oSl, resR, runS_nil, runS_gc, ren, renL, renO, sg, gBack, scopeQ_normal, scopeQ_ret, scopeQ_exit, lenB, argsN, dvN]
  all_goals first | omega | decide | rfl | (simp; done)
theorem up_fn (b : List Int) (hb : b.length ≤ 1048576) (l : List Attr) (hl : l.length ≤ maxLen) : FnS Try.prog 25 [.d (.sl 1 (b.map iD)), .d (.sl 4 (l.map Attr.row))] (.d (.sl 4 ((upL b l).map Attr.row))) := by
  have hm : maxLen = 9223372036854775807 := rfl
  refine fn_of teok Try.func25 (by kernel_rfl) f25c f25k [.tmp 4] rfl (by show 2 ≤ 33; omega) ?_
  first | (have _q := @g2; clear _q) | have g2 : Nat.pred 77 = 76 := rfl
  first | (have _q := @g1; clear _q) | have g1 : Nat.pred 77 = 76 := rfl
  repeat' first
  | with_reducible refine awp_seq ?_
  | with_reducible refine awp_block ?_
  | with_reducible refine awp_scope ?_
  | with_reducible refine awp_reg ?_
  | with_reducible refine awp_regD ?_
  | with_reducible refine awp_ret ?_
  | with_reducible refine awp_skip ?_
  | with_reducible refine awp_exit ?_
  | with_reducible refine normQ_of ?_
  | with_reducible refine wkE_of ?_
  | with_reducible refine midQ_of (Wk_sub rfl rfl ?_ ?_)
  | with_reducible refine runD_nil ?_
  | with_reducible refine runD_cons ?_
  | with_reducible refine runF_cons ?_
  | with_reducible refine runF_nil ?_
  | with_reducible refine KF_of ?_
  | with_reducible refine chkQ_of rfl ?_
  | with_reducible refine awp_cond (by simp only [evX, lget, Option.getD_some, reduceIte, Nat.reduceEqDiff]; rfl) (fun hc => ?_) (fun hc => ?_)
  | (with_reducible assumption)
  | with_reducible refine fun (hG : okL _) => ?_
  | (with_reducible refine fun (hT : (_ : Bool) = _) => ?_)
  | (with_reducible first | exact hG.2 | exact hG.2.2 | exact hG.2.2.2 | exact hG.2.2.2.2)
  | with_reducible refine okL_mk ?_ ?_
  | with_reducible refine And.intro ?_ ?_
  | (with_reducible refine awp_loopU (b := f25p6) (fun x : Nat × List Attr => x.1 ≤ b.length ∧ b.length = l.length ∧ x.2.length ≤ x.1 ∧ upGo (b.drop x.1) (l.drop x.1) x.2 = upGo b l []) (fun x => b.length - x.1) (fun x => [(15, .d (.v (.int .i64 x.1))), (5, .own 30 x.2.length)]) (fun x => [(30, .row 85 4 x.2.length (x.2.map Attr.row))]) ((0, [])) (⟨Nat.zero_le _, by simp at hc; omega, Nat.le_refl _, rfl⟩) (Wk_nl 5 30 85 rfl rfl (by decide)) (Wk_sub rfl rfl ?_ ?_) (fun x hx => ?_))
  | (refine Exists.elim (at_drop iD b x.1 (Int.ofNat_lt.1 (of_decide_eq_true hc))) (fun v he => ?_); refine Exists.elim (at_drop Attr.row l x.1 (by have := he.2.2.2; omega)) (fun a ha => ?_); have g1 := he.2.1; have g2 := ha.2.1; replace hc : True := trivial)
  | (have _q : (_ : Bool) = true := hc; with_reducible refine loopQ_next ((x.1 + 1, x.2 ++ [a])) ?_ ?_ (Wk_sub rfl rfl ?_ ?_))
  | (have _q : (_ : Bool) = false := hc; with_reducible refine loopQ_next ((x.1 + 1, x.2)) ?_ ?_ (Wk_sub rfl rfl ?_ ?_))
  | simp only [f25r0, f25r1, f25r2, f25r3, f25r4, f25r5, f25r6, f25r7, f25r8, f25r9, f25r10, g2, g1, f25k, List.length_map, runG_nil, runG_u, runG_g, runG_ucS, runG_gcS, runG_uvS, stp, avL, avS, evs, evX, lget, lput, strip, putO, PO.dst, updO, okR, cells, splice, AV.cell, toD, toDs, binV, sameK, pickV, guardOf, okL_nil, sides, argsOf, rawOf, dv, dvL, owns, ownsL, flat, flatL, lkeep, seqQ, blockQ, initS, List.drop_succ_cons, List.drop_zero, List.take_succ_cons, List.take_zero, List.getD_cons_zero, List.getD_cons_succ, List.length_cons, List.length_nil, List.set_cons_zero, List.set_cons_succ, List.map_cons, List.map_nil, List.all_cons, List.all_nil, List.elem_cons, List.elem_nil, Option.getD_some, Option.getD_none, Option.bind_some, Option.isNone_none, reduceIte, reduceCtorEq, Nat.reduceEqDiff, Nat.reduceAdd, Nat.reduceLeDiff, Nat.zero_add, Nat.add_zero, Nat.reduceBEq, Bool.and_self, Bool.and_true, Bool.true_and, Bool.or_self, Bool.or_false, Bool.false_or, Bool.or_true, Bool.true_or, true_and, and_true, and_self, implies_true, forall_const, Bool.false_eq_true, id_eq, retQ, resOf, resV, Option.some.injEq, exists_eq_left', AV.d.injEq, D.v.injEq, Value.bool.injEq, imp_self, bldF, bldS, toVals, eqLs, Option.map_some, imp_false, not_true_eq_false, not_false_eq_true, foot, wrs, nm, nmL, PG.reads, PG.dst, PO.reads, X.sl, sls, slB, List.append_nil, List.cons_append, List.nil_append, Option.toList_some, Option.toList_none, loopQ_exit, loopQ_ret, subS, subO, Bool.bne_false, Bool.bne_true, elemsOf, bslD, bslS, mentries, isAgV, asA, lputs, mgetD_set, mcmp_set, mput_set, List.headD_cons, sealS, sealO, sealV, sealL, mput_nil, mcmp_nil, midQ_ret, midQ_exit, sealsS, sealsO, runW_nil, runW_cons, Bool.true_bne, Bool.false_bne, bne_self_eq_false, Int.reduceToNat, bndV, oSl, resR, runS_nil, runS_gc, ren, renL, renO, sg, gBack, scopeQ_normal, scopeQ_ret, scopeQ_exit, lenB, argsN, dvN]
  all_goals try first
    | omega
    | (with_reducible rfl)
    | (show Value.int _ 0 = _; rfl)
    | (simp only [List.length_append, List.length_cons, List.length_nil]; omega)
    | (simp only [List.length_append, List.length_cons, List.length_nil, List.map_append, List.map_cons, List.map_nil]; done)
    | exact count64 he.2.2.2 (by omega)
    | (grind [upGo, upL])
  all_goals trace_state
theorem down_fn (b : List Int) (hb : b.length ≤ 1048576) (l : List Attr) (hl : l.length ≤ maxLen) : FnS Try.prog 26 [.d (.sl 1 (b.map iD)), .d (.sl 4 (l.map Attr.row))] (.d (.sl 4 ((downL b l).map Attr.row))) := by
  have hm : maxLen = 9223372036854775807 := rfl
  refine fn_of teok Try.func26 (by kernel_rfl) f26c f26k [.tmp 4] rfl (by show 2 ≤ 33; omega) ?_
  first | (have _q := @g2; clear _q) | have g2 : Nat.pred 77 = 76 := rfl
  first | (have _q := @g1; clear _q) | have g1 : Nat.pred 77 = 76 := rfl
  repeat' first
  | (with_reducible refine awp_mid (.reg f26r8) [] [(8, .box (dnA l v).box)] ?_ ?_)
  | with_reducible refine awp_seq ?_
  | with_reducible refine awp_block ?_
  | with_reducible refine awp_scope ?_
  | with_reducible refine awp_reg ?_
  | with_reducible refine awp_regD ?_
  | with_reducible refine awp_ret ?_
  | with_reducible refine awp_skip ?_
  | with_reducible refine awp_exit ?_
  | with_reducible refine normQ_of ?_
  | with_reducible refine wkE_of ?_
  | with_reducible refine midQ_of (Wk_sub rfl rfl ?_ ?_)
  | with_reducible refine runD_nil ?_
  | with_reducible refine runD_cons ?_
  | with_reducible refine runF_cons ?_
  | with_reducible refine runF_nil ?_
  | with_reducible refine KF_of ?_
  | with_reducible refine chkQ_of rfl ?_
  | with_reducible refine awp_cond (by simp only [evX, lget, Option.getD_some, reduceIte, Nat.reduceEqDiff]; rfl) (fun hc => ?_) (fun hc => ?_)
  | (with_reducible assumption)
  | with_reducible refine fun (hG : okL _) => ?_
  | (with_reducible refine fun (hT : (_ : Bool) = _) => ?_)
  | (with_reducible first | exact hG.2 | exact hG.2.2 | exact hG.2.2.2 | exact hG.2.2.2.2)
  | with_reducible refine okL_mk ?_ ?_
  | with_reducible refine And.intro ?_ ?_
  | (with_reducible refine awp_loopU (b := f26p5) (fun x : Nat × List Attr => x.1 ≤ b.length ∧ x.2.length = x.1 ∧ x.2 ++ (b.drop x.1).map (dnA l) = downL b l) (fun x => b.length - x.1) (fun x => [(11, .d (.v (.int .i64 x.1))), (5, .own 30 x.2.length)]) (fun x => [(30, .row 85 4 x.2.length (x.2.map Attr.row))]) ((0, [])) (⟨Nat.zero_le _, rfl, rfl⟩) (Wk_nl 5 30 85 rfl rfl (by decide)) (Wk_sub rfl rfl ?_ ?_) (fun x hx => ?_))
  | (refine Exists.elim (at_drop iD b x.1 (Int.ofNat_lt.1 (of_decide_eq_true hc))) (fun v he => ?_); have g1 := he.2.1; replace hc : True := trivial)
  | (have g2v := dn_row hc; have g2 := g2v.1; replace hc : True := trivial)
  | (with_reducible refine loopQ_next ((x.1 + 1, x.2 ++ [dnA l v])) ?_ ?_ (Wk_sub rfl rfl ?_ ?_))
  | simp only [f26r0, f26r1, f26r2, f26r3, f26r4, f26r5, f26r6, f26r7, f26r8, f26r9, f26r10, g2, g1, f26k, List.length_map, runG_nil, runG_u, runG_g, runG_ucS, runG_gcS, runG_uvS, stp, avL, avS, evs, evX, lget, lput, strip, putO, PO.dst, updO, okR, cells, splice, AV.cell, toD, toDs, binV, sameK, pickV, guardOf, okL_nil, sides, argsOf, rawOf, dv, dvL, owns, ownsL, flat, flatL, lkeep, seqQ, blockQ, initS, List.drop_succ_cons, List.drop_zero, List.take_succ_cons, List.take_zero, List.getD_cons_zero, List.getD_cons_succ, List.length_cons, List.length_nil, List.set_cons_zero, List.set_cons_succ, List.map_cons, List.map_nil, List.all_cons, List.all_nil, List.elem_cons, List.elem_nil, Option.getD_some, Option.getD_none, Option.bind_some, Option.isNone_none, reduceIte, reduceCtorEq, Nat.reduceEqDiff, Nat.reduceAdd, Nat.reduceLeDiff, Nat.zero_add, Nat.add_zero, Nat.reduceBEq, Bool.and_self, Bool.and_true, Bool.true_and, Bool.or_self, Bool.or_false, Bool.false_or, Bool.or_true, Bool.true_or, true_and, and_true, and_self, implies_true, forall_const, Bool.false_eq_true, id_eq, retQ, resOf, resV, Option.some.injEq, exists_eq_left', AV.d.injEq, D.v.injEq, Value.bool.injEq, imp_self, bldF, bldS, toVals, eqLs, Option.map_some, imp_false, not_true_eq_false, not_false_eq_true, foot, wrs, nm, nmL, PG.reads, PG.dst, PO.reads, X.sl, sls, slB, List.append_nil, List.cons_append, List.nil_append, Option.toList_some, Option.toList_none, loopQ_exit, loopQ_ret, subS, subO, Bool.bne_false, Bool.bne_true, elemsOf, bslD, bslS, mentries, isAgV, asA, lputs, mgetD_set, mcmp_set, mput_set, List.headD_cons, sealS, sealO, sealV, sealL, mput_nil, mcmp_nil, midQ_ret, midQ_exit, sealsS, sealsO, runW_nil, runW_cons, Bool.true_bne, Bool.false_bne, bne_self_eq_false, Int.reduceToNat, bndV, oSl, resR, runS_nil, runS_gc, ren, renL, renO, sg, gBack, scopeQ_normal, scopeQ_ret, scopeQ_exit, lenB, argsN, dvN]
  all_goals try first
    | omega
    | (with_reducible rfl)
    | (show Value.int _ 0 = _; rfl)
    | (simp only [List.length_append, List.length_cons, List.length_nil]; omega)
    | (simp only [List.length_append, List.length_cons, List.length_nil, List.map_append, List.map_cons, List.map_nil]; done)
    | exact count64 he.2.2.2 (by omega)
    | (rw [dn_none hc]; rfl)
    | (simp only [g2]; rfl)
    | (grind [downL])
  all_goals trace_state
end Go.Proofs.Ytokfackbnnkbnaa

