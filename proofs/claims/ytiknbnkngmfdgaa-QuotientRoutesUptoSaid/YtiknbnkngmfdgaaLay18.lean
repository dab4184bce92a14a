/- What layer 18's functions come to. Printed by a program of this project (wip/mq). -/
import Derived.Test.YtiknbnkngmfdgaaQuot
namespace Go.Proofs.Ytiknbnkngmfdgaa
open Go Mq Go.ChangeShapes Go.WideShapes Go.ChangeAt Go.RowKit
/-! maquette/maquettelaw18.awake -/
def f8r0 : List PG := [.u (.mv 0 (.k (.bool false)))]
def f8r1 : List PG := [.u (.bsl 4 4 1 [.k (.bool true), .k (.bool false), .k (.bool false)]), .u (.bsl 5 3 1 [.k (.int .i64 (-1)), .k (.int .i64 (-1)), .k (.int .i64 (-1))]), .u (.bld 6 [.d (.v (.int .i64 0)), .d (.v (.int .i64 0)), .nl 10, .nl 10] [((0, 1), .k (.int .i64 1)), ((1, 1), .k (.int .i64 2))]), .u (.bld 7 [.d (.v (.int .i64 0)), .d (.v (.int .i64 0)), .nl 10, .nl 10] [((0, 1), .k (.int .i64 2)), ((1, 1), .k (.int .i64 2))]), .u (.bsl 8 47 4 [.t 6, .t 7]), .u (.bld 9 [.d (.v (.int .i64 0)), .d (.v (.int .i64 0)), .nl 10, .nl 10] [((0, 1), .k (.int .i64 0)), ((1, 1), .k (.int .i64 2))]), .u (.bsl 10 47 4 [.t 9]), .u (.bld 11 [.d (.v (.int .i64 0)), .d (.v (.int .i64 0)), .nl 10, .nl 10] [((0, 1), .k (.int .i64 0)), ((1, 1), .k (.int .i64 2))]), .u (.bsl 12 47 4 [.t 11]), .u (.bsl 13 44 1 [.t 8, .t 10, .t 12]), .u (.bld 14 [.nl 1, .nl 1, .nl 1] [((0, 1), .t 4), ((1, 1), .t 5), ((2, 1), .t 13)]), .u (.al 1 [.nl 1, .nl 1, .nl 1]), .u (.st 3 (.t 1) (.t 14))]
def f8r2 : List PG := [.u (.ld 16 3 true (.t 1)), .u (.bsl 17 3 1 [.k (.int .i64 0), .k (.int .i64 1), .k (.int .i64 1)]), .uc 18 30 [.t 16, .t 17], .u (.mv 15 (.t 18)), .u (.ext 19 (.t 15) 0), .u (.ext 20 (.t 15) 1), .u (.al 2 [.nl 1, .nl 1, .nl 1]), .u (.st 3 (.t 2) (.t 19)), .u (.mv 3 (.t 20))]
def f8r3 : List PG := [.u (.mv 21 (.t 3)), .u (.beqn 22 false (.t 21)), .u (.mv 23 (.t 22)), .g 23 true (.fa 24 0 (.t 2)), .g 23 true (.ld 25 1 false (.t 24)), .g 23 true (.len 26 (.t 25)), .g 23 true (.beq 27 false false (.t 26) (.k (.int .i64 2))), .u (.pick 28 (.t 23) (.t 27) (.k (.bool false))), .u (.mv 29 (.t 28)), .g 29 true (.fa 30 2 (.t 2)), .g 29 true (.ld 31 1 false (.t 30)), .g 29 true (.ia 32 1 (.t 31) (.k (.int .i64 0))), .g 29 true (.ld 33 1 false (.t 32)), .g 29 true (.len 34 (.t 33)), .g 29 true (.beq 35 false false (.t 34) (.k (.int .i64 1))), .u (.pick 36 (.t 29) (.t 35) (.k (.bool false))), .u (.mv 37 (.t 36)), .g 37 true (.fa 38 2 (.t 2)), .g 37 true (.ld 39 1 false (.t 38)), .g 37 true (.ia 40 1 (.t 39) (.k (.int .i64 1))), .g 37 true (.ld 41 1 false (.t 40)), .g 37 true (.len 42 (.t 41)), .g 37 true (.beq 43 false false (.t 42) (.k (.int .i64 1))), .u (.pick 44 (.t 37) (.t 43) (.k (.bool false))), .u (.mv 45 (.t 44)), .g 45 true (.fa 46 2 (.t 2)), .g 45 true (.ld 47 1 false (.t 46)), .g 45 true (.ia 48 1 (.t 47) (.k (.int .i64 0))), .g 45 true (.ld 49 1 false (.t 48)), .g 45 true (.ia 50 4 (.t 49) (.k (.int .i64 0))), .g 45 true (.fa 51 0 (.t 50)), .g 45 true (.ld 52 1 false (.t 51)), .g 45 true (.beq 53 false false (.t 52) (.k (.int .i64 1))), .u (.pick 54 (.t 45) (.t 53) (.k (.bool false))), .u (.mv 0 (.t 54))]
abbrev f8p0 : PC := .seq (.reg f8r3) (.ret)
abbrev f8p1 : PC := .seq (.reg f8r2) (f8p0)
abbrev f8p2 : PC := .seq (.reg f8r1) (f8p1)
abbrev f8pc : PC := .seq (.reg f8r0) (f8p2)
def f8k : List Nat := [0, 1, 2, 3]
theorem f8c : Try.f8.body.bind (cC te Try.f8.ntmps) = some f8pc := by kernel_rfl
/-! maquette/quotient.Up -/
def f9r0 : List PG := [.u (.mv 4 (.nl 4))]
def f9r1 : List PG := [.u (.mv 5 (.nl 4))]
def f9r2 : List PG := [.u (.mv 8 (.t 0)), .u (.len 9 (.t 8)), .u (.mv 10 (.t 1)), .u (.len 11 (.t 10)), .u (.beq 12 true false (.t 9) (.t 11))]
def f9r3 : List PG := [.u (.mv 4 (.nl 4))]
abbrev f9p0 : PC := .seq (.reg f9r3) (.ret)
abbrev f9p1 : PC := .cond (.t 12) (f9p0) (.skip)
def f9r4 : List PG := [.u (.mv 13 (.t 0)), .u (.len 14 (.t 13)), .u (.mv 15 (.k (.int .i64 0)))]
def f9r5 : List PG := [.u (.bo 16 .lss (.t 15) (.t 14))]
def f9r6 : List PG := [.u (.mv 17 (.t 15)), .u (.ia 18 1 (.t 13) (.t 15)), .u (.ld 19 1 false (.t 18)), .u (.mv 6 (.t 17)), .u (.mv 7 (.t 19))]
def f9r7 : List PG := [.u (.mv 20 (.t 7)), .u (.mv 21 (.t 5)), .u (.len 22 (.t 21)), .u (.beq 23 false false (.t 20) (.t 22))]
def f9r8 : List PG := [.u (.mv 24 (.t 5)), .u (.mv 25 (.t 1)), .u (.mv 26 (.t 6)), .u (.ia 27 4 (.t 25) (.t 26)), .u (.ld 28 4 true (.t 27)), .u (.bsl 29 30 4 [.t 28]), .u (.app 30 30 4 32 (.t 24) (.t 29)), .u (.mv 5 (.t 30))]
abbrev f9p2 : PC := .cond (.t 23) (.reg f9r8) (.skip)
abbrev f9p3 : PC := .seq (.reg f9r7) (f9p2)
def f9r9 : List PG := [.u (.bo 31 .add (.t 15) (.k (.int .i64 1))), .u (.mv 15 (.t 31))]
abbrev f9p4 : PC := .seq (.block 1 (.seq (.reg f9r6) (f9p3))) (.reg f9r9)
abbrev f9p5 : PC := .seq (.cond (.t 16) (.skip) (.exit 0)) (f9p4)
abbrev f9p6 : PC := .seq (.reg f9r5) (f9p5)
abbrev f9p7 : PC := .block 0 (.loop (f9p6))
def f9r10 : List PG := [.u (.mv 32 (.t 5)), .u (.mv 4 (.t 32))]
abbrev f9p8 : PC := .seq (.reg f9r10) (.ret)
abbrev f9p9 : PC := .seq (.seq (.reg f9r4) (f9p7)) (f9p8)
abbrev f9p10 : PC := .seq (.seq (.reg f9r2) (f9p1)) (f9p9)
abbrev f9p11 : PC := .seq (.reg f9r1) (f9p10)
abbrev f9pc : PC := .seq (.reg f9r0) (f9p11)
def f9k : List Nat := [0, 1, 4, 5, 6, 7, 12, 13, 14, 15, 16, 23]
theorem f9c : Try.f9.body.bind (cC te Try.f9.ntmps) = some f9pc := by kernel_rfl
/-! maquette/quotient.Down -/
def f10r0 : List PG := [.u (.mv 4 (.nl 4))]
def f10r1 : List PG := [.u (.mv 5 (.nl 4))]
def f10r2 : List PG := [.u (.mv 9 (.t 0)), .u (.len 10 (.t 9)), .u (.mv 11 (.k (.int .i64 0)))]
def f10r3 : List PG := [.u (.bo 12 .lss (.t 11) (.t 10))]
def f10r4 : List PG := [.u (.ia 13 1 (.t 9) (.t 11)), .u (.ld 14 1 false (.t 13)), .u (.mv 7 (.t 14))]
def f10r5 : List PG := [.u (.al 8 [.d (.v (.bool false)), .d (.v (.int .i64 0)), .d (.v (.int .i64 0)), .d (.v (.int .u8 0))])]
def f10r6 : List PG := [.u (.mv 15 (.t 7)), .u (.bo 16 .geq (.t 15) (.k (.int .i64 0))), .u (.mv 17 (.t 16)), .g 17 true (.mv 18 (.t 7)), .g 17 true (.mv 19 (.t 1)), .g 17 true (.len 20 (.t 19)), .g 17 true (.bo 21 .lss (.t 18) (.t 20)), .u (.pick 22 (.t 17) (.t 21) (.k (.bool false)))]
def f10r7 : List PG := [.u (.mv 23 (.t 1)), .u (.mv 24 (.t 7)), .u (.ia 25 4 (.t 23) (.t 24)), .u (.ld 26 4 true (.t 25)), .u (.st 4 (.t 8) (.t 26))]
abbrev f10p0 : PC := .cond (.t 22) (.reg f10r7) (.skip)
def f10r8 : List PG := [.u (.mv 27 (.t 5)), .u (.ld 28 4 true (.t 8)), .u (.bsl 29 30 4 [.t 28]), .u (.app 30 30 4 32 (.t 27) (.t 29)), .u (.mv 5 (.t 30))]
abbrev f10p1 : PC := .seq (.seq (.reg f10r6) (f10p0)) (.reg f10r8)
abbrev f10p2 : PC := .seq (.reg f10r5) (f10p1)
def f10r9 : List PG := [.u (.bo 31 .add (.t 11) (.k (.int .i64 1))), .u (.mv 11 (.t 31))]
abbrev f10p3 : PC := .seq (.block 1 (.seq (.reg f10r4) (f10p2))) (.reg f10r9)
abbrev f10p4 : PC := .seq (.cond (.t 12) (.skip) (.exit 0)) (f10p3)
abbrev f10p5 : PC := .seq (.reg f10r3) (f10p4)
abbrev f10p6 : PC := .block 0 (.loop (f10p5))
def f10r10 : List PG := [.u (.mv 32 (.t 5)), .u (.mv 4 (.t 32))]
abbrev f10p7 : PC := .seq (.reg f10r10) (.ret)
abbrev f10p8 : PC := .seq (.seq (.reg f10r2) (f10p6)) (f10p7)
abbrev f10p9 : PC := .seq (.reg f10r1) (f10p8)
abbrev f10pc : PC := .seq (.reg f10r0) (f10p9)
def f10k : List Nat := [0, 1, 4, 5, 7, 8, 9, 10, 11, 12, 22]
theorem f10c : Try.f10.body.bind (cC te Try.f10.ntmps) = some f10pc := by kernel_rfl
set_option maxRecDepth 20000
set_option maxHeartbeats 4000000
set_option linter.unusedSimpArgs false
set_option linter.unusedVariables false

theorem quot_fn (n : Net) (hn : n.ok) (b : List Int) (hb : b.length ≤ maxLen) : FnS Try.prog 30 [n.av, .d (.sl 1 (b.map iD))] (quotV (n.quot b)) := by
  cases hf : n.firsts b with
  | none => exact quot_none n hn b hb hf
  | some fs => exact quot_some n hn b hb fs hf
def net0 : Net := ⟨[true, false, false], [-1, -1, -1], [[⟨1, 2, [], []⟩, ⟨2, 2, [], []⟩], [⟨0, 2, [], []⟩], [⟨0, 2, [], []⟩]]⟩
theorem quot0 : FnS Try.prog 30 [.ag [.d (.sl 1 [[.v (.bool true)], [.v (.bool false)], [.v (.bool false)]]), .d (.sl 1 [[.v (.int .i64 (-1))], [.v (.int .i64 (-1))], [.v (.int .i64 (-1))]]), .d (.sl 1 [[.sl 4 [[.v (.int .i64 1), .v (.int .i64 2), .sl 10 [], .sl 10 []], [.v (.int .i64 2), .v (.int .i64 2), .sl 10 [], .sl 10 []]]], [.sl 4 [[.v (.int .i64 0), .v (.int .i64 2), .sl 10 [], .sl 10 []]]], [.sl 4 [[.v (.int .i64 0), .v (.int .i64 2), .sl 10 [], .sl 10 []]]]])], .d (.sl 1 [[.v (.int .i64 0)], [.v (.int .i64 1)], [.v (.int .i64 1)]])]
    (.tp [.ag [.d (.sl 1 [[.v (.bool true)], [.v (.bool false)]]), .d (.sl 1 [[.v (.int .i64 (-1))], [.v (.int .i64 (-1))]]), .d (.sl 1 [[.sl 4 [[.v (.int .i64 1), .v (.int .i64 2), .sl 10 [], .sl 10 []]]], [.sl 4 [[.v (.int .i64 0), .v (.int .i64 2), .sl 10 [], .sl 10 []]]]])], .d (.v .nilIface)]) := by
  have hm : maxLen = 9223372036854775807 := rfl
  have h := quot_fn net0 ⟨by simp [net0, hm], by simp [net0, hm], by simp [net0, hm], by simp [net0, hm], by
    intro es hes e he
    simp only [net0, List.mem_cons, List.not_mem_nil, or_false] at hes
    rcases hes with rfl | rfl | rfl <;> simp only [List.mem_cons, List.not_mem_nil, or_false] at he <;> (rcases he with rfl | rfl <;> exact ⟨by simp [hm], by simp [hm]⟩) ⟩ [0, 1, 1] (by simp [hm])
  have hq : net0.quot [0, 1, 1] = some ⟨[true, false], [-1, -1], [[⟨1, 2, [], []⟩], [⟨0, 2, [], []⟩]]⟩ := by kernel_rfl
  rw [hq] at h
  exact h
theorem awake18_fn : FnS Try.prog 8 [] (.d (.v (.bool true))) := by
  refine fn_of teok Try.func8 (by kernel_rfl) f8c f8k [.tmp 0] rfl (by show 0 ≤ 55; omega) ?_
  repeat' first
  | (with_reducible refine awp_cut (l := f8r1) [(9, [8, 10, 12]), (3, [4, 5, 13])] ?_)
  | (with_reducible refine awp_cut (l := f8r2) [(2, [17])] ?_)
  | with_reducible refine awp_seq ?_
  | with_reducible refine awp_block ?_
  | with_reducible refine awp_reg ?_
  | with_reducible refine awp_regD ?_
  | with_reducible refine awp_ret ?_
  | with_reducible refine awp_skip ?_
  | with_reducible refine awp_exit ?_
  | with_reducible refine normQ_of ?_
  | with_reducible refine wkE_of ?_
  | with_reducible refine midQ_of (Wk_sub rfl rfl ?_ ?_)
  | with_reducible refine runD_nil ?_
  | with_reducible refine runD_cons ?_
  | with_reducible refine runF_cons ?_
  | with_reducible refine runF_nil ?_
  | with_reducible refine KF_of ?_
  | with_reducible refine chkQ_of rfl ?_
  | with_reducible refine awp_cond (by simp only [evX, lget, Option.getD_some, reduceIte, Nat.reduceEqDiff]; rfl) (fun hc => ?_) (fun hc => ?_)
  | with_reducible refine CallU_of (f := 30) (quot0) (by first | exact Or.inr rfl | exact Or.inl rfl) ?_
  | with_reducible refine CallC_of (f := 30) (fun _ => quot0) (by first | exact Or.inr rfl | exact Or.inl rfl) ?_
  | (with_reducible assumption)
  | with_reducible refine fun (hG : okL _) => ?_
  | (with_reducible refine fun (hT : (_ : Bool) = _) => ?_)
  | (with_reducible first | exact hG.2 | exact hG.2.2 | exact hG.2.2.2 | exact hG.2.2.2.2)
  | with_reducible refine okL_mk ?_ ?_
  | with_reducible refine And.intro ?_ ?_
  | simp only [f8r0, f8r1, f8r2, f8r3, f8k, List.length_cons, List.getElem?_cons_zero, List.getElem?_cons_succ, runG_nil, runG_u, runG_g, runG_ucS, runG_gcS, stp, evs, evX, lget, lput, strip, putO, PO.dst, updO, okR, cells, splice, AV.cell, toD, toDs, binV, sameK, pickV, guardOf, okL_nil, sides, argsOf, rawOf, dv, dvL, owns, ownsL, flat, flatL, lkeep, seqQ, blockQ, initS, List.drop_succ_cons, List.drop_zero, List.take_succ_cons, List.take_zero, List.getD_cons_zero, List.getD_cons_succ, List.length_cons, List.length_nil, List.set_cons_zero, List.set_cons_succ, List.map_cons, List.map_nil, List.all_cons, List.all_nil, List.elem_cons, List.elem_nil, Option.getD_some, Option.getD_none, Option.bind_some, Option.isNone_none, reduceIte, reduceCtorEq, Nat.reduceEqDiff, Nat.reduceAdd, Nat.reduceLeDiff, Nat.zero_add, Nat.add_zero, Nat.reduceBEq, Bool.and_self, Bool.and_true, Bool.true_and, Bool.or_self, Bool.or_false, Bool.false_or, Bool.or_true, Bool.true_or, true_and, and_true, and_self, implies_true, forall_const, Bool.false_eq_true, id_eq, retQ, resOf, resV, Option.some.injEq, exists_eq_left', AV.d.injEq, D.v.injEq, Value.bool.injEq, imp_self, bldF, bldS, toVals, eqLs, Option.map_some, imp_false, not_true_eq_false, not_false_eq_true, foot, wrs, nm, nmL, PG.reads, PG.dst, PO.reads, X.sl, sls, slB, List.append_nil, List.cons_append, List.nil_append, Option.toList_some, Option.toList_none, loopQ_exit, loopQ_ret, subS, subO, Bool.bne_false, Bool.bne_true, elemsOf, bslD, bslS, mentries, isAgV, asA, lputs, mgetD_set, mcmp_set, mput_set, List.headD_cons, sealS, sealO, sealV, sealL, mput_nil, mcmp_nil, midQ_ret, midQ_exit, sealsS, sealsO, runW_nil, runW_cons, Bool.true_bne, Bool.false_bne, bne_self_eq_false, Int.reduceToNat]
  all_goals first | omega | decide | rfl | (simp; done)
theorem up_fn (b : List Int) (hb : b.length ≤ 1048576) (l : List Attr) (hl : l.length ≤ maxLen) : FnS Try.prog 9 [.d (.sl 1 (b.map iD)), .d (.sl 4 (l.map Attr.row))] (.d (.sl 4 ((upL b l).map Attr.row))) := by
  have hm : maxLen = 9223372036854775807 := rfl
  refine fn_of teok Try.func9 (by kernel_rfl) f9c f9k [.tmp 4] rfl (by show 2 ≤ 33; omega) ?_
  repeat' first
  | with_reducible refine awp_seq ?_
  | with_reducible refine awp_block ?_
  | with_reducible refine awp_reg ?_
  | with_reducible refine awp_regD ?_
  | with_reducible refine awp_ret ?_
  | with_reducible refine awp_skip ?_
  | with_reducible refine awp_exit ?_
  | with_reducible refine normQ_of ?_
  | with_reducible refine wkE_of ?_
  | with_reducible refine midQ_of (Wk_sub rfl rfl ?_ ?_)
  | with_reducible refine runD_nil ?_
  | with_reducible refine runD_cons ?_
  | with_reducible refine runF_cons ?_
  | with_reducible refine runF_nil ?_
  | with_reducible refine KF_of ?_
  | with_reducible refine chkQ_of rfl ?_
  | with_reducible refine awp_cond (by simp only [evX, lget, Option.getD_some, reduceIte, Nat.reduceEqDiff]; rfl) (fun hc => ?_) (fun hc => ?_)
  | (with_reducible assumption)
  | with_reducible refine fun (hG : okL _) => ?_
  | (with_reducible refine fun (hT : (_ : Bool) = _) => ?_)
  | (with_reducible first | exact hG.2 | exact hG.2.2 | exact hG.2.2.2 | exact hG.2.2.2.2)
  | with_reducible refine okL_mk ?_ ?_
  | with_reducible refine And.intro ?_ ?_
  | (with_reducible refine awp_loopU (b := f9p6) (fun x : Nat × List Attr => x.1 ≤ b.length ∧ b.length = l.length ∧ x.2.length ≤ x.1 ∧ upGo (b.drop x.1) (l.drop x.1) x.2 = upGo b l []) (fun x => b.length - x.1) (fun x => [(15, .d (.v (.int .i64 x.1))), (5, .own 30 x.2.length)]) (fun x => [(30, .row 30 4 x.2.length (x.2.map Attr.row))]) ((0, [])) (⟨Nat.zero_le _, by simp at hc; omega, Nat.le_refl _, rfl⟩) (Wk_nl 5 30 30 rfl rfl (by decide)) (Wk_sub rfl rfl ?_ ?_) (fun x hx => ?_))
  | (refine Exists.elim (at_drop iD b x.1 (Int.ofNat_lt.1 (of_decide_eq_true hc))) (fun v he => ?_); refine Exists.elim (at_drop Attr.row l x.1 (by have := he.2.2.2; omega)) (fun a ha => ?_); have g1 := he.2.1; have g2 := ha.2.1; replace hc : True := trivial)
  | (have _q : (_ : Bool) = true := hc; with_reducible refine loopQ_next ((x.1 + 1, x.2 ++ [a])) ?_ ?_ (Wk_sub rfl rfl ?_ ?_))
  | (have _q : (_ : Bool) = false := hc; with_reducible refine loopQ_next ((x.1 + 1, x.2)) ?_ ?_ (Wk_sub rfl rfl ?_ ?_))
  | simp only [f9r0, f9r1, f9r2, f9r3, f9r4, f9r5, f9r6, f9r7, f9r8, f9r9, f9r10, g2, g1, f9k, List.length_map, runG_nil, runG_u, runG_g, runG_ucS, runG_gcS, stp, evs, evX, lget, lput, strip, putO, PO.dst, updO, okR, cells, splice, AV.cell, toD, toDs, binV, sameK, pickV, guardOf, okL_nil, sides, argsOf, rawOf, dv, dvL, owns, ownsL, flat, flatL, lkeep, seqQ, blockQ, initS, List.drop_succ_cons, List.drop_zero, List.take_succ_cons, List.take_zero, List.getD_cons_zero, List.getD_cons_succ, List.length_cons, List.length_nil, List.set_cons_zero, List.set_cons_succ, List.map_cons, List.map_nil, List.all_cons, List.all_nil, List.elem_cons, List.elem_nil, Option.getD_some, Option.getD_none, Option.bind_some, Option.isNone_none, reduceIte, reduceCtorEq, Nat.reduceEqDiff, Nat.reduceAdd, Nat.reduceLeDiff, Nat.zero_add, Nat.add_zero, Nat.reduceBEq, Bool.and_self, Bool.and_true, Bool.true_and, Bool.or_self, Bool.or_false, Bool.false_or, Bool.or_true, Bool.true_or, true_and, and_true, and_self, implies_true, forall_const, Bool.false_eq_true, id_eq, retQ, resOf, resV, Option.some.injEq, exists_eq_left', AV.d.injEq, D.v.injEq, Value.bool.injEq, imp_self, bldF, bldS, toVals, eqLs, Option.map_some, imp_false, not_true_eq_false, not_false_eq_true, foot, wrs, nm, nmL, PG.reads, PG.dst, PO.reads, X.sl, sls, slB, List.append_nil, List.cons_append, List.nil_append, Option.toList_some, Option.toList_none, loopQ_exit, loopQ_ret, subS, subO, Bool.bne_false, Bool.bne_true, elemsOf, bslD, bslS, mentries, isAgV, asA, lputs, mgetD_set, mcmp_set, mput_set, List.headD_cons, sealS, sealO, sealV, sealL, mput_nil, mcmp_nil, midQ_ret, midQ_exit, sealsS, sealsO, runW_nil, runW_cons, Bool.true_bne, Bool.false_bne, bne_self_eq_false, Int.reduceToNat]
  | simp only [f9r0, f9r1, f9r2, f9r3, f9r4, f9r5, f9r6, f9r7, f9r8, f9r9, f9r10, g1, f9k, List.length_map, runG_nil, runG_u, runG_g, runG_ucS, runG_gcS, stp, evs, evX, lget, lput, strip, putO, PO.dst, updO, okR, cells, splice, AV.cell, toD, toDs, binV, sameK, pickV, guardOf, okL_nil, sides, argsOf, rawOf, dv, dvL, owns, ownsL, flat, flatL, lkeep, seqQ, blockQ, initS, List.drop_succ_cons, List.drop_zero, List.take_succ_cons, List.take_zero, List.getD_cons_zero, List.getD_cons_succ, List.length_cons, List.length_nil, List.set_cons_zero, List.set_cons_succ, List.map_cons, List.map_nil, List.all_cons, List.all_nil, List.elem_cons, List.elem_nil, Option.getD_some, Option.getD_none, Option.bind_some, Option.isNone_none, reduceIte, reduceCtorEq, Nat.reduceEqDiff, Nat.reduceAdd, Nat.reduceLeDiff, Nat.zero_add, Nat.add_zero, Nat.reduceBEq, Bool.and_self, Bool.and_true, Bool.true_and, Bool.or_self, Bool.or_false, Bool.false_or, Bool.or_true, Bool.true_or, true_and, and_true, and_self, implies_true, forall_const, Bool.false_eq_true, id_eq, retQ, resOf, resV, Option.some.injEq, exists_eq_left', AV.d.injEq, D.v.injEq, Value.bool.injEq, imp_self, bldF, bldS, toVals, eqLs, Option.map_some, imp_false, not_true_eq_false, not_false_eq_true, foot, wrs, nm, nmL, PG.reads, PG.dst, PO.reads, X.sl, sls, slB, List.append_nil, List.cons_append, List.nil_append, Option.toList_some, Option.toList_none, loopQ_exit, loopQ_ret, subS, subO, Bool.bne_false, Bool.bne_true, elemsOf, bslD, bslS, mentries, isAgV, asA, lputs, mgetD_set, mcmp_set, mput_set, List.headD_cons, sealS, sealO, sealV, sealL, mput_nil, mcmp_nil, midQ_ret, midQ_exit, sealsS, sealsO, runW_nil, runW_cons, Bool.true_bne, Bool.false_bne, bne_self_eq_false, Int.reduceToNat]
  | simp only [f9r0, f9r1, f9r2, f9r3, f9r4, f9r5, f9r6, f9r7, f9r8, f9r9, f9r10, f9k, List.length_map, runG_nil, runG_u, runG_g, runG_ucS, runG_gcS, stp, evs, evX, lget, lput, strip, putO, PO.dst, updO, okR, cells, splice, AV.cell, toD, toDs, binV, sameK, pickV, guardOf, okL_nil, sides, argsOf, rawOf, dv, dvL, owns, ownsL, flat, flatL, lkeep, seqQ, blockQ, initS, List.drop_succ_cons, List.drop_zero, List.take_succ_cons, List.take_zero, List.getD_cons_zero, List.getD_cons_succ, List.length_cons, List.length_nil, List.set_cons_zero, List.set_cons_succ, List.map_cons, List.map_nil, List.all_cons, List.all_nil, List.elem_cons, List.elem_nil, Option.getD_some, Option.getD_none, Option.bind_some, Option.isNone_none, reduceIte, reduceCtorEq, Nat.reduceEqDiff, Nat.reduceAdd, Nat.reduceLeDiff, Nat.zero_add, Nat.add_zero, Nat.reduceBEq, Bool.and_self, Bool.and_true, Bool.true_and, Bool.or_self, Bool.or_false, Bool.false_or, Bool.or_true, Bool.true_or, true_and, and_true, and_self, implies_true, forall_const, Bool.false_eq_true, id_eq, retQ, resOf, resV, Option.some.injEq, exists_eq_left', AV.d.injEq, D.v.injEq, Value.bool.injEq, imp_self, bldF, bldS, toVals, eqLs, Option.map_some, imp_false, not_true_eq_false, not_false_eq_true, foot, wrs, nm, nmL, PG.reads, PG.dst, PO.reads, X.sl, sls, slB, List.append_nil, List.cons_append, List.nil_append, Option.toList_some, Option.toList_none, loopQ_exit, loopQ_ret, subS, subO, Bool.bne_false, Bool.bne_true, elemsOf, bslD, bslS, mentries, isAgV, asA, lputs, mgetD_set, mcmp_set, mput_set, List.headD_cons, sealS, sealO, sealV, sealL, mput_nil, mcmp_nil, midQ_ret, midQ_exit, sealsS, sealsO, runW_nil, runW_cons, Bool.true_bne, Bool.false_bne, bne_self_eq_false, Int.reduceToNat]
  all_goals try first
    | omega
    | (with_reducible rfl)
    | (show Value.int _ 0 = _; rfl)
    | (simp only [List.length_append, List.length_cons, List.length_nil]; omega)
    | (simp only [List.length_append, List.length_cons, List.length_nil, List.map_append, List.map_cons, List.map_nil]; done)
    | exact count64 he.2.2.2 (by omega)
    | (grind [upGo, upL])
  all_goals trace_state
theorem down_fn (b : List Int) (hb : b.length ≤ 1048576) (l : List Attr) (hl : l.length ≤ maxLen) : FnS Try.prog 10 [.d (.sl 1 (b.map iD)), .d (.sl 4 (l.map Attr.row))] (.d (.sl 4 ((downL b l).map Attr.row))) := by
  have hm : maxLen = 9223372036854775807 := rfl
  refine fn_of teok Try.func10 (by kernel_rfl) f10c f10k [.tmp 4] rfl (by show 2 ≤ 33; omega) ?_
  repeat' first
  | (with_reducible refine awp_mid (.reg f10r8) [] [(8, .box (dnA l v).box)] ?_ ?_)
  | with_reducible refine awp_seq ?_
  | with_reducible refine awp_block ?_
  | with_reducible refine awp_reg ?_
  | with_reducible refine awp_regD ?_
  | with_reducible refine awp_ret ?_
  | with_reducible refine awp_skip ?_
  | with_reducible refine awp_exit ?_
  | with_reducible refine normQ_of ?_
  | with_reducible refine wkE_of ?_
  | with_reducible refine midQ_of (Wk_sub rfl rfl ?_ ?_)
  | with_reducible refine runD_nil ?_
  | with_reducible refine runD_cons ?_
  | with_reducible refine runF_cons ?_
  | with_reducible refine runF_nil ?_
  | with_reducible refine KF_of ?_
  | with_reducible refine chkQ_of rfl ?_
  | with_reducible refine awp_cond (by simp only [evX, lget, Option.getD_some, reduceIte, Nat.reduceEqDiff]; rfl) (fun hc => ?_) (fun hc => ?_)
  | (with_reducible assumption)
  | with_reducible refine fun (hG : okL _) => ?_
  | (with_reducible refine fun (hT : (_ : Bool) = _) => ?_)
  | (with_reducible first | exact hG.2 | exact hG.2.2 | exact hG.2.2.2 | exact hG.2.2.2.2)
  | with_reducible refine okL_mk ?_ ?_
  | with_reducible refine And.intro ?_ ?_
  | (with_reducible refine awp_loopU (b := f10p5) (fun x : Nat × List Attr => x.1 ≤ b.length ∧ x.2.length = x.1 ∧ x.2 ++ (b.drop x.1).map (dnA l) = downL b l) (fun x => b.length - x.1) (fun x => [(11, .d (.v (.int .i64 x.1))), (5, .own 30 x.2.length)]) (fun x => [(30, .row 30 4 x.2.length (x.2.map Attr.row))]) ((0, [])) (⟨Nat.zero_le _, rfl, rfl⟩) (Wk_nl 5 30 30 rfl rfl (by decide)) (Wk_sub rfl rfl ?_ ?_) (fun x hx => ?_))
  | (refine Exists.elim (at_drop iD b x.1 (Int.ofNat_lt.1 (of_decide_eq_true hc))) (fun v he => ?_); have g1 := he.2.1; replace hc : True := trivial)
  | (have g2v := dn_row hc; have g2 := g2v.1; replace hc : True := trivial)
  | (with_reducible refine loopQ_next ((x.1 + 1, x.2 ++ [dnA l v])) ?_ ?_ (Wk_sub rfl rfl ?_ ?_))
  | simp only [f10r0, f10r1, f10r2, f10r3, f10r4, f10r5, f10r6, f10r7, f10r8, f10r9, f10r10, g2, g1, f10k, List.length_map, runG_nil, runG_u, runG_g, runG_ucS, runG_gcS, stp, evs, evX, lget, lput, strip, putO, PO.dst, updO, okR, cells, splice, AV.cell, toD, toDs, binV, sameK, pickV, guardOf, okL_nil, sides, argsOf, rawOf, dv, dvL, owns, ownsL, flat, flatL, lkeep, seqQ, blockQ, initS, List.drop_succ_cons, List.drop_zero, List.take_succ_cons, List.take_zero, List.getD_cons_zero, List.getD_cons_succ, List.length_cons, List.length_nil, List.set_cons_zero, List.set_cons_succ, List.map_cons, List.map_nil, List.all_cons, List.all_nil, List.elem_cons, List.elem_nil, Option.getD_some, Option.getD_none, Option.bind_some, Option.isNone_none, reduceIte, reduceCtorEq, Nat.reduceEqDiff, Nat.reduceAdd, Nat.reduceLeDiff, Nat.zero_add, Nat.add_zero, Nat.reduceBEq, Bool.and_self, Bool.and_true, Bool.true_and, Bool.or_self, Bool.or_false, Bool.false_or, Bool.or_true, Bool.true_or, true_and, and_true, and_self, implies_true, forall_const, Bool.false_eq_true, id_eq, retQ, resOf, resV, Option.some.injEq, exists_eq_left', AV.d.injEq, D.v.injEq, Value.bool.injEq, imp_self, bldF, bldS, toVals, eqLs, Option.map_some, imp_false, not_true_eq_false, not_false_eq_true, foot, wrs, nm, nmL, PG.reads, PG.dst, PO.reads, X.sl, sls, slB, List.append_nil, List.cons_append, List.nil_append, Option.toList_some, Option.toList_none, loopQ_exit, loopQ_ret, subS, subO, Bool.bne_false, Bool.bne_true, elemsOf, bslD, bslS, mentries, isAgV, asA, lputs, mgetD_set, mcmp_set, mput_set, List.headD_cons, sealS, sealO, sealV, sealL, mput_nil, mcmp_nil, midQ_ret, midQ_exit, sealsS, sealsO, runW_nil, runW_cons, Bool.true_bne, Bool.false_bne, bne_self_eq_false, Int.reduceToNat]
  | simp only [f10r0, f10r1, f10r2, f10r3, f10r4, f10r5, f10r6, f10r7, f10r8, f10r9, f10r10, g1, f10k, List.length_map, runG_nil, runG_u, runG_g, runG_ucS, runG_gcS, stp, evs, evX, lget, lput, strip, putO, PO.dst, updO, okR, cells, splice, AV.cell, toD, toDs, binV, sameK, pickV, guardOf, okL_nil, sides, argsOf, rawOf, dv, dvL, owns, ownsL, flat, flatL, lkeep, seqQ, blockQ, initS, List.drop_succ_cons, List.drop_zero, List.take_succ_cons, List.take_zero, List.getD_cons_zero, List.getD_cons_succ, List.length_cons, List.length_nil, List.set_cons_zero, List.set_cons_succ, List.map_cons, List.map_nil, List.all_cons, List.all_nil, List.elem_cons, List.elem_nil, Option.getD_some, Option.getD_none, Option.bind_some, Option.isNone_none, reduceIte, reduceCtorEq, Nat.reduceEqDiff, Nat.reduceAdd, Nat.reduceLeDiff, Nat.zero_add, Nat.add_zero, Nat.reduceBEq, Bool.and_self, Bool.and_true, Bool.true_and, Bool.or_self, Bool.or_false, Bool.false_or, Bool.or_true, Bool.true_or, true_and, and_true, and_self, implies_true, forall_const, Bool.false_eq_true, id_eq, retQ, resOf, resV, Option.some.injEq, exists_eq_left', AV.d.injEq, D.v.injEq, Value.bool.injEq, imp_self, bldF, bldS, toVals, eqLs, Option.map_some, imp_false, not_true_eq_false, not_false_eq_true, foot, wrs, nm, nmL, PG.reads, PG.dst, PO.reads, X.sl, sls, slB, List.append_nil, List.cons_append, List.nil_append, Option.toList_some, Option.toList_none, loopQ_exit, loopQ_ret, subS, subO, Bool.bne_false, Bool.bne_true, elemsOf, bslD, bslS, mentries, isAgV, asA, lputs, mgetD_set, mcmp_set, mput_set, List.headD_cons, sealS, sealO, sealV, sealL, mput_nil, mcmp_nil, midQ_ret, midQ_exit, sealsS, sealsO, runW_nil, runW_cons, Bool.true_bne, Bool.false_bne, bne_self_eq_false, Int.reduceToNat]
  | simp only [f10r0, f10r1, f10r2, f10r3, f10r4, f10r5, f10r6, f10r7, f10r8, f10r9, f10r10, f10k, List.length_map, runG_nil, runG_u, runG_g, runG_ucS, runG_gcS, stp, evs, evX, lget, lput, strip, putO, PO.dst, updO, okR, cells, splice, AV.cell, toD, toDs, binV, sameK, pickV, guardOf, okL_nil, sides, argsOf, rawOf, dv, dvL, owns, ownsL, flat, flatL, lkeep, seqQ, blockQ, initS, List.drop_succ_cons, List.drop_zero, List.take_succ_cons, List.take_zero, List.getD_cons_zero, List.getD_cons_succ, List.length_cons, List.length_nil, List.set_cons_zero, List.set_cons_succ, List.map_cons, List.map_nil, List.all_cons, List.all_nil, List.elem_cons, List.elem_nil, Option.getD_some, Option.getD_none, Option.bind_some, Option.isNone_none, reduceIte, reduceCtorEq, Nat.reduceEqDiff, Nat.reduceAdd, Nat.reduceLeDiff, Nat.zero_add, Nat.add_zero, Nat.reduceBEq, Bool.and_self, Bool.and_true, Bool.true_and, Bool.or_self, Bool.or_false, Bool.false_or, Bool.or_true, Bool.true_or, true_and, and_true, and_self, implies_true, forall_const, Bool.false_eq_true, id_eq, retQ, resOf, resV, Option.some.injEq, exists_eq_left', AV.d.injEq, D.v.injEq, Value.bool.injEq, imp_self, bldF, bldS, toVals, eqLs, Option.map_some, imp_false, not_true_eq_false, not_false_eq_true, foot, wrs, nm, nmL, PG.reads, PG.dst, PO.reads, X.sl, sls, slB, List.append_nil, List.cons_append, List.nil_append, Option.toList_some, Option.toList_none, loopQ_exit, loopQ_ret, subS, subO, Bool.bne_false, Bool.bne_true, elemsOf, bslD, bslS, mentries, isAgV, asA, lputs, mgetD_set, mcmp_set, mput_set, List.headD_cons, sealS, sealO, sealV, sealL, mput_nil, mcmp_nil, midQ_ret, midQ_exit, sealsS, sealsO, runW_nil, runW_cons, Bool.true_bne, Bool.false_bne, bne_self_eq_false, Int.reduceToNat]
  all_goals try first
    | omega
    | (with_reducible rfl)
    | (show Value.int _ 0 = _; rfl)
    | (simp only [List.length_append, List.length_cons, List.length_nil]; omega)
    | (simp only [List.length_append, List.length_cons, List.length_nil, List.map_append, List.map_cons, List.map_nil]; done)
    | exact count64 he.2.2.2 (by omega)
    | (rw [dn_none hc]; rfl)
    | (simp only [g2]; rfl)
    | (grind [downL])
  all_goals trace_state
end Go.Proofs.Ytiknbnkngmfdgaa
