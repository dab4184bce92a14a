/- The examples of layer 19 come to what the document says. Printed by a program of this project (wip/mq). -/
import Derived.Test.YtgkkaimcchlnaaaGreatDoorAis
import Derived.Test.YtgkkaimcchlnaaaGreatDoorQ18
import Derived.Test.YtgkkaimcchlnaaaGreatDoorNum
set_option linter.unusedVariables false
set_option linter.unusedSimpArgs false

namespace Go.Proofs.YtgkkaimcchlnaaaGreatDoor
open Go Mq Go.ChangeShapes Go.WideShapes Go.ChangeAt Go.RowKit
/-! maquette/maquettelaw19.awake -/
def f29r0 : List PG := [.u (.mv 0 (.k (.bool false)))]
def f29r1 : List PG := [.u (.bsl 7 4 1 [.k (.bool true), .k (.bool false), .k (.bool false)]), .u (.bsl 8 3 1 [.k (.int .i64 (-1)), .k (.int .i64 (-1)), .k (.int .i64 (-1))]), .u (.bld 9 [.d (.v (.int .i64 0)), .d (.v (.int .i64 0)), .nl 10, .nl 10] [((0, 1), .k (.int .i64 1)), ((1, 1), .k (.int .i64 2))]), .u (.bld 10 [.d (.v (.int .i64 0)), .d (.v (.int .i64 0)), .nl 10, .nl 10] [((0, 1), .k (.int .i64 2)), ((1, 1), .k (.int .i64 2))]), .u (.bsl 11 91 4 [.t 9, .t 10]), .u (.bld 12 [.d (.v (.int .i64 0)), .d (.v (.int .i64 0)), .nl 10, .nl 10] [((0, 1), .k (.int .i64 0)), ((1, 1), .k (.int .i64 2))]), .u (.bslF 13 91 4 [.t 12]), .u (.bld 14 [.d (.v (.int .i64 0)), .d (.v (.int .i64 0)), .nl 10, .nl 10] [((0, 1), .k (.int .i64 0)), ((1, 1), .k (.int .i64 2))]), .u (.bslF 15 91 4 [.t 14]), .u (.bsl 16 88 1 [.t 11, .t 13, .t 15]), .u (.bld 17 [.nl 1, .nl 1, .nl 1] [((0, 1), .t 7), ((1, 1), .t 8), ((2, 1), .t 16)]), .u (.al 1 [.nl 1, .nl 1, .nl 1]), .u (.st 3 (.t 1) (.t 17))]
def f29r2 : List PG := [.u (.bsl 18 3 1 [.k (.int .i64 0), .k (.int .i64 1), .k (.int .i64 1)]), .u (.mv 2 (.t 18))]
def f29r3 : List PG := [.u (.ld 20 3 true (.t 1)), .u (.mv 21 (.t 2)), .uc 22 32 [.t 20, .t 21], .u (.mv 19 (.t 22)), .u (.ext 23 (.t 19) 0), .u (.ext 24 (.t 19) 1), .u (.al 3 [.nl 1, .nl 1, .nl 1]), .u (.st 3 (.t 3) (.t 23)), .u (.mv 4 (.t 24))]
def f29r4 : List PG := [.u (.ld 25 3 true (.t 3)), .u (.al 5 [.nl 1, .nl 1, .nl 1]), .u (.st 3 (.t 5) (.t 25))]
def f29r5 : List PG := [.u (.bsl 26 4 1 [.k (.bool true), .k (.bool true)]), .u (.fa 27 0 (.t 5)), .u (.st 1 (.t 27) (.t 26))]
def f29r6 : List PG := [.u (.ld 28 3 true (.t 1)), .u (.ld 29 3 true (.t 5)), .u (.mv 30 (.t 2)), .uc 31 35 [.t 28, .t 29, .t 30], .u (.mv 6 (.t 31))]
def f29r7 : List PG := [.u (.mv 32 (.t 6)), .u (.beqn 33 false (.t 32))]
def f29r8 : List PG := [.u (.mv 0 (.k (.bool false)))]
abbrev f29p0 : PC := .seq (.reg f29r8) (.ret)
abbrev f29p1 : PC := .cond (.t 33) (f29p0) (.skip)
def f29r9 : List PG := [.u (.mv 34 (.t 4)), .u (.beqn 35 false (.t 34)), .u (.mv 36 (.t 35)), .g 36 true (.ld 37 3 true (.t 1)), .g 36 true (.ld 38 3 true (.t 3)), .g 36 true (.mv 39 (.t 2)), .gc 36 true 40 35 [.t 37, .t 38, .t 39], .g 36 true (.beqn 41 false (.t 40)), .u (.pick 42 (.t 36) (.t 41) (.k (.bool false))), .u (.mv 43 (.t 42)), .g 43 true (.mv 44 (.t 6)), .gc 43 true 45 34 [.t 44], .g 43 true (.beq 46 false false (.t 45) (.k (.int .i64 9))), .u (.pick 47 (.t 43) (.t 46) (.k (.bool false))), .u (.mv 0 (.t 47))]
abbrev f29p2 : PC := .seq (.reg f29r9) (.ret)
abbrev f29p3 : PC := .seq (.seq (.reg f29r7) (f29p1)) (f29p2)
abbrev f29p4 : PC := .seq (.reg f29r6) (f29p3)
abbrev f29p5 : PC := .seq (.reg f29r5) (f29p4)
abbrev f29p6 : PC := .seq (.reg f29r4) (f29p5)
abbrev f29p7 : PC := .seq (.reg f29r3) (f29p6)
abbrev f29p8 : PC := .seq (.reg f29r2) (f29p7)
abbrev f29p9 : PC := .seq (.reg f29r1) (f29p8)
abbrev f29pc : PC := .seq (.reg f29r0) (f29p9)
def f29k : List Nat := [0, 1, 2, 3, 4, 5, 6, 33]
theorem f29c : Tryz.f29.body.bind (cC te Tryz.f29.ntmps) = some f29pc := by kernel_rfl
set_option maxRecDepth 20000
set_option maxHeartbeats 4000000


theorem net0_ok : net0.ok := by
  have hm : maxLen = 9223372036854775807 := rfl
  exact ⟨by simp [net0, hm], by simp [net0, hm], by simp [net0, hm], by simp [net0, hm], by
    intro es hes e he
    simp only [net0, List.mem_cons, List.not_mem_nil, or_false] at hes
    rcases hes with rfl | rfl | rfl <;> simp only [List.mem_cons, List.not_mem_nil, or_false] at he <;> (rcases he with rfl | rfl <;> exact ⟨by simp [hm], by simp [hm]⟩) ⟩
theorem small_ok (o : List Bool) (ho : o.length = 2) : (⟨o, [-1, -1], [[⟨1, 2, [], []⟩], [⟨0, 2, [], []⟩]]⟩ : Net).ok := by
  have hm : maxLen = 9223372036854775807 := rfl
  exact ⟨by simp [hm, ho], by simp [hm], by simp [hm], by simp [hm], by
    intro es hes e he
    simp only [List.mem_cons, List.not_mem_nil, or_false] at hes
    rcases hes with rfl | rfl <;> simp only [List.mem_cons, List.not_mem_nil, or_false] at he <;> (subst he; exact ⟨by simp [hm], by simp [hm]⟩) ⟩
abbrev NV0 : AV := .ag [.d (.sl 1 [[.v (.bool true)], [.v (.bool false)], [.v (.bool false)]]), .d (.sl 1 [[.v (.int .i64 (-1))], [.v (.int .i64 (-1))], [.v (.int .i64 (-1))]]), .d (.sl 1 [[.sl 4 [[.v (.int .i64 1), .v (.int .i64 2), .sl 10 [], .sl 10 []], [.v (.int .i64 2), .v (.int .i64 2), .sl 10 [], .sl 10 []]]], [.sl 4 [[.v (.int .i64 0), .v (.int .i64 2), .sl 10 [], .sl 10 []]]], [.sl 4 [[.v (.int .i64 0), .v (.int .i64 2), .sl 10 [], .sl 10 []]]]])]
abbrev NVs (a b : Bool) : AV := .ag [.d (.sl 1 [[.v (.bool a)], [.v (.bool b)]]), .d (.sl 1 [[.v (.int .i64 (-1))], [.v (.int .i64 (-1))]]), .d (.sl 1 [[.sl 4 [[.v (.int .i64 1), .v (.int .i64 2), .sl 10 [], .sl 10 []]]], [.sl 4 [[.v (.int .i64 0), .v (.int .i64 2), .sl 10 [], .sl 10 []]]]])]
theorem is_tt : FnS Tryz.prog 35 [NV0, NVs true true, .d (.sl 1 [[.v (.int .i64 0)], [.v (.int .i64 1)], [.v (.int .i64 1)]])] (.d (.v (.iface 95 (.int .i64 9)))) := by
  have h := is_fn net0 _ net0_ok (small_ok [true, true] rfl) [0, 1, 1] (by decide)
  rw [show isCode net0 _ [0, 1, 1] = 9 from by kernel_rfl] at h
  exact h
theorem is_tf : FnS Tryz.prog 35 [NV0, NVs true false, .d (.sl 1 [[.v (.int .i64 0)], [.v (.int .i64 1)], [.v (.int .i64 1)]])] (.d (.v .nilIface)) := by
  have h := is_fn net0 _ net0_ok (small_ok [true, false] rfl) [0, 1, 1] (by decide)
  rw [show isCode net0 _ [0, 1, 1] = 0 from by kernel_rfl] at h
  exact h
theorem awake19_fn : FnS Tryz.prog 29 [] (.d (.v (.bool true))) := by
  refine fn_of teok Tryz.func29 (by kernel_rfl) f29c f29k [.tmp 0] rfl (by show 0 ≤ 48; omega) ?_
  repeat' first
|(exact absurd hc (by decide))
|(with_reducible refine awp_cut (l := f29r1) [(9, [11, 13, 15]), (3, [7, 8, 16])] ?_; unfold f29r1)
|(with_reducible refine awp_cut (l := f29r2) [(1, [18])] ?_; unfold f29r2)
|(with_reducible refine awp_cut (l := f29r5) [(1, [26])] ?_; unfold f29r5)
|(with_reducible first | refine awp_seq ?_ | refine awp_reg ?_ | refine awp_ret ?_ | refine awp_skip ?_ | refine normQ_of ?_ | refine wkE_of ?_)
|with_reducible refine awp_cond (by simp only [evX, lget, Option.getD_some, reduceIte, Nat.reduceEqDiff]; rfl) (fun hc => ?_) (fun hc => ?_)
|with_reducible refine CallU_of (f := 32) (quot0) (by first | exact Or.inr (Or.inl rfl) | exact Or.inl rfl) ?_
|with_reducible refine CallU_of (f := 35) (is_tt) (by first | exact Or.inr (Or.inl rfl) | exact Or.inl rfl) ?_
|with_reducible refine CallC_of (f := 35) (fun _ => is_tt) (by first | exact Or.inr (Or.inl rfl) | exact Or.inl rfl) ?_
|with_reducible refine CallU_of (f := 35) (is_tf) (by first | exact Or.inr (Or.inl rfl) | exact Or.inl rfl) ?_
|with_reducible refine CallC_of (f := 35) (fun _ => is_tf) (by first | exact Or.inr (Or.inl rfl) | exact Or.inl rfl) ?_
|with_reducible refine CallC_of (f := 34) (fun _ => number_hit 9) (by first | exact Or.inr (Or.inl rfl) | exact Or.inl rfl) ?_
|(with_reducible assumption)
|with_reducible refine fun (hG : okL _) => ?_
|(with_reducible refine fun (hT : (_ : Bool) = _) => ?_)
|(with_reducible first | exact hG.2 | exact hG.2.2 | exact hG.2.2.2 | exact hG.2.2.2.2)
|with_reducible refine okL_mk ?_ ?_
|with_reducible refine And.intro ?_ ?_
|simp only [f29r0, f29r3, f29r4, f29r6, f29r7, f29r8, f29r9, f29k, te32, List.length_cons, List.getElem?_cons_zero, List.getElem?_cons_succ, runG_nil, runG_u, runG_g, runG_ucS, runG_gcS, stp, avL, avS, evs, evX, lget, lput, strip, putO, PO.dst, updO, okR, cells, splice, AV.cell, toD, toDs, binV, sameK, pickV, guardOf, okL_nil, sides, argsOf, rawOf, dv, dvL, owns, ownsL, flat, flatL, lkeep, seqQ, blockQ, initS, List.drop_succ_cons, List.drop_zero, List.take_succ_cons, List.take_zero, List.getD_cons_zero, List.getD_cons_succ, List.length_cons, List.length_nil, List.set_cons_zero, List.set_cons_succ, List.map_cons, List.map_nil, List.all_cons, List.all_nil, List.elem_cons, List.elem_nil, Option.getD_some, Option.getD_none, Option.bind_some, Option.isNone_none, reduceIte, reduceCtorEq, Nat.reduceEqDiff, Nat.reduceAdd, Nat.reduceLeDiff, Nat.zero_add, Nat.add_zero, Nat.reduceBEq, Bool.and_self, Bool.and_true, Bool.true_and, Bool.or_self, Bool.or_false, Bool.false_or, Bool.or_true, Bool.true_or, true_and, and_true, and_self, implies_true, forall_const, Bool.false_eq_true, id_eq, retQ, resOf, resV, Option.some.injEq, exists_eq_left', AV.d.injEq, D.v.injEq, Value.bool.injEq, imp_self, bldF, bldS, toVals, eqLs, Option.map_some, imp_false, not_true_eq_false, not_false_eq_true, List.append_nil, List.cons_append, List.nil_append, Option.toList_some, Option.toList_none, subS, subO, Bool.bne_false, Bool.bne_true, elemsOf, bslD, bslS, lputs, List.headD_cons, sealS, sealO, sealV, sealL, sealsS, sealsO, runW_nil, runW_cons, Bool.true_bne, Bool.false_bne, bne_self_eq_false, Int.reduceToNat, oSl, resR, argsN, dvN]
  all_goals try first | omega | decide | rfl | (simp; done)
  all_goals trace_state
end Go.Proofs.YtgkkaimcchlnaaaGreatDoor
