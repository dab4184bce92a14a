/- The law StableRaw: whatever the input, if what it reads is of bulk at most 1048576, it returns true and changes nothing. Printed by a program of this project (wip/mq). -/
import Derived.Test.YtiknbnkngmfdgaaStable
import Derived.Test.YtiknbnkngmfdgaaArgs
namespace Go.Proofs.Ytiknbnkngmfdgaa
open Go Mq Go.ChangeShapes Go.WideShapes Go.ChangeAt Go.RowKit
/-! maquette/maquettelaw15.awake -/
def f11r0 : List PG := [.u (.mv 0 (.k (.bool false)))]
def f11r1 : List PG := [.u (.bsl 4 4 1 [.k (.bool true), .k (.bool false)]), .u (.bsl 5 3 1 [.k (.int .i64 (-1)), .k (.int .i64 (-1))]), .u (.bld 6 [.d (.v (.int .i64 0)), .d (.v (.int .i64 0)), .nl 10, .nl 10] [((0, 1), .k (.int .i64 0)), ((1, 1), .k (.int .i64 3))]), .u (.bsl 7 47 4 [.t 6]), .u (.bsl 8 44 1 [.nl 4, .t 7]), .u (.bld 9 [.nl 1, .nl 1, .nl 1] [((0, 1), .t 4), ((1, 1), .t 5), ((2, 1), .t 8)]), .u (.al 1 [.nl 1, .nl 1, .nl 1]), .u (.st 3 (.t 1) (.t 9))]
def f11r2 : List PG := [.u (.bld 10 [.d (.v (.bool false)), .d (.v (.int .i64 0)), .d (.v (.int .i64 0)), .d (.v (.int .u8 0))] [((0, 1), .k (.bool true)), ((1, 1), .k (.int .i64 100))]), .u (.bld 11 [.d (.v (.bool false)), .d (.v (.int .i64 0)), .d (.v (.int .i64 0)), .d (.v (.int .u8 0))] [((0, 1), .k (.bool true)), ((1, 1), .k (.int .i64 100)), ((2, 1), .k (.int .i64 3))]), .u (.bsl 12 30 4 [.t 10, .t 11]), .u (.mv 2 (.t 12))]
def f11r3 : List PG := [.u (.bld 13 [.d (.v (.bool false)), .d (.v (.int .i64 0)), .d (.v (.int .i64 0)), .d (.v (.int .u8 0))] [((0, 1), .k (.bool true)), ((1, 1), .k (.int .i64 100))]), .u (.bld 14 [.d (.v (.bool false)), .d (.v (.int .i64 0)), .d (.v (.int .i64 0)), .d (.v (.int .u8 0))] [((0, 1), .k (.bool true)), ((1, 1), .k (.int .i64 100)), ((2, 1), .k (.int .i64 4))]), .u (.bsl 15 30 4 [.t 13, .t 14]), .u (.mv 3 (.t 15))]
def f11r4 : List PG := [.u (.ld 16 3 true (.t 1)), .uc 17 21 [.t 16], .u (.mv 18 (.t 17)), .g 18 true (.ld 19 3 true (.t 1)), .g 18 true (.mv 20 (.t 2)), .gc 18 true 21 19 [.t 19, .t 20], .u (.pick 22 (.t 18) (.t 21) (.k (.bool false))), .u (.mv 23 (.t 22)), .g 23 true (.ld 24 3 true (.t 1)), .g 23 true (.mv 25 (.t 3)), .gc 23 true 26 19 [.t 24, .t 25], .g 23 true (.no 27 (.t 26)), .u (.pick 28 (.t 23) (.t 27) (.k (.bool false))), .u (.mv 0 (.t 28))]
abbrev f11p0 : PC := .seq (.reg f11r4) (.ret)
abbrev f11p1 : PC := .seq (.reg f11r3) (f11p0)
abbrev f11p2 : PC := .seq (.reg f11r2) (f11p1)
abbrev f11p3 : PC := .seq (.reg f11r1) (f11p2)
abbrev f11pc : PC := .seq (.reg f11r0) (f11p3)
def f11k : List Nat := [0, 1, 2, 3]
theorem f11c : Try.f11.body.bind (cC te Try.f11.ntmps) = some f11pc := by kernel_rfl
/-! maquette/maquettelaw15.StableRaw -/
def f4r0 : List PG := [.u (.bx 3 (.t 0)), .u (.mv 6 (.k (.bool false)))]
def f4r1 : List PG := [.uc 11 11 [], .u (.no 12 (.t 11))]
def f4r2 : List PG := [.u (.mv 6 (.k (.bool false)))]
abbrev f4p0 : PC := .seq (.reg f4r2) (.ret)
abbrev f4p1 : PC := .cond (.t 12) (f4p0) (.skip)
def f4r3 : List PG := [.u (.ld 13 3 true (.t 3)), .u (.mv 14 (.t 1)), .u (.mv 15 (.t 2)), .uc 16 12 [.t 13, .t 14, .t 15], .u (.ld 17 3 true (.t 3)), .u (.mv 18 (.t 1)), .u (.mv 19 (.t 2)), .uc 20 13 [.t 17, .t 18, .t 19], .u (.mv 7 (.t 16)), .u (.mv 8 (.t 20))]
def f4r4 : List PG := [.u (.mv 21 (.t 7)), .u (.len 22 (.t 21)), .u (.mv 23 (.t 8)), .u (.len 24 (.t 23)), .u (.beq 25 true false (.t 22) (.t 24)), .u (.mv 26 (.t 25)), .g 26 false (.ld 27 3 true (.t 3)), .g 26 false (.mv 28 (.t 2)), .gc 26 false 29 14 [.t 27, .t 28], .g 26 false (.ld 30 3 true (.t 3)), .g 26 false (.mv 31 (.t 2)), .gc 26 false 32 15 [.t 30, .t 31], .g 26 false (.beq 33 true true (.t 29) (.t 32)), .u (.pick 34 (.t 26) (.k (.bool true)) (.t 33)), .u (.mv 35 (.t 34)), .g 35 false (.ld 36 3 true (.t 3)), .g 35 false (.mv 37 (.t 1)), .g 35 false (.mv 38 (.t 2)), .gc 35 false 39 17 [.t 36, .t 37, .t 38], .g 35 false (.ld 40 3 true (.t 3)), .g 35 false (.mv 41 (.t 1)), .g 35 false (.mv 42 (.t 2)), .gc 35 false 43 18 [.t 40, .t 41, .t 42], .gc 35 false 44 16 [.t 39, .t 43], .g 35 false (.no 45 (.t 44)), .u (.pick 46 (.t 35) (.k (.bool true)) (.t 45))]
def f4r5 : List PG := [.u (.mv 6 (.k (.bool false)))]
abbrev f4p2 : PC := .seq (.reg f4r5) (.ret)
abbrev f4p3 : PC := .cond (.t 46) (f4p2) (.skip)
def f4r6 : List PG := [.u (.mv 47 (.t 1)), .u (.len 48 (.t 47)), .u (.fa 49 0 (.t 3)), .u (.ld 50 1 false (.t 49)), .u (.len 51 (.t 50)), .u (.beq 52 false false (.t 48) (.t 51)), .u (.mv 9 (.t 52))]
def f4r7 : List PG := [.u (.mv 10 (.k (.int .i64 0)))]
def f4r8 : List PG := [.u (.mv 53 (.t 9)), .u (.mv 54 (.t 53)), .g 54 true (.mv 55 (.t 10)), .g 54 true (.mv 56 (.t 1)), .g 54 true (.len 57 (.t 56)), .g 54 true (.bo 58 .lss (.t 55) (.t 57)), .u (.pick 59 (.t 54) (.t 58) (.k (.bool false)))]
abbrev f4p4 : PC := .cond (.t 59) (.skip) (.exit 0)
def f4r9 : List PG := [.u (.mv 62 (.t 1)), .u (.mv 63 (.t 10)), .u (.ia 64 4 (.t 62) (.t 63)), .u (.ld 65 4 true (.t 64)), .u (.ld 66 3 true (.t 3)), .u (.mv 67 (.t 1)), .u (.mv 68 (.t 10)), .uc 69 18 [.t 66, .t 67, .t 68], .uc 70 16 [.t 65, .t 69], .u (.mv 9 (.t 70))]
def f4r10 : List PG := [.u (.mv 60 (.t 10)), .u (.bo 61 .add (.t 60) (.k (.int .i64 1))), .u (.mv 10 (.t 61))]
abbrev f4p5 : PC := .seq (.block 1 (.regD f4r9 [])) (.reg f4r10)
abbrev f4p6 : PC := .seq (.seq (.reg f4r8) (f4p4)) (f4p5)
abbrev f4p7 : PC := .block 0 (.loop (f4p6))
def f4r11 : List PG := [.u (.ld 71 3 true (.t 3)), .u (.mv 72 (.t 1)), .uc 73 19 [.t 71, .t 72], .u (.mv 74 (.t 9)), .u (.beq 75 false true (.t 73) (.t 74)), .u (.mv 6 (.t 75))]
abbrev f4p8 : PC := .seq (.reg f4r11) (.ret)
abbrev f4p9 : PC := .seq (.seq (.reg f4r7) (f4p7)) (f4p8)
abbrev f4p10 : PC := .seq (.reg f4r6) (f4p9)
abbrev f4p11 : PC := .seq (.seq (.regD f4r4 []) (f4p3)) (f4p10)
abbrev f4p12 : PC := .seq (.regD f4r3 []) (f4p11)
abbrev f4p13 : PC := .seq (.seq (.reg f4r1) (f4p1)) (f4p12)
abbrev f4pc : PC := .seq (.reg f4r0) (f4p13)
def f4k : List Nat := [0, 1, 2, 3, 6, 7, 8, 9, 10, 12, 46, 59]
theorem f4c : Try.f4.body.bind (cC te Try.f4.ntmps) = some f4pc := by kernel_rfl
set_option maxRecDepth 20000
set_option maxHeartbeats 4000000
set_option linter.unusedSimpArgs false
set_option linter.unusedVariables false

def net1 : Net := ⟨[true, false], [-1, -1], [[], [⟨0, 3, [], []⟩]]⟩
theorem net1_small : net1.small := by
  refine ⟨by decide, by decide, by decide, ?_, ?_, ?_⟩ <;> intro es hes <;> simp only [net1, List.mem_cons, List.not_mem_nil, or_false] at hes <;> rcases hes with rfl | rfl <;> first | decide | (intro e he; simp at he; done) | (intro e he; simp at he; subst he; decide)
theorem may1 : FnS Try.prog 21 [.ag [.d (.sl 1 [[.v (.bool true)], [.v (.bool false)]]), .d (.sl 1 [[.v (.int .i64 (-1))], [.v (.int .i64 (-1))]]), .d (.sl 1 [[.sl 4 []], [.sl 4 [[.v (.int .i64 0), .v (.int .i64 3), .sl 10 [], .sl 10 []]]]])]] (.d (.v (.bool true))) := by
  have h := may_fn net1 net1_small.ok
  rw [show net1.may = true by kernel_rfl] at h
  exact h
theorem is1 : FnS Try.prog 19 [.ag [.d (.sl 1 [[.v (.bool true)], [.v (.bool false)]]), .d (.sl 1 [[.v (.int .i64 (-1))], [.v (.int .i64 (-1))]]), .d (.sl 1 [[.sl 4 []], [.sl 4 [[.v (.int .i64 0), .v (.int .i64 3), .sl 10 [], .sl 10 []]]]])], .d (.sl 4 [[.v (.bool true), .v (.int .i64 100), .v (.int .i64 0), .v (.int .u8 0)], [.v (.bool true), .v (.int .i64 100), .v (.int .i64 3), .v (.int .u8 0)]])] (.d (.v (.bool true))) := by
  have h := is_fn net1 net1_small [⟨true, 100, 0, 0⟩, ⟨true, 100, 3, 0⟩] (by decide)
  rw [show net1.isV [⟨true, 100, 0, 0⟩, ⟨true, 100, 3, 0⟩] = true by kernel_rfl] at h
  exact h
theorem is2 : FnS Try.prog 19 [.ag [.d (.sl 1 [[.v (.bool true)], [.v (.bool false)]]), .d (.sl 1 [[.v (.int .i64 (-1))], [.v (.int .i64 (-1))]]), .d (.sl 1 [[.sl 4 []], [.sl 4 [[.v (.int .i64 0), .v (.int .i64 3), .sl 10 [], .sl 10 []]]]])], .d (.sl 4 [[.v (.bool true), .v (.int .i64 100), .v (.int .i64 0), .v (.int .u8 0)], [.v (.bool true), .v (.int .i64 100), .v (.int .i64 4), .v (.int .u8 0)]])] (.d (.v (.bool false))) := by
  have h := is_fn net1 net1_small [⟨true, 100, 0, 0⟩, ⟨true, 100, 4, 0⟩] (by decide)
  rw [show net1.isV [⟨true, 100, 0, 0⟩, ⟨true, 100, 4, 0⟩] = false by kernel_rfl] at h
  exact h
theorem awake15_fn : FnS Try.prog 11 [] (.d (.v (.bool true))) := by
  refine fn_of teok Try.func11 (by kernel_rfl) f11c f11k [.tmp 0] rfl (by show 0 ≤ 29; omega) ?_
  repeat' first
  | (with_reducible refine awp_cut (l := f11r1) [(4, [7]), (1, [4, 5, 8])] ?_)
  | (with_reducible refine awp_cut (l := f11r2) [(3, [12])] ?_)
  | (with_reducible refine awp_cut (l := f11r3) [(3, [15])] ?_)
  | with_reducible refine awp_seq ?_
  | with_reducible refine awp_block ?_
  | with_reducible refine awp_reg ?_
  | with_reducible refine awp_regD ?_
  | with_reducible refine awp_ret ?_
  | with_reducible refine awp_skip ?_
  | with_reducible refine awp_exit ?_
  | with_reducible refine normQ_of ?_
  | with_reducible refine wkE_of ?_
  | with_reducible refine midQ_of (Wk_sub rfl rfl ?_ ?_)
  | with_reducible refine runD_nil ?_
  | with_reducible refine runD_cons ?_
  | with_reducible refine runF_cons ?_
  | with_reducible refine runF_nil ?_
  | with_reducible refine KF_of ?_
  | with_reducible refine chkQ_of rfl ?_
  | with_reducible refine awp_cond (by simp only [evX, lget, Option.getD_some, reduceIte, Nat.reduceEqDiff]; rfl) (fun hc => ?_) (fun hc => ?_)
  | with_reducible refine CallU_of (f := 21) (may1) (by first | exact Or.inr rfl | exact Or.inl rfl) ?_
  | with_reducible refine CallC_of (f := 21) (fun _ => may1) (by first | exact Or.inr rfl | exact Or.inl rfl) ?_
  | with_reducible refine CallU_of (f := 19) (is1) (by first | exact Or.inr rfl | exact Or.inl rfl) ?_
  | with_reducible refine CallC_of (f := 19) (fun _ => is1) (by first | exact Or.inr rfl | exact Or.inl rfl) ?_
  | with_reducible refine CallU_of (f := 19) (is2) (by first | exact Or.inr rfl | exact Or.inl rfl) ?_
  | with_reducible refine CallC_of (f := 19) (fun _ => is2) (by first | exact Or.inr rfl | exact Or.inl rfl) ?_
  | (with_reducible assumption)
  | with_reducible refine fun (hG : okL _) => ?_
  | (with_reducible refine fun (hT : (_ : Bool) = _) => ?_)
  | (with_reducible first | exact hG.2 | exact hG.2.2 | exact hG.2.2.2 | exact hG.2.2.2.2)
  | with_reducible refine okL_mk ?_ ?_
  | with_reducible refine And.intro ?_ ?_
  | simp only [f11r0, f11r1, f11r2, f11r3, f11r4, f11k, List.length_cons, List.getElem?_cons_zero, List.getElem?_cons_succ, runG_nil, runG_u, runG_g, runG_ucS, runG_gcS, stp, evs, evX, lget, lput, strip, putO, PO.dst, updO, okR, cells, splice, AV.cell, toD, toDs, binV, sameK, pickV, guardOf, okL_nil, sides, argsOf, rawOf, dv, dvL, owns, ownsL, flat, flatL, lkeep, seqQ, blockQ, initS, List.drop_succ_cons, List.drop_zero, List.take_succ_cons, List.take_zero, List.getD_cons_zero, List.getD_cons_succ, List.length_cons, List.length_nil, List.set_cons_zero, List.set_cons_succ, List.map_cons, List.map_nil, List.all_cons, List.all_nil, List.elem_cons, List.elem_nil, Option.getD_some, Option.getD_none, Option.bind_some, Option.isNone_none, reduceIte, reduceCtorEq, Nat.reduceEqDiff, Nat.reduceAdd, Nat.reduceLeDiff, Nat.zero_add, Nat.add_zero, Nat.reduceBEq, Bool.and_self, Bool.and_true, Bool.true_and, Bool.or_self, Bool.or_false, Bool.false_or, Bool.or_true, Bool.true_or, true_and, and_true, and_self, implies_true, forall_const, Bool.false_eq_true, id_eq, retQ, resOf, resV, Option.some.injEq, exists_eq_left', AV.d.injEq, D.v.injEq, Value.bool.injEq, imp_self, bldF, bldS, toVals, eqLs, Option.map_some, imp_false, not_true_eq_false, not_false_eq_true, foot, wrs, nm, nmL, PG.reads, PG.dst, PO.reads, X.sl, sls, slB, List.append_nil, List.cons_append, List.nil_append, Option.toList_some, Option.toList_none, loopQ_exit, loopQ_ret, subS, subO, Bool.bne_false, Bool.bne_true, elemsOf, bslD, bslS, mentries, isAgV, asA, lputs, mgetD_set, mcmp_set, mput_set, List.headD_cons, sealS, sealO, sealV, sealL, mput_nil, mcmp_nil, midQ_ret, midQ_exit, sealsS, sealsO, runW_nil, runW_cons, Bool.true_bne, Bool.false_bne, bne_self_eq_false, Int.reduceToNat]
  all_goals first | omega | decide | rfl | (simp; done)
theorem raw_fn (n : Net) (hn : n.small) (l : List Attr) (hl : l.length ≤ 1048576) (k : Int) : FnS Try.prog 4 [n.av, .d (.sl 4 (l.map Attr.row)), .d (.v (.int .i64 k))] (.d (.v (.bool true))) := by
  have hm : maxLen = 9223372036854775807 := rfl
  refine fn_of teok Try.func4 (by kernel_rfl) f4c f4k [.tmp 6] rfl (by show 3 ≤ 76; omega) ?_
  repeat' first
  | (exact absurd hc (by decide))
  | with_reducible refine awp_seq ?_
  | with_reducible refine awp_block ?_
  | with_reducible refine awp_reg ?_
  | with_reducible refine awp_regD ?_
  | with_reducible refine awp_ret ?_
  | with_reducible refine awp_skip ?_
  | with_reducible refine awp_exit ?_
  | with_reducible refine normQ_of ?_
  | with_reducible refine wkE_of ?_
  | with_reducible refine midQ_of (Wk_sub rfl rfl ?_ ?_)
  | with_reducible refine runD_nil ?_
  | with_reducible refine runD_cons ?_
  | with_reducible refine runF_cons ?_
  | with_reducible refine runF_nil ?_
  | with_reducible refine KF_of ?_
  | with_reducible refine chkQ_of rfl ?_
  | with_reducible refine awp_cond (by simp only [evX, lget, Option.getD_some, reduceIte, Nat.reduceEqDiff]; rfl) (fun hc => ?_) (fun hc => ?_)
  | with_reducible refine CallU_of (f := 11) (awake15_fn) (by first | exact Or.inr rfl | exact Or.inl rfl) ?_
  | with_reducible refine CallC_of (f := 11) (fun _ => awake15_fn) (by first | exact Or.inr rfl | exact Or.inl rfl) ?_
  | with_reducible refine CallU_of (f := 12) (offers_fn n hn l hl k) (by first | exact Or.inr rfl | exact Or.inl rfl) ?_
  | with_reducible refine CallC_of (f := 12) (fun _ => offers_fn n hn l hl k) (by first | exact Or.inr rfl | exact Or.inl rfl) ?_
  | with_reducible refine CallU_of (f := 13) (lawOffers_fn n hn l hl k) (by first | exact Or.inr rfl | exact Or.inl rfl) ?_
  | with_reducible refine CallC_of (f := 13) (fun _ => lawOffers_fn n hn l hl k) (by first | exact Or.inr rfl | exact Or.inl rfl) ?_
  | with_reducible refine CallU_of (f := 14) (fixed_fn n k) (by first | exact Or.inr rfl | exact Or.inl rfl) ?_
  | with_reducible refine CallC_of (f := 14) (fun _ => fixed_fn n k) (by first | exact Or.inr rfl | exact Or.inl rfl) ?_
  | with_reducible refine CallU_of (f := 15) (lawFixed_fn n k) (by first | exact Or.inr rfl | exact Or.inl rfl) ?_
  | with_reducible refine CallC_of (f := 15) (fun _ => lawFixed_fn n k) (by first | exact Or.inr rfl | exact Or.inl rfl) ?_
  | with_reducible refine CallU_of (f := 17) (choice_fn n hn l hl k) (by first | exact Or.inr rfl | exact Or.inl rfl) ?_
  | with_reducible refine CallC_of (f := 17) (fun _ => choice_fn n hn l hl k) (by first | exact Or.inr rfl | exact Or.inl rfl) ?_
  | with_reducible refine CallU_of (f := 18) (lawChoice_fn n hn l hl _) (by first | exact Or.inr rfl | exact Or.inl rfl) ?_
  | with_reducible refine CallC_of (f := 18) (fun _ => lawChoice_fn n hn l hl _) (by first | exact Or.inr rfl | exact Or.inl rfl) ?_
  | with_reducible refine CallU_of (f := 16) (same_fn (n.choice l k) (n.choice l k)) (by first | exact Or.inr rfl | exact Or.inl rfl) ?_
  | with_reducible refine CallC_of (f := 16) (fun _ => same_fn (n.choice l k) (n.choice l k)) (by first | exact Or.inr rfl | exact Or.inl rfl) ?_
  | with_reducible refine CallU_of (f := 16) (same_fn a (n.choice l x.1)) (by first | exact Or.inr rfl | exact Or.inl rfl) ?_
  | with_reducible refine CallC_of (f := 16) (fun _ => same_fn a (n.choice l x.1)) (by first | exact Or.inr rfl | exact Or.inl rfl) ?_
  | with_reducible refine CallU_of (f := 19) (is_fn n hn l hl) (by first | exact Or.inr rfl | exact Or.inl rfl) ?_
  | with_reducible refine CallC_of (f := 19) (fun _ => is_fn n hn l hl) (by first | exact Or.inr rfl | exact Or.inl rfl) ?_
  | (with_reducible assumption)
  | with_reducible refine fun (hG : okL _) => ?_
  | (with_reducible refine fun (hT : (_ : Bool) = _) => ?_)
  | (with_reducible first | exact hG.2 | exact hG.2.2 | exact hG.2.2.2 | exact hG.2.2.2.2)
  | with_reducible refine okL_mk ?_ ?_
  | with_reducible refine And.intro ?_ ?_
  | (with_reducible refine awp_loopU (b := f4p6) (fun x : Nat × Bool => x.1 ≤ l.length ∧ (x.2 && isGo n l (l.drop x.1) x.1) = n.isV l) (fun x => l.length - x.1) (fun x => [(9, .d (.v (.bool x.2))), (10, .d (.v (.int .i64 x.1)))]) (fun x => []) ((0, (l.length : Int) == n.origin.length)) (⟨Nat.zero_le _, by simp only [Net.isV]; by_cases h : l.length = n.origin.length <;> simp [h] <;> (intro q; omega)⟩) (Wk.refl _ _) (Wk_sub rfl rfl ?_ ?_) (fun x hx => ?_))
  | (have hlt := law_lt hc; refine Exists.elim (at_drop Attr.row l x.1 hlt.2) (fun a he => ?_); have g1 := he.2.1; replace hc : True := trivial)
  | (with_reducible refine loopQ_next ((x.1 + 1, sameA a (n.choice l x.1))) ?_ ?_ (Wk_sub rfl rfl ?_ ?_))
  | simp only [f4r0, f4r1, f4r2, f4r3, f4r4, f4r5, f4r6, f4r7, f4r8, f4r9, f4r10, f4r11, g1, f4k, List.length_map, runG_nil, runG_u, runG_g, runG_ucS, runG_gcS, stp, evs, evX, lget, lput, strip, putO, PO.dst, updO, okR, cells, splice, AV.cell, toD, toDs, binV, sameK, pickV, guardOf, okL_nil, sides, argsOf, rawOf, dv, dvL, owns, ownsL, flat, flatL, lkeep, seqQ, blockQ, initS, List.drop_succ_cons, List.drop_zero, List.take_succ_cons, List.take_zero, List.getD_cons_zero, List.getD_cons_succ, List.length_cons, List.length_nil, List.set_cons_zero, List.set_cons_succ, List.map_cons, List.map_nil, List.all_cons, List.all_nil, List.elem_cons, List.elem_nil, Option.getD_some, Option.getD_none, Option.bind_some, Option.isNone_none, reduceIte, reduceCtorEq, Nat.reduceEqDiff, Nat.reduceAdd, Nat.reduceLeDiff, Nat.zero_add, Nat.add_zero, Nat.reduceBEq, Bool.and_self, Bool.and_true, Bool.true_and, Bool.or_self, Bool.or_false, Bool.false_or, Bool.or_true, Bool.true_or, true_and, and_true, and_self, implies_true, forall_const, Bool.false_eq_true, id_eq, retQ, resOf, resV, Option.some.injEq, exists_eq_left', AV.d.injEq, D.v.injEq, Value.bool.injEq, imp_self, bldF, bldS, toVals, eqLs, Option.map_some, imp_false, not_true_eq_false, not_false_eq_true, foot, wrs, nm, nmL, PG.reads, PG.dst, PO.reads, X.sl, sls, slB, List.append_nil, List.cons_append, List.nil_append, Option.toList_some, Option.toList_none, loopQ_exit, loopQ_ret, subS, subO, Bool.bne_false, Bool.bne_true, elemsOf, bslD, bslS, mentries, isAgV, asA, lputs, mgetD_set, mcmp_set, mput_set, List.headD_cons, sealS, sealO, sealV, sealL, mput_nil, mcmp_nil, midQ_ret, midQ_exit, sealsS, sealsO, runW_nil, runW_cons, Bool.true_bne, Bool.false_bne, bne_self_eq_false, Int.reduceToNat]
  | simp only [f4r0, f4r1, f4r2, f4r3, f4r4, f4r5, f4r6, f4r7, f4r8, f4r9, f4r10, f4r11, f4k, List.length_map, runG_nil, runG_u, runG_g, runG_ucS, runG_gcS, stp, evs, evX, lget, lput, strip, putO, PO.dst, updO, okR, cells, splice, AV.cell, toD, toDs, binV, sameK, pickV, guardOf, okL_nil, sides, argsOf, rawOf, dv, dvL, owns, ownsL, flat, flatL, lkeep, seqQ, blockQ, initS, List.drop_succ_cons, List.drop_zero, List.take_succ_cons, List.take_zero, List.getD_cons_zero, List.getD_cons_succ, List.length_cons, List.length_nil, List.set_cons_zero, List.set_cons_succ, List.map_cons, List.map_nil, List.all_cons, List.all_nil, List.elem_cons, List.elem_nil, Option.getD_some, Option.getD_none, Option.bind_some, Option.isNone_none, reduceIte, reduceCtorEq, Nat.reduceEqDiff, Nat.reduceAdd, Nat.reduceLeDiff, Nat.zero_add, Nat.add_zero, Nat.reduceBEq, Bool.and_self, Bool.and_true, Bool.true_and, Bool.or_self, Bool.or_false, Bool.false_or, Bool.or_true, Bool.true_or, true_and, and_true, and_self, implies_true, forall_const, Bool.false_eq_true, id_eq, retQ, resOf, resV, Option.some.injEq, exists_eq_left', AV.d.injEq, D.v.injEq, Value.bool.injEq, imp_self, bldF, bldS, toVals, eqLs, Option.map_some, imp_false, not_true_eq_false, not_false_eq_true, foot, wrs, nm, nmL, PG.reads, PG.dst, PO.reads, X.sl, sls, slB, List.append_nil, List.cons_append, List.nil_append, Option.toList_some, Option.toList_none, loopQ_exit, loopQ_ret, subS, subO, Bool.bne_false, Bool.bne_true, elemsOf, bslD, bslS, mentries, isAgV, asA, lputs, mgetD_set, mcmp_set, mput_set, List.headD_cons, sealS, sealO, sealV, sealL, mput_nil, mcmp_nil, midQ_ret, midQ_exit, sealsS, sealsO, runW_nil, runW_cons, Bool.true_bne, Bool.false_bne, bne_self_eq_false, Int.reduceToNat]
  all_goals try first
    | omega
    | (with_reducible rfl)
    | (show Value.int _ 0 = _; rfl)
    | (simp only [List.length_append, List.length_cons, List.length_nil]; omega)
    | (simp only [List.length_append, List.length_cons, List.length_nil, List.map_append, List.map_cons, List.map_nil]; done)
    | exact count64 he.2.2.2 (by omega)
    | (simp [sameA_refl] at hc; done)
    | (have h1 := hx.2; rw [he.1, hlt.1, isGo] at h1; rw [← h1]; cases sameA a (n.choice l x.1) <;> simp; done)
    | (have h1 := hx.2; rw [← h1]; cases hb : x.2 <;> simp [hb] at hc ⊢; rw [List.drop_eq_nil_of_le (by omega)]; simp [isGo]; done)
  all_goals trace_state
theorem raw_as (av : List AV) (h : dArgs te 8 [35, 23, 3] av) (hN : szAs av ≤ 1048576) : FnS Try.prog 4 av (.d (.v (.bool true))) := by
  obtain ⟨x, _, rfl, hx, y, _, rfl, hy, z, _, rfl, hz, rfl⟩ := h
  obtain ⟨n, rfl⟩ := net_of (n := 0) hx
  obtain ⟨l, rfl, _⟩ := attrs_of (n := 5) hy
  obtain ⟨k, rfl⟩ := int_row (n := 7) hz
  have hN : szAV n.av + (szLL (l.map Attr.row) + 1 + (1 + 0)) ≤ 1048576 := hN
  have h2 := szLL_map Attr.row (fun a => by simp) l
  exact raw_fn n (Net.small_of (by omega)) l (by omega) k
theorem isBulk {H : Type} : Bulk (H := H) Rows.uptoBulk Rows.uptoBulkAll where
  lit l := by cases l <;> simp [Rows.uptoBulk]
  str b := by simp [Rows.uptoBulk]
  nil := by simp [Rows.uptoBulk]
  slice l s := by simp [Rows.uptoBulk]
  agg l := by simp [Rows.uptoBulk]
  nilA := by simp [Rows.uptoBulkAll]
  cons x r := by simp [Rows.uptoBulkAll]

set_option maxRecDepth 100000 in
theorem stableRaw_lifted (os : Os) (started : os.Started) (H : Type) (enc : TypeId × Value → H) (F0 : Stop.Interp) :
    ReturnsInHanded {} Try.checked os 4 .any ((Rows.OpenSpec.upto Rows.stableRawSpec).pre6 enc Try.prog Try.f4 Rows.stableRawUptoRow.domain false) (((Rows.OpenSpec.upto Rows.stableRawSpec).at F0).post enc Try.prog Try.f4 false true false false) := by
  refine returnsInHanded_of_cond (C := Try.checked) (s := Rows.OpenSpec.upto Rows.stableRawSpec) (k := Rows.uptoSmall) rfl own started (by kernel_rfl) Try.func4
    (OpenSpec.witness (enc := enc) (C := Try.checked) (s := Rows.OpenSpec.upto Rows.stableRawSpec) (k := Rows.uptoSmall) rfl false ⟨#[], #[.agg #[.slice none 0 0, .slice none 0 0, .slice none 0 0], .slice none 0 0, .int .i64 0], []⟩ 8 (by kernel_rfl) (by kernel_rfl) (by kernel_rfl)
      (x := ([.agg [.nil, .nil, .nil], .nil, .lit (.int .i64 0)], [], [])) (by kernel_rfl) (by kernel_rfl) (by kernel_rfl)) ?_
  intro W base args ds gs before hval hW hcnd hk _
  have hp : Try.f4.params.toList = [35, 23, 3] := by kernel_rfl
  refine law_callsU (n := 8) (b := 4) (N := 1048576) isBulk laidOut (by rw [hp]; exact List.forall_mem_cons.2 ⟨⟨by kernel_rfl, of_decide_eq_true (by kernel_rfl)⟩, List.forall_mem_cons.2 ⟨⟨by kernel_rfl, of_decide_eq_true (by kernel_rfl)⟩, List.forall_mem_cons.2 ⟨⟨by kernel_rfl, of_decide_eq_true (by kernel_rfl)⟩, (by simp)⟩⟩⟩) (by rw [hp]; exact List.forall_mem_cons.2 ⟨by kernel_rfl, List.forall_mem_cons.2 ⟨by kernel_rfl, List.forall_mem_cons.2 ⟨by kernel_rfl, (by simp)⟩⟩⟩) rfl (by kernel_rfl) (by kernel_rfl) (fun ds hd => ?_) hval hW (of_decide_eq_true hk) (fun av h hN => raw_as av (argsT_d teok _ _ _ (by rw [hp]; exact List.forall_mem_cons.2 ⟨rfl, List.forall_mem_cons.2 ⟨rfl, List.forall_mem_cons.2 ⟨rfl, (by simp)⟩⟩⟩) h |> (hp ▸ ·)) hN)
  have hd : ds.length = 3 := hd
  match ds, hd with
  | [_, _, _], _ => rfl
theorem stableRaw_holds : Rows.StableRawUptoSaid :=
  OpenClaim.holds_of_cond 4 Try.f4 rfl rfl rfl rfl rfl rfl rfl ⟨rfl, rfl, rfl, rfl, rfl⟩ rfl rfl rfl rfl rfl (by kernel_rfl) Try.func4 (by kernel_rfl)
    (of_decide_eq_true (by kernel_rfl)) (by unfold Func.isWrapper; first | (rw [if_pos (by decide +kernel)]; kernel_rfl) | (rw [if_neg (by decide +kernel)]; exact ⟨rfl, rfl⟩))
    (fun os started H enc _ F0 => stableRaw_lifted os started H enc F0)
end Go.Proofs.Ytiknbnkngmfdgaa
