/- What truth.build and truth.Build come to. Printed by a program of this project (wip/mq). -/
import Derived.Test.YtgkkaimcchlnaaaGreatDoorArena
set_option linter.unusedVariables false
set_option linter.unusedSimpArgs false

namespace Go.Proofs.YtgkkaimcchlnaaaGreatDoor
open Go Mq Go.ChangeShapes Go.WideShapes Go.ChangeAt Go.RowKit
/-! maquette/truth.build -/
def f171r0 : List PG := [.u (.mv 6 (.k (.int .i64 0))), .u (.mv 7 (.k (.nilIface)))]
def f171r1 : List PG := [.u (.mv 12 (.t 2)), .u (.len 13 (.t 12)), .u (.beq 14 false false (.t 13) (.k (.int .i64 1)))]
def f171r2 : List PG := [.u (.mv 15 (.t 2)), .u (.ia 16 1 (.t 15) (.k (.int .i64 0))), .u (.ld 17 1 false (.t 16))]
def f171r3 : List PG := [.u (.mv 6 (.k (.int .i64 1))), .u (.mv 7 (.k (.nilIface)))]
abbrev f171p0 : PC := .seq (.reg f171r3) (.ret)
abbrev f171p1 : PC := .cond (.t 17) (f171p0) (.skip)
def f171r4 : List PG := [.u (.mv 6 (.k (.int .i64 0))), .u (.mv 7 (.k (.nilIface)))]
abbrev f171p2 : PC := .seq (.reg f171r4) (.ret)
abbrev f171p3 : PC := .seq (.seq (.reg f171r2) (f171p1)) (f171p2)
abbrev f171p4 : PC := .cond (.t 14) (f171p3) (.skip)
def f171r5 : List PG := [.u (.mv 18 (.t 2)), .u (.len 19 (.t 18)), .u (.bo 20 .quo (.t 19) (.k (.int .i64 2))), .u (.mv 8 (.t 20))]
def f171r6 : List PG := [.u (.mv 22 (.t 0)), .u (.mv 23 (.t 1)), .u (.bo 24 .add (.t 23) (.k (.int .i64 1))), .u (.mv 25 (.t 2)), .u (.mv 26 (.t 8)), .u (.slc 27 1 (.t 25) none (some (.t 26))), .uc 28 171 [.t 22, .t 24, .t 27], .u (.mv 21 (.t 28)), .u (.ext 29 (.t 21) 0), .u (.ext 30 (.t 21) 1), .u (.mv 9 (.t 29)), .u (.mv 10 (.t 30))]
def f171r7 : List PG := [.u (.mv 31 (.t 10)), .u (.beqn 32 true (.t 31))]
def f171r8 : List PG := [.u (.mv 33 (.t 10)), .u (.mv 6 (.k (.int .i64 0))), .u (.mv 7 (.t 33))]
abbrev f171p5 : PC := .seq (.reg f171r8) (.ret)
abbrev f171p6 : PC := .cond (.t 32) (f171p5) (.skip)
def f171r9 : List PG := [.u (.mv 35 (.t 0)), .u (.mv 36 (.t 1)), .u (.bo 37 .add (.t 36) (.k (.int .i64 1))), .u (.mv 38 (.t 2)), .u (.mv 39 (.t 8)), .u (.slc 40 1 (.t 38) (some (.t 39)) none), .uc 41 171 [.t 35, .t 37, .t 40], .u (.mv 34 (.t 41)), .u (.ext 42 (.t 34) 0), .u (.ext 43 (.t 34) 1), .u (.mv 11 (.t 42)), .u (.mv 10 (.t 43))]
def f171r10 : List PG := [.u (.mv 44 (.t 10)), .u (.beqn 45 true (.t 44))]
def f171r11 : List PG := [.u (.mv 46 (.t 10)), .u (.mv 6 (.k (.int .i64 0))), .u (.mv 7 (.t 46))]
abbrev f171p7 : PC := .seq (.reg f171r11) (.ret)
abbrev f171p8 : PC := .cond (.t 45) (f171p7) (.skip)
def f171r12 : List PG := [.u (.mv 47 (.t 0)), .u (.mv 48 (.t 1)), .u (.mv 49 (.t 9)), .u (.mv 50 (.t 11)), .uc 51 185 [.t 47, .t 48, .t 49, .t 50], .u (.ext 52 (.t 51) 0), .u (.ext 53 (.t 51) 1), .u (.mv 6 (.t 52)), .u (.mv 7 (.t 53))]
abbrev f171p9 : PC := .seq (.reg f171r12) (.ret)
abbrev f171p10 : PC := .seq (.seq (.reg f171r10) (f171p8)) (f171p9)
abbrev f171p11 : PC := .seq (.reg f171r9) (f171p10)
abbrev f171p12 : PC := .seq (.seq (.reg f171r7) (f171p6)) (f171p11)
abbrev f171p13 : PC := .seq (.reg f171r6) (f171p12)
abbrev f171p14 : PC := .seq (.reg f171r5) (f171p13)
abbrev f171p15 : PC := .seq (.seq (.reg f171r1) (f171p4)) (f171p14)
abbrev f171pc : PC := .seq (.reg f171r0) (f171p15)
def f171k : List Nat := [0, 1, 2, 6, 7, 8, 9, 10, 11, 14, 17, 32, 45]
theorem f171c : Tryz.f171.body.bind (cC te Tryz.f171.ntmps) = some f171pc := by kernel_rfl
/-! maquette/truth.Build -/
def f138r0 : List PG := [.u (.mv 6 (.k (.int .i64 0))), .u (.mv 7 (.k (.nilIface)))]
def f138r1 : List PG := [.u (.mv 8 (.t 1)), .u (.bo 9 .lss (.t 8) (.k (.int .i64 0))), .u (.mv 10 (.t 9)), .g 10 false (.mv 11 (.t 1)), .g 10 false (.bo 12 .gtr (.t 11) (.k (.int .i64 10))), .u (.pick 13 (.t 10) (.k (.bool true)) (.t 12)), .u (.mv 14 (.t 13)), .g 14 false (.mv 15 (.t 2)), .g 14 false (.len 16 (.t 15)), .g 14 false (.mv 17 (.t 1)), .g 14 false (.bo 18 .shl (.k (.int .i64 1)) (.t 17)), .g 14 false (.beq 19 true false (.t 16) (.t 18)), .u (.pick 20 (.t 14) (.k (.bool true)) (.t 19))]
def f138r2 : List PG := [.u (.mki 21 95 (.k (.int .i64 10))), .u (.mv 6 (.k (.int .i64 0))), .u (.mv 7 (.t 21))]
abbrev f138p0 : PC := .seq (.reg f138r2) (.ret)
abbrev f138p1 : PC := .cond (.t 20) (f138p0) (.skip)
def f138r3 : List PG := [.u (.mv 22 (.t 0)), .u (.mv 23 (.t 2)), .uc 24 171 [.t 22, .k (.int .i64 0), .t 23], .u (.ext 25 (.t 24) 0), .u (.ext 26 (.t 24) 1), .u (.mv 6 (.t 25)), .u (.mv 7 (.t 26))]
abbrev f138p2 : PC := .seq (.reg f138r3) (.ret)
abbrev f138p3 : PC := .seq (.seq (.reg f138r1) (f138p1)) (f138p2)
abbrev f138pc : PC := .seq (.reg f138r0) (f138p3)
def f138k : List Nat := [0, 1, 2, 6, 7, 20]
theorem f138c : Tryz.f138.body.bind (cC te Tryz.f138.ntmps) = some f138pc := by kernel_rfl
set_option maxRecDepth 20000
set_option maxHeartbeats 4000000


theorem bmap_take (k : Nat) (rows : List Bool) : List.take k (List.map bD rows) = List.map bD (rows.take k) := by simp
theorem bmap_drop (k : Nat) (rows : List Bool) : List.drop k (List.map bD rows) = List.map bD (rows.drop k) := by simp
theorem build0_fn {ns : List Nd} (h : ArOk ns) (v : Int) (b : Bool) : FnG Tryz.prog 171 [.ptr 100000 0, .d (.v (.int .i64 v)), .d (.sl 1 [bD b])] (arO ns) (.tp [.d (.v (.int .i64 (if b = true then 1 else 0))), .d (.v .nilIface)]) (arO ns) := by
  refine fnG_of teok Tryz.func171 (by kernel_rfl) f171c f171k [.tmp 6, .tmp 7] rfl (by show 3 ≤ 54; omega) ?_
  repeat' first
|(exact absurd hc (by decide))
|(with_reducible first | refine awp_seq ?_ | refine awp_reg ?_ | refine awp_ret ?_ | refine awp_skip ?_ | refine normQ_of ?_ | refine wkE_of ?_)
|with_reducible refine retG_ret rfl ?_ ?_
|with_reducible refine retG_nrm rfl ?_ ?_
|with_reducible refine awp_cond (by simp only [evX, lget, Option.getD_some, reduceIte, Nat.reduceEqDiff]; rfl) (fun hc => ?_) (fun hc => ?_)
|(with_reducible assumption)
|(with_reducible refine fun (hT : (_ : Bool) = _) => ?_)
|with_reducible refine And.intro ?_ ?_
|simp only [f171r0, f171r1, f171r2, f171r3, f171r4, f171r5, f171r6, f171r7, f171r8, f171r9, f171r10, f171r11, f171r12, f171k, List.length_map, List.headD_cons, runG_nil, runG_u, runG_ucS, stp, avL, avS, evs, evX, lget, lput, strip, putO, PO.dst, updO, okR, cells, splice, AV.cell, toD, toDs, binV, sameK, pickV, guardOf, okL_nil, sides, argsOf, rawOf, dv, dvL, owns, ownsL, flat, flatL, lkeep, seqQ, blockQ, initS, List.drop_succ_cons, List.drop_zero, List.take_succ_cons, List.take_zero, List.getD_cons_zero, List.getD_cons_succ, List.length_cons, List.length_nil, List.set_cons_zero, List.set_cons_succ, List.map_cons, List.map_nil, List.all_cons, List.all_nil, List.elem_cons, List.elem_nil, Option.getD_some, Option.getD_none, Option.bind_some, Option.isNone_none, reduceIte, reduceCtorEq, Nat.reduceEqDiff, Nat.reduceAdd, Nat.reduceLeDiff, Nat.zero_add, Nat.add_zero, Nat.reduceBEq, Bool.and_self, Bool.and_true, Bool.true_and, Bool.or_self, Bool.or_false, Bool.false_or, Bool.or_true, Bool.true_or, true_and, and_true, and_self, implies_true, forall_const, Bool.false_eq_true, id_eq, retQ, resOf, resV, Option.some.injEq, exists_eq_left', AV.d.injEq, D.v.injEq, Value.bool.injEq, imp_self, bldF, bldS, toVals, eqLs, Option.map_some, imp_false, not_true_eq_false, not_false_eq_true, List.append_nil, List.cons_append, List.nil_append, Option.toList_some, Option.toList_none, subS, subO, Bool.bne_false, Bool.bne_true, elemsOf, bslD, bslS, lputs, List.headD_cons, sealS, sealO, sealV, sealL, sealsS, sealsO, Bool.true_bne, Bool.false_bne, bne_self_eq_false, Int.reduceToNat, bndV, oSl, resR, runS_nil, runS_gc, ren, renL, renO, sg, gBack, argsN, dvN]
  all_goals try first
|omega
|rfl
|(rw [if_pos hc]; done)
|(rw [if_neg (by rw [hc]; decide)]; done)
|decide
|(rw [ea]; done)
|(rw [ea, hp]; done)
|(simp at hc; done)
|(simp; omega)
abbrev BFn (m : Nat) (ns : List Nd) (v : Int) (rows : List Bool) : Prop := FnG Tryz.prog 171 [.ptr 100000 0, .d (.v (.int .i64 v)), .d (.sl 1 (rows.map bD))] (arO ns) (.tp [.d (.v (.int .i64 (bld m ns v rows).2)), .d (.v .nilIface)]) (arO (bld m ns v rows).1)
theorem build_step (m : Nat) (ns : List Nd) (v : Int) (rows : List Bool) (hl : rows.length = 2 ^ m + 2 ^ m) (hm4 : m ≤ 3) (hv : 0 ≤ v ∧ v < 4) (r1 r2 r3 : List Nd × Int)
    (i1 : FnG Tryz.prog 171 [.ptr 100000 0, .d (.v (.int .i64 (v + 1))), .d (.sl 1 ((rows.take (2 ^ m)).map bD))] (arO ns) (.tp [.d (.v (.int .i64 r1.2)), .d (.v .nilIface)]) (arO r1.1))
    (i2 : FnG Tryz.prog 171 [.ptr 100000 0, .d (.v (.int .i64 (v + 1))), .d (.sl 1 ((rows.drop (2 ^ m)).map bD))] (arO r1.1) (.tp [.d (.v (.int .i64 r2.2)), .d (.v .nilIface)]) (arO r2.1))
    (i3 : FnG Tryz.prog 185 [.ptr 100000 0, .d (.v (.int .i64 v)), .d (.v (.int .i64 r1.2)), .d (.v (.int .i64 r2.2))] (arO r2.1) (.tp [.d (.v (.int .i64 r3.2)), .d (.v .nilIface)]) (arO r3.1)) :
    FnG Tryz.prog 171 [.ptr 100000 0, .d (.v (.int .i64 v)), .d (.sl 1 (rows.map bD))] (arO ns) (.tp [.d (.v (.int .i64 r3.2)), .d (.v .nilIface)]) (arO r3.1) := by
  have hm : maxLen = 9223372036854775807 := rfl
  have hpb : 2 ^ m ≤ 8 := Nat.le_trans (Nat.pow_le_pow_right (by decide) hm4) (by decide)
  have hp1 : 1 ≤ 2 ^ m := Nat.one_le_two_pow
  generalize 2 ^ m = K at *
  have q1 : ((rows.length : Int) == 1) = false := by rw [beq_eq_false_iff_ne]; omega
  have q2 : IntKind.i64.wrap ((rows.length : Int).tdiv 2) = (K : Int) := by
    rw [hl, show (((K + K : Nat) : Int)) = (K : Int) * 2 by push_cast; omega, Int.mul_tdiv_cancel _ (by decide)]
    exact wrapI64 _ (by omega) (by omega)
  have q3 : IntKind.i64.wrap (v + 1) = v + 1 := wrapI64 _ (by omega) (by omega)
  have q4 : ((K : Int)).toNat = K := Int.toNat_natCast _
  have q5 : List.take rows.length rows = rows := List.take_length
  refine fnG_of teok Tryz.func171 (by kernel_rfl) f171c f171k [.tmp 6, .tmp 7] rfl (by show 3 ≤ 54; omega) ?_
  repeat' first
|(exact absurd hc (by decide))
|(with_reducible refine awp_sc (l := f171r6) [(6, .gc [100000, 100001, 100002] [] [])] ?_; unfold f171r6)
|(with_reducible refine awp_sc (l := f171r9) [(6, .gc [100000, 100001, 100002] [] [])] ?_; unfold f171r9)
|(with_reducible refine awp_sc (l := f171r12) [(4, .gc [100000, 100001, 100002] [] [])] ?_; unfold f171r12)
|(with_reducible first | refine awp_seq ?_ | refine awp_reg ?_ | refine awp_ret ?_ | refine awp_skip ?_ | refine normQ_of ?_ | refine wkE_of ?_)
|with_reducible refine retG_ret rfl ?_ ?_
|with_reducible refine retG_nrm rfl ?_ ?_
|with_reducible refine awp_cond (by simp only [evX, lget, Option.getD_some, reduceIte, Nat.reduceEqDiff]; rfl) (fun hc => ?_) (fun hc => ?_)
|with_reducible refine gc_of (f := 171) (i1) ?_ rfl rfl rfl rfl (Or.inl rfl) ?_
|with_reducible refine gc_of (f := 171) (i2) ?_ rfl rfl rfl rfl (Or.inl rfl) ?_
|with_reducible refine gc_of (f := 185) (i3) ?_ rfl rfl rfl rfl (Or.inl rfl) ?_
|(with_reducible assumption)
|(with_reducible refine fun (hT : (_ : Bool) = _) => ?_)
|with_reducible refine And.intro ?_ ?_
|simp only [f171r0, f171r1, f171r2, f171r3, f171r4, f171r5, f171r7, f171r8, f171r10, f171r11, q1, q2, q3, q4, q5, bmap_take, bmap_drop, f171k, List.length_map, List.getElem?_cons_zero, List.getElem?_cons_succ, runG_nil, runG_u, runG_ucS, stp, avL, avS, evs, evX, lget, lput, strip, putO, PO.dst, updO, okR, cells, splice, AV.cell, toD, toDs, binV, sameK, pickV, guardOf, okL_nil, sides, argsOf, rawOf, dv, dvL, owns, ownsL, flat, flatL, lkeep, seqQ, blockQ, initS, List.drop_succ_cons, List.drop_zero, List.take_succ_cons, List.take_zero, List.getD_cons_zero, List.getD_cons_succ, List.length_cons, List.length_nil, List.set_cons_zero, List.set_cons_succ, List.map_cons, List.map_nil, List.all_cons, List.all_nil, List.elem_cons, List.elem_nil, Option.getD_some, Option.getD_none, Option.bind_some, Option.isNone_none, reduceIte, reduceCtorEq, Nat.reduceEqDiff, Nat.reduceAdd, Nat.reduceLeDiff, Nat.zero_add, Nat.add_zero, Nat.reduceBEq, Bool.and_self, Bool.and_true, Bool.true_and, Bool.or_self, Bool.or_false, Bool.false_or, Bool.or_true, Bool.true_or, true_and, and_true, and_self, implies_true, forall_const, Bool.false_eq_true, id_eq, retQ, resOf, resV, Option.some.injEq, exists_eq_left', AV.d.injEq, D.v.injEq, Value.bool.injEq, imp_self, bldF, bldS, toVals, eqLs, Option.map_some, imp_false, not_true_eq_false, not_false_eq_true, List.append_nil, List.cons_append, List.nil_append, Option.toList_some, Option.toList_none, subS, subO, Bool.bne_false, Bool.bne_true, elemsOf, bslD, bslS, lputs, List.headD_cons, sealS, sealO, sealV, sealL, sealsS, sealsO, Bool.true_bne, Bool.false_bne, bne_self_eq_false, Int.reduceToNat, bndV, oSl, resR, runS_nil, runS_gc, ren, renL, renO, sg, gBack, argsN, dvN]
  all_goals try first
|omega
|rfl
|decide
|(rw [ea]; done)
|(rw [ea, hp]; done)
|(simp at hc; done)
|(simp; omega)
theorem build_fn : ∀ (m : Nat) (ns : List Nd) (v : Int) (rows : List Bool), ArOk ns → rows.length = 2 ^ m → 0 ≤ v → v + m = 4 → BFn m ns v rows
  | 0, ns, v, rows, h, hl, hv, hm => by
    match rows, hl with
    | [b], _ => exact build0_fn h v b
  | m + 1, ns, v, rows, h, hl, hv, hvm => by
    have hp : 2 ^ (m + 1) = 2 ^ m + 2 ^ m := by rw [Nat.pow_succ]; omega
    obtain ⟨a1, _, a3, a4, a5, _⟩ := bld_spec m ns (v + 1) (rows.take (2 ^ m)) h (by rw [List.length_take]; omega) (by omega) (by omega)
    obtain ⟨b1, ⟨t2, b2, _⟩, b3, b4, b5, _⟩ := bld_spec m (bld m ns (v + 1) (rows.take (2 ^ m))).1 (v + 1) (rows.drop (2 ^ m)) a1 (by rw [List.length_drop]; omega) (by omega) (by omega)
    have c4 : (bld m ns (v + 1) (rows.take (2 ^ m))).2 < (bld m (bld m ns (v + 1) (rows.take (2 ^ m))).1 (v + 1) (rows.drop (2 ^ m))).1.length := by rw [b2, List.length_append]; omega
    have c5 : v + 1 ≤ (nd (bld m (bld m ns (v + 1) (rows.take (2 ^ m))).1 (v + 1) (rows.drop (2 ^ m))).1 (bld m ns (v + 1) (rows.take (2 ^ m))).2).1 := by rw [b2, nd_app a3 a4]; exact a5
    exact build_step m ns v rows (by omega) (by omega) (by omega) _ _ _ (build_fn m ns (v + 1) (rows.take (2 ^ m)) h (by rw [List.length_take]; omega) (by omega) (by omega))
      (build_fn m _ (v + 1) (rows.drop (2 ^ m)) a1 (by rw [List.length_drop]; omega) (by omega) (by omega))
      (mk_fn b1 (v := v) (by omega) ⟨a3, c4⟩ ⟨b3, b4⟩ (by omega) (by omega))
theorem tbuild_fn {ns : List Nd} (h : ArOk ns) (rows : List Bool) (hl : rows.length = 16) : FnG Tryz.prog 138 [.ptr 100000 0, .d (.v (.int .i64 4)), .d (.sl 1 (rows.map bD))] (arO ns) (.tp [.d (.v (.int .i64 (bld 4 ns 0 rows).2)), .d (.v .nilIface)]) (arO (bld 4 ns 0 rows).1) := by
  have i1 := build_fn 4 ns 0 rows h hl (by decide) (by decide)
  have q1 : ((rows.length : Int) == IntKind.i64.wrap (1 * 2 ^ (min (Int.toNat 4) IntKind.i64.bits))) = true := by rw [hl]; decide
  refine fnG_of teok Tryz.func138 (by kernel_rfl) f138c f138k [.tmp 6, .tmp 7] rfl (by show 3 ≤ 27; omega) ?_
  repeat' first
|(exact absurd hc (by decide))
|(with_reducible refine awp_sc (l := f138r3) [(2, .gc [100000, 100001, 100002] [] [])] ?_; unfold f138r3)
|(with_reducible first | refine awp_seq ?_ | refine awp_reg ?_ | refine awp_ret ?_ | refine awp_skip ?_ | refine normQ_of ?_ | refine wkE_of ?_)
|with_reducible refine retG_ret rfl ?_ ?_
|with_reducible refine retG_nrm rfl ?_ ?_
|with_reducible refine awp_cond (by simp only [evX, lget, Option.getD_some, reduceIte, Nat.reduceEqDiff]; rfl) (fun hc => ?_) (fun hc => ?_)
|with_reducible refine gc_of (f := 171) (i1) ?_ rfl rfl rfl rfl (Or.inl rfl) ?_
|(with_reducible assumption)
|with_reducible refine fun (hG : okL _) => ?_
|(with_reducible refine fun (hT : (_ : Bool) = _) => ?_)
|(with_reducible first | exact hG.2 | exact hG.2.2 | exact hG.2.2.2 | exact hG.2.2.2.2)
|with_reducible refine okL_mk ?_ ?_
|with_reducible refine And.intro ?_ ?_
|simp only [f138r0, f138r1, f138r2, q1, f138k, List.length_map, List.getElem?_cons_zero, List.getElem?_cons_succ, runG_nil, runG_u, runG_g, runG_ucS, stp, avL, avS, evs, evX, lget, lput, strip, putO, PO.dst, updO, okR, cells, splice, AV.cell, toD, toDs, binV, sameK, pickV, guardOf, okL_nil, sides, argsOf, rawOf, dv, dvL, owns, ownsL, flat, flatL, lkeep, seqQ, blockQ, initS, List.drop_succ_cons, List.drop_zero, List.take_succ_cons, List.take_zero, List.getD_cons_zero, List.getD_cons_succ, List.length_cons, List.length_nil, List.set_cons_zero, List.set_cons_succ, List.map_cons, List.map_nil, List.all_cons, List.all_nil, List.elem_cons, List.elem_nil, Option.getD_some, Option.getD_none, Option.bind_some, Option.isNone_none, reduceIte, reduceCtorEq, Nat.reduceEqDiff, Nat.reduceAdd, Nat.reduceLeDiff, Nat.zero_add, Nat.add_zero, Nat.reduceBEq, Bool.and_self, Bool.and_true, Bool.true_and, Bool.or_self, Bool.or_false, Bool.false_or, Bool.or_true, Bool.true_or, true_and, and_true, and_self, implies_true, forall_const, Bool.false_eq_true, id_eq, retQ, resOf, resV, Option.some.injEq, exists_eq_left', AV.d.injEq, D.v.injEq, Value.bool.injEq, imp_self, bldF, bldS, toVals, eqLs, Option.map_some, imp_false, not_true_eq_false, not_false_eq_true, List.append_nil, List.cons_append, List.nil_append, Option.toList_some, Option.toList_none, subS, subO, Bool.bne_false, Bool.bne_true, elemsOf, bslD, bslS, lputs, List.headD_cons, sealS, sealO, sealV, sealL, sealsS, sealsO, Bool.true_bne, Bool.false_bne, bne_self_eq_false, Int.reduceToNat, oSl, resR, runS_nil, runS_gc, ren, renL, renO, sg, gBack, argsN, dvN]
  all_goals try first
|omega
|rfl
|decide
|(rw [hl] at hc; exact absurd hc (by decide))
|(rw [ea]; done)
|(rw [ea, hp]; done)
|(simp at hc; done)
|(simp; omega)
end Go.Proofs.YtgkkaimcchlnaaaGreatDoor
