/- What solve.Greedy comes to. Printed by a program of this project (wip/mq). -/
import Derived.Test.YtajkgmmmkhekmaaLikes
import Derived.Test.YtajkgmmmkhekmaaStable
namespace Go.Proofs.Ytajkgmmmkhekmaa
open Go Mq Go.ChangeShapes Go.WideShapes Go.ChangeAt Go.RowKit
/-! maquette/solve.Greedy -/
def f29r0 : List PG := [.u (.bx 1 (.t 0)), .u (.mv 2 (.nl 4)), .u (.mv 3 (.k (.bool false)))]
def f29r1 : List PG := [.u (.ld 11 3 true (.t 1)), .uc 12 23 [.t 11], .u (.no 13 (.t 12)), .u (.mv 14 (.t 13)), .g 14 false (.ld 15 3 true (.t 1)), .gc 14 false 16 30 [.t 15], .u (.pick 17 (.t 14) (.k (.bool true)) (.t 16))]
def f29r2 : List PG := [.u (.mv 2 (.nl 4)), .u (.mv 3 (.k (.bool false)))]
abbrev f29p0 : PC := .seq (.reg f29r2) (.ret)
abbrev f29p1 : PC := .cond (.t 17) (f29p0) (.skip)
def f29r3 : List PG := [.u (.fa 18 0 (.t 1)), .u (.ld 19 1 false (.t 18)), .u (.len 20 (.t 19)), .u (.mks 21 45 4 32 [.d (.v (.bool false)), .d (.v (.int .i64 0)), .d (.v (.int .i64 0)), .d (.v (.int .u8 0))] (.t 20)), .u (.mv 4 (.t 21))]
def f29r4 : List PG := [.u (.mv 22 (.t 4)), .u (.len 23 (.t 22)), .u (.mks 24 4 1 1 [.d (.v (.bool false))] (.t 23)), .u (.mv 5 (.t 24))]
def f29r5 : List PG := [.u (.mv 25 (.t 4)), .u (.len 26 (.t 25)), .u (.mv 27 (.k (.int .i64 0)))]
def f29r6 : List PG := [.u (.bo 28 .lss (.t 27) (.t 26))]
def f29r7 : List PG := [.u (.mv 29 (.t 27)), .u (.mv 6 (.t 29))]
def f29r8 : List PG := [.u (.ld 30 3 true (.t 1)), .u (.mv 31 (.t 6)), .uc 32 18 [.t 30, .t 31]]
def f29r9 : List PG := [.u (.mv 33 (.t 4)), .u (.mv 34 (.t 6)), .u (.mv 35 (.t 5)), .u (.mv 36 (.t 6)), .uc 37 25 [], .u (.ia 38 4 (.t 33) (.t 34)), .u (.st 4 (.t 38) (.t 37)), .u (.ia 39 1 (.t 35) (.t 36)), .u (.st 1 (.t 39) (.k (.bool true)))]
abbrev f29p2 : PC := .cond (.t 32) (.reg f29r9) (.skip)
abbrev f29p3 : PC := .seq (.reg f29r8) (f29p2)
def f29r10 : List PG := [.u (.bo 40 .add (.t 27) (.k (.int .i64 1))), .u (.mv 27 (.t 40))]
abbrev f29p4 : PC := .seq (.block 1 (.seq (.reg f29r7) (f29p3))) (.reg f29r10)
abbrev f29p5 : PC := .seq (.cond (.t 28) (.skip) (.exit 0)) (f29p4)
abbrev f29p6 : PC := .seq (.reg f29r6) (f29p5)
abbrev f29p7 : PC := .block 0 (.loop (f29p6))
def f29r11 : List PG := [.u (.bld 41 [.d (.v (.bool false)), .d (.v (.int .i64 0)), .d (.v (.int .i64 0)), .d (.v (.int .u8 0))] []), .u (.al 7 [.d (.v (.bool false)), .d (.v (.int .i64 0)), .d (.v (.int .i64 0)), .d (.v (.int .u8 0))]), .u (.st 4 (.t 7) (.t 41)), .u (.mv 8 (.k (.int .i64 (-1))))]
def f29r12 : List PG := [.u (.mv 42 (.t 4)), .u (.len 43 (.t 42)), .u (.mv 44 (.k (.int .i64 0)))]
def f29r13 : List PG := [.u (.bo 45 .lss (.t 44) (.t 43))]
def f29r14 : List PG := [.u (.mv 46 (.t 44)), .u (.mv 9 (.t 46))]
def f29r15 : List PG := [.u (.mv 47 (.t 5)), .u (.mv 48 (.t 9)), .u (.ia 49 1 (.t 47) (.t 48)), .u (.ld 50 1 false (.t 49))]
abbrev f29p8 : PC := .cond (.t 50) (.exit 5) (.skip)
def f29r16 : List PG := [.u (.ld 51 3 true (.t 1)), .u (.mv 52 (.t 4)), .u (.mv 53 (.t 9)), .uc 54 21 [.t 51, .t 52, .t 53], .u (.al 10 [.d (.v (.bool false)), .d (.v (.int .i64 0)), .d (.v (.int .i64 0)), .d (.v (.int .u8 0))]), .u (.st 4 (.t 10) (.t 54))]
def f29r17 : List PG := [.u (.ld 55 4 true (.t 10)), .u (.ld 56 4 true (.t 7)), .uc 57 41 [.t 55, .t 56]]
def f29r18 : List PG := [.u (.ld 58 4 true (.t 10)), .u (.mv 59 (.t 9)), .u (.st 4 (.t 7) (.t 58)), .u (.mv 8 (.t 59))]
abbrev f29p9 : PC := .cond (.t 57) (.reg f29r18) (.skip)
abbrev f29p10 : PC := .seq (.reg f29r17) (f29p9)
abbrev f29p11 : PC := .seq (.reg f29r16) (f29p10)
abbrev f29p12 : PC := .seq (.seq (.reg f29r15) (f29p8)) (f29p11)
def f29r19 : List PG := [.u (.bo 60 .add (.t 44) (.k (.int .i64 1))), .u (.mv 44 (.t 60))]
abbrev f29p13 : PC := .seq (.block 5 (.seq (.reg f29r14) (f29p12))) (.reg f29r19)
abbrev f29p14 : PC := .seq (.cond (.t 45) (.skip) (.exit 4)) (f29p13)
abbrev f29p15 : PC := .seq (.reg f29r13) (f29p14)
abbrev f29p16 : PC := .block 4 (.loop (f29p15))
def f29r20 : List PG := [.u (.mv 61 (.t 8)), .u (.bo 62 .lss (.t 61) (.k (.int .i64 0)))]
def f29r21 : List PG := [.u (.mv 63 (.t 4)), .u (.mv 2 (.t 63)), .u (.mv 3 (.k (.bool true)))]
abbrev f29p17 : PC := .seq (.reg f29r21) (.ret)
abbrev f29p18 : PC := .cond (.t 62) (f29p17) (.skip)
def f29r22 : List PG := [.u (.mv 64 (.t 4)), .u (.mv 65 (.t 8)), .u (.mv 66 (.t 5)), .u (.mv 67 (.t 8)), .u (.ld 68 4 true (.t 7)), .u (.ia 69 4 (.t 64) (.t 65)), .u (.st 4 (.t 69) (.t 68)), .u (.ia 70 1 (.t 66) (.t 67)), .u (.st 1 (.t 70) (.k (.bool true)))]
abbrev f29p19 : PC := .seq (.seq (.reg f29r20) (f29p18)) (.reg f29r22)
abbrev f29p20 : PC := .seq (.seq (.reg f29r12) (f29p16)) (f29p19)
abbrev f29p21 : PC := .block 3 (.seq (.reg f29r11) (f29p20))
abbrev f29p22 : PC := .block 2 (.loop (f29p21))
abbrev f29p23 : PC := .seq (.seq (.reg f29r5) (f29p7)) (f29p22)
abbrev f29p24 : PC := .seq (.reg f29r4) (f29p23)
abbrev f29p25 : PC := .seq (.reg f29r3) (f29p24)
abbrev f29p26 : PC := .seq (.seq (.reg f29r1) (f29p1)) (f29p25)
abbrev f29pc : PC := .seq (.reg f29r0) (f29p26)
def f29k : List Nat := [0, 1, 2, 3, 4, 5, 6, 7, 8, 9, 10, 17, 26, 27, 28, 32, 43, 44, 45, 50, 57, 62]
theorem f29c : Try.f29.body.bind (cC te Try.f29.ntmps) = some f29pc := by kernel_rfl
set_option maxRecDepth 20000
set_option maxHeartbeats 4000000
set_option linter.unusedSimpArgs false
set_option linter.unusedVariables false

def greedyA : Option (List Attr) → AV
  | none => .tp [.d (.sl 4 []), .d (.v (.bool false))]
  | some l => .tp [.d (.sl 4 (l.map Attr.row)), .d (.v (.bool true))]
theorem better_fn4 (a b : Attr) : FnS Try.prog 41 [.ag [.d (.v (.bool a.ok)), .d (.v (.int .i64 a.pref)), .d (.v (.int .i64 a.cost)), .d (.v (.int .u8 a.tags))], .ag [.d (.v (.bool b.ok)), .d (.v (.int .i64 b.pref)), .d (.v (.int .i64 b.cost)), .d (.v (.int .u8 b.tags))]] (.d (.v (.bool (better a b)))) := better_fn a b
theorem box_set {e s g : Nat} (L : List Attr) (k : Nat) (a : Attr) : AO.row e s g ((L.map Attr.row).set k [.v (.bool a.ok), .v (.int .i64 a.pref), .v (.int .i64 a.cost), .v (.int .u8 a.tags)]) = AO.row e s g ((L.set k a).map Attr.row) := by rw [show [D.v (.bool a.ok), .v (.int .i64 a.pref), .v (.int .i64 a.cost), .v (.int .u8 a.tags)] = a.row from rfl, row_set]
theorem bool_set {e s g : Nat} (L : List Bool) (k : Nat) (b : Bool) : AO.row e s g ((L.map bD).set k [.v (.bool b)]) = AO.row e s g ((L.set k b).map bD) := by rw [show [D.v (.bool b)] = bD b from rfl, row_set]
theorem greedy_fn (n : Net) (hn : n.small) : FnS Try.prog 29 [n.av] (greedyA n.greedy) := by
  have hm : maxLen = 9223372036854775807 := rfl
  refine fn_of teok Try.func29 (by kernel_rfl) f29c f29k [.tmp 2, .tmp 3] rfl (by show 1 ≤ 71; omega) ?_
  repeat' first
  | with_reducible refine awp_seq ?_
  | with_reducible refine awp_block ?_
  | with_reducible refine awp_reg ?_
  | with_reducible refine awp_regD ?_
  | with_reducible refine awp_ret ?_
  | with_reducible refine awp_skip ?_
  | with_reducible refine awp_exit ?_
  | with_reducible refine normQ_of ?_
  | with_reducible refine wkE_of ?_
  | with_reducible refine midQ_of (Wk_sub rfl rfl ?_ ?_)
  | with_reducible refine runD_nil ?_
  | with_reducible refine runD_cons ?_
  | with_reducible refine runF_cons ?_
  | with_reducible refine runF_nil ?_
  | with_reducible refine KF_of ?_
  | with_reducible refine chkQ_of rfl ?_
  | with_reducible refine awp_cond (by simp only [evX, lget, Option.getD_some, reduceIte, Nat.reduceEqDiff]; rfl) (fun hc => ?_) (fun hc => ?_)
  | with_reducible refine CallU_of (f := 23) (may_fn n hn.ok) (by first | exact Or.inr (Or.inl rfl) | exact Or.inl rfl) ?_
  | with_reducible refine CallC_of (f := 23) (fun _ => may_fn n hn.ok) (by first | exact Or.inr (Or.inl rfl) | exact Or.inl rfl) ?_
  | with_reducible refine CallU_of (f := 30) (likesN_fn n hn.ok) (by first | exact Or.inr (Or.inl rfl) | exact Or.inl rfl) ?_
  | with_reducible refine CallC_of (f := 30) (fun _ => likesN_fn n hn.ok) (by first | exact Or.inr (Or.inl rfl) | exact Or.inl rfl) ?_
  | with_reducible refine CallU_of (f := 18) (fixed_fn n i) (by first | exact Or.inr (Or.inl rfl) | exact Or.inl rfl) ?_
  | with_reducible refine CallC_of (f := 18) (fun _ => fixed_fn n i) (by first | exact Or.inr (Or.inl rfl) | exact Or.inl rfl) ?_
  | with_reducible refine CallU_of (f := 25) (origin_fn) (by first | exact Or.inr (Or.inl rfl) | exact Or.inl rfl) ?_
  | with_reducible refine CallC_of (f := 25) (fun _ => origin_fn) (by first | exact Or.inr (Or.inl rfl) | exact Or.inl rfl) ?_
  | with_reducible refine CallU_of (f := 21) (choice_fn n hn z.2.1 (by omega) y.1) (by first | exact Or.inr (Or.inl rfl) | exact Or.inl rfl) ?_
  | with_reducible refine CallC_of (f := 21) (fun _ => choice_fn n hn z.2.1 (by omega) y.1) (by first | exact Or.inr (Or.inl rfl) | exact Or.inl rfl) ?_
  | with_reducible refine CallU_of (f := 41) (better_fn4 (n.choice z.2.1 y.1) y.2.1) (by first | exact Or.inr (Or.inl rfl) | exact Or.inl rfl) ?_
  | with_reducible refine CallC_of (f := 41) (fun _ => better_fn4 (n.choice z.2.1 y.1) y.2.1) (by first | exact Or.inr (Or.inl rfl) | exact Or.inl rfl) ?_
  | (with_reducible assumption)
  | with_reducible refine fun (hG : okL _) => ?_
  | (with_reducible refine fun (hT : (_ : Bool) = _) => ?_)
  | (with_reducible first | exact hG.2 | exact hG.2.2 | exact hG.2.2.2 | exact hG.2.2.2.2)
  | with_reducible refine okL_mk ?_ ?_
  | with_reducible refine And.intro ?_ ?_
  | (with_reducible refine awp_loopU (b := f29p6) (fun i : Nat => i ≤ n.origin.length ∧ n.May ∧ n.may = true ∧ likesN n = false) (fun i => n.origin.length - i) (fun i => [(27, .d (.v (.int .i64 i)))]) (fun i => [(21, .row 45 4 0 ((initL n i).map Attr.row)), (24, .row 4 1 0 ((initD n i).map bD))]) (0) (⟨Nat.zero_le _, Net.may_spec (by simp at hc; exact hc.1), by simp at hc; exact hc.1, by simp at hc; exact hc.2⟩) (Wk.refl _ _) (Wk_sub rfl rfl ?_ ?_) (fun i hi => ?_))
  | (refine Exists.elim (at_drop Attr.row (initL n i) i (by rw [initL_len]; exact Int.ofNat_lt.1 (of_decide_eq_true hc))) (fun a ha => ?_); refine Exists.elim (at_drop bD (initD n i) i (by rw [initD_len]; exact Int.ofNat_lt.1 (of_decide_eq_true hc))) (fun d hd => ?_); have hlt := Int.ofNat_lt.1 (of_decide_eq_true hc); have g1 := ha.2.1; have g2 := hd.2.1; replace hc : True := trivial)
  | (have _q : n.fixed i = _ := hc; with_reducible refine loopQ_next (i + 1) ?_ ?_ (Wk_sub rfl rfl ?_ ?_))
  | (with_reducible refine awp_loopU (b := f29p21) (fun z : Nat × List Attr × List Bool => z.2.1.length = n.origin.length ∧ z.2.2.length = n.origin.length ∧ undone z.2.2 < z.1 ∧ greedyGo n z.1 z.2.1 z.2.2 = greedyGo n (n.origin.length + 1) (initL n n.origin.length) (initD n n.origin.length) ∧ n.May ∧ n.may = true ∧ likesN n = false) (fun z => z.1) (fun z => []) (fun z => [(21, .row 45 4 0 (z.2.1.map Attr.row)), (24, .row 4 1 0 (z.2.2.map bD))]) ((n.origin.length + 1, initL n n.origin.length, initD n n.origin.length)) (⟨initL_len _ _, initD_len _ _, by have h1 := filt_len (initD n n.origin.length); rw [initD_len] at h1; exact Nat.lt_succ_of_le h1, rfl, hi.2⟩) (Wk.refl _ _) (Wk_sub rfl rfl ?_ ?_) (fun z hz => ?_))
  | (with_reducible refine awp_loopU (b := f29p15) (fun y : Nat × Attr × Int => y.1 ≤ n.origin.length ∧ pickGo n z.2.1 (z.2.2.drop y.1) y.1 y.2.1 y.2.2 = pickGo n z.2.1 z.2.2 0 attr0 (-1) ∧ z.2.1.length ≤ 1048576) (fun y => n.origin.length - y.1) (fun y => [(44, .d (.v (.int .i64 y.1))), (8, .d (.v (.int .i64 y.2.2)))]) (fun y => [(7, .box y.2.1.box)]) ((0, attr0, -1)) (⟨Nat.zero_le _, rfl, by have := hz.2.2.2.2.1.most; omega⟩) (Wk.refl _ _) (Wk_sub rfl rfl ?_ ?_) (fun y hy => ?_))
  | (refine Exists.elim (at_drop bD z.2.2 y.1 (by rw [hz.2.1, ← hz.1]; exact Int.ofNat_lt.1 (of_decide_eq_true hc))) (fun d hd => ?_); have g4 := hd.2.1; replace hc : True := trivial)
  | (have _q : d = true := hc; with_reducible refine loopQ_next (y.1 + 1, y.2.1, y.2.2) ?_ ?_ (Wk_sub rfl rfl ?_ ?_))
  | (have hd0 : d = false := hc; replace hc : True := trivial)
  | (have _q : (_ : Bool) = true := hc; with_reducible refine loopQ_next ((y.1 + 1, n.choice z.2.1 y.1, (y.1 : Int))) ?_ ?_ (Wk_sub rfl rfl ?_ ?_))
  | (have _q : better _ _ = false := hc; with_reducible refine loopQ_next (y.1 + 1, y.2.1, y.2.2) ?_ ?_ (Wk_sub rfl rfl ?_ ?_))
  | (have _q : decide (y.2.2 < 0) = false := hc; have h0 := of_decide_eq_false ‹decide ((y.1 : Int) < _) = false›; have hp := pick_done hy.2.1 (by omega); have hat := pick_at hp (of_decide_eq_false hc); have hz1 := hz.1; have hz2 := hz.2.1; have g5 := at_int Attr.row z.2.1 default hat.1 (by omega); have g6 := at_int bD z.2.2 false hat.1 hat.2.1; have hneg := of_decide_eq_false hc; replace hc : True := trivial)
  | (with_reducible refine loopQ_next (z.1 - 1, z.2.1.set y.2.2.toNat y.2.1, z.2.2.set y.2.2.toNat true) ?_ ?_ (Wk_sub rfl rfl ?_ ?_))
  | simp only [f29r0, f29r1, f29r2, f29r3, f29r4, f29r5, f29r6, f29r7, f29r8, f29r9, f29r10, f29r11, f29r12, f29r13, f29r14, f29r15, f29r16, f29r17, f29r18, f29r19, f29r20, f29r21, f29r22, g6, g5, f29k, List.length_map, rep_len, runG_nil, runG_u, runG_g, runG_ucS, runG_gcS, runG_uvS, stp, avL, avS, evs, evX, lget, lput, strip, putO, PO.dst, updO, okR, cells, splice, AV.cell, toD, toDs, binV, sameK, pickV, guardOf, okL_nil, sides, argsOf, rawOf, dv, dvL, owns, ownsL, flat, flatL, lkeep, seqQ, blockQ, initS, List.drop_succ_cons, List.drop_zero, List.take_succ_cons, List.take_zero, List.getD_cons_zero, List.getD_cons_succ, List.length_cons, List.length_nil, List.set_cons_zero, List.set_cons_succ, List.map_cons, List.map_nil, List.all_cons, List.all_nil, List.elem_cons, List.elem_nil, Option.getD_some, Option.getD_none, Option.bind_some, Option.isNone_none, reduceIte, reduceCtorEq, Nat.reduceEqDiff, Nat.reduceAdd, Nat.reduceLeDiff, Nat.zero_add, Nat.add_zero, Nat.reduceBEq, Bool.and_self, Bool.and_true, Bool.true_and, Bool.or_self, Bool.or_false, Bool.false_or, Bool.or_true, Bool.true_or, true_and, and_true, and_self, implies_true, forall_const, Bool.false_eq_true, id_eq, retQ, resOf, resV, Option.some.injEq, exists_eq_left', AV.d.injEq, D.v.injEq, Value.bool.injEq, imp_self, bldF, bldS, toVals, eqLs, Option.map_some, imp_false, not_true_eq_false, not_false_eq_true, foot, wrs, nm, nmL, PG.reads, PG.dst, PO.reads, X.sl, sls, slB, List.append_nil, List.cons_append, List.nil_append, Option.toList_some, Option.toList_none, loopQ_exit, loopQ_ret, subS, subO, Bool.bne_false, Bool.bne_true, elemsOf, bslD, bslS, mentries, isAgV, asA, lputs, mgetD_set, mcmp_set, mput_set, List.headD_cons, sealS, sealO, sealV, sealL, mput_nil, mcmp_nil, midQ_ret, midQ_exit, sealsS, sealsO, runW_nil, runW_cons, Bool.true_bne, Bool.false_bne, bne_self_eq_false, Int.reduceToNat, bndV, oSl, resR, runS_nil, runS_gc, ren, renL, renO, sg, gBack]
  | simp only [f29r0, f29r1, f29r2, f29r3, f29r4, f29r5, f29r6, f29r7, f29r8, f29r9, f29r10, f29r11, f29r12, f29r13, f29r14, f29r15, f29r16, f29r17, f29r18, f29r19, f29r20, f29r21, f29r22, g4, f29k, List.length_map, rep_len, runG_nil, runG_u, runG_g, runG_ucS, runG_gcS, runG_uvS, stp, avL, avS, evs, evX, lget, lput, strip, putO, PO.dst, updO, okR, cells, splice, AV.cell, toD, toDs, binV, sameK, pickV, guardOf, okL_nil, sides, argsOf, rawOf, dv, dvL, owns, ownsL, flat, flatL, lkeep, seqQ, blockQ, initS, List.drop_succ_cons, List.drop_zero, List.take_succ_cons, List.take_zero, List.getD_cons_zero, List.getD_cons_succ, List.length_cons, List.length_nil, List.set_cons_zero, List.set_cons_succ, List.map_cons, List.map_nil, List.all_cons, List.all_nil, List.elem_cons, List.elem_nil, Option.getD_some, Option.getD_none, Option.bind_some, Option.isNone_none, reduceIte, reduceCtorEq, Nat.reduceEqDiff, Nat.reduceAdd, Nat.reduceLeDiff, Nat.zero_add, Nat.add_zero, Nat.reduceBEq, Bool.and_self, Bool.and_true, Bool.true_and, Bool.or_self, Bool.or_false, Bool.false_or, Bool.or_true, Bool.true_or, true_and, and_true, and_self, implies_true, forall_const, Bool.false_eq_true, id_eq, retQ, resOf, resV, Option.some.injEq, exists_eq_left', AV.d.injEq, D.v.injEq, Value.bool.injEq, imp_self, bldF, bldS, toVals, eqLs, Option.map_some, imp_false, not_true_eq_false, not_false_eq_true, foot, wrs, nm, nmL, PG.reads, PG.dst, PO.reads, X.sl, sls, slB, List.append_nil, List.cons_append, List.nil_append, Option.toList_some, Option.toList_none, loopQ_exit, loopQ_ret, subS, subO, Bool.bne_false, Bool.bne_true, elemsOf, bslD, bslS, mentries, isAgV, asA, lputs, mgetD_set, mcmp_set, mput_set, List.headD_cons, sealS, sealO, sealV, sealL, mput_nil, mcmp_nil, midQ_ret, midQ_exit, sealsS, sealsO, runW_nil, runW_cons, Bool.true_bne, Bool.false_bne, bne_self_eq_false, Int.reduceToNat, bndV, oSl, resR, runS_nil, runS_gc, ren, renL, renO, sg, gBack]
  | simp only [f29r0, f29r1, f29r2, f29r3, f29r4, f29r5, f29r6, f29r7, f29r8, f29r9, f29r10, f29r11, f29r12, f29r13, f29r14, f29r15, f29r16, f29r17, f29r18, f29r19, f29r20, f29r21, f29r22, g2, g1, f29k, List.length_map, rep_len, runG_nil, runG_u, runG_g, runG_ucS, runG_gcS, runG_uvS, stp, avL, avS, evs, evX, lget, lput, strip, putO, PO.dst, updO, okR, cells, splice, AV.cell, toD, toDs, binV, sameK, pickV, guardOf, okL_nil, sides, argsOf, rawOf, dv, dvL, owns, ownsL, flat, flatL, lkeep, seqQ, blockQ, initS, List.drop_succ_cons, List.drop_zero, List.take_succ_cons, List.take_zero, List.getD_cons_zero, List.getD_cons_succ, List.length_cons, List.length_nil, List.set_cons_zero, List.set_cons_succ, List.map_cons, List.map_nil, List.all_cons, List.all_nil, List.elem_cons, List.elem_nil, Option.getD_some, Option.getD_none, Option.bind_some, Option.isNone_none, reduceIte, reduceCtorEq, Nat.reduceEqDiff, Nat.reduceAdd, Nat.reduceLeDiff, Nat.zero_add, Nat.add_zero, Nat.reduceBEq, Bool.and_self, Bool.and_true, Bool.true_and, Bool.or_self, Bool.or_false, Bool.false_or, Bool.or_true, Bool.true_or, true_and, and_true, and_self, implies_true, forall_const, Bool.false_eq_true, id_eq, retQ, resOf, resV, Option.some.injEq, exists_eq_left', AV.d.injEq, D.v.injEq, Value.bool.injEq, imp_self, bldF, bldS, toVals, eqLs, Option.map_some, imp_false, not_true_eq_false, not_false_eq_true, foot, wrs, nm, nmL, PG.reads, PG.dst, PO.reads, X.sl, sls, slB, List.append_nil, List.cons_append, List.nil_append, Option.toList_some, Option.toList_none, loopQ_exit, loopQ_ret, subS, subO, Bool.bne_false, Bool.bne_true, elemsOf, bslD, bslS, mentries, isAgV, asA, lputs, mgetD_set, mcmp_set, mput_set, List.headD_cons, sealS, sealO, sealV, sealL, mput_nil, mcmp_nil, midQ_ret, midQ_exit, sealsS, sealsO, runW_nil, runW_cons, Bool.true_bne, Bool.false_bne, bne_self_eq_false, Int.reduceToNat, bndV, oSl, resR, runS_nil, runS_gc, ren, renL, renO, sg, gBack]
  | simp only [f29r0, f29r1, f29r2, f29r3, f29r4, f29r5, f29r6, f29r7, f29r8, f29r9, f29r10, f29r11, f29r12, f29r13, f29r14, f29r15, f29r16, f29r17, f29r18, f29r19, f29r20, f29r21, f29r22, f29k, List.length_map, rep_len, runG_nil, runG_u, runG_g, runG_ucS, runG_gcS, runG_uvS, stp, avL, avS, evs, evX, lget, lput, strip, putO, PO.dst, updO, okR, cells, splice, AV.cell, toD, toDs, binV, sameK, pickV, guardOf, okL_nil, sides, argsOf, rawOf, dv, dvL, owns, ownsL, flat, flatL, lkeep, seqQ, blockQ, initS, List.drop_succ_cons, List.drop_zero, List.take_succ_cons, List.take_zero, List.getD_cons_zero, List.getD_cons_succ, List.length_cons, List.length_nil, List.set_cons_zero, List.set_cons_succ, List.map_cons, List.map_nil, List.all_cons, List.all_nil, List.elem_cons, List.elem_nil, Option.getD_some, Option.getD_none, Option.bind_some, Option.isNone_none, reduceIte, reduceCtorEq, Nat.reduceEqDiff, Nat.reduceAdd, Nat.reduceLeDiff, Nat.zero_add, Nat.add_zero, Nat.reduceBEq, Bool.and_self, Bool.and_true, Bool.true_and, Bool.or_self, Bool.or_false, Bool.false_or, Bool.or_true, Bool.true_or, true_and, and_true, and_self, implies_true, forall_const, Bool.false_eq_true, id_eq, retQ, resOf, resV, Option.some.injEq, exists_eq_left', AV.d.injEq, D.v.injEq, Value.bool.injEq, imp_self, bldF, bldS, toVals, eqLs, Option.map_some, imp_false, not_true_eq_false, not_false_eq_true, foot, wrs, nm, nmL, PG.reads, PG.dst, PO.reads, X.sl, sls, slB, List.append_nil, List.cons_append, List.nil_append, Option.toList_some, Option.toList_none, loopQ_exit, loopQ_ret, subS, subO, Bool.bne_false, Bool.bne_true, elemsOf, bslD, bslS, mentries, isAgV, asA, lputs, mgetD_set, mcmp_set, mput_set, List.headD_cons, sealS, sealO, sealV, sealL, mput_nil, mcmp_nil, midQ_ret, midQ_exit, sealsS, sealsO, runW_nil, runW_cons, Bool.true_bne, Bool.false_bne, bne_self_eq_false, Int.reduceToNat, bndV, oSl, resR, runS_nil, runS_gc, ren, renL, renO, sg, gBack]
  all_goals try first
    | omega
    | (with_reducible rfl)
    | (show Value.int _ 0 = _; rfl)
    | (simp only [List.length_append, List.length_cons, List.length_nil]; omega)
    | (simp only [List.length_append, List.length_cons, List.length_nil, List.map_append, List.map_cons, List.map_nil]; done)
    | decide
    | exact count64 hlt (by have := hi.2.1.most; omega)
    | exact count64 (n := n.origin.length) (by have := hd.2.2.2; have := hz.2.1; omega) (by have := hz.2.2.2.2.1.most; omega)
    | (have h : n.greedy = none := by
         have h1 : (!n.may || likesN n) = true := by cases h1 : n.may <;> simp [h1] at hc ⊢; exact hc
         simp only [Net.greedy, h1, reduceIte]
       rw [h]; rfl)
    | (have h := hn.origin; omega)
    | (rw [← initL_zero]; rfl)
    | (rw [← initD_zero]; done)
    | (rw [← initD_zero]; rfl)
    | (show AO.row _ _ _ (List.replicate _ (bD false)) = _; rw [initD_zero]; done)
    | (show AO.box _ = AO.box _; rfl)
    | exact hi.2.1
    | exact hi.2.2.1
    | exact hi.2.2.2
    | exact hz.2.2.2.2.1
    | exact hz.2.2.2.2.2.1
    | exact hz.2.2.2.2.2.2
    | exact hy.2.2
    | (simp only [initL_len]; omega)
    | (simp only [initD_len]; omega)
    | (rw [box_set, Int.toNat_natCast, initL_yes hlt hc]; done)
    | (rw [bool_set, Int.toNat_natCast, initD_yes hlt hc]; done)
    | (rw [← initL_no hc]; done)
    | (rw [← initD_no hc]; done)
    | (have h0 := of_decide_eq_false hc; rw [show i = n.origin.length by omega]; done)
    | (have h1 := hy.2.1; rw [hd.1, hc] at h1; simpa [pickGo] using h1)
    | (have h1 := hy.2.1; rw [hd.1, hd0] at h1; simpa [pickGo, hc] using h1)
    | (have h2 := hz.2.2.1; omega)
    | (simp only [List.length_set]; omega)
    | (have h1 := undone_set _ _ hat.2.2; have h2 := hz.2.2.1; omega)
    | (rw [← greedy_next (by have := hz.2.2.1; omega) hp hneg]; exact hz.2.2.2.1)
    | exact box_set _ _ _
    | exact bool_set _ _ _
    | (have h0 := of_decide_eq_false ‹decide ((y.1 : Int) < _) = false›; have h1 := pick_done hy.2.1 (by omega)
       have h2 := greedy_stop (f := z.1) h1 (of_decide_eq_true hc)
       have h3 : n.greedy = some z.2.1 := by rw [← h2, hz.2.2.2.1]; simp [Net.greedy, hz.2.2.2.2.2.1, hz.2.2.2.2.2.2]
       rw [h3]; rfl)
end Go.Proofs.Ytajkgmmmkhekmaa
