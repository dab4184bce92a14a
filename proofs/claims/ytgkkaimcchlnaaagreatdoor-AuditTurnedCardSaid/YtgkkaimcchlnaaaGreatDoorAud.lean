/- What audit.over, audit.from and audit.Node come to. Printed by a program of this project (wip/mq). -/
import Derived.Test.YtgkkaimcchlnaaaGreatDoorEsame
import Derived.Test.YtgkkaimcchlnaaaGreatDoorMay
set_option linter.unusedVariables false
set_option linter.unusedSimpArgs false

namespace Go.Proofs.YtgkkaimcchlnaaaGreatDoor
open Go Mq Go.ChangeShapes Go.WideShapes Go.ChangeAt Go.RowKit
/-! maquette/audit.over -/
def f98r0 : List PG := [.u (.bx 4 (.t 0)), .u (.bx 7 (.t 3)), .u (.mv 8 (.k (.bool false)))]
def f98r1 : List PG := [.u (.fa 11 2 (.t 4)), .u (.ld 12 1 false (.t 11)), .u (.mv 13 (.t 1)), .u (.ia 14 1 (.t 12) (.t 13)), .u (.ld 15 1 false (.t 14)), .u (.len 16 (.t 15)), .u (.mv 17 (.k (.int .i64 0)))]
def f98r2 : List PG := [.u (.bo 18 .lss (.t 17) (.t 16))]
def f98r3 : List PG := [.u (.ia 19 4 (.t 15) (.t 17)), .u (.ld 20 4 true (.t 19)), .u (.al 10 [.d (.v (.int .i64 0)), .d (.v (.int .i64 0)), .nl 10, .nl 10]), .u (.st 4 (.t 10) (.t 20))]
def f98r4 : List PG := [.u (.fa 21 0 (.t 10)), .u (.ld 22 1 false (.t 21)), .u (.mv 23 (.t 2)), .u (.beq 24 false false (.t 22) (.t 23)), .u (.mv 25 (.t 24)), .g 25 true (.ld 26 4 true (.t 10)), .g 25 true (.ld 27 4 true (.t 7)), .gc 25 true 28 100 [.t 26, .t 27], .u (.pick 29 (.t 25) (.t 28) (.k (.bool false)))]
def f98r5 : List PG := [.u (.mv 8 (.k (.bool true)))]
abbrev f98p0 : PC := .seq (.reg f98r5) (.ret)
abbrev f98p1 : PC := .cond (.t 29) (f98p0) (.skip)
abbrev f98p2 : PC := .seq (.reg f98r4) (f98p1)
def f98r6 : List PG := [.u (.bo 30 .add (.t 17) (.k (.int .i64 1))), .u (.mv 17 (.t 30))]
abbrev f98p3 : PC := .seq (.block 1 (.seq (.reg f98r3) (f98p2))) (.reg f98r6)
abbrev f98p4 : PC := .seq (.cond (.t 18) (.skip) (.exit 0)) (f98p3)
abbrev f98p5 : PC := .seq (.reg f98r2) (f98p4)
abbrev f98p6 : PC := .block 0 (.loop (f98p5))
def f98r7 : List PG := [.u (.mv 8 (.k (.bool false)))]
abbrev f98p7 : PC := .seq (.reg f98r7) (.ret)
abbrev f98p8 : PC := .seq (.seq (.reg f98r1) (f98p6)) (f98p7)
abbrev f98pc : PC := .seq (.reg f98r0) (f98p8)
def f98k : List Nat := [0, 1, 2, 3, 4, 7, 8, 10, 15, 16, 17, 18, 29]
theorem f98c : Tryz.f98.body.bind (cC te Tryz.f98.ntmps) = some f98pc := by kernel_rfl
/-! maquette/audit.from -/
def f99r0 : List PG := [.u (.bx 5 (.t 0)), .u (.bx 9 (.t 4)), .u (.mv 10 (.k (.bool false)))]
def f99r1 : List PG := [.u (.fa 13 2 (.t 5)), .u (.ld 14 1 false (.t 13)), .u (.mv 15 (.t 2)), .u (.ia 16 1 (.t 14) (.t 15)), .u (.ld 17 1 false (.t 16)), .u (.len 18 (.t 17)), .u (.mv 19 (.k (.int .i64 0)))]
def f99r2 : List PG := [.u (.bo 20 .lss (.t 19) (.t 18))]
def f99r3 : List PG := [.u (.ia 21 4 (.t 17) (.t 19)), .u (.ld 22 4 true (.t 21)), .u (.al 12 [.d (.v (.int .i64 0)), .d (.v (.int .i64 0)), .nl 10, .nl 10]), .u (.st 4 (.t 12) (.t 22))]
def f99r4 : List PG := [.u (.mv 23 (.t 1)), .u (.fa 24 0 (.t 12)), .u (.ld 25 1 false (.t 24)), .u (.ia 26 1 (.t 23) (.t 25)), .u (.ld 27 1 false (.t 26)), .u (.mv 28 (.t 3)), .u (.beq 29 false false (.t 27) (.t 28)), .u (.mv 30 (.t 29)), .g 30 true (.ld 31 4 true (.t 12)), .g 30 true (.ld 32 4 true (.t 9)), .gc 30 true 33 100 [.t 31, .t 32], .u (.pick 34 (.t 30) (.t 33) (.k (.bool false)))]
def f99r5 : List PG := [.u (.mv 10 (.k (.bool true)))]
abbrev f99p0 : PC := .seq (.reg f99r5) (.ret)
abbrev f99p1 : PC := .cond (.t 34) (f99p0) (.skip)
abbrev f99p2 : PC := .seq (.reg f99r4) (f99p1)
def f99r6 : List PG := [.u (.bo 35 .add (.t 19) (.k (.int .i64 1))), .u (.mv 19 (.t 35))]
abbrev f99p3 : PC := .seq (.block 1 (.seq (.reg f99r3) (f99p2))) (.reg f99r6)
abbrev f99p4 : PC := .seq (.cond (.t 20) (.skip) (.exit 0)) (f99p3)
abbrev f99p5 : PC := .seq (.reg f99r2) (f99p4)
abbrev f99p6 : PC := .block 0 (.loop (f99p5))
def f99r7 : List PG := [.u (.mv 10 (.k (.bool false)))]
abbrev f99p7 : PC := .seq (.reg f99r7) (.ret)
abbrev f99p8 : PC := .seq (.seq (.reg f99r1) (f99p6)) (f99p7)
abbrev f99pc : PC := .seq (.reg f99r0) (f99p8)
def f99k : List Nat := [0, 1, 2, 3, 4, 5, 9, 10, 12, 17, 18, 19, 20, 34]
theorem f99c : Tryz.f99.body.bind (cC te Tryz.f99.ntmps) = some f99pc := by kernel_rfl
/-! maquette/audit.Node -/
def f59r0 : List PG := [.u (.bx 5 (.t 0)), .u (.bx 6 (.t 1)), .u (.mv 10 (.k (.bool false)))]
def f59r1 : List PG := [.u (.mv 17 (.t 2)), .u (.mv 18 (.t 3)), .u (.ia 19 1 (.t 17) (.t 18)), .u (.ld 20 1 false (.t 19)), .u (.mv 11 (.t 20))]
def f59r2 : List PG := [.u (.mv 12 (.k (.int .i64 (-1))))]
def f59r3 : List PG := [.u (.fa 21 1 (.t 5)), .u (.ld 22 1 false (.t 21)), .u (.mv 23 (.t 3)), .u (.ia 24 1 (.t 22) (.t 23)), .u (.ld 25 1 false (.t 24)), .u (.bo 26 .geq (.t 25) (.k (.int .i64 0)))]
def f59r4 : List PG := [.u (.mv 27 (.t 2)), .u (.fa 28 1 (.t 5)), .u (.ld 29 1 false (.t 28)), .u (.mv 30 (.t 3)), .u (.ia 31 1 (.t 29) (.t 30)), .u (.ld 32 1 false (.t 31)), .u (.ia 33 1 (.t 27) (.t 32)), .u (.ld 34 1 false (.t 33)), .u (.mv 12 (.t 34))]
abbrev f59p0 : PC := .cond (.t 26) (.reg f59r4) (.skip)
def f59r5 : List PG := [.u (.fa 35 0 (.t 5)), .u (.ld 36 1 false (.t 35)), .u (.mv 37 (.t 3)), .u (.ia 38 1 (.t 36) (.t 37)), .u (.ld 39 1 false (.t 38)), .u (.fa 40 0 (.t 6)), .u (.ld 41 1 false (.t 40)), .u (.mv 42 (.t 11)), .u (.ia 43 1 (.t 41) (.t 42)), .u (.ld 44 1 false (.t 43)), .u (.beq 45 true true (.t 39) (.t 44)), .u (.mv 46 (.t 45)), .g 46 false (.mv 47 (.t 12)), .g 46 false (.fa 48 1 (.t 6)), .g 46 false (.ld 49 1 false (.t 48)), .g 46 false (.mv 50 (.t 11)), .g 46 false (.ia 51 1 (.t 49) (.t 50)), .g 46 false (.ld 52 1 false (.t 51)), .g 46 false (.beq 53 true false (.t 47) (.t 52)), .u (.pick 54 (.t 46) (.k (.bool true)) (.t 53)), .u (.mv 55 (.t 54)), .g 55 false (.mv 56 (.t 4)), .g 55 false (.mv 57 (.t 56)), .g 57 true (.ld 58 3 true (.t 5)), .g 57 true (.mv 59 (.t 3)), .gc 57 true 60 53 [.t 58, .t 59], .g 55 false (.pick 61 (.t 57) (.t 60) (.k (.bool false))), .u (.pick 62 (.t 55) (.k (.bool true)) (.t 61))]
def f59r6 : List PG := [.u (.mv 10 (.k (.bool false)))]
abbrev f59p1 : PC := .seq (.reg f59r6) (.ret)
abbrev f59p2 : PC := .cond (.t 62) (f59p1) (.skip)
def f59r7 : List PG := [.u (.fa 63 2 (.t 5)), .u (.ld 64 1 false (.t 63)), .u (.mv 65 (.t 3)), .u (.ia 66 1 (.t 64) (.t 65)), .u (.ld 67 1 false (.t 66)), .u (.len 68 (.t 67)), .u (.mv 69 (.k (.int .i64 0)))]
def f59r8 : List PG := [.u (.bo 70 .lss (.t 69) (.t 68))]
def f59r9 : List PG := [.u (.ia 71 4 (.t 67) (.t 69)), .u (.ld 72 4 true (.t 71)), .u (.al 14 [.d (.v (.int .i64 0)), .d (.v (.int .i64 0)), .nl 10, .nl 10]), .u (.st 4 (.t 14) (.t 72))]
def f59r10 : List PG := [.u (.mv 73 (.t 2)), .u (.fa 74 0 (.t 14)), .u (.ld 75 1 false (.t 74)), .u (.ia 76 1 (.t 73) (.t 75)), .u (.ld 77 1 false (.t 76)), .u (.mv 78 (.t 11)), .u (.beq 79 true false (.t 77) (.t 78)), .u (.mv 80 (.t 79)), .g 80 true (.ld 81 3 true (.t 6)), .g 80 true (.mv 82 (.t 11)), .g 80 true (.mv 83 (.t 2)), .g 80 true (.fa 84 0 (.t 14)), .g 80 true (.ld 85 1 false (.t 84)), .g 80 true (.ia 86 1 (.t 83) (.t 85)), .g 80 true (.ld 87 1 false (.t 86)), .g 80 true (.ld 88 4 true (.t 14)), .gc 80 true 89 98 [.t 81, .t 82, .t 87, .t 88], .g 80 true (.no 90 (.t 89)), .u (.pick 91 (.t 80) (.t 90) (.k (.bool false)))]
def f59r11 : List PG := [.u (.mv 10 (.k (.bool false)))]
abbrev f59p3 : PC := .seq (.reg f59r11) (.ret)
abbrev f59p4 : PC := .cond (.t 91) (f59p3) (.skip)
abbrev f59p5 : PC := .seq (.regD f59r10 []) (f59p4)
def f59r12 : List PG := [.u (.bo 92 .add (.t 69) (.k (.int .i64 1))), .u (.mv 69 (.t 92))]
abbrev f59p6 : PC := .seq (.block 1 (.seq (.reg f59r9) (f59p5))) (.reg f59r12)
abbrev f59p7 : PC := .seq (.cond (.t 70) (.skip) (.exit 0)) (f59p6)
abbrev f59p8 : PC := .seq (.reg f59r8) (f59p7)
abbrev f59p9 : PC := .block 0 (.loop (f59p8))
def f59r13 : List PG := [.u (.fa 93 2 (.t 6)), .u (.ld 94 1 false (.t 93)), .u (.mv 95 (.t 11)), .u (.ia 96 1 (.t 94) (.t 95)), .u (.ld 97 1 false (.t 96)), .u (.len 98 (.t 97)), .u (.mv 99 (.k (.int .i64 0)))]
def f59r14 : List PG := [.u (.bo 100 .lss (.t 99) (.t 98))]
def f59r15 : List PG := [.u (.ia 101 4 (.t 97) (.t 99)), .u (.ld 102 4 true (.t 101)), .u (.al 16 [.d (.v (.int .i64 0)), .d (.v (.int .i64 0)), .nl 10, .nl 10]), .u (.st 4 (.t 16) (.t 102))]
def f59r16 : List PG := [.u (.ld 103 3 true (.t 5)), .u (.mv 104 (.t 2)), .u (.mv 105 (.t 3)), .u (.fa 106 0 (.t 16)), .u (.ld 107 1 false (.t 106)), .u (.ld 108 4 true (.t 16)), .uc 109 99 [.t 103, .t 104, .t 105, .t 107, .t 108], .u (.no 110 (.t 109))]
def f59r17 : List PG := [.u (.mv 10 (.k (.bool false)))]
abbrev f59p10 : PC := .seq (.reg f59r17) (.ret)
abbrev f59p11 : PC := .cond (.t 110) (f59p10) (.skip)
abbrev f59p12 : PC := .seq (.reg f59r16) (f59p11)
def f59r18 : List PG := [.u (.bo 111 .add (.t 99) (.k (.int .i64 1))), .u (.mv 99 (.t 111))]
abbrev f59p13 : PC := .seq (.block 3 (.seq (.reg f59r15) (f59p12))) (.reg f59r18)
abbrev f59p14 : PC := .seq (.cond (.t 100) (.skip) (.exit 2)) (f59p13)
abbrev f59p15 : PC := .seq (.reg f59r14) (f59p14)
abbrev f59p16 : PC := .block 2 (.loop (f59p15))
def f59r19 : List PG := [.u (.mv 10 (.k (.bool true)))]
abbrev f59p17 : PC := .seq (.reg f59r19) (.ret)
abbrev f59p18 : PC := .seq (.seq (.reg f59r13) (f59p16)) (f59p17)
abbrev f59p19 : PC := .seq (.seq (.reg f59r7) (f59p9)) (f59p18)
abbrev f59p20 : PC := .seq (.seq (.regD f59r5 []) (f59p2)) (f59p19)
abbrev f59p21 : PC := .seq (.seq (.reg f59r3) (f59p0)) (f59p20)
abbrev f59p22 : PC := .seq (.reg f59r2) (f59p21)
abbrev f59p23 : PC := .seq (.reg f59r1) (f59p22)
abbrev f59pc : PC := .seq (.reg f59r0) (f59p23)
def f59k : List Nat := [0, 1, 2, 3, 4, 5, 6, 10, 11, 12, 14, 16, 26, 62, 67, 68, 69, 70, 91, 97, 98, 99, 100, 110]
theorem f59c : Tryz.f59.body.bind (cC te Tryz.f59.ntmps) = some f59pc := by kernel_rfl
set_option maxRecDepth 20000
set_option maxHeartbeats 4000000


theorem mem_edges {n : Net} {k : Int} (h : 0 ≤ k ∧ k < n.edges.length) : n.edges.getD k.toNat [] ∈ n.edges := List.mem_of_getElem? (getD_mem n.edges [] h.1 h.2)
theorem over_fn (m : Net) (hm : m.ok) (x y : Int) (hx : 0 ≤ x ∧ x < m.edges.length) (e : Arc) (he : e.ok) : FnS Tryz.prog 98 [m.av, .d (.v (.int .i64 x)), .d (.v (.int .i64 y)), .ag e.box] (.d (.v (.bool (overV m x y e)))) := by
  have g1 := at_int esD m.edges [] hx.1 hx.2
  have hme := mem_edges hx
  refine fn_of teok Tryz.func98 (by kernel_rfl) f98c f98k [.tmp 8] rfl (by show 4 ≤ 31; omega) ?_
  first | (have _q := @g2; clear _q) | have g2 : Nat.pred 77 = 76 := rfl
  first | (have _q := @g1; clear _q) | have g1 : Nat.pred 77 = 76 := rfl
  repeat' first
|(with_reducible first | refine awp_seq ?_ | refine awp_block ?_ | refine awp_reg ?_ | refine awp_ret ?_ | refine awp_skip ?_ | refine awp_exit ?_ | refine normQ_of ?_ | refine wkE_of ?_)
|with_reducible refine awp_cond (by simp only [evX, lget, Option.getD_some, reduceIte, Nat.reduceEqDiff]; rfl) (fun hc => ?_) (fun hc => ?_)
|with_reducible refine CallC_of (f := 100) (fun _ => esame_fn f (hm.edge _ hme f (List.mem_of_getElem? hf.2.2.1)) e he) (by first | exact Or.inr (Or.inl rfl) | exact Or.inl rfl) ?_
|(with_reducible assumption)
|with_reducible refine fun (hG : okL _) => ?_
|(with_reducible refine fun (hT : (_ : Bool) = _) => ?_)
|(with_reducible first | exact hG.2 | exact hG.2.2 | exact hG.2.2.2 | exact hG.2.2.2.2)
|with_reducible refine okL_mk ?_ ?_
|with_reducible refine And.intro ?_ ?_
|(with_reducible refine awp_loopU (b := f98p5) (fun i : Nat => i ≤ (m.edges.getD x.toNat []).length ∧ (((m.edges.getD x.toNat []).drop i).any fun f => f.src == y && sameE f e) = overV m x y e) (fun i => (m.edges.getD x.toNat []).length - i) (fun i => [(17, .d (.v (.int .i64 i)))]) (fun i => []) (0) (⟨Nat.zero_le _, rfl⟩) (Wk.refl _ _) (Wk_sub rfl rfl ?_ ?_) (fun i hi => ?_))
|(refine Exists.elim (at_drop Arc.row (m.edges.getD x.toNat []) i (Int.ofNat_lt.1 (of_decide_eq_true hc))) (fun f hf => ?_); have g2 := hf.2.1; replace hc : True := trivial)
|(with_reducible refine loopQ_next (i + 1) ?_ ?_ (Wk_sub rfl rfl ?_ ?_))
|simp only [f98r0, f98r1, f98r2, f98r3, f98r4, f98r5, f98r6, f98r7, g2, g1, f98k, List.length_map, List.getD_cons_zero, runG_nil, runG_u, runG_g, runG_ucS, runG_gcS, stp, avL, avS, evs, evX, lget, lput, strip, putO, PO.dst, updO, okR, cells, splice, AV.cell, toD, toDs, binV, sameK, pickV, guardOf, okL_nil, sides, argsOf, rawOf, dv, dvL, owns, ownsL, flat, flatL, lkeep, seqQ, blockQ, initS, List.drop_succ_cons, List.drop_zero, List.take_succ_cons, List.take_zero, List.getD_cons_zero, List.getD_cons_succ, List.length_cons, List.length_nil, List.set_cons_zero, List.set_cons_succ, List.map_cons, List.map_nil, List.all_cons, List.all_nil, List.elem_cons, List.elem_nil, Option.getD_some, Option.getD_none, Option.bind_some, Option.isNone_none, reduceIte, reduceCtorEq, Nat.reduceEqDiff, Nat.reduceAdd, Nat.reduceLeDiff, Nat.zero_add, Nat.add_zero, Nat.reduceBEq, Bool.and_self, Bool.and_true, Bool.true_and, Bool.or_self, Bool.or_false, Bool.false_or, Bool.or_true, Bool.true_or, true_and, and_true, and_self, implies_true, forall_const, Bool.false_eq_true, id_eq, retQ, resOf, resV, Option.some.injEq, exists_eq_left', AV.d.injEq, D.v.injEq, Value.bool.injEq, imp_self, bldF, bldS, toVals, eqLs, Option.map_some, imp_false, not_true_eq_false, not_false_eq_true, List.append_nil, List.cons_append, List.nil_append, Option.toList_some, Option.toList_none, loopQ_exit, loopQ_ret, subS, subO, Bool.bne_false, Bool.bne_true, elemsOf, bslD, bslS, lputs, List.headD_cons, sealS, sealO, sealV, sealL, sealsS, sealsO, Bool.true_bne, Bool.false_bne, bne_self_eq_false, Int.reduceToNat, oSl, resR, argsN, dvN]
  all_goals try first
    | omega
    | (with_reducible rfl)
    | (show Value.int _ 0 = _; rfl)
    | (simp only [List.length_append, List.length_cons, List.length_nil]; omega)
    | (simp only [List.length_append, List.length_cons, List.length_nil, List.map_append, List.map_cons, List.map_nil]; done)
    | exact count64 hf.2.2.2 (hm.row _ hme)
    | (have h1 := hi.2; rw [hf.1, List.any_cons] at h1
       have h2 : (f.src == y && sameE f e) = true := by simpa using hc
       rw [h2, Bool.true_or] at h1; rw [← h1]; done)
    | (have h1 := hi.2; rw [hf.1, List.any_cons] at h1
       have h2 : (f.src == y && sameE f e) = false := by simpa using hc
       rw [h2, Bool.false_or] at h1; exact h1)
    | (have h0 := of_decide_eq_false hc; have h1 := hi.2; rw [List.drop_eq_nil_of_le (by omega)] at h1; rw [← h1]; rfl)
  all_goals trace_state
theorem from_fn (n : Net) (hn : n.ok) (hm : n.May) (b : List Int) (hb : b.length = n.origin.length) (k y : Int) (hk : 0 ≤ k ∧ k < n.edges.length) (e : Arc) (he : e.ok) : FnS Tryz.prog 99 [n.av, .d (.sl 1 (b.map iD)), .d (.v (.int .i64 k)), .d (.v (.int .i64 y)), .ag e.box] (.d (.v (.bool (fromV n b k y e)))) := by
  have g1 := at_int esD n.edges [] hk.1 hk.2
  have hme := mem_edges hk
  have hsr : ∀ f ∈ n.edges.getD k.toNat [], 0 ≤ f.src ∧ f.src < b.length := fun f hf => by
    have := hm.src _ _ (getD_mem n.edges [] hk.1 hk.2) f hf; omega
  refine fn_of teok Tryz.func99 (by kernel_rfl) f99c f99k [.tmp 10] rfl (by show 5 ≤ 36; omega) ?_
  first | (have _q := @g3; clear _q) | have g3 : Nat.pred 77 = 76 := rfl
  first | (have _q := @g2; clear _q) | have g2 : Nat.pred 77 = 76 := rfl
  first | (have _q := @g1; clear _q) | have g1 : Nat.pred 77 = 76 := rfl
  repeat' first
|(with_reducible first | refine awp_seq ?_ | refine awp_block ?_ | refine awp_reg ?_ | refine awp_ret ?_ | refine awp_skip ?_ | refine awp_exit ?_ | refine normQ_of ?_ | refine wkE_of ?_)
|with_reducible refine awp_cond (by simp only [evX, lget, Option.getD_some, reduceIte, Nat.reduceEqDiff]; rfl) (fun hc => ?_) (fun hc => ?_)
|with_reducible refine CallC_of (f := 100) (fun _ => esame_fn f (hn.edge _ hme f (List.mem_of_getElem? hf.2.2.1)) e he) (by first | exact Or.inr (Or.inl rfl) | exact Or.inl rfl) ?_
|(with_reducible assumption)
|with_reducible refine fun (hG : okL _) => ?_
|(with_reducible refine fun (hT : (_ : Bool) = _) => ?_)
|(with_reducible first | exact hG.2 | exact hG.2.2 | exact hG.2.2.2 | exact hG.2.2.2.2)
|with_reducible refine okL_mk ?_ ?_
|with_reducible refine And.intro ?_ ?_
|(with_reducible refine awp_loopU (b := f99p5) (fun i : Nat => i ≤ (n.edges.getD k.toNat []).length ∧ (((n.edges.getD k.toNat []).drop i).any fun f => b.getD f.src.toNat 0 == y && sameE f e) = fromV n b k y e) (fun i => (n.edges.getD k.toNat []).length - i) (fun i => [(19, .d (.v (.int .i64 i)))]) (fun i => []) (0) (⟨Nat.zero_le _, rfl⟩) (Wk.refl _ _) (Wk_sub rfl rfl ?_ ?_) (fun i hi => ?_))
|(refine Exists.elim (at_drop Arc.row (n.edges.getD k.toNat []) i (Int.ofNat_lt.1 (of_decide_eq_true hc))) (fun f hf => ?_); have g2 := hf.2.1; have hs := hsr f (List.mem_of_getElem? hf.2.2.1); have g3 := at_int iD b 0 hs.1 hs.2; replace hc : True := trivial)
|(with_reducible refine loopQ_next (i + 1) ?_ ?_ (Wk_sub rfl rfl ?_ ?_))
|simp only [f99r0, f99r1, f99r2, f99r3, f99r4, f99r5, f99r6, f99r7, g3, g2, g1, f99k, List.length_map, List.getD_cons_zero, runG_nil, runG_u, runG_g, runG_ucS, runG_gcS, stp, avL, avS, evs, evX, lget, lput, strip, putO, PO.dst, updO, okR, cells, splice, AV.cell, toD, toDs, binV, sameK, pickV, guardOf, okL_nil, sides, argsOf, rawOf, dv, dvL, owns, ownsL, flat, flatL, lkeep, seqQ, blockQ, initS, List.drop_succ_cons, List.drop_zero, List.take_succ_cons, List.take_zero, List.getD_cons_zero, List.getD_cons_succ, List.length_cons, List.length_nil, List.set_cons_zero, List.set_cons_succ, List.map_cons, List.map_nil, List.all_cons, List.all_nil, List.elem_cons, List.elem_nil, Option.getD_some, Option.getD_none, Option.bind_some, Option.isNone_none, reduceIte, reduceCtorEq, Nat.reduceEqDiff, Nat.reduceAdd, Nat.reduceLeDiff, Nat.zero_add, Nat.add_zero, Nat.reduceBEq, Bool.and_self, Bool.and_true, Bool.true_and, Bool.or_self, Bool.or_false, Bool.false_or, Bool.or_true, Bool.true_or, true_and, and_true, and_self, implies_true, forall_const, Bool.false_eq_true, id_eq, retQ, resOf, resV, Option.some.injEq, exists_eq_left', AV.d.injEq, D.v.injEq, Value.bool.injEq, imp_self, bldF, bldS, toVals, eqLs, Option.map_some, imp_false, not_true_eq_false, not_false_eq_true, List.append_nil, List.cons_append, List.nil_append, Option.toList_some, Option.toList_none, loopQ_exit, loopQ_ret, subS, subO, Bool.bne_false, Bool.bne_true, elemsOf, bslD, bslS, lputs, List.headD_cons, sealS, sealO, sealV, sealL, sealsS, sealsO, Bool.true_bne, Bool.false_bne, bne_self_eq_false, Int.reduceToNat, oSl, resR, argsN, dvN]
  all_goals try first
    | omega
    | (with_reducible rfl)
    | (show Value.int _ 0 = _; rfl)
    | (simp only [List.length_append, List.length_cons, List.length_nil]; omega)
    | (simp only [List.length_append, List.length_cons, List.length_nil, List.map_append, List.map_cons, List.map_nil]; done)
    | exact count64 hf.2.2.2 (hn.row _ hme)
    | (have h1 := hi.2; rw [hf.1, List.any_cons] at h1
       have h2 : (b.getD f.src.toNat 0 == y && sameE f e) = true := by simpa using hc
       rw [h2, Bool.true_or] at h1; rw [← h1]; done)
    | (have h1 := hi.2; rw [hf.1, List.any_cons] at h1
       have h2 : (b.getD f.src.toNat 0 == y && sameE f e) = false := by simpa using hc
       rw [h2, Bool.false_or] at h1; exact h1)
    | (have h0 := of_decide_eq_false hc; have h1 := hi.2; rw [List.drop_eq_nil_of_le (by omega)] at h1; rw [← h1]; rfl)
  all_goals trace_state
theorem or3 (a b c d : Bool) : (if (if (!a) = true then true else !b) = true then true else if c = true then d else false) = ((!a) || ((!b) || (c && d))) := by cases a <;> cases b <;> cases c <;> cases d <;> rfl
def all1 (n m : Net) (b : List Int) (k : Int) : Bool := (n.edges.getD k.toNat []).all fun e => b.getD e.src.toNat 0 == b.getD k.toNat 0 || overV m (b.getD k.toNat 0) (b.getD e.src.toNat 0) e
def all2 (n m : Net) (b : List Int) (k : Int) : Bool := (m.edges.getD (b.getD k.toNat 0).toNat []).all fun e => fromV n b k e.src e
theorem node_eq (n m : Net) (b : List Int) (k : Int) (sev : Bool) : nodeV n m b k sev = if ((!(n.origin.getD k.toNat false == m.origin.getD (b.getD k.toNat 0).toNat false)) || ((!(aVia n b k == m.static.getD (b.getD k.toNat 0).toNat 0)) || (sev && aloneV n k))) then false else all1 n m b k && all2 n m b k := rfl
theorem node_f1 {n m : Net} {b : List Int} {k : Int} {sev : Bool} (h : all1 n m b k = false) : false = nodeV n m b k sev := by rw [node_eq, h]; split <;> rfl
theorem node_f2 {n m : Net} {b : List Int} {k : Int} {sev : Bool} (h : all2 n m b k = false) : false = nodeV n m b k sev := by rw [node_eq, h, Bool.and_false]; split <;> rfl
theorem node_fn (n : Net) (hn : n.ok) (nm : n.May) (m : Net) (hm : m.ok) (mm : m.May) (b : List Int) (hb : b.length = n.origin.length) (hbr : ∀ x ∈ b, 0 ≤ x ∧ x < m.origin.length) (k : Int) (hk : 0 ≤ k ∧ k < n.origin.length) (sev : Bool) :
    FnS Tryz.prog 59 [n.av, m.av, .d (.sl 1 (b.map iD)), .d (.v (.int .i64 k)), .d (.v (.bool sev))] (.d (.v (.bool (nodeV n m b k sev)))) := by
  have n1 := nm.static
  have n2 := nm.edges
  have m1 := mm.static
  have m2 := mm.edges
  have hx := hbr _ (List.mem_of_getElem? (getD_mem b 0 hk.1 (by omega)))
  have g1 := at_int iD b 0 hk.1 (by omega)
  have g2 := at_int iD n.static 0 hk.1 (by omega)
  have g3 := at_int bD n.origin false hk.1 (by omega)
  have g4 := at_int esD n.edges [] hk.1 (by omega)
  have g5 := at_int iD m.static 0 hx.1 (by omega)
  have g6 := at_int bD m.origin false hx.1 (by omega)
  have g7 := at_int esD m.edges [] hx.1 (by omega)
  have hst := nm.st_lt (getD_mem n.static 0 hk.1 (by omega))
  have hme := mem_edges (n := n) (k := k) ⟨hk.1, by omega⟩
  have hmx := mem_edges (n := m) (k := b.getD k.toNat 0) ⟨hx.1, by omega⟩
  have hsr : ∀ f ∈ n.edges.getD k.toNat [], 0 ≤ f.src ∧ f.src < b.length := fun f hf => by
    have := nm.src _ _ (getD_mem n.edges [] hk.1 (by omega)) f hf; omega
  refine fn_of teok Tryz.func59 (by kernel_rfl) f59c f59k [.tmp 10] rfl (by show 5 ≤ 112; omega) ?_
  first | (have _q := @g9; clear _q) | have g9 : Nat.pred 77 = 76 := rfl
  first | (have _q := @g8; clear _q) | have g8 : Nat.pred 77 = 76 := rfl
  first | (have _q := @g1; clear _q) | have g1 : Nat.pred 77 = 76 := rfl
  first | (have _q := @g2; clear _q) | have g2 : Nat.pred 77 = 76 := rfl
  first | (have _q := @g3; clear _q) | have g3 : Nat.pred 77 = 76 := rfl
  first | (have _q := @g4; clear _q) | have g4 : Nat.pred 77 = 76 := rfl
  first | (have _q := @g5; clear _q) | have g5 : Nat.pred 77 = 76 := rfl
  first | (have _q := @g6; clear _q) | have g6 : Nat.pred 77 = 76 := rfl
  first | (have _q := @g7; clear _q) | have g7 : Nat.pred 77 = 76 := rfl
  repeat' first
|(with_reducible refine awp_mid (f59p20) [(12, .d (.v (.int .i64 (aVia n b k))))] [] ?_ ?_)
|(with_reducible first | refine awp_seq ?_ | refine awp_block ?_ | refine awp_reg ?_ | refine awp_regD ?_ | refine awp_ret ?_ | refine awp_skip ?_ | refine awp_exit ?_ | refine normQ_of ?_ | refine wkE_of ?_)
|with_reducible refine midQ_of (Wk_sub rfl rfl ?_ ?_)
|(with_reducible first | refine runD_nil ?_ | refine runD_cons ?_ | refine runF_cons ?_ | refine runF_nil ?_ | refine KF_of ?_ | refine chkQ_of rfl ?_)
|with_reducible refine awp_cond (by simp only [evX, lget, Option.getD_some, reduceIte, Nat.reduceEqDiff]; rfl) (fun hc => ?_) (fun hc => ?_)
|with_reducible refine CallC_of (f := 53) (fun _ => alone_fn n hn k) (by first | exact Or.inr (Or.inl rfl) | exact Or.inl rfl) ?_
|with_reducible refine CallC_of (f := 98) (fun _ => over_fn m hm _ _ ⟨hx.1, by omega⟩ e (hn.edge _ hme e (List.mem_of_getElem? he.2.2.1))) (by first | exact Or.inr (Or.inl rfl) | exact Or.inl rfl) ?_
|with_reducible refine CallU_of (f := 99) (from_fn n hn nm b hb k _ ⟨hk.1, by omega⟩ e (hm.edge _ hmx e (List.mem_of_getElem? he.2.2.1))) (by first | exact Or.inr (Or.inl rfl) | exact Or.inl rfl) ?_
|(with_reducible assumption)
|with_reducible refine fun (hG : okL _) => ?_
|(with_reducible refine fun (hT : (_ : Bool) = _) => ?_)
|(with_reducible first | exact hG.2 | exact hG.2.2 | exact hG.2.2.2 | exact hG.2.2.2.2)
|with_reducible refine okL_mk ?_ ?_
|with_reducible refine And.intro ?_ ?_
|(have hv0 := of_decide_eq_true (p := 0 ≤ n.static.getD k.toNat 0) hc; have g8 := at_int iD b 0 hv0 (by omega); have hcv := hc; replace hc : True := trivial)
|(with_reducible refine awp_loopU (b := f59p8) (fun i : Nat => i ≤ (n.edges.getD k.toNat []).length ∧ (((n.edges.getD k.toNat []).drop i).all fun e => b.getD e.src.toNat 0 == b.getD k.toNat 0 || overV m (b.getD k.toNat 0) (b.getD e.src.toNat 0) e) = all1 n m b k) (fun i => (n.edges.getD k.toNat []).length - i) (fun i => [(69, .d (.v (.int .i64 i)))]) (fun i => []) (0) (⟨Nat.zero_le _, rfl⟩) (Wk.refl _ _) (Wk_sub rfl rfl ?_ ?_) (fun i hi => ?_))
|(refine Exists.elim (at_drop Arc.row (n.edges.getD k.toNat []) i (Int.ofNat_lt.1 (of_decide_eq_true hc))) (fun e he => ?_); have g8 := he.2.1; have hs := hsr e (List.mem_of_getElem? he.2.2.1); have g9 := at_int iD b 0 hs.1 hs.2; replace hc : True := trivial)
|(with_reducible refine loopQ_next (j + 1) ?_ ?_ (Wk_sub rfl rfl ?_ ?_))
|(with_reducible refine loopQ_next (i + 1) ?_ ?_ (Wk_sub rfl rfl ?_ ?_))
|(with_reducible refine awp_loopU (b := f59p15) (fun j : Nat => j ≤ (m.edges.getD (b.getD k.toNat 0).toNat []).length ∧ (((m.edges.getD (b.getD k.toNat 0).toNat []).drop j).all fun e => fromV n b k e.src e) = all2 n m b k ∧ all1 n m b k = true) (fun j => (m.edges.getD (b.getD k.toNat 0).toNat []).length - j) (fun j => [(99, .d (.v (.int .i64 j)))]) (fun j => []) (0) (⟨Nat.zero_le _, rfl, by have h0 := of_decide_eq_false hc; have h1 := hi.2; rw [List.drop_eq_nil_of_le (by omega), List.all_nil] at h1; exact h1.symm⟩) (Wk.refl _ _) (Wk_sub rfl rfl ?_ ?_) (fun j hj => ?_))
|(refine Exists.elim (at_drop Arc.row (m.edges.getD (b.getD k.toNat 0).toNat []) j (Int.ofNat_lt.1 (of_decide_eq_true hc))) (fun e he => ?_); have g8 := he.2.1; replace hc : True := trivial)
|simp only [f59r0, f59r1, f59r2, f59r3, f59r4, f59r5, f59r6, f59r7, f59r8, f59r9, f59r10, f59r11, f59r12, f59r13, f59r14, f59r15, f59r16, f59r17, f59r18, f59r19, g9, g8, g1, g2, g3, g4, g5, g6, g7, f59k, List.length_map, List.getD_cons_zero, runG_nil, runG_u, runG_g, runG_ucS, runG_gcS, stp, avL, avS, evs, evX, lget, lput, strip, putO, PO.dst, updO, okR, cells, splice, AV.cell, toD, toDs, binV, sameK, pickV, guardOf, okL_nil, sides, argsOf, rawOf, dv, dvL, owns, ownsL, flat, flatL, lkeep, seqQ, blockQ, initS, List.drop_succ_cons, List.drop_zero, List.take_succ_cons, List.take_zero, List.getD_cons_zero, List.getD_cons_succ, List.length_cons, List.length_nil, List.set_cons_zero, List.set_cons_succ, List.map_cons, List.map_nil, List.all_cons, List.all_nil, List.elem_cons, List.elem_nil, Option.getD_some, Option.getD_none, Option.bind_some, Option.isNone_none, reduceIte, reduceCtorEq, Nat.reduceEqDiff, Nat.reduceAdd, Nat.reduceLeDiff, Nat.zero_add, Nat.add_zero, Nat.reduceBEq, Bool.and_self, Bool.and_true, Bool.true_and, Bool.or_self, Bool.or_false, Bool.false_or, Bool.or_true, Bool.true_or, true_and, and_true, and_self, implies_true, forall_const, Bool.false_eq_true, id_eq, retQ, resOf, resV, Option.some.injEq, exists_eq_left', AV.d.injEq, D.v.injEq, Value.bool.injEq, imp_self, bldF, bldS, toVals, eqLs, Option.map_some, imp_false, not_true_eq_false, not_false_eq_true, foot, wrs, nm, nmL, PG.reads, PG.dst, PO.reads, X.sl, sls, slB, List.append_nil, List.cons_append, List.nil_append, Option.toList_some, Option.toList_none, loopQ_exit, loopQ_ret, subS, subO, Bool.bne_false, Bool.bne_true, elemsOf, bslD, bslS, lputs, List.headD_cons, sealS, sealO, sealV, sealL, midQ_ret, midQ_exit, sealsS, sealsO, Bool.true_bne, Bool.false_bne, bne_self_eq_false, Int.reduceToNat, oSl, resR, argsN, dvN]
  all_goals try first
    | omega
    | (with_reducible rfl)
    | (show Value.int _ 0 = _; rfl)
    | (simp only [List.length_append, List.length_cons, List.length_nil]; omega)
    | (simp only [List.length_append, List.length_cons, List.length_nil, List.map_append, List.map_cons, List.map_nil]; done)
    | exact count64 he.2.2.2 (hn.row _ hme)
    | exact count64 he.2.2.2 (hm.row _ hmx)
    | (rw [aVia, if_pos hv0]; done)
    | (rw [aVia, if_neg (of_decide_eq_false hc)]; done)
    | (rw [or3] at hc; rw [node_eq, if_pos hc]; done)
    | (have h2 : (b.getD e.src.toNat 0 == b.getD k.toNat 0 || overV m (b.getD k.toNat 0) (b.getD e.src.toNat 0) e) = false := by revert hc; cases (b.getD e.src.toNat 0 == b.getD k.toNat 0) <;> simp
       have h1 := hi.2; rw [he.1, List.all_cons, h2, Bool.false_and] at h1; exact node_f1 h1.symm)
    | (have h2 : (b.getD e.src.toNat 0 == b.getD k.toNat 0 || overV m (b.getD k.toNat 0) (b.getD e.src.toNat 0) e) = true := by revert hc; cases (b.getD e.src.toNat 0 == b.getD k.toNat 0) <;> simp
       have h1 := hi.2; rw [he.1, List.all_cons, h2, Bool.true_and] at h1; exact h1)
    | (have h2 : fromV n b k e.src e = false := by simpa using hc
       have h1 := hj.2.1; rw [he.1, List.all_cons, h2, Bool.false_and] at h1; exact node_f2 h1.symm)
    | (have h2 : fromV n b k e.src e = true := by simpa using hc
       have h1 := hj.2.1; rw [he.1, List.all_cons, h2, Bool.true_and] at h1; exact ⟨h1, hj.2.2⟩)
    | (have h2 : fromV n b k e.src e = true := by simpa using hc
       have h1 := hj.2.1; rw [he.1, List.all_cons, h2, Bool.true_and] at h1; exact h1)
    | exact hj.2.2
    | (have hA : (if (if (!(n.origin.getD k.toNat false == m.origin.getD (b.getD k.toNat 0).toNat false)) = true then true else !(aVia n b k == m.static.getD (b.getD k.toNat 0).toNat 0)) = true then true else if sev = true then aloneV n k else false) = false := by assumption
       have h0 := of_decide_eq_false hc; have h1 := hj.2.1; rw [List.drop_eq_nil_of_le (by omega)] at h1
       have h2 : all2 n m b k = true := h1.symm
       rw [or3] at hA; rw [node_eq, hA, hj.2.2, h2]; rfl)
  all_goals trace_state
end Go.Proofs.YtgkkaimcchlnaaaGreatDoor
