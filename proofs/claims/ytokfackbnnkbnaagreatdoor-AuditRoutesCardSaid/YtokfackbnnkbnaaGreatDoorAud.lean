/- What audit.over, audit.from and audit.Node come to. Printed by a program of this project (wip/mq). -/
import Derived.Test.YtokfackbnnkbnaaGreatDoorEsame
import Derived.Test.YtokfackbnnkbnaaGreatDoorMay
set_option linter.unusedVariables false
set_option linter.unusedSimpArgs false

namespace Go.Proofs.YtokfackbnnkbnaaGreatDoor
open Go Mq Go.ChangeShapes Go.WideShapes Go.ChangeAt Go.RowKit
/-! maquette/audit.over -/
def f52r0 : List PG := [.u (.bx 4 (.t 0)), .u (.bx 7 (.t 3)), .u (.mv 8 (.k (.bool false)))]
def f52r1 : List PG := [.u (.fa 11 2 (.t 4)), .u (.ld 12 1 false (.t 11)), .u (.mv 13 (.t 1)), .u (.ia 14 1 (.t 12) (.t 13)), .u (.ld 15 1 false (.t 14)), .u (.len 16 (.t 15)), .u (.mv 17 (.k (.int .i64 0)))]
def f52r2 : List PG := [.u (.bo 18 .lss (.t 17) (.t 16))]
def f52r3 : List PG := [.u (.ia 19 4 (.t 15) (.t 17)), .u (.ld 20 4 true (.t 19)), .u (.al 10 [.d (.v (.int .i64 0)), .d (.v (.int .i64 0)), .nl 10, .nl 10]), .u (.st 4 (.t 10) (.t 20))]
def f52r4 : List PG := [.u (.fa 21 0 (.t 10)), .u (.ld 22 1 false (.t 21)), .u (.mv 23 (.t 2)), .u (.beq 24 false false (.t 22) (.t 23)), .u (.mv 25 (.t 24)), .g 25 true (.ld 26 4 true (.t 10)), .g 25 true (.ld 27 4 true (.t 7)), .gc 25 true 28 69 [.t 26, .t 27], .u (.pick 29 (.t 25) (.t 28) (.k (.bool false)))]
def f52r5 : List PG := [.u (.mv 8 (.k (.bool true)))]
abbrev f52p0 : PC := .seq (.reg f52r5) (.ret)
abbrev f52p1 : PC := .cond (.t 29) (f52p0) (.skip)
abbrev f52p2 : PC := .seq (.reg f52r4) (f52p1)
def f52r6 : List PG := [.u (.bo 30 .add (.t 17) (.k (.int .i64 1))), .u (.mv 17 (.t 30))]
abbrev f52p3 : PC := .seq (.block 1 (.seq (.reg f52r3) (f52p2))) (.reg f52r6)
abbrev f52p4 : PC := .seq (.cond (.t 18) (.skip) (.exit 0)) (f52p3)
abbrev f52p5 : PC := .seq (.reg f52r2) (f52p4)
abbrev f52p6 : PC := .block 0 (.loop (f52p5))
def f52r7 : List PG := [.u (.mv 8 (.k (.bool false)))]
abbrev f52p7 : PC := .seq (.reg f52r7) (.ret)
abbrev f52p8 : PC := .seq (.seq (.reg f52r1) (f52p6)) (f52p7)
abbrev f52pc : PC := .seq (.reg f52r0) (f52p8)
def f52k : List Nat := [0, 1, 2, 3, 4, 7, 8, 10, 15, 16, 17, 18, 29]
theorem f52c : Tryz.f52.body.bind (cC te Tryz.f52.ntmps) = some f52pc := by kernel_rfl
/-! maquette/audit.from -/
def f53r0 : List PG := [.u (.bx 5 (.t 0)), .u (.bx 9 (.t 4)), .u (.mv 10 (.k (.bool false)))]
def f53r1 : List PG := [.u (.fa 13 2 (.t 5)), .u (.ld 14 1 false (.t 13)), .u (.mv 15 (.t 2)), .u (.ia 16 1 (.t 14) (.t 15)), .u (.ld 17 1 false (.t 16)), .u (.len 18 (.t 17)), .u (.mv 19 (.k (.int .i64 0)))]
def f53r2 : List PG := [.u (.bo 20 .lss (.t 19) (.t 18))]
def f53r3 : List PG := [.u (.ia 21 4 (.t 17) (.t 19)), .u (.ld 22 4 true (.t 21)), .u (.al 12 [.d (.v (.int .i64 0)), .d (.v (.int .i64 0)), .nl 10, .nl 10]), .u (.st 4 (.t 12) (.t 22))]
def f53r4 : List PG := [.u (.mv 23 (.t 1)), .u (.fa 24 0 (.t 12)), .u (.ld 25 1 false (.t 24)), .u (.ia 26 1 (.t 23) (.t 25)), .u (.ld 27 1 false (.t 26)), .u (.mv 28 (.t 3)), .u (.beq 29 false false (.t 27) (.t 28)), .u (.mv 30 (.t 29)), .g 30 true (.ld 31 4 true (.t 12)), .g 30 true (.ld 32 4 true (.t 9)), .gc 30 true 33 69 [.t 31, .t 32], .u (.pick 34 (.t 30) (.t 33) (.k (.bool false)))]
def f53r5 : List PG := [.u (.mv 10 (.k (.bool true)))]
abbrev f53p0 : PC := .seq (.reg f53r5) (.ret)
abbrev f53p1 : PC := .cond (.t 34) (f53p0) (.skip)
abbrev f53p2 : PC := .seq (.reg f53r4) (f53p1)
def f53r6 : List PG := [.u (.bo 35 .add (.t 19) (.k (.int .i64 1))), .u (.mv 19 (.t 35))]
abbrev f53p3 : PC := .seq (.block 1 (.seq (.reg f53r3) (f53p2))) (.reg f53r6)
abbrev f53p4 : PC := .seq (.cond (.t 20) (.skip) (.exit 0)) (f53p3)
abbrev f53p5 : PC := .seq (.reg f53r2) (f53p4)
abbrev f53p6 : PC := .block 0 (.loop (f53p5))
def f53r7 : List PG := [.u (.mv 10 (.k (.bool false)))]
abbrev f53p7 : PC := .seq (.reg f53r7) (.ret)
abbrev f53p8 : PC := .seq (.seq (.reg f53r1) (f53p6)) (f53p7)
abbrev f53pc : PC := .seq (.reg f53r0) (f53p8)
def f53k : List Nat := [0, 1, 2, 3, 4, 5, 9, 10, 12, 17, 18, 19, 20, 34]
theorem f53c : Tryz.f53.body.bind (cC te Tryz.f53.ntmps) = some f53pc := by kernel_rfl
/-! maquette/audit.Node -/
def f29r0 : List PG := [.u (.bx 5 (.t 0)), .u (.bx 6 (.t 1)), .u (.mv 10 (.k (.bool false)))]
def f29r1 : List PG := [.u (.mv 17 (.t 2)), .u (.mv 18 (.t 3)), .u (.ia 19 1 (.t 17) (.t 18)), .u (.ld 20 1 false (.t 19)), .u (.mv 11 (.t 20))]
def f29r2 : List PG := [.u (.mv 12 (.k (.int .i64 (-1))))]
def f29r3 : List PG := [.u (.fa 21 1 (.t 5)), .u (.ld 22 1 false (.t 21)), .u (.mv 23 (.t 3)), .u (.ia 24 1 (.t 22) (.t 23)), .u (.ld 25 1 false (.t 24)), .u (.bo 26 .geq (.t 25) (.k (.int .i64 0)))]
def f29r4 : List PG := [.u (.mv 27 (.t 2)), .u (.fa 28 1 (.t 5)), .u (.ld 29 1 false (.t 28)), .u (.mv 30 (.t 3)), .u (.ia 31 1 (.t 29) (.t 30)), .u (.ld 32 1 false (.t 31)), .u (.ia 33 1 (.t 27) (.t 32)), .u (.ld 34 1 false (.t 33)), .u (.mv 12 (.t 34))]
abbrev f29p0 : PC := .cond (.t 26) (.reg f29r4) (.skip)
def f29r5 : List PG := [.u (.fa 35 0 (.t 5)), .u (.ld 36 1 false (.t 35)), .u (.mv 37 (.t 3)), .u (.ia 38 1 (.t 36) (.t 37)), .u (.ld 39 1 false (.t 38)), .u (.fa 40 0 (.t 6)), .u (.ld 41 1 false (.t 40)), .u (.mv 42 (.t 11)), .u (.ia 43 1 (.t 41) (.t 42)), .u (.ld 44 1 false (.t 43)), .u (.beq 45 true true (.t 39) (.t 44)), .u (.mv 46 (.t 45)), .g 46 false (.mv 47 (.t 12)), .g 46 false (.fa 48 1 (.t 6)), .g 46 false (.ld 49 1 false (.t 48)), .g 46 false (.mv 50 (.t 11)), .g 46 false (.ia 51 1 (.t 49) (.t 50)), .g 46 false (.ld 52 1 false (.t 51)), .g 46 false (.beq 53 true false (.t 47) (.t 52)), .u (.pick 54 (.t 46) (.k (.bool true)) (.t 53)), .u (.mv 55 (.t 54)), .g 55 false (.mv 56 (.t 4)), .g 55 false (.mv 57 (.t 56)), .g 57 true (.ld 58 3 true (.t 5)), .g 57 true (.mv 59 (.t 3)), .gc 57 true 60 19 [.t 58, .t 59], .g 55 false (.pick 61 (.t 57) (.t 60) (.k (.bool false))), .u (.pick 62 (.t 55) (.k (.bool true)) (.t 61))]
def f29r6 : List PG := [.u (.mv 10 (.k (.bool false)))]
abbrev f29p1 : PC := .seq (.reg f29r6) (.ret)
abbrev f29p2 : PC := .cond (.t 62) (f29p1) (.skip)
def f29r7 : List PG := [.u (.fa 63 2 (.t 5)), .u (.ld 64 1 false (.t 63)), .u (.mv 65 (.t 3)), .u (.ia 66 1 (.t 64) (.t 65)), .u (.ld 67 1 false (.t 66)), .u (.len 68 (.t 67)), .u (.mv 69 (.k (.int .i64 0)))]
def f29r8 : List PG := [.u (.bo 70 .lss (.t 69) (.t 68))]
def f29r9 : List PG := [.u (.ia 71 4 (.t 67) (.t 69)), .u (.ld 72 4 true (.t 71)), .u (.al 14 [.d (.v (.int .i64 0)), .d (.v (.int .i64 0)), .nl 10, .nl 10]), .u (.st 4 (.t 14) (.t 72))]
def f29r10 : List PG := [.u (.mv 73 (.t 2)), .u (.fa 74 0 (.t 14)), .u (.ld 75 1 false (.t 74)), .u (.ia 76 1 (.t 73) (.t 75)), .u (.ld 77 1 false (.t 76)), .u (.mv 78 (.t 11)), .u (.beq 79 true false (.t 77) (.t 78)), .u (.mv 80 (.t 79)), .g 80 true (.ld 81 3 true (.t 6)), .g 80 true (.mv 82 (.t 11)), .g 80 true (.mv 83 (.t 2)), .g 80 true (.fa 84 0 (.t 14)), .g 80 true (.ld 85 1 false (.t 84)), .g 80 true (.ia 86 1 (.t 83) (.t 85)), .g 80 true (.ld 87 1 false (.t 86)), .g 80 true (.ld 88 4 true (.t 14)), .gc 80 true 89 52 [.t 81, .t 82, .t 87, .t 88], .g 80 true (.no 90 (.t 89)), .u (.pick 91 (.t 80) (.t 90) (.k (.bool false)))]
def f29r11 : List PG := [.u (.mv 10 (.k (.bool false)))]
abbrev f29p3 : PC := .seq (.reg f29r11) (.ret)
abbrev f29p4 : PC := .cond (.t 91) (f29p3) (.skip)
abbrev f29p5 : PC := .seq (.regD f29r10 []) (f29p4)
def f29r12 : List PG := [.u (.bo 92 .add (.t 69) (.k (.int .i64 1))), .u (.mv 69 (.t 92))]
abbrev f29p6 : PC := .seq (.block 1 (.seq (.reg f29r9) (f29p5))) (.reg f29r12)
abbrev f29p7 : PC := .seq (.cond (.t 70) (.skip) (.exit 0)) (f29p6)
abbrev f29p8 : PC := .seq (.reg f29r8) (f29p7)
abbrev f29p9 : PC := .block 0 (.loop (f29p8))
def f29r13 : List PG := [.u (.fa 93 2 (.t 6)), .u (.ld 94 1 false (.t 93)), .u (.mv 95 (.t 11)), .u (.ia 96 1 (.t 94) (.t 95)), .u (.ld 97 1 false (.t 96)), .u (.len 98 (.t 97)), .u (.mv 99 (.k (.int .i64 0)))]
def f29r14 : List PG := [.u (.bo 100 .lss (.t 99) (.t 98))]
def f29r15 : List PG := [.u (.ia 101 4 (.t 97) (.t 99)), .u (.ld 102 4 true (.t 101)), .u (.al 16 [.d (.v (.int .i64 0)), .d (.v (.int .i64 0)), .nl 10, .nl 10]), .u (.st 4 (.t 16) (.t 102))]
def f29r16 : List PG := [.u (.ld 103 3 true (.t 5)), .u (.mv 104 (.t 2)), .u (.mv 105 (.t 3)), .u (.fa 106 0 (.t 16)), .u (.ld 107 1 false (.t 106)), .u (.ld 108 4 true (.t 16)), .uc 109 53 [.t 103, .t 104, .t 105, .t 107, .t 108], .u (.no 110 (.t 109))]
def f29r17 : List PG := [.u (.mv 10 (.k (.bool false)))]
abbrev f29p10 : PC := .seq (.reg f29r17) (.ret)
abbrev f29p11 : PC := .cond (.t 110) (f29p10) (.skip)
abbrev f29p12 : PC := .seq (.reg f29r16) (f29p11)
def f29r18 : List PG := [.u (.bo 111 .add (.t 99) (.k (.int .i64 1))), .u (.mv 99 (.t 111))]
abbrev f29p13 : PC := .seq (.block 3 (.seq (.reg f29r15) (f29p12))) (.reg f29r18)
abbrev f29p14 : PC := .seq (.cond (.t 100) (.skip) (.exit 2)) (f29p13)
abbrev f29p15 : PC := .seq (.reg f29r14) (f29p14)
abbrev f29p16 : PC := .block 2 (.loop (f29p15))
def f29r19 : List PG := [.u (.mv 10 (.k (.bool true)))]
abbrev f29p17 : PC := .seq (.reg f29r19) (.ret)
abbrev f29p18 : PC := .seq (.seq (.reg f29r13) (f29p16)) (f29p17)
abbrev f29p19 : PC := .seq (.seq (.reg f29r7) (f29p9)) (f29p18)
abbrev f29p20 : PC := .seq (.seq (.regD f29r5 []) (f29p2)) (f29p19)
abbrev f29p21 : PC := .seq (.seq (.reg f29r3) (f29p0)) (f29p20)
abbrev f29p22 : PC := .seq (.reg f29r2) (f29p21)
abbrev f29p23 : PC := .seq (.reg f29r1) (f29p22)
abbrev f29pc : PC := .seq (.reg f29r0) (f29p23)
def f29k : List Nat := [0, 1, 2, 3, 4, 5, 6, 10, 11, 12, 14, 16, 26, 62, 67, 68, 69, 70, 91, 97, 98, 99, 100, 110]
theorem f29c : Tryz.f29.body.bind (cC te Tryz.f29.ntmps) = some f29pc := by kernel_rfl
set_option maxRecDepth 20000
set_option maxHeartbeats 4000000
set_option linter.unusedSimpArgs false
set_option linter.unusedVariables false

theorem mem_edges {n : Net} {k : Int} (h : 0 ≤ k ∧ k < n.edges.length) : n.edges.getD k.toNat [] ∈ n.edges := List.mem_of_getElem? (getD_mem n.edges [] h.1 h.2)

theorem over_fn (m : Net) (hm : m.ok) (x y : Int) (hx : 0 ≤ x ∧ x < m.edges.length) (e : Arc) (he : e.ok) : FnS Tryz.prog 52 [m.av, .d (.v (.int .i64 x)), .d (.v (.int .i64 y)), .ag e.box] (.d (.v (.bool (overV m x y e)))) := by
  have g1 := at_int esD m.edges [] hx.1 hx.2
  have hme := mem_edges hx
  refine fn_of teok Tryz.func52 (by kernel_rfl) f52c f52k [.tmp 8] rfl (by show 4 ≤ 31; omega) ?_
  first | (have _q := @g2; clear _q) | have g2 : Nat.pred 77 = 76 := rfl
  first | (have _q := @g1; clear _q) | have g1 : Nat.pred 77 = 76 := rfl
  repeat' first
  | (with_reducible first | refine awp_seq ?_ | refine awp_block ?_ | refine awp_reg ?_ | refine awp_ret ?_ | refine awp_skip ?_ | refine awp_exit ?_ | refine normQ_of ?_ | refine wkE_of ?_)
  | with_reducible refine awp_cond (by simp only [evX, lget, Option.getD_some, reduceIte, Nat.reduceEqDiff]; rfl) (fun hc => ?_) (fun hc => ?_)
  | with_reducible refine CallC_of (f := 69) (fun _ => esame_fn f (hm.edge _ hme f (List.mem_of_getElem? hf.2.2.1)) e he) (by first | exact Or.inr (Or.inl rfl) | exact Or.inl rfl) ?_
  | (with_reducible assumption)
  | with_reducible refine fun (hG : okL _) => ?_
  | (with_reducible refine fun (hT : (_ : Bool) = _) => ?_)
  | (with_reducible first | exact hG.2 | exact hG.2.2 | exact hG.2.2.2 | exact hG.2.2.2.2)
  | with_reducible refine okL_mk ?_ ?_
  | with_reducible refine And.intro ?_ ?_
  | (with_reducible refine awp_loopU (b := f52p5) (fun i : Nat => i ≤ (m.edges.getD x.toNat []).length ∧ (((m.edges.getD x.toNat []).drop i).any fun f => f.src == y && sameE f e) = overV m x y e) (fun i => (m.edges.getD x.toNat []).length - i) (fun i => [(17, .d (.v (.int .i64 i)))]) (fun i => []) (0) (⟨Nat.zero_le _, rfl⟩) (Wk.refl _ _) (Wk_sub rfl rfl ?_ ?_) (fun i hi => ?_))
  | (refine Exists.elim (at_drop Arc.row (m.edges.getD x.toNat []) i (Int.ofNat_lt.1 (of_decide_eq_true hc))) (fun f hf => ?_); have g2 := hf.2.1; replace hc : True := trivial)
  | (with_reducible refine loopQ_next (i + 1) ?_ ?_ (Wk_sub rfl rfl ?_ ?_))
  | simp only [f52r0, f52r1, f52r2, f52r3, f52r4, f52r5, f52r6, f52r7, g2, g1, f52k, List.length_map, List.getD_cons_zero, runG_nil, runG_u, runG_g, runG_ucS, runG_gcS, stp, avL, avS, evs, evX, lget, lput, strip, putO, PO.dst, updO, okR, cells, splice, AV.cell, toD, toDs, binV, sameK, pickV, guardOf, okL_nil, sides, argsOf, rawOf, dv, dvL, owns, ownsL, flat, flatL, lkeep, seqQ, blockQ, initS, List.drop_succ_cons, List.drop_zero, List.take_succ_cons, List.take_zero, List.getD_cons_zero, List.getD_cons_succ, List.length_cons, List.length_nil, List.set_cons_zero, List.set_cons_succ, List.map_cons, List.map_nil, List.all_cons, List.all_nil, List.elem_cons, List.elem_nil, Option.getD_some, Option.getD_none, Option.bind_some, Option.isNone_none, reduceIte, reduceCtorEq, Nat.reduceEqDiff, Nat.reduceAdd, Nat.reduceLeDiff, Nat.zero_add, Nat.add_zero, Nat.reduceBEq, Bool.and_self, Bool.and_true, Bool.true_and, Bool.or_self, Bool.or_false, Bool.false_or, Bool.or_true, Bool.true_or, true_and, and_true, and_self, implies_true, forall_const, Bool.false_eq_true, id_eq, retQ, resOf, resV, Option.some.injEq, exists_eq_left', AV.d.injEq, D.v.injEq, Value.bool.injEq, imp_self, bldF, bldS, toVals, eqLs, Option.map_some, imp_false, not_true_eq_false, not_false_eq_true, List.append_nil, List.cons_append, List.nil_append, Option.toList_some, Option.toList_none, loopQ_exit, loopQ_ret, subS, subO, Bool.bne_false, Bool.bne_true, elemsOf, bslD, bslS, lputs, List.headD_cons, sealS, sealO, sealV, sealL, sealsS, sealsO, Bool.true_bne, Bool.false_bne, bne_self_eq_false, Int.reduceToNat, oSl, resR, argsN, dvN]
  all_goals try first
    | omega
    | (with_reducible rfl)
    | (show Value.int _ 0 = _; rfl)
    | (simp only [List.length_append, List.length_cons, List.length_nil]; omega)
    | (simp only [List.length_append, List.length_cons, List.length_nil, List.map_append, List.map_cons, List.map_nil]; done)
    | exact count64 hf.2.2.2 (hm.row _ hme)
    | (have h1 := hi.2; rw [hf.1, List.any_cons] at h1
       have h2 : (f.src == y && sameE f e) = true := by simpa using hc
       rw [h2, Bool.true_or] at h1; rw [← h1]; done)
    | (have h1 := hi.2; rw [hf.1, List.any_cons] at h1
       have h2 : (f.src == y && sameE f e) = false := by simpa using hc
       rw [h2, Bool.false_or] at h1; exact h1)
    | (have h0 := of_decide_eq_false hc; have h1 := hi.2; rw [List.drop_eq_nil_of_le (by omega)] at h1; rw [← h1]; rfl)
  all_goals trace_state
theorem from_fn (n : Net) (hn : n.ok) (hm : n.May) (b : List Int) (hb : b.length = n.origin.length) (k y : Int) (hk : 0 ≤ k ∧ k < n.edges.length) (e : Arc) (he : e.ok) : FnS Tryz.prog 53 [n.av, .d (.sl 1 (b.map iD)), .d (.v (.int .i64 k)), .d (.v (.int .i64 y)), .ag e.box] (.d (.v (.bool (fromV n b k y e)))) := by
  have g1 := at_int esD n.edges [] hk.1 hk.2
  have hme := mem_edges hk
  have hsr : ∀ f ∈ n.edges.getD k.toNat [], 0 ≤ f.src ∧ f.src < b.length := fun f hf => by
    have := hm.src _ _ (getD_mem n.edges [] hk.1 hk.2) f hf; omega
  refine fn_of teok Tryz.func53 (by kernel_rfl) f53c f53k [.tmp 10] rfl (by show 5 ≤ 36; omega) ?_
  first | (have _q := @g3; clear _q) | have g3 : Nat.pred 77 = 76 := rfl
  first | (have _q := @g2; clear _q) | have g2 : Nat.pred 77 = 76 := rfl
  first | (have _q := @g1; clear _q) | have g1 : Nat.pred 77 = 76 := rfl
  repeat' first
  | (with_reducible first | refine awp_seq ?_ | refine awp_block ?_ | refine awp_reg ?_ | refine awp_ret ?_ | refine awp_skip ?_ | refine awp_exit ?_ | refine normQ_of ?_ | refine wkE_of ?_)
  | with_reducible refine awp_cond (by simp only [evX, lget, Option.getD_some, reduceIte, Nat.reduceEqDiff]; rfl) (fun hc => ?_) (fun hc => ?_)
  | with_reducible refine CallC_of (f := 69) (fun _ => esame_fn f (hn.edge _ hme f (List.mem_of_getElem? hf.2.2.1)) e he) (by first | exact Or.inr (Or.inl rfl) | exact Or.inl rfl) ?_
  | (with_reducible assumption)
  | with_reducible refine fun (hG : okL _) => ?_
  | (with_reducible refine fun (hT : (_ : Bool) = _) => ?_)
  | (with_reducible first | exact hG.2 | exact hG.2.2 | exact hG.2.2.2 | exact hG.2.2.2.2)
  | with_reducible refine okL_mk ?_ ?_
  | with_reducible refine And.intro ?_ ?_
  | (with_reducible refine awp_loopU (b := f53p5) (fun i : Nat => i ≤ (n.edges.getD k.toNat []).length ∧ (((n.edges.getD k.toNat []).drop i).any fun f => b.getD f.src.toNat 0 == y && sameE f e) = fromV n b k y e) (fun i => (n.edges.getD k.toNat []).length - i) (fun i => [(19, .d (.v (.int .i64 i)))]) (fun i => []) (0) (⟨Nat.zero_le _, rfl⟩) (Wk.refl _ _) (Wk_sub rfl rfl ?_ ?_) (fun i hi => ?_))
  | (refine Exists.elim (at_drop Arc.row (n.edges.getD k.toNat []) i (Int.ofNat_lt.1 (of_decide_eq_true hc))) (fun f hf => ?_); have g2 := hf.2.1; have hs := hsr f (List.mem_of_getElem? hf.2.2.1); have g3 := at_int iD b 0 hs.1 hs.2; replace hc : True := trivial)
  | (with_reducible refine loopQ_next (i + 1) ?_ ?_ (Wk_sub rfl rfl ?_ ?_))
  | simp only [f53r0, f53r1, f53r2, f53r3, f53r4, f53r5, f53r6, f53r7, g3, g2, g1, f53k, List.length_map, List.getD_cons_zero, runG_nil, runG_u, runG_g, runG_ucS, runG_gcS, stp, avL, avS, evs, evX, lget, lput, strip, putO, PO.dst, updO, okR, cells, splice, AV.cell, toD, toDs, binV, sameK, pickV, guardOf, okL_nil, sides, argsOf, rawOf, dv, dvL, owns, ownsL, flat, flatL, lkeep, seqQ, blockQ, initS, List.drop_succ_cons, List.drop_zero, List.take_succ_cons, List.take_zero, List.getD_cons_zero, List.getD_cons_succ, List.length_cons, List.length_nil, List.set_cons_zero, List.set_cons_succ, List.map_cons, List.map_nil, List.all_cons, List.all_nil, List.elem_cons, List.elem_nil, Option.getD_some, Option.getD_none, Option.bind_some, Option.isNone_none, reduceIte, reduceCtorEq, Nat.reduceEqDiff, Nat.reduceAdd, Nat.reduceLeDiff, Nat.zero_add, Nat.add_zero, Nat.reduceBEq, Bool.and_self, Bool.and_true, Bool.true_and, Bool.or_self, Bool.or_false, Bool.false_or, Bool.or_true, Bool.true_or, true_and, and_true, and_self, implies_true, forall_const, Bool.false_eq_true, id_eq, retQ, resOf, resV, Option.some.injEq, exists_eq_left', AV.d.injEq, D.v.injEq, Value.bool.injEq, imp_self, bldF, bldS, toVals, eqLs, Option.map_some, imp_false, not_true_eq_false, not_false_eq_true, List.append_nil, List.cons_append, List.nil_append, Option.toList_some, Option.toList_none, loopQ_exit, loopQ_ret, subS, subO, Bool.bne_false, Bool.bne_true, elemsOf, bslD, bslS, lputs, List.headD_cons, sealS, sealO, sealV, sealL, sealsS, sealsO, Bool.true_bne, Bool.false_bne, bne_self_eq_false, Int.reduceToNat, oSl, resR, argsN, dvN]
  all_goals try first
    | omega
    | (with_reducible rfl)
    | (show Value.int _ 0 = _; rfl)
    | (simp only [List.length_append, List.length_cons, List.length_nil]; omega)
    | (simp only [List.length_append, List.length_cons, List.length_nil, List.map_append, List.map_cons, List.map_nil]; done)
    | exact count64 hf.2.2.2 (hn.row _ hme)
    | (have h1 := hi.2; rw [hf.1, List.any_cons] at h1
       have h2 : (b.getD f.src.toNat 0 == y && sameE f e) = true := by simpa using hc
       rw [h2, Bool.true_or] at h1; rw [← h1]; done)
    | (have h1 := hi.2; rw [hf.1, List.any_cons] at h1
       have h2 : (b.getD f.src.toNat 0 == y && sameE f e) = false := by simpa using hc
       rw [h2, Bool.false_or] at h1; exact h1)
    | (have h0 := of_decide_eq_false hc; have h1 := hi.2; rw [List.drop_eq_nil_of_le (by omega)] at h1; rw [← h1]; rfl)
  all_goals trace_state
theorem or3 (a b c d : Bool) : (if (if (!a) = true then true else !b) = true then true else if c = true then d else false) = ((!a) || ((!b) || (c && d))) := by cases a <;> cases b <;> cases c <;> cases d <;> rfl
def all1 (n m : Net) (b : List Int) (k : Int) : Bool := (n.edges.getD k.toNat []).all fun e => b.getD e.src.toNat 0 == b.getD k.toNat 0 || overV m (b.getD k.toNat 0) (b.getD e.src.toNat 0) e
def all2 (n m : Net) (b : List Int) (k : Int) : Bool := (m.edges.getD (b.getD k.toNat 0).toNat []).all fun e => fromV n b k e.src e
theorem node_eq (n m : Net) (b : List Int) (k : Int) (sev : Bool) : nodeV n m b k sev = if ((!(n.origin.getD k.toNat false == m.origin.getD (b.getD k.toNat 0).toNat false)) || ((!(aVia n b k == m.static.getD (b.getD k.toNat 0).toNat 0)) || (sev && aloneV n k))) then false else all1 n m b k && all2 n m b k := rfl
theorem node_f1 {n m : Net} {b : List Int} {k : Int} {sev : Bool} (h : all1 n m b k = false) : false = nodeV n m b k sev := by rw [node_eq, h]; split <;> rfl
theorem node_f2 {n m : Net} {b : List Int} {k : Int} {sev : Bool} (h : all2 n m b k = false) : false = nodeV n m b k sev := by rw [node_eq, h, Bool.and_false]; split <;> rfl
theorem node_fn (n : Net) (hn : n.ok) (nm : n.May) (m : Net) (hm : m.ok) (mm : m.May) (b : List Int) (hb : b.length = n.origin.length) (hbr : ∀ x ∈ b, 0 ≤ x ∧ x < m.origin.length) (k : Int) (hk : 0 ≤ k ∧ k < n.origin.length) (sev : Bool) :
    FnS Tryz.prog 29 [n.av, m.av, .d (.sl 1 (b.map iD)), .d (.v (.int .i64 k)), .d (.v (.bool sev))] (.d (.v (.bool (nodeV n m b k sev)))) := by
  have n1 := nm.static
  have n2 := nm.edges
  have m1 := mm.static
  have m2 := mm.edges
  have hx := hbr _ (List.mem_of_getElem? (getD_mem b 0 hk.1 (by omega)))
  have g1 := at_int iD b 0 hk.1 (by omega)
  have g2 := at_int iD n.static 0 hk.1 (by omega)
  have g3 := at_int bD n.origin false hk.1 (by omega)
  have g4 := at_int esD n.edges [] hk.1 (by omega)
  have g5 := at_int iD m.static 0 hx.1 (by omega)
  have g6 := at_int bD m.origin false hx.1 (by omega)
  have g7 := at_int esD m.edges [] hx.1 (by omega)
  have hst := nm.st_lt (getD_mem n.static 0 hk.1 (by omega))
  have hme := mem_edges (n := n) (k := k) ⟨hk.1, by omega⟩
  have hmx := mem_edges (n := m) (k := b.getD k.toNat 0) ⟨hx.1, by omega⟩
  have hsr : ∀ f ∈ n.edges.getD k.toNat [], 0 ≤ f.src ∧ f.src < b.length := fun f hf => by
    have := nm.src _ _ (getD_mem n.edges [] hk.1 (by omega)) f hf; omega
  refine fn_of teok Tryz.func29 (by kernel_rfl) f29c f29k [.tmp 10] rfl (by show 5 ≤ 112; omega) ?_
  first | (have _q := @g9; clear _q) | have g9 : Nat.pred 77 = 76 := rfl
  first | (have _q := @g8; clear _q) | have g8 : Nat.pred 77 = 76 := rfl
  first | (have _q := @g1; clear _q) | have g1 : Nat.pred 77 = 76 := rfl
  first | (have _q := @g2; clear _q) | have g2 : Nat.pred 77 = 76 := rfl
  first | (have _q := @g3; clear _q) | have g3 : Nat.pred 77 = 76 := rfl
  first | (have _q := @g4; clear _q) | have g4 : Nat.pred 77 = 76 := rfl
  first | (have _q := @g5; clear _q) | have g5 : Nat.pred 77 = 76 := rfl
  first | (have _q := @g6; clear _q) | have g6 : Nat.pred 77 = 76 := rfl
  first | (have _q := @g7; clear _q) | have g7 : Nat.pred 77 = 76 := rfl
  repeat' first
  | (with_reducible refine awp_mid (f29p20) [(12, .d (.v (.int .i64 (aVia n b k))))] [] ?_ ?_)
  | (with_reducible first | refine awp_seq ?_ | refine awp_block ?_ | refine awp_reg ?_ | refine awp_regD ?_ | refine awp_ret ?_ | refine awp_skip ?_ | refine awp_exit ?_ | refine normQ_of ?_ | refine wkE_of ?_)
  | with_reducible refine midQ_of (Wk_sub rfl rfl ?_ ?_)
  | (with_reducible first | refine runD_nil ?_ | refine runD_cons ?_ | refine runF_cons ?_ | refine runF_nil ?_ | refine KF_of ?_ | refine chkQ_of rfl ?_)
  | with_reducible refine awp_cond (by simp only [evX, lget, Option.getD_some, reduceIte, Nat.reduceEqDiff]; rfl) (fun hc => ?_) (fun hc => ?_)
  | with_reducible refine CallC_of (f := 19) (fun _ => alone_fn n hn k) (by first | exact Or.inr (Or.inl rfl) | exact Or.inl rfl) ?_
  | with_reducible refine CallC_of (f := 52) (fun _ => over_fn m hm _ _ ⟨hx.1, by omega⟩ e (hn.edge _ hme e (List.mem_of_getElem? he.2.2.1))) (by first | exact Or.inr (Or.inl rfl) | exact Or.inl rfl) ?_
  | with_reducible refine CallU_of (f := 53) (from_fn n hn nm b hb k _ ⟨hk.1, by omega⟩ e (hm.edge _ hmx e (List.mem_of_getElem? he.2.2.1))) (by first | exact Or.inr (Or.inl rfl) | exact Or.inl rfl) ?_
  | (with_reducible assumption)
  | with_reducible refine fun (hG : okL _) => ?_
  | (with_reducible refine fun (hT : (_ : Bool) = _) => ?_)
  | (with_reducible first | exact hG.2 | exact hG.2.2 | exact hG.2.2.2 | exact hG.2.2.2.2)
  | with_reducible refine okL_mk ?_ ?_
  | with_reducible refine And.intro ?_ ?_
  | (have hv0 := of_decide_eq_true (p := 0 ≤ n.static.getD k.toNat 0) hc; have g8 := at_int iD b 0 hv0 (by omega); have hcv := hc; replace hc : True := trivial)
  | (with_reducible refine awp_loopU (b := f29p8) (fun i : Nat => i ≤ (n.edges.getD k.toNat []).length ∧ (((n.edges.getD k.toNat []).drop i).all fun e => b.getD e.src.toNat 0 == b.getD k.toNat 0 || overV m (b.getD k.toNat 0) (b.getD e.src.toNat 0) e) = all1 n m b k) (fun i => (n.edges.getD k.toNat []).length - i) (fun i => [(69, .d (.v (.int .i64 i)))]) (fun i => []) (0) (⟨Nat.zero_le _, rfl⟩) (Wk.refl _ _) (Wk_sub rfl rfl ?_ ?_) (fun i hi => ?_))
  | (refine Exists.elim (at_drop Arc.row (n.edges.getD k.toNat []) i (Int.ofNat_lt.1 (of_decide_eq_true hc))) (fun e he => ?_); have g8 := he.2.1; have hs := hsr e (List.mem_of_getElem? he.2.2.1); have g9 := at_int iD b 0 hs.1 hs.2; replace hc : True := trivial)
  | (with_reducible refine loopQ_next (j + 1) ?_ ?_ (Wk_sub rfl rfl ?_ ?_))
  | (with_reducible refine loopQ_next (i + 1) ?_ ?_ (Wk_sub rfl rfl ?_ ?_))
  | (with_reducible refine awp_loopU (b := f29p15) (fun j : Nat => j ≤ (m.edges.getD (b.getD k.toNat 0).toNat []).length ∧ (((m.edges.getD (b.getD k.toNat 0).toNat []).drop j).all fun e => fromV n b k e.src e) = all2 n m b k ∧ all1 n m b k = true) (fun j => (m.edges.getD (b.getD k.toNat 0).toNat []).length - j) (fun j => [(99, .d (.v (.int .i64 j)))]) (fun j => []) (0) (⟨Nat.zero_le _, rfl, by have h0 := of_decide_eq_false hc; have h1 := hi.2; rw [List.drop_eq_nil_of_le (by omega), List.all_nil] at h1; exact h1.symm⟩) (Wk.refl _ _) (Wk_sub rfl rfl ?_ ?_) (fun j hj => ?_))
  | (refine Exists.elim (at_drop Arc.row (m.edges.getD (b.getD k.toNat 0).toNat []) j (Int.ofNat_lt.1 (of_decide_eq_true hc))) (fun e he => ?_); have g8 := he.2.1; replace hc : True := trivial)
  | simp only [f29r0, f29r1, f29r2, f29r3, f29r4, f29r5, f29r6, f29r7, f29r8, f29r9, f29r10, f29r11, f29r12, f29r13, f29r14, f29r15, f29r16, f29r17, f29r18, f29r19, g9, g8, g1, g2, g3, g4, g5, g6, g7, f29k, List.length_map, List.getD_cons_zero, runG_nil, runG_u, runG_g, runG_ucS, runG_gcS, stp, avL, avS, evs, evX, lget, lput, strip, putO, PO.dst, updO, okR, cells, splice, AV.cell, toD, toDs, binV, sameK, pickV, guardOf, okL_nil, sides, argsOf, rawOf, dv, dvL, owns, ownsL, flat, flatL, lkeep, seqQ, blockQ, initS, List.drop_succ_cons, List.drop_zero, List.take_succ_cons, List.take_zero, List.getD_cons_zero, List.getD_cons_succ, List.length_cons, List.length_nil, List.set_cons_zero, List.set_cons_succ, List.map_cons, List.map_nil, List.all_cons, List.all_nil, List.elem_cons, List.elem_nil, Option.getD_some, Option.getD_none, Option.bind_some, Option.isNone_none, reduceIte, reduceCtorEq, Nat.reduceEqDiff, Nat.reduceAdd, Nat.reduceLeDiff, Nat.zero_add, Nat.add_zero, Nat.reduceBEq, Bool.and_self, Bool.and_true, Bool.true_and, Bool.or_self, Bool.or_false, Bool.false_or, Bool.or_true, Bool.true_or, true_and, and_true, and_self, implies_true, forall_const, Bool.false_eq_true, id_eq, retQ, resOf, resV, Option.some.injEq, exists_eq_left', AV.d.injEq, D.v.injEq, Value.bool.injEq, imp_self, bldF, bldS, toVals, eqLs, Option.map_some, imp_false, not_true_eq_false, not_false_eq_true, foot, wrs, nm, nmL, PG.reads, PG.dst, PO.reads, X.sl, sls, slB, List.append_nil, List.cons_append, List.nil_append, Option.toList_some, Option.toList_none, loopQ_exit, loopQ_ret, subS, subO, Bool.bne_false, Bool.bne_true, elemsOf, bslD, bslS, lputs, List.headD_cons, sealS, sealO, sealV, sealL, midQ_ret, midQ_exit, sealsS, sealsO, Bool.true_bne, Bool.false_bne, bne_self_eq_false, Int.reduceToNat, oSl, resR, argsN, dvN]
  all_goals try first
    | omega
    | (with_reducible rfl)
    | (show Value.int _ 0 = _; rfl)
    | (simp only [List.length_append, List.length_cons, List.length_nil]; omega)
    | (simp only [List.length_append, List.length_cons, List.length_nil, List.map_append, List.map_cons, List.map_nil]; done)
    | exact count64 he.2.2.2 (hn.row _ hme)
    | exact count64 he.2.2.2 (hm.row _ hmx)
    | (rw [aVia, if_pos hv0]; done)
    | (rw [aVia, if_neg (of_decide_eq_false hc)]; done)
    | (rw [or3] at hc; rw [node_eq, if_pos hc]; done)
    | (have h2 : (b.getD e.src.toNat 0 == b.getD k.toNat 0 || overV m (b.getD k.toNat 0) (b.getD e.src.toNat 0) e) = false := by revert hc; cases (b.getD e.src.toNat 0 == b.getD k.toNat 0) <;> simp
       have h1 := hi.2; rw [he.1, List.all_cons, h2, Bool.false_and] at h1; exact node_f1 h1.symm)
    | (have h2 : (b.getD e.src.toNat 0 == b.getD k.toNat 0 || overV m (b.getD k.toNat 0) (b.getD e.src.toNat 0) e) = true := by revert hc; cases (b.getD e.src.toNat 0 == b.getD k.toNat 0) <;> simp
       have h1 := hi.2; rw [he.1, List.all_cons, h2, Bool.true_and] at h1; exact h1)
    | (have h2 : fromV n b k e.src e = false := by simpa using hc
       have h1 := hj.2.1; rw [he.1, List.all_cons, h2, Bool.false_and] at h1; exact node_f2 h1.symm)
    | (have h2 : fromV n b k e.src e = true := by simpa using hc
       have h1 := hj.2.1; rw [he.1, List.all_cons, h2, Bool.true_and] at h1; exact ⟨h1, hj.2.2⟩)
    | (have h2 : fromV n b k e.src e = true := by simpa using hc
       have h1 := hj.2.1; rw [he.1, List.all_cons, h2, Bool.true_and] at h1; exact h1)
    | exact hj.2.2
    | (have hA : (if (if (!(n.origin.getD k.toNat false == m.origin.getD (b.getD k.toNat 0).toNat false)) = true then true else !(aVia n b k == m.static.getD (b.getD k.toNat 0).toNat 0)) = true then true else if sev = true then aloneV n k else false) = false := by assumption
       have h0 := of_decide_eq_false hc; have h1 := hj.2.1; rw [List.drop_eq_nil_of_le (by omega)] at h1
       have h2 : all2 n m b k = true := h1.symm
       rw [or3] at hA; rw [node_eq, hA, hj.2.2, h2]; rfl)
  all_goals trace_state
end Go.Proofs.YtokfackbnnkbnaaGreatDoor

