/- What refine.policies comes to. Printed by a program of this project (wip/mq). -/
import Derived.Test.YtgkkaimcchlnaaaGreatDoorPolP
set_option linter.unusedVariables false
set_option linter.unusedSimpArgs false

namespace Go.Proofs.YtgkkaimcchlnaaaGreatDoor
open Go Mq Go.ChangeShapes Go.WideShapes Go.ChangeAt Go.RowKit
/-! maquette/refine.policies -/
def f52r0 : List PG := [.u (.bx 1 (.t 0)), .u (.mv 2 (.nl 1)), .u (.mv 3 (.k (.nilIface)))]
def f52r1 : List PG := [.uc 13 87 [.k (.int .i64 131072)], .u (.mv 4 (.t 13))]
def f52r2 : List PG := [.u (.mv 5 (.nl 1))]
def f52r3 : List PG := [.u (.fa 14 2 (.t 1)), .u (.ld 15 1 false (.t 14)), .u (.len 16 (.t 15)), .u (.mv 17 (.k (.int .i64 0)))]
def f52r4 : List PG := [.u (.bo 18 .lss (.t 17) (.t 16))]
def f52r5 : List PG := [.u (.ia 19 1 (.t 15) (.t 17)), .u (.ld 20 1 false (.t 19)), .u (.mv 7 (.t 20))]
def f52r6 : List PG := [.u (.mv 8 (.nl 24))]
def f52r7 : List PG := [.u (.mv 21 (.t 7)), .u (.len 22 (.t 21)), .u (.mv 23 (.k (.int .i64 0)))]
def f52r8 : List PG := [.u (.bo 24 .lss (.t 23) (.t 22))]
def f52r9 : List PG := [.u (.ia 25 4 (.t 21) (.t 23)), .u (.ld 26 4 true (.t 25)), .u (.al 10 [.d (.v (.int .i64 0)), .d (.v (.int .i64 0)), .nl 10, .nl 10]), .u (.st 4 (.t 10) (.t 26))]
def f52r10 : List PG := [.u (.mv 28 (.t 4)), .u (.ld 29 4 true (.t 10)), .uc 30 88 [.t 28, .t 29], .u (.mv 27 (.t 30)), .u (.ext 31 (.t 27) 0), .u (.ext 32 (.t 27) 1), .u (.al 11 [.d (.v (.int .i64 0)), .d (.v (.int .i64 0)), .d (.v (.int .i64 0)), .d (.v (.int .i64 0)), .d (.v (.int .i64 0)), .d (.v (.int .i64 0)), .d (.v (.int .i64 0)), .d (.v (.int .i64 0)), .d (.v (.int .i64 0)), .d (.v (.int .i64 0)), .d (.v (.int .i64 0)), .d (.v (.int .i64 0)), .d (.v (.int .i64 0)), .d (.v (.int .i64 0)), .d (.v (.int .i64 0)), .d (.v (.int .i64 0)), .d (.v (.int .i64 0)), .d (.v (.int .i64 0)), .d (.v (.int .i64 0)), .d (.v (.int .i64 0)), .d (.v (.int .i64 0)), .d (.v (.int .i64 0)), .d (.v (.int .i64 0)), .d (.v (.int .i64 0))]), .u (.st 24 (.t 11) (.t 31)), .u (.mv 12 (.t 32))]
def f52r11 : List PG := [.u (.mv 33 (.t 12)), .u (.beqn 34 true (.t 33))]
def f52r12 : List PG := [.u (.mv 35 (.t 12)), .u (.mv 2 (.nl 1)), .u (.mv 3 (.t 35))]
abbrev f52p0 : PC := .seq (.reg f52r12) (.ret)
abbrev f52p1 : PC := .cond (.t 34) (f52p0) (.skip)
def f52r13 : List PG := [.u (.mv 36 (.t 8)), .u (.ld 37 24 true (.t 11)), .u (.bslF 38 191 24 [.t 37]), .u (.app 39 191 24 192 (.t 36) (.t 38)), .u (.mv 8 (.t 39))]
abbrev f52p2 : PC := .seq (.seq (.reg f52r11) (f52p1)) (.reg f52r13)
abbrev f52p3 : PC := .seq (.reg f52r10) (f52p2)
def f52r14 : List PG := [.u (.bo 40 .add (.t 23) (.k (.int .i64 1))), .u (.mv 23 (.t 40))]
abbrev f52p4 : PC := .seq (.block 3 (.seq (.reg f52r9) (f52p3))) (.reg f52r14)
abbrev f52p5 : PC := .seq (.cond (.t 24) (.skip) (.exit 2)) (f52p4)
abbrev f52p6 : PC := .seq (.reg f52r8) (f52p5)
abbrev f52p7 : PC := .block 2 (.loop (f52p6))
def f52r15 : List PG := [.u (.mv 41 (.t 5)), .u (.mv 42 (.t 8)), .u (.bslF 43 189 1 [.t 42]), .u (.app 44 189 1 24 (.t 41) (.t 43)), .u (.mv 5 (.t 44))]
abbrev f52p8 : PC := .seq (.seq (.reg f52r7) (f52p7)) (.reg f52r15)
abbrev f52p9 : PC := .seq (.reg f52r6) (f52p8)
def f52r16 : List PG := [.u (.bo 45 .add (.t 17) (.k (.int .i64 1))), .u (.mv 17 (.t 45))]
abbrev f52p10 : PC := .seq (.block 1 (.seq (.reg f52r5) (f52p9))) (.reg f52r16)
abbrev f52p11 : PC := .seq (.cond (.t 18) (.skip) (.exit 0)) (f52p10)
abbrev f52p12 : PC := .seq (.reg f52r4) (f52p11)
abbrev f52p13 : PC := .block 0 (.loop (f52p12))
def f52r17 : List PG := [.u (.mv 46 (.t 5)), .u (.mv 2 (.t 46)), .u (.mv 3 (.k (.nilIface)))]
abbrev f52p14 : PC := .seq (.reg f52r17) (.ret)
abbrev f52p15 : PC := .seq (.seq (.reg f52r3) (f52p13)) (f52p14)
abbrev f52p16 : PC := .seq (.reg f52r2) (f52p15)
abbrev f52p17 : PC := .seq (.reg f52r1) (f52p16)
abbrev f52pc : PC := .seq (.reg f52r0) (f52p17)
def f52k : List Nat := [0, 1, 2, 3, 4, 5, 7, 8, 10, 11, 12, 15, 16, 17, 18, 21, 22, 23, 24, 34]
theorem f52c : Tryz.f52.body.bind (cC te Tryz.f52.ntmps) = some f52pc := by kernel_rfl
set_option maxRecDepth 20000
set_option maxHeartbeats 4000000


theorem pols_fn (n : Net) (hn : n.small) (m : n.May) : FnS Tryz.prog 52 [n.av] (.tp [.d (.sl 1 ((polsV n).2.map pssD)), .d (.v .nilIface)]) := by
  have hm : maxLen = 9223372036854775807 := rfl
  have m2 := m.edges
  have m3 := m.most
  refine fn_of teok Tryz.func52 (by kernel_rfl) f52c f52k [.tmp 2, .tmp 3] rfl (by show 1 ≤ 47; omega) ?_
  first | (have _q := @g1; clear _q) | have g1 : Nat.pred 77 = 76 := rfl
  first | (have _q := @g2; clear _q) | have g2 : Nat.pred 77 = 76 := rfl
  first | (have _q := @g3; clear _q) | have g3 : Nat.pred 77 = 76 := rfl
  first | (have _q := @g4; clear _q) | have g4 : Nat.pred 77 = 76 := rfl
  first | (have _q := @g5; clear _q) | have g5 : Nat.pred 77 = 76 := rfl
  repeat' first
|(exact absurd hc (by decide))
|(with_reducible refine awp_sc (l := f52r1) [(0, .gc [] [] [(11, 9011), (5, 9005), (6, 9006)])] ?_; unfold f52r1)
|(with_reducible refine awp_sc (l := f52r10) [(2, .gc [9011, 9005, 9006] [(9011, 100000), (9005, 100001), (9006, 100002)] [(100000, 9011), (100001, 9005), (100002, 9006)])] ?_; unfold f52r10)
|(with_reducible refine awp_exit_seal (i := 2) [39] ?_)
|(with_reducible refine awp_exit_seal (i := 0) [44] ?_)
|(with_reducible first | refine awp_seq ?_ | refine awp_block ?_ | refine awp_reg ?_ | refine awp_ret ?_ | refine awp_skip ?_ | refine awp_exit ?_ | refine normQ_of ?_ | refine wkE_of ?_)
|with_reducible refine awp_cond (by simp only [evX, lget, Option.getD_some, reduceIte, Nat.reduceEqDiff]; rfl) (fun hc => ?_) (fun hc => ?_)
|with_reducible refine gc_of (f := 87) (arenaOf_fn) ?_ rfl rfl rfl rfl (Or.inl rfl) ?_
|with_reducible refine gc_of (f := 88) (hcof) ?_ rfl rfl rfl (gOk2_nm (nm_pol r.2) rfl) (Or.inl rfl) ?_
|(with_reducible assumption)
|(with_reducible refine fun (hT : (_ : Bool) = _) => ?_)
|with_reducible refine And.intro ?_ ?_
|(with_reducible refine awp_loopU (b := f52p12) (fun x : Nat × List Nd × List (List (List Int)) => PolI n x) (fun x => n.edges.length - x.1) (fun x => [(17, .d (.v (.int .i64 x.1))), (5, .own 44 x.2.2.length)]) (fun x => [(9011, .box [.own 9005 (x.2.1.length - 2), .mp 9006, .d (.v (.int .i64 131072))]), (9005, .row 269 3 (x.2.1.length - 2) (x.2.1.map ndD)), (9006, .map true false (seenL x.2.1)), (44, .row 189 1 x.2.2.length (x.2.2.map pssD))]) ((0, ns0, [])) (PolI.zero n) (Wk_nl 5 44 189 rfl rfl (by decide)) (Wk_sub rfl rfl ?_ ?_) (fun x hx => ?_))
|(refine Exists.elim (at_drop esD n.edges x.1 (Int.ofNat_lt.1 (of_decide_eq_true (show decide ((x.1 : Int) < n.edges.length) = true from hc)))) (fun es he => ?_); have g1 := he.2.1; simp only [Int.toNat_natCast] at g1; have hel := m.row es (List.mem_of_getElem? he.2.2.1); replace hc : True := trivial)
|(with_reducible refine awp_loopU (b := f52p6) (fun y : Nat × List Nd × List (List Int) => PolR es x.2.1 y) (fun y => es.length - y.1) (fun y => [(23, .d (.v (.int .i64 y.1))), (8, .own 39 y.2.2.length)]) (fun y => [(9011, .box [.own 9005 (y.2.1.length - 2), .mp 9006, .d (.v (.int .i64 131072))]), (9005, .row 269 3 (y.2.1.length - 2) (y.2.1.map ndD)), (9006, .map true false (seenL y.2.1)), (39, .row 191 24 y.2.2.length (y.2.2.map polD))]) ((0, x.2.1, [])) (PolR.zero es hx.ar) (Wk_nl 8 39 191 rfl rfl (by decide)) (Wk_sub rfl rfl ?_ ?_) (fun y hy => ?_))
|(refine Exists.elim (at_drop Arc.row es y.1 (Int.ofNat_lt.1 (of_decide_eq_true (show decide ((y.1 : Int) < es.length) = true from hc)))) (fun e hq => ?_); have g2 := hq.2.1; simp only [Int.toNat_natCast] at g2; have hcof := cof_fn hy.ar e (hn.ok.edge _ (List.mem_of_getElem? he.2.2.1) e (List.mem_of_getElem? hq.2.2.1)); have h24 := polV_24 hy.ar e; refine Exists.elim (⟨_, rfl⟩ : ∃ r, polV y.2.1 e = r) (fun r hr => ?_); rw [hr] at hcof h24; have g3 := splice_pol h24; have g4 := take_polA h24; have g5 := h24; replace hc : True := trivial)
|(with_reducible refine loopQ_next ((y.1 + 1, r.1, y.2.2 ++ [r.2])) ?_ ?_ (Wk_sub rfl rfl ?_ ?_))
|(with_reducible refine loopQ_next ((x.1 + 1, y.2.1, x.2.2 ++ [y.2.2])) ?_ ?_ (Wk_sub rfl rfl ?_ ?_))
|simp only [f52r0, f52r2, f52r3, f52r4, f52r5, f52r6, f52r7, f52r8, f52r9, f52r11, f52r12, f52r13, f52r14, f52r15, f52r16, f52r17, g1, g2, g3, g4, g5, f52k, List.getElem?_cons_zero, List.getElem?_cons_succ, List.length_map, Int.toNat_natCast, polA_len, toDs_pol, polA_cell, renL_pol, runG_nil, runG_u, runG_ucS, stp, avL, avS, evs, evX, lget, lput, strip, putO, PO.dst, updO, okR, cells, splice, AV.cell, toD, toDs, binV, sameK, pickV, guardOf, okL_nil, sides, argsOf, rawOf, dv, dvL, owns, ownsL, flat, flatL, lkeep, seqQ, blockQ, initS, List.drop_succ_cons, List.drop_zero, List.take_succ_cons, List.take_zero, List.getD_cons_zero, List.getD_cons_succ, List.length_cons, List.length_nil, List.set_cons_zero, List.set_cons_succ, List.map_cons, List.map_nil, List.all_cons, List.all_nil, List.elem_cons, List.elem_nil, Option.getD_some, Option.getD_none, Option.bind_some, Option.isNone_none, reduceIte, reduceCtorEq, Nat.reduceEqDiff, Nat.reduceAdd, Nat.reduceLeDiff, Nat.zero_add, Nat.add_zero, Nat.reduceBEq, Bool.and_self, Bool.and_true, Bool.true_and, Bool.or_self, Bool.or_false, Bool.false_or, Bool.or_true, Bool.true_or, true_and, and_true, and_self, implies_true, forall_const, Bool.false_eq_true, id_eq, retQ, resOf, resV, Option.some.injEq, exists_eq_left', AV.d.injEq, D.v.injEq, Value.bool.injEq, imp_self, bldF, bldS, toVals, eqLs, Option.map_some, imp_false, not_true_eq_false, not_false_eq_true, List.append_nil, List.cons_append, List.nil_append, Option.toList_some, Option.toList_none, loopQ_exit, loopQ_ret, subS, subO, Bool.bne_false, Bool.bne_true, elemsOf, bslD, bslS, lputs, List.headD_cons, sealS, sealO, sealV, sealL, sealsS, sealsO, Bool.true_bne, Bool.false_bne, bne_self_eq_false, Int.reduceToNat, oSl, resR, runS_nil, runS_gc, ren, renL, renO, sg, gBack, argsN, dvN]
  all_goals try first
|omega
|(with_reducible rfl)
|exact count64 hq.2.2.2 (by omega)
|exact count64 he.2.2.2 (by omega)
|with_reducible exact hy.next hq.2.2.1 hr
|(with_reducible exact hx.next he.2.2.1 (hy.done (by have := of_decide_eq_false hc; omega)))
|(rw [hx.done (by have := of_decide_eq_false hc; omega)]; done)
|(have := hy.len; have := hx.len; omega)
|(show Value.int _ 0 = _; rfl)
|(rw [List.length_append]; rfl)
|(rw [List.length_append, List.map_append]; rfl)
|(show AO.row _ _ _ (List.map ndD ns0) = AO.row _ _ _ (List.map ndD ns0); rfl)
|(show AO.box [AV.own 9005 0, _, _] = AO.box [AV.own 9005 0, _, _]; rfl)
|(show AO.map _ _ [] = AO.map _ _ []; rfl)
end Go.Proofs.YtgkkaimcchlnaaaGreatDoor
