/- The law SolveLikes: whatever the input, it returns true and changes nothing. Printed by a program of this project (wip/mq). -/
import Derived.Test.YtajkgmmmkhekmaaNetF
import Derived.Test.YtajkgmmmkhekmaaGreedy
import Derived.Test.YtajkgmmmkhekmaaAwk16
import Derived.Test.YtajkgmmmkhekmaaArgs
namespace Go.Proofs.Ytajkgmmmkhekmaa
open Go Mq Go.ChangeShapes Go.WideShapes Go.ChangeAt Go.RowKit
/-! maquette/maquettelaw16.SolveLikes -/
def f7r0 : List PG := [.u (.bx 2 (.t 0)), .u (.mv 4 (.k (.bool false)))]
def f7r1 : List PG := [.uc 15 27 [], .u (.no 16 (.t 15))]
def f7r2 : List PG := [.u (.mv 4 (.k (.bool false)))]
abbrev f7p0 : PC := .seq (.reg f7r2) (.ret)
abbrev f7p1 : PC := .cond (.t 16) (f7p0) (.skip)
def f7r3 : List PG := [.u (.ld 18 6 true (.t 2)), .u (.mv 19 (.t 1)), .uc 20 14 [.t 18, .t 19], .u (.mv 17 (.t 20)), .u (.ext 21 (.t 17) 0), .u (.ext 22 (.t 17) 1), .u (.ext 23 (.t 17) 2), .u (.al 5 [.nl 1, .nl 1, .nl 1]), .u (.al 6 [.d (.v (.int .u32 0)), .d (.v (.int .i64 0))]), .u (.st 3 (.t 5) (.t 21)), .u (.st 2 (.t 6) (.t 22)), .u (.mv 7 (.t 23))]
def f7r4 : List PG := [.u (.mv 24 (.t 7)), .u (.no 25 (.t 24))]
def f7r5 : List PG := [.u (.mv 4 (.k (.bool true)))]
abbrev f7p2 : PC := .seq (.reg f7r5) (.ret)
abbrev f7p3 : PC := .cond (.t 25) (f7p2) (.skip)
def f7r6 : List PG := [.u (.mv 8 (.k (.bool false)))]
def f7r7 : List PG := [.u (.fa 26 2 (.t 5)), .u (.ld 27 1 false (.t 26)), .u (.len 28 (.t 27)), .u (.mv 29 (.k (.int .i64 0)))]
def f7r8 : List PG := [.u (.bo 30 .lss (.t 29) (.t 28))]
def f7r9 : List PG := [.u (.ia 31 1 (.t 27) (.t 29)), .u (.ld 32 1 false (.t 31)), .u (.mv 10 (.t 32))]
def f7r10 : List PG := [.u (.mv 33 (.t 10)), .u (.len 34 (.t 33)), .u (.mv 35 (.k (.int .i64 0)))]
def f7r11 : List PG := [.u (.bo 36 .lss (.t 35) (.t 34))]
def f7r12 : List PG := [.u (.ia 37 4 (.t 33) (.t 35)), .u (.ld 38 4 true (.t 37)), .u (.al 12 [.d (.v (.int .i64 0)), .d (.v (.int .i64 0)), .nl 10, .nl 10]), .u (.st 4 (.t 12) (.t 38))]
def f7r13 : List PG := [.u (.mv 39 (.t 8)), .u (.mv 40 (.t 39)), .g 40 false (.ld 41 4 true (.t 12)), .gc 40 false 42 28 [.t 41], .u (.pick 43 (.t 40) (.k (.bool true)) (.t 42)), .u (.mv 8 (.t 43))]
def f7r14 : List PG := [.u (.bo 44 .add (.t 35) (.k (.int .i64 1))), .u (.mv 35 (.t 44))]
abbrev f7p4 : PC := .seq (.block 3 (.seq (.reg f7r12) (.reg f7r13))) (.reg f7r14)
abbrev f7p5 : PC := .seq (.cond (.t 36) (.skip) (.exit 2)) (f7p4)
abbrev f7p6 : PC := .seq (.reg f7r11) (f7p5)
abbrev f7p7 : PC := .block 2 (.loop (f7p6))
abbrev f7p8 : PC := .seq (.reg f7r10) (f7p7)
def f7r15 : List PG := [.u (.bo 45 .add (.t 29) (.k (.int .i64 1))), .u (.mv 29 (.t 45))]
abbrev f7p9 : PC := .seq (.block 1 (.seq (.reg f7r9) (f7p8))) (.reg f7r15)
abbrev f7p10 : PC := .seq (.cond (.t 30) (.skip) (.exit 0)) (f7p9)
abbrev f7p11 : PC := .seq (.reg f7r8) (f7p10)
abbrev f7p12 : PC := .block 0 (.loop (f7p11))
def f7r16 : List PG := [.u (.ld 47 3 true (.t 5)), .uc 48 29 [.t 47], .u (.mv 46 (.t 48)), .u (.ext 49 (.t 46) 0), .u (.ext 50 (.t 46) 1), .u (.mv 13 (.t 49)), .u (.mv 14 (.t 50))]
def f7r17 : List PG := [.u (.ld 51 3 true (.t 5)), .uc 52 30 [.t 51], .u (.mv 53 (.t 8)), .u (.beq 54 false true (.t 52) (.t 53)), .u (.mv 55 (.t 54)), .g 55 true (.mv 56 (.t 14)), .g 55 true (.mv 57 (.t 8)), .g 55 true (.no 58 (.t 57)), .g 55 true (.beq 59 false true (.t 56) (.t 58)), .u (.pick 60 (.t 55) (.t 59) (.k (.bool false))), .u (.mv 61 (.t 60)), .g 61 true (.mv 62 (.t 14)), .g 61 true (.mv 63 (.t 62)), .g 63 false (.mv 64 (.t 13)), .g 63 false (.len 65 (.t 64)), .g 63 false (.beq 66 false false (.t 65) (.k (.int .i64 0))), .g 61 true (.pick 67 (.t 63) (.k (.bool true)) (.t 66)), .u (.pick 68 (.t 61) (.t 67) (.k (.bool false))), .u (.mv 4 (.t 68))]
abbrev f7p13 : PC := .seq (.reg f7r17) (.ret)
abbrev f7p14 : PC := .seq (.reg f7r16) (f7p13)
abbrev f7p15 : PC := .seq (.seq (.reg f7r7) (f7p12)) (f7p14)
abbrev f7p16 : PC := .seq (.reg f7r6) (f7p15)
abbrev f7p17 : PC := .seq (.seq (.reg f7r4) (f7p3)) (f7p16)
abbrev f7p18 : PC := .seq (.reg f7r3) (f7p17)
abbrev f7p19 : PC := .seq (.seq (.reg f7r1) (f7p1)) (f7p18)
abbrev f7pc : PC := .seq (.reg f7r0) (f7p19)
def f7k : List Nat := [0, 1, 2, 4, 5, 7, 8, 10, 12, 13, 14, 16, 25, 27, 28, 29, 30, 33, 34, 35, 36]
theorem f7c : Try.f7.body.bind (cC te Try.f7.ntmps) = some f7pc := by kernel_rfl
set_option maxRecDepth 20000
set_option maxHeartbeats 4000000
set_option linter.unusedSimpArgs false
set_option linter.unusedVariables false

theorem solveLikes_none (sh : Shape) (hs : sh.ok) (w : Int) (hw : 0 ≤ w ∧ w ≤ 255) (hx : sh.netV w = none) : FnS Try.prog 7 [sh.av, .d (.v (.int .u8 w))] (.d (.v (.bool true))) := by
  have hN := netOfF_fn sh hs w hw
  rw [hx] at hN
  simp only [netA] at hN
  refine fn_of teok Try.func7 (by kernel_rfl) f7c f7k [.tmp 4] rfl (by show 2 ≤ 69; omega) ?_
  repeat' first
  | (exact absurd hc (by decide))
  | with_reducible refine awp_seq ?_
  | with_reducible refine awp_block ?_
  | with_reducible refine awp_reg ?_
  | with_reducible refine awp_regD ?_
  | with_reducible refine awp_ret ?_
  | with_reducible refine awp_skip ?_
  | with_reducible refine awp_exit ?_
  | with_reducible refine normQ_of ?_
  | with_reducible refine wkE_of ?_
  | with_reducible refine midQ_of (Wk_sub rfl rfl ?_ ?_)
  | with_reducible refine runD_nil ?_
  | with_reducible refine runD_cons ?_
  | with_reducible refine runF_cons ?_
  | with_reducible refine runF_nil ?_
  | with_reducible refine KF_of ?_
  | with_reducible refine chkQ_of rfl ?_
  | with_reducible refine awp_cond (by simp only [evX, lget, Option.getD_some, reduceIte, Nat.reduceEqDiff]; rfl) (fun hc => ?_) (fun hc => ?_)
  | with_reducible refine CallU_of (f := 27) (awake16_fn) (by first | exact Or.inr (Or.inl rfl) | exact Or.inl rfl) ?_
  | with_reducible refine CallC_of (f := 27) (fun _ => awake16_fn) (by first | exact Or.inr (Or.inl rfl) | exact Or.inl rfl) ?_
  | with_reducible refine CallU_of (f := 14) (hN) (by first | exact Or.inr (Or.inl rfl) | exact Or.inl rfl) ?_
  | with_reducible refine CallC_of (f := 14) (fun _ => hN) (by first | exact Or.inr (Or.inl rfl) | exact Or.inl rfl) ?_
  | (with_reducible assumption)
  | with_reducible refine fun (hG : okL _) => ?_
  | (with_reducible refine fun (hT : (_ : Bool) = _) => ?_)
  | (with_reducible first | exact hG.2 | exact hG.2.2 | exact hG.2.2.2 | exact hG.2.2.2.2)
  | with_reducible refine okL_mk ?_ ?_
  | with_reducible refine And.intro ?_ ?_
  | simp only [f7r0, f7r1, f7r2, f7r3, f7r4, f7r5, f7r6, f7r7, f7r8, f7r9, f7r10, f7r11, f7r12, f7r13, f7r14, f7r15, f7r16, f7r17, f7k, te33, te36, te25, List.getElem?_cons_zero, List.getElem?_cons_succ, runG_nil, runG_u, runG_g, runG_ucS, runG_gcS, stp, evs, evX, lget, lput, strip, putO, PO.dst, updO, okR, cells, splice, AV.cell, toD, toDs, binV, sameK, pickV, guardOf, okL_nil, sides, argsOf, rawOf, dv, dvL, owns, ownsL, flat, flatL, lkeep, seqQ, blockQ, initS, List.drop_succ_cons, List.drop_zero, List.take_succ_cons, List.take_zero, List.getD_cons_zero, List.getD_cons_succ, List.length_cons, List.length_nil, List.set_cons_zero, List.set_cons_succ, List.map_cons, List.map_nil, List.all_cons, List.all_nil, List.elem_cons, List.elem_nil, Option.getD_some, Option.getD_none, Option.bind_some, Option.isNone_none, reduceIte, reduceCtorEq, Nat.reduceEqDiff, Nat.reduceAdd, Nat.reduceLeDiff, Nat.zero_add, Nat.add_zero, Nat.reduceBEq, Bool.and_self, Bool.and_true, Bool.true_and, Bool.or_self, Bool.or_false, Bool.false_or, Bool.or_true, Bool.true_or, true_and, and_true, and_self, implies_true, forall_const, Bool.false_eq_true, id_eq, retQ, resOf, resV, Option.some.injEq, exists_eq_left', AV.d.injEq, D.v.injEq, Value.bool.injEq, imp_self, bldF, bldS, toVals, eqLs, Option.map_some, imp_false, not_true_eq_false, not_false_eq_true, foot, wrs, nm, nmL, PG.reads, PG.dst, PO.reads, X.sl, sls, slB, List.append_nil, List.cons_append, List.nil_append, Option.toList_some, Option.toList_none, loopQ_exit, loopQ_ret, subS, subO, Bool.bne_false, Bool.bne_true, elemsOf, bslD, bslS, mentries, isAgV, asA, lputs, mgetD_set, mcmp_set, mput_set, List.headD_cons, sealS, sealO, sealV, sealL, mput_nil, mcmp_nil, midQ_ret, midQ_exit, sealsS, sealsO, runW_nil, runW_cons, Bool.true_bne, Bool.false_bne, bne_self_eq_false, Int.reduceToNat, bndV, oSl, resR, runS_nil, runS_gc]
  all_goals first
    | rfl
    | decide
    | trace_state
theorem solveLikes_some (sh : Shape) (hs : sh.ok) (w : Int) (hw : 0 ≤ w ∧ w ≤ 255) (n : Net) (p : Int × Int) (hx : sh.netV w = some (n, p)) (b : Bool) (hb : likesN n = b) (L : List (List D)) (f : Bool) (hG : FnS Try.prog 29 [n.av] (.tp [.d (.sl 4 L), .d (.v (.bool f))])) (hf : f = !b) (hL : f = true ∨ L.length = 0) : FnS Try.prog 7 [sh.av, .d (.v (.int .u8 w))] (.d (.v (.bool true))) := by
  have hm : maxLen = 9223372036854775807 := rfl
  have hN := netOfF_fn sh hs w hw
  rw [hx] at hN
  simp only [netA] at hN
  obtain ⟨hsm, hmay, m, hnl, hn0⟩ := net_facts hx
  simp only at hsm hmay m hnl hn0
  have hLN := likesN_fn n hsm.ok
  rw [hb] at hLN
  have hb0 : (false || (n.edges.drop 0).any fun es => es.any likesE) = b := hb
  refine fn_of teok Try.func7 (by kernel_rfl) f7c f7k [.tmp 4] rfl (by show 2 ≤ 69; omega) ?_
  repeat' first
  | (exact absurd hc (by decide))
  | with_reducible refine awp_seq ?_
  | with_reducible refine awp_block ?_
  | with_reducible refine awp_reg ?_
  | with_reducible refine awp_regD ?_
  | with_reducible refine awp_ret ?_
  | with_reducible refine awp_skip ?_
  | with_reducible refine awp_exit ?_
  | with_reducible refine normQ_of ?_
  | with_reducible refine wkE_of ?_
  | with_reducible refine midQ_of (Wk_sub rfl rfl ?_ ?_)
  | with_reducible refine runD_nil ?_
  | with_reducible refine runD_cons ?_
  | with_reducible refine runF_cons ?_
  | with_reducible refine runF_nil ?_
  | with_reducible refine KF_of ?_
  | with_reducible refine chkQ_of rfl ?_
  | with_reducible refine awp_cond (by simp only [evX, lget, Option.getD_some, reduceIte, Nat.reduceEqDiff]; rfl) (fun hc => ?_) (fun hc => ?_)
  | with_reducible refine CallU_of (f := 27) (awake16_fn) (by first | exact Or.inr (Or.inl rfl) | exact Or.inl rfl) ?_
  | with_reducible refine CallC_of (f := 27) (fun _ => awake16_fn) (by first | exact Or.inr (Or.inl rfl) | exact Or.inl rfl) ?_
  | with_reducible refine CallU_of (f := 14) (hN) (by first | exact Or.inr (Or.inl rfl) | exact Or.inl rfl) ?_
  | with_reducible refine CallC_of (f := 14) (fun _ => hN) (by first | exact Or.inr (Or.inl rfl) | exact Or.inl rfl) ?_
  | with_reducible refine CallU_of (f := 29) (hG) (by first | exact Or.inr (Or.inl rfl) | exact Or.inl rfl) ?_
  | with_reducible refine CallC_of (f := 29) (fun _ => hG) (by first | exact Or.inr (Or.inl rfl) | exact Or.inl rfl) ?_
  | with_reducible refine CallU_of (f := 30) (hLN) (by first | exact Or.inr (Or.inl rfl) | exact Or.inl rfl) ?_
  | with_reducible refine CallC_of (f := 30) (fun _ => hLN) (by first | exact Or.inr (Or.inl rfl) | exact Or.inl rfl) ?_
  | with_reducible refine CallU_of (f := 28) (likesE_fn e (hsm.ok.edge _ (List.mem_of_getElem? he.2.2.1) _ (List.mem_of_getElem? hq.2.2.1))) (by first | exact Or.inr (Or.inl rfl) | exact Or.inl rfl) ?_
  | with_reducible refine CallC_of (f := 28) (fun _ => likesE_fn e (hsm.ok.edge _ (List.mem_of_getElem? he.2.2.1) _ (List.mem_of_getElem? hq.2.2.1))) (by first | exact Or.inr (Or.inl rfl) | exact Or.inl rfl) ?_
  | (with_reducible assumption)
  | with_reducible refine fun (hG : okL _) => ?_
  | (with_reducible refine fun (hT : (_ : Bool) = _) => ?_)
  | (with_reducible first | exact hG.2 | exact hG.2.2 | exact hG.2.2.2 | exact hG.2.2.2.2)
  | with_reducible refine okL_mk ?_ ?_
  | with_reducible refine And.intro ?_ ?_
  | (with_reducible refine awp_loopU (b := f7p11) (fun x : Nat × Bool => x.1 ≤ n.edges.length ∧ (x.2 || (n.edges.drop x.1).any fun es => es.any likesE) = b) (fun x => n.edges.length - x.1) (fun x => [(29, .d (.v (.int .i64 x.1))), (8, .d (.v (.bool x.2)))]) (fun x => []) ((0, false)) (⟨Nat.zero_le _, hb0⟩) (Wk.refl _ _) (Wk_sub rfl rfl ?_ ?_) (fun x hx => ?_))
  | (refine Exists.elim (at_drop esD n.edges x.1 (Int.ofNat_lt.1 (of_decide_eq_true (show decide ((x.1 : Int) < n.edges.length) = true from hc)))) (fun es he => ?_); have g1 := he.2.1; have hrow := hsm.row es (List.mem_of_getElem? he.2.2.1); replace hc : True := trivial)
  | (with_reducible refine awp_loopU (b := f7p6) (fun y : Nat × Bool × Unit => y.1 ≤ es.length ∧ (y.2.1 || (es.drop y.1).any likesE) = (x.2 || es.any likesE)) (fun y => es.length - y.1) (fun y => [(35, .d (.v (.int .i64 y.1))), (8, .d (.v (.bool y.2.1)))]) (fun y => []) ((0, x.2, ())) (⟨Nat.zero_le _, rfl⟩) (Wk.refl _ _) (Wk_sub rfl rfl ?_ ?_) (fun y hy => ?_))
  | (refine Exists.elim (at_drop Arc.row es y.1 (Int.ofNat_lt.1 (of_decide_eq_true (show decide ((y.1 : Int) < es.length) = true from hc)))) (fun e hq => ?_); have g2 := hq.2.1; replace hc : True := trivial)
  | (with_reducible refine loopQ_next ((y.1 + 1, (if y.2.1 then true else likesE e), ())) ?_ ?_ (Wk_sub rfl rfl ?_ ?_))
  | (with_reducible refine loopQ_next ((x.1 + 1, y.2.1)) ?_ ?_ (Wk_sub rfl rfl ?_ ?_))
  | simp only [f7r0, f7r1, f7r2, f7r3, f7r4, f7r5, f7r6, f7r7, f7r8, f7r9, f7r10, f7r11, f7r12, f7r13, f7r14, f7r15, f7r16, f7r17, g2, g1, f7k, te33, te36, te25, List.length_map, List.getElem?_cons_zero, List.getElem?_cons_succ, runG_nil, runG_u, runG_g, runG_ucS, runG_gcS, stp, evs, evX, lget, lput, strip, putO, PO.dst, updO, okR, cells, splice, AV.cell, toD, toDs, binV, sameK, pickV, guardOf, okL_nil, sides, argsOf, rawOf, dv, dvL, owns, ownsL, flat, flatL, lkeep, seqQ, blockQ, initS, List.drop_succ_cons, List.drop_zero, List.take_succ_cons, List.take_zero, List.getD_cons_zero, List.getD_cons_succ, List.length_cons, List.length_nil, List.set_cons_zero, List.set_cons_succ, List.map_cons, List.map_nil, List.all_cons, List.all_nil, List.elem_cons, List.elem_nil, Option.getD_some, Option.getD_none, Option.bind_some, Option.isNone_none, reduceIte, reduceCtorEq, Nat.reduceEqDiff, Nat.reduceAdd, Nat.reduceLeDiff, Nat.zero_add, Nat.add_zero, Nat.reduceBEq, Bool.and_self, Bool.and_true, Bool.true_and, Bool.or_self, Bool.or_false, Bool.false_or, Bool.or_true, Bool.true_or, true_and, and_true, and_self, implies_true, forall_const, Bool.false_eq_true, id_eq, retQ, resOf, resV, Option.some.injEq, exists_eq_left', AV.d.injEq, D.v.injEq, Value.bool.injEq, imp_self, bldF, bldS, toVals, eqLs, Option.map_some, imp_false, not_true_eq_false, not_false_eq_true, foot, wrs, nm, nmL, PG.reads, PG.dst, PO.reads, X.sl, sls, slB, List.append_nil, List.cons_append, List.nil_append, Option.toList_some, Option.toList_none, loopQ_exit, loopQ_ret, subS, subO, Bool.bne_false, Bool.bne_true, elemsOf, bslD, bslS, mentries, isAgV, asA, lputs, mgetD_set, mcmp_set, mput_set, List.headD_cons, sealS, sealO, sealV, sealL, mput_nil, mcmp_nil, midQ_ret, midQ_exit, sealsS, sealsO, runW_nil, runW_cons, Bool.true_bne, Bool.false_bne, bne_self_eq_false, Int.reduceToNat, bndV, oSl, resR, runS_nil, runS_gc]
  | simp only [f7r0, f7r1, f7r2, f7r3, f7r4, f7r5, f7r6, f7r7, f7r8, f7r9, f7r10, f7r11, f7r12, f7r13, f7r14, f7r15, f7r16, f7r17, g1, f7k, te33, te36, te25, List.length_map, List.getElem?_cons_zero, List.getElem?_cons_succ, runG_nil, runG_u, runG_g, runG_ucS, runG_gcS, stp, evs, evX, lget, lput, strip, putO, PO.dst, updO, okR, cells, splice, AV.cell, toD, toDs, binV, sameK, pickV, guardOf, okL_nil, sides, argsOf, rawOf, dv, dvL, owns, ownsL, flat, flatL, lkeep, seqQ, blockQ, initS, List.drop_succ_cons, List.drop_zero, List.take_succ_cons, List.take_zero, List.getD_cons_zero, List.getD_cons_succ, List.length_cons, List.length_nil, List.set_cons_zero, List.set_cons_succ, List.map_cons, List.map_nil, List.all_cons, List.all_nil, List.elem_cons, List.elem_nil, Option.getD_some, Option.getD_none, Option.bind_some, Option.isNone_none, reduceIte, reduceCtorEq, Nat.reduceEqDiff, Nat.reduceAdd, Nat.reduceLeDiff, Nat.zero_add, Nat.add_zero, Nat.reduceBEq, Bool.and_self, Bool.and_true, Bool.true_and, Bool.or_self, Bool.or_false, Bool.false_or, Bool.or_true, Bool.true_or, true_and, and_true, and_self, implies_true, forall_const, Bool.false_eq_true, id_eq, retQ, resOf, resV, Option.some.injEq, exists_eq_left', AV.d.injEq, D.v.injEq, Value.bool.injEq, imp_self, bldF, bldS, toVals, eqLs, Option.map_some, imp_false, not_true_eq_false, not_false_eq_true, foot, wrs, nm, nmL, PG.reads, PG.dst, PO.reads, X.sl, sls, slB, List.append_nil, List.cons_append, List.nil_append, Option.toList_some, Option.toList_none, loopQ_exit, loopQ_ret, subS, subO, Bool.bne_false, Bool.bne_true, elemsOf, bslD, bslS, mentries, isAgV, asA, lputs, mgetD_set, mcmp_set, mput_set, List.headD_cons, sealS, sealO, sealV, sealL, mput_nil, mcmp_nil, midQ_ret, midQ_exit, sealsS, sealsO, runW_nil, runW_cons, Bool.true_bne, Bool.false_bne, bne_self_eq_false, Int.reduceToNat, bndV, oSl, resR, runS_nil, runS_gc]
  | simp only [f7r0, f7r1, f7r2, f7r3, f7r4, f7r5, f7r6, f7r7, f7r8, f7r9, f7r10, f7r11, f7r12, f7r13, f7r14, f7r15, f7r16, f7r17, f7k, te33, te36, te25, List.length_map, List.getElem?_cons_zero, List.getElem?_cons_succ, runG_nil, runG_u, runG_g, runG_ucS, runG_gcS, stp, evs, evX, lget, lput, strip, putO, PO.dst, updO, okR, cells, splice, AV.cell, toD, toDs, binV, sameK, pickV, guardOf, okL_nil, sides, argsOf, rawOf, dv, dvL, owns, ownsL, flat, flatL, lkeep, seqQ, blockQ, initS, List.drop_succ_cons, List.drop_zero, List.take_succ_cons, List.take_zero, List.getD_cons_zero, List.getD_cons_succ, List.length_cons, List.length_nil, List.set_cons_zero, List.set_cons_succ, List.map_cons, List.map_nil, List.all_cons, List.all_nil, List.elem_cons, List.elem_nil, Option.getD_some, Option.getD_none, Option.bind_some, Option.isNone_none, reduceIte, reduceCtorEq, Nat.reduceEqDiff, Nat.reduceAdd, Nat.reduceLeDiff, Nat.zero_add, Nat.add_zero, Nat.reduceBEq, Bool.and_self, Bool.and_true, Bool.true_and, Bool.or_self, Bool.or_false, Bool.false_or, Bool.or_true, Bool.true_or, true_and, and_true, and_self, implies_true, forall_const, Bool.false_eq_true, id_eq, retQ, resOf, resV, Option.some.injEq, exists_eq_left', AV.d.injEq, D.v.injEq, Value.bool.injEq, imp_self, bldF, bldS, toVals, eqLs, Option.map_some, imp_false, not_true_eq_false, not_false_eq_true, foot, wrs, nm, nmL, PG.reads, PG.dst, PO.reads, X.sl, sls, slB, List.append_nil, List.cons_append, List.nil_append, Option.toList_some, Option.toList_none, loopQ_exit, loopQ_ret, subS, subO, Bool.bne_false, Bool.bne_true, elemsOf, bslD, bslS, mentries, isAgV, asA, lputs, mgetD_set, mcmp_set, mput_set, List.headD_cons, sealS, sealO, sealV, sealL, mput_nil, mcmp_nil, midQ_ret, midQ_exit, sealsS, sealsO, runW_nil, runW_cons, Bool.true_bne, Bool.false_bne, bne_self_eq_false, Int.reduceToNat, bndV, oSl, resR, runS_nil, runS_gc]
  all_goals try first
    | omega
    | (with_reducible rfl)
    | (show Value.int _ 0 = _; rfl)
    | (simp only [List.length_append, List.length_cons, List.length_nil]; omega)
    | (simp only [List.length_append, List.length_cons, List.length_nil, List.map_append, List.map_cons, List.map_nil]; done)
    | exact count64 hq.2.2.2 (by omega)
    | exact count64 he.2.2.2 (by have := m.edges; omega)
    | (have h1 := hy.2; rw [hq.1, List.any_cons] at h1; rw [← h1]; cases y.2.1 <;> simp; done)
    | (have h0 := of_decide_eq_false hc; have h1 := hy.2; rw [List.drop_eq_nil_of_le (by omega)] at h1; have h2 := hx.2; rw [he.1, List.any_cons] at h2; rw [← h2, ← Bool.or_assoc, ← h1]; simp; done)
    | (have h0 := of_decide_eq_false hc; have h1 := hx.2; rw [List.drop_eq_nil_of_le (by omega)] at h1; simp at h1; subst h1; subst hf; rcases hL with q | q <;> cases h : x.2 <;> simp_all; done)
  all_goals trace_state

theorem solveLikes_as (av : List AV) (h : dArgs te 8 [25, 5] av) : FnS Try.prog 7 av (.d (.v (.bool true))) := by
  obtain ⟨x, _, rfl, hx, y, _, rfl, hy, rfl⟩ := h
  obtain ⟨sh, rfl, hs⟩ := shape_of (n := 3) hx
  obtain ⟨w, rfl, hw⟩ := u8_row (n := 7) hy
  cases hx : sh.netV w with
  | none => exact solveLikes_none sh hs w hw hx
  | some x =>
    obtain ⟨n, p⟩ := x
    obtain ⟨hsm, hmay, m, hnl, hn0⟩ := net_facts hx
    have hG := greedy_fn n hsm
    cases hb : likesN n with
    | true =>
      rw [greedy_likes hmay hb] at hG
      exact solveLikes_some sh hs w hw n p hx true hb [] false hG rfl (.inr rfl)
    | false =>
      obtain ⟨l, hl⟩ := greedy_some hmay hb
      rw [hl] at hG
      exact solveLikes_some sh hs w hw n p hx false hb _ true hG rfl (.inl rfl)

set_option maxRecDepth 100000 in
theorem solveLikes_lifted (os : Os) (started : os.Started) (H : Type) (enc : TypeId × Value → H) :
    ReturnsInHanded {} Try.checked os 7 .any (Rows.solveLikesSpec.pre6 enc Try.prog Try.f7 Rows.solveLikesRow.domain false) (Rows.solveLikesSpec.post enc Try.prog Try.f7 false true false false) := by
  refine returnsInHanded_of_change (C := Try.checked) own started (by kernel_rfl) Try.func7
    (ChangeSpec.witness6 (enc := enc) (C := Try.checked) false ⟨#[], #[.agg #[.int .u8 0, .slice none 0 0, .slice none 0 0, .slice none 0 0, .slice none 0 0, .slice none 0 0], .int .u8 0], []⟩ 8 (by kernel_rfl) (by kernel_rfl) (by kernel_rfl) (by kernel_rfl)) ?_
  intro W base args ds gs before hval hW hcnd _
  have hp : Try.f7.params.toList = [25, 5] := by kernel_rfl
  refine law_calls (n := 8) (b := 4) laidOut (by rw [hp]; exact List.forall_mem_cons.2 ⟨⟨by kernel_rfl, of_decide_eq_true (by kernel_rfl)⟩, List.forall_mem_cons.2 ⟨⟨by kernel_rfl, of_decide_eq_true (by kernel_rfl)⟩, (by simp)⟩⟩) (by rw [hp]; exact List.forall_mem_cons.2 ⟨by kernel_rfl, List.forall_mem_cons.2 ⟨by kernel_rfl, (by simp)⟩⟩) rfl (by kernel_rfl) (by kernel_rfl) (fun ds hd => ?_) hval hW (fun av h => solveLikes_as av (argsT_d teok _ _ _ (by rw [hp]; exact List.forall_mem_cons.2 ⟨rfl, List.forall_mem_cons.2 ⟨rfl, (by simp)⟩⟩) h |> (hp ▸ ·)))
  have hd : ds.length = 2 := hd
  match ds, hd with
  | [_, _], _ => rfl
theorem solveLikes_holds : Rows.SolveLikesSaid :=
  OpenClaim.holds_of_wide 7 Try.f7 rfl rfl rfl rfl rfl rfl rfl ⟨rfl, rfl, rfl, rfl, rfl⟩ rfl rfl rfl rfl rfl (by kernel_rfl) Try.func7 (by kernel_rfl)
    (of_decide_eq_true (by kernel_rfl)) (by unfold Func.isWrapper; first | (rw [if_pos (by decide +kernel)]; kernel_rfl) | (rw [if_neg (by decide +kernel)]; exact ⟨rfl, rfl⟩))
    (fun os started H enc _ => solveLikes_lifted os started H enc)
end Go.Proofs.Ytajkgmmmkhekmaa
