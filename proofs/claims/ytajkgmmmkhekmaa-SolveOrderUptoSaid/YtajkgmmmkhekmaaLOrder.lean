/- The law SolveOrder: whatever the input, if what it reads is of bulk at most 1048576, it returns true and changes nothing. Printed by a program of this project (wip/mq). -/
import Derived.Test.YtajkgmmmkhekmaaNetF
import Derived.Test.YtajkgmmmkhekmaaMqPl10
import Derived.Test.YtajkgmmmkhekmaaGreedy
import Derived.Test.YtajkgmmmkhekmaaAwk16
import Derived.Test.YtajkgmmmkhekmaaArgs
import Derived.Test.YtajkgmmmkhekmaaSame
namespace Go.Proofs.Ytajkgmmmkhekmaa
open Go Mq Go.ChangeShapes Go.WideShapes Go.ChangeAt Go.RowKit
/-! maquette/maquettelaw16.SolveOrder -/
def f9r0 : List PG := [.u (.bx 2 (.t 0)), .u (.mv 4 (.k (.bool false)))]
def f9r1 : List PG := [.uc 14 27 [], .u (.no 15 (.t 14))]
def f9r2 : List PG := [.u (.mv 4 (.k (.bool false)))]
abbrev f9p0 : PC := .seq (.reg f9r2) (.ret)
abbrev f9p1 : PC := .cond (.t 15) (f9p0) (.skip)
def f9r3 : List PG := [.u (.ld 17 6 true (.t 2)), .uc 18 31 [.t 17], .u (.mv 19 (.t 1)), .uc 20 14 [.t 18, .t 19], .u (.mv 16 (.t 20)), .u (.ext 21 (.t 16) 0), .u (.ext 22 (.t 16) 1), .u (.ext 23 (.t 16) 2), .u (.al 5 [.nl 1, .nl 1, .nl 1]), .u (.al 6 [.d (.v (.int .u32 0)), .d (.v (.int .i64 0))]), .u (.st 3 (.t 5) (.t 21)), .u (.st 2 (.t 6) (.t 22)), .u (.mv 7 (.t 23))]
def f9r4 : List PG := [.u (.mv 24 (.t 7)), .u (.no 25 (.t 24))]
def f9r5 : List PG := [.u (.mv 4 (.k (.bool true)))]
abbrev f9p2 : PC := .seq (.reg f9r5) (.ret)
abbrev f9p3 : PC := .cond (.t 25) (f9p2) (.skip)
def f9r6 : List PG := [.u (.ld 27 3 true (.t 5)), .uc 28 29 [.t 27], .u (.mv 26 (.t 28)), .u (.ext 29 (.t 26) 0), .u (.ext 30 (.t 26) 1), .u (.mv 8 (.t 29)), .u (.mv 9 (.t 30))]
def f9r7 : List PG := [.u (.mv 31 (.t 9)), .u (.no 32 (.t 31)), .u (.mv 33 (.t 32)), .g 33 false (.mv 34 (.t 8)), .g 33 false (.len 35 (.t 34)), .g 33 false (.fa 36 0 (.t 5)), .g 33 false (.ld 37 1 false (.t 36)), .g 33 false (.len 38 (.t 37)), .g 33 false (.beq 39 true false (.t 35) (.t 38)), .u (.pick 40 (.t 33) (.k (.bool true)) (.t 39))]
def f9r8 : List PG := [.u (.mv 4 (.k (.bool false)))]
abbrev f9p4 : PC := .seq (.reg f9r8) (.ret)
abbrev f9p5 : PC := .cond (.t 40) (f9p4) (.skip)
def f9r9 : List PG := [.u (.mv 41 (.t 8)), .u (.len 42 (.t 41)), .u (.mv 43 (.k (.int .i64 0)))]
def f9r10 : List PG := [.u (.bo 44 .lss (.t 43) (.t 42))]
def f9r11 : List PG := [.u (.mv 45 (.t 43)), .u (.mv 10 (.t 45))]
def f9r12 : List PG := [.u (.ld 46 3 true (.t 5)), .u (.mv 47 (.t 10)), .uc 48 18 [.t 46, .t 47]]
abbrev f9p6 : PC := .cond (.t 48) (.exit 1) (.skip)
def f9r13 : List PG := [.u (.mv 49 (.t 8)), .u (.mv 50 (.t 10)), .u (.ia 51 4 (.t 49) (.t 50)), .u (.fa 52 0 (.t 51)), .u (.ld 53 1 false (.t 52)), .u (.no 54 (.t 53)), .u (.mv 11 (.t 54))]
def f9r14 : List PG := [.u (.ld 55 3 true (.t 5)), .u (.mv 56 (.t 8)), .u (.mv 57 (.t 10)), .uc 58 16 [.t 55, .t 56, .t 57], .u (.len 59 (.t 58)), .u (.mv 60 (.k (.int .i64 0)))]
def f9r15 : List PG := [.u (.bo 61 .lss (.t 60) (.t 59))]
def f9r16 : List PG := [.u (.mv 62 (.t 60)), .u (.ia 63 4 (.t 58) (.t 60)), .u (.ld 64 4 true (.t 63)), .u (.al 13 [.d (.v (.bool false)), .d (.v (.int .i64 0)), .d (.v (.int .i64 0)), .d (.v (.int .u8 0))]), .u (.mv 12 (.t 62)), .u (.st 4 (.t 13) (.t 64))]
def f9r17 : List PG := [.u (.mv 65 (.t 8)), .u (.mv 66 (.t 10)), .u (.ia 67 4 (.t 65) (.t 66)), .u (.fa 68 0 (.t 67)), .u (.ld 69 1 false (.t 68)), .u (.no 70 (.t 69)), .u (.mv 71 (.t 70)), .g 71 true (.fa 72 0 (.t 13)), .g 71 true (.ld 73 1 false (.t 72)), .u (.pick 74 (.t 71) (.t 73) (.k (.bool false)))]
def f9r18 : List PG := [.u (.mv 4 (.k (.bool false)))]
abbrev f9p7 : PC := .seq (.reg f9r18) (.ret)
abbrev f9p8 : PC := .cond (.t 74) (f9p7) (.skip)
def f9r19 : List PG := [.u (.mv 75 (.t 11)), .u (.mv 76 (.t 75)), .g 76 false (.ld 77 4 true (.t 13)), .g 76 false (.mv 78 (.t 8)), .g 76 false (.mv 79 (.t 10)), .g 76 false (.ia 80 4 (.t 78) (.t 79)), .g 76 false (.ld 81 4 true (.t 80)), .gc 76 false 82 20 [.t 77, .t 81], .g 76 false (.mv 83 (.t 82)), .g 83 true (.mv 84 (.t 8)), .g 83 true (.fa 85 2 (.t 5)), .g 83 true (.ld 86 1 false (.t 85)), .g 83 true (.mv 87 (.t 10)), .g 83 true (.ia 88 1 (.t 86) (.t 87)), .g 83 true (.ld 89 1 false (.t 88)), .g 83 true (.mv 90 (.t 12)), .g 83 true (.ia 91 4 (.t 89) (.t 90)), .g 83 true (.fa 92 0 (.t 91)), .g 83 true (.ld 93 1 false (.t 92)), .g 83 true (.ia 94 4 (.t 84) (.t 93)), .g 83 true (.fa 95 2 (.t 94)), .g 83 true (.ld 96 1 false (.t 95)), .g 83 true (.mv 97 (.t 8)), .g 83 true (.mv 98 (.t 10)), .g 83 true (.ia 99 4 (.t 97) (.t 98)), .g 83 true (.fa 100 2 (.t 99)), .g 83 true (.ld 101 1 false (.t 100)), .g 83 true (.bo 102 .lss (.t 96) (.t 101)), .g 76 false (.pick 103 (.t 83) (.t 102) (.k (.bool false))), .u (.pick 104 (.t 76) (.k (.bool true)) (.t 103)), .u (.mv 11 (.t 104))]
abbrev f9p9 : PC := .seq (.seq (.reg f9r17) (f9p8)) (.regD f9r19 [])
def f9r20 : List PG := [.u (.bo 105 .add (.t 60) (.k (.int .i64 1))), .u (.mv 60 (.t 105))]
abbrev f9p10 : PC := .seq (.block 3 (.seq (.reg f9r16) (f9p9))) (.reg f9r20)
abbrev f9p11 : PC := .seq (.cond (.t 61) (.skip) (.exit 2)) (f9p10)
abbrev f9p12 : PC := .seq (.reg f9r15) (f9p11)
abbrev f9p13 : PC := .block 2 (.loop (f9p12))
def f9r21 : List PG := [.u (.mv 106 (.t 11)), .u (.no 107 (.t 106))]
def f9r22 : List PG := [.u (.mv 4 (.k (.bool false)))]
abbrev f9p14 : PC := .seq (.reg f9r22) (.ret)
abbrev f9p15 : PC := .cond (.t 107) (f9p14) (.skip)
abbrev f9p16 : PC := .seq (.reg f9r21) (f9p15)
abbrev f9p17 : PC := .seq (.seq (.reg f9r14) (f9p13)) (f9p16)
abbrev f9p18 : PC := .seq (.reg f9r13) (f9p17)
abbrev f9p19 : PC := .seq (.seq (.reg f9r12) (f9p6)) (f9p18)
def f9r23 : List PG := [.u (.bo 108 .add (.t 43) (.k (.int .i64 1))), .u (.mv 43 (.t 108))]
abbrev f9p20 : PC := .seq (.block 1 (.seq (.reg f9r11) (f9p19))) (.reg f9r23)
abbrev f9p21 : PC := .seq (.cond (.t 44) (.skip) (.exit 0)) (f9p20)
abbrev f9p22 : PC := .seq (.reg f9r10) (f9p21)
abbrev f9p23 : PC := .block 0 (.loop (f9p22))
def f9r24 : List PG := [.u (.mv 4 (.k (.bool true)))]
abbrev f9p24 : PC := .seq (.reg f9r24) (.ret)
abbrev f9p25 : PC := .seq (.seq (.reg f9r9) (f9p23)) (f9p24)
abbrev f9p26 : PC := .seq (.seq (.reg f9r7) (f9p5)) (f9p25)
abbrev f9p27 : PC := .seq (.reg f9r6) (f9p26)
abbrev f9p28 : PC := .seq (.seq (.reg f9r4) (f9p3)) (f9p27)
abbrev f9p29 : PC := .seq (.reg f9r3) (f9p28)
abbrev f9p30 : PC := .seq (.seq (.reg f9r1) (f9p1)) (f9p29)
abbrev f9pc : PC := .seq (.reg f9r0) (f9p30)
def f9k : List Nat := [0, 1, 2, 4, 5, 7, 8, 9, 10, 11, 12, 13, 15, 25, 40, 42, 43, 44, 48, 58, 59, 60, 61, 74, 107]
theorem f9c : Try.f9.body.bind (cC te Try.f9.ntmps) = some f9pc := by kernel_rfl
set_option maxRecDepth 20000
set_option maxHeartbeats 4000000
set_option linter.unusedSimpArgs false
set_option linter.unusedVariables false

theorem solveOrder_none (sh : Shape) (hs : sh.ok) (w : Int) (hw : 0 ≤ w ∧ w ≤ 255) (h1 : sh.maps.length ≤ 1048576) (h2 : ∀ rs ∈ sh.maps, rs.length ≤ 1048576) (hx : sh.plain.netV w = none) : FnS Try.prog 9 [sh.av, .d (.v (.int .u8 w))] (.d (.v (.bool true))) := by
  have hN := netOfF_fn sh.plain hs.plain w hw
  rw [hx] at hN
  simp only [netA] at hN
  refine fn_of teok Try.func9 (by kernel_rfl) f9c f9k [.tmp 4] rfl (by show 2 ≤ 109; omega) ?_
  repeat' first
  | (exact absurd hc (by decide))
  | with_reducible refine awp_seq ?_
  | with_reducible refine awp_block ?_
  | with_reducible refine awp_reg ?_
  | with_reducible refine awp_regD ?_
  | with_reducible refine awp_ret ?_
  | with_reducible refine awp_skip ?_
  | with_reducible refine awp_exit ?_
  | with_reducible refine normQ_of ?_
  | with_reducible refine wkE_of ?_
  | with_reducible refine midQ_of (Wk_sub rfl rfl ?_ ?_)
  | with_reducible refine runD_nil ?_
  | with_reducible refine runD_cons ?_
  | with_reducible refine runF_cons ?_
  | with_reducible refine runF_nil ?_
  | with_reducible refine KF_of ?_
  | with_reducible refine chkQ_of rfl ?_
  | with_reducible refine awp_cond (by simp only [evX, lget, Option.getD_some, reduceIte, Nat.reduceEqDiff]; rfl) (fun hc => ?_) (fun hc => ?_)
  | with_reducible refine CallU_of (f := 27) (awake16_fn) (by first | exact Or.inr (Or.inl rfl) | exact Or.inl rfl) ?_
  | with_reducible refine CallC_of (f := 27) (fun _ => awake16_fn) (by first | exact Or.inr (Or.inl rfl) | exact Or.inl rfl) ?_
  | with_reducible refine CallU_of (f := 14) (hN) (by first | exact Or.inr (Or.inl rfl) | exact Or.inl rfl) ?_
  | with_reducible refine CallC_of (f := 14) (fun _ => hN) (by first | exact Or.inr (Or.inl rfl) | exact Or.inl rfl) ?_
  | with_reducible refine CallU_of (f := 31) (plain_fnS sh h1 h2) (by first | exact Or.inr (Or.inl rfl) | exact Or.inl rfl) ?_
  | with_reducible refine CallC_of (f := 31) (fun _ => plain_fnS sh h1 h2) (by first | exact Or.inr (Or.inl rfl) | exact Or.inl rfl) ?_
  | (with_reducible assumption)
  | with_reducible refine fun (hG : okL _) => ?_
  | (with_reducible refine fun (hT : (_ : Bool) = _) => ?_)
  | (with_reducible first | exact hG.2 | exact hG.2.2 | exact hG.2.2.2 | exact hG.2.2.2.2)
  | with_reducible refine okL_mk ?_ ?_
  | with_reducible refine And.intro ?_ ?_
  | simp only [f9r0, f9r1, f9r2, f9r3, f9r4, f9r5, f9r6, f9r7, f9r8, f9r9, f9r10, f9r11, f9r12, f9r13, f9r14, f9r15, f9r16, f9r17, f9r18, f9r19, f9r20, f9r21, f9r22, f9r23, f9r24, f9k, te33, te36, te25, List.getElem?_cons_zero, List.getElem?_cons_succ, runG_nil, runG_u, runG_g, runG_ucS, runG_gcS, stp, evs, evX, lget, lput, strip, putO, PO.dst, updO, okR, cells, splice, AV.cell, toD, toDs, binV, sameK, pickV, guardOf, okL_nil, sides, argsOf, rawOf, dv, dvL, owns, ownsL, flat, flatL, lkeep, seqQ, blockQ, initS, List.drop_succ_cons, List.drop_zero, List.take_succ_cons, List.take_zero, List.getD_cons_zero, List.getD_cons_succ, List.length_cons, List.length_nil, List.set_cons_zero, List.set_cons_succ, List.map_cons, List.map_nil, List.all_cons, List.all_nil, List.elem_cons, List.elem_nil, Option.getD_some, Option.getD_none, Option.bind_some, Option.isNone_none, reduceIte, reduceCtorEq, Nat.reduceEqDiff, Nat.reduceAdd, Nat.reduceLeDiff, Nat.zero_add, Nat.add_zero, Nat.reduceBEq, Bool.and_self, Bool.and_true, Bool.true_and, Bool.or_self, Bool.or_false, Bool.false_or, Bool.or_true, Bool.true_or, true_and, and_true, and_self, implies_true, forall_const, Bool.false_eq_true, id_eq, retQ, resOf, resV, Option.some.injEq, exists_eq_left', AV.d.injEq, D.v.injEq, Value.bool.injEq, imp_self, bldF, bldS, toVals, eqLs, Option.map_some, imp_false, not_true_eq_false, not_false_eq_true, foot, wrs, nm, nmL, PG.reads, PG.dst, PO.reads, X.sl, sls, slB, List.append_nil, List.cons_append, List.nil_append, Option.toList_some, Option.toList_none, loopQ_exit, loopQ_ret, subS, subO, Bool.bne_false, Bool.bne_true, elemsOf, bslD, bslS, mentries, isAgV, asA, lputs, mgetD_set, mcmp_set, mput_set, List.headD_cons, sealS, sealO, sealV, sealL, mput_nil, mcmp_nil, midQ_ret, midQ_exit, sealsS, sealsO, runW_nil, runW_cons, Bool.true_bne, Bool.false_bne, bne_self_eq_false, Int.reduceToNat, bndV, oSl, resR, runS_nil, runS_gc]
  all_goals first
    | rfl
    | decide
    | trace_state
theorem solveOrder_some (sh : Shape) (hs : sh.ok) (w : Int) (hw : 0 ≤ w ∧ w ≤ 255) (h1 : sh.maps.length ≤ 1048576) (h2 : ∀ rs ∈ sh.maps, rs.length ≤ 1048576) (n : Net) (p : Int × Int) (hx : sh.plain.netV w = some (n, p)) : FnS Try.prog 9 [sh.av, .d (.v (.int .u8 w))] (.d (.v (.bool true))) := by
  have hm : maxLen = 9223372036854775807 := rfl
  have hN := netOfF_fn sh.plain hs.plain w hw
  rw [hx] at hN
  simp only [netA] at hN
  obtain ⟨hsm, hmay, m, hnl, hn0⟩ := net_facts hx
  simp only at hsm hmay m hnl hn0
  have hlk := plain_likes hx
  simp only at hlk
  obtain ⟨l, hl⟩ := greedy_some hmay hlk
  have hG := greedy_fn n hsm
  rw [hl] at hG
  simp only [greedyA] at hG
  obtain ⟨hll, hln⟩ := greedy_num hl
  have hst := greedy_stable hl
  have hml := m.edges
  refine fn_of teok Try.func9 (by kernel_rfl) f9c f9k [.tmp 4] rfl (by show 2 ≤ 109; omega) ?_
  repeat' first
  | (exact absurd hc (by decide))
  | with_reducible refine awp_seq ?_
  | with_reducible refine awp_block ?_
  | with_reducible refine awp_reg ?_
  | with_reducible refine awp_regD ?_
  | with_reducible refine awp_ret ?_
  | with_reducible refine awp_skip ?_
  | with_reducible refine awp_exit ?_
  | with_reducible refine normQ_of ?_
  | with_reducible refine wkE_of ?_
  | with_reducible refine midQ_of (Wk_sub rfl rfl ?_ ?_)
  | with_reducible refine runD_nil ?_
  | with_reducible refine runD_cons ?_
  | with_reducible refine runF_cons ?_
  | with_reducible refine runF_nil ?_
  | with_reducible refine KF_of ?_
  | with_reducible refine chkQ_of rfl ?_
  | with_reducible refine awp_cond (by simp only [evX, lget, Option.getD_some, reduceIte, Nat.reduceEqDiff]; rfl) (fun hc => ?_) (fun hc => ?_)
  | with_reducible refine CallU_of (f := 27) (awake16_fn) (by first | exact Or.inr (Or.inl rfl) | exact Or.inl rfl) ?_
  | with_reducible refine CallC_of (f := 27) (fun _ => awake16_fn) (by first | exact Or.inr (Or.inl rfl) | exact Or.inl rfl) ?_
  | with_reducible refine CallU_of (f := 14) (hN) (by first | exact Or.inr (Or.inl rfl) | exact Or.inl rfl) ?_
  | with_reducible refine CallC_of (f := 14) (fun _ => hN) (by first | exact Or.inr (Or.inl rfl) | exact Or.inl rfl) ?_
  | with_reducible refine CallU_of (f := 31) (plain_fnS sh h1 h2) (by first | exact Or.inr (Or.inl rfl) | exact Or.inl rfl) ?_
  | with_reducible refine CallC_of (f := 31) (fun _ => plain_fnS sh h1 h2) (by first | exact Or.inr (Or.inl rfl) | exact Or.inl rfl) ?_
  | with_reducible refine CallU_of (f := 29) (hG) (by first | exact Or.inr (Or.inl rfl) | exact Or.inl rfl) ?_
  | with_reducible refine CallC_of (f := 29) (fun _ => hG) (by first | exact Or.inr (Or.inl rfl) | exact Or.inl rfl) ?_
  | with_reducible refine CallU_of (f := 18) (fixed_fn n x.1) (by first | exact Or.inr (Or.inl rfl) | exact Or.inl rfl) ?_
  | with_reducible refine CallC_of (f := 18) (fun _ => fixed_fn n x.1) (by first | exact Or.inr (Or.inl rfl) | exact Or.inl rfl) ?_
  | with_reducible refine CallU_of (f := 16) (offers_fn n hsm l (by omega) x.1) (by first | exact Or.inr (Or.inl rfl) | exact Or.inl rfl) ?_
  | with_reducible refine CallC_of (f := 16) (fun _ => offers_fn n hsm l (by omega) x.1) (by first | exact Or.inr (Or.inl rfl) | exact Or.inl rfl) ?_
  | with_reducible refine CallU_of (f := 20) (same_fn4 (offerV l e) a) (by first | exact Or.inr (Or.inl rfl) | exact Or.inl rfl) ?_
  | with_reducible refine CallC_of (f := 20) (fun _ => same_fn4 (offerV l e) a) (by first | exact Or.inr (Or.inl rfl) | exact Or.inl rfl) ?_
  | (with_reducible assumption)
  | with_reducible refine fun (hG : okL _) => ?_
  | (with_reducible refine fun (hT : (_ : Bool) = _) => ?_)
  | (with_reducible first | exact hG.2 | exact hG.2.2 | exact hG.2.2.2 | exact hG.2.2.2.2)
  | with_reducible refine okL_mk ?_ ?_
  | with_reducible refine And.intro ?_ ?_
  | (with_reducible refine awp_loopU (b := f9p22) (fun x : Nat × Unit => x.1 ≤ l.length) (fun x => l.length - x.1) (fun x => [(43, .d (.v (.int .i64 x.1)))]) (fun x => []) ((0, ())) (Nat.zero_le _) (Wk.refl _ _) (Wk_sub rfl rfl ?_ ?_) (fun x hx => ?_))
  | (refine Exists.elim (at_drop Attr.row l x.1 (by have := Int.ofNat_lt.1 (of_decide_eq_true (show decide ((x.1 : Int) < n.origin.length) = true from hc)); omega)) (fun a ha => ?_); have g1 := ha.2.1; replace hc : True := trivial)
  | (have _q : n.fixed x.1 = true := hc; with_reducible refine loopQ_next (x.1 + 1, ()) ?_ ?_ (Wk_sub rfl rfl ?_ ?_))
  | (have hfx : n.fixed x.1 = false := hc; refine Exists.elim (at_drop esD n.edges x.1 (by have := ha.2.2.2; omega)) (fun es he => ?_); have g3 := he.2.1; have g6 := offers_es (n := n) (l := l) he.2.2.1; have hof := order_facts m (by decide) hst hln ha.2.2.1 hfx he.2.2.1; have hrow := hsm.row es (List.mem_of_getElem? he.2.2.1); have hof2 : learnGo a ((es.map fun e => (offerV l e, (l.getD e.src.toNat default).cost)).drop 0) (!a.ok) = true := hof.2; replace hc : True := trivial)
  | (with_reducible refine awp_loopU (b := f9p12) (fun y : Nat × Bool => y.1 ≤ es.length ∧ learnGo a ((es.map fun e => (offerV l e, (l.getD e.src.toNat default).cost)).drop y.1) y.2 = true) (fun y => es.length - y.1) (fun y => [(60, .d (.v (.int .i64 y.1))), (11, .d (.v (.bool y.2)))]) (fun y => []) ((0, !a.ok)) (⟨Nat.zero_le _, hof2⟩) (Wk.refl _ _) (Wk_sub rfl rfl ?_ ?_) (fun y hy => ?_))
  | (refine Exists.elim (at_drop Arc.row es y.1 (Int.ofNat_lt.1 (of_decide_eq_true (show decide ((y.1 : Int) < es.length) = true from hc)))) (fun e hq => ?_); refine Exists.elim (at_drop Attr.row (es.map (offerV l)) y.1 (by have := hq.2.2.2; simpa using this)) (fun o ho => ?_); have hoe : o = offerV l e := (by have h1 := ho.2.2.1; rw [List.getElem?_map, hq.2.2.1] at h1; exact (Option.some.inj h1).symm); subst hoe; have g2 := ho.2.1; have g4 := hq.2.1; have hoa := offer_at m hll he.2.2.1 (List.mem_of_getElem? hq.2.2.1); have g5 := at_int Attr.row l default hoa.1 hoa.2.1; replace hc : True := trivial)
  | (with_reducible refine loopQ_next (y.1 + 1, (if y.2 = true then true else if sameA (offerV l e) a = true then decide ((l.getD e.src.toNat default).cost < a.cost) else false)) ?_ ?_ (Wk_sub rfl rfl ?_ ?_))
  | (with_reducible refine loopQ_next ((x.1 + 1, ())) ?_ ?_ (Wk_sub rfl rfl ?_ ?_))
  | simp only [f9r0, f9r1, f9r2, f9r3, f9r4, f9r5, f9r6, f9r7, f9r8, f9r9, f9r10, f9r11, f9r12, f9r13, f9r14, f9r15, f9r16, f9r17, f9r18, f9r19, f9r20, f9r21, f9r22, f9r23, f9r24, g5, g4, g3, g2, g1, g6, f9k, te33, te36, te25, List.length_map, List.getElem?_cons_zero, List.getElem?_cons_succ, hll, runG_nil, runG_u, runG_g, runG_ucS, runG_gcS, stp, evs, evX, lget, lput, strip, putO, PO.dst, updO, okR, cells, splice, AV.cell, toD, toDs, binV, sameK, pickV, guardOf, okL_nil, sides, argsOf, rawOf, dv, dvL, owns, ownsL, flat, flatL, lkeep, seqQ, blockQ, initS, List.drop_succ_cons, List.drop_zero, List.take_succ_cons, List.take_zero, List.getD_cons_zero, List.getD_cons_succ, List.length_cons, List.length_nil, List.set_cons_zero, List.set_cons_succ, List.map_cons, List.map_nil, List.all_cons, List.all_nil, List.elem_cons, List.elem_nil, Option.getD_some, Option.getD_none, Option.bind_some, Option.isNone_none, reduceIte, reduceCtorEq, Nat.reduceEqDiff, Nat.reduceAdd, Nat.reduceLeDiff, Nat.zero_add, Nat.add_zero, Nat.reduceBEq, Bool.and_self, Bool.and_true, Bool.true_and, Bool.or_self, Bool.or_false, Bool.false_or, Bool.or_true, Bool.true_or, true_and, and_true, and_self, implies_true, forall_const, Bool.false_eq_true, id_eq, retQ, resOf, resV, Option.some.injEq, exists_eq_left', AV.d.injEq, D.v.injEq, Value.bool.injEq, imp_self, bldF, bldS, toVals, eqLs, Option.map_some, imp_false, not_true_eq_false, not_false_eq_true, foot, wrs, nm, nmL, PG.reads, PG.dst, PO.reads, X.sl, sls, slB, List.append_nil, List.cons_append, List.nil_append, Option.toList_some, Option.toList_none, loopQ_exit, loopQ_ret, subS, subO, Bool.bne_false, Bool.bne_true, elemsOf, bslD, bslS, mentries, isAgV, asA, lputs, mgetD_set, mcmp_set, mput_set, List.headD_cons, sealS, sealO, sealV, sealL, mput_nil, mcmp_nil, midQ_ret, midQ_exit, sealsS, sealsO, runW_nil, runW_cons, Bool.true_bne, Bool.false_bne, bne_self_eq_false, Int.reduceToNat, bndV, oSl, resR, runS_nil, runS_gc]
  | simp only [f9r0, f9r1, f9r2, f9r3, f9r4, f9r5, f9r6, f9r7, f9r8, f9r9, f9r10, f9r11, f9r12, f9r13, f9r14, f9r15, f9r16, f9r17, f9r18, f9r19, f9r20, f9r21, f9r22, f9r23, f9r24, g3, g1, g6, f9k, te33, te36, te25, List.length_map, List.getElem?_cons_zero, List.getElem?_cons_succ, hll, runG_nil, runG_u, runG_g, runG_ucS, runG_gcS, stp, evs, evX, lget, lput, strip, putO, PO.dst, updO, okR, cells, splice, AV.cell, toD, toDs, binV, sameK, pickV, guardOf, okL_nil, sides, argsOf, rawOf, dv, dvL, owns, ownsL, flat, flatL, lkeep, seqQ, blockQ, initS, List.drop_succ_cons, List.drop_zero, List.take_succ_cons, List.take_zero, List.getD_cons_zero, List.getD_cons_succ, List.length_cons, List.length_nil, List.set_cons_zero, List.set_cons_succ, List.map_cons, List.map_nil, List.all_cons, List.all_nil, List.elem_cons, List.elem_nil, Option.getD_some, Option.getD_none, Option.bind_some, Option.isNone_none, reduceIte, reduceCtorEq, Nat.reduceEqDiff, Nat.reduceAdd, Nat.reduceLeDiff, Nat.zero_add, Nat.add_zero, Nat.reduceBEq, Bool.and_self, Bool.and_true, Bool.true_and, Bool.or_self, Bool.or_false, Bool.false_or, Bool.or_true, Bool.true_or, true_and, and_true, and_self, implies_true, forall_const, Bool.false_eq_true, id_eq, retQ, resOf, resV, Option.some.injEq, exists_eq_left', AV.d.injEq, D.v.injEq, Value.bool.injEq, imp_self, bldF, bldS, toVals, eqLs, Option.map_some, imp_false, not_true_eq_false, not_false_eq_true, foot, wrs, nm, nmL, PG.reads, PG.dst, PO.reads, X.sl, sls, slB, List.append_nil, List.cons_append, List.nil_append, Option.toList_some, Option.toList_none, loopQ_exit, loopQ_ret, subS, subO, Bool.bne_false, Bool.bne_true, elemsOf, bslD, bslS, mentries, isAgV, asA, lputs, mgetD_set, mcmp_set, mput_set, List.headD_cons, sealS, sealO, sealV, sealL, mput_nil, mcmp_nil, midQ_ret, midQ_exit, sealsS, sealsO, runW_nil, runW_cons, Bool.true_bne, Bool.false_bne, bne_self_eq_false, Int.reduceToNat, bndV, oSl, resR, runS_nil, runS_gc]
  | simp only [f9r0, f9r1, f9r2, f9r3, f9r4, f9r5, f9r6, f9r7, f9r8, f9r9, f9r10, f9r11, f9r12, f9r13, f9r14, f9r15, f9r16, f9r17, f9r18, f9r19, f9r20, f9r21, f9r22, f9r23, f9r24, g1, f9k, te33, te36, te25, List.length_map, List.getElem?_cons_zero, List.getElem?_cons_succ, hll, runG_nil, runG_u, runG_g, runG_ucS, runG_gcS, stp, evs, evX, lget, lput, strip, putO, PO.dst, updO, okR, cells, splice, AV.cell, toD, toDs, binV, sameK, pickV, guardOf, okL_nil, sides, argsOf, rawOf, dv, dvL, owns, ownsL, flat, flatL, lkeep, seqQ, blockQ, initS, List.drop_succ_cons, List.drop_zero, List.take_succ_cons, List.take_zero, List.getD_cons_zero, List.getD_cons_succ, List.length_cons, List.length_nil, List.set_cons_zero, List.set_cons_succ, List.map_cons, List.map_nil, List.all_cons, List.all_nil, List.elem_cons, List.elem_nil, Option.getD_some, Option.getD_none, Option.bind_some, Option.isNone_none, reduceIte, reduceCtorEq, Nat.reduceEqDiff, Nat.reduceAdd, Nat.reduceLeDiff, Nat.zero_add, Nat.add_zero, Nat.reduceBEq, Bool.and_self, Bool.and_true, Bool.true_and, Bool.or_self, Bool.or_false, Bool.false_or, Bool.or_true, Bool.true_or, true_and, and_true, and_self, implies_true, forall_const, Bool.false_eq_true, id_eq, retQ, resOf, resV, Option.some.injEq, exists_eq_left', AV.d.injEq, D.v.injEq, Value.bool.injEq, imp_self, bldF, bldS, toVals, eqLs, Option.map_some, imp_false, not_true_eq_false, not_false_eq_true, foot, wrs, nm, nmL, PG.reads, PG.dst, PO.reads, X.sl, sls, slB, List.append_nil, List.cons_append, List.nil_append, Option.toList_some, Option.toList_none, loopQ_exit, loopQ_ret, subS, subO, Bool.bne_false, Bool.bne_true, elemsOf, bslD, bslS, mentries, isAgV, asA, lputs, mgetD_set, mcmp_set, mput_set, List.headD_cons, sealS, sealO, sealV, sealL, mput_nil, mcmp_nil, midQ_ret, midQ_exit, sealsS, sealsO, runW_nil, runW_cons, Bool.true_bne, Bool.false_bne, bne_self_eq_false, Int.reduceToNat, bndV, oSl, resR, runS_nil, runS_gc]
  | simp only [f9r0, f9r1, f9r2, f9r3, f9r4, f9r5, f9r6, f9r7, f9r8, f9r9, f9r10, f9r11, f9r12, f9r13, f9r14, f9r15, f9r16, f9r17, f9r18, f9r19, f9r20, f9r21, f9r22, f9r23, f9r24, f9k, te33, te36, te25, List.length_map, List.getElem?_cons_zero, List.getElem?_cons_succ, hll, runG_nil, runG_u, runG_g, runG_ucS, runG_gcS, stp, evs, evX, lget, lput, strip, putO, PO.dst, updO, okR, cells, splice, AV.cell, toD, toDs, binV, sameK, pickV, guardOf, okL_nil, sides, argsOf, rawOf, dv, dvL, owns, ownsL, flat, flatL, lkeep, seqQ, blockQ, initS, List.drop_succ_cons, List.drop_zero, List.take_succ_cons, List.take_zero, List.getD_cons_zero, List.getD_cons_succ, List.length_cons, List.length_nil, List.set_cons_zero, List.set_cons_succ, List.map_cons, List.map_nil, List.all_cons, List.all_nil, List.elem_cons, List.elem_nil, Option.getD_some, Option.getD_none, Option.bind_some, Option.isNone_none, reduceIte, reduceCtorEq, Nat.reduceEqDiff, Nat.reduceAdd, Nat.reduceLeDiff, Nat.zero_add, Nat.add_zero, Nat.reduceBEq, Bool.and_self, Bool.and_true, Bool.true_and, Bool.or_self, Bool.or_false, Bool.false_or, Bool.or_true, Bool.true_or, true_and, and_true, and_self, implies_true, forall_const, Bool.false_eq_true, id_eq, retQ, resOf, resV, Option.some.injEq, exists_eq_left', AV.d.injEq, D.v.injEq, Value.bool.injEq, imp_self, bldF, bldS, toVals, eqLs, Option.map_some, imp_false, not_true_eq_false, not_false_eq_true, foot, wrs, nm, nmL, PG.reads, PG.dst, PO.reads, X.sl, sls, slB, List.append_nil, List.cons_append, List.nil_append, Option.toList_some, Option.toList_none, loopQ_exit, loopQ_ret, subS, subO, Bool.bne_false, Bool.bne_true, elemsOf, bslD, bslS, mentries, isAgV, asA, lputs, mgetD_set, mcmp_set, mput_set, List.headD_cons, sealS, sealO, sealV, sealL, mput_nil, mcmp_nil, midQ_ret, midQ_exit, sealsS, sealsO, runW_nil, runW_cons, Bool.true_bne, Bool.false_bne, bne_self_eq_false, Int.reduceToNat, bndV, oSl, resR, runS_nil, runS_gc]
  all_goals try first
    | omega
    | (with_reducible rfl)
    | (show Value.int _ 0 = _; rfl)
    | (simp only [List.length_append, List.length_cons, List.length_nil]; omega)
    | (simp only [List.length_append, List.length_cons, List.length_nil, List.map_append, List.map_cons, List.map_nil]; done)
    | exact count64 ha.2.2.2 (by omega)
    | exact count64 hq.2.2.2 (by omega)
    | (simp [hll] at hc; done)
    | (simp at hc; done)
    | (simp at hc; rw [hof.1 hc.1 e (List.mem_of_getElem? hq.2.2.1)] at hc; simp at hc; done)
    | (have h1 := hy.2; rw [← List.map_drop, hq.1, List.map_cons, learnGo_step] at h1; rw [← List.map_drop]; exact h1)
    | (have h0 := of_decide_eq_false ‹decide ((y.1 : Int) < _) = false›; have h1 := hy.2; rw [List.drop_eq_nil_of_le (by simp; omega), learnGo] at h1; simp [h1] at hc; done)
  all_goals trace_state

theorem solveOrder_as (av : List AV) (h : dArgs te 8 [25, 5] av) (hN : szAs av ≤ 1048576) : FnS Try.prog 9 av (.d (.v (.bool true))) := by
  obtain ⟨x, _, rfl, hx, y, _, rfl, hy, rfl⟩ := h
  obtain ⟨sh, rfl, hs⟩ := shape_of (n := 3) hx
  obtain ⟨w, rfl, hw⟩ := u8_row (n := 7) hy
  have hN : szAV sh.av + (1 + 0) ≤ 1048576 := hN
  have hSm := shape_small (sh := sh) (by omega)
  cases hx : sh.plain.netV w with
  | none => exact solveOrder_none sh hs w hw hSm.1 hSm.2 hx
  | some x =>
    obtain ⟨n, p⟩ := x
    exact solveOrder_some sh hs w hw hSm.1 hSm.2 n p hx
theorem isBulk {H : Type} : Bulk (H := H) Rows.uptoBulk Rows.uptoBulkAll where
  lit l := by cases l <;> simp [Rows.uptoBulk]
  str b := by simp [Rows.uptoBulk]
  nil := by simp [Rows.uptoBulk]
  slice l s := by simp [Rows.uptoBulk]
  agg l := by simp [Rows.uptoBulk]
  nilA := by simp [Rows.uptoBulkAll]
  cons x r := by simp [Rows.uptoBulkAll]

set_option maxRecDepth 100000 in
theorem solveOrder_lifted (os : Os) (started : os.Started) (H : Type) (enc : TypeId × Value → H) (F0 : Stop.Interp) :
    ReturnsInHanded {} Try.checked os 9 .any ((Rows.OpenSpec.upto Rows.solveOrderSpec).pre6 enc Try.prog Try.f9 Rows.solveOrderUptoRow.domain false) (((Rows.OpenSpec.upto Rows.solveOrderSpec).at F0).post enc Try.prog Try.f9 false true false false) := by
  refine returnsInHanded_of_cond (C := Try.checked) (s := Rows.OpenSpec.upto Rows.solveOrderSpec) (k := Rows.uptoSmall) rfl own started (by kernel_rfl) Try.func9
    (OpenSpec.witness (enc := enc) (C := Try.checked) (s := Rows.OpenSpec.upto Rows.solveOrderSpec) (k := Rows.uptoSmall) rfl false ⟨#[], #[.agg #[.int .u8 0, .slice none 0 0, .slice none 0 0, .slice none 0 0, .slice none 0 0, .slice none 0 0], .int .u8 0], []⟩ 8 (by kernel_rfl) (by kernel_rfl) (by kernel_rfl)
      (x := ([.agg [.lit (.int .u8 0), .nil, .nil, .nil, .nil, .nil], .lit (.int .u8 0)], [], [])) (by kernel_rfl) (by kernel_rfl) (by kernel_rfl)) ?_
  intro W base args ds gs before hval hW hcnd hk _
  have hp : Try.f9.params.toList = [25, 5] := by kernel_rfl
  refine law_callsU (n := 8) (b := 4) (N := 1048576) isBulk laidOut (by rw [hp]; exact List.forall_mem_cons.2 ⟨⟨by kernel_rfl, of_decide_eq_true (by kernel_rfl)⟩, List.forall_mem_cons.2 ⟨⟨by kernel_rfl, of_decide_eq_true (by kernel_rfl)⟩, (by simp)⟩⟩) (by rw [hp]; exact List.forall_mem_cons.2 ⟨by kernel_rfl, List.forall_mem_cons.2 ⟨by kernel_rfl, (by simp)⟩⟩) rfl (by kernel_rfl) (by kernel_rfl) (fun ds hd => ?_) hval hW (of_decide_eq_true hk) (fun av h hN => solveOrder_as av (argsT_d teok _ _ _ (by rw [hp]; exact List.forall_mem_cons.2 ⟨rfl, List.forall_mem_cons.2 ⟨rfl, (by simp)⟩⟩) h |> (hp ▸ ·)) hN)
  have hd : ds.length = 2 := hd
  match ds, hd with
  | [_, _], _ => rfl
theorem solveOrder_holds : Rows.SolveOrderUptoSaid :=
  OpenClaim.holds_of_cond 9 Try.f9 rfl rfl rfl rfl rfl rfl rfl ⟨rfl, rfl, rfl, rfl, rfl⟩ rfl rfl rfl rfl rfl (by kernel_rfl) Try.func9 (by kernel_rfl)
    (of_decide_eq_true (by kernel_rfl)) (by unfold Func.isWrapper; first | (rw [if_pos (by decide +kernel)]; kernel_rfl) | (rw [if_neg (by decide +kernel)]; exact ⟨rfl, rfl⟩))
    (fun os started H enc _ F0 => solveOrder_lifted os started H enc F0)
end Go.Proofs.Ytajkgmmmkhekmaa
