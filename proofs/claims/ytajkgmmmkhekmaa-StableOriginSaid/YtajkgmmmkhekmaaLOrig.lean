/- The law StableOrigin: whatever the input, it returns true and changes nothing. Printed by a program of this project (wip/mq). -/
import Derived.Test.YtajkgmmmkhekmaaNetF
import Derived.Test.YtajkgmmmkhekmaaMqPl10
import Derived.Test.YtajkgmmmkhekmaaSome
import Derived.Test.YtajkgmmmkhekmaaAwk15
import Derived.Test.YtajkgmmmkhekmaaArgs
namespace Go.Proofs.Ytajkgmmmkhekmaa
open Go Mq Go.ChangeShapes Go.WideShapes Go.ChangeAt Go.RowKit
/-! maquette/maquettelaw15.StableOrigin -/
def f6r0 : List PG := [.u (.bx 3 (.t 0)), .u (.mv 6 (.k (.bool false)))]
def f6r1 : List PG := [.uc 18 13 [], .u (.no 19 (.t 18))]
def f6r2 : List PG := [.u (.mv 6 (.k (.bool false)))]
abbrev f6p0 : PC := .seq (.reg f6r2) (.ret)
abbrev f6p1 : PC := .cond (.t 19) (f6p0) (.skip)
def f6r3 : List PG := [.u (.ld 21 6 true (.t 3)), .u (.mv 22 (.t 1)), .uc 23 14 [.t 21, .t 22], .u (.mv 20 (.t 23)), .u (.ext 24 (.t 20) 0), .u (.ext 25 (.t 20) 1), .u (.ext 26 (.t 20) 2), .u (.al 7 [.nl 1, .nl 1, .nl 1]), .u (.al 8 [.d (.v (.int .u32 0)), .d (.v (.int .i64 0))]), .u (.st 3 (.t 7) (.t 24)), .u (.st 2 (.t 8) (.t 25)), .u (.mv 9 (.t 26))]
def f6r4 : List PG := [.u (.mv 27 (.t 9)), .u (.no 28 (.t 27))]
def f6r5 : List PG := [.u (.mv 6 (.k (.bool true)))]
abbrev f6p2 : PC := .seq (.reg f6r5) (.ret)
abbrev f6p3 : PC := .cond (.t 28) (f6p2) (.skip)
def f6r6 : List PG := [.u (.mv 29 (.t 2)), .u (.fa 30 0 (.t 7)), .u (.ld 31 1 false (.t 30)), .u (.len 32 (.t 31)), .uc 33 15 [.t 29, .t 32], .u (.mv 10 (.t 33))]
def f6r7 : List PG := [.u (.mv 11 (.k (.int .i64 0)))]
def f6r8 : List PG := [.u (.mv 34 (.t 11)), .u (.bo 35 .lss (.t 34) (.k (.int .i64 15))), .u (.mv 36 (.t 35)), .g 36 true (.ld 37 3 true (.t 7)), .g 36 true (.mv 38 (.t 10)), .gc 36 true 39 24 [.t 37, .t 38], .g 36 true (.no 40 (.t 39)), .u (.pick 41 (.t 36) (.t 40) (.k (.bool false)))]
abbrev f6p4 : PC := .cond (.t 41) (.skip) (.exit 0)
def f6r9 : List PG := [.u (.mv 44 (.t 10)), .u (.len 45 (.t 44)), .u (.mv 46 (.k (.int .i64 0)))]
def f6r10 : List PG := [.u (.bo 47 .lss (.t 46) (.t 45))]
def f6r11 : List PG := [.u (.mv 48 (.t 46)), .u (.mv 12 (.t 48))]
def f6r12 : List PG := [.u (.mv 49 (.t 10)), .u (.mv 50 (.t 12)), .u (.ld 51 3 true (.t 7)), .u (.mv 52 (.t 10)), .u (.mv 53 (.t 12)), .uc 54 21 [.t 51, .t 52, .t 53], .u (.ia 55 4 (.t 49) (.t 50)), .u (.st 4 (.t 55) (.t 54))]
def f6r13 : List PG := [.u (.bo 56 .add (.t 46) (.k (.int .i64 1))), .u (.mv 46 (.t 56))]
abbrev f6p5 : PC := .seq (.block 3 (.seq (.reg f6r11) (.reg f6r12))) (.reg f6r13)
abbrev f6p6 : PC := .seq (.cond (.t 47) (.skip) (.exit 2)) (f6p5)
abbrev f6p7 : PC := .seq (.reg f6r10) (f6p6)
abbrev f6p8 : PC := .block 2 (.loop (f6p7))
def f6r14 : List PG := [.u (.mv 42 (.t 11)), .u (.bo 43 .add (.t 42) (.k (.int .i64 1))), .u (.mv 11 (.t 43))]
abbrev f6p9 : PC := .seq (.block 1 (.seq (.reg f6r9) (f6p8))) (.reg f6r14)
abbrev f6p10 : PC := .seq (.seq (.reg f6r8) (f6p4)) (f6p9)
abbrev f6p11 : PC := .block 0 (.loop (f6p10))
def f6r15 : List PG := [.u (.ld 57 3 true (.t 7)), .u (.mv 58 (.t 10)), .uc 59 24 [.t 57, .t 58], .u (.no 60 (.t 59))]
def f6r16 : List PG := [.u (.mv 6 (.k (.bool true)))]
abbrev f6p12 : PC := .seq (.reg f6r16) (.ret)
abbrev f6p13 : PC := .cond (.t 60) (f6p12) (.skip)
def f6r17 : List PG := [.u (.mv 61 (.t 10)), .u (.len 62 (.t 61)), .u (.mv 63 (.k (.int .i64 0)))]
def f6r18 : List PG := [.u (.bo 64 .lss (.t 63) (.t 62))]
def f6r19 : List PG := [.u (.mv 65 (.t 63)), .u (.ia 66 4 (.t 61) (.t 63)), .u (.ld 67 4 true (.t 66)), .u (.al 14 [.d (.v (.bool false)), .d (.v (.int .i64 0)), .d (.v (.int .i64 0)), .d (.v (.int .u8 0))]), .u (.mv 13 (.t 65)), .u (.st 4 (.t 14) (.t 67))]
def f6r20 : List PG := [.u (.fa 68 0 (.t 14)), .u (.ld 69 1 false (.t 68)), .u (.no 70 (.t 69))]
abbrev f6p14 : PC := .cond (.t 70) (.exit 5) (.skip)
def f6r21 : List PG := [.u (.ld 71 3 true (.t 7)), .u (.mv 72 (.t 13)), .uc 73 18 [.t 71, .t 72], .u (.mv 74 (.t 73)), .g 74 true (.ld 75 4 true (.t 14)), .gc 74 true 76 25 [], .g 74 true (.beqs 77 false [.b, .i, .i, .i] (.t 75) (.t 76)), .u (.pick 78 (.t 74) (.t 77) (.k (.bool false))), .u (.mv 15 (.t 78))]
def f6r22 : List PG := [.u (.fa 79 2 (.t 7)), .u (.ld 80 1 false (.t 79)), .u (.mv 81 (.t 13)), .u (.ia 82 1 (.t 80) (.t 81)), .u (.ld 83 1 false (.t 82)), .u (.len 84 (.t 83)), .u (.mv 85 (.k (.int .i64 0)))]
def f6r23 : List PG := [.u (.bo 86 .lss (.t 85) (.t 84))]
def f6r24 : List PG := [.u (.ia 87 4 (.t 83) (.t 85)), .u (.ld 88 4 true (.t 87)), .u (.al 17 [.d (.v (.int .i64 0)), .d (.v (.int .i64 0)), .nl 10, .nl 10]), .u (.st 4 (.t 17) (.t 88))]
def f6r25 : List PG := [.u (.mv 89 (.t 15)), .u (.mv 90 (.t 89)), .g 90 false (.ld 91 3 true (.t 7)), .g 90 false (.mv 92 (.t 13)), .gc 90 false 93 18 [.t 91, .t 92], .g 90 false (.no 94 (.t 93)), .g 90 false (.mv 95 (.t 94)), .g 95 true (.ld 96 4 true (.t 17)), .g 95 true (.mv 97 (.t 10)), .g 95 true (.fa 98 0 (.t 17)), .g 95 true (.ld 99 1 false (.t 98)), .g 95 true (.ia 100 4 (.t 97) (.t 99)), .g 95 true (.ld 101 4 true (.t 100)), .gc 95 true 102 26 [.t 96, .t 101], .g 95 true (.ld 103 4 true (.t 14)), .gc 95 true 104 20 [.t 102, .t 103], .g 90 false (.pick 105 (.t 95) (.t 104) (.k (.bool false))), .u (.pick 106 (.t 90) (.k (.bool true)) (.t 105)), .u (.mv 15 (.t 106))]
def f6r26 : List PG := [.u (.bo 107 .add (.t 85) (.k (.int .i64 1))), .u (.mv 85 (.t 107))]
abbrev f6p15 : PC := .seq (.block 7 (.seq (.reg f6r24) (.regD f6r25 []))) (.reg f6r26)
abbrev f6p16 : PC := .seq (.cond (.t 86) (.skip) (.exit 6)) (f6p15)
abbrev f6p17 : PC := .seq (.reg f6r23) (f6p16)
abbrev f6p18 : PC := .block 6 (.loop (f6p17))
def f6r27 : List PG := [.u (.mv 108 (.t 15)), .u (.no 109 (.t 108))]
def f6r28 : List PG := [.u (.mv 6 (.k (.bool false)))]
abbrev f6p19 : PC := .seq (.reg f6r28) (.ret)
abbrev f6p20 : PC := .cond (.t 109) (f6p19) (.skip)
abbrev f6p21 : PC := .seq (.reg f6r27) (f6p20)
abbrev f6p22 : PC := .seq (.seq (.reg f6r22) (f6p18)) (f6p21)
abbrev f6p23 : PC := .seq (.regD f6r21 []) (f6p22)
abbrev f6p24 : PC := .seq (.seq (.reg f6r20) (f6p14)) (f6p23)
def f6r29 : List PG := [.u (.bo 110 .add (.t 63) (.k (.int .i64 1))), .u (.mv 63 (.t 110))]
abbrev f6p25 : PC := .seq (.block 5 (.seq (.reg f6r19) (f6p24))) (.reg f6r29)
abbrev f6p26 : PC := .seq (.cond (.t 64) (.skip) (.exit 4)) (f6p25)
abbrev f6p27 : PC := .seq (.reg f6r18) (f6p26)
abbrev f6p28 : PC := .block 4 (.loop (f6p27))
def f6r30 : List PG := [.u (.mv 6 (.k (.bool true)))]
abbrev f6p29 : PC := .seq (.reg f6r30) (.ret)
abbrev f6p30 : PC := .seq (.seq (.reg f6r17) (f6p28)) (f6p29)
abbrev f6p31 : PC := .seq (.seq (.reg f6r15) (f6p13)) (f6p30)
abbrev f6p32 : PC := .seq (.seq (.reg f6r7) (f6p11)) (f6p31)
abbrev f6p33 : PC := .seq (.reg f6r6) (f6p32)
abbrev f6p34 : PC := .seq (.seq (.reg f6r4) (f6p3)) (f6p33)
abbrev f6p35 : PC := .seq (.reg f6r3) (f6p34)
abbrev f6p36 : PC := .seq (.seq (.reg f6r1) (f6p1)) (f6p35)
abbrev f6pc : PC := .seq (.reg f6r0) (f6p36)
def f6k : List Nat := [0, 1, 2, 3, 6, 7, 9, 10, 11, 12, 13, 14, 15, 17, 19, 28, 41, 45, 46, 47, 60, 61, 62, 63, 64, 70, 83, 84, 85, 86, 109]
theorem f6c : Try.f6.body.bind (cC te Try.f6.ntmps) = some f6pc := by kernel_rfl
set_option maxRecDepth 20000
set_option maxHeartbeats 4000000
set_option linter.unusedSimpArgs false
set_option linter.unusedVariables false

theorem same_fn5 (a b : Attr) : FnS Try.prog 20 [.ag [.d (.v (.bool a.ok)), .d (.v (.int .i64 a.pref)), .d (.v (.int .i64 a.cost)), .d (.v (.int .u8 a.tags))], .ag [.d (.v (.bool b.ok)), .d (.v (.int .i64 b.pref)), .d (.v (.int .i64 b.cost)), .d (.v (.int .u8 b.tags))]] (.d (.v (.bool (sameA a b)))) := same_fn a b
theorem take_fn5 (e : Arc) (he : e.ok) (a : Attr) : FnS Try.prog 26 [.ag e.box, .ag [.d (.v (.bool a.ok)), .d (.v (.int .i64 a.pref)), .d (.v (.int .i64 a.cost)), .d (.v (.int .u8 a.tags))]] (takeV e a).av := take_fn e he a
theorem orig_or {b f s : Bool} (h : f = false ∨ b = true) : (if b = true then true else if (!f) = true then s else false) = (if b = true then true else s) := by cases b <;> cases f <;> simp_all

theorem stableOrigin_none (sh : Shape) (hs : sh.ok) (w : Int) (hw : 0 ≤ w ∧ w ≤ 255)(ns : List Int) (hx : sh.netV w = none) : FnS Try.prog 6 [sh.av, .d (.v (.int .u8 w)), .d (.sl 1 (ns.map wD))] (.d (.v (.bool true))) := by
  have hN := netOfF_fn sh hs w hw
  rw [hx] at hN
  simp only [netA] at hN
  refine fn_of teok Try.func6 (by kernel_rfl) f6c f6k [.tmp 6] rfl (by show 3 ≤ 111; omega) ?_
  repeat' first
  | (exact absurd hc (by decide))
  | with_reducible refine awp_seq ?_
  | with_reducible refine awp_block ?_
  | with_reducible refine awp_reg ?_
  | with_reducible refine awp_regD ?_
  | with_reducible refine awp_ret ?_
  | with_reducible refine awp_skip ?_
  | with_reducible refine awp_exit ?_
  | with_reducible refine normQ_of ?_
  | with_reducible refine wkE_of ?_
  | with_reducible refine midQ_of (Wk_sub rfl rfl ?_ ?_)
  | with_reducible refine runD_nil ?_
  | with_reducible refine runD_cons ?_
  | with_reducible refine runF_cons ?_
  | with_reducible refine runF_nil ?_
  | with_reducible refine KF_of ?_
  | with_reducible refine chkQ_of rfl ?_
  | with_reducible refine awp_cond (by simp only [evX, lget, Option.getD_some, reduceIte, Nat.reduceEqDiff]; rfl) (fun hc => ?_) (fun hc => ?_)
  | with_reducible refine CallU_of (f := 13) (awake15_fn) (by first | exact Or.inr (Or.inl rfl) | exact Or.inl rfl) ?_
  | with_reducible refine CallC_of (f := 13) (fun _ => awake15_fn) (by first | exact Or.inr (Or.inl rfl) | exact Or.inl rfl) ?_
  | with_reducible refine CallU_of (f := 14) (hN) (by first | exact Or.inr (Or.inl rfl) | exact Or.inl rfl) ?_
  | with_reducible refine CallC_of (f := 14) (fun _ => hN) (by first | exact Or.inr (Or.inl rfl) | exact Or.inl rfl) ?_
  | (with_reducible assumption)
  | with_reducible refine fun (hG : okL _) => ?_
  | (with_reducible refine fun (hT : (_ : Bool) = _) => ?_)
  | (with_reducible first | exact hG.2 | exact hG.2.2 | exact hG.2.2.2 | exact hG.2.2.2.2)
  | with_reducible refine okL_mk ?_ ?_
  | with_reducible refine And.intro ?_ ?_
  | simp only [f6r0, f6r1, f6r2, f6r3, f6r4, f6r5, f6r6, f6r7, f6r8, f6r9, f6r10, f6r11, f6r12, f6r13, f6r14, f6r15, f6r16, f6r17, f6r18, f6r19, f6r20, f6r21, f6r22, f6r23, f6r24, f6r25, f6r26, f6r27, f6r28, f6r29, f6r30, f6k, te33, te36, te25, List.getElem?_cons_zero, List.getElem?_cons_succ, runG_nil, runG_u, runG_g, runG_ucS, runG_gcS, runG_uvS, stp, avL, avS, evs, evX, lget, lput, strip, putO, PO.dst, updO, okR, cells, splice, AV.cell, toD, toDs, binV, sameK, pickV, guardOf, okL_nil, sides, argsOf, rawOf, dv, dvL, owns, ownsL, flat, flatL, lkeep, seqQ, blockQ, initS, List.drop_succ_cons, List.drop_zero, List.take_succ_cons, List.take_zero, List.getD_cons_zero, List.getD_cons_succ, List.length_cons, List.length_nil, List.set_cons_zero, List.set_cons_succ, List.map_cons, List.map_nil, List.all_cons, List.all_nil, List.elem_cons, List.elem_nil, Option.getD_some, Option.getD_none, Option.bind_some, Option.isNone_none, reduceIte, reduceCtorEq, Nat.reduceEqDiff, Nat.reduceAdd, Nat.reduceLeDiff, Nat.zero_add, Nat.add_zero, Nat.reduceBEq, Bool.and_self, Bool.and_true, Bool.true_and, Bool.or_self, Bool.or_false, Bool.false_or, Bool.or_true, Bool.true_or, true_and, and_true, and_self, implies_true, forall_const, Bool.false_eq_true, id_eq, retQ, resOf, resV, Option.some.injEq, exists_eq_left', AV.d.injEq, D.v.injEq, Value.bool.injEq, imp_self, bldF, bldS, toVals, eqLs, Option.map_some, imp_false, not_true_eq_false, not_false_eq_true, foot, wrs, nm, nmL, PG.reads, PG.dst, PO.reads, X.sl, sls, slB, List.append_nil, List.cons_append, List.nil_append, Option.toList_some, Option.toList_none, loopQ_exit, loopQ_ret, subS, subO, Bool.bne_false, Bool.bne_true, elemsOf, bslD, bslS, mentries, isAgV, asA, lputs, mgetD_set, mcmp_set, mput_set, List.headD_cons, sealS, sealO, sealV, sealL, mput_nil, mcmp_nil, midQ_ret, midQ_exit, sealsS, sealsO, runW_nil, runW_cons, Bool.true_bne, Bool.false_bne, bne_self_eq_false, Int.reduceToNat, bndV, oSl, resR, runS_nil, runS_gc, ren, renL, renO, sg, gBack]
  all_goals first
    | rfl
    | decide
    | trace_state
theorem stableOrigin_some (sh : Shape) (hs : sh.ok) (w : Int) (hw : 0 ≤ w ∧ w ≤ 255)(ns : List Int) (n : Net) (p : Int × Int) (hx : sh.netV w = some (n, p)) (hns : B16 ns) : FnS Try.prog 6 [sh.av, .d (.v (.int .u8 w)), .d (.sl 1 (ns.map wD))] (.d (.v (.bool true))) := by
  have hm : maxLen = 9223372036854775807 := rfl
  have hN := netOfF_fn sh hs w hw
  rw [hx] at hN
  simp only [netA] at hN
  obtain ⟨hsm, hmay, m, hnl, hn0⟩ := net_facts hx
  simp only at hsm hmay m hnl hn0
  have hS := some_fnG ns hns n.origin.length (by omega)
  have hll := someV_len ns n.origin.length
  generalize someV ns n.origin.length = l0 at hS hll
  have hel := m.edges
  refine fn_of teok Try.func6 (by kernel_rfl) f6c f6k [.tmp 6] rfl (by show 3 ≤ 111; omega) ?_
  repeat' first
  | (exact absurd hc (by decide))
  | (with_reducible refine awp_sc (l := f6r6) [(4, .gc [] [] [(8, 8033)])] ?_; unfold f6r6)
  | with_reducible refine awp_seq ?_
  | with_reducible refine awp_block ?_
  | with_reducible refine awp_reg ?_
  | with_reducible refine awp_regD ?_
  | with_reducible refine awp_ret ?_
  | with_reducible refine awp_skip ?_
  | with_reducible refine awp_exit ?_
  | with_reducible refine normQ_of ?_
  | with_reducible refine wkE_of ?_
  | with_reducible refine midQ_of (Wk_sub rfl rfl ?_ ?_)
  | with_reducible refine runD_nil ?_
  | with_reducible refine runD_cons ?_
  | with_reducible refine runF_cons ?_
  | with_reducible refine runF_nil ?_
  | with_reducible refine KF_of ?_
  | with_reducible refine chkQ_of rfl ?_
  | with_reducible refine awp_cond (by simp only [evX, lget, Option.getD_some, reduceIte, Nat.reduceEqDiff]; rfl) (fun hc => ?_) (fun hc => ?_)
  | with_reducible refine gc_of (f := 15) (hS) ?_ rfl rfl rfl rfl (Or.inl rfl) ?_
  | with_reducible refine CallU_of (f := 13) (awake15_fn) (by first | exact Or.inr (Or.inl rfl) | exact Or.inl rfl) ?_
  | with_reducible refine CallC_of (f := 13) (fun _ => awake15_fn) (by first | exact Or.inr (Or.inl rfl) | exact Or.inl rfl) ?_
  | with_reducible refine CallU_of (f := 14) (hN) (by first | exact Or.inr (Or.inl rfl) | exact Or.inl rfl) ?_
  | with_reducible refine CallC_of (f := 14) (fun _ => hN) (by first | exact Or.inr (Or.inl rfl) | exact Or.inl rfl) ?_
  | with_reducible refine CallU_of (f := 21) (choice_fn n hsm y.2 (by omega) y.1) (by first | exact Or.inr (Or.inl rfl) | exact Or.inl rfl) ?_
  | with_reducible refine CallC_of (f := 21) (fun _ => choice_fn n hsm y.2 (by omega) y.1) (by first | exact Or.inr (Or.inl rfl) | exact Or.inl rfl) ?_
  | with_reducible refine CallU_of (f := 24) (is_fn n hsm x.2 (by omega)) (by first | exact Or.inr (Or.inl rfl) | exact Or.inl rfl) ?_
  | with_reducible refine CallC_of (f := 24) (fun _ => is_fn n hsm x.2 (by omega)) (by first | exact Or.inr (Or.inl rfl) | exact Or.inl rfl) ?_
  | with_reducible refine CallU_of (f := 18) (fixed_fn n z.1) (by first | exact Or.inr (Or.inl rfl) | exact Or.inl rfl) ?_
  | with_reducible refine CallC_of (f := 18) (fun _ => fixed_fn n z.1) (by first | exact Or.inr (Or.inl rfl) | exact Or.inl rfl) ?_
  | with_reducible refine CallU_of (f := 25) (origin_fn) (by first | exact Or.inr (Or.inl rfl) | exact Or.inl rfl) ?_
  | with_reducible refine CallC_of (f := 25) (fun _ => origin_fn) (by first | exact Or.inr (Or.inl rfl) | exact Or.inl rfl) ?_
  | with_reducible refine CallU_of (f := 26) (take_fn5 e (hsm.ok.edge _ (List.mem_of_getElem? he.2.2.1) _ (List.mem_of_getElem? hq.2.2.1)) (x.2.getD e.src.toNat default)) (by first | exact Or.inr (Or.inl rfl) | exact Or.inl rfl) ?_
  | with_reducible refine CallC_of (f := 26) (fun _ => take_fn5 e (hsm.ok.edge _ (List.mem_of_getElem? he.2.2.1) _ (List.mem_of_getElem? hq.2.2.1)) (x.2.getD e.src.toNat default)) (by first | exact Or.inr (Or.inl rfl) | exact Or.inl rfl) ?_
  | with_reducible refine CallU_of (f := 20) (same_fn5 (takeV e (x.2.getD e.src.toNat default)) a) (by first | exact Or.inr (Or.inl rfl) | exact Or.inl rfl) ?_
  | with_reducible refine CallC_of (f := 20) (fun _ => same_fn5 (takeV e (x.2.getD e.src.toNat default)) a) (by first | exact Or.inr (Or.inl rfl) | exact Or.inl rfl) ?_
  | (with_reducible assumption)
  | with_reducible refine fun (hG : okL _) => ?_
  | (with_reducible refine fun (hT : (_ : Bool) = _) => ?_)
  | (with_reducible first | exact hG.2 | exact hG.2.2 | exact hG.2.2.2 | exact hG.2.2.2.2)
  | with_reducible refine okL_mk ?_ ?_
  | with_reducible refine And.intro ?_ ?_
  | (with_reducible refine awp_loopU (b := f6p10) (fun x : Nat × List Attr => x.1 ≤ 15 ∧ x.2.length = n.origin.length) (fun x => 15 - x.1) (fun x => [(11, .d (.v (.int .i64 x.1))), (10, .own 8033 0)]) (fun x => [(8033, .row 45 4 0 (x.2.map Attr.row))]) ((0, l0)) (⟨Nat.zero_le _, hll⟩) (Wk.refl _ _) (Wk_sub rfl rfl ?_ ?_) (fun x hx => ?_))
  | (have _q : (if decide ((x.1 : Int) < (15 : Int)) = true then (!n.isV x.2) else false) = true := hc; have hlt : x.1 < 15 := (by by_cases h : x.1 < 15; exact h; rw [decide_eq_false (by omega)] at _q; simp at _q); have g0 := hx.2; replace hc : True := trivial)
  | (have _q : (!n.isV x.2) = false := hc; have hst : n.isV x.2 = true := (by cases h : n.isV x.2; rw [h] at _q; cases _q; rfl); have g0 := hx.2; replace hc : True := trivial)
  | (with_reducible refine awp_loopU (b := f6p7) (fun y : Nat × List Attr => y.1 ≤ n.origin.length ∧ y.2.length = n.origin.length) (fun y => n.origin.length - y.1) (fun y => [(46, .d (.v (.int .i64 y.1)))]) (fun y => [(8033, .row 45 4 0 (y.2.map Attr.row))]) ((0, x.2)) (⟨Nat.zero_le _, hx.2⟩) (Wk.refl _ _) (Wk_sub rfl rfl ?_ ?_) (fun y hy => ?_))
  | (have hyt : y.1 < n.origin.length := Int.ofNat_lt.1 (of_decide_eq_true (show decide ((y.1 : Int) < n.origin.length) = true from hc)); have g2 := at_int Attr.row y.2 (k := (y.1 : Int)) default (by omega) (by have := hy.2; omega); replace hc : True := trivial)
  | (have _q := hyt; with_reducible refine loopQ_next (y.1 + 1, y.2.set y.1 (n.choice y.2 y.1)) ?_ ?_ (Wk_sub rfl rfl ?_ ?_))
  | (have _q := hlt; with_reducible refine loopQ_next (x.1 + 1, y.2) ?_ ?_ (Wk_sub rfl rfl ?_ ?_))
  | (with_reducible refine awp_loopU (b := f6p27) (fun z : Nat × Unit => z.1 ≤ n.origin.length) (fun z => n.origin.length - z.1) (fun z => [(63, .d (.v (.int .i64 z.1)))]) (fun z => []) ((0, ())) (Nat.zero_le _) (Wk.refl _ _) (Wk_sub rfl rfl ?_ ?_) (fun z hz => ?_))
  | (refine Exists.elim (at_drop Attr.row x.2 z.1 (by have := Int.ofNat_lt.1 (of_decide_eq_true (show decide ((z.1 : Int) < n.origin.length) = true from hc)); omega)) (fun a ha => ?_); have g1 := ha.2.1; replace hc : True := trivial)
  | (have _q : (!a.ok) = true := hc; have hcont := _q; with_reducible refine loopQ_next (z.1 + 1, ()) ?_ ?_ (Wk_sub rfl rfl ?_ ?_))
  | (have hok : a.ok = true := (by have _q : (!a.ok) = false := hc; cases h : a.ok; rw [h] at _q; cases _q; rfl); refine Exists.elim (at_drop esD n.edges z.1 (by have := ha.2.2.2; omega)) (fun es he => ?_); have g3 := he.2.1; have hof := orig_facts m hst ha.2.2.1 hok he.2.2.1; have hrow := hsm.row es (List.mem_of_getElem? he.2.2.1); replace hc : True := trivial)
  | (with_reducible refine awp_loopU (b := f6p17) (fun u : Nat × Bool => u.1 ≤ es.length ∧ origGo (n.fixed z.1) x.2 a (es.drop u.1) u.2 = true) (fun u => es.length - u.1) (fun u => [(85, .d (.v (.int .i64 u.1))), (15, .d (.v (.bool u.2)))]) (fun u => []) ((0, (if n.fixed z.1 = true then (a.ok == true && (a.pref == 100 && (a.cost == 0 && a.tags == 0))) else false))) (?_) (Wk.refl _ _) (Wk_sub rfl rfl ?_ ?_) (fun u hu => ?_))
  | (refine Exists.elim (at_drop Arc.row es u.1 (Int.ofNat_lt.1 (of_decide_eq_true (show decide ((u.1 : Int) < es.length) = true from hc)))) (fun e hq => ?_); have hs := m.src _ _ he.2.2.1 e (List.mem_of_getElem? hq.2.2.1); have g4 := hq.2.1; have g5 := at_int Attr.row x.2 default hs.1 (by omega); replace hc : True := trivial)
  | (with_reducible refine loopQ_next (u.1 + 1, (if u.2 = true then true else if n.fixed z.1 = true then false else sameA (takeV e (x.2.getD e.src.toNat default)) a)) ?_ ?_ (Wk_sub rfl rfl ?_ ?_))
  | (with_reducible refine loopQ_next (z.1 + 1, ()) ?_ ?_ (Wk_sub rfl rfl ?_ ?_))
  | simp only [f6r0, f6r1, f6r2, f6r3, f6r4, f6r5, f6r7, f6r8, f6r9, f6r10, f6r11, f6r12, f6r13, f6r14, f6r15, f6r16, f6r17, f6r18, f6r19, f6r20, f6r21, f6r22, f6r23, f6r24, f6r25, f6r26, f6r27, f6r28, f6r29, f6r30, g5, g4, g0, f6k, te33, te36, te25, List.length_map, List.getElem?_cons_zero, List.getElem?_cons_succ, runG_nil, runG_u, runG_g, runG_ucS, runG_gcS, runG_uvS, stp, avL, avS, evs, evX, lget, lput, strip, putO, PO.dst, updO, okR, cells, splice, AV.cell, toD, toDs, binV, sameK, pickV, guardOf, okL_nil, sides, argsOf, rawOf, dv, dvL, owns, ownsL, flat, flatL, lkeep, seqQ, blockQ, initS, List.drop_succ_cons, List.drop_zero, List.take_succ_cons, List.take_zero, List.getD_cons_zero, List.getD_cons_succ, List.length_cons, List.length_nil, List.set_cons_zero, List.set_cons_succ, List.map_cons, List.map_nil, List.all_cons, List.all_nil, List.elem_cons, List.elem_nil, Option.getD_some, Option.getD_none, Option.bind_some, Option.isNone_none, reduceIte, reduceCtorEq, Nat.reduceEqDiff, Nat.reduceAdd, Nat.reduceLeDiff, Nat.zero_add, Nat.add_zero, Nat.reduceBEq, Bool.and_self, Bool.and_true, Bool.true_and, Bool.or_self, Bool.or_false, Bool.false_or, Bool.or_true, Bool.true_or, true_and, and_true, and_self, implies_true, forall_const, Bool.false_eq_true, id_eq, retQ, resOf, resV, Option.some.injEq, exists_eq_left', AV.d.injEq, D.v.injEq, Value.bool.injEq, imp_self, bldF, bldS, toVals, eqLs, Option.map_some, imp_false, not_true_eq_false, not_false_eq_true, foot, wrs, nm, nmL, PG.reads, PG.dst, PO.reads, X.sl, sls, slB, List.append_nil, List.cons_append, List.nil_append, Option.toList_some, Option.toList_none, loopQ_exit, loopQ_ret, subS, subO, Bool.bne_false, Bool.bne_true, elemsOf, bslD, bslS, mentries, isAgV, asA, lputs, mgetD_set, mcmp_set, mput_set, List.headD_cons, sealS, sealO, sealV, sealL, mput_nil, mcmp_nil, midQ_ret, midQ_exit, sealsS, sealsO, runW_nil, runW_cons, Bool.true_bne, Bool.false_bne, bne_self_eq_false, Int.reduceToNat, bndV, oSl, resR, runS_nil, runS_gc, ren, renL, renO, sg, gBack]
  | simp only [f6r0, f6r1, f6r2, f6r3, f6r4, f6r5, f6r7, f6r8, f6r9, f6r10, f6r11, f6r12, f6r13, f6r14, f6r15, f6r16, f6r17, f6r18, f6r19, f6r20, f6r21, f6r22, f6r23, f6r24, f6r25, f6r26, f6r27, f6r28, f6r29, f6r30, g3, g1, g0, f6k, te33, te36, te25, List.length_map, List.getElem?_cons_zero, List.getElem?_cons_succ, runG_nil, runG_u, runG_g, runG_ucS, runG_gcS, runG_uvS, stp, avL, avS, evs, evX, lget, lput, strip, putO, PO.dst, updO, okR, cells, splice, AV.cell, toD, toDs, binV, sameK, pickV, guardOf, okL_nil, sides, argsOf, rawOf, dv, dvL, owns, ownsL, flat, flatL, lkeep, seqQ, blockQ, initS, List.drop_succ_cons, List.drop_zero, List.take_succ_cons, List.take_zero, List.getD_cons_zero, List.getD_cons_succ, List.length_cons, List.length_nil, List.set_cons_zero, List.set_cons_succ, List.map_cons, List.map_nil, List.all_cons, List.all_nil, List.elem_cons, List.elem_nil, Option.getD_some, Option.getD_none, Option.bind_some, Option.isNone_none, reduceIte, reduceCtorEq, Nat.reduceEqDiff, Nat.reduceAdd, Nat.reduceLeDiff, Nat.zero_add, Nat.add_zero, Nat.reduceBEq, Bool.and_self, Bool.and_true, Bool.true_and, Bool.or_self, Bool.or_false, Bool.false_or, Bool.or_true, Bool.true_or, true_and, and_true, and_self, implies_true, forall_const, Bool.false_eq_true, id_eq, retQ, resOf, resV, Option.some.injEq, exists_eq_left', AV.d.injEq, D.v.injEq, Value.bool.injEq, imp_self, bldF, bldS, toVals, eqLs, Option.map_some, imp_false, not_true_eq_false, not_false_eq_true, foot, wrs, nm, nmL, PG.reads, PG.dst, PO.reads, X.sl, sls, slB, List.append_nil, List.cons_append, List.nil_append, Option.toList_some, Option.toList_none, loopQ_exit, loopQ_ret, subS, subO, Bool.bne_false, Bool.bne_true, elemsOf, bslD, bslS, mentries, isAgV, asA, lputs, mgetD_set, mcmp_set, mput_set, List.headD_cons, sealS, sealO, sealV, sealL, mput_nil, mcmp_nil, midQ_ret, midQ_exit, sealsS, sealsO, runW_nil, runW_cons, Bool.true_bne, Bool.false_bne, bne_self_eq_false, Int.reduceToNat, bndV, oSl, resR, runS_nil, runS_gc, ren, renL, renO, sg, gBack]
  | simp only [f6r0, f6r1, f6r2, f6r3, f6r4, f6r5, f6r7, f6r8, f6r9, f6r10, f6r11, f6r12, f6r13, f6r14, f6r15, f6r16, f6r17, f6r18, f6r19, f6r20, f6r21, f6r22, f6r23, f6r24, f6r25, f6r26, f6r27, f6r28, f6r29, f6r30, g1, g0, f6k, te33, te36, te25, List.length_map, List.getElem?_cons_zero, List.getElem?_cons_succ, runG_nil, runG_u, runG_g, runG_ucS, runG_gcS, runG_uvS, stp, avL, avS, evs, evX, lget, lput, strip, putO, PO.dst, updO, okR, cells, splice, AV.cell, toD, toDs, binV, sameK, pickV, guardOf, okL_nil, sides, argsOf, rawOf, dv, dvL, owns, ownsL, flat, flatL, lkeep, seqQ, blockQ, initS, List.drop_succ_cons, List.drop_zero, List.take_succ_cons, List.take_zero, List.getD_cons_zero, List.getD_cons_succ, List.length_cons, List.length_nil, List.set_cons_zero, List.set_cons_succ, List.map_cons, List.map_nil, List.all_cons, List.all_nil, List.elem_cons, List.elem_nil, Option.getD_some, Option.getD_none, Option.bind_some, Option.isNone_none, reduceIte, reduceCtorEq, Nat.reduceEqDiff, Nat.reduceAdd, Nat.reduceLeDiff, Nat.zero_add, Nat.add_zero, Nat.reduceBEq, Bool.and_self, Bool.and_true, Bool.true_and, Bool.or_self, Bool.or_false, Bool.false_or, Bool.or_true, Bool.true_or, true_and, and_true, and_self, implies_true, forall_const, Bool.false_eq_true, id_eq, retQ, resOf, resV, Option.some.injEq, exists_eq_left', AV.d.injEq, D.v.injEq, Value.bool.injEq, imp_self, bldF, bldS, toVals, eqLs, Option.map_some, imp_false, not_true_eq_false, not_false_eq_true, foot, wrs, nm, nmL, PG.reads, PG.dst, PO.reads, X.sl, sls, slB, List.append_nil, List.cons_append, List.nil_append, Option.toList_some, Option.toList_none, loopQ_exit, loopQ_ret, subS, subO, Bool.bne_false, Bool.bne_true, elemsOf, bslD, bslS, mentries, isAgV, asA, lputs, mgetD_set, mcmp_set, mput_set, List.headD_cons, sealS, sealO, sealV, sealL, mput_nil, mcmp_nil, midQ_ret, midQ_exit, sealsS, sealsO, runW_nil, runW_cons, Bool.true_bne, Bool.false_bne, bne_self_eq_false, Int.reduceToNat, bndV, oSl, resR, runS_nil, runS_gc, ren, renL, renO, sg, gBack]
  | simp only [f6r0, f6r1, f6r2, f6r3, f6r4, f6r5, f6r7, f6r8, f6r9, f6r10, f6r11, f6r12, f6r13, f6r14, f6r15, f6r16, f6r17, f6r18, f6r19, f6r20, f6r21, f6r22, f6r23, f6r24, f6r25, f6r26, f6r27, f6r28, f6r29, f6r30, g2, g0, f6k, te33, te36, te25, List.length_map, List.getElem?_cons_zero, List.getElem?_cons_succ, runG_nil, runG_u, runG_g, runG_ucS, runG_gcS, runG_uvS, stp, avL, avS, evs, evX, lget, lput, strip, putO, PO.dst, updO, okR, cells, splice, AV.cell, toD, toDs, binV, sameK, pickV, guardOf, okL_nil, sides, argsOf, rawOf, dv, dvL, owns, ownsL, flat, flatL, lkeep, seqQ, blockQ, initS, List.drop_succ_cons, List.drop_zero, List.take_succ_cons, List.take_zero, List.getD_cons_zero, List.getD_cons_succ, List.length_cons, List.length_nil, List.set_cons_zero, List.set_cons_succ, List.map_cons, List.map_nil, List.all_cons, List.all_nil, List.elem_cons, List.elem_nil, Option.getD_some, Option.getD_none, Option.bind_some, Option.isNone_none, reduceIte, reduceCtorEq, Nat.reduceEqDiff, Nat.reduceAdd, Nat.reduceLeDiff, Nat.zero_add, Nat.add_zero, Nat.reduceBEq, Bool.and_self, Bool.and_true, Bool.true_and, Bool.or_self, Bool.or_false, Bool.false_or, Bool.or_true, Bool.true_or, true_and, and_true, and_self, implies_true, forall_const, Bool.false_eq_true, id_eq, retQ, resOf, resV, Option.some.injEq, exists_eq_left', AV.d.injEq, D.v.injEq, Value.bool.injEq, imp_self, bldF, bldS, toVals, eqLs, Option.map_some, imp_false, not_true_eq_false, not_false_eq_true, foot, wrs, nm, nmL, PG.reads, PG.dst, PO.reads, X.sl, sls, slB, List.append_nil, List.cons_append, List.nil_append, Option.toList_some, Option.toList_none, loopQ_exit, loopQ_ret, subS, subO, Bool.bne_false, Bool.bne_true, elemsOf, bslD, bslS, mentries, isAgV, asA, lputs, mgetD_set, mcmp_set, mput_set, List.headD_cons, sealS, sealO, sealV, sealL, mput_nil, mcmp_nil, midQ_ret, midQ_exit, sealsS, sealsO, runW_nil, runW_cons, Bool.true_bne, Bool.false_bne, bne_self_eq_false, Int.reduceToNat, bndV, oSl, resR, runS_nil, runS_gc, ren, renL, renO, sg, gBack]
  | simp only [f6r0, f6r1, f6r2, f6r3, f6r4, f6r5, f6r7, f6r8, f6r9, f6r10, f6r11, f6r12, f6r13, f6r14, f6r15, f6r16, f6r17, f6r18, f6r19, f6r20, f6r21, f6r22, f6r23, f6r24, f6r25, f6r26, f6r27, f6r28, f6r29, f6r30, g0, f6k, te33, te36, te25, List.length_map, List.getElem?_cons_zero, List.getElem?_cons_succ, runG_nil, runG_u, runG_g, runG_ucS, runG_gcS, runG_uvS, stp, avL, avS, evs, evX, lget, lput, strip, putO, PO.dst, updO, okR, cells, splice, AV.cell, toD, toDs, binV, sameK, pickV, guardOf, okL_nil, sides, argsOf, rawOf, dv, dvL, owns, ownsL, flat, flatL, lkeep, seqQ, blockQ, initS, List.drop_succ_cons, List.drop_zero, List.take_succ_cons, List.take_zero, List.getD_cons_zero, List.getD_cons_succ, List.length_cons, List.length_nil, List.set_cons_zero, List.set_cons_succ, List.map_cons, List.map_nil, List.all_cons, List.all_nil, List.elem_cons, List.elem_nil, Option.getD_some, Option.getD_none, Option.bind_some, Option.isNone_none, reduceIte, reduceCtorEq, Nat.reduceEqDiff, Nat.reduceAdd, Nat.reduceLeDiff, Nat.zero_add, Nat.add_zero, Nat.reduceBEq, Bool.and_self, Bool.and_true, Bool.true_and, Bool.or_self, Bool.or_false, Bool.false_or, Bool.or_true, Bool.true_or, true_and, and_true, and_self, implies_true, forall_const, Bool.false_eq_true, id_eq, retQ, resOf, resV, Option.some.injEq, exists_eq_left', AV.d.injEq, D.v.injEq, Value.bool.injEq, imp_self, bldF, bldS, toVals, eqLs, Option.map_some, imp_false, not_true_eq_false, not_false_eq_true, foot, wrs, nm, nmL, PG.reads, PG.dst, PO.reads, X.sl, sls, slB, List.append_nil, List.cons_append, List.nil_append, Option.toList_some, Option.toList_none, loopQ_exit, loopQ_ret, subS, subO, Bool.bne_false, Bool.bne_true, elemsOf, bslD, bslS, mentries, isAgV, asA, lputs, mgetD_set, mcmp_set, mput_set, List.headD_cons, sealS, sealO, sealV, sealL, mput_nil, mcmp_nil, midQ_ret, midQ_exit, sealsS, sealsO, runW_nil, runW_cons, Bool.true_bne, Bool.false_bne, bne_self_eq_false, Int.reduceToNat, bndV, oSl, resR, runS_nil, runS_gc, ren, renL, renO, sg, gBack]
  | simp only [f6r0, f6r1, f6r2, f6r3, f6r4, f6r5, f6r7, f6r8, f6r9, f6r10, f6r11, f6r12, f6r13, f6r14, f6r15, f6r16, f6r17, f6r18, f6r19, f6r20, f6r21, f6r22, f6r23, f6r24, f6r25, f6r26, f6r27, f6r28, f6r29, f6r30, f6k, te33, te36, te25, List.length_map, List.getElem?_cons_zero, List.getElem?_cons_succ, runG_nil, runG_u, runG_g, runG_ucS, runG_gcS, runG_uvS, stp, avL, avS, evs, evX, lget, lput, strip, putO, PO.dst, updO, okR, cells, splice, AV.cell, toD, toDs, binV, sameK, pickV, guardOf, okL_nil, sides, argsOf, rawOf, dv, dvL, owns, ownsL, flat, flatL, lkeep, seqQ, blockQ, initS, List.drop_succ_cons, List.drop_zero, List.take_succ_cons, List.take_zero, List.getD_cons_zero, List.getD_cons_succ, List.length_cons, List.length_nil, List.set_cons_zero, List.set_cons_succ, List.map_cons, List.map_nil, List.all_cons, List.all_nil, List.elem_cons, List.elem_nil, Option.getD_some, Option.getD_none, Option.bind_some, Option.isNone_none, reduceIte, reduceCtorEq, Nat.reduceEqDiff, Nat.reduceAdd, Nat.reduceLeDiff, Nat.zero_add, Nat.add_zero, Nat.reduceBEq, Bool.and_self, Bool.and_true, Bool.true_and, Bool.or_self, Bool.or_false, Bool.false_or, Bool.or_true, Bool.true_or, true_and, and_true, and_self, implies_true, forall_const, Bool.false_eq_true, id_eq, retQ, resOf, resV, Option.some.injEq, exists_eq_left', AV.d.injEq, D.v.injEq, Value.bool.injEq, imp_self, bldF, bldS, toVals, eqLs, Option.map_some, imp_false, not_true_eq_false, not_false_eq_true, foot, wrs, nm, nmL, PG.reads, PG.dst, PO.reads, X.sl, sls, slB, List.append_nil, List.cons_append, List.nil_append, Option.toList_some, Option.toList_none, loopQ_exit, loopQ_ret, subS, subO, Bool.bne_false, Bool.bne_true, elemsOf, bslD, bslS, mentries, isAgV, asA, lputs, mgetD_set, mcmp_set, mput_set, List.headD_cons, sealS, sealO, sealV, sealL, mput_nil, mcmp_nil, midQ_ret, midQ_exit, sealsS, sealsO, runW_nil, runW_cons, Bool.true_bne, Bool.false_bne, bne_self_eq_false, Int.reduceToNat, bndV, oSl, resR, runS_nil, runS_gc, ren, renL, renO, sg, gBack]
  all_goals try first
    | omega
    | (with_reducible rfl)
    | (show Value.int _ 0 = _; rfl)
    | (simp only [List.length_append, List.length_cons, List.length_nil]; omega)
    | (simp only [List.length_append, List.length_cons, List.length_nil, List.map_append, List.map_cons, List.map_nil]; done)
    | (simp only [List.length_set]; omega)
    | (simp only [List.length_map]; omega)
    | exact some_set _ _ _
    | (rw [some_set, Int.toNat_natCast]; done)
    | exact count64 hyt (by omega)
    | exact count64 (n := 15) hlt (by omega)
    | exact count64 ha.2.2.2 (by omega)
    | exact count64 hq.2.2.2 (by omega)
    | (cases hf : n.fixed z.1 with
       | true => have hao := hof.1 hf; subst hao; exact origGo_true _
       | false => exact hof.2 hf)
    | rfl
    | (cases u.2 <;> cases n.fixed z.1 <;> simp; done)
    | (have h1 := hu.2; rw [hq.1, origGo] at h1; exact h1)
    | (have h0 := of_decide_eq_false ‹decide ((u.1 : Int) < _) = false›; have h1 := hu.2; rw [List.drop_eq_nil_of_le (by omega), origGo] at h1; rw [h1] at hc; cases hc; done)
    | (simp; done)
  all_goals trace_state

theorem stableOrigin_as (av : List AV) (h : dArgs te 8 [25, 5, 26] av) : FnS Try.prog 6 av (.d (.v (.bool true))) := by
  obtain ⟨x, _, rfl, hx, y, _, rfl, hy, z, _, rfl, hz, rfl⟩ := h
  obtain ⟨sh, rfl, hs⟩ := shape_of (n := 3) hx
  obtain ⟨w, rfl, hw⟩ := u8_row (n := 7) hy
  obtain ⟨ns, rfl, hns⟩ := u16s_of (n := 6) hz
  cases hx : sh.netV w with
  | none => exact stableOrigin_none sh hs w hw ns hx
  | some x =>
    obtain ⟨n, p⟩ := x
    exact stableOrigin_some sh hs w hw ns n p hx hns

set_option maxRecDepth 100000 in
theorem stableOrigin_lifted (os : Os) (started : os.Started) (H : Type) (enc : TypeId × Value → H) :
    ReturnsInHanded {} Try.checked os 6 .any (Rows.stableOriginSpec.pre6 enc Try.prog Try.f6 Rows.stableOriginRow.domain false) (Rows.stableOriginSpec.post enc Try.prog Try.f6 false true false false) := by
  refine returnsInHanded_of_change (C := Try.checked) own started (by kernel_rfl) Try.func6
    (ChangeSpec.witness6 (enc := enc) (C := Try.checked) false ⟨#[], #[.agg #[.int .u8 0, .slice none 0 0, .slice none 0 0, .slice none 0 0, .slice none 0 0, .slice none 0 0], .int .u8 0, .slice none 0 0], []⟩ 8 (by kernel_rfl) (by kernel_rfl) (by kernel_rfl) (by kernel_rfl)) ?_
  intro W base args ds gs before hval hW hcnd _
  have hp : Try.f6.params.toList = [25, 5, 26] := by kernel_rfl
  refine law_calls (n := 8) (b := 4) laidOut (by rw [hp]; exact List.forall_mem_cons.2 ⟨⟨by kernel_rfl, of_decide_eq_true (by kernel_rfl)⟩, List.forall_mem_cons.2 ⟨⟨by kernel_rfl, of_decide_eq_true (by kernel_rfl)⟩, List.forall_mem_cons.2 ⟨⟨by kernel_rfl, of_decide_eq_true (by kernel_rfl)⟩, (by simp)⟩⟩⟩) (by rw [hp]; exact List.forall_mem_cons.2 ⟨by kernel_rfl, List.forall_mem_cons.2 ⟨by kernel_rfl, List.forall_mem_cons.2 ⟨by kernel_rfl, (by simp)⟩⟩⟩) rfl (by kernel_rfl) (by kernel_rfl) (fun ds hd => ?_) hval hW (fun av h => stableOrigin_as av (argsT_d teok _ _ _ (by rw [hp]; exact List.forall_mem_cons.2 ⟨rfl, List.forall_mem_cons.2 ⟨rfl, List.forall_mem_cons.2 ⟨rfl, (by simp)⟩⟩⟩) h |> (hp ▸ ·)))
  have hd : ds.length = 3 := hd
  match ds, hd with
  | [_, _, _], _ => rfl
theorem stableOrigin_holds : Rows.StableOriginSaid :=
  OpenClaim.holds_of_wide 6 Try.f6 rfl rfl rfl rfl rfl rfl rfl ⟨rfl, rfl, rfl, rfl, rfl⟩ rfl rfl rfl rfl rfl (by kernel_rfl) Try.func6 (by kernel_rfl)
    (of_decide_eq_true (by kernel_rfl)) (by unfold Func.isWrapper; first | (rw [if_pos (by decide +kernel)]; kernel_rfl) | (rw [if_neg (by decide +kernel)]; exact ⟨rfl, rfl⟩))
    (fun os started H enc _ => stableOrigin_lifted os started H enc)
end Go.Proofs.Ytajkgmmmkhekmaa
