/- The law StableChoice: whatever the input, it returns true and changes nothing. Printed by a program of this project (wip/mq). -/
import Derived.Test.YtajkgmmmkhekmaaSome
import Derived.Test.YtajkgmmmkhekmaaAwk15
import Derived.Test.YtajkgmmmkhekmaaNetOf
import Derived.Test.YtajkgmmmkhekmaaArgs
namespace Go.Proofs.Ytajkgmmmkhekmaa
open Go Mq Go.ChangeShapes Go.WideShapes Go.ChangeAt Go.RowKit
/-! maquette/maquettelaw15.StableChoice -/
def f3r0 : List PG := [.u (.bx 4 (.t 0)), .u (.mv 8 (.k (.bool false)))]
def f3r1 : List PG := [.uc 18 13 [], .u (.no 19 (.t 18))]
def f3r2 : List PG := [.u (.mv 8 (.k (.bool false)))]
abbrev f3p0 : PC := .seq (.reg f3r2) (.ret)
abbrev f3p1 : PC := .cond (.t 19) (f3p0) (.skip)
def f3r3 : List PG := [.u (.ld 21 6 true (.t 4)), .u (.mv 22 (.t 1)), .uc 23 14 [.t 21, .t 22], .u (.mv 20 (.t 23)), .u (.ext 24 (.t 20) 0), .u (.ext 25 (.t 20) 1), .u (.ext 26 (.t 20) 2), .u (.al 9 [.nl 1, .nl 1, .nl 1]), .u (.al 10 [.d (.v (.int .u32 0)), .d (.v (.int .i64 0))]), .u (.st 3 (.t 9) (.t 24)), .u (.st 2 (.t 10) (.t 25)), .u (.mv 11 (.t 26))]
def f3r4 : List PG := [.u (.mv 27 (.t 11)), .u (.no 28 (.t 27))]
def f3r5 : List PG := [.u (.mv 8 (.k (.bool true)))]
abbrev f3p2 : PC := .seq (.reg f3r5) (.ret)
abbrev f3p3 : PC := .cond (.t 28) (f3p2) (.skip)
def f3r6 : List PG := [.u (.mv 29 (.t 2)), .u (.fa 30 0 (.t 9)), .u (.ld 31 1 false (.t 30)), .u (.len 32 (.t 31)), .uc 33 15 [.t 29, .t 32], .u (.mv 12 (.t 33))]
def f3r7 : List PG := [.u (.mv 34 (.t 3)), .u (.cv 35 .i64 (.t 34)), .u (.mv 36 (.t 3)), .u (.cv 37 .u8 (.t 36)), .u (.cv 38 .i64 (.t 37)), .u (.fa 39 0 (.t 9)), .u (.ld 40 1 false (.t 39)), .u (.len 41 (.t 40)), .u (.mx 42 false (.k (.int .i64 1)) (.t 41)), .u (.bo 43 .rem (.t 38) (.t 42)), .u (.bsl 44 3 1 [.t 35, .t 43]), .u (.len 45 (.t 44)), .u (.mv 46 (.k (.int .i64 0)))]
def f3r8 : List PG := [.u (.bo 47 .lss (.t 46) (.t 45))]
def f3r9 : List PG := [.u (.ia 48 1 (.t 44) (.t 46)), .u (.ld 49 1 false (.t 48)), .u (.mv 14 (.t 49))]
def f3r10 : List PG := [.u (.ld 50 3 true (.t 9)), .u (.mv 51 (.t 12)), .u (.mv 52 (.t 14)), .uc 53 16 [.t 50, .t 51, .t 52], .u (.ld 54 3 true (.t 9)), .u (.mv 55 (.t 12)), .u (.mv 56 (.t 14)), .uc 57 17 [.t 54, .t 55, .t 56], .u (.mv 15 (.t 53)), .u (.mv 16 (.t 57))]
def f3r11 : List PG := [.u (.mv 58 (.t 15)), .u (.len 59 (.t 58)), .u (.mv 60 (.t 16)), .u (.len 61 (.t 60)), .u (.beq 62 true false (.t 59) (.t 61)), .u (.mv 63 (.t 62)), .g 63 false (.ld 64 3 true (.t 9)), .g 63 false (.mv 65 (.t 14)), .gc 63 false 66 18 [.t 64, .t 65], .g 63 false (.ld 67 3 true (.t 9)), .g 63 false (.mv 68 (.t 14)), .gc 63 false 69 19 [.t 67, .t 68], .g 63 false (.beq 70 true true (.t 66) (.t 69)), .u (.pick 71 (.t 63) (.k (.bool true)) (.t 70)), .u (.mv 72 (.t 71)), .g 72 false (.ld 73 3 true (.t 9)), .g 72 false (.mv 74 (.t 12)), .g 72 false (.mv 75 (.t 14)), .gc 72 false 76 21 [.t 73, .t 74, .t 75], .g 72 false (.ld 77 3 true (.t 9)), .g 72 false (.mv 78 (.t 12)), .g 72 false (.mv 79 (.t 14)), .gc 72 false 80 22 [.t 77, .t 78, .t 79], .gc 72 false 81 20 [.t 76, .t 80], .g 72 false (.no 82 (.t 81)), .u (.pick 83 (.t 72) (.k (.bool true)) (.t 82))]
def f3r12 : List PG := [.u (.mv 8 (.k (.bool false)))]
abbrev f3p4 : PC := .seq (.reg f3r12) (.ret)
abbrev f3p5 : PC := .cond (.t 83) (f3p4) (.skip)
def f3r13 : List PG := [.u (.mv 84 (.t 15)), .u (.len 85 (.t 84)), .u (.mv 86 (.k (.int .i64 0)))]
def f3r14 : List PG := [.u (.bo 87 .lss (.t 86) (.t 85))]
def f3r15 : List PG := [.u (.mv 88 (.t 86)), .u (.mv 17 (.t 88))]
def f3r16 : List PG := [.u (.mv 89 (.t 15)), .u (.mv 90 (.t 17)), .u (.ia 91 4 (.t 89) (.t 90)), .u (.ld 92 4 true (.t 91)), .u (.mv 93 (.t 16)), .u (.mv 94 (.t 17)), .u (.ia 95 4 (.t 93) (.t 94)), .u (.ld 96 4 true (.t 95)), .u (.beqs 97 true [.b, .i, .i, .i] (.t 92) (.t 96))]
def f3r17 : List PG := [.u (.mv 8 (.k (.bool false)))]
abbrev f3p6 : PC := .seq (.reg f3r17) (.ret)
abbrev f3p7 : PC := .cond (.t 97) (f3p6) (.skip)
abbrev f3p8 : PC := .seq (.regD f3r16 []) (f3p7)
def f3r18 : List PG := [.u (.bo 98 .add (.t 86) (.k (.int .i64 1))), .u (.mv 86 (.t 98))]
abbrev f3p9 : PC := .seq (.block 3 (.seq (.reg f3r15) (f3p8))) (.reg f3r18)
abbrev f3p10 : PC := .seq (.cond (.t 87) (.skip) (.exit 2)) (f3p9)
abbrev f3p11 : PC := .seq (.reg f3r14) (f3p10)
abbrev f3p12 : PC := .block 2 (.loop (f3p11))
abbrev f3p13 : PC := .seq (.reg f3r13) (f3p12)
abbrev f3p14 : PC := .seq (.seq (.regD f3r11 []) (f3p5)) (f3p13)
abbrev f3p15 : PC := .seq (.regD f3r10 []) (f3p14)
def f3r19 : List PG := [.u (.bo 99 .add (.t 46) (.k (.int .i64 1))), .u (.mv 46 (.t 99))]
abbrev f3p16 : PC := .seq (.block 1 (.seq (.reg f3r9) (f3p15))) (.reg f3r19)
abbrev f3p17 : PC := .seq (.cond (.t 47) (.skip) (.exit 0)) (f3p16)
abbrev f3p18 : PC := .seq (.reg f3r8) (f3p17)
abbrev f3p19 : PC := .block 0 (.loop (f3p18))
def f3r20 : List PG := [.u (.ld 100 3 true (.t 9)), .uc 101 23 [.t 100], .u (.mv 8 (.t 101))]
abbrev f3p20 : PC := .seq (.reg f3r20) (.ret)
abbrev f3p21 : PC := .seq (.seq (.reg f3r7) (f3p19)) (f3p20)
abbrev f3p22 : PC := .seq (.reg f3r6) (f3p21)
abbrev f3p23 : PC := .seq (.seq (.reg f3r4) (f3p3)) (f3p22)
abbrev f3p24 : PC := .seq (.reg f3r3) (f3p23)
abbrev f3p25 : PC := .seq (.seq (.reg f3r1) (f3p1)) (f3p24)
abbrev f3pc : PC := .seq (.reg f3r0) (f3p25)
def f3k : List Nat := [0, 1, 2, 3, 4, 8, 9, 11, 12, 14, 15, 16, 17, 19, 28, 44, 45, 46, 47, 83, 85, 86, 87, 97]
theorem f3c : Try.f3.body.bind (cC te Try.f3.ntmps) = some f3pc := by kernel_rfl
set_option maxRecDepth 20000
set_option maxHeartbeats 4000000
set_option linter.unusedSimpArgs false
set_option linter.unusedVariables false

theorem netOf_fn (sh : Shape) (hs : sh.ok) (w : Int) (hw : 0 ≤ w ∧ w ≤ 255) : FnS Try.prog 14 [sh.av, .d (.v (.int .u8 w))] (netA (sh.netV w)) := by
  by_cases hc : sh.conf.cls = []
  · exact netOf_none sh hs w hc
  · exact netOf_some sh hs w hw hc
theorem schoice_none (sh : Shape) (hs : sh.ok) (w : Int) (hw : 0 ≤ w ∧ w ≤ 255) (ns : List Int) (k : Int) (hx : sh.netV w = none) : FnS Try.prog 3 [sh.av, .d (.v (.int .u8 w)), .d (.sl 1 (ns.map wD)), .d (.v (.int .i8 k))] (.d (.v (.bool true))) := by
  have hN := netOf_fn sh hs w hw
  rw [hx] at hN
  simp only [netA] at hN
  refine fn_of teok Try.func3 (by kernel_rfl) f3c f3k [.tmp 8] rfl (by show 4 ≤ 102; omega) ?_
  repeat' first
  | (exact absurd hc (by decide))
  | with_reducible refine awp_seq ?_
  | with_reducible refine awp_block ?_
  | with_reducible refine awp_reg ?_
  | with_reducible refine awp_regD ?_
  | with_reducible refine awp_ret ?_
  | with_reducible refine awp_skip ?_
  | with_reducible refine awp_exit ?_
  | with_reducible refine normQ_of ?_
  | with_reducible refine wkE_of ?_
  | with_reducible refine midQ_of (Wk_sub rfl rfl ?_ ?_)
  | with_reducible refine runD_nil ?_
  | with_reducible refine runD_cons ?_
  | with_reducible refine runF_cons ?_
  | with_reducible refine runF_nil ?_
  | with_reducible refine KF_of ?_
  | with_reducible refine chkQ_of rfl ?_
  | with_reducible refine awp_cond (by simp only [evX, lget, Option.getD_some, reduceIte, Nat.reduceEqDiff]; rfl) (fun hc => ?_) (fun hc => ?_)
  | with_reducible refine CallU_of (f := 13) (awake15_fn) (by first | exact Or.inr (Or.inl rfl) | exact Or.inl rfl) ?_
  | with_reducible refine CallC_of (f := 13) (fun _ => awake15_fn) (by first | exact Or.inr (Or.inl rfl) | exact Or.inl rfl) ?_
  | with_reducible refine CallU_of (f := 14) (hN) (by first | exact Or.inr (Or.inl rfl) | exact Or.inl rfl) ?_
  | with_reducible refine CallC_of (f := 14) (fun _ => hN) (by first | exact Or.inr (Or.inl rfl) | exact Or.inl rfl) ?_
  | (with_reducible assumption)
  | with_reducible refine fun (hG : okL _) => ?_
  | (with_reducible refine fun (hT : (_ : Bool) = _) => ?_)
  | (with_reducible first | exact hG.2 | exact hG.2.2 | exact hG.2.2.2 | exact hG.2.2.2.2)
  | with_reducible refine okL_mk ?_ ?_
  | with_reducible refine And.intro ?_ ?_
  | simp only [f3r0, f3r1, f3r2, f3r3, f3r4, f3r5, f3r6, f3r7, f3r8, f3r9, f3r10, f3r11, f3r12, f3r13, f3r14, f3r15, f3r16, f3r17, f3r18, f3r19, f3r20, f3k, te33, te36, te25, List.getElem?_cons_zero, List.getElem?_cons_succ, runG_nil, runG_u, runG_g, runG_ucS, runG_gcS, stp, evs, evX, lget, lput, strip, putO, PO.dst, updO, okR, cells, splice, AV.cell, toD, toDs, binV, sameK, pickV, guardOf, okL_nil, sides, argsOf, rawOf, dv, dvL, owns, ownsL, flat, flatL, lkeep, seqQ, blockQ, initS, List.drop_succ_cons, List.drop_zero, List.take_succ_cons, List.take_zero, List.getD_cons_zero, List.getD_cons_succ, List.length_cons, List.length_nil, List.set_cons_zero, List.set_cons_succ, List.map_cons, List.map_nil, List.all_cons, List.all_nil, List.elem_cons, List.elem_nil, Option.getD_some, Option.getD_none, Option.bind_some, Option.isNone_none, reduceIte, reduceCtorEq, Nat.reduceEqDiff, Nat.reduceAdd, Nat.reduceLeDiff, Nat.zero_add, Nat.add_zero, Nat.reduceBEq, Bool.and_self, Bool.and_true, Bool.true_and, Bool.or_self, Bool.or_false, Bool.false_or, Bool.or_true, Bool.true_or, true_and, and_true, and_self, implies_true, forall_const, Bool.false_eq_true, id_eq, retQ, resOf, resV, Option.some.injEq, exists_eq_left', AV.d.injEq, D.v.injEq, Value.bool.injEq, imp_self, bldF, bldS, toVals, eqLs, Option.map_some, imp_false, not_true_eq_false, not_false_eq_true, foot, wrs, nm, nmL, PG.reads, PG.dst, PO.reads, X.sl, sls, slB, List.append_nil, List.cons_append, List.nil_append, Option.toList_some, Option.toList_none, loopQ_exit, loopQ_ret, subS, subO, Bool.bne_false, Bool.bne_true, elemsOf, bslD, bslS, mentries, isAgV, asA, lputs, mgetD_set, mcmp_set, mput_set, List.headD_cons, sealS, sealO, sealV, sealL, mput_nil, mcmp_nil, midQ_ret, midQ_exit, sealsS, sealsO, runW_nil, runW_cons, Bool.true_bne, Bool.false_bne, bne_self_eq_false, Int.reduceToNat, bndV, oSl, resR, runS_nil, runS_gc]
  all_goals first
    | rfl
    | decide
    | trace_state
theorem schoice_some (sh : Shape) (hs : sh.ok) (w : Int) (hw : 0 ≤ w ∧ w ≤ 255) (ns : List Int) (hns : B16 ns) (k : Int) (x : Net × Int × Int) (hx : sh.netV w = some x) : FnS Try.prog 3 [sh.av, .d (.v (.int .u8 w)), .d (.sl 1 (ns.map wD)), .d (.v (.int .i8 k))] (.d (.v (.bool true))) := by
  have hm : maxLen = 9223372036854775807 := rfl
  have hN := netOf_fn sh hs w hw
  rw [hx] at hN
  simp only [netA] at hN
  obtain ⟨hxn, hn0⟩ := Shape.netV_n hx
  have hsm : x.1.small := by rw [hxn]; exact Shape.net_small _ _ _
  have hmay : x.1.may = true := by rw [hxn]; exact Shape.net_may _ _ _
  have m := Net.may_spec hmay
  have hnl := m.most
  obtain ⟨n, p⟩ := x
  simp only at hsm hmay m hnl
  have hS := some_fn ns hns n.origin.length (by omega)
  have hsl := someV_len ns n.origin.length
  generalize someV ns n.origin.length = l at hS hsl
  refine fn_of teok Try.func3 (by kernel_rfl) f3c f3k [.tmp 8] rfl (by show 4 ≤ 102; omega) ?_
  repeat' first
  | (exact absurd hc (by decide))
  | with_reducible refine awp_seq ?_
  | with_reducible refine awp_block ?_
  | with_reducible refine awp_reg ?_
  | with_reducible refine awp_regD ?_
  | with_reducible refine awp_ret ?_
  | with_reducible refine awp_skip ?_
  | with_reducible refine awp_exit ?_
  | with_reducible refine normQ_of ?_
  | with_reducible refine wkE_of ?_
  | with_reducible refine midQ_of (Wk_sub rfl rfl ?_ ?_)
  | with_reducible refine runD_nil ?_
  | with_reducible refine runD_cons ?_
  | with_reducible refine runF_cons ?_
  | with_reducible refine runF_nil ?_
  | with_reducible refine KF_of ?_
  | with_reducible refine chkQ_of rfl ?_
  | with_reducible refine awp_cond (by simp only [evX, lget, Option.getD_some, reduceIte, Nat.reduceEqDiff]; rfl) (fun hc => ?_) (fun hc => ?_)
  | with_reducible refine CallU_of (f := 13) (awake15_fn) (by first | exact Or.inr (Or.inl rfl) | exact Or.inl rfl) ?_
  | with_reducible refine CallC_of (f := 13) (fun _ => awake15_fn) (by first | exact Or.inr (Or.inl rfl) | exact Or.inl rfl) ?_
  | with_reducible refine CallU_of (f := 14) (hN) (by first | exact Or.inr (Or.inl rfl) | exact Or.inl rfl) ?_
  | with_reducible refine CallC_of (f := 14) (fun _ => hN) (by first | exact Or.inr (Or.inl rfl) | exact Or.inl rfl) ?_
  | with_reducible refine CallU_of (f := 15) (hS) (by first | exact Or.inr (Or.inl rfl) | exact Or.inl rfl) ?_
  | with_reducible refine CallC_of (f := 15) (fun _ => hS) (by first | exact Or.inr (Or.inl rfl) | exact Or.inl rfl) ?_
  | with_reducible refine CallU_of (f := 16) (offers_fn n hsm l (by omega) e) (by first | exact Or.inr (Or.inl rfl) | exact Or.inl rfl) ?_
  | with_reducible refine CallC_of (f := 16) (fun _ => offers_fn n hsm l (by omega) e) (by first | exact Or.inr (Or.inl rfl) | exact Or.inl rfl) ?_
  | with_reducible refine CallU_of (f := 17) (lawOffers_fn n hsm l (by omega) e) (by first | exact Or.inr (Or.inl rfl) | exact Or.inl rfl) ?_
  | with_reducible refine CallC_of (f := 17) (fun _ => lawOffers_fn n hsm l (by omega) e) (by first | exact Or.inr (Or.inl rfl) | exact Or.inl rfl) ?_
  | with_reducible refine CallU_of (f := 18) (fixed_fn n e) (by first | exact Or.inr (Or.inl rfl) | exact Or.inl rfl) ?_
  | with_reducible refine CallC_of (f := 18) (fun _ => fixed_fn n e) (by first | exact Or.inr (Or.inl rfl) | exact Or.inl rfl) ?_
  | with_reducible refine CallU_of (f := 19) (lawFixed_fn n e) (by first | exact Or.inr (Or.inl rfl) | exact Or.inl rfl) ?_
  | with_reducible refine CallC_of (f := 19) (fun _ => lawFixed_fn n e) (by first | exact Or.inr (Or.inl rfl) | exact Or.inl rfl) ?_
  | with_reducible refine CallU_of (f := 21) (choice_fn n hsm l (by omega) e) (by first | exact Or.inr (Or.inl rfl) | exact Or.inl rfl) ?_
  | with_reducible refine CallC_of (f := 21) (fun _ => choice_fn n hsm l (by omega) e) (by first | exact Or.inr (Or.inl rfl) | exact Or.inl rfl) ?_
  | with_reducible refine CallU_of (f := 22) (lawChoice_fn n hsm l (by omega) e) (by first | exact Or.inr (Or.inl rfl) | exact Or.inl rfl) ?_
  | with_reducible refine CallC_of (f := 22) (fun _ => lawChoice_fn n hsm l (by omega) e) (by first | exact Or.inr (Or.inl rfl) | exact Or.inl rfl) ?_
  | with_reducible refine CallU_of (f := 20) (same_fn (n.choice l e) (n.choice l e)) (by first | exact Or.inr (Or.inl rfl) | exact Or.inl rfl) ?_
  | with_reducible refine CallC_of (f := 20) (fun _ => same_fn (n.choice l e) (n.choice l e)) (by first | exact Or.inr (Or.inl rfl) | exact Or.inl rfl) ?_
  | with_reducible refine CallU_of (f := 23) (may_fn n hsm.ok) (by first | exact Or.inr (Or.inl rfl) | exact Or.inl rfl) ?_
  | with_reducible refine CallC_of (f := 23) (fun _ => may_fn n hsm.ok) (by first | exact Or.inr (Or.inl rfl) | exact Or.inl rfl) ?_
  | (with_reducible assumption)
  | with_reducible refine fun (hG : okL _) => ?_
  | (with_reducible refine fun (hT : (_ : Bool) = _) => ?_)
  | (with_reducible first | exact hG.2 | exact hG.2.2 | exact hG.2.2.2 | exact hG.2.2.2.2)
  | with_reducible refine okL_mk ?_ ?_
  | with_reducible refine And.intro ?_ ?_
  | (with_reducible refine awp_loopU (b := f3p18) (fun y : Nat => y ≤ 2) (fun y => 2 - y) (fun y => [(46, .d (.v (.int .i64 y)))]) (fun y => []) (0) (Nat.zero_le _) (Wk.refl _ _) (Wk_sub rfl rfl ?_ ?_) (fun y hy => ?_))
  | (refine Exists.elim (at_drop iD [IntKind.i64.wrap k, Int.tmod (IntKind.i64.wrap (IntKind.u8.wrap k)) (if (n.origin.length : Int) > 1 then (n.origin.length : Int) else 1)] y (Int.ofNat_lt.1 (of_decide_eq_true (show decide ((y : Int) < (2 : Int)) = true from hc)))) (fun e he => ?_); have g1 : List.getD [[D.v (.int .i64 (IntKind.i64.wrap k))], [D.v (.int .i64 (Int.tmod (IntKind.i64.wrap (IntKind.u8.wrap k)) (if (n.origin.length : Int) > 1 then (n.origin.length : Int) else 1)))]] (Int.toNat (y : Int)) [] = iD e := he.2.1; have hy2 : y < 2 := he.2.2.2; replace hc : True := trivial)
  | (with_reducible refine awp_loopU (b := f3p11) (fun z : Nat × Unit => z.1 ≤ (n.offers l e).length) (fun z => (n.offers l e).length - z.1) (fun z => [(86, .d (.v (.int .i64 z.1)))]) (fun z => []) ((0, ())) (Nat.zero_le _) (Wk.refl _ _) (Wk_sub rfl rfl ?_ ?_) (fun z hz => ?_))
  | (refine Exists.elim (at_drop Attr.row (n.offers l e) z.1 (Int.ofNat_lt.1 (of_decide_eq_true (show decide ((z.1 : Int) < ((n.offers l e).length : Int)) = true from hc)))) (fun a ha => ?_); have g2 := ha.2.1; replace hc : True := trivial)
  | (with_reducible refine loopQ_next ((z.1 + 1, ())) ?_ ?_ (Wk_sub rfl rfl ?_ ?_))
  | (with_reducible refine loopQ_next (y + 1) ?_ ?_ (Wk_sub rfl rfl ?_ ?_))
  | simp only [f3r0, f3r1, f3r2, f3r3, f3r4, f3r5, f3r6, f3r7, f3r8, f3r9, f3r10, f3r11, f3r12, f3r13, f3r14, f3r15, f3r16, f3r17, f3r18, f3r19, f3r20, g2, g1, f3k, te33, te36, te25, List.length_map, List.getElem?_cons_zero, List.getElem?_cons_succ, runG_nil, runG_u, runG_g, runG_ucS, runG_gcS, stp, evs, evX, lget, lput, strip, putO, PO.dst, updO, okR, cells, splice, AV.cell, toD, toDs, binV, sameK, pickV, guardOf, okL_nil, sides, argsOf, rawOf, dv, dvL, owns, ownsL, flat, flatL, lkeep, seqQ, blockQ, initS, List.drop_succ_cons, List.drop_zero, List.take_succ_cons, List.take_zero, List.getD_cons_zero, List.getD_cons_succ, List.length_cons, List.length_nil, List.set_cons_zero, List.set_cons_succ, List.map_cons, List.map_nil, List.all_cons, List.all_nil, List.elem_cons, List.elem_nil, Option.getD_some, Option.getD_none, Option.bind_some, Option.isNone_none, reduceIte, reduceCtorEq, Nat.reduceEqDiff, Nat.reduceAdd, Nat.reduceLeDiff, Nat.zero_add, Nat.add_zero, Nat.reduceBEq, Bool.and_self, Bool.and_true, Bool.true_and, Bool.or_self, Bool.or_false, Bool.false_or, Bool.or_true, Bool.true_or, true_and, and_true, and_self, implies_true, forall_const, Bool.false_eq_true, id_eq, retQ, resOf, resV, Option.some.injEq, exists_eq_left', AV.d.injEq, D.v.injEq, Value.bool.injEq, imp_self, bldF, bldS, toVals, eqLs, Option.map_some, imp_false, not_true_eq_false, not_false_eq_true, foot, wrs, nm, nmL, PG.reads, PG.dst, PO.reads, X.sl, sls, slB, List.append_nil, List.cons_append, List.nil_append, Option.toList_some, Option.toList_none, loopQ_exit, loopQ_ret, subS, subO, Bool.bne_false, Bool.bne_true, elemsOf, bslD, bslS, mentries, isAgV, asA, lputs, mgetD_set, mcmp_set, mput_set, List.headD_cons, sealS, sealO, sealV, sealL, mput_nil, mcmp_nil, midQ_ret, midQ_exit, sealsS, sealsO, runW_nil, runW_cons, Bool.true_bne, Bool.false_bne, bne_self_eq_false, Int.reduceToNat, bndV, oSl, resR, runS_nil, runS_gc]
  | simp only [f3r0, f3r1, f3r2, f3r3, f3r4, f3r5, f3r6, f3r7, f3r8, f3r9, f3r10, f3r11, f3r12, f3r13, f3r14, f3r15, f3r16, f3r17, f3r18, f3r19, f3r20, g1, f3k, te33, te36, te25, List.length_map, List.getElem?_cons_zero, List.getElem?_cons_succ, runG_nil, runG_u, runG_g, runG_ucS, runG_gcS, stp, evs, evX, lget, lput, strip, putO, PO.dst, updO, okR, cells, splice, AV.cell, toD, toDs, binV, sameK, pickV, guardOf, okL_nil, sides, argsOf, rawOf, dv, dvL, owns, ownsL, flat, flatL, lkeep, seqQ, blockQ, initS, List.drop_succ_cons, List.drop_zero, List.take_succ_cons, List.take_zero, List.getD_cons_zero, List.getD_cons_succ, List.length_cons, List.length_nil, List.set_cons_zero, List.set_cons_succ, List.map_cons, List.map_nil, List.all_cons, List.all_nil, List.elem_cons, List.elem_nil, Option.getD_some, Option.getD_none, Option.bind_some, Option.isNone_none, reduceIte, reduceCtorEq, Nat.reduceEqDiff, Nat.reduceAdd, Nat.reduceLeDiff, Nat.zero_add, Nat.add_zero, Nat.reduceBEq, Bool.and_self, Bool.and_true, Bool.true_and, Bool.or_self, Bool.or_false, Bool.false_or, Bool.or_true, Bool.true_or, true_and, and_true, and_self, implies_true, forall_const, Bool.false_eq_true, id_eq, retQ, resOf, resV, Option.some.injEq, exists_eq_left', AV.d.injEq, D.v.injEq, Value.bool.injEq, imp_self, bldF, bldS, toVals, eqLs, Option.map_some, imp_false, not_true_eq_false, not_false_eq_true, foot, wrs, nm, nmL, PG.reads, PG.dst, PO.reads, X.sl, sls, slB, List.append_nil, List.cons_append, List.nil_append, Option.toList_some, Option.toList_none, loopQ_exit, loopQ_ret, subS, subO, Bool.bne_false, Bool.bne_true, elemsOf, bslD, bslS, mentries, isAgV, asA, lputs, mgetD_set, mcmp_set, mput_set, List.headD_cons, sealS, sealO, sealV, sealL, mput_nil, mcmp_nil, midQ_ret, midQ_exit, sealsS, sealsO, runW_nil, runW_cons, Bool.true_bne, Bool.false_bne, bne_self_eq_false, Int.reduceToNat, bndV, oSl, resR, runS_nil, runS_gc]
  | simp only [f3r0, f3r1, f3r2, f3r3, f3r4, f3r5, f3r6, f3r7, f3r8, f3r9, f3r10, f3r11, f3r12, f3r13, f3r14, f3r15, f3r16, f3r17, f3r18, f3r19, f3r20, f3k, te33, te36, te25, List.length_map, List.getElem?_cons_zero, List.getElem?_cons_succ, runG_nil, runG_u, runG_g, runG_ucS, runG_gcS, stp, evs, evX, lget, lput, strip, putO, PO.dst, updO, okR, cells, splice, AV.cell, toD, toDs, binV, sameK, pickV, guardOf, okL_nil, sides, argsOf, rawOf, dv, dvL, owns, ownsL, flat, flatL, lkeep, seqQ, blockQ, initS, List.drop_succ_cons, List.drop_zero, List.take_succ_cons, List.take_zero, List.getD_cons_zero, List.getD_cons_succ, List.length_cons, List.length_nil, List.set_cons_zero, List.set_cons_succ, List.map_cons, List.map_nil, List.all_cons, List.all_nil, List.elem_cons, List.elem_nil, Option.getD_some, Option.getD_none, Option.bind_some, Option.isNone_none, reduceIte, reduceCtorEq, Nat.reduceEqDiff, Nat.reduceAdd, Nat.reduceLeDiff, Nat.zero_add, Nat.add_zero, Nat.reduceBEq, Bool.and_self, Bool.and_true, Bool.true_and, Bool.or_self, Bool.or_false, Bool.false_or, Bool.or_true, Bool.true_or, true_and, and_true, and_self, implies_true, forall_const, Bool.false_eq_true, id_eq, retQ, resOf, resV, Option.some.injEq, exists_eq_left', AV.d.injEq, D.v.injEq, Value.bool.injEq, imp_self, bldF, bldS, toVals, eqLs, Option.map_some, imp_false, not_true_eq_false, not_false_eq_true, foot, wrs, nm, nmL, PG.reads, PG.dst, PO.reads, X.sl, sls, slB, List.append_nil, List.cons_append, List.nil_append, Option.toList_some, Option.toList_none, loopQ_exit, loopQ_ret, subS, subO, Bool.bne_false, Bool.bne_true, elemsOf, bslD, bslS, mentries, isAgV, asA, lputs, mgetD_set, mcmp_set, mput_set, List.headD_cons, sealS, sealO, sealV, sealL, mput_nil, mcmp_nil, midQ_ret, midQ_exit, sealsS, sealsO, runW_nil, runW_cons, Bool.true_bne, Bool.false_bne, bne_self_eq_false, Int.reduceToNat, bndV, oSl, resR, runS_nil, runS_gc]
  all_goals try first
    | omega
    | (with_reducible rfl)
    | (show Value.int _ 0 = _; rfl)
    | (simp only [List.length_append, List.length_cons, List.length_nil]; omega)
    | (simp only [List.length_append, List.length_cons, List.length_nil, List.map_append, List.map_cons, List.map_nil]; done)
    | (split <;> omega)
    | exact count64 ha.2.2.2 (by have := Net.offers_len hsm l e; omega)
    | exact count64 (n := 2) hy2 (by omega)
    | (simp [sameA_refl] at hc; done)
    | (rw [hmay]; done)
  all_goals trace_state
theorem schoice_as (av : List AV) (h : dArgs te 8 [25, 5, 26, 27] av) : FnS Try.prog 3 av (.d (.v (.bool true))) := by
  obtain ⟨x, _, rfl, hx, y, _, rfl, hy, z, _, rfl, hz, u, _, rfl, hu, rfl⟩ := h
  obtain ⟨sh, rfl, hs⟩ := shape_of (n := 3) hx
  obtain ⟨w, rfl, hw⟩ := u8_row (n := 7) hy
  obtain ⟨ns, rfl, hns⟩ := u16s_of (n := 6) hz
  obtain ⟨k, rfl, _⟩ := i8_row (n := 7) hu
  cases hx : sh.netV w with
  | none => exact schoice_none sh hs w hw ns k hx
  | some x => exact schoice_some sh hs w hw ns hns k x hx

set_option maxRecDepth 100000 in
theorem stableChoice_lifted (os : Os) (started : os.Started) (H : Type) (enc : TypeId × Value → H) :
    ReturnsInHanded {} Try.checked os 3 .any (Rows.stableChoiceSpec.pre6 enc Try.prog Try.f3 Rows.stableChoiceRow.domain false) (Rows.stableChoiceSpec.post enc Try.prog Try.f3 false true false false) := by
  refine returnsInHanded_of_change (C := Try.checked) own started (by kernel_rfl) Try.func3
    (ChangeSpec.witness6 (enc := enc) (C := Try.checked) false ⟨#[], #[.agg #[.int .u8 0, .slice none 0 0, .slice none 0 0, .slice none 0 0, .slice none 0 0, .slice none 0 0], .int .u8 0, .slice none 0 0, .int .i8 0], []⟩ 8 (by kernel_rfl) (by kernel_rfl) (by kernel_rfl) (by kernel_rfl)) ?_
  intro W base args ds gs before hval hW hcnd _
  have hp : Try.f3.params.toList = [25, 5, 26, 27] := by kernel_rfl
  refine law_calls (n := 8) (b := 4) laidOut (by rw [hp]; exact List.forall_mem_cons.2 ⟨⟨by kernel_rfl, of_decide_eq_true (by kernel_rfl)⟩, List.forall_mem_cons.2 ⟨⟨by kernel_rfl, of_decide_eq_true (by kernel_rfl)⟩, List.forall_mem_cons.2 ⟨⟨by kernel_rfl, of_decide_eq_true (by kernel_rfl)⟩, List.forall_mem_cons.2 ⟨⟨by kernel_rfl, of_decide_eq_true (by kernel_rfl)⟩, (by simp)⟩⟩⟩⟩) (by rw [hp]; exact List.forall_mem_cons.2 ⟨by kernel_rfl, List.forall_mem_cons.2 ⟨by kernel_rfl, List.forall_mem_cons.2 ⟨by kernel_rfl, List.forall_mem_cons.2 ⟨by kernel_rfl, (by simp)⟩⟩⟩⟩) rfl (by kernel_rfl) (by kernel_rfl) (fun ds hd => ?_) hval hW (fun av h => schoice_as av (argsT_d teok _ _ _ (by rw [hp]; exact List.forall_mem_cons.2 ⟨rfl, List.forall_mem_cons.2 ⟨rfl, List.forall_mem_cons.2 ⟨rfl, List.forall_mem_cons.2 ⟨rfl, (by simp)⟩⟩⟩⟩) h |> (hp ▸ ·)))
  have hd : ds.length = 4 := hd
  match ds, hd with
  | [_, _, _, _], _ => rfl
theorem stableChoice_holds : Rows.StableChoiceSaid :=
  OpenClaim.holds_of_wide 3 Try.f3 rfl rfl rfl rfl rfl rfl rfl ⟨rfl, rfl, rfl, rfl, rfl⟩ rfl rfl rfl rfl rfl (by kernel_rfl) Try.func3 (by kernel_rfl)
    (of_decide_eq_true (by kernel_rfl)) (by unfold Func.isWrapper; first | (rw [if_pos (by decide +kernel)]; kernel_rfl) | (rw [if_neg (by decide +kernel)]; exact ⟨rfl, rfl⟩))
    (fun os started H enc _ => stableChoice_lifted os started H enc)
end Go.Proofs.Ytajkgmmmkhekmaa
