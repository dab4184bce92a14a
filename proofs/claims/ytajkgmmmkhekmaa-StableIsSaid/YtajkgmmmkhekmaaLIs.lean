/- The law StableIs: whatever the input, it returns true and changes nothing. Printed by a program of this project (wip/mq). -/
import Derived.Test.YtajkgmmmkhekmaaNetF
import Derived.Test.YtajkgmmmkhekmaaMqPl10
import Derived.Test.YtajkgmmmkhekmaaSome
import Derived.Test.YtajkgmmmkhekmaaAwk15
import Derived.Test.YtajkgmmmkhekmaaArgs
namespace Go.Proofs.Ytajkgmmmkhekmaa
open Go Mq Go.ChangeShapes Go.WideShapes Go.ChangeAt Go.RowKit
/-! maquette/maquettelaw15.StableIs -/
def f4r0 : List PG := [.u (.bx 4 (.t 0)), .u (.mv 8 (.k (.bool false)))]
def f4r1 : List PG := [.uc 17 13 [], .u (.no 18 (.t 17))]
def f4r2 : List PG := [.u (.mv 8 (.k (.bool false)))]
abbrev f4p0 : PC := .seq (.reg f4r2) (.ret)
abbrev f4p1 : PC := .cond (.t 18) (f4p0) (.skip)
def f4r3 : List PG := [.u (.ld 20 6 true (.t 4)), .u (.mv 21 (.t 1)), .uc 22 14 [.t 20, .t 21], .u (.mv 19 (.t 22)), .u (.ext 23 (.t 19) 0), .u (.ext 24 (.t 19) 1), .u (.ext 25 (.t 19) 2), .u (.al 9 [.nl 1, .nl 1, .nl 1]), .u (.al 10 [.d (.v (.int .u32 0)), .d (.v (.int .i64 0))]), .u (.st 3 (.t 9) (.t 23)), .u (.st 2 (.t 10) (.t 24)), .u (.mv 11 (.t 25))]
def f4r4 : List PG := [.u (.mv 26 (.t 11)), .u (.no 27 (.t 26))]
def f4r5 : List PG := [.u (.mv 8 (.k (.bool true)))]
abbrev f4p2 : PC := .seq (.reg f4r5) (.ret)
abbrev f4p3 : PC := .cond (.t 27) (f4p2) (.skip)
def f4r6 : List PG := [.u (.mv 28 (.t 2)), .u (.fa 29 0 (.t 9)), .u (.ld 30 1 false (.t 29)), .u (.len 31 (.t 30)), .uc 32 15 [.t 28, .t 31], .u (.mv 12 (.t 32))]
def f4r7 : List PG := [.u (.mv 13 (.k (.int .i64 0)))]
def f4r8 : List PG := [.u (.mv 33 (.t 13)), .u (.bo 34 .lss (.t 33) (.k (.int .i64 12)))]
abbrev f4p4 : PC := .cond (.t 34) (.skip) (.exit 0)
def f4r9 : List PG := [.u (.mv 14 (.k (.bool true)))]
def f4r10 : List PG := [.u (.mv 37 (.t 12)), .u (.len 38 (.t 37)), .u (.mv 39 (.k (.int .i64 0)))]
def f4r11 : List PG := [.u (.bo 40 .lss (.t 39) (.t 38))]
def f4r12 : List PG := [.u (.mv 41 (.t 39)), .u (.mv 15 (.t 41))]
def f4r13 : List PG := [.u (.mv 42 (.t 14)), .u (.mv 43 (.t 42)), .g 43 true (.mv 44 (.t 12)), .g 43 true (.mv 45 (.t 15)), .g 43 true (.ia 46 4 (.t 44) (.t 45)), .g 43 true (.ld 47 4 true (.t 46)), .g 43 true (.ld 48 3 true (.t 9)), .g 43 true (.mv 49 (.t 12)), .g 43 true (.mv 50 (.t 15)), .gc 43 true 51 22 [.t 48, .t 49, .t 50], .gc 43 true 52 20 [.t 47, .t 51], .u (.pick 53 (.t 43) (.t 52) (.k (.bool false))), .u (.mv 14 (.t 53))]
def f4r14 : List PG := [.u (.bo 54 .add (.t 39) (.k (.int .i64 1))), .u (.mv 39 (.t 54))]
abbrev f4p5 : PC := .seq (.block 3 (.seq (.reg f4r12) (.regD f4r13 []))) (.reg f4r14)
abbrev f4p6 : PC := .seq (.cond (.t 40) (.skip) (.exit 2)) (f4p5)
abbrev f4p7 : PC := .seq (.reg f4r11) (f4p6)
abbrev f4p8 : PC := .block 2 (.loop (f4p7))
def f4r15 : List PG := [.u (.ld 55 3 true (.t 9)), .u (.mv 56 (.t 12)), .uc 57 24 [.t 55, .t 56], .u (.mv 58 (.t 14)), .u (.beq 59 true true (.t 57) (.t 58)), .u (.mv 60 (.t 59)), .g 60 false (.ld 61 3 true (.t 9)), .g 60 false (.mv 62 (.t 12)), .g 60 false (.app 63 45 4 32 (.nl 4) (.t 62)), .g 60 false (.bld 64 [.d (.v (.bool false)), .d (.v (.int .i64 0)), .d (.v (.int .i64 0)), .d (.v (.int .u8 0))] []), .g 60 false (.bsl 65 45 4 [.t 64]), .g 60 false (.app 66 45 4 32 (.t 63) (.t 65)), .gc 60 false 67 24 [.t 61, .t 66], .u (.pick 68 (.t 60) (.k (.bool true)) (.t 67))]
def f4r16 : List PG := [.u (.mv 8 (.k (.bool false)))]
abbrev f4p9 : PC := .seq (.reg f4r16) (.ret)
abbrev f4p10 : PC := .cond (.t 68) (f4p9) (.skip)
def f4r17 : List PG := [.u (.mv 69 (.t 3)), .u (.cv 70 .i64 (.t 69)), .u (.mv 71 (.t 13)), .u (.bo 72 .add (.t 70) (.t 71)), .u (.mv 73 (.t 12)), .u (.len 74 (.t 73)), .u (.bo 75 .rem (.t 72) (.t 74)), .u (.mv 16 (.t 75))]
def f4r18 : List PG := [.u (.mv 76 (.t 12)), .u (.mv 77 (.t 16)), .u (.ld 78 3 true (.t 9)), .u (.mv 79 (.t 12)), .u (.mv 80 (.t 16)), .uc 81 22 [.t 78, .t 79, .t 80], .u (.ia 82 4 (.t 76) (.t 77)), .u (.st 4 (.t 82) (.t 81))]
abbrev f4p11 : PC := .seq (.reg f4r17) (.reg f4r18)
abbrev f4p12 : PC := .seq (.seq (.regD f4r15 [(6, 8), (8, 9), (6, 10), (7, 10), (8, 10), (6, 11)]) (f4p10)) (f4p11)
abbrev f4p13 : PC := .seq (.seq (.reg f4r10) (f4p8)) (f4p12)
def f4r19 : List PG := [.u (.mv 35 (.t 13)), .u (.bo 36 .add (.t 35) (.k (.int .i64 1))), .u (.mv 13 (.t 36))]
abbrev f4p14 : PC := .seq (.block 1 (.seq (.reg f4r9) (f4p13))) (.reg f4r19)
abbrev f4p15 : PC := .seq (.seq (.reg f4r8) (f4p4)) (f4p14)
abbrev f4p16 : PC := .block 0 (.loop (f4p15))
def f4r20 : List PG := [.u (.mv 8 (.k (.bool true)))]
abbrev f4p17 : PC := .seq (.reg f4r20) (.ret)
abbrev f4p18 : PC := .seq (.seq (.reg f4r7) (f4p16)) (f4p17)
abbrev f4p19 : PC := .seq (.reg f4r6) (f4p18)
abbrev f4p20 : PC := .seq (.seq (.reg f4r4) (f4p3)) (f4p19)
abbrev f4p21 : PC := .seq (.reg f4r3) (f4p20)
abbrev f4p22 : PC := .seq (.seq (.reg f4r1) (f4p1)) (f4p21)
abbrev f4pc : PC := .seq (.reg f4r0) (f4p22)
def f4k : List Nat := [0, 1, 2, 3, 4, 8, 9, 11, 12, 13, 14, 15, 16, 18, 27, 34, 38, 39, 40, 68]
theorem f4c : Try.f4.body.bind (cC te Try.f4.ntmps) = some f4pc := by kernel_rfl
set_option maxRecDepth 20000
set_option maxHeartbeats 4000000
set_option linter.unusedSimpArgs false
set_option linter.unusedVariables false

theorem is_longer (n : Net) (hn : n.small) (l : List Attr) (hl : l.length ≤ 100) (hlN : l.length = n.origin.length) : FnS Try.prog 24 [n.av, .d (.sl 4 (l.map Attr.row ++ [[.v (.bool false), .v (.int .i64 0), .v (.int .i64 0), .v (.int .u8 0)]]))] (.d (.v (.bool false))) := by
  have h := is_fn n hn (l ++ [attr0]) (by simp; omega)
  rw [isV_longer hlN, List.map_append] at h
  exact h
theorem same_fn5 (a b : Attr) : FnS Try.prog 20 [.ag [.d (.v (.bool a.ok)), .d (.v (.int .i64 a.pref)), .d (.v (.int .i64 a.cost)), .d (.v (.int .u8 a.tags))], .ag [.d (.v (.bool b.ok)), .d (.v (.int .i64 b.pref)), .d (.v (.int .i64 b.cost)), .d (.v (.int .u8 b.tags))]] (.d (.v (.bool (sameA a b)))) := same_fn a b

theorem stableIs_none (sh : Shape) (hs : sh.ok) (w : Int) (hw : 0 ≤ w ∧ w ≤ 255)(ns : List Int) (q : Int) (hx : sh.netV w = none) : FnS Try.prog 4 [sh.av, .d (.v (.int .u8 w)), .d (.sl 1 (ns.map wD)), .d (.v (.int .u8 q))] (.d (.v (.bool true))) := by
  have hN := netOfF_fn sh hs w hw
  rw [hx] at hN
  simp only [netA] at hN
  refine fn_of teok Try.func4 (by kernel_rfl) f4c f4k [.tmp 8] rfl (by show 4 ≤ 83; omega) ?_
  repeat' first
  | (exact absurd hc (by decide))
  | with_reducible refine awp_seq ?_
  | with_reducible refine awp_block ?_
  | with_reducible refine awp_reg ?_
  | with_reducible refine awp_regD ?_
  | with_reducible refine awp_ret ?_
  | with_reducible refine awp_skip ?_
  | with_reducible refine awp_exit ?_
  | with_reducible refine normQ_of ?_
  | with_reducible refine wkE_of ?_
  | with_reducible refine midQ_of (Wk_sub rfl rfl ?_ ?_)
  | with_reducible refine runD_nil ?_
  | with_reducible refine runD_cons ?_
  | with_reducible refine runF_cons ?_
  | with_reducible refine runF_nil ?_
  | with_reducible refine KF_of ?_
  | with_reducible refine chkQ_of rfl ?_
  | with_reducible refine awp_cond (by simp only [evX, lget, Option.getD_some, reduceIte, Nat.reduceEqDiff]; rfl) (fun hc => ?_) (fun hc => ?_)
  | with_reducible refine CallU_of (f := 13) (awake15_fn) (by first | exact Or.inr (Or.inl rfl) | exact Or.inl rfl) ?_
  | with_reducible refine CallC_of (f := 13) (fun _ => awake15_fn) (by first | exact Or.inr (Or.inl rfl) | exact Or.inl rfl) ?_
  | with_reducible refine CallU_of (f := 14) (hN) (by first | exact Or.inr (Or.inl rfl) | exact Or.inl rfl) ?_
  | with_reducible refine CallC_of (f := 14) (fun _ => hN) (by first | exact Or.inr (Or.inl rfl) | exact Or.inl rfl) ?_
  | (with_reducible assumption)
  | with_reducible refine fun (hG : okL _) => ?_
  | (with_reducible refine fun (hT : (_ : Bool) = _) => ?_)
  | (with_reducible first | exact hG.2 | exact hG.2.2 | exact hG.2.2.2 | exact hG.2.2.2.2)
  | with_reducible refine okL_mk ?_ ?_
  | with_reducible refine And.intro ?_ ?_
  | simp only [f4r0, f4r1, f4r2, f4r3, f4r4, f4r5, f4r6, f4r7, f4r8, f4r9, f4r10, f4r11, f4r12, f4r13, f4r14, f4r15, f4r16, f4r17, f4r18, f4r19, f4r20, f4k, te33, te36, te25, List.getElem?_cons_zero, List.getElem?_cons_succ, runG_nil, runG_u, runG_g, runG_ucS, runG_gcS, runG_uvS, stp, avL, avS, evs, evX, lget, lput, strip, putO, PO.dst, updO, okR, cells, splice, AV.cell, toD, toDs, binV, sameK, pickV, guardOf, okL_nil, sides, argsOf, rawOf, dv, dvL, owns, ownsL, flat, flatL, lkeep, seqQ, blockQ, initS, List.drop_succ_cons, List.drop_zero, List.take_succ_cons, List.take_zero, List.getD_cons_zero, List.getD_cons_succ, List.length_cons, List.length_nil, List.set_cons_zero, List.set_cons_succ, List.map_cons, List.map_nil, List.all_cons, List.all_nil, List.elem_cons, List.elem_nil, Option.getD_some, Option.getD_none, Option.bind_some, Option.isNone_none, reduceIte, reduceCtorEq, Nat.reduceEqDiff, Nat.reduceAdd, Nat.reduceLeDiff, Nat.zero_add, Nat.add_zero, Nat.reduceBEq, Bool.and_self, Bool.and_true, Bool.true_and, Bool.or_self, Bool.or_false, Bool.false_or, Bool.or_true, Bool.true_or, true_and, and_true, and_self, implies_true, forall_const, Bool.false_eq_true, id_eq, retQ, resOf, resV, Option.some.injEq, exists_eq_left', AV.d.injEq, D.v.injEq, Value.bool.injEq, imp_self, bldF, bldS, toVals, eqLs, Option.map_some, imp_false, not_true_eq_false, not_false_eq_true, foot, wrs, nm, nmL, PG.reads, PG.dst, PO.reads, X.sl, sls, slB, List.append_nil, List.cons_append, List.nil_append, Option.toList_some, Option.toList_none, loopQ_exit, loopQ_ret, subS, subO, Bool.bne_false, Bool.bne_true, elemsOf, bslD, bslS, mentries, isAgV, asA, lputs, mgetD_set, mcmp_set, mput_set, List.headD_cons, sealS, sealO, sealV, sealL, mput_nil, mcmp_nil, midQ_ret, midQ_exit, sealsS, sealsO, runW_nil, runW_cons, Bool.true_bne, Bool.false_bne, bne_self_eq_false, Int.reduceToNat, bndV, oSl, resR, runS_nil, runS_gc, ren, renL, renO, sg, gBack]
  all_goals first
    | rfl
    | decide
    | trace_state
theorem stableIs_some (sh : Shape) (hs : sh.ok) (w : Int) (hw : 0 ≤ w ∧ w ≤ 255)(ns : List Int) (q : Int) (n : Net) (p : Int × Int) (hx : sh.netV w = some (n, p)) (hns : B16 ns) (hq : 0 ≤ q ∧ q ≤ 255) : FnS Try.prog 4 [sh.av, .d (.v (.int .u8 w)), .d (.sl 1 (ns.map wD)), .d (.v (.int .u8 q))] (.d (.v (.bool true))) := by
  have hm : maxLen = 9223372036854775807 := rfl
  have hN := netOfF_fn sh hs w hw
  rw [hx] at hN
  simp only [netA] at hN
  obtain ⟨hsm, hmay, m, hnl, hn0⟩ := net_facts hx
  simp only at hsm hmay m hnl hn0
  have hS := some_fnG ns hns n.origin.length (by omega)
  have hll := someV_len ns n.origin.length
  generalize someV ns n.origin.length = l0 at hS hll
  have gq : IntKind.i64.wrap q = q := wrapI64 _ (by omega) (by omega)
  refine fn_of teok Try.func4 (by kernel_rfl) f4c f4k [.tmp 8] rfl (by show 4 ≤ 83; omega) ?_
  repeat' first
  | (exact absurd hc (by decide))
  | (with_reducible refine awp_sc (l := f4r6) [(4, .gc [] [] [(8, 8032)])] ?_; unfold f4r6)
  | with_reducible refine awp_seq ?_
  | with_reducible refine awp_block ?_
  | with_reducible refine awp_reg ?_
  | with_reducible refine awp_regD ?_
  | with_reducible refine awp_ret ?_
  | with_reducible refine awp_skip ?_
  | with_reducible refine awp_exit ?_
  | with_reducible refine normQ_of ?_
  | with_reducible refine wkE_of ?_
  | with_reducible refine midQ_of (Wk_sub rfl rfl ?_ ?_)
  | with_reducible refine runD_nil ?_
  | with_reducible refine runD_cons ?_
  | with_reducible refine runF_cons ?_
  | with_reducible refine runF_nil ?_
  | with_reducible refine KF_of ?_
  | with_reducible refine chkQ_of rfl ?_
  | with_reducible refine awp_cond (by simp only [evX, lget, Option.getD_some, reduceIte, Nat.reduceEqDiff]; rfl) (fun hc => ?_) (fun hc => ?_)
  | with_reducible refine gc_of (f := 15) (hS) ?_ rfl rfl rfl rfl (Or.inl rfl) ?_
  | with_reducible refine CallU_of (f := 13) (awake15_fn) (by first | exact Or.inr (Or.inl rfl) | exact Or.inl rfl) ?_
  | with_reducible refine CallC_of (f := 13) (fun _ => awake15_fn) (by first | exact Or.inr (Or.inl rfl) | exact Or.inl rfl) ?_
  | with_reducible refine CallU_of (f := 14) (hN) (by first | exact Or.inr (Or.inl rfl) | exact Or.inl rfl) ?_
  | with_reducible refine CallC_of (f := 14) (fun _ => hN) (by first | exact Or.inr (Or.inl rfl) | exact Or.inl rfl) ?_
  | with_reducible refine CallU_of (f := 22) (lawChoice_fn n hsm x.2 (by omega) y.1) (by first | exact Or.inr (Or.inl rfl) | exact Or.inl rfl) ?_
  | with_reducible refine CallC_of (f := 22) (fun _ => lawChoice_fn n hsm x.2 (by omega) y.1) (by first | exact Or.inr (Or.inl rfl) | exact Or.inl rfl) ?_
  | with_reducible refine CallU_of (f := 22) (lawChoice_fn n hsm x.2 (by omega) ((q + x.1).tmod n.origin.length)) (by first | exact Or.inr (Or.inl rfl) | exact Or.inl rfl) ?_
  | with_reducible refine CallC_of (f := 22) (fun _ => lawChoice_fn n hsm x.2 (by omega) ((q + x.1).tmod n.origin.length)) (by first | exact Or.inr (Or.inl rfl) | exact Or.inl rfl) ?_
  | with_reducible refine CallU_of (f := 20) (same_fn5 a (n.choice x.2 y.1)) (by first | exact Or.inr (Or.inl rfl) | exact Or.inl rfl) ?_
  | with_reducible refine CallC_of (f := 20) (fun _ => same_fn5 a (n.choice x.2 y.1)) (by first | exact Or.inr (Or.inl rfl) | exact Or.inl rfl) ?_
  | with_reducible refine CallU_of (f := 24) (is_fn n hsm x.2 (by omega)) (by first | exact Or.inr (Or.inl rfl) | exact Or.inl rfl) ?_
  | with_reducible refine CallC_of (f := 24) (fun _ => is_fn n hsm x.2 (by omega)) (by first | exact Or.inr (Or.inl rfl) | exact Or.inl rfl) ?_
  | with_reducible refine CallU_of (f := 24) (is_longer n hsm x.2 (by omega) hx.2) (by first | exact Or.inr (Or.inl rfl) | exact Or.inl rfl) ?_
  | with_reducible refine CallC_of (f := 24) (fun _ => is_longer n hsm x.2 (by omega) hx.2) (by first | exact Or.inr (Or.inl rfl) | exact Or.inl rfl) ?_
  | (with_reducible assumption)
  | with_reducible refine fun (hG : okL _) => ?_
  | (with_reducible refine fun (hT : (_ : Bool) = _) => ?_)
  | (with_reducible first | exact hG.2 | exact hG.2.2 | exact hG.2.2.2 | exact hG.2.2.2.2)
  | with_reducible refine okL_mk ?_ ?_
  | with_reducible refine And.intro ?_ ?_
  | (with_reducible refine awp_loopU (b := f4p15) (fun x : Nat × List Attr => x.1 ≤ 12 ∧ x.2.length = n.origin.length) (fun x => 12 - x.1) (fun x => [(13, .d (.v (.int .i64 x.1))), (12, .own 8032 0)]) (fun x => [(8032, .row 45 4 0 (x.2.map Attr.row))]) ((0, l0)) (⟨Nat.zero_le _, hll⟩) (Wk.refl _ _) (Wk_sub rfl rfl ?_ ?_) (fun x hx => ?_))
  | (have hlt : x.1 < 12 := (by have := of_decide_eq_true (show decide ((x.1 : Int) < 12) = true from hc); omega); have g0 := hx.2; replace hc : True := trivial)
  | (with_reducible refine awp_loopU (b := f4p7) (fun y : Nat × Unit => y.1 ≤ n.origin.length) (fun y => n.origin.length - y.1) (fun y => [(39, .d (.v (.int .i64 y.1))), (14, .d (.v (.bool (isW n x.2 y.1))))]) (fun y => []) ((0, ())) (Nat.zero_le _) (Wk.refl _ _) (Wk_sub rfl rfl ?_ ?_) (fun y hy => ?_))
  | (refine Exists.elim (at_drop Attr.row x.2 y.1 (by have := Int.ofNat_lt.1 (of_decide_eq_true (show decide ((y.1 : Int) < n.origin.length) = true from hc)); omega)) (fun a ha => ?_); have g1 := ha.2.1; replace hc : True := trivial)
  | (have hye : y.1 = n.origin.length := (by have h0 := of_decide_eq_false (show decide ((y.1 : Int) < n.origin.length) = false from hc); omega); have hw := isW_isV hx.2; have hv := tmod_at (v := q + x.1) (by omega) hn0; have g1 : isW n x.2 y.1 = n.isV x.2 := (by rw [hye, ← hx.2]; exact hw); have g2 := at_int Attr.row x.2 default hv.1 (by omega); have g3 : IntKind.i64.wrap (q + x.1) = q + x.1 := wrapI64 _ (by omega) (by omega); replace hc : True := trivial)
  | (with_reducible refine loopQ_next ((y.1 + 1, ())) ?_ ?_ (Wk_sub rfl rfl ?_ ?_))
  | (with_reducible refine loopQ_next (x.1 + 1, x.2.set ((q + x.1).tmod n.origin.length).toNat (n.choice x.2 ((q + x.1).tmod n.origin.length))) ?_ ?_ (Wk_sub rfl rfl ?_ ?_))
  | simp only [f4r0, f4r1, f4r2, f4r3, f4r4, f4r5, f4r7, f4r8, f4r9, f4r10, f4r11, f4r12, f4r13, f4r14, f4r15, f4r16, f4r17, f4r18, f4r19, f4r20, gq, g3, g2, f4k, te33, te36, te25, List.length_map, List.getElem?_cons_zero, List.getElem?_cons_succ, runG_nil, runG_u, runG_g, runG_ucS, runG_gcS, runG_uvS, stp, avL, avS, evs, evX, lget, lput, strip, putO, PO.dst, updO, okR, cells, splice, AV.cell, toD, toDs, binV, sameK, pickV, guardOf, okL_nil, sides, argsOf, rawOf, dv, dvL, owns, ownsL, flat, flatL, lkeep, seqQ, blockQ, initS, List.drop_succ_cons, List.drop_zero, List.take_succ_cons, List.take_zero, List.getD_cons_zero, List.getD_cons_succ, List.length_cons, List.length_nil, List.set_cons_zero, List.set_cons_succ, List.map_cons, List.map_nil, List.all_cons, List.all_nil, List.elem_cons, List.elem_nil, Option.getD_some, Option.getD_none, Option.bind_some, Option.isNone_none, reduceIte, reduceCtorEq, Nat.reduceEqDiff, Nat.reduceAdd, Nat.reduceLeDiff, Nat.zero_add, Nat.add_zero, Nat.reduceBEq, Bool.and_self, Bool.and_true, Bool.true_and, Bool.or_self, Bool.or_false, Bool.false_or, Bool.or_true, Bool.true_or, true_and, and_true, and_self, implies_true, forall_const, Bool.false_eq_true, id_eq, retQ, resOf, resV, Option.some.injEq, exists_eq_left', AV.d.injEq, D.v.injEq, Value.bool.injEq, imp_self, bldF, bldS, toVals, eqLs, Option.map_some, imp_false, not_true_eq_false, not_false_eq_true, foot, wrs, nm, nmL, PG.reads, PG.dst, PO.reads, X.sl, sls, slB, List.append_nil, List.cons_append, List.nil_append, Option.toList_some, Option.toList_none, loopQ_exit, loopQ_ret, subS, subO, Bool.bne_false, Bool.bne_true, elemsOf, bslD, bslS, mentries, isAgV, asA, lputs, mgetD_set, mcmp_set, mput_set, List.headD_cons, sealS, sealO, sealV, sealL, mput_nil, mcmp_nil, midQ_ret, midQ_exit, sealsS, sealsO, runW_nil, runW_cons, Bool.true_bne, Bool.false_bne, bne_self_eq_false, Int.reduceToNat, bndV, oSl, resR, runS_nil, runS_gc, ren, renL, renO, sg, gBack]
  | simp only [f4r0, f4r1, f4r2, f4r3, f4r4, f4r5, f4r7, f4r8, f4r9, f4r10, f4r11, f4r12, f4r13, f4r14, f4r15, f4r16, f4r17, f4r18, f4r19, f4r20, g1, g0, f4k, te33, te36, te25, List.length_map, List.getElem?_cons_zero, List.getElem?_cons_succ, runG_nil, runG_u, runG_g, runG_ucS, runG_gcS, runG_uvS, stp, avL, avS, evs, evX, lget, lput, strip, putO, PO.dst, updO, okR, cells, splice, AV.cell, toD, toDs, binV, sameK, pickV, guardOf, okL_nil, sides, argsOf, rawOf, dv, dvL, owns, ownsL, flat, flatL, lkeep, seqQ, blockQ, initS, List.drop_succ_cons, List.drop_zero, List.take_succ_cons, List.take_zero, List.getD_cons_zero, List.getD_cons_succ, List.length_cons, List.length_nil, List.set_cons_zero, List.set_cons_succ, List.map_cons, List.map_nil, List.all_cons, List.all_nil, List.elem_cons, List.elem_nil, Option.getD_some, Option.getD_none, Option.bind_some, Option.isNone_none, reduceIte, reduceCtorEq, Nat.reduceEqDiff, Nat.reduceAdd, Nat.reduceLeDiff, Nat.zero_add, Nat.add_zero, Nat.reduceBEq, Bool.and_self, Bool.and_true, Bool.true_and, Bool.or_self, Bool.or_false, Bool.false_or, Bool.or_true, Bool.true_or, true_and, and_true, and_self, implies_true, forall_const, Bool.false_eq_true, id_eq, retQ, resOf, resV, Option.some.injEq, exists_eq_left', AV.d.injEq, D.v.injEq, Value.bool.injEq, imp_self, bldF, bldS, toVals, eqLs, Option.map_some, imp_false, not_true_eq_false, not_false_eq_true, foot, wrs, nm, nmL, PG.reads, PG.dst, PO.reads, X.sl, sls, slB, List.append_nil, List.cons_append, List.nil_append, Option.toList_some, Option.toList_none, loopQ_exit, loopQ_ret, subS, subO, Bool.bne_false, Bool.bne_true, elemsOf, bslD, bslS, mentries, isAgV, asA, lputs, mgetD_set, mcmp_set, mput_set, List.headD_cons, sealS, sealO, sealV, sealL, mput_nil, mcmp_nil, midQ_ret, midQ_exit, sealsS, sealsO, runW_nil, runW_cons, Bool.true_bne, Bool.false_bne, bne_self_eq_false, Int.reduceToNat, bndV, oSl, resR, runS_nil, runS_gc, ren, renL, renO, sg, gBack]
  | simp only [f4r0, f4r1, f4r2, f4r3, f4r4, f4r5, f4r7, f4r8, f4r9, f4r10, f4r11, f4r12, f4r13, f4r14, f4r15, f4r16, f4r17, f4r18, f4r19, f4r20, g0, f4k, te33, te36, te25, List.length_map, List.getElem?_cons_zero, List.getElem?_cons_succ, runG_nil, runG_u, runG_g, runG_ucS, runG_gcS, runG_uvS, stp, avL, avS, evs, evX, lget, lput, strip, putO, PO.dst, updO, okR, cells, splice, AV.cell, toD, toDs, binV, sameK, pickV, guardOf, okL_nil, sides, argsOf, rawOf, dv, dvL, owns, ownsL, flat, flatL, lkeep, seqQ, blockQ, initS, List.drop_succ_cons, List.drop_zero, List.take_succ_cons, List.take_zero, List.getD_cons_zero, List.getD_cons_succ, List.length_cons, List.length_nil, List.set_cons_zero, List.set_cons_succ, List.map_cons, List.map_nil, List.all_cons, List.all_nil, List.elem_cons, List.elem_nil, Option.getD_some, Option.getD_none, Option.bind_some, Option.isNone_none, reduceIte, reduceCtorEq, Nat.reduceEqDiff, Nat.reduceAdd, Nat.reduceLeDiff, Nat.zero_add, Nat.add_zero, Nat.reduceBEq, Bool.and_self, Bool.and_true, Bool.true_and, Bool.or_self, Bool.or_false, Bool.false_or, Bool.or_true, Bool.true_or, true_and, and_true, and_self, implies_true, forall_const, Bool.false_eq_true, id_eq, retQ, resOf, resV, Option.some.injEq, exists_eq_left', AV.d.injEq, D.v.injEq, Value.bool.injEq, imp_self, bldF, bldS, toVals, eqLs, Option.map_some, imp_false, not_true_eq_false, not_false_eq_true, foot, wrs, nm, nmL, PG.reads, PG.dst, PO.reads, X.sl, sls, slB, List.append_nil, List.cons_append, List.nil_append, Option.toList_some, Option.toList_none, loopQ_exit, loopQ_ret, subS, subO, Bool.bne_false, Bool.bne_true, elemsOf, bslD, bslS, mentries, isAgV, asA, lputs, mgetD_set, mcmp_set, mput_set, List.headD_cons, sealS, sealO, sealV, sealL, mput_nil, mcmp_nil, midQ_ret, midQ_exit, sealsS, sealsO, runW_nil, runW_cons, Bool.true_bne, Bool.false_bne, bne_self_eq_false, Int.reduceToNat, bndV, oSl, resR, runS_nil, runS_gc, ren, renL, renO, sg, gBack]
  | simp only [f4r0, f4r1, f4r2, f4r3, f4r4, f4r5, f4r7, f4r8, f4r9, f4r10, f4r11, f4r12, f4r13, f4r14, f4r15, f4r16, f4r17, f4r18, f4r19, f4r20, f4k, te33, te36, te25, List.length_map, List.getElem?_cons_zero, List.getElem?_cons_succ, runG_nil, runG_u, runG_g, runG_ucS, runG_gcS, runG_uvS, stp, avL, avS, evs, evX, lget, lput, strip, putO, PO.dst, updO, okR, cells, splice, AV.cell, toD, toDs, binV, sameK, pickV, guardOf, okL_nil, sides, argsOf, rawOf, dv, dvL, owns, ownsL, flat, flatL, lkeep, seqQ, blockQ, initS, List.drop_succ_cons, List.drop_zero, List.take_succ_cons, List.take_zero, List.getD_cons_zero, List.getD_cons_succ, List.length_cons, List.length_nil, List.set_cons_zero, List.set_cons_succ, List.map_cons, List.map_nil, List.all_cons, List.all_nil, List.elem_cons, List.elem_nil, Option.getD_some, Option.getD_none, Option.bind_some, Option.isNone_none, reduceIte, reduceCtorEq, Nat.reduceEqDiff, Nat.reduceAdd, Nat.reduceLeDiff, Nat.zero_add, Nat.add_zero, Nat.reduceBEq, Bool.and_self, Bool.and_true, Bool.true_and, Bool.or_self, Bool.or_false, Bool.false_or, Bool.or_true, Bool.true_or, true_and, and_true, and_self, implies_true, forall_const, Bool.false_eq_true, id_eq, retQ, resOf, resV, Option.some.injEq, exists_eq_left', AV.d.injEq, D.v.injEq, Value.bool.injEq, imp_self, bldF, bldS, toVals, eqLs, Option.map_some, imp_false, not_true_eq_false, not_false_eq_true, foot, wrs, nm, nmL, PG.reads, PG.dst, PO.reads, X.sl, sls, slB, List.append_nil, List.cons_append, List.nil_append, Option.toList_some, Option.toList_none, loopQ_exit, loopQ_ret, subS, subO, Bool.bne_false, Bool.bne_true, elemsOf, bslD, bslS, mentries, isAgV, asA, lputs, mgetD_set, mcmp_set, mput_set, List.headD_cons, sealS, sealO, sealV, sealL, mput_nil, mcmp_nil, midQ_ret, midQ_exit, sealsS, sealsO, runW_nil, runW_cons, Bool.true_bne, Bool.false_bne, bne_self_eq_false, Int.reduceToNat, bndV, oSl, resR, runS_nil, runS_gc, ren, renL, renO, sg, gBack]
  all_goals try first
    | omega
    | (with_reducible rfl)
    | (show Value.int _ 0 = _; rfl)
    | (simp only [List.length_append, List.length_cons, List.length_nil]; omega)
    | (simp only [List.length_append, List.length_cons, List.length_nil, List.map_append, List.map_cons, List.map_nil]; done)
    | (simp only [List.length_set]; omega)
    | (simp only [List.length_map]; omega)
    | exact some_set _ _ _
    | (rw [some_set, Int.toNat_natCast]; done)
    | exact count64 (n := n.origin.length) (by have := ha.2.2.2; omega) (by omega)
    | exact count64 (n := 12) hlt (by omega)
    | (rw [isW_succ n x.2 y.1 a ha.2.2.1]; done)
    | (simp at hc; done)
    | (rw [g1] at hc; simp at hc; done)
    | rfl
    | (simp; done)
  all_goals trace_state

theorem stableIs_as (av : List AV) (h : dArgs te 8 [25, 5, 26, 5] av) : FnS Try.prog 4 av (.d (.v (.bool true))) := by
  obtain ⟨x, _, rfl, hx, y, _, rfl, hy, z, _, rfl, hz, u, _, rfl, hu, rfl⟩ := h
  obtain ⟨sh, rfl, hs⟩ := shape_of (n := 3) hx
  obtain ⟨w, rfl, hw⟩ := u8_row (n := 7) hy
  obtain ⟨ns, rfl, hns⟩ := u16s_of (n := 6) hz
  obtain ⟨q, rfl, hq⟩ := u8_row (n := 7) hu
  cases hx : sh.netV w with
  | none => exact stableIs_none sh hs w hw ns q hx
  | some x =>
    obtain ⟨n, p⟩ := x
    exact stableIs_some sh hs w hw ns q n p hx hns hq

set_option maxRecDepth 100000 in
theorem stableIs_lifted (os : Os) (started : os.Started) (H : Type) (enc : TypeId × Value → H) :
    ReturnsInHanded {} Try.checked os 4 .any (Rows.stableIsSpec.pre6 enc Try.prog Try.f4 Rows.stableIsRow.domain false) (Rows.stableIsSpec.post enc Try.prog Try.f4 false true false false) := by
  refine returnsInHanded_of_change (C := Try.checked) own started (by kernel_rfl) Try.func4
    (ChangeSpec.witness6 (enc := enc) (C := Try.checked) false ⟨#[], #[.agg #[.int .u8 0, .slice none 0 0, .slice none 0 0, .slice none 0 0, .slice none 0 0, .slice none 0 0], .int .u8 0, .slice none 0 0, .int .u8 0], []⟩ 8 (by kernel_rfl) (by kernel_rfl) (by kernel_rfl) (by kernel_rfl)) ?_
  intro W base args ds gs before hval hW hcnd _
  have hp : Try.f4.params.toList = [25, 5, 26, 5] := by kernel_rfl
  refine law_calls (n := 8) (b := 4) laidOut (by rw [hp]; exact List.forall_mem_cons.2 ⟨⟨by kernel_rfl, of_decide_eq_true (by kernel_rfl)⟩, List.forall_mem_cons.2 ⟨⟨by kernel_rfl, of_decide_eq_true (by kernel_rfl)⟩, List.forall_mem_cons.2 ⟨⟨by kernel_rfl, of_decide_eq_true (by kernel_rfl)⟩, List.forall_mem_cons.2 ⟨⟨by kernel_rfl, of_decide_eq_true (by kernel_rfl)⟩, (by simp)⟩⟩⟩⟩) (by rw [hp]; exact List.forall_mem_cons.2 ⟨by kernel_rfl, List.forall_mem_cons.2 ⟨by kernel_rfl, List.forall_mem_cons.2 ⟨by kernel_rfl, List.forall_mem_cons.2 ⟨by kernel_rfl, (by simp)⟩⟩⟩⟩) rfl (by kernel_rfl) (by kernel_rfl) (fun ds hd => ?_) hval hW (fun av h => stableIs_as av (argsT_d teok _ _ _ (by rw [hp]; exact List.forall_mem_cons.2 ⟨rfl, List.forall_mem_cons.2 ⟨rfl, List.forall_mem_cons.2 ⟨rfl, List.forall_mem_cons.2 ⟨rfl, (by simp)⟩⟩⟩⟩) h |> (hp ▸ ·)))
  have hd : ds.length = 4 := hd
  match ds, hd with
  | [_, _, _, _], _ => rfl
theorem stableIs_holds : Rows.StableIsSaid :=
  OpenClaim.holds_of_wide 4 Try.f4 rfl rfl rfl rfl rfl rfl rfl ⟨rfl, rfl, rfl, rfl, rfl⟩ rfl rfl rfl rfl rfl (by kernel_rfl) Try.func4 (by kernel_rfl)
    (of_decide_eq_true (by kernel_rfl)) (by unfold Func.isWrapper; first | (rw [if_pos (by decide +kernel)]; kernel_rfl) | (rw [if_neg (by decide +kernel)]; exact ⟨rfl, rfl⟩))
    (fun os started H enc _ => stableIs_lifted os started H enc)
end Go.Proofs.Ytajkgmmmkhekmaa
