/- The law SolveGreedy: whatever the input, if what it reads is of bulk at most 1048576, it returns true and changes nothing. Printed by a program of this project (wip/mq). -/
import Derived.Test.YtajkgmmmkhekmaaNetF
import Derived.Test.YtajkgmmmkhekmaaMqPl10
import Derived.Test.YtajkgmmmkhekmaaSome
import Derived.Test.YtajkgmmmkhekmaaAwk16
import Derived.Test.YtajkgmmmkhekmaaArgs
import Derived.Test.YtajkgmmmkhekmaaSame
import Derived.Test.YtajkgmmmkhekmaaSetG
import Derived.Test.YtajkgmmmkhekmaaGreedy
namespace Go.Proofs.Ytajkgmmmkhekmaa
open Go Mq Go.ChangeShapes Go.WideShapes Go.ChangeAt Go.RowKit
/-! maquette/maquettelaw16.SolveGreedy -/
def f10r0 : List PG := [.u (.bx 4 (.t 0)), .u (.mv 8 (.k (.bool false)))]
def f10r1 : List PG := [.uc 20 27 [], .u (.no 21 (.t 20))]
def f10r2 : List PG := [.u (.mv 8 (.k (.bool false)))]
abbrev f10p0 : PC := .seq (.reg f10r2) (.ret)
abbrev f10p1 : PC := .cond (.t 21) (f10p0) (.skip)
def f10r3 : List PG := [.u (.ld 23 6 true (.t 4)), .uc 24 31 [.t 23], .u (.mv 25 (.t 1)), .uc 26 14 [.t 24, .t 25], .u (.mv 22 (.t 26)), .u (.ext 27 (.t 22) 0), .u (.ext 28 (.t 22) 1), .u (.ext 29 (.t 22) 2), .u (.al 9 [.nl 1, .nl 1, .nl 1]), .u (.al 10 [.d (.v (.int .u32 0)), .d (.v (.int .i64 0))]), .u (.st 3 (.t 9) (.t 27)), .u (.st 2 (.t 10) (.t 28)), .u (.mv 11 (.t 29))]
def f10r4 : List PG := [.u (.mv 30 (.t 11)), .u (.no 31 (.t 30))]
def f10r5 : List PG := [.u (.mv 8 (.k (.bool true)))]
abbrev f10p2 : PC := .seq (.reg f10r5) (.ret)
abbrev f10p3 : PC := .cond (.t 31) (f10p2) (.skip)
def f10r6 : List PG := [.u (.ld 33 3 true (.t 9)), .uc 34 29 [.t 33], .u (.mv 32 (.t 34)), .u (.ext 35 (.t 32) 0), .u (.ext 36 (.t 32) 1), .u (.mv 12 (.t 35)), .u (.mv 13 (.t 36))]
def f10r7 : List PG := [.u (.mv 37 (.t 13)), .u (.no 38 (.t 37)), .u (.mv 39 (.t 38)), .g 39 false (.ld 40 3 true (.t 9)), .g 39 false (.mv 41 (.t 12)), .gc 39 false 42 24 [.t 40, .t 41], .g 39 false (.no 43 (.t 42)), .u (.pick 44 (.t 39) (.k (.bool true)) (.t 43))]
def f10r8 : List PG := [.u (.mv 8 (.k (.bool false)))]
abbrev f10p4 : PC := .seq (.reg f10r8) (.ret)
abbrev f10p5 : PC := .cond (.t 44) (f10p4) (.skip)
def f10r9 : List PG := [.u (.mv 45 (.t 2)), .u (.fa 46 0 (.t 9)), .u (.ld 47 1 false (.t 46)), .u (.len 48 (.t 47)), .uc 49 15 [.t 45, .t 48], .u (.mv 14 (.t 49))]
def f10r10 : List PG := [.u (.mv 50 (.t 3)), .u (.len 51 (.t 50)), .u (.mv 52 (.k (.int .i64 0)))]
def f10r11 : List PG := [.u (.bo 53 .lss (.t 52) (.t 51))]
def f10r12 : List PG := [.u (.ia 54 1 (.t 50) (.t 52)), .u (.ld 55 1 false (.t 54)), .u (.mv 16 (.t 55))]
def f10r13 : List PG := [.u (.mv 56 (.t 16)), .u (.cv 57 .i64 (.t 56)), .u (.mv 58 (.t 14)), .u (.len 59 (.t 58)), .u (.bo 60 .rem (.t 57) (.t 59)), .u (.mv 17 (.t 60))]
def f10r14 : List PG := [.u (.mv 61 (.t 14)), .u (.mv 62 (.t 17)), .u (.ld 63 3 true (.t 9)), .u (.mv 64 (.t 14)), .u (.mv 65 (.t 17)), .uc 66 21 [.t 63, .t 64, .t 65], .u (.ia 67 4 (.t 61) (.t 62)), .u (.st 4 (.t 67) (.t 66))]
def f10r15 : List PG := [.u (.ld 68 3 true (.t 9)), .u (.mv 69 (.t 14)), .uc 70 24 [.t 68, .t 69], .u (.mv 71 (.t 70)), .g 71 true (.mv 72 (.t 12)), .g 71 true (.mv 73 (.t 14)), .gc 71 true 74 32 [.t 72, .t 73], .g 71 true (.no 75 (.t 74)), .u (.pick 76 (.t 71) (.t 75) (.k (.bool false)))]
def f10r16 : List PG := [.u (.mv 8 (.k (.bool false)))]
abbrev f10p6 : PC := .seq (.reg f10r16) (.ret)
abbrev f10p7 : PC := .cond (.t 76) (f10p6) (.skip)
abbrev f10p8 : PC := .seq (.reg f10r15) (f10p7)
abbrev f10p9 : PC := .seq (.reg f10r14) (f10p8)
abbrev f10p10 : PC := .seq (.reg f10r13) (f10p9)
def f10r17 : List PG := [.u (.bo 77 .add (.t 52) (.k (.int .i64 1))), .u (.mv 52 (.t 77))]
abbrev f10p11 : PC := .seq (.block 1 (.seq (.reg f10r12) (f10p10))) (.reg f10r17)
abbrev f10p12 : PC := .seq (.cond (.t 53) (.skip) (.exit 0)) (f10p11)
abbrev f10p13 : PC := .seq (.reg f10r11) (f10p12)
abbrev f10p14 : PC := .block 0 (.loop (f10p13))
def f10r18 : List PG := [.u (.ld 79 3 true (.t 9)), .u (.mv 80 (.t 14)), .uc 81 33 [.t 79, .t 80, .k (.int .i64 20)], .u (.mv 78 (.t 81)), .u (.ext 82 (.t 78) 0), .u (.ext 83 (.t 78) 1), .u (.mv 18 (.t 82)), .u (.mv 19 (.t 83))]
def f10r19 : List PG := [.u (.mv 84 (.t 19)), .u (.no 85 (.t 84)), .u (.mv 86 (.t 85)), .g 86 false (.mv 87 (.t 12)), .g 86 false (.mv 88 (.t 18)), .gc 86 false 89 32 [.t 87, .t 88], .u (.pick 90 (.t 86) (.k (.bool true)) (.t 89)), .u (.mv 8 (.t 90))]
abbrev f10p15 : PC := .seq (.reg f10r19) (.ret)
abbrev f10p16 : PC := .seq (.reg f10r18) (f10p15)
abbrev f10p17 : PC := .seq (.seq (.reg f10r10) (f10p14)) (f10p16)
abbrev f10p18 : PC := .seq (.reg f10r9) (f10p17)
abbrev f10p19 : PC := .seq (.seq (.reg f10r7) (f10p5)) (f10p18)
abbrev f10p20 : PC := .seq (.reg f10r6) (f10p19)
abbrev f10p21 : PC := .seq (.seq (.reg f10r4) (f10p3)) (f10p20)
abbrev f10p22 : PC := .seq (.reg f10r3) (f10p21)
abbrev f10p23 : PC := .seq (.seq (.reg f10r1) (f10p1)) (f10p22)
abbrev f10pc : PC := .seq (.reg f10r0) (f10p23)
def f10k : List Nat := [0, 1, 2, 3, 4, 8, 9, 11, 12, 13, 14, 16, 17, 18, 19, 21, 31, 44, 50, 51, 52, 53, 76]
theorem f10c : Try.f10.body.bind (cC te Try.f10.ntmps) = some f10pc := by kernel_rfl
set_option maxRecDepth 20000
set_option maxHeartbeats 4000000
set_option linter.unusedSimpArgs false
set_option linter.unusedVariables false

theorem is_set (n : Net) (hn : n.small) (l : List Attr) (hl : l.length ≤ 1048576) (k : Nat) (c : Attr) : FnS Try.prog 24 [n.av, .d (.sl 4 ((l.map Attr.row).set k [.v (.bool c.ok), .v (.int .i64 c.pref), .v (.int .i64 c.cost), .v (.int .u8 c.tags)]))] (.d (.v (.bool (n.isV (l.set k c))))) := by
  have h := is_fn n hn (l.set k c) (by simpa using hl)
  rw [← row_set Attr.row] at h
  exact h
theorem sameL_set (a l : List Attr) (ha : a.length ≤ maxLen) (hl : l.length ≤ maxLen) (k : Nat) (c : Attr) : FnS Try.prog 32 [.d (.sl 4 (a.map Attr.row)), .d (.sl 4 ((l.map Attr.row).set k [.v (.bool c.ok), .v (.int .i64 c.pref), .v (.int .i64 c.cost), .v (.int .u8 c.tags)]))] (.d (.v (.bool (sameL a (l.set k c))))) := by
  have h := sameL_fn a (l.set k c) ha (by simpa using hl)
  rw [← row_set Attr.row] at h
  exact h

theorem solveGreedy_none (sh : Shape) (hs : sh.ok) (w : Int) (hw : 0 ≤ w ∧ w ≤ 255) (h1 : sh.maps.length ≤ 1048576) (h2 : ∀ rs ∈ sh.maps, rs.length ≤ 1048576)(ns ps : List Int) (hx : sh.plain.netV w = none) : FnS Try.prog 10 [sh.av, .d (.v (.int .u8 w)), .d (.sl 1 (ns.map wD)), .d (.sl 1 (ps.map uD))] (.d (.v (.bool true))) := by
  have hN := netOfF_fn sh.plain hs.plain w hw
  rw [hx] at hN
  simp only [netA] at hN
  refine fn_of teok Try.func10 (by kernel_rfl) f10c f10k [.tmp 8] rfl (by show 4 ≤ 91; omega) ?_
  repeat' first
  | (exact absurd hc (by decide))
  | with_reducible refine awp_seq ?_
  | with_reducible refine awp_block ?_
  | with_reducible refine awp_reg ?_
  | with_reducible refine awp_regD ?_
  | with_reducible refine awp_ret ?_
  | with_reducible refine awp_skip ?_
  | with_reducible refine awp_exit ?_
  | with_reducible refine normQ_of ?_
  | with_reducible refine wkE_of ?_
  | with_reducible refine midQ_of (Wk_sub rfl rfl ?_ ?_)
  | with_reducible refine runD_nil ?_
  | with_reducible refine runD_cons ?_
  | with_reducible refine runF_cons ?_
  | with_reducible refine runF_nil ?_
  | with_reducible refine KF_of ?_
  | with_reducible refine chkQ_of rfl ?_
  | with_reducible refine awp_cond (by simp only [evX, lget, Option.getD_some, reduceIte, Nat.reduceEqDiff]; rfl) (fun hc => ?_) (fun hc => ?_)
  | with_reducible refine CallU_of (f := 27) (awake16_fn) (by first | exact Or.inr (Or.inl rfl) | exact Or.inl rfl) ?_
  | with_reducible refine CallC_of (f := 27) (fun _ => awake16_fn) (by first | exact Or.inr (Or.inl rfl) | exact Or.inl rfl) ?_
  | with_reducible refine CallU_of (f := 14) (hN) (by first | exact Or.inr (Or.inl rfl) | exact Or.inl rfl) ?_
  | with_reducible refine CallC_of (f := 14) (fun _ => hN) (by first | exact Or.inr (Or.inl rfl) | exact Or.inl rfl) ?_
  | with_reducible refine CallU_of (f := 31) (plain_fnS sh h1 h2) (by first | exact Or.inr (Or.inl rfl) | exact Or.inl rfl) ?_
  | with_reducible refine CallC_of (f := 31) (fun _ => plain_fnS sh h1 h2) (by first | exact Or.inr (Or.inl rfl) | exact Or.inl rfl) ?_
  | (with_reducible assumption)
  | with_reducible refine fun (hG : okL _) => ?_
  | (with_reducible refine fun (hT : (_ : Bool) = _) => ?_)
  | (with_reducible first | exact hG.2 | exact hG.2.2 | exact hG.2.2.2 | exact hG.2.2.2.2)
  | with_reducible refine okL_mk ?_ ?_
  | with_reducible refine And.intro ?_ ?_
  | simp only [f10r0, f10r1, f10r2, f10r3, f10r4, f10r5, f10r6, f10r7, f10r8, f10r9, f10r10, f10r11, f10r12, f10r13, f10r14, f10r15, f10r16, f10r17, f10r18, f10r19, f10k, te33, te36, te25, List.getElem?_cons_zero, List.getElem?_cons_succ, runG_nil, runG_u, runG_g, runG_ucS, runG_gcS, runG_uvS, stp, avL, avS, evs, evX, lget, lput, strip, putO, PO.dst, updO, okR, cells, splice, AV.cell, toD, toDs, binV, sameK, pickV, guardOf, okL_nil, sides, argsOf, rawOf, dv, dvL, owns, ownsL, flat, flatL, lkeep, seqQ, blockQ, initS, List.drop_succ_cons, List.drop_zero, List.take_succ_cons, List.take_zero, List.getD_cons_zero, List.getD_cons_succ, List.length_cons, List.length_nil, List.set_cons_zero, List.set_cons_succ, List.map_cons, List.map_nil, List.all_cons, List.all_nil, List.elem_cons, List.elem_nil, Option.getD_some, Option.getD_none, Option.bind_some, Option.isNone_none, reduceIte, reduceCtorEq, Nat.reduceEqDiff, Nat.reduceAdd, Nat.reduceLeDiff, Nat.zero_add, Nat.add_zero, Nat.reduceBEq, Bool.and_self, Bool.and_true, Bool.true_and, Bool.or_self, Bool.or_false, Bool.false_or, Bool.or_true, Bool.true_or, true_and, and_true, and_self, implies_true, forall_const, Bool.false_eq_true, id_eq, retQ, resOf, resV, Option.some.injEq, exists_eq_left', AV.d.injEq, D.v.injEq, Value.bool.injEq, imp_self, bldF, bldS, toVals, eqLs, Option.map_some, imp_false, not_true_eq_false, not_false_eq_true, foot, wrs, nm, nmL, PG.reads, PG.dst, PO.reads, X.sl, sls, slB, List.append_nil, List.cons_append, List.nil_append, Option.toList_some, Option.toList_none, loopQ_exit, loopQ_ret, subS, subO, Bool.bne_false, Bool.bne_true, elemsOf, bslD, bslS, mentries, isAgV, asA, lputs, mgetD_set, mcmp_set, mput_set, List.headD_cons, sealS, sealO, sealV, sealL, mput_nil, mcmp_nil, midQ_ret, midQ_exit, sealsS, sealsO, runW_nil, runW_cons, Bool.true_bne, Bool.false_bne, bne_self_eq_false, Int.reduceToNat, bndV, oSl, resR, runS_nil, runS_gc, ren, renL, renO, sg, gBack]
  all_goals first
    | rfl
    | decide
    | trace_state
theorem solveGreedy_some (sh : Shape) (hs : sh.ok) (w : Int) (hw : 0 ≤ w ∧ w ≤ 255) (h1 : sh.maps.length ≤ 1048576) (h2 : ∀ rs ∈ sh.maps, rs.length ≤ 1048576)(ns ps : List Int) (n : Net) (p : Int × Int) (hx : sh.plain.netV w = some (n, p)) (hns : B16 ns) (hps : B8 ps) (hpl : ps.length ≤ 1048576) : FnS Try.prog 10 [sh.av, .d (.v (.int .u8 w)), .d (.sl 1 (ns.map wD)), .d (.sl 1 (ps.map uD))] (.d (.v (.bool true))) := by
  have hm : maxLen = 9223372036854775807 := rfl
  have hN := netOfF_fn sh.plain hs.plain w hw
  rw [hx] at hN
  simp only [netA] at hN
  obtain ⟨hsm, hmay, m, hnl, hn0⟩ := net_facts hx
  simp only at hsm hmay m hnl hn0
  have hlk := plain_likes hx
  simp only at hlk
  obtain ⟨l, hl⟩ := greedy_some hmay hlk
  have hG := greedy_fn n hsm
  rw [hl] at hG
  simp only [greedyA] at hG
  obtain ⟨hll, hln⟩ := greedy_num hl
  have hst := greedy_stable hl
  have hI := is_fn n hsm l (by omega)
  rw [hst] at hI
  have hS := some_fnG ns hns n.origin.length (by omega)
  have hsl := someV_len ns n.origin.length
  have hsn : ∀ a ∈ someV ns n.origin.length, a.ok = true → Rt (15 + 1030 * ((0 : Nat) : Int)) a := fun a ha ho => rt_le (some_num ns hns n.origin.length a ha ho) (by omega)
  generalize someV ns n.origin.length = l0 at hS hsl hsn
  refine fn_of teok Try.func10 (by kernel_rfl) f10c f10k [.tmp 8] rfl (by show 4 ≤ 91; omega) ?_
  repeat' first
  | (exact absurd hc (by decide))
  | (with_reducible refine awp_sc (l := f10r9) [(4, .gc [] [] [(8, 8034)])] ?_; unfold f10r9)
  | with_reducible refine awp_seq ?_
  | with_reducible refine awp_block ?_
  | with_reducible refine awp_reg ?_
  | with_reducible refine awp_regD ?_
  | with_reducible refine awp_ret ?_
  | with_reducible refine awp_skip ?_
  | with_reducible refine awp_exit ?_
  | with_reducible refine normQ_of ?_
  | with_reducible refine wkE_of ?_
  | with_reducible refine midQ_of (Wk_sub rfl rfl ?_ ?_)
  | with_reducible refine runD_nil ?_
  | with_reducible refine runD_cons ?_
  | with_reducible refine runF_cons ?_
  | with_reducible refine runF_nil ?_
  | with_reducible refine KF_of ?_
  | with_reducible refine chkQ_of rfl ?_
  | with_reducible refine awp_cond (by simp only [evX, lget, Option.getD_some, reduceIte, Nat.reduceEqDiff]; rfl) (fun hc => ?_) (fun hc => ?_)
  | with_reducible refine gc_of (f := 15) (hS) ?_ rfl rfl rfl rfl (Or.inl rfl) ?_
  | with_reducible refine CallU_of (f := 27) (awake16_fn) (by first | exact Or.inr (Or.inl rfl) | exact Or.inl rfl) ?_
  | with_reducible refine CallC_of (f := 27) (fun _ => awake16_fn) (by first | exact Or.inr (Or.inl rfl) | exact Or.inl rfl) ?_
  | with_reducible refine CallU_of (f := 14) (hN) (by first | exact Or.inr (Or.inl rfl) | exact Or.inl rfl) ?_
  | with_reducible refine CallC_of (f := 14) (fun _ => hN) (by first | exact Or.inr (Or.inl rfl) | exact Or.inl rfl) ?_
  | with_reducible refine CallU_of (f := 31) (plain_fnS sh h1 h2) (by first | exact Or.inr (Or.inl rfl) | exact Or.inl rfl) ?_
  | with_reducible refine CallC_of (f := 31) (fun _ => plain_fnS sh h1 h2) (by first | exact Or.inr (Or.inl rfl) | exact Or.inl rfl) ?_
  | with_reducible refine CallU_of (f := 29) (hG) (by first | exact Or.inr (Or.inl rfl) | exact Or.inl rfl) ?_
  | with_reducible refine CallC_of (f := 29) (fun _ => hG) (by first | exact Or.inr (Or.inl rfl) | exact Or.inl rfl) ?_
  | with_reducible refine CallU_of (f := 24) (hI) (by first | exact Or.inr (Or.inl rfl) | exact Or.inl rfl) ?_
  | with_reducible refine CallC_of (f := 24) (fun _ => hI) (by first | exact Or.inr (Or.inl rfl) | exact Or.inl rfl) ?_
  | with_reducible refine CallU_of (f := 21) (choice_fn n hsm x.2 (by omega) kk) (by first | exact Or.inr (Or.inl rfl) | exact Or.inl rfl) ?_
  | with_reducible refine CallC_of (f := 21) (fun _ => choice_fn n hsm x.2 (by omega) kk) (by first | exact Or.inr (Or.inl rfl) | exact Or.inl rfl) ?_
  | with_reducible refine CallU_of (f := 24) (is_set n hsm x.2 (by omega) kk (n.choice x.2 kk)) (by first | exact Or.inr (Or.inl rfl) | exact Or.inl rfl) ?_
  | with_reducible refine CallC_of (f := 24) (fun _ => is_set n hsm x.2 (by omega) kk (n.choice x.2 kk)) (by first | exact Or.inr (Or.inl rfl) | exact Or.inl rfl) ?_
  | with_reducible refine CallU_of (f := 32) (sameL_set l x.2 (by omega) (by omega) kk (n.choice x.2 kk)) (by first | exact Or.inr (Or.inl rfl) | exact Or.inl rfl) ?_
  | with_reducible refine CallC_of (f := 32) (fun _ => sameL_set l x.2 (by omega) (by omega) kk (n.choice x.2 kk)) (by first | exact Or.inr (Or.inl rfl) | exact Or.inl rfl) ?_
  | with_reducible refine CallU_of (f := 33) (settle_fn n hsm x.2 (by omega) 20 (by omega)) (by first | exact Or.inr (Or.inl rfl) | exact Or.inl rfl | exact Or.inr (Or.inr (fun _ => settle_fnF n hsm x.2 (by omega) 20 (by omega)))) ?_
  | with_reducible refine CallC_of (f := 33) (fun _ => settle_fn n hsm x.2 (by omega) 20 (by omega)) (by first | exact Or.inr (Or.inl rfl) | exact Or.inl rfl | exact Or.inr (Or.inr (fun _ => settle_fnF n hsm x.2 (by omega) 20 (by omega)))) ?_
  | with_reducible refine CallU_of (f := 32) (sameL_fn l (n.settle (mx 0 20).toNat x.2) (by omega) (by rw [settle_len]; omega)) (by first | exact Or.inr (Or.inl rfl) | exact Or.inl rfl) ?_
  | with_reducible refine CallC_of (f := 32) (fun _ => sameL_fn l (n.settle (mx 0 20).toNat x.2) (by omega) (by rw [settle_len]; omega)) (by first | exact Or.inr (Or.inl rfl) | exact Or.inl rfl) ?_
  | (with_reducible assumption)
  | with_reducible refine fun (hG : okL _) => ?_
  | (with_reducible refine fun (hT : (_ : Bool) = _) => ?_)
  | (with_reducible first | exact hG.2 | exact hG.2.2 | exact hG.2.2.2 | exact hG.2.2.2.2)
  | with_reducible refine okL_mk ?_ ?_
  | with_reducible refine And.intro ?_ ?_
  | (with_reducible refine awp_loopU (b := f10p13) (fun x : Nat × List Attr => x.1 ≤ ps.length ∧ x.2.length = n.origin.length ∧ ∀ a ∈ x.2, a.ok = true → Rt (15 + 1030 * (x.1 : Int)) a) (fun x => ps.length - x.1) (fun x => [(52, .d (.v (.int .i64 x.1)))]) (fun x => [(8034, .row 45 4 0 (x.2.map Attr.row))]) ((0, l0)) (⟨Nat.zero_le _, hsl, hsn⟩) (Wk.refl _ _) (Wk_sub rfl rfl ?_ ?_) (fun x hx => ?_))
  | (refine Exists.elim (at_drop uD ps x.1 (Int.ofNat_lt.1 (of_decide_eq_true (show decide ((x.1 : Int) < ps.length) = true from hc)))) (fun q hq => ?_); have hqr := hps.rng q (List.mem_of_getElem? hq.2.2.1); have hv := tmod_at (v := q) hqr.1 hn0; refine Exists.elim (Int.eq_ofNat_of_zero_le hv.1) (fun kk hkk => ?_); have g0 := hx.2.1; have g1 : List.getD (List.map uD ps) x.1 [] = uD q := (by have := hq.2.1; rwa [Int.toNat_natCast] at this); have g2 : IntKind.i64.wrap q = q := wrapI64 _ (by omega) (by omega); have g3 := hkk; have hkl : kk < x.2.length := (by have := hx.2.1; omega); have g4 : List.getD (List.map Attr.row x.2) kk [] = Attr.row (x.2.getD kk default) := (by simp [List.getD, hkl]); have hnum := set_num m hx.2.1 (B := 15 + 1030 * (x.1 : Int)) (by omega) (by omega) hx.2.2 kk kk; have hset : n.isV (x.2.set kk (n.choice x.2 kk)) = true → sameL l (x.2.set kk (n.choice x.2 kk)) = true := (fun h => stable_same (B := 10000000000000000) m hlk (by omega) hst h (fun a ha ho => rt_le (hln a ha ho) (by omega)) (fun a ha ho => rt_le (hnum a ha ho) (by omega))); replace hc : True := trivial)
  | (with_reducible refine loopQ_next (x.1 + 1, x.2.set kk (n.choice x.2 kk)) ?_ ?_ (Wk_sub rfl rfl ?_ ?_))
  | simp only [f10r0, f10r1, f10r2, f10r3, f10r4, f10r5, f10r6, f10r7, f10r8, f10r10, f10r11, f10r12, f10r13, f10r14, f10r15, f10r16, f10r17, f10r18, f10r19, g4, g3, g2, g1, g0, f10k, te33, te36, te25, List.length_map, List.getElem?_cons_zero, List.getElem?_cons_succ, Int.toNat_natCast, runG_nil, runG_u, runG_g, runG_ucS, runG_gcS, runG_uvS, stp, avL, avS, evs, evX, lget, lput, strip, putO, PO.dst, updO, okR, cells, splice, AV.cell, toD, toDs, binV, sameK, pickV, guardOf, okL_nil, sides, argsOf, rawOf, dv, dvL, owns, ownsL, flat, flatL, lkeep, seqQ, blockQ, initS, List.drop_succ_cons, List.drop_zero, List.take_succ_cons, List.take_zero, List.getD_cons_zero, List.getD_cons_succ, List.length_cons, List.length_nil, List.set_cons_zero, List.set_cons_succ, List.map_cons, List.map_nil, List.all_cons, List.all_nil, List.elem_cons, List.elem_nil, Option.getD_some, Option.getD_none, Option.bind_some, Option.isNone_none, reduceIte, reduceCtorEq, Nat.reduceEqDiff, Nat.reduceAdd, Nat.reduceLeDiff, Nat.zero_add, Nat.add_zero, Nat.reduceBEq, Bool.and_self, Bool.and_true, Bool.true_and, Bool.or_self, Bool.or_false, Bool.false_or, Bool.or_true, Bool.true_or, true_and, and_true, and_self, implies_true, forall_const, Bool.false_eq_true, id_eq, retQ, resOf, resV, Option.some.injEq, exists_eq_left', AV.d.injEq, D.v.injEq, Value.bool.injEq, imp_self, bldF, bldS, toVals, eqLs, Option.map_some, imp_false, not_true_eq_false, not_false_eq_true, foot, wrs, nm, nmL, PG.reads, PG.dst, PO.reads, X.sl, sls, slB, List.append_nil, List.cons_append, List.nil_append, Option.toList_some, Option.toList_none, loopQ_exit, loopQ_ret, subS, subO, Bool.bne_false, Bool.bne_true, elemsOf, bslD, bslS, mentries, isAgV, asA, lputs, mgetD_set, mcmp_set, mput_set, List.headD_cons, sealS, sealO, sealV, sealL, mput_nil, mcmp_nil, midQ_ret, midQ_exit, sealsS, sealsO, runW_nil, runW_cons, Bool.true_bne, Bool.false_bne, bne_self_eq_false, Int.reduceToNat, bndV, oSl, resR, runS_nil, runS_gc, ren, renL, renO, sg, gBack]
  | simp only [f10r0, f10r1, f10r2, f10r3, f10r4, f10r5, f10r6, f10r7, f10r8, f10r10, f10r11, f10r12, f10r13, f10r14, f10r15, f10r16, f10r17, f10r18, f10r19, g0, f10k, te33, te36, te25, List.length_map, List.getElem?_cons_zero, List.getElem?_cons_succ, Int.toNat_natCast, runG_nil, runG_u, runG_g, runG_ucS, runG_gcS, runG_uvS, stp, avL, avS, evs, evX, lget, lput, strip, putO, PO.dst, updO, okR, cells, splice, AV.cell, toD, toDs, binV, sameK, pickV, guardOf, okL_nil, sides, argsOf, rawOf, dv, dvL, owns, ownsL, flat, flatL, lkeep, seqQ, blockQ, initS, List.drop_succ_cons, List.drop_zero, List.take_succ_cons, List.take_zero, List.getD_cons_zero, List.getD_cons_succ, List.length_cons, List.length_nil, List.set_cons_zero, List.set_cons_succ, List.map_cons, List.map_nil, List.all_cons, List.all_nil, List.elem_cons, List.elem_nil, Option.getD_some, Option.getD_none, Option.bind_some, Option.isNone_none, reduceIte, reduceCtorEq, Nat.reduceEqDiff, Nat.reduceAdd, Nat.reduceLeDiff, Nat.zero_add, Nat.add_zero, Nat.reduceBEq, Bool.and_self, Bool.and_true, Bool.true_and, Bool.or_self, Bool.or_false, Bool.false_or, Bool.or_true, Bool.true_or, true_and, and_true, and_self, implies_true, forall_const, Bool.false_eq_true, id_eq, retQ, resOf, resV, Option.some.injEq, exists_eq_left', AV.d.injEq, D.v.injEq, Value.bool.injEq, imp_self, bldF, bldS, toVals, eqLs, Option.map_some, imp_false, not_true_eq_false, not_false_eq_true, foot, wrs, nm, nmL, PG.reads, PG.dst, PO.reads, X.sl, sls, slB, List.append_nil, List.cons_append, List.nil_append, Option.toList_some, Option.toList_none, loopQ_exit, loopQ_ret, subS, subO, Bool.bne_false, Bool.bne_true, elemsOf, bslD, bslS, mentries, isAgV, asA, lputs, mgetD_set, mcmp_set, mput_set, List.headD_cons, sealS, sealO, sealV, sealL, mput_nil, mcmp_nil, midQ_ret, midQ_exit, sealsS, sealsO, runW_nil, runW_cons, Bool.true_bne, Bool.false_bne, bne_self_eq_false, Int.reduceToNat, bndV, oSl, resR, runS_nil, runS_gc, ren, renL, renO, sg, gBack]
  | simp only [f10r0, f10r1, f10r2, f10r3, f10r4, f10r5, f10r6, f10r7, f10r8, f10r10, f10r11, f10r12, f10r13, f10r14, f10r15, f10r16, f10r17, f10r18, f10r19, f10k, te33, te36, te25, List.length_map, List.getElem?_cons_zero, List.getElem?_cons_succ, Int.toNat_natCast, runG_nil, runG_u, runG_g, runG_ucS, runG_gcS, runG_uvS, stp, avL, avS, evs, evX, lget, lput, strip, putO, PO.dst, updO, okR, cells, splice, AV.cell, toD, toDs, binV, sameK, pickV, guardOf, okL_nil, sides, argsOf, rawOf, dv, dvL, owns, ownsL, flat, flatL, lkeep, seqQ, blockQ, initS, List.drop_succ_cons, List.drop_zero, List.take_succ_cons, List.take_zero, List.getD_cons_zero, List.getD_cons_succ, List.length_cons, List.length_nil, List.set_cons_zero, List.set_cons_succ, List.map_cons, List.map_nil, List.all_cons, List.all_nil, List.elem_cons, List.elem_nil, Option.getD_some, Option.getD_none, Option.bind_some, Option.isNone_none, reduceIte, reduceCtorEq, Nat.reduceEqDiff, Nat.reduceAdd, Nat.reduceLeDiff, Nat.zero_add, Nat.add_zero, Nat.reduceBEq, Bool.and_self, Bool.and_true, Bool.true_and, Bool.or_self, Bool.or_false, Bool.false_or, Bool.or_true, Bool.true_or, true_and, and_true, and_self, implies_true, forall_const, Bool.false_eq_true, id_eq, retQ, resOf, resV, Option.some.injEq, exists_eq_left', AV.d.injEq, D.v.injEq, Value.bool.injEq, imp_self, bldF, bldS, toVals, eqLs, Option.map_some, imp_false, not_true_eq_false, not_false_eq_true, foot, wrs, nm, nmL, PG.reads, PG.dst, PO.reads, X.sl, sls, slB, List.append_nil, List.cons_append, List.nil_append, Option.toList_some, Option.toList_none, loopQ_exit, loopQ_ret, subS, subO, Bool.bne_false, Bool.bne_true, elemsOf, bslD, bslS, mentries, isAgV, asA, lputs, mgetD_set, mcmp_set, mput_set, List.headD_cons, sealS, sealO, sealV, sealL, mput_nil, mcmp_nil, midQ_ret, midQ_exit, sealsS, sealsO, runW_nil, runW_cons, Bool.true_bne, Bool.false_bne, bne_self_eq_false, Int.reduceToNat, bndV, oSl, resR, runS_nil, runS_gc, ren, renL, renO, sg, gBack]
  all_goals try first
    | omega
    | (with_reducible rfl)
    | (show Value.int _ 0 = _; rfl)
    | (simp only [List.length_append, List.length_cons, List.length_nil]; omega)
    | (simp only [List.length_append, List.length_cons, List.length_nil, List.map_append, List.map_cons, List.map_nil]; done)
    | (simp only [List.length_set]; omega)
    | (simp only [List.length_map]; omega)
    | exact some_set _ _ _
    | (rw [some_set, Int.toNat_natCast]; done)
    | exact count64 hq.2.2.2 (by omega)
    | (rw [List.length_set]; exact hx.2.1)
    | (simp at hc; done)
    | (exfalso; cases h1 : n.isV (x.2.set kk (n.choice x.2 kk)) with
       | false => rw [h1] at hc; simp at hc
       | true => rw [h1, hset h1] at hc; simp at hc)
    | (intro a ha ho; exact rt_le (hnum a ha ho) (by push_cast; omega))
    | (cases h1 : n.isV (n.settle (mx 0 20).toNat x.2) with
       | false => simp
       | true =>
         have h2 := settle_num m (mx 0 20).toNat x.2 (15 + 1030 * (x.1 : Int)) hx.2.1 (by omega) (by have : (mx 0 20).toNat = 20 := rfl; omega) hx.2.2
         have h3 := stable_same (B := 10000000000000000) m hlk (by omega) hst h1 (fun a ha ho => rt_le (hln a ha ho) (by omega)) (fun a ha ho => rt_le (h2 a ha ho) (by have : (mx 0 20).toNat = 20 := rfl; omega))
         simp [h3])
  all_goals trace_state

theorem solveGreedy_as (av : List AV) (h : dArgs te 8 [25, 5, 26, 22] av) (hN : szAs av ≤ 1048576) : FnS Try.prog 10 av (.d (.v (.bool true))) := by
  obtain ⟨x, _, rfl, hx, y, _, rfl, hy, z, _, rfl, hz, u, _, rfl, hu, rfl⟩ := h
  obtain ⟨sh, rfl, hs⟩ := shape_of (n := 3) hx
  obtain ⟨w, rfl, hw⟩ := u8_row (n := 7) hy
  obtain ⟨ns, rfl, hns⟩ := u16s_of (n := 6) hz
  obtain ⟨ps, rfl, hps⟩ := u8s_of (n := 6) hu
  have hN : szAV sh.av + (1 + ((szLL (ns.map wD) + 1) + ((szLL (ps.map uD) + 1) + 0))) ≤ 1048576 := hN
  have hSm := shape_small (sh := sh) (by omega)
  have h3 := szLL_map uD (fun a => by simp) ps
  cases hx : sh.plain.netV w with
  | none => exact solveGreedy_none sh hs w hw hSm.1 hSm.2 ns ps hx
  | some x =>
    obtain ⟨n, p⟩ := x
    exact solveGreedy_some sh hs w hw hSm.1 hSm.2 ns ps n p hx hns hps (by omega)
theorem isBulk {H : Type} : Bulk (H := H) Rows.uptoBulk Rows.uptoBulkAll where
  lit l := by cases l <;> simp [Rows.uptoBulk]
  str b := by simp [Rows.uptoBulk]
  nil := by simp [Rows.uptoBulk]
  slice l s := by simp [Rows.uptoBulk]
  agg l := by simp [Rows.uptoBulk]
  nilA := by simp [Rows.uptoBulkAll]
  cons x r := by simp [Rows.uptoBulkAll]

set_option maxRecDepth 100000 in
theorem solveGreedy_lifted (os : Os) (started : os.Started) (H : Type) (enc : TypeId × Value → H) (F0 : Stop.Interp) :
    ReturnsInHanded {} Try.checked os 10 .any ((Rows.OpenSpec.upto Rows.solveGreedySpec).pre6 enc Try.prog Try.f10 Rows.solveGreedyUptoRow.domain false) (((Rows.OpenSpec.upto Rows.solveGreedySpec).at F0).post enc Try.prog Try.f10 false true false false) := by
  refine returnsInHanded_of_cond (C := Try.checked) (s := Rows.OpenSpec.upto Rows.solveGreedySpec) (k := Rows.uptoSmall) rfl own started (by kernel_rfl) Try.func10
    (OpenSpec.witness (enc := enc) (C := Try.checked) (s := Rows.OpenSpec.upto Rows.solveGreedySpec) (k := Rows.uptoSmall) rfl false ⟨#[], #[.agg #[.int .u8 0, .slice none 0 0, .slice none 0 0, .slice none 0 0, .slice none 0 0, .slice none 0 0], .int .u8 0, .slice none 0 0, .slice none 0 0], []⟩ 8 (by kernel_rfl) (by kernel_rfl) (by kernel_rfl)
      (x := ([.agg [.lit (.int .u8 0), .nil, .nil, .nil, .nil, .nil], .lit (.int .u8 0), .nil, .nil], [], [])) (by kernel_rfl) (by kernel_rfl) (by kernel_rfl)) ?_
  intro W base args ds gs before hval hW hcnd hk _
  have hp : Try.f10.params.toList = [25, 5, 26, 22] := by kernel_rfl
  refine law_callsU (n := 8) (b := 4) (N := 1048576) isBulk laidOut (by rw [hp]; exact List.forall_mem_cons.2 ⟨⟨by kernel_rfl, of_decide_eq_true (by kernel_rfl)⟩, List.forall_mem_cons.2 ⟨⟨by kernel_rfl, of_decide_eq_true (by kernel_rfl)⟩, List.forall_mem_cons.2 ⟨⟨by kernel_rfl, of_decide_eq_true (by kernel_rfl)⟩, List.forall_mem_cons.2 ⟨⟨by kernel_rfl, of_decide_eq_true (by kernel_rfl)⟩, (by simp)⟩⟩⟩⟩) (by rw [hp]; exact List.forall_mem_cons.2 ⟨by kernel_rfl, List.forall_mem_cons.2 ⟨by kernel_rfl, List.forall_mem_cons.2 ⟨by kernel_rfl, List.forall_mem_cons.2 ⟨by kernel_rfl, (by simp)⟩⟩⟩⟩) rfl (by kernel_rfl) (by kernel_rfl) (fun ds hd => ?_) hval hW (of_decide_eq_true hk) (fun av h hN => solveGreedy_as av (argsT_d teok _ _ _ (by rw [hp]; exact List.forall_mem_cons.2 ⟨rfl, List.forall_mem_cons.2 ⟨rfl, List.forall_mem_cons.2 ⟨rfl, List.forall_mem_cons.2 ⟨rfl, (by simp)⟩⟩⟩⟩) h |> (hp ▸ ·)) hN)
  have hd : ds.length = 4 := hd
  match ds, hd with
  | [_, _, _, _], _ => rfl
theorem solveGreedy_holds : Rows.SolveGreedyUptoSaid :=
  OpenClaim.holds_of_cond 10 Try.f10 rfl rfl rfl rfl rfl rfl rfl ⟨rfl, rfl, rfl, rfl, rfl⟩ rfl rfl rfl rfl rfl (by kernel_rfl) Try.func10 (by kernel_rfl)
    (of_decide_eq_true (by kernel_rfl)) (by unfold Func.isWrapper; first | (rw [if_pos (by decide +kernel)]; kernel_rfl) | (rw [if_neg (by decide +kernel)]; exact ⟨rfl, rfl⟩))
    (fun os started H enc _ F0 => solveGreedy_lifted os started H enc F0)
end Go.Proofs.Ytajkgmmmkhekmaa
