/- The law SolveNothing: whatever the input, if what it reads is of bulk at most 1048576, it returns true and changes nothing. Printed by a program of this project (wip/mq). -/
import Derived.Test.YtajkgmmmkhekmaaNetF
import Derived.Test.YtajkgmmmkhekmaaGreedy
import Derived.Test.YtajkgmmmkhekmaaAwk16
import Derived.Test.YtajkgmmmkhekmaaArgs
import Derived.Test.YtajkgmmmkhekmaaSame
namespace Go.Proofs.Ytajkgmmmkhekmaa
open Go Mq Go.ChangeShapes Go.WideShapes Go.ChangeAt Go.RowKit
/-! maquette/maquettelaw16.SolveNothing -/
def f8r0 : List PG := [.u (.bx 2 (.t 0)), .u (.mv 4 (.k (.bool false)))]
def f8r1 : List PG := [.uc 13 27 [], .u (.no 14 (.t 13))]
def f8r2 : List PG := [.u (.mv 4 (.k (.bool false)))]
abbrev f8p0 : PC := .seq (.reg f8r2) (.ret)
abbrev f8p1 : PC := .cond (.t 14) (f8p0) (.skip)
def f8r3 : List PG := [.u (.ld 16 6 true (.t 2)), .uc 17 31 [.t 16], .u (.mv 18 (.t 1)), .uc 19 14 [.t 17, .t 18], .u (.mv 15 (.t 19)), .u (.ext 20 (.t 15) 0), .u (.ext 21 (.t 15) 1), .u (.ext 22 (.t 15) 2), .u (.al 5 [.nl 1, .nl 1, .nl 1]), .u (.al 6 [.d (.v (.int .u32 0)), .d (.v (.int .i64 0))]), .u (.st 3 (.t 5) (.t 20)), .u (.st 2 (.t 6) (.t 21)), .u (.mv 7 (.t 22))]
def f8r4 : List PG := [.u (.mv 23 (.t 7)), .u (.no 24 (.t 23))]
def f8r5 : List PG := [.u (.mv 4 (.k (.bool true)))]
abbrev f8p2 : PC := .seq (.reg f8r5) (.ret)
abbrev f8p3 : PC := .cond (.t 24) (f8p2) (.skip)
def f8r6 : List PG := [.u (.fa 25 0 (.t 5)), .u (.ld 26 1 false (.t 25)), .u (.len 27 (.t 26)), .u (.mks 28 4 1 1 [.d (.v (.bool false))] (.t 27)), .u (.fa 29 1 (.t 5)), .u (.ld 30 1 false (.t 29)), .u (.app 31 3 1 8 (.nl 1) (.t 30)), .u (.fa 32 0 (.t 5)), .u (.st 1 (.t 32) (.t 28)), .u (.fa 33 1 (.t 5)), .u (.st 1 (.t 33) (.t 31))]
def f8r7 : List PG := [.u (.fa 34 1 (.t 5)), .u (.ld 35 1 false (.t 34)), .u (.len 36 (.t 35)), .u (.mv 37 (.k (.int .i64 0)))]
def f8r8 : List PG := [.u (.bo 38 .lss (.t 37) (.t 36))]
def f8r9 : List PG := [.u (.mv 39 (.t 37)), .u (.mv 8 (.t 39))]
def f8r10 : List PG := [.u (.fa 40 1 (.t 5)), .u (.ld 41 1 false (.t 40)), .u (.mv 42 (.t 8)), .u (.ia 43 1 (.t 41) (.t 42)), .u (.st 1 (.t 43) (.k (.int .i64 (-1))))]
def f8r11 : List PG := [.u (.bo 44 .add (.t 37) (.k (.int .i64 1))), .u (.mv 37 (.t 44))]
abbrev f8p4 : PC := .seq (.block 1 (.seq (.reg f8r9) (.reg f8r10))) (.reg f8r11)
abbrev f8p5 : PC := .seq (.cond (.t 38) (.skip) (.exit 0)) (f8p4)
abbrev f8p6 : PC := .seq (.reg f8r8) (f8p5)
abbrev f8p7 : PC := .block 0 (.loop (f8p6))
def f8r12 : List PG := [.u (.ld 46 3 true (.t 5)), .uc 47 29 [.t 46], .u (.mv 45 (.t 47)), .u (.ext 48 (.t 45) 0), .u (.ext 49 (.t 45) 1), .u (.mv 9 (.t 48)), .u (.mv 10 (.t 49))]
def f8r13 : List PG := [.u (.mv 50 (.t 9)), .u (.len 51 (.t 50)), .u (.mv 52 (.k (.int .i64 0)))]
def f8r14 : List PG := [.u (.bo 53 .lss (.t 52) (.t 51))]
def f8r15 : List PG := [.u (.ia 54 4 (.t 50) (.t 52)), .u (.ld 55 4 true (.t 54)), .u (.al 12 [.d (.v (.bool false)), .d (.v (.int .i64 0)), .d (.v (.int .i64 0)), .d (.v (.int .u8 0))]), .u (.st 4 (.t 12) (.t 55))]
def f8r16 : List PG := [.u (.fa 56 0 (.t 12)), .u (.ld 57 1 false (.t 56))]
def f8r17 : List PG := [.u (.mv 4 (.k (.bool false)))]
abbrev f8p8 : PC := .seq (.reg f8r17) (.ret)
abbrev f8p9 : PC := .cond (.t 57) (f8p8) (.skip)
abbrev f8p10 : PC := .seq (.reg f8r16) (f8p9)
def f8r18 : List PG := [.u (.bo 58 .add (.t 52) (.k (.int .i64 1))), .u (.mv 52 (.t 58))]
abbrev f8p11 : PC := .seq (.block 3 (.seq (.reg f8r15) (f8p10))) (.reg f8r18)
abbrev f8p12 : PC := .seq (.cond (.t 53) (.skip) (.exit 2)) (f8p11)
abbrev f8p13 : PC := .seq (.reg f8r14) (f8p12)
abbrev f8p14 : PC := .block 2 (.loop (f8p13))
def f8r19 : List PG := [.u (.mv 59 (.t 10)), .u (.mv 60 (.t 59)), .g 60 true (.mv 61 (.t 9)), .g 60 true (.len 62 (.t 61)), .g 60 true (.fa 63 0 (.t 5)), .g 60 true (.ld 64 1 false (.t 63)), .g 60 true (.len 65 (.t 64)), .g 60 true (.beq 66 false false (.t 62) (.t 65)), .u (.pick 67 (.t 60) (.t 66) (.k (.bool false))), .u (.mv 4 (.t 67))]
abbrev f8p15 : PC := .seq (.reg f8r19) (.ret)
abbrev f8p16 : PC := .seq (.seq (.reg f8r13) (f8p14)) (f8p15)
abbrev f8p17 : PC := .seq (.reg f8r12) (f8p16)
abbrev f8p18 : PC := .seq (.seq (.reg f8r7) (f8p7)) (f8p17)
abbrev f8p19 : PC := .seq (.regD f8r6 [(3, 4), (3, 5), (0, 6), (1, 6), (2, 6), (3, 6), (6, 7)]) (f8p18)
abbrev f8p20 : PC := .seq (.seq (.reg f8r4) (f8p3)) (f8p19)
abbrev f8p21 : PC := .seq (.reg f8r3) (f8p20)
abbrev f8p22 : PC := .seq (.seq (.reg f8r1) (f8p1)) (f8p21)
abbrev f8pc : PC := .seq (.reg f8r0) (f8p22)
def f8k : List Nat := [0, 1, 2, 4, 5, 7, 8, 9, 10, 12, 14, 24, 36, 37, 38, 50, 51, 52, 53, 57]
theorem f8c : Try.f8.body.bind (cC te Try.f8.ntmps) = some f8pc := by kernel_rfl
set_option maxRecDepth 20000
set_option maxHeartbeats 4000000
set_option linter.unusedSimpArgs false
set_option linter.unusedVariables false

theorem noneA (n : Net) (i : Nat) : (List.replicate i (-1 : Int) ++ n.static.drop i).length = i + (n.static.length - i) := by simp
theorem none_set {e s g : Nat} {st : List Int} {i : Nat} (h : i < st.length) : AO.row e s g (((List.replicate i (-1 : Int) ++ st.drop i).map iD).set i (iD (-1))) = AO.row e s g ((List.replicate (i + 1) (-1 : Int) ++ st.drop (i + 1)).map iD) := by
  rw [row_set]
  congr 2
  rw [List.drop_eq_getElem_cons h]
  apply List.ext_getElem?
  intro k
  by_cases hk : k = i
  · subst hk
    rw [List.getElem?_set_self (by simp; omega)]
    simp [List.getElem?_append]
  · rw [List.getElem?_set_ne (Ne.symm hk)]
    simp only [List.getElem?_append, List.length_replicate, List.getElem?_replicate]
    by_cases h1 : k < i
    · simp [h1, show k < i + 1 by omega]
    · have : ¬ k < i + 1 := by omega
      simp only [h1, this, if_false]
      rw [show k - i = (k - (i + 1)) + 1 by omega, List.getElem?_cons_succ]

theorem solveNothing_none (sh : Shape) (hs : sh.ok) (w : Int) (hw : 0 ≤ w ∧ w ≤ 255) (h1 : sh.maps.length ≤ 1048576) (h2 : ∀ rs ∈ sh.maps, rs.length ≤ 1048576) (hx : sh.plain.netV w = none) : FnS Try.prog 8 [sh.av, .d (.v (.int .u8 w))] (.d (.v (.bool true))) := by
  have hN := netOfF_fn sh.plain hs.plain w hw
  rw [hx] at hN
  simp only [netA] at hN
  refine fn_of teok Try.func8 (by kernel_rfl) f8c f8k [.tmp 4] rfl (by show 2 ≤ 68; omega) ?_
  repeat' first
  | (exact absurd hc (by decide))
  | with_reducible refine awp_seq ?_
  | with_reducible refine awp_block ?_
  | with_reducible refine awp_reg ?_
  | with_reducible refine awp_regD ?_
  | with_reducible refine awp_ret ?_
  | with_reducible refine awp_skip ?_
  | with_reducible refine awp_exit ?_
  | with_reducible refine normQ_of ?_
  | with_reducible refine wkE_of ?_
  | with_reducible refine midQ_of (Wk_sub rfl rfl ?_ ?_)
  | with_reducible refine runD_nil ?_
  | with_reducible refine runD_cons ?_
  | with_reducible refine runF_cons ?_
  | with_reducible refine runF_nil ?_
  | with_reducible refine KF_of ?_
  | with_reducible refine chkQ_of rfl ?_
  | with_reducible refine awp_cond (by simp only [evX, lget, Option.getD_some, reduceIte, Nat.reduceEqDiff]; rfl) (fun hc => ?_) (fun hc => ?_)
  | with_reducible refine CallU_of (f := 27) (awake16_fn) (by first | exact Or.inr (Or.inl rfl) | exact Or.inl rfl) ?_
  | with_reducible refine CallC_of (f := 27) (fun _ => awake16_fn) (by first | exact Or.inr (Or.inl rfl) | exact Or.inl rfl) ?_
  | with_reducible refine CallU_of (f := 14) (hN) (by first | exact Or.inr (Or.inl rfl) | exact Or.inl rfl) ?_
  | with_reducible refine CallC_of (f := 14) (fun _ => hN) (by first | exact Or.inr (Or.inl rfl) | exact Or.inl rfl) ?_
  | with_reducible refine CallU_of (f := 31) (plain_fnS sh h1 h2) (by first | exact Or.inr (Or.inl rfl) | exact Or.inl rfl) ?_
  | with_reducible refine CallC_of (f := 31) (fun _ => plain_fnS sh h1 h2) (by first | exact Or.inr (Or.inl rfl) | exact Or.inl rfl) ?_
  | (with_reducible assumption)
  | with_reducible refine fun (hG : okL _) => ?_
  | (with_reducible refine fun (hT : (_ : Bool) = _) => ?_)
  | (with_reducible first | exact hG.2 | exact hG.2.2 | exact hG.2.2.2 | exact hG.2.2.2.2)
  | with_reducible refine okL_mk ?_ ?_
  | with_reducible refine And.intro ?_ ?_
  | simp only [f8r0, f8r1, f8r2, f8r3, f8r4, f8r5, f8r6, f8r7, f8r8, f8r9, f8r10, f8r11, f8r12, f8r13, f8r14, f8r15, f8r16, f8r17, f8r18, f8r19, f8k, te33, te36, te25, List.getElem?_cons_zero, List.getElem?_cons_succ, runG_nil, runG_u, runG_g, runG_ucS, runG_gcS, stp, evs, evX, lget, lput, strip, putO, PO.dst, updO, okR, cells, splice, AV.cell, toD, toDs, binV, sameK, pickV, guardOf, okL_nil, sides, argsOf, rawOf, dv, dvL, owns, ownsL, flat, flatL, lkeep, seqQ, blockQ, initS, List.drop_succ_cons, List.drop_zero, List.take_succ_cons, List.take_zero, List.getD_cons_zero, List.getD_cons_succ, List.length_cons, List.length_nil, List.set_cons_zero, List.set_cons_succ, List.map_cons, List.map_nil, List.all_cons, List.all_nil, List.elem_cons, List.elem_nil, Option.getD_some, Option.getD_none, Option.bind_some, Option.isNone_none, reduceIte, reduceCtorEq, Nat.reduceEqDiff, Nat.reduceAdd, Nat.reduceLeDiff, Nat.zero_add, Nat.add_zero, Nat.reduceBEq, Bool.and_self, Bool.and_true, Bool.true_and, Bool.or_self, Bool.or_false, Bool.false_or, Bool.or_true, Bool.true_or, true_and, and_true, and_self, implies_true, forall_const, Bool.false_eq_true, id_eq, retQ, resOf, resV, Option.some.injEq, exists_eq_left', AV.d.injEq, D.v.injEq, Value.bool.injEq, imp_self, bldF, bldS, toVals, eqLs, Option.map_some, imp_false, not_true_eq_false, not_false_eq_true, foot, wrs, nm, nmL, PG.reads, PG.dst, PO.reads, X.sl, sls, slB, List.append_nil, List.cons_append, List.nil_append, Option.toList_some, Option.toList_none, loopQ_exit, loopQ_ret, subS, subO, Bool.bne_false, Bool.bne_true, elemsOf, bslD, bslS, mentries, isAgV, asA, lputs, mgetD_set, mcmp_set, mput_set, List.headD_cons, sealS, sealO, sealV, sealL, mput_nil, mcmp_nil, midQ_ret, midQ_exit, sealsS, sealsO, runW_nil, runW_cons, Bool.true_bne, Bool.false_bne, bne_self_eq_false, Int.reduceToNat, bndV, oSl, resR, runS_nil, runS_gc]
  all_goals first
    | rfl
    | decide
    | trace_state
theorem solveNothing_some (sh : Shape) (hs : sh.ok) (w : Int) (hw : 0 ≤ w ∧ w ≤ 255) (h1 : sh.maps.length ≤ 1048576) (h2 : ∀ rs ∈ sh.maps, rs.length ≤ 1048576) (n : Net) (p : Int × Int) (hx : sh.plain.netV w = some (n, p)) : FnS Try.prog 8 [sh.av, .d (.v (.int .u8 w))] (.d (.v (.bool true))) := by
  have hm : maxLen = 9223372036854775807 := rfl
  have hN := netOfF_fn sh.plain hs.plain w hw
  rw [hx] at hN
  simp only [netA] at hN
  obtain ⟨hsm, hmay, m, hnl, hn0⟩ := net_facts hx
  simp only at hsm hmay m hnl hn0
  have hlk := plain_likes hx
  simp only at hlk
  have hs2 := noone_small hsm
  have hm2 := noone_may m
  obtain ⟨l, hl⟩ := greedy_some (n := n.noone) hm2 (by rw [noone_likes]; exact hlk)
  have hG := greedy_fn n.noone hs2
  rw [hl] at hG
  simp only [greedyA] at hG
  obtain ⟨hll, hln⟩ := greedy_num hl
  have hno := stable_none_all (Net.may_spec hm2) (by decide) (greedy_stable hl) hln (fun k => noone_fixed n k)
  have hst := m.static
  have hll2 : l.length = n.origin.length := by rw [hll]; simp [Net.noone]
  have hG2 : FnS Try.prog 29 [.ag [.d (.sl 1 (List.replicate (Int.toNat (n.origin.length : Int)) [D.v (.bool false)])), .d (.sl 1 ((List.replicate n.static.length (-1)).map iD)), .d (.sl 1 (n.edges.map esD))]] (.tp [.d (.sl 4 (l.map Attr.row)), .d (.v (.bool true))]) := by
    have h1 : List.replicate (Int.toNat (n.origin.length : Int)) [D.v (.bool false)] = n.noone.origin.map bD := by rw [Int.toNat_natCast]; simp [Net.noone, bD]
    have h2 : (List.replicate n.static.length (-1 : Int)).map iD = n.noone.static.map iD := by rw [hst]; rfl
    rw [h1, h2]
    exact hG
  refine fn_of teok Try.func8 (by kernel_rfl) f8c f8k [.tmp 4] rfl (by show 2 ≤ 68; omega) ?_
  repeat' first
  | (exact absurd hc (by decide))
  | (with_reducible refine awp_cut (l := f8r12) [(1, [28, 31])] ?_; unfold f8r12)
  | (have hie : i = n.static.length := (by have h0 := of_decide_eq_false (show decide ((i : Int) < n.static.length) = false from hc); omega); subst hie; replace hc : True := trivial)
  | with_reducible refine awp_seq ?_
  | with_reducible refine awp_block ?_
  | with_reducible refine awp_reg ?_
  | with_reducible refine awp_regD ?_
  | with_reducible refine awp_ret ?_
  | with_reducible refine awp_skip ?_
  | with_reducible refine awp_exit ?_
  | with_reducible refine normQ_of ?_
  | with_reducible refine wkE_of ?_
  | with_reducible refine midQ_of (Wk_sub rfl rfl ?_ ?_)
  | with_reducible refine runD_nil ?_
  | with_reducible refine runD_cons ?_
  | with_reducible refine runF_cons ?_
  | with_reducible refine runF_nil ?_
  | with_reducible refine KF_of ?_
  | with_reducible refine chkQ_of rfl ?_
  | with_reducible refine awp_cond (by simp only [evX, lget, Option.getD_some, reduceIte, Nat.reduceEqDiff]; rfl) (fun hc => ?_) (fun hc => ?_)
  | with_reducible refine CallU_of (f := 27) (awake16_fn) (by first | exact Or.inr (Or.inl rfl) | exact Or.inl rfl) ?_
  | with_reducible refine CallC_of (f := 27) (fun _ => awake16_fn) (by first | exact Or.inr (Or.inl rfl) | exact Or.inl rfl) ?_
  | with_reducible refine CallU_of (f := 14) (hN) (by first | exact Or.inr (Or.inl rfl) | exact Or.inl rfl) ?_
  | with_reducible refine CallC_of (f := 14) (fun _ => hN) (by first | exact Or.inr (Or.inl rfl) | exact Or.inl rfl) ?_
  | with_reducible refine CallU_of (f := 31) (plain_fnS sh h1 h2) (by first | exact Or.inr (Or.inl rfl) | exact Or.inl rfl) ?_
  | with_reducible refine CallC_of (f := 31) (fun _ => plain_fnS sh h1 h2) (by first | exact Or.inr (Or.inl rfl) | exact Or.inl rfl) ?_
  | with_reducible refine CallU_of (f := 29) (hG2) (by first | exact Or.inr (Or.inl rfl) | exact Or.inl rfl) ?_
  | with_reducible refine CallC_of (f := 29) (fun _ => hG2) (by first | exact Or.inr (Or.inl rfl) | exact Or.inl rfl) ?_
  | (with_reducible assumption)
  | with_reducible refine fun (hG : okL _) => ?_
  | (with_reducible refine fun (hT : (_ : Bool) = _) => ?_)
  | (with_reducible first | exact hG.2 | exact hG.2.2 | exact hG.2.2.2 | exact hG.2.2.2.2)
  | with_reducible refine okL_mk ?_ ?_
  | with_reducible refine And.intro ?_ ?_
  | (with_reducible refine awp_loopU (b := f8p6) (fun i : Nat => i ≤ n.static.length) (fun i => n.static.length - i) (fun i => [(37, .d (.v (.int .i64 i)))]) (fun i => [(31, .row 3 1 0 ((List.replicate i (-1 : Int) ++ n.static.drop i).map iD))]) (0) (Nat.zero_le _) (Wk.refl _ _) (Wk_sub rfl rfl ?_ ?_) (fun i hi => ?_))
  | (have hlt : i < n.static.length := Int.ofNat_lt.1 (of_decide_eq_true (show decide ((i : Int) < n.static.length) = true from hc)); refine Exists.elim (at_drop iD (List.replicate i (-1 : Int) ++ n.static.drop i) i (by simp; omega)) (fun a ha => ?_); have g1 := ha.2.1; replace hc : True := trivial)
  | (with_reducible refine awp_loopU (b := f8p13) (fun y : Nat × Unit => y.1 ≤ l.length) (fun y => l.length - y.1) (fun y => [(52, .d (.v (.int .i64 y.1)))]) (fun y => []) ((0, ())) (Nat.zero_le _) (Wk.refl _ _) (Wk_sub rfl rfl ?_ ?_) (fun y hy => ?_))
  | (refine Exists.elim (at_drop Attr.row l y.1 (Int.ofNat_lt.1 (of_decide_eq_true (show decide ((y.1 : Int) < l.length) = true from hc)))) (fun a ha => ?_); have g1 := ha.2.1; have hao := hno a (List.mem_of_getElem? ha.2.2.1); replace hc : True := trivial)
  | (with_reducible refine loopQ_next ((y.1 + 1, ())) ?_ ?_ (Wk_sub rfl rfl ?_ ?_))
  | (with_reducible refine loopQ_next (i + 1) ?_ ?_ (Wk_sub rfl rfl ?_ ?_))
  | simp only [f8r0, f8r1, f8r2, f8r3, f8r4, f8r5, f8r6, f8r7, f8r8, f8r9, f8r10, f8r11, f8r13, f8r14, f8r15, f8r16, f8r17, f8r18, f8r19, g1, f8k, te33, te36, te25, List.length_map, List.getElem?_cons_zero, List.getElem?_cons_succ, List.drop_length, List.append_nil, runG_nil, runG_u, runG_g, runG_ucS, runG_gcS, stp, evs, evX, lget, lput, strip, putO, PO.dst, updO, okR, cells, splice, AV.cell, toD, toDs, binV, sameK, pickV, guardOf, okL_nil, sides, argsOf, rawOf, dv, dvL, owns, ownsL, flat, flatL, lkeep, seqQ, blockQ, initS, List.drop_succ_cons, List.drop_zero, List.take_succ_cons, List.take_zero, List.getD_cons_zero, List.getD_cons_succ, List.length_cons, List.length_nil, List.set_cons_zero, List.set_cons_succ, List.map_cons, List.map_nil, List.all_cons, List.all_nil, List.elem_cons, List.elem_nil, Option.getD_some, Option.getD_none, Option.bind_some, Option.isNone_none, reduceIte, reduceCtorEq, Nat.reduceEqDiff, Nat.reduceAdd, Nat.reduceLeDiff, Nat.zero_add, Nat.add_zero, Nat.reduceBEq, Bool.and_self, Bool.and_true, Bool.true_and, Bool.or_self, Bool.or_false, Bool.false_or, Bool.or_true, Bool.true_or, true_and, and_true, and_self, implies_true, forall_const, Bool.false_eq_true, id_eq, retQ, resOf, resV, Option.some.injEq, exists_eq_left', AV.d.injEq, D.v.injEq, Value.bool.injEq, imp_self, bldF, bldS, toVals, eqLs, Option.map_some, imp_false, not_true_eq_false, not_false_eq_true, foot, wrs, nm, nmL, PG.reads, PG.dst, PO.reads, X.sl, sls, slB, List.append_nil, List.cons_append, List.nil_append, Option.toList_some, Option.toList_none, loopQ_exit, loopQ_ret, subS, subO, Bool.bne_false, Bool.bne_true, elemsOf, bslD, bslS, mentries, isAgV, asA, lputs, mgetD_set, mcmp_set, mput_set, List.headD_cons, sealS, sealO, sealV, sealL, mput_nil, mcmp_nil, midQ_ret, midQ_exit, sealsS, sealsO, runW_nil, runW_cons, Bool.true_bne, Bool.false_bne, bne_self_eq_false, Int.reduceToNat, bndV, oSl, resR, runS_nil, runS_gc]
  | simp only [f8r0, f8r1, f8r2, f8r3, f8r4, f8r5, f8r6, f8r7, f8r8, f8r9, f8r10, f8r11, f8r13, f8r14, f8r15, f8r16, f8r17, f8r18, f8r19, f8k, te33, te36, te25, List.length_map, List.getElem?_cons_zero, List.getElem?_cons_succ, List.drop_length, List.append_nil, runG_nil, runG_u, runG_g, runG_ucS, runG_gcS, stp, evs, evX, lget, lput, strip, putO, PO.dst, updO, okR, cells, splice, AV.cell, toD, toDs, binV, sameK, pickV, guardOf, okL_nil, sides, argsOf, rawOf, dv, dvL, owns, ownsL, flat, flatL, lkeep, seqQ, blockQ, initS, List.drop_succ_cons, List.drop_zero, List.take_succ_cons, List.take_zero, List.getD_cons_zero, List.getD_cons_succ, List.length_cons, List.length_nil, List.set_cons_zero, List.set_cons_succ, List.map_cons, List.map_nil, List.all_cons, List.all_nil, List.elem_cons, List.elem_nil, Option.getD_some, Option.getD_none, Option.bind_some, Option.isNone_none, reduceIte, reduceCtorEq, Nat.reduceEqDiff, Nat.reduceAdd, Nat.reduceLeDiff, Nat.zero_add, Nat.add_zero, Nat.reduceBEq, Bool.and_self, Bool.and_true, Bool.true_and, Bool.or_self, Bool.or_false, Bool.false_or, Bool.or_true, Bool.true_or, true_and, and_true, and_self, implies_true, forall_const, Bool.false_eq_true, id_eq, retQ, resOf, resV, Option.some.injEq, exists_eq_left', AV.d.injEq, D.v.injEq, Value.bool.injEq, imp_self, bldF, bldS, toVals, eqLs, Option.map_some, imp_false, not_true_eq_false, not_false_eq_true, foot, wrs, nm, nmL, PG.reads, PG.dst, PO.reads, X.sl, sls, slB, List.append_nil, List.cons_append, List.nil_append, Option.toList_some, Option.toList_none, loopQ_exit, loopQ_ret, subS, subO, Bool.bne_false, Bool.bne_true, elemsOf, bslD, bslS, mentries, isAgV, asA, lputs, mgetD_set, mcmp_set, mput_set, List.headD_cons, sealS, sealO, sealV, sealL, mput_nil, mcmp_nil, midQ_ret, midQ_exit, sealsS, sealsO, runW_nil, runW_cons, Bool.true_bne, Bool.false_bne, bne_self_eq_false, Int.reduceToNat, bndV, oSl, resR, runS_nil, runS_gc]
  all_goals try first
    | omega
    | (with_reducible rfl)
    | (show Value.int _ 0 = _; rfl)
    | (simp only [List.length_append, List.length_cons, List.length_nil]; omega)
    | (simp only [List.length_append, List.length_cons, List.length_nil, List.map_append, List.map_cons, List.map_nil]; done)
    | exact count64 hlt (by omega)
    | exact count64 ha.2.2.2 (by omega)
    | (simp at ha ⊢; omega)
    | exact none_set hlt
    | (simp only [List.replicate_zero, List.nil_append]; done)
    | (have h0 := of_decide_eq_false hc; rw [List.drop_eq_nil_of_le (by omega), show i = n.static.length by omega, List.append_nil]; done)
    | (rw [hao] at hc; cases hc; done)
    | (rw [hll2]; simp; done)
  all_goals trace_state

theorem solveNothing_as (av : List AV) (h : dArgs te 8 [25, 5] av) (hN : szAs av ≤ 1048576) : FnS Try.prog 8 av (.d (.v (.bool true))) := by
  obtain ⟨x, _, rfl, hx, y, _, rfl, hy, rfl⟩ := h
  obtain ⟨sh, rfl, hs⟩ := shape_of (n := 3) hx
  obtain ⟨w, rfl, hw⟩ := u8_row (n := 7) hy
  have hN : szAV sh.av + (1 + 0) ≤ 1048576 := hN
  have hSm := shape_small (sh := sh) (by omega)
  cases hx : sh.plain.netV w with
  | none => exact solveNothing_none sh hs w hw hSm.1 hSm.2 hx
  | some x =>
    obtain ⟨n, p⟩ := x
    exact solveNothing_some sh hs w hw hSm.1 hSm.2 n p hx
theorem isBulk {H : Type} : Bulk (H := H) Rows.uptoBulk Rows.uptoBulkAll where
  lit l := by cases l <;> simp [Rows.uptoBulk]
  str b := by simp [Rows.uptoBulk]
  nil := by simp [Rows.uptoBulk]
  slice l s := by simp [Rows.uptoBulk]
  agg l := by simp [Rows.uptoBulk]
  nilA := by simp [Rows.uptoBulkAll]
  cons x r := by simp [Rows.uptoBulkAll]

set_option maxRecDepth 100000 in
theorem solveNothing_lifted (os : Os) (started : os.Started) (H : Type) (enc : TypeId × Value → H) (F0 : Stop.Interp) :
    ReturnsInHanded {} Try.checked os 8 .any ((Rows.OpenSpec.upto Rows.solveNothingSpec).pre6 enc Try.prog Try.f8 Rows.solveNothingUptoRow.domain false) (((Rows.OpenSpec.upto Rows.solveNothingSpec).at F0).post enc Try.prog Try.f8 false true false false) := by
  refine returnsInHanded_of_cond (C := Try.checked) (s := Rows.OpenSpec.upto Rows.solveNothingSpec) (k := Rows.uptoSmall) rfl own started (by kernel_rfl) Try.func8
    (OpenSpec.witness (enc := enc) (C := Try.checked) (s := Rows.OpenSpec.upto Rows.solveNothingSpec) (k := Rows.uptoSmall) rfl false ⟨#[], #[.agg #[.int .u8 0, .slice none 0 0, .slice none 0 0, .slice none 0 0, .slice none 0 0, .slice none 0 0], .int .u8 0], []⟩ 8 (by kernel_rfl) (by kernel_rfl) (by kernel_rfl)
      (x := ([.agg [.lit (.int .u8 0), .nil, .nil, .nil, .nil, .nil], .lit (.int .u8 0)], [], [])) (by kernel_rfl) (by kernel_rfl) (by kernel_rfl)) ?_
  intro W base args ds gs before hval hW hcnd hk _
  have hp : Try.f8.params.toList = [25, 5] := by kernel_rfl
  refine law_callsU (n := 8) (b := 4) (N := 1048576) isBulk laidOut (by rw [hp]; exact List.forall_mem_cons.2 ⟨⟨by kernel_rfl, of_decide_eq_true (by kernel_rfl)⟩, List.forall_mem_cons.2 ⟨⟨by kernel_rfl, of_decide_eq_true (by kernel_rfl)⟩, (by simp)⟩⟩) (by rw [hp]; exact List.forall_mem_cons.2 ⟨by kernel_rfl, List.forall_mem_cons.2 ⟨by kernel_rfl, (by simp)⟩⟩) rfl (by kernel_rfl) (by kernel_rfl) (fun ds hd => ?_) hval hW (of_decide_eq_true hk) (fun av h hN => solveNothing_as av (argsT_d teok _ _ _ (by rw [hp]; exact List.forall_mem_cons.2 ⟨rfl, List.forall_mem_cons.2 ⟨rfl, (by simp)⟩⟩) h |> (hp ▸ ·)) hN)
  have hd : ds.length = 2 := hd
  match ds, hd with
  | [_, _], _ => rfl
theorem solveNothing_holds : Rows.SolveNothingUptoSaid :=
  OpenClaim.holds_of_cond 8 Try.f8 rfl rfl rfl rfl rfl rfl rfl ⟨rfl, rfl, rfl, rfl, rfl⟩ rfl rfl rfl rfl rfl (by kernel_rfl) Try.func8 (by kernel_rfl)
    (of_decide_eq_true (by kernel_rfl)) (by unfold Func.isWrapper; first | (rw [if_pos (by decide +kernel)]; kernel_rfl) | (rw [if_neg (by decide +kernel)]; exact ⟨rfl, rfl⟩))
    (fun os started H enc _ F0 => solveNothing_lifted os started H enc F0)
end Go.Proofs.Ytajkgmmmkhekmaa
