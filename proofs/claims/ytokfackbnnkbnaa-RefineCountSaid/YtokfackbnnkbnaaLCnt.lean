/- The law RefineCount: whatever the input, it returns true and changes nothing. Printed by a program of this project (wip/mq). -/
import Derived.Test.YtokfackbnnkbnaaNetF
import Derived.Test.YtokfackbnnkbnaaArgsS
import Derived.Test.YtokfackbnnkbnaaAwk17
set_option linter.unusedVariables false
set_option linter.unusedSimpArgs false

namespace Go.Proofs.Ytokfackbnnkbnaa
open Go Mq Go.ChangeShapes Go.WideShapes Go.ChangeAt Go.RowKit
/-! maquette/maquettelaw17.RefineCount -/
def f4r0 : List PG := [.u (.bx 4 (.t 1)), .u (.mv 6 (.k (.bool false)))]
def f4r1 : List PG := [.uc 15 10 [], .u (.no 16 (.t 15))]
def f4r2 : List PG := [.u (.mv 6 (.k (.bool false)))]
abbrev f4p0 : PC := .seq (.reg f4r2) (.ret)
abbrev f4p1 : PC := .cond (.t 16) (f4p0) (.skip)
def f4r3 : List PG := [.u (.mv 7 (.k (.int .i64 0)))]
def f4r4 : List PG := [.u (.mv 17 (.t 0)), .u (.len 18 (.t 17)), .u (.mv 19 (.k (.int .i64 0)))]
def f4r5 : List PG := [.u (.bo 20 .lss (.t 19) (.t 18))]
def f4r6 : List PG := [.u (.ia 21 1 (.t 17) (.t 19)), .u (.ld 22 1 false (.t 21)), .u (.mv 9 (.t 22))]
def f4r7 : List PG := [.u (.mv 23 (.t 9)), .u (.mv 24 (.t 7)), .u (.bo 25 .geq (.t 23) (.t 24)), .u (.mv 26 (.t 25)), .g 26 true (.mv 27 (.t 9)), .g 26 true (.bo 28 .lss (.t 27) (.k (.int .i64 1099511627776))), .u (.pick 29 (.t 26) (.t 28) (.k (.bool false)))]
def f4r8 : List PG := [.u (.mv 30 (.t 9)), .u (.bo 31 .add (.t 30) (.k (.int .i64 1))), .u (.mv 7 (.t 31))]
abbrev f4p2 : PC := .cond (.t 29) (.reg f4r8) (.skip)
def f4r9 : List PG := [.u (.mv 32 (.t 9)), .u (.bo 33 .geq (.t 32) (.k (.int .i64 1099511627776)))]
def f4r10 : List PG := [.u (.mv 6 (.k (.bool true)))]
abbrev f4p3 : PC := .seq (.reg f4r10) (.ret)
abbrev f4p4 : PC := .cond (.t 33) (f4p3) (.skip)
abbrev f4p5 : PC := .seq (.reg f4r9) (f4p4)
abbrev f4p6 : PC := .seq (.seq (.reg f4r7) (f4p2)) (f4p5)
def f4r11 : List PG := [.u (.bo 34 .add (.t 19) (.k (.int .i64 1))), .u (.mv 19 (.t 34))]
abbrev f4p7 : PC := .seq (.block 1 (.seq (.reg f4r6) (f4p6))) (.reg f4r11)
abbrev f4p8 : PC := .seq (.cond (.t 20) (.skip) (.exit 0)) (f4p7)
abbrev f4p9 : PC := .seq (.reg f4r5) (f4p8)
abbrev f4p10 : PC := .block 0 (.loop (f4p9))
def f4r12 : List PG := [.u (.mv 35 (.t 0)), .uc 36 13 [.t 35], .u (.mv 37 (.t 7)), .u (.beq 38 true false (.t 36) (.t 37))]
def f4r13 : List PG := [.u (.mv 6 (.k (.bool false)))]
abbrev f4p11 : PC := .seq (.reg f4r13) (.ret)
abbrev f4p12 : PC := .cond (.t 38) (f4p11) (.skip)
def f4r14 : List PG := [.u (.ld 40 6 true (.t 4)), .u (.mv 41 (.t 2)), .uc 42 14 [.t 40, .t 41], .u (.mv 39 (.t 42)), .u (.ext 43 (.t 39) 0), .u (.ext 44 (.t 39) 1), .u (.ext 45 (.t 39) 2), .u (.al 10 [.nl 1, .nl 1, .nl 1]), .u (.al 11 [.d (.v (.int .u32 0)), .d (.v (.int .i64 0))]), .u (.st 3 (.t 10) (.t 43)), .u (.st 2 (.t 11) (.t 44)), .u (.mv 12 (.t 45))]
def f4r15 : List PG := [.u (.mv 46 (.t 12)), .u (.no 47 (.t 46))]
def f4r16 : List PG := [.u (.mv 6 (.k (.bool true)))]
abbrev f4p13 : PC := .seq (.reg f4r16) (.ret)
abbrev f4p14 : PC := .cond (.t 47) (f4p13) (.skip)
def f4r17 : List PG := [.u (.ld 49 3 true (.t 10)), .uc 50 12 [.t 49], .u (.mv 48 (.t 50)), .u (.ext 51 (.t 48) 0), .u (.ext 52 (.t 48) 1), .u (.mv 13 (.t 51)), .u (.mv 14 (.t 52))]
def f4r18 : List PG := [.u (.mv 53 (.t 14)), .u (.beqn 54 false (.t 53)), .u (.mv 55 (.t 54)), .g 55 true (.mv 56 (.t 13)), .gc 55 true 57 13 [.t 56], .g 55 true (.bo 58 .geq (.t 57) (.k (.int .i64 1))), .u (.pick 59 (.t 55) (.t 58) (.k (.bool false))), .u (.mv 60 (.t 59)), .g 60 true (.mv 61 (.t 13)), .gc 60 true 62 13 [.t 61], .g 60 true (.fa 63 0 (.t 10)), .g 60 true (.ld 64 1 false (.t 63)), .g 60 true (.len 65 (.t 64)), .g 60 true (.bo 66 .leq (.t 62) (.t 65)), .u (.pick 67 (.t 60) (.t 66) (.k (.bool false))), .u (.mv 68 (.t 67)), .g 68 true (.mv 69 (.t 13)), .g 68 true (.mv 70 (.t 13)), .gc 68 true 71 16 [.t 70], .gc 68 true 72 15 [.t 69, .t 71], .u (.pick 73 (.t 68) (.t 72) (.k (.bool false))), .u (.mv 6 (.t 73))]
abbrev f4p15 : PC := .seq (.regD f4r18 []) (.ret)
abbrev f4p16 : PC := .seq (.reg f4r17) (f4p15)
abbrev f4p17 : PC := .seq (.seq (.reg f4r15) (f4p14)) (f4p16)
abbrev f4p18 : PC := .seq (.reg f4r14) (f4p17)
abbrev f4p19 : PC := .seq (.seq (.reg f4r12) (f4p12)) (f4p18)
abbrev f4p20 : PC := .seq (.seq (.reg f4r4) (f4p10)) (f4p19)
abbrev f4p21 : PC := .seq (.reg f4r3) (f4p20)
abbrev f4p22 : PC := .seq (.seq (.reg f4r1) (f4p1)) (f4p21)
abbrev f4pc : PC := .seq (.reg f4r0) (f4p22)
def f4k : List Nat := [0, 1, 2, 4, 6, 7, 9, 10, 12, 13, 14, 16, 17, 18, 19, 20, 29, 33, 38, 47]
theorem f4c : Try.f4.body.bind (cC te Try.f4.ntmps) = some f4pc := by kernel_rfl
set_option maxRecDepth 20000
set_option maxHeartbeats 4000000
set_option linter.unusedSimpArgs false
set_option linter.unusedVariables false

theorem cnt_step {b : List Int} {k : Nat} {v c T : Int} (h : (b.drop k).foldl (fun n k => mx n (k + 1)) c = T) (hd : b.drop k = v :: b.drop (k + 1)) : (b.drop (k + 1)).foldl (fun n k => mx n (k + 1)) (mx c (v + 1)) = T := by rw [hd, List.foldl_cons] at h; exact h
theorem mx_yes {c v : Int} (h : (if decide (c ≤ v) = true then decide (v < 1099511627776) else false) = true) : mx c (v + 1) = v + 1 ∧ v < 1099511627776 := by
  by_cases h1 : c ≤ v
  · rw [decide_eq_true h1, if_pos rfl] at h
    have := of_decide_eq_true h
    exact ⟨by unfold mx; rw [if_pos (by omega)], this⟩
  · rw [decide_eq_false h1] at h; simp at h
theorem mx_no {c v : Int} (h : (if decide (c ≤ v) = true then decide (v < 1099511627776) else false) = false) (hv : v < 1099511627776) : mx c (v + 1) = c := by
  by_cases h1 : c ≤ v
  · rw [decide_eq_true h1, if_pos rfl] at h
    exact absurd hv (of_decide_eq_false h)
  · unfold mx; rw [if_neg (by omega)]
theorem low_snoc {b : List Int} {k : Nat} {v : Int} (h : ∀ x ∈ b.take k, x ≤ 1099511627776) (hk : b[k]? = some v) (hv : v < 1099511627776) : ∀ x ∈ b.take (k + 1), x ≤ 1099511627776 := by
  intro x hx
  rw [List.take_add_one, hk] at hx
  rcases List.mem_append.1 hx with q | q
  · exact h x q
  · simp at q; omega
theorem int_rowQ {n : Nat} {x : List D} (h : dT te (n + 1) 3 x) : ∃ m : Int, x = iD m ∧ -9223372036854775808 ≤ m := by
  simp only [dT, te3] at h
  obtain ⟨m, rfl, h1, h2⟩ := h
  exact ⟨m, rfl, h1⟩

theorem refineCount_none (b : List Int) (hbl : b.length ≤ maxLen) (hb64 : ∀ x ∈ b, -9223372036854775808 ≤ x) (sh : Shape) (hs : sh.ok) (w : Int) (hw : 0 ≤ w ∧ w ≤ 255) (hx : sh.netV w = none) : FnS Try.prog 4 [.d (.sl 1 (b.map iD)), sh.av, .d (.v (.int .u8 w))] (.d (.v (.bool true))) := by
  have hm : maxLen = 9223372036854775807 := rfl
  have hN := netOfF_fn sh hs w hw
  rw [hx] at hN
  simp only [netA] at hN
  clear hx
  refine fn_of teok Try.func4 (by kernel_rfl) f4c f4k [.tmp 6] rfl (by show 3 ≤ 74; omega) ?_
  first | (have _q := @g1; clear _q) | have g1 : Nat.pred 77 = 76 := rfl
  first | (have _q := @g2; clear _q) | have g2 : Nat.pred 77 = 76 := rfl
  first | (have _q := @g3; clear _q) | have g3 : Nat.pred 77 = 76 := rfl
  repeat' first
  | (exact absurd hc (by decide))
  | with_reducible refine awp_seq ?_
  | with_reducible refine awp_block ?_
  | with_reducible refine awp_scope ?_
  | with_reducible refine awp_reg ?_
  | with_reducible refine awp_regD ?_
  | with_reducible refine awp_ret ?_
  | with_reducible refine awp_skip ?_
  | with_reducible refine awp_exit ?_
  | with_reducible refine normQ_of ?_
  | with_reducible refine wkE_of ?_
  | with_reducible refine midQ_of (Wk_sub rfl rfl ?_ ?_)
  | with_reducible refine runD_nil ?_
  | with_reducible refine runD_cons ?_
  | with_reducible refine runF_cons ?_
  | with_reducible refine runF_nil ?_
  | with_reducible refine KF_of ?_
  | with_reducible refine chkQ_of rfl ?_
  | with_reducible refine awp_cond (by simp only [evX, lget, Option.getD_some, reduceIte, Nat.reduceEqDiff]; rfl) (fun hc => ?_) (fun hc => ?_)
  | with_reducible refine CallU_of (f := 10) (awake17_fn) (by first | exact Or.inr (Or.inl rfl) | exact Or.inl rfl) ?_
  | with_reducible refine CallC_of (f := 10) (fun _ => awake17_fn) (by first | exact Or.inr (Or.inl rfl) | exact Or.inl rfl) ?_
  | with_reducible refine CallU_of (f := 14) (hN) (by first | exact Or.inr (Or.inl rfl) | exact Or.inl rfl) ?_
  | with_reducible refine CallC_of (f := 14) (fun _ => hN) (by first | exact Or.inr (Or.inl rfl) | exact Or.inl rfl) ?_
  | with_reducible refine CallU_of (f := 13) (count_fn b hbl (fun v hv => ⟨hb64 v hv, hlow v hv⟩)) (by first | exact Or.inr (Or.inl rfl) | exact Or.inl rfl) ?_
  | with_reducible refine CallC_of (f := 13) (fun _ => count_fn b hbl (fun v hv => ⟨hb64 v hv, hlow v hv⟩)) (by first | exact Or.inr (Or.inl rfl) | exact Or.inl rfl) ?_
  | (with_reducible assumption)
  | with_reducible refine fun (hG : okL _) => ?_
  | (with_reducible refine fun (hT : (_ : Bool) = _) => ?_)
  | (with_reducible first | exact hG.2 | exact hG.2.2 | exact hG.2.2.2 | exact hG.2.2.2.2)
  | with_reducible refine okL_mk ?_ ?_
  | with_reducible refine And.intro ?_ ?_
  | (with_reducible refine loopQ_next ((x.1 + 1, mx x.2 (v + 1))) ?_ ?_ (Wk_sub rfl rfl ?_ ?_))
  | (with_reducible refine awp_loopU (b := f4p9) (fun x : Nat × Int => x.1 ≤ b.length ∧ (0 ≤ x.2 ∧ x.2 ≤ 1099511627776) ∧ (∀ u ∈ b.take x.1, u ≤ 1099511627776) ∧ (b.drop x.1).foldl (fun n k => mx n (k + 1)) x.2 = countV b) (fun x => b.length - x.1) (fun x => [(19, .d (.v (.int .i64 x.1))), (7, .d (.v (.int .i64 x.2)))]) (fun x => []) ((0, 0)) (⟨Nat.zero_le _, by decide, by simp, rfl⟩) (Wk.refl _ _) (Wk_sub rfl rfl ?_ ?_) (fun x hx => ?_))
  | (refine Exists.elim (at_drop iD b x.1 (Int.ofNat_lt.1 (of_decide_eq_true (show decide ((x.1 : Int) < b.length) = true from hc)))) (fun v hv => ?_); have g1 := hv.2.1; simp only [Int.toNat_natCast] at g1; have hvk := hv.2.2.2; replace hc : True := trivial)
  | (have hmy := mx_yes hc; have g2 := wrapI64 (v + 1) (by have := hb64 v (List.mem_of_getElem? hv.2.2.1); omega) (by omega); replace hc : True := trivial)
  | (have hmn : (if decide (x.2 ≤ v) = true then decide (v < 1099511627776) else false) = false := hc; replace hc : True := trivial)
  | (have hbig : 1099511627776 ≤ v := of_decide_eq_true hc; replace hc : True := trivial)
  | (have hbig : ¬ 1099511627776 ≤ v := of_decide_eq_false hc; replace hc : True := trivial)
  | (have _q : decide ((x.1 : Int) < b.length) = false := hc; have hend : b.length ≤ x.1 := (by have := of_decide_eq_false _q; omega); have hlow : ∀ u ∈ b, u ≤ 1099511627776 := (by have h1 := hx.2.2.1; rw [List.take_of_length_le hend] at h1; exact h1); have hcx : x.2 = countV b := (by have h1 := hx.2.2.2; rw [List.drop_eq_nil_of_le hend] at h1; exact h1); have g3 : (countV b == x.2) = true := (by rw [hcx]; simp); replace hc : True := trivial)
  | simp only [f4r0, f4r1, f4r2, f4r3, f4r4, f4r5, f4r6, f4r7, f4r8, f4r9, f4r10, f4r11, f4r12, f4r13, f4r14, f4r15, f4r16, f4r17, f4r18, g1, g2, g3, f4k, te29, te47, te44, List.length_map, Int.toNat_natCast, List.getElem?_cons_zero, List.getElem?_cons_succ, runG_nil, runG_u, runG_g, runG_ucS, runG_gcS, runG_uvS, stp, avL, avS, evs, evX, lget, lput, strip, putO, PO.dst, updO, okR, cells, splice, AV.cell, toD, toDs, binV, sameK, pickV, guardOf, okL_nil, sides, argsOf, rawOf, dv, dvL, owns, ownsL, flat, flatL, lkeep, seqQ, blockQ, initS, List.drop_succ_cons, List.drop_zero, List.take_succ_cons, List.take_zero, List.getD_cons_zero, List.getD_cons_succ, List.length_cons, List.length_nil, List.set_cons_zero, List.set_cons_succ, List.map_cons, List.map_nil, List.all_cons, List.all_nil, List.elem_cons, List.elem_nil, Option.getD_some, Option.getD_none, Option.bind_some, Option.isNone_none, reduceIte, reduceCtorEq, Nat.reduceEqDiff, Nat.reduceAdd, Nat.reduceLeDiff, Nat.zero_add, Nat.add_zero, Nat.reduceBEq, Bool.and_self, Bool.and_true, Bool.true_and, Bool.or_self, Bool.or_false, Bool.false_or, Bool.or_true, Bool.true_or, true_and, and_true, and_self, implies_true, forall_const, Bool.false_eq_true, id_eq, retQ, resOf, resV, Option.some.injEq, exists_eq_left', AV.d.injEq, D.v.injEq, Value.bool.injEq, imp_self, bldF, bldS, toVals, eqLs, Option.map_some, imp_false, not_true_eq_false, not_false_eq_true, foot, wrs, nm, nmL, PG.reads, PG.dst, PO.reads, X.sl, sls, slB, List.append_nil, List.cons_append, List.nil_append, Option.toList_some, Option.toList_none, loopQ_exit, loopQ_ret, subS, subO, Bool.bne_false, Bool.bne_true, elemsOf, bslD, bslS, mentries, isAgV, asA, lputs, mgetD_set, mcmp_set, mput_set, List.headD_cons, sealS, sealO, sealV, sealL, mput_nil, mcmp_nil, midQ_ret, midQ_exit, sealsS, sealsO, runW_nil, runW_cons, Bool.true_bne, Bool.false_bne, bne_self_eq_false, Int.reduceToNat, bndV, oSl, resR, runS_nil, runS_gc, ren, renL, renO, sg, gBack, scopeQ_normal, scopeQ_ret, scopeQ_exit, lenB, argsN, dvN]
  all_goals try first
    | omega
    | (with_reducible rfl)
    | (show Value.int _ 0 = _; rfl)
    | (simp only [List.length_append, List.length_cons, List.length_nil]; omega)
    | (simp only [List.length_append, List.length_cons, List.length_nil, List.map_append, List.map_cons, List.map_nil]; done)
    | exact count64 hvk hbl
    | (exfalso; omega)
    | exact hx.2.2.1
    | exact ⟨by have := mx_yes; omega, by omega⟩
    | (have h9 : 0 ≤ x.2 := hx.2.1.1; show 0 ≤ mx x.2 (v + 1); unfold mx; split <;> omega)
    | exact cnt_step hx.2.2.2 hv.1
    | exact low_snoc hx.2.2.1 hv.2.2.1 (by omega)
    | (rw [hmy.1]; done)
    | (rw [mx_no hmn (by omega)]; done)
    | (rw [hmy.1]; omega)
    | (rw [mx_no hmn (by omega)]; exact hx.2.1)
    | (rw [mx_no hmn (by omega)]; omega)
    | rfl
    | decide
  all_goals trace_state

theorem refineCount_some (b : List Int) (hbl : b.length ≤ maxLen) (hb64 : ∀ x ∈ b, -9223372036854775808 ≤ x) (sh : Shape) (hs : sh.ok) (w : Int) (hw : 0 ≤ w ∧ w ≤ 255) (n : Net) (p : Int × Int) (hx : sh.netV w = some (n, p)) : FnS Try.prog 4 [.d (.sl 1 (b.map iD)), sh.av, .d (.v (.int .u8 w))] (.d (.v (.bool true))) := by
  have hm : maxLen = 9223372036854775807 := rfl
  have hN := netOfF_fn sh hs w hw
  rw [hx] at hN
  simp only [netA] at hN
  obtain ⟨hsm, hmay, m, hnl, hn0⟩ := net_facts hx
  simp only at hsm hmay m hnl hn0
  have hR := rof_yes n hsm hmay
  have hfs := find_spec m
  have hl := hfs.1.len
  have hC := count_of n m (findV n) hfs.1
  have hcr := find_count hmay hn0
  have hNm := num17_fn (findV n) (by omega)
  rw [can_num hfs.1.can] at hNm
  have hS := sameB_self (findV n) (by omega)
  have g4 : decide (1 ≤ countV (findV n)) = true := decide_eq_true hcr.1
  have g5 : decide (countV (findV n) ≤ (n.origin.length : Int)) = true := decide_eq_true hcr.2
  clear hx
  refine fn_of teok Try.func4 (by kernel_rfl) f4c f4k [.tmp 6] rfl (by show 3 ≤ 74; omega) ?_
  first | (have _q := @g1; clear _q) | have g1 : Nat.pred 77 = 76 := rfl
  first | (have _q := @g2; clear _q) | have g2 : Nat.pred 77 = 76 := rfl
  first | (have _q := @g4; clear _q) | have g4 : Nat.pred 77 = 76 := rfl
  first | (have _q := @g5; clear _q) | have g5 : Nat.pred 77 = 76 := rfl
  first | (have _q := @g3; clear _q) | have g3 : Nat.pred 77 = 76 := rfl
  repeat' first
  | (exact absurd hc (by decide))
  | with_reducible refine awp_seq ?_
  | with_reducible refine awp_block ?_
  | with_reducible refine awp_scope ?_
  | with_reducible refine awp_reg ?_
  | with_reducible refine awp_regD ?_
  | with_reducible refine awp_ret ?_
  | with_reducible refine awp_skip ?_
  | with_reducible refine awp_exit ?_
  | with_reducible refine normQ_of ?_
  | with_reducible refine wkE_of ?_
  | with_reducible refine midQ_of (Wk_sub rfl rfl ?_ ?_)
  | with_reducible refine runD_nil ?_
  | with_reducible refine runD_cons ?_
  | with_reducible refine runF_cons ?_
  | with_reducible refine runF_nil ?_
  | with_reducible refine KF_of ?_
  | with_reducible refine chkQ_of rfl ?_
  | with_reducible refine awp_cond (by simp only [evX, lget, Option.getD_some, reduceIte, Nat.reduceEqDiff]; rfl) (fun hc => ?_) (fun hc => ?_)
  | with_reducible refine CallU_of (f := 10) (awake17_fn) (by first | exact Or.inr (Or.inl rfl) | exact Or.inl rfl) ?_
  | with_reducible refine CallC_of (f := 10) (fun _ => awake17_fn) (by first | exact Or.inr (Or.inl rfl) | exact Or.inl rfl) ?_
  | with_reducible refine CallU_of (f := 14) (hN) (by first | exact Or.inr (Or.inl rfl) | exact Or.inl rfl) ?_
  | with_reducible refine CallC_of (f := 14) (fun _ => hN) (by first | exact Or.inr (Or.inl rfl) | exact Or.inl rfl) ?_
  | with_reducible refine CallU_of (f := 13) (count_fn b hbl (fun v hv => ⟨hb64 v hv, hlow v hv⟩)) (by first | exact Or.inr (Or.inl rfl) | exact Or.inl rfl) ?_
  | with_reducible refine CallC_of (f := 13) (fun _ => count_fn b hbl (fun v hv => ⟨hb64 v hv, hlow v hv⟩)) (by first | exact Or.inr (Or.inl rfl) | exact Or.inl rfl) ?_
  | with_reducible refine CallU_of (f := 12) (hR) (by first | exact Or.inr (Or.inl rfl) | exact Or.inl rfl) ?_
  | with_reducible refine CallC_of (f := 12) (fun _ => hR) (by first | exact Or.inr (Or.inl rfl) | exact Or.inl rfl) ?_
  | with_reducible refine CallU_of (f := 13) (hC) (by first | exact Or.inr (Or.inl rfl) | exact Or.inl rfl) ?_
  | with_reducible refine CallC_of (f := 13) (fun _ => hC) (by first | exact Or.inr (Or.inl rfl) | exact Or.inl rfl) ?_
  | with_reducible refine CallU_of (f := 16) (hNm) (by first | exact Or.inr (Or.inl rfl) | exact Or.inl rfl) ?_
  | with_reducible refine CallC_of (f := 16) (fun _ => hNm) (by first | exact Or.inr (Or.inl rfl) | exact Or.inl rfl) ?_
  | with_reducible refine CallU_of (f := 15) (hS) (by first | exact Or.inr (Or.inl rfl) | exact Or.inl rfl) ?_
  | with_reducible refine CallC_of (f := 15) (fun _ => hS) (by first | exact Or.inr (Or.inl rfl) | exact Or.inl rfl) ?_
  | (with_reducible assumption)
  | with_reducible refine fun (hG : okL _) => ?_
  | (with_reducible refine fun (hT : (_ : Bool) = _) => ?_)
  | (with_reducible first | exact hG.2 | exact hG.2.2 | exact hG.2.2.2 | exact hG.2.2.2.2)
  | with_reducible refine okL_mk ?_ ?_
  | with_reducible refine And.intro ?_ ?_
  | (with_reducible refine loopQ_next ((x.1 + 1, mx x.2 (v + 1))) ?_ ?_ (Wk_sub rfl rfl ?_ ?_))
  | (with_reducible refine awp_loopU (b := f4p9) (fun x : Nat × Int => x.1 ≤ b.length ∧ (0 ≤ x.2 ∧ x.2 ≤ 1099511627776) ∧ (∀ u ∈ b.take x.1, u ≤ 1099511627776) ∧ (b.drop x.1).foldl (fun n k => mx n (k + 1)) x.2 = countV b) (fun x => b.length - x.1) (fun x => [(19, .d (.v (.int .i64 x.1))), (7, .d (.v (.int .i64 x.2)))]) (fun x => []) ((0, 0)) (⟨Nat.zero_le _, by decide, by simp, rfl⟩) (Wk.refl _ _) (Wk_sub rfl rfl ?_ ?_) (fun x hx => ?_))
  | (refine Exists.elim (at_drop iD b x.1 (Int.ofNat_lt.1 (of_decide_eq_true (show decide ((x.1 : Int) < b.length) = true from hc)))) (fun v hv => ?_); have g1 := hv.2.1; simp only [Int.toNat_natCast] at g1; have hvk := hv.2.2.2; replace hc : True := trivial)
  | (have hmy := mx_yes hc; have g2 := wrapI64 (v + 1) (by have := hb64 v (List.mem_of_getElem? hv.2.2.1); omega) (by omega); replace hc : True := trivial)
  | (have hmn : (if decide (x.2 ≤ v) = true then decide (v < 1099511627776) else false) = false := hc; replace hc : True := trivial)
  | (have hbig : 1099511627776 ≤ v := of_decide_eq_true hc; replace hc : True := trivial)
  | (have hbig : ¬ 1099511627776 ≤ v := of_decide_eq_false hc; replace hc : True := trivial)
  | (have _q : decide ((x.1 : Int) < b.length) = false := hc; have hend : b.length ≤ x.1 := (by have := of_decide_eq_false _q; omega); have hlow : ∀ u ∈ b, u ≤ 1099511627776 := (by have h1 := hx.2.2.1; rw [List.take_of_length_le hend] at h1; exact h1); have hcx : x.2 = countV b := (by have h1 := hx.2.2.2; rw [List.drop_eq_nil_of_le hend] at h1; exact h1); have g3 : (countV b == x.2) = true := (by rw [hcx]; simp); replace hc : True := trivial)
  | simp only [f4r0, f4r1, f4r2, f4r3, f4r4, f4r5, f4r6, f4r7, f4r8, f4r9, f4r10, f4r11, f4r12, f4r13, f4r14, f4r15, f4r16, f4r17, f4r18, g1, g2, g4, g5, g3, f4k, te29, te47, te44, List.length_map, Int.toNat_natCast, List.getElem?_cons_zero, List.getElem?_cons_succ, runG_nil, runG_u, runG_g, runG_ucS, runG_gcS, runG_uvS, stp, avL, avS, evs, evX, lget, lput, strip, putO, PO.dst, updO, okR, cells, splice, AV.cell, toD, toDs, binV, sameK, pickV, guardOf, okL_nil, sides, argsOf, rawOf, dv, dvL, owns, ownsL, flat, flatL, lkeep, seqQ, blockQ, initS, List.drop_succ_cons, List.drop_zero, List.take_succ_cons, List.take_zero, List.getD_cons_zero, List.getD_cons_succ, List.length_cons, List.length_nil, List.set_cons_zero, List.set_cons_succ, List.map_cons, List.map_nil, List.all_cons, List.all_nil, List.elem_cons, List.elem_nil, Option.getD_some, Option.getD_none, Option.bind_some, Option.isNone_none, reduceIte, reduceCtorEq, Nat.reduceEqDiff, Nat.reduceAdd, Nat.reduceLeDiff, Nat.zero_add, Nat.add_zero, Nat.reduceBEq, Bool.and_self, Bool.and_true, Bool.true_and, Bool.or_self, Bool.or_false, Bool.false_or, Bool.or_true, Bool.true_or, true_and, and_true, and_self, implies_true, forall_const, Bool.false_eq_true, id_eq, retQ, resOf, resV, Option.some.injEq, exists_eq_left', AV.d.injEq, D.v.injEq, Value.bool.injEq, imp_self, bldF, bldS, toVals, eqLs, Option.map_some, imp_false, not_true_eq_false, not_false_eq_true, foot, wrs, nm, nmL, PG.reads, PG.dst, PO.reads, X.sl, sls, slB, List.append_nil, List.cons_append, List.nil_append, Option.toList_some, Option.toList_none, loopQ_exit, loopQ_ret, subS, subO, Bool.bne_false, Bool.bne_true, elemsOf, bslD, bslS, mentries, isAgV, asA, lputs, mgetD_set, mcmp_set, mput_set, List.headD_cons, sealS, sealO, sealV, sealL, mput_nil, mcmp_nil, midQ_ret, midQ_exit, sealsS, sealsO, runW_nil, runW_cons, Bool.true_bne, Bool.false_bne, bne_self_eq_false, Int.reduceToNat, bndV, oSl, resR, runS_nil, runS_gc, ren, renL, renO, sg, gBack, scopeQ_normal, scopeQ_ret, scopeQ_exit, lenB, argsN, dvN]
  all_goals try first
    | omega
    | (with_reducible rfl)
    | (show Value.int _ 0 = _; rfl)
    | (simp only [List.length_append, List.length_cons, List.length_nil]; omega)
    | (simp only [List.length_append, List.length_cons, List.length_nil, List.map_append, List.map_cons, List.map_nil]; done)
    | exact count64 hvk hbl
    | (exfalso; omega)
    | exact hx.2.2.1
    | exact ⟨by have := mx_yes; omega, by omega⟩
    | (have h9 : 0 ≤ x.2 := hx.2.1.1; show 0 ≤ mx x.2 (v + 1); unfold mx; split <;> omega)
    | exact cnt_step hx.2.2.2 hv.1
    | exact low_snoc hx.2.2.1 hv.2.2.1 (by omega)
    | (rw [hmy.1]; done)
    | (rw [mx_no hmn (by omega)]; done)
    | (rw [hmy.1]; omega)
    | (rw [mx_no hmn (by omega)]; exact hx.2.1)
    | (rw [mx_no hmn (by omega)]; omega)
    | rfl
    | decide
    | (simp; done)
  all_goals trace_state

theorem refineCount_as (av : List AV) (h : dArgs te 8 [26, 44, 5] av) : FnS Try.prog 4 av (.d (.v (.bool true))) := by
  obtain ⟨z, _, rfl, hz, x, _, rfl, hx, y, _, rfl, hy, rfl⟩ := h
  obtain ⟨sh, rfl, hs⟩ := shape_of (n := 3) hx
  obtain ⟨w, rfl, hw⟩ := u8_row (n := 7) hy
  rw [dT] at hz
  simp only [te26, te3] at hz
  obtain ⟨l, rfl, hml, hl⟩ := hz
  obtain ⟨b, rfl, hb⟩ := rows_ofQ iD _ (fun x => -9223372036854775808 ≤ x) (fun x hx => int_rowQ hx) l (fun x hx => (hl x hx).2)
  cases hx : sh.netV w with
  | none => exact refineCount_none b (by simpa using hml) hb sh hs w hw hx
  | some x =>
    obtain ⟨n, p⟩ := x
    exact refineCount_some b (by simpa using hml) hb sh hs w hw n p hx

set_option maxRecDepth 100000 in
theorem refineCount_lifted (os : Os) (started : os.Started) (H : Type) (enc : TypeId × Value → H) :
    ReturnsInHanded {} Try.checked os 4 .any (Rows.refineCountSpec.pre6 enc Try.prog Try.f4 Rows.refineCountRow.domain false) (Rows.refineCountSpec.post enc Try.prog Try.f4 false true false false) := by
  refine returnsInHanded_of_change (C := Try.checked) own started (by kernel_rfl) Try.func4
    (ChangeSpec.witness6 (enc := enc) (C := Try.checked) false ⟨#[], #[.slice none 0 0, .agg #[.int .u8 0, .slice none 0 0, .slice none 0 0, .slice none 0 0, .slice none 0 0, .slice none 0 0], .int .u8 0], []⟩ 8 (by kernel_rfl) (by kernel_rfl) (by kernel_rfl) (by kernel_rfl)) ?_
  intro W base args ds gs before hval hW hcnd _
  have hp : Try.f4.params.toList = [26, 44, 5] := by kernel_rfl
  refine law_calls (n := 8) (b := 4) laidOut (by rw [hp]; exact List.forall_mem_cons.2 ⟨⟨by kernel_rfl, of_decide_eq_true (by kernel_rfl)⟩, List.forall_mem_cons.2 ⟨⟨by kernel_rfl, of_decide_eq_true (by kernel_rfl)⟩, List.forall_mem_cons.2 ⟨⟨by kernel_rfl, of_decide_eq_true (by kernel_rfl)⟩, (by simp)⟩⟩⟩) (by rw [hp]; exact List.forall_mem_cons.2 ⟨by kernel_rfl, List.forall_mem_cons.2 ⟨by kernel_rfl, List.forall_mem_cons.2 ⟨by kernel_rfl, (by simp)⟩⟩⟩) rfl (by kernel_rfl) (by kernel_rfl) (fun ds hd => ?_) hval hW (GX.nil _) (fun av h => refineCount_as av (argsT_d teok _ _ _ (by rw [hp]; exact List.forall_mem_cons.2 ⟨rfl, List.forall_mem_cons.2 ⟨rfl, List.forall_mem_cons.2 ⟨rfl, (by simp)⟩⟩⟩) h |> (hp ▸ ·)))
  have hd : ds.length = 3 := hd
  match ds, hd with
  | [_, _, _], _ => rfl
theorem refineCount_holds : Rows.RefineCountSaid :=
  OpenClaim.holds_of_wide 4 Try.f4 rfl rfl rfl rfl rfl rfl rfl ⟨rfl, rfl, rfl, rfl, rfl⟩ rfl rfl rfl rfl rfl (by kernel_rfl) Try.func4 (by kernel_rfl)
    (of_decide_eq_true (by kernel_rfl)) (by unfold Func.isWrapper; first | (rw [if_pos (by decide +kernel)]; kernel_rfl) | (rw [if_neg (by decide +kernel)]; exact ⟨rfl, rfl⟩))
    (fun os started H enc _ => refineCount_lifted os started H enc)
end Go.Proofs.Ytokfackbnnkbnaa

