/- What audit.Is comes to. Printed by a program of this project (wip/mq). -/
import Derived.Test.YtgkkaimcchlnaaaGreatDoorAud
import Derived.Test.YtgkkaimcchlnaaaGreatDoorNum
set_option linter.unusedVariables false
set_option linter.unusedSimpArgs false

namespace Go.Proofs.YtgkkaimcchlnaaaGreatDoor
open Go Mq Go.ChangeShapes Go.WideShapes Go.ChangeAt Go.RowKit
/-! maquette/audit.Is -/
def f35r0 : List PG := [.u (.bx 3 (.t 0)), .u (.bx 4 (.t 1)), .u (.mv 6 (.k (.nilIface)))]
def f35r1 : List PG := [.u (.ld 14 3 true (.t 3)), .uc 15 42 [.t 14], .u (.no 16 (.t 15)), .u (.mv 17 (.t 16)), .g 17 false (.ld 18 3 true (.t 4)), .gc 17 false 19 42 [.t 18], .g 17 false (.no 20 (.t 19)), .u (.pick 21 (.t 17) (.k (.bool true)) (.t 20)), .u (.mv 22 (.t 21)), .g 22 false (.mv 23 (.t 2)), .g 22 false (.len 24 (.t 23)), .g 22 false (.fa 25 0 (.t 3)), .g 22 false (.ld 26 1 false (.t 25)), .g 22 false (.len 27 (.t 26)), .g 22 false (.beq 28 true false (.t 24) (.t 27)), .u (.pick 29 (.t 22) (.k (.bool true)) (.t 28))]
def f35r2 : List PG := [.u (.mki 30 95 (.k (.int .i64 10))), .u (.mv 6 (.t 30))]
abbrev f35p0 : PC := .seq (.reg f35r2) (.ret)
abbrev f35p1 : PC := .cond (.t 29) (f35p0) (.skip)
def f35r3 : List PG := [.u (.fa 31 0 (.t 4)), .u (.ld 32 1 false (.t 31)), .u (.len 33 (.t 32)), .u (.mks 34 3 1 8 [.d (.v (.int .i64 0))] (.t 33)), .u (.mv 7 (.t 34))]
def f35r4 : List PG := [.u (.mv 35 (.t 2)), .u (.len 36 (.t 35)), .u (.mv 37 (.k (.int .i64 0)))]
def f35r5 : List PG := [.u (.bo 38 .lss (.t 37) (.t 36))]
def f35r6 : List PG := [.u (.ia 39 1 (.t 35) (.t 37)), .u (.ld 40 1 false (.t 39)), .u (.mv 9 (.t 40))]
def f35r7 : List PG := [.u (.mv 41 (.t 9)), .u (.bo 42 .lss (.t 41) (.k (.int .i64 0))), .u (.mv 43 (.t 42)), .g 43 false (.mv 44 (.t 9)), .g 43 false (.mv 45 (.t 7)), .g 43 false (.len 46 (.t 45)), .g 43 false (.bo 47 .geq (.t 44) (.t 46)), .u (.pick 48 (.t 43) (.k (.bool true)) (.t 47))]
def f35r8 : List PG := [.u (.mki 49 95 (.k (.int .i64 10))), .u (.mv 6 (.t 49))]
abbrev f35p2 : PC := .seq (.reg f35r8) (.ret)
abbrev f35p3 : PC := .cond (.t 48) (f35p2) (.skip)
def f35r9 : List PG := [.u (.mv 50 (.t 7)), .u (.mv 51 (.t 9)), .u (.ia 52 1 (.t 50) (.t 51)), .u (.ld 53 1 false (.t 52)), .u (.bo 54 .add (.t 53) (.k (.int .i64 1))), .u (.ia 55 1 (.t 50) (.t 51)), .u (.st 1 (.t 55) (.t 54))]
abbrev f35p4 : PC := .seq (.seq (.reg f35r7) (f35p3)) (.reg f35r9)
def f35r10 : List PG := [.u (.bo 56 .add (.t 37) (.k (.int .i64 1))), .u (.mv 37 (.t 56))]
abbrev f35p5 : PC := .seq (.block 1 (.seq (.reg f35r6) (f35p4))) (.reg f35r10)
abbrev f35p6 : PC := .seq (.cond (.t 38) (.skip) (.exit 0)) (f35p5)
abbrev f35p7 : PC := .seq (.reg f35r5) (f35p6)
abbrev f35p8 : PC := .block 0 (.loop (f35p7))
def f35r11 : List PG := [.u (.mv 57 (.t 7)), .u (.len 58 (.t 57)), .u (.mv 59 (.k (.int .i64 0)))]
def f35r12 : List PG := [.u (.bo 60 .lss (.t 59) (.t 58))]
def f35r13 : List PG := [.u (.ia 61 1 (.t 57) (.t 59)), .u (.ld 62 1 false (.t 61)), .u (.mv 11 (.t 62))]
def f35r14 : List PG := [.u (.mv 63 (.t 11)), .u (.beq 64 false false (.t 63) (.k (.int .i64 0)))]
def f35r15 : List PG := [.u (.mki 65 95 (.k (.int .i64 10))), .u (.mv 6 (.t 65))]
abbrev f35p9 : PC := .seq (.reg f35r15) (.ret)
abbrev f35p10 : PC := .cond (.t 64) (f35p9) (.skip)
abbrev f35p11 : PC := .seq (.reg f35r14) (f35p10)
def f35r16 : List PG := [.u (.bo 66 .add (.t 59) (.k (.int .i64 1))), .u (.mv 59 (.t 66))]
abbrev f35p12 : PC := .seq (.block 3 (.seq (.reg f35r13) (f35p11))) (.reg f35r16)
abbrev f35p13 : PC := .seq (.cond (.t 60) (.skip) (.exit 2)) (f35p12)
abbrev f35p14 : PC := .seq (.reg f35r12) (f35p13)
abbrev f35p15 : PC := .block 2 (.loop (f35p14))
def f35r17 : List PG := [.u (.mv 67 (.t 2)), .u (.len 68 (.t 67)), .u (.mv 69 (.k (.int .i64 0)))]
def f35r18 : List PG := [.u (.bo 70 .lss (.t 69) (.t 68))]
def f35r19 : List PG := [.u (.mv 71 (.t 69)), .u (.ia 72 1 (.t 67) (.t 69)), .u (.ld 73 1 false (.t 72)), .u (.mv 12 (.t 71)), .u (.mv 13 (.t 73))]
def f35r20 : List PG := [.u (.ld 74 3 true (.t 3)), .u (.ld 75 3 true (.t 4)), .u (.mv 76 (.t 2)), .u (.mv 77 (.t 12)), .u (.mv 78 (.t 7)), .u (.mv 79 (.t 13)), .u (.ia 80 1 (.t 78) (.t 79)), .u (.ld 81 1 false (.t 80)), .u (.bo 82 .gtr (.t 81) (.k (.int .i64 1))), .uc 83 59 [.t 74, .t 75, .t 76, .t 77, .t 82], .u (.no 84 (.t 83))]
def f35r21 : List PG := [.u (.mki 85 95 (.k (.int .i64 9))), .u (.mv 6 (.t 85))]
abbrev f35p16 : PC := .seq (.reg f35r21) (.ret)
abbrev f35p17 : PC := .cond (.t 84) (f35p16) (.skip)
abbrev f35p18 : PC := .seq (.regD f35r20 []) (f35p17)
def f35r22 : List PG := [.u (.bo 86 .add (.t 69) (.k (.int .i64 1))), .u (.mv 69 (.t 86))]
abbrev f35p19 : PC := .seq (.block 5 (.seq (.reg f35r19) (f35p18))) (.reg f35r22)
abbrev f35p20 : PC := .seq (.cond (.t 70) (.skip) (.exit 4)) (f35p19)
abbrev f35p21 : PC := .seq (.reg f35r18) (f35p20)
abbrev f35p22 : PC := .block 4 (.loop (f35p21))
def f35r23 : List PG := [.u (.mv 6 (.k (.nilIface)))]
abbrev f35p23 : PC := .seq (.reg f35r23) (.ret)
abbrev f35p24 : PC := .seq (.seq (.reg f35r17) (f35p22)) (f35p23)
abbrev f35p25 : PC := .seq (.seq (.reg f35r11) (f35p15)) (f35p24)
abbrev f35p26 : PC := .seq (.seq (.reg f35r4) (f35p8)) (f35p25)
abbrev f35p27 : PC := .seq (.reg f35r3) (f35p26)
abbrev f35p28 : PC := .seq (.seq (.reg f35r1) (f35p1)) (f35p27)
abbrev f35pc : PC := .seq (.reg f35r0) (f35p28)
def f35k : List Nat := [0, 1, 2, 3, 4, 6, 7, 9, 11, 12, 13, 29, 35, 36, 37, 38, 48, 57, 58, 59, 60, 64, 67, 68, 69, 70, 84]
theorem f35c : Tryz.f35.body.bind (cC te Tryz.f35.ntmps) = some f35pc := by kernel_rfl
set_option maxRecDepth 20000
set_option maxHeartbeats 4000000


theorem errs (c : Int) (hc : c ≠ 0) : AV.d (.v (.iface 95 (.int .i64 c))) = errV c := by rw [errV, if_neg hc]
theorem cnt_out {N : Int} {x : Int} {r m : List Int} (h : x < 0 ∨ N ≤ x) : cntGo N (x :: r) m = none := by rw [cntGo, if_pos (by simpa using h)]
theorem cnt_in {N : Int} {x : Int} {r m : List Int} (h : ¬ (x < 0 ∨ N ≤ x)) : cntGo N (x :: r) m = cntGo N r (m.set x.toNat (m.getD x.toNat 0 + 1)) := by rw [cntGo, if_neg (by simpa using h)]
theorem is_bad {n m : Net} {b : List Int} (h : ¬ (n.may = true ∧ m.may = true ∧ b.length = n.origin.length)) : isCode n m b = 10 := by
  unfold isCode; rw [if_pos]; simp only [Bool.or_eq_true, Bool.not_eq_true', bne_iff_ne, ne_eq]
  by_cases h1 : n.may = true
  · by_cases h2 : m.may = true
    · right; right; exact fun q => h ⟨h1, h2, q⟩
    · right; left; simpa using h2
  · left; simpa using h1
theorem is_go {n m : Net} {b : List Int} (h : n.may = true ∧ m.may = true ∧ b.length = n.origin.length) : isCode n m b = match cntGo m.origin.length b (List.replicate m.origin.length 0) with
    | none => 10
    | some c => if c.any (· == 0) then 10 else if nodesGo n m b c b 0 then 0 else 9 := by
  unfold isCode; rw [if_neg (by simp [h.1, h.2.1, h.2.2])]; rfl
theorem is_test {n m : Net} {b : List Int} (h : (if (if (!n.may) = true then true else !m.may) = true then true else !((b.length : Int) == (n.origin.length : Int))) = false) : n.may = true ∧ m.may = true ∧ b.length = n.origin.length := by
  revert h; cases n.may <;> cases m.may <;> simp; omega
theorem is_testT {n m : Net} {b : List Int} (h : (if (if (!n.may) = true then true else !m.may) = true then true else !((b.length : Int) == (n.origin.length : Int))) = true) : ¬ (n.may = true ∧ m.may = true ∧ b.length = n.origin.length) := by
  revert h; cases n.may <;> cases m.may <;> simp; omega
theorem rng_f {v N : Int} (h : (if decide (v < 0) = true then true else decide (N ≤ v)) = false) : 0 ≤ v ∧ v < N := by
  revert h; by_cases h1 : v < 0 <;> simp [h1]; omega
theorem rng_t {v N : Int} (h : (if decide (v < 0) = true then true else decide (N ≤ v)) = true) : v < 0 ∨ N ≤ v := by
  revert h; by_cases h1 : v < 0 <;> simp [h1]
theorem getD_bd {l : List Int} {B : Int} (h : ∀ c ∈ l, 0 ≤ c ∧ c ≤ B) {k : Int} (h0 : 0 ≤ k) (h1 : k < l.length) : 0 ≤ l.getD k.toNat 0 ∧ l.getD k.toNat 0 ≤ B := h _ (List.mem_of_getElem? (getD_mem l 0 h0 h1))
theorem set_bd {l : List Int} {B : Int} (h : ∀ c ∈ l, 0 ≤ c ∧ c ≤ B) {k : Nat} {v : Int} (hv : 0 ≤ v ∧ v ≤ B + 1) : ∀ c ∈ l.set k v, 0 ≤ c ∧ c ≤ B + 1 := by
  intro c hc
  rcases List.mem_or_eq_of_mem_set hc with q | rfl
  · have := h c q; omega
  · exact hv
theorem take_bd {b : List Int} {k : Nat} {v N : Int} (h : ∀ u ∈ b.take k, 0 ≤ u ∧ u < N) (hk : b[k]? = some v) (hv : 0 ≤ v ∧ v < N) : ∀ u ∈ b.take (k + 1), 0 ≤ u ∧ u < N := by
  intro u hu
  rw [List.take_add_one, hk] at hu
  rcases List.mem_append.1 hu with q | q
  · exact h u q
  · simp at q; subst q; exact hv
theorem is_fn (n m : Net) (hn : n.ok) (hm : m.ok) (b : List Int) (hb : b.length ≤ maxLen) : FnS Tryz.prog 35 [n.av, m.av, .d (.sl 1 (b.map iD))] (errV (isCode n m b)) := by
  have hM : maxLen = 9223372036854775807 := rfl
  refine fn_of teok Tryz.func35 (by kernel_rfl) f35c f35k [.tmp 6] rfl (by show 3 ≤ 87; omega) ?_
  first | (have _q := @g3; clear _q) | have g3 : Nat.pred 77 = 76 := rfl
  first | (have _q := @g2; clear _q) | have g2 : Nat.pred 77 = 76 := rfl
  first | (have _q := @g1; clear _q) | have g1 : Nat.pred 77 = 76 := rfl
  repeat' first
|(have hA := is_test (n := n) (m := m) (b := b) hc; have hA64 := (Net.may_spec hA.1).most; have hM64 := (Net.may_spec hA.2.1).most; replace hc : True := trivial)
|(with_reducible first | refine awp_seq ?_ | refine awp_block ?_ | refine awp_reg ?_ | refine awp_regD ?_ | refine awp_ret ?_ | refine awp_skip ?_ | refine awp_exit ?_ | refine normQ_of ?_ | refine wkE_of ?_ | refine runD_nil ?_ | refine runD_cons ?_ | refine runF_cons ?_ | refine runF_nil ?_ | refine KF_of ?_ | refine chkQ_of rfl ?_)
|with_reducible refine awp_cond (by simp only [evX, lget, Option.getD_some, reduceIte, Nat.reduceEqDiff]; rfl) (fun hc => ?_) (fun hc => ?_)
|with_reducible refine CallU_of (f := 42) (may_fn n hn) (by first | exact Or.inr (Or.inl rfl) | exact Or.inl rfl) ?_
|with_reducible refine CallC_of (f := 42) (fun _ => may_fn n hn) (by first | exact Or.inr (Or.inl rfl) | exact Or.inl rfl) ?_
|with_reducible refine CallU_of (f := 42) (may_fn m hm) (by first | exact Or.inr (Or.inl rfl) | exact Or.inl rfl) ?_
|with_reducible refine CallC_of (f := 42) (fun _ => may_fn m hm) (by first | exact Or.inr (Or.inl rfl) | exact Or.inl rfl) ?_
|with_reducible refine CallU_of (f := 59) (node_fn n hn (Net.may_spec hz.2.1.1) m hm (Net.may_spec hz.2.1.2.1) b hz.2.1.2.2 hz.2.2.1 z.1 ⟨by omega, by have := hz.2.1.2.2; have := he.2.2.2; omega⟩ _) (by first | exact Or.inr (Or.inl rfl) | exact Or.inl rfl) ?_
|(with_reducible assumption)
|with_reducible refine fun (hG : okL _) => ?_
|(with_reducible refine fun (hT : (_ : Bool) = _) => ?_)
|(with_reducible first | exact hG.2 | exact hG.2.2 | exact hG.2.2.2 | exact hG.2.2.2.2)
|with_reducible refine okL_mk ?_ ?_
|with_reducible refine And.intro ?_ ?_
|(with_reducible refine loopQ_next ((z.1 + 1, ())) ?_ ?_ (Wk_sub rfl rfl ?_ ?_))
|(with_reducible refine loopQ_next (y + 1) ?_ ?_ (Wk_sub rfl rfl ?_ ?_))
|(with_reducible refine loopQ_next ((x.1 + 1, x.2.set v.toNat (x.2.getD v.toNat 0 + 1))) ?_ ?_ (Wk_sub rfl rfl ?_ ?_))
|(with_reducible refine awp_loopU (b := f35p7) (fun x : Nat × List Int => x.1 ≤ b.length ∧ x.2.length = m.origin.length ∧ (∀ c ∈ x.2, 0 ≤ c ∧ c ≤ x.1) ∧ (∀ v ∈ b.take x.1, 0 ≤ v ∧ v < m.origin.length) ∧ cntGo m.origin.length (b.drop x.1) x.2 = cntGo m.origin.length b (List.replicate m.origin.length 0)) (fun x => b.length - x.1) (fun x => [(37, .d (.v (.int .i64 x.1)))]) (fun x => [(34, .row 3 1 0 (x.2.map iD))]) ((0, List.replicate m.origin.length 0)) (⟨Nat.zero_le _, List.length_replicate, (fun c q => (by rw [List.eq_of_mem_replicate q]; simp)), (fun v q => (by simp at q)), rfl⟩) (Wk.refl _ _) (Wk_sub rfl rfl ?_ ?_) (fun x hx => ?_))
|(refine Exists.elim (at_drop iD b x.1 (Int.ofNat_lt.1 (of_decide_eq_true hc))) (fun v he => ?_); have g1 := he.2.1; replace hc : True := trivial)
|(have hv := rng_f (v := v) (N := (x.2.length : Int)) hc; have g2 := at_int iD x.2 0 hv.1 hv.2; have hbd := getD_bd hx.2.2.1 hv.1 hv.2; have g3 := wrapI64 (x.2.getD v.toNat 0 + 1) (by omega) (by omega); replace hc : True := trivial)
|(with_reducible refine awp_loopU (b := f35p14) (fun y : Nat => y ≤ x.2.length ∧ ((x.2.drop y).any (· == 0)) = x.2.any (· == 0)) (fun y => x.2.length - y) (fun y => [(59, .d (.v (.int .i64 y)))]) (fun y => []) (0) (⟨Nat.zero_le _, rfl⟩) (Wk.refl _ _) (Wk_sub rfl rfl ?_ ?_) (fun y hy => ?_))
|(refine Exists.elim (at_drop iD x.2 y (Int.ofNat_lt.1 (of_decide_eq_true hc))) (fun c he => ?_); have g1 := he.2.1; replace hc : True := trivial)
|(with_reducible refine awp_loopU (b := f35p21) (fun z : Nat × Unit => z.1 ≤ b.length ∧ (n.may = true ∧ m.may = true ∧ b.length = n.origin.length) ∧ (∀ v ∈ b, 0 ≤ v ∧ v < m.origin.length) ∧ nodesGo n m b x.2 (b.drop z.1) z.1 = nodesGo n m b x.2 b 0) (fun z => b.length - z.1) (fun z => [(69, .d (.v (.int .i64 z.1)))]) (fun z => []) ((0, ())) (⟨Nat.zero_le _, hA, (by have h0 := of_decide_eq_false ‹decide ((x.1 : Int) < _) = false›; have h1 := hx.2.2.2.1; rw [List.take_of_length_le (by omega)] at h1; exact h1), rfl⟩) (Wk.refl _ _) (Wk_sub rfl rfl ?_ ?_) (fun z hz => ?_))
|(refine Exists.elim (at_drop iD b z.1 (Int.ofNat_lt.1 (of_decide_eq_true hc))) (fun v he => ?_); have g1 := he.2.1; have hv := hz.2.2.1 v (List.mem_of_getElem? he.2.2.1); have g2 := at_int iD x.2 0 hv.1 (by have := hx.2.1; omega); replace hc : True := trivial)
|simp only [f35r0, f35r1, f35r2, f35r3, f35r4, f35r5, f35r6, f35r7, f35r8, f35r9, f35r10, f35r11, f35r12, f35r13, f35r14, f35r15, f35r16, f35r17, f35r18, f35r19, f35r20, f35r21, f35r22, f35r23, g3, g2, g1, f35k, List.length_map, List.getD_cons_zero, List.length_replicate, runG_nil, runG_u, runG_g, runG_ucS, runG_gcS, stp, avL, avS, evs, evX, lget, lput, strip, putO, PO.dst, updO, okR, cells, splice, AV.cell, toD, toDs, binV, sameK, pickV, guardOf, okL_nil, sides, argsOf, rawOf, dv, dvL, owns, ownsL, flat, flatL, lkeep, seqQ, blockQ, initS, List.drop_succ_cons, List.drop_zero, List.take_succ_cons, List.take_zero, List.getD_cons_zero, List.getD_cons_succ, List.length_cons, List.length_nil, List.set_cons_zero, List.set_cons_succ, List.map_cons, List.map_nil, List.all_cons, List.all_nil, List.elem_cons, List.elem_nil, Option.getD_some, Option.getD_none, Option.bind_some, Option.isNone_none, reduceIte, reduceCtorEq, Nat.reduceEqDiff, Nat.reduceAdd, Nat.reduceLeDiff, Nat.zero_add, Nat.add_zero, Nat.reduceBEq, Bool.and_self, Bool.and_true, Bool.true_and, Bool.or_self, Bool.or_false, Bool.false_or, Bool.or_true, Bool.true_or, true_and, and_true, and_self, implies_true, forall_const, Bool.false_eq_true, id_eq, retQ, resOf, resV, Option.some.injEq, exists_eq_left', AV.d.injEq, D.v.injEq, Value.bool.injEq, imp_self, bldF, bldS, toVals, eqLs, Option.map_some, imp_false, not_true_eq_false, not_false_eq_true, foot, wrs, nm, nmL, PG.reads, PG.dst, PO.reads, X.sl, sls, slB, List.append_nil, List.cons_append, List.nil_append, Option.toList_some, Option.toList_none, loopQ_exit, loopQ_ret, subS, subO, Bool.bne_false, Bool.bne_true, elemsOf, bslD, bslS, lputs, List.headD_cons, sealS, sealO, sealV, sealL, sealsS, sealsO, Bool.true_bne, Bool.false_bne, bne_self_eq_false, Int.reduceToNat, oSl, resR, argsN, dvN]
  all_goals try first
    | omega
    | (with_reducible rfl)
    | (show Value.int _ 0 = _; rfl)
    | (simp only [List.length_append, List.length_cons, List.length_nil]; omega)
    | (simp only [List.length_append, List.length_cons, List.length_nil, List.map_append, List.map_cons, List.map_nil]; done)
    | exact count64 he.2.2.2 hb
    | exact count64 he.2.2.2 (by omega)
    | (simp; omega)
    | (rw [is_bad (is_testT hc)]; exact errs 10 (by decide))
    | exact set_bd hx.2.2.1 (by omega)
    | exact take_bd hx.2.2.2.1 he.2.2.1 (by have := hx.2.1; omega)
    | (simp [hx.2.1]; done)
    | (rw [is_go hA, ← hx.2.2.2.2, he.1, cnt_out (by have := rng_t hc; have := hx.2.1; omega)]; exact errs 10 (by decide))
    | (simp [List.map_replicate]; done)
    | exact hz.2.2.1
    | (have h1 := hx.2.2.2.2; rw [he.1, cnt_in (by have := hx.2.1; omega)] at h1; exact h1)
    | (have h0 := of_decide_eq_false ‹decide ((x.1 : Int) < _) = false›; have hcnt := hx.2.2.2.2; rw [List.drop_eq_nil_of_le (by omega), cntGo] at hcnt; have h1 := hy.2; rw [he.1, List.any_cons, hc, Bool.true_or] at h1
       rw [is_go hA, ← hcnt]; show _ = errV (if x.2.any (· == 0) = true then _ else _); rw [if_pos h1.symm]; exact errs 10 (by decide))
    | (have h1 := hy.2; rw [he.1, List.any_cons, hc, Bool.false_or] at h1; exact h1)
    | (have h1 := hz.2.2.2; rw [he.1, nodesGo] at h1
       have h2 : nodeV n m b z.1 (decide (1 < x.2.getD v.toNat 0)) = true := by simpa using hc
       rw [h2, Bool.true_and] at h1; exact ⟨hz.2.1, hz.2.2.1, h1⟩)
    | (have h1 := hz.2.2.2; rw [he.1, nodesGo] at h1
       have h2 : nodeV n m b z.1 (decide (1 < x.2.getD v.toNat 0)) = true := by simpa using hc
       rw [h2, Bool.true_and] at h1; exact h1)
  · have h0 := of_decide_eq_false ‹decide ((x.1 : Int) < _) = false›
    have hcnt := hx.2.2.2.2
    rw [List.drop_eq_nil_of_le (by omega), cntGo] at hcnt
    have h4 := of_decide_eq_false ‹decide ((y : Int) < _) = false›
    have h5 := hy.2
    rw [List.drop_eq_nil_of_le (by omega), List.any_nil] at h5
    have h6 : ¬ (x.2.any (· == 0)) = true := by (rw [← h5]; simp)
    have h1 := hz.2.2.2
    rw [he.1, nodesGo] at h1
    have h2 : nodeV n m b z.1 (decide (1 < x.2.getD v.toNat 0)) = false := by simpa using hc
    rw [h2, Bool.false_and] at h1
    rw [is_go hA, ← hcnt]
    show _ = errV (if x.2.any (· == 0) = true then _ else if nodesGo n m b x.2 b 0 = true then _ else _)
    rw [if_neg h6, if_neg (by rw [← h1]; simp)]
    exact errs 9 (by decide)
  · have h0 := of_decide_eq_false ‹decide ((x.1 : Int) < _) = false›
    have hcnt := hx.2.2.2.2
    rw [List.drop_eq_nil_of_le (by omega), cntGo] at hcnt
    have h4 := of_decide_eq_false ‹decide ((y : Int) < _) = false›
    have h5 := hy.2
    rw [List.drop_eq_nil_of_le (by omega), List.any_nil] at h5
    have h6 : ¬ (x.2.any (· == 0)) = true := by (rw [← h5]; simp)
    have h7 := of_decide_eq_false hc
    have h1 := hz.2.2.2
    rw [List.drop_eq_nil_of_le (by omega), nodesGo] at h1
    rw [is_go hA, ← hcnt]
    show _ = errV (if x.2.any (· == 0) = true then _ else if nodesGo n m b x.2 b 0 = true then _ else _)
    rw [if_neg h6, if_pos h1.symm]
    rfl
end Go.Proofs.YtgkkaimcchlnaaaGreatDoor
