/- The law QuotientMay: whatever the input, it returns true and changes nothing. Printed by a program of this project (wip/mq). -/
import Derived.Test.YtokfackbnnkbnaaNetF
import Derived.Test.YtokfackbnnkbnaaArgsS
import Derived.Test.YtokfackbnnkbnaaHv17
import Derived.Test.YtokfackbnnkbnaaNm17
import Derived.Test.YtokfackbnnkbnaaQ18
import Derived.Test.YtokfackbnnkbnaaMqPl
set_option linter.unusedVariables false
set_option linter.unusedSimpArgs false

namespace Go.Proofs.Ytokfackbnnkbnaa
open Go Mq Go.ChangeShapes Go.WideShapes Go.ChangeAt Go.RowKit
/-! maquette/maquettelaw18.QuotientMay -/
def f7r0 : List PG := [.u (.bx 2 (.t 0)), .u (.mv 4 (.k (.bool false)))]
def f7r1 : List PG := [.uc 19 20 [], .u (.no 20 (.t 19))]
def f7r2 : List PG := [.u (.mv 4 (.k (.bool false)))]
abbrev f7p0 : PC := .seq (.reg f7r2) (.ret)
abbrev f7p1 : PC := .cond (.t 20) (f7p0) (.skip)
def f7r3 : List PG := [.u (.ld 22 6 true (.t 2)), .u (.mv 23 (.t 1)), .uc 24 14 [.t 22, .t 23], .u (.mv 21 (.t 24)), .u (.ext 25 (.t 21) 0), .u (.ext 26 (.t 21) 1), .u (.ext 27 (.t 21) 2), .u (.al 5 [.nl 1, .nl 1, .nl 1]), .u (.al 6 [.d (.v (.int .u32 0)), .d (.v (.int .i64 0))]), .u (.st 3 (.t 5) (.t 25)), .u (.st 2 (.t 6) (.t 26)), .u (.mv 7 (.t 27))]
def f7r4 : List PG := [.u (.mv 28 (.t 7)), .u (.no 29 (.t 28))]
def f7r5 : List PG := [.u (.mv 4 (.k (.bool true)))]
abbrev f7p2 : PC := .seq (.reg f7r5) (.ret)
abbrev f7p3 : PC := .cond (.t 29) (f7p2) (.skip)
def f7r6 : List PG := [.u (.ld 31 3 true (.t 5)), .uc 32 12 [.t 31], .u (.mv 30 (.t 32)), .u (.ext 33 (.t 30) 0), .u (.ext 34 (.t 30) 1), .u (.mv 8 (.t 33)), .u (.mv 9 (.t 34))]
def f7r7 : List PG := [.u (.ld 36 3 true (.t 5)), .u (.mv 37 (.t 8)), .uc 38 21 [.t 36, .t 37], .u (.mv 35 (.t 38)), .u (.ext 39 (.t 35) 0), .u (.ext 40 (.t 35) 1), .u (.al 10 [.nl 1, .nl 1, .nl 1]), .u (.st 3 (.t 10) (.t 39)), .u (.mv 11 (.t 40))]
def f7r8 : List PG := [.u (.mv 41 (.t 9)), .u (.beqn 42 true (.t 41)), .u (.mv 43 (.t 42)), .g 43 false (.mv 44 (.t 11)), .g 43 false (.beqn 45 true (.t 44)), .u (.pick 46 (.t 43) (.k (.bool true)) (.t 45)), .u (.mv 47 (.t 46)), .g 47 false (.ld 48 3 true (.t 10)), .gc 47 false 49 22 [.t 48], .g 47 false (.no 50 (.t 49)), .u (.pick 51 (.t 47) (.k (.bool true)) (.t 50)), .u (.mv 52 (.t 51)), .g 52 false (.fa 53 0 (.t 10)), .g 52 false (.ld 54 1 false (.t 53)), .g 52 false (.len 55 (.t 54)), .g 52 false (.mv 56 (.t 8)), .gc 52 false 57 13 [.t 56], .g 52 false (.beq 58 true false (.t 55) (.t 57)), .u (.pick 59 (.t 52) (.k (.bool true)) (.t 58))]
def f7r9 : List PG := [.u (.mv 4 (.k (.bool false)))]
abbrev f7p4 : PC := .seq (.reg f7r9) (.ret)
abbrev f7p5 : PC := .cond (.t 59) (f7p4) (.skip)
def f7r10 : List PG := [.u (.fa 60 2 (.t 10)), .u (.ld 61 1 false (.t 60)), .u (.len 62 (.t 61)), .u (.mv 63 (.k (.int .i64 0)))]
def f7r11 : List PG := [.u (.bo 64 .lss (.t 63) (.t 62))]
def f7r12 : List PG := [.u (.mv 65 (.t 63)), .u (.ia 66 1 (.t 61) (.t 63)), .u (.ld 67 1 false (.t 66)), .u (.mv 12 (.t 65)), .u (.mv 13 (.t 67))]
def f7r13 : List PG := [.u (.mv 68 (.t 13)), .u (.len 69 (.t 68)), .u (.mv 70 (.k (.int .i64 0)))]
def f7r14 : List PG := [.u (.bo 71 .lss (.t 70) (.t 69))]
def f7r15 : List PG := [.u (.ia 72 4 (.t 68) (.t 70)), .u (.ld 73 4 true (.t 72)), .u (.al 15 [.d (.v (.int .i64 0)), .d (.v (.int .i64 0)), .nl 10, .nl 10]), .u (.st 4 (.t 15) (.t 73))]
def f7r16 : List PG := [.u (.mv 16 (.k (.bool false)))]
def f7r17 : List PG := [.u (.fa 74 2 (.t 10)), .u (.ld 75 1 false (.t 74)), .u (.fa 76 0 (.t 15)), .u (.ld 77 1 false (.t 76)), .u (.ia 78 1 (.t 75) (.t 77)), .u (.ld 79 1 false (.t 78)), .u (.len 80 (.t 79)), .u (.mv 81 (.k (.int .i64 0)))]
def f7r18 : List PG := [.u (.bo 82 .lss (.t 81) (.t 80))]
def f7r19 : List PG := [.u (.ia 83 4 (.t 79) (.t 81)), .u (.ld 84 4 true (.t 83)), .u (.al 18 [.d (.v (.int .i64 0)), .d (.v (.int .i64 0)), .nl 10, .nl 10]), .u (.st 4 (.t 18) (.t 84))]
def f7r20 : List PG := [.u (.mv 85 (.t 16)), .u (.mv 86 (.t 85)), .g 86 false (.fa 87 0 (.t 18)), .g 86 false (.ld 88 1 false (.t 87)), .g 86 false (.mv 89 (.t 12)), .g 86 false (.beq 90 false false (.t 88) (.t 89)), .u (.pick 91 (.t 86) (.k (.bool true)) (.t 90)), .u (.mv 16 (.t 91))]
def f7r21 : List PG := [.u (.bo 92 .add (.t 81) (.k (.int .i64 1))), .u (.mv 81 (.t 92))]
abbrev f7p6 : PC := .seq (.block 5 (.seq (.reg f7r19) (.reg f7r20))) (.reg f7r21)
abbrev f7p7 : PC := .seq (.cond (.t 82) (.skip) (.exit 4)) (f7p6)
abbrev f7p8 : PC := .seq (.reg f7r18) (f7p7)
abbrev f7p9 : PC := .block 4 (.loop (f7p8))
def f7r22 : List PG := [.u (.mv 93 (.t 16)), .u (.no 94 (.t 93))]
def f7r23 : List PG := [.u (.mv 4 (.k (.bool false)))]
abbrev f7p10 : PC := .seq (.reg f7r23) (.ret)
abbrev f7p11 : PC := .cond (.t 94) (f7p10) (.skip)
abbrev f7p12 : PC := .seq (.reg f7r22) (f7p11)
abbrev f7p13 : PC := .seq (.seq (.reg f7r17) (f7p9)) (f7p12)
abbrev f7p14 : PC := .seq (.reg f7r16) (f7p13)
def f7r24 : List PG := [.u (.bo 95 .add (.t 70) (.k (.int .i64 1))), .u (.mv 70 (.t 95))]
abbrev f7p15 : PC := .seq (.block 3 (.seq (.reg f7r15) (f7p14))) (.reg f7r24)
abbrev f7p16 : PC := .seq (.cond (.t 71) (.skip) (.exit 2)) (f7p15)
abbrev f7p17 : PC := .seq (.reg f7r14) (f7p16)
abbrev f7p18 : PC := .block 2 (.loop (f7p17))
abbrev f7p19 : PC := .seq (.reg f7r13) (f7p18)
def f7r25 : List PG := [.u (.bo 96 .add (.t 63) (.k (.int .i64 1))), .u (.mv 63 (.t 96))]
abbrev f7p20 : PC := .seq (.block 1 (.seq (.reg f7r12) (f7p19))) (.reg f7r25)
abbrev f7p21 : PC := .seq (.cond (.t 64) (.skip) (.exit 0)) (f7p20)
abbrev f7p22 : PC := .seq (.reg f7r11) (f7p21)
abbrev f7p23 : PC := .block 0 (.loop (f7p22))
def f7r26 : List PG := [.u (.mv 4 (.k (.bool true)))]
abbrev f7p24 : PC := .seq (.reg f7r26) (.ret)
abbrev f7p25 : PC := .seq (.seq (.reg f7r10) (f7p23)) (f7p24)
abbrev f7p26 : PC := .seq (.seq (.regD f7r8 []) (f7p5)) (f7p25)
abbrev f7p27 : PC := .seq (.reg f7r7) (f7p26)
abbrev f7p28 : PC := .seq (.reg f7r6) (f7p27)
abbrev f7p29 : PC := .seq (.seq (.reg f7r4) (f7p3)) (f7p28)
abbrev f7p30 : PC := .seq (.reg f7r3) (f7p29)
abbrev f7p31 : PC := .seq (.seq (.reg f7r1) (f7p1)) (f7p30)
abbrev f7pc : PC := .seq (.reg f7r0) (f7p31)
def f7k : List Nat := [0, 1, 2, 4, 5, 7, 8, 9, 10, 11, 12, 13, 15, 16, 18, 20, 29, 59, 61, 62, 63, 64, 68, 69, 70, 71, 79, 80, 81, 82, 94]
theorem f7c : Try.f7.body.bind (cC te Try.f7.ntmps) = some f7pc := by kernel_rfl
set_option maxRecDepth 20000
set_option maxHeartbeats 4000000
set_option linter.unusedSimpArgs false
set_option linter.unusedVariables false

theorem ors1 (y a : Bool) : (if y = true then true else a) = (y || a) := by cases y <;> rfl
theorem ors2 (y a c : Bool) : (if y = true then true else if a = true then c else false) = (y || (a && c)) := by cases y <;> cases a <;> rfl
theorem any2_step {p : Arc → Bool} {fs : List Arc} {k : Nat} {f : Arc} {y T : Bool} (h : (y || (fs.drop k).any p) = T) (hd : fs.drop k = f :: fs.drop (k + 1)) : ((y || p f) || (fs.drop (k + 1)).any p) = T := by rw [hd, List.any_cons, ← Bool.or_assoc] at h; exact h
theorem any2_end {p : Arc → Bool} {fs : List Arc} {k : Nat} {y T : Bool} (h : (y || (fs.drop k).any p) = T) (hk : fs.length ≤ k) : y = T := by rw [List.drop_eq_nil_of_le hk, List.any_nil, Bool.or_false] at h; exact h
theorem small_any {fs : List Arc} {e : Arc} {u v : Int} (h : u ≠ v → ∃ f ∈ fs, f.src = u ∧ sameE e f = true) : ((u == v) || (fs.drop 0).any (fun f => f.src == u && sameE e f)) = true := by
  by_cases q : u = v
  · subst q; simp
  · obtain ⟨f, h1, h2, h3⟩ := h q
    rw [List.drop_zero, Bool.or_eq_true]
    right
    rw [List.any_eq_true]
    exact ⟨f, h1, by rw [h2, h3]; simp⟩

theorem quotientMay_none (sh : Shape) (hs : sh.ok) (w : Int) (hw : 0 ≤ w ∧ w ≤ 255) (hx : sh.netV w = none) : FnS Try.prog 7 [sh.av, .d (.v (.int .u8 w))] (.d (.v (.bool true))) := by
  have hN := netOfF_fn sh hs w hw
  rw [hx] at hN
  simp only [netA] at hN
  refine fn_of teok Try.func7 (by kernel_rfl) f7c f7k [.tmp 4] rfl (by show 2 ≤ 97; omega) ?_
  repeat' first
  | (exact absurd hc (by decide))
  | with_reducible refine awp_seq ?_
  | with_reducible refine awp_block ?_
  | with_reducible refine awp_scope ?_
  | with_reducible refine awp_reg ?_
  | with_reducible refine awp_regD ?_
  | with_reducible refine awp_ret ?_
  | with_reducible refine awp_skip ?_
  | with_reducible refine awp_exit ?_
  | with_reducible refine normQ_of ?_
  | with_reducible refine wkE_of ?_
  | with_reducible refine midQ_of (Wk_sub rfl rfl ?_ ?_)
  | with_reducible refine runD_nil ?_
  | with_reducible refine runD_cons ?_
  | with_reducible refine runF_cons ?_
  | with_reducible refine runF_nil ?_
  | with_reducible refine KF_of ?_
  | with_reducible refine chkQ_of rfl ?_
  | with_reducible refine awp_cond (by simp only [evX, lget, Option.getD_some, reduceIte, Nat.reduceEqDiff]; rfl) (fun hc => ?_) (fun hc => ?_)
  | with_reducible refine CallU_of (f := 20) (awake18_fn) (by first | exact Or.inr (Or.inl rfl) | exact Or.inl rfl) ?_
  | with_reducible refine CallC_of (f := 20) (fun _ => awake18_fn) (by first | exact Or.inr (Or.inl rfl) | exact Or.inl rfl) ?_
  | with_reducible refine CallU_of (f := 14) (hN) (by first | exact Or.inr (Or.inl rfl) | exact Or.inl rfl) ?_
  | with_reducible refine CallC_of (f := 14) (fun _ => hN) (by first | exact Or.inr (Or.inl rfl) | exact Or.inl rfl) ?_
  | (with_reducible assumption)
  | with_reducible refine fun (hG : okL _) => ?_
  | (with_reducible refine fun (hT : (_ : Bool) = _) => ?_)
  | (with_reducible first | exact hG.2 | exact hG.2.2 | exact hG.2.2.2 | exact hG.2.2.2.2)
  | with_reducible refine okL_mk ?_ ?_
  | with_reducible refine And.intro ?_ ?_
  | simp only [f7r0, f7r1, f7r2, f7r3, f7r4, f7r5, f7r6, f7r7, f7r8, f7r9, f7r10, f7r11, f7r12, f7r13, f7r14, f7r15, f7r16, f7r17, f7r18, f7r19, f7r20, f7r21, f7r22, f7r23, f7r24, f7r25, f7r26, f7k, te29, te47, te44, List.getElem?_cons_zero, List.getElem?_cons_succ, runG_nil, runG_u, runG_g, runG_ucS, runG_gcS, runG_uvS, stp, avL, avS, evs, evX, lget, lput, strip, putO, PO.dst, updO, okR, cells, splice, AV.cell, toD, toDs, binV, sameK, pickV, guardOf, okL_nil, sides, argsOf, rawOf, dv, dvL, owns, ownsL, flat, flatL, lkeep, seqQ, blockQ, initS, List.drop_succ_cons, List.drop_zero, List.take_succ_cons, List.take_zero, List.getD_cons_zero, List.getD_cons_succ, List.length_cons, List.length_nil, List.set_cons_zero, List.set_cons_succ, List.map_cons, List.map_nil, List.all_cons, List.all_nil, List.elem_cons, List.elem_nil, Option.getD_some, Option.getD_none, Option.bind_some, Option.isNone_none, reduceIte, reduceCtorEq, Nat.reduceEqDiff, Nat.reduceAdd, Nat.reduceLeDiff, Nat.zero_add, Nat.add_zero, Nat.reduceBEq, Bool.and_self, Bool.and_true, Bool.true_and, Bool.or_self, Bool.or_false, Bool.false_or, Bool.or_true, Bool.true_or, true_and, and_true, and_self, implies_true, forall_const, Bool.false_eq_true, id_eq, retQ, resOf, resV, Option.some.injEq, exists_eq_left', AV.d.injEq, D.v.injEq, Value.bool.injEq, imp_self, bldF, bldS, toVals, eqLs, Option.map_some, imp_false, not_true_eq_false, not_false_eq_true, foot, wrs, nm, nmL, PG.reads, PG.dst, PO.reads, X.sl, sls, slB, List.append_nil, List.cons_append, List.nil_append, Option.toList_some, Option.toList_none, loopQ_exit, loopQ_ret, subS, subO, Bool.bne_false, Bool.bne_true, elemsOf, bslD, bslS, mentries, isAgV, asA, lputs, mgetD_set, mcmp_set, mput_set, List.headD_cons, sealS, sealO, sealV, sealL, mput_nil, mcmp_nil, midQ_ret, midQ_exit, sealsS, sealsO, runW_nil, runW_cons, Bool.true_bne, Bool.false_bne, bne_self_eq_false, Int.reduceToNat, bndV, oSl, resR, runS_nil, runS_gc, ren, renL, renO, sg, gBack, scopeQ_normal, scopeQ_ret, scopeQ_exit, lenB, argsN, dvN]
  all_goals first
    | rfl
    | decide
    | trace_state
theorem quotientMay_some (sh : Shape) (hs : sh.ok) (w : Int) (hw : 0 ≤ w ∧ w ≤ 255) (n : Net) (p : Int × Int) (hx : sh.netV w = some (n, p)) : FnS Try.prog 7 [sh.av, .d (.v (.int .u8 w))] (.d (.v (.bool true))) := by
  have hm : maxLen = 9223372036854775807 := rfl
  have hN := netOfF_fn sh hs w hw
  rw [hx] at hN
  simp only [netA] at hN
  obtain ⟨hsm, hmay, m, hnl, hn0⟩ := net_facts hx
  simp only at hsm hmay m hnl hn0
  have hR := rof_yes n hsm hmay
  have hfs := find_spec m
  have hbf := find_bf hmay
  obtain ⟨x, hqx, hqf⟩ := find_quot hmay
  have hl := hfs.1.len
  have hQ := quot_fn n hsm.ok (findV n) (by omega)
  rw [hqx] at hQ
  replace hQ : FnS Try.prog 21 [n.av, .d (.sl 1 ((findV n).map iD))] (.tp [x.av, .d (.v .nilIface)]) := hQ
  have hxm := qf_may hbf hqf
  have xm := Net.may_spec hxm
  have hxs := qf_small_ok hsm hbf hqf
  have hxl := qf_le hbf hqf
  have hC := count_of n m (findV n) hfs.1
  have hcnt := hqf.cnt
  have g0 : ((x.origin.length : Int) == countV (findV n)) = true := by rw [hcnt]; simp
  have hbo := qf_both (netV_both hx) hbf hqf
  have hsmall : ∀ (k : Nat) es, n.edges[k]? = some es → ∀ e ∈ es, ∀ y v, (findV n)[e.src.toNat]? = some y → (findV n)[k]? = some v → y ≠ v → ∃ f ∈ x.edges.getD v.toNat [], f.src = y ∧ sameE e f = true := by
    intro k es hes e he y v hy hv hne
    obtain ⟨f, h1, h2, h3⟩ := qf_small hbf hqf (k := k) (y := e) (by rw [gD_some hes]; exact he) (by rw [gD_some hy, gD_some hv]; exact hne)
    rw [gD_some hv] at h1
    rw [gD_some hy] at h2
    exact ⟨f, h1, h2, h3⟩
  have hrng : ∀ (k : Nat) v, (findV n)[k]? = some v → 0 ≤ v ∧ v < x.origin.length := fun k v hv => by have := can_rng hfs.1.can hv; omega
  clear hqx
  generalize hfb : findV n = b at hR hl hQ hC hcnt g0 hsmall hrng
  have x2 := xm.edges
  have x3 := xm.most
  have m2 := m.edges
  refine fn_of teok Try.func7 (by kernel_rfl) f7c f7k [.tmp 4] rfl (by show 2 ≤ 97; omega) ?_
  first | (have _q := @g0; clear _q) | have g0 : Nat.pred 77 = 76 := rfl
  first | (have _q := @g1; clear _q) | have g1 : Nat.pred 77 = 76 := rfl
  first | (have _q := @g2; clear _q) | have g2 : Nat.pred 77 = 76 := rfl
  first | (have _q := @g3; clear _q) | have g3 : Nat.pred 77 = 76 := rfl
  first | (have _q := @g4; clear _q) | have g4 : Nat.pred 77 = 76 := rfl
  repeat' first
  | (exact absurd hc (by decide))
  | with_reducible refine awp_seq ?_
  | with_reducible refine awp_block ?_
  | with_reducible refine awp_scope ?_
  | with_reducible refine awp_reg ?_
  | with_reducible refine awp_regD ?_
  | with_reducible refine awp_ret ?_
  | with_reducible refine awp_skip ?_
  | with_reducible refine awp_exit ?_
  | with_reducible refine normQ_of ?_
  | with_reducible refine wkE_of ?_
  | with_reducible refine midQ_of (Wk_sub rfl rfl ?_ ?_)
  | with_reducible refine runD_nil ?_
  | with_reducible refine runD_cons ?_
  | with_reducible refine runF_cons ?_
  | with_reducible refine runF_nil ?_
  | with_reducible refine KF_of ?_
  | with_reducible refine chkQ_of rfl ?_
  | with_reducible refine awp_cond (by simp only [evX, lget, Option.getD_some, reduceIte, Nat.reduceEqDiff]; rfl) (fun hc => ?_) (fun hc => ?_)
  | with_reducible refine CallU_of (f := 20) (awake18_fn) (by first | exact Or.inr (Or.inl rfl) | exact Or.inl rfl) ?_
  | with_reducible refine CallC_of (f := 20) (fun _ => awake18_fn) (by first | exact Or.inr (Or.inl rfl) | exact Or.inl rfl) ?_
  | with_reducible refine CallU_of (f := 14) (hN) (by first | exact Or.inr (Or.inl rfl) | exact Or.inl rfl) ?_
  | with_reducible refine CallC_of (f := 14) (fun _ => hN) (by first | exact Or.inr (Or.inl rfl) | exact Or.inl rfl) ?_
  | with_reducible refine CallU_of (f := 12) (hR) (by first | exact Or.inr (Or.inl rfl) | exact Or.inl rfl) ?_
  | with_reducible refine CallC_of (f := 12) (fun _ => hR) (by first | exact Or.inr (Or.inl rfl) | exact Or.inl rfl) ?_
  | with_reducible refine CallU_of (f := 21) (hQ) (by first | exact Or.inr (Or.inl rfl) | exact Or.inl rfl) ?_
  | with_reducible refine CallC_of (f := 21) (fun _ => hQ) (by first | exact Or.inr (Or.inl rfl) | exact Or.inl rfl) ?_
  | with_reducible refine CallU_of (f := 22) (may_is hxm hxs.ok) (by first | exact Or.inr (Or.inl rfl) | exact Or.inl rfl) ?_
  | with_reducible refine CallC_of (f := 22) (fun _ => may_is hxm hxs.ok) (by first | exact Or.inr (Or.inl rfl) | exact Or.inl rfl) ?_
  | with_reducible refine CallU_of (f := 13) (hC) (by first | exact Or.inr (Or.inl rfl) | exact Or.inl rfl) ?_
  | with_reducible refine CallC_of (f := 13) (fun _ => hC) (by first | exact Or.inr (Or.inl rfl) | exact Or.inl rfl) ?_
  | (with_reducible assumption)
  | with_reducible refine fun (hG : okL _) => ?_
  | (with_reducible refine fun (hT : (_ : Bool) = _) => ?_)
  | (with_reducible first | exact hG.2 | exact hG.2.2 | exact hG.2.2.2 | exact hG.2.2.2.2)
  | with_reducible refine okL_mk ?_ ?_
  | with_reducible refine And.intro ?_ ?_
  | (with_reducible refine loopQ_next (z.1 + 1, z.2 || (f.src == (k.1 : Int))) ?_ ?_ (Wk_sub rfl rfl ?_ ?_))
  | (with_reducible refine loopQ_next ((y.1 + 1, (), ())) ?_ ?_ (Wk_sub rfl rfl ?_ ?_))
  | (with_reducible refine loopQ_next ((k.1 + 1, (), (), ())) ?_ ?_ (Wk_sub rfl rfl ?_ ?_))
  | (with_reducible refine awp_loopU (b := f7p22) (fun k : Nat × Unit × Unit × Unit => k.1 ≤ x.edges.length) (fun k => x.edges.length - k.1) (fun k => [(63, .d (.v (.int .i64 k.1)))]) (fun k => []) ((0, (), (), ())) (Nat.zero_le _) (Wk.refl _ _) (Wk_sub rfl rfl ?_ ?_) (fun k hk => ?_))
  | (refine Exists.elim (at_drop esD x.edges k.1 (Int.ofNat_lt.1 (of_decide_eq_true (show decide ((k.1 : Int) < x.edges.length) = true from hc)))) (fun es hes => ?_); have g1 := hes.2.1; simp only [Int.toNat_natCast] at g1; have hel := xm.row es (List.mem_of_getElem? hes.2.2.1); have hsr := xm.src k.1 es hes.2.2.1; replace hc : True := trivial)
  | (with_reducible refine awp_loopU (b := f7p17) (fun y : Nat × Unit × Unit => y.1 ≤ es.length) (fun y => es.length - y.1) (fun y => [(70, .d (.v (.int .i64 y.1)))]) (fun y => []) ((0, (), ())) (Nat.zero_le _) (Wk.refl _ _) (Wk_sub rfl rfl ?_ ?_) (fun y hy => ?_))
  | (refine Exists.elim (at_drop Arc.row es y.1 (Int.ofNat_lt.1 (of_decide_eq_true (show decide ((y.1 : Int) < es.length) = true from hc)))) (fun e he => ?_); have g2 := he.2.1; simp only [Int.toNat_natCast] at g2; have hs := hsr e (List.mem_of_getElem? he.2.2.1); have g3 := at_int esD x.edges [] hs.1 (by omega); have hfs2 := getD_mem x.edges [] hs.1 (by omega); have hfl := xm.row _ (List.mem_of_getElem? hfs2); obtain ⟨f0, hf0, hf1⟩ := hbo k.1 es hes.2.2.1 e (List.mem_of_getElem? he.2.2.1); replace hc : True := trivial)
  | (with_reducible refine awp_loopU (b := f7p8) (fun z : Nat × Bool => z.1 ≤ (x.edges.getD e.src.toNat []).length ∧ (z.2 || ((x.edges.getD e.src.toNat []).drop z.1).any (fun f => f.src == (k.1 : Int))) = true) (fun z => (x.edges.getD e.src.toNat []).length - z.1) (fun z => [(81, .d (.v (.int .i64 z.1))), (16, .d (.v (.bool z.2)))]) (fun z => []) ((0, false)) (⟨Nat.zero_le _, by rw [Bool.false_or, List.drop_zero, List.any_eq_true]; exact ⟨f0, hf0, by simpa using hf1⟩⟩) (Wk.refl _ _) (Wk_sub rfl rfl ?_ ?_) (fun z hz => ?_))
  | (refine Exists.elim (at_drop Arc.row (x.edges.getD e.src.toNat []) z.1 (Int.ofNat_lt.1 (of_decide_eq_true (show decide ((z.1 : Int) < (x.edges.getD e.src.toNat []).length) = true from hc)))) (fun f hf => ?_); have g4 := hf.2.1; simp only [Int.toNat_natCast] at g4; have _t := hf; replace hc : True := trivial)
  | simp only [f7r0, f7r1, f7r2, f7r3, f7r4, f7r5, f7r6, f7r7, f7r8, f7r9, f7r10, f7r11, f7r12, f7r13, f7r14, f7r15, f7r16, f7r17, f7r18, f7r19, f7r20, f7r21, f7r22, f7r23, f7r24, f7r25, f7r26, g0, g1, g2, g3, g4, f7k, te29, te47, te44, List.length_map, List.getElem?_cons_zero, List.getElem?_cons_succ, Int.toNat_natCast, runG_nil, runG_u, runG_g, runG_ucS, runG_gcS, runG_uvS, stp, avL, avS, evs, evX, lget, lput, strip, putO, PO.dst, updO, okR, cells, splice, AV.cell, toD, toDs, binV, sameK, pickV, guardOf, okL_nil, sides, argsOf, rawOf, dv, dvL, owns, ownsL, flat, flatL, lkeep, seqQ, blockQ, initS, List.drop_succ_cons, List.drop_zero, List.take_succ_cons, List.take_zero, List.getD_cons_zero, List.getD_cons_succ, List.length_cons, List.length_nil, List.set_cons_zero, List.set_cons_succ, List.map_cons, List.map_nil, List.all_cons, List.all_nil, List.elem_cons, List.elem_nil, Option.getD_some, Option.getD_none, Option.bind_some, Option.isNone_none, reduceIte, reduceCtorEq, Nat.reduceEqDiff, Nat.reduceAdd, Nat.reduceLeDiff, Nat.zero_add, Nat.add_zero, Nat.reduceBEq, Bool.and_self, Bool.and_true, Bool.true_and, Bool.or_self, Bool.or_false, Bool.false_or, Bool.or_true, Bool.true_or, true_and, and_true, and_self, implies_true, forall_const, Bool.false_eq_true, id_eq, retQ, resOf, resV, Option.some.injEq, exists_eq_left', AV.d.injEq, D.v.injEq, Value.bool.injEq, imp_self, bldF, bldS, toVals, eqLs, Option.map_some, imp_false, not_true_eq_false, not_false_eq_true, foot, wrs, nm, nmL, PG.reads, PG.dst, PO.reads, X.sl, sls, slB, List.append_nil, List.cons_append, List.nil_append, Option.toList_some, Option.toList_none, loopQ_exit, loopQ_ret, subS, subO, Bool.bne_false, Bool.bne_true, elemsOf, bslD, bslS, mentries, isAgV, asA, lputs, mgetD_set, mcmp_set, mput_set, List.headD_cons, sealS, sealO, sealV, sealL, mput_nil, mcmp_nil, midQ_ret, midQ_exit, sealsS, sealsO, runW_nil, runW_cons, Bool.true_bne, Bool.false_bne, bne_self_eq_false, Int.reduceToNat, bndV, oSl, resR, runS_nil, runS_gc, ren, renL, renO, sg, gBack, scopeQ_normal, scopeQ_ret, scopeQ_exit, lenB, argsN, dvN]
  all_goals try first
    | omega
    | (with_reducible rfl)
    | (show Value.int _ 0 = _; rfl)
    | (simp only [List.length_append, List.length_cons, List.length_nil]; omega)
    | (simp only [List.length_append, List.length_cons, List.length_nil, List.map_append, List.map_cons, List.map_nil]; done)
    | exact count64 hes.2.2.2 (by omega)
    | exact count64 he.2.2.2 (by omega)
    | exact count64 hf.2.2.2 (by omega)
    | exact any2_step hz.2 hf.1
    | (rw [ors1]; done)
    | (show Value.bool _ = Value.bool _; rw [ors1]; done)
    | (exfalso; have h0 := of_decide_eq_false (show decide ((z.1 : Int) < (x.edges.getD e.src.toNat []).length) = false by assumption); have h1 := any2_end hz.2 (by omega); rw [h1] at hc; exact absurd hc (by decide))
    | decide
  all_goals trace_state

theorem quotientMay_as (av : List AV) (h : dArgs te 8 [44, 5] av) : FnS Try.prog 7 av (.d (.v (.bool true))) := by
  obtain ⟨x, _, rfl, hx, y, _, rfl, hy, rfl⟩ := h
  obtain ⟨sh, rfl, hs⟩ := shape_of (n := 3) hx
  obtain ⟨w, rfl, hw⟩ := u8_row (n := 7) hy
  cases hx : sh.netV w with
  | none => exact quotientMay_none sh hs w hw hx
  | some x =>
    obtain ⟨n, p⟩ := x
    exact quotientMay_some sh hs w hw n p hx

set_option maxRecDepth 100000 in
theorem quotientMay_lifted (os : Os) (started : os.Started) (H : Type) (enc : TypeId × Value → H) :
    ReturnsInHanded {} Try.checked os 7 .any (Rows.quotientMaySpec.pre6 enc Try.prog Try.f7 Rows.quotientMayRow.domain false) (Rows.quotientMaySpec.post enc Try.prog Try.f7 false true false false) := by
  refine returnsInHanded_of_change (C := Try.checked) own started (by kernel_rfl) Try.func7
    (ChangeSpec.witness6 (enc := enc) (C := Try.checked) false ⟨#[], #[.agg #[.int .u8 0, .slice none 0 0, .slice none 0 0, .slice none 0 0, .slice none 0 0, .slice none 0 0], .int .u8 0], []⟩ 8 (by kernel_rfl) (by kernel_rfl) (by kernel_rfl) (by kernel_rfl)) ?_
  intro W base args ds gs before hval hW hcnd _
  have hp : Try.f7.params.toList = [44, 5] := by kernel_rfl
  refine law_calls (n := 8) (b := 4) laidOut (by rw [hp]; exact List.forall_mem_cons.2 ⟨⟨by kernel_rfl, of_decide_eq_true (by kernel_rfl)⟩, List.forall_mem_cons.2 ⟨⟨by kernel_rfl, of_decide_eq_true (by kernel_rfl)⟩, (by simp)⟩⟩) (by rw [hp]; exact List.forall_mem_cons.2 ⟨by kernel_rfl, List.forall_mem_cons.2 ⟨by kernel_rfl, (by simp)⟩⟩) rfl (by kernel_rfl) (by kernel_rfl) (fun ds hd => ?_) hval hW (GX.nil _) (fun av h => quotientMay_as av (argsT_d teok _ _ _ (by rw [hp]; exact List.forall_mem_cons.2 ⟨rfl, List.forall_mem_cons.2 ⟨rfl, (by simp)⟩⟩) h |> (hp ▸ ·)))
  have hd : ds.length = 2 := hd
  match ds, hd with
  | [_, _], _ => rfl
theorem quotientMay_holds : Rows.QuotientMaySaid :=
  OpenClaim.holds_of_wide 7 Try.f7 rfl rfl rfl rfl rfl rfl rfl ⟨rfl, rfl, rfl, rfl, rfl⟩ rfl rfl rfl rfl rfl (by kernel_rfl) Try.func7 (by kernel_rfl)
    (of_decide_eq_true (by kernel_rfl)) (by unfold Func.isWrapper; first | (rw [if_pos (by decide +kernel)]; kernel_rfl) | (rw [if_neg (by decide +kernel)]; exact ⟨rfl, rfl⟩))
    (fun os started H enc _ => quotientMay_lifted os started H enc)
end Go.Proofs.Ytokfackbnnkbnaa

