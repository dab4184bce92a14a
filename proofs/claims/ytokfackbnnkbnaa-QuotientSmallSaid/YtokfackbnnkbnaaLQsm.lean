/- The law QuotientSmall: whatever the input, it returns true and changes nothing. Printed by a program of this project (wip/mq). -/
import Derived.Test.YtokfackbnnkbnaaNetF
import Derived.Test.YtokfackbnnkbnaaArgsS
import Derived.Test.YtokfackbnnkbnaaHv17
import Derived.Test.YtokfackbnnkbnaaNm17
import Derived.Test.YtokfackbnnkbnaaQ18
import Derived.Test.YtokfackbnnkbnaaMqPl
set_option linter.unusedVariables false
set_option linter.unusedSimpArgs false

namespace Go.Proofs.Ytokfackbnnkbnaa
open Go Mq Go.ChangeShapes Go.WideShapes Go.ChangeAt Go.RowKit
/-! maquette/maquettelaw18.QuotientSmall -/
def f8r0 : List PG := [.u (.bx 2 (.t 0)), .u (.mv 4 (.k (.bool false)))]
def f8r1 : List PG := [.uc 18 20 [], .u (.no 19 (.t 18))]
def f8r2 : List PG := [.u (.mv 4 (.k (.bool false)))]
abbrev f8p0 : PC := .seq (.reg f8r2) (.ret)
abbrev f8p1 : PC := .cond (.t 19) (f8p0) (.skip)
def f8r3 : List PG := [.u (.ld 21 6 true (.t 2)), .u (.mv 22 (.t 1)), .uc 23 14 [.t 21, .t 22], .u (.mv 20 (.t 23)), .u (.ext 24 (.t 20) 0), .u (.ext 25 (.t 20) 1), .u (.ext 26 (.t 20) 2), .u (.al 5 [.nl 1, .nl 1, .nl 1]), .u (.al 6 [.d (.v (.int .u32 0)), .d (.v (.int .i64 0))]), .u (.st 3 (.t 5) (.t 24)), .u (.st 2 (.t 6) (.t 25)), .u (.mv 7 (.t 26))]
def f8r4 : List PG := [.u (.mv 27 (.t 7)), .u (.no 28 (.t 27))]
def f8r5 : List PG := [.u (.mv 4 (.k (.bool true)))]
abbrev f8p2 : PC := .seq (.reg f8r5) (.ret)
abbrev f8p3 : PC := .cond (.t 28) (f8p2) (.skip)
def f8r6 : List PG := [.u (.ld 30 3 true (.t 5)), .uc 31 12 [.t 30], .u (.mv 29 (.t 31)), .u (.ext 32 (.t 29) 0), .u (.ext 33 (.t 29) 1), .u (.mv 8 (.t 32)), .u (.mv 9 (.t 33))]
def f8r7 : List PG := [.u (.ld 35 3 true (.t 5)), .u (.mv 36 (.t 8)), .uc 37 21 [.t 35, .t 36], .u (.mv 34 (.t 37)), .u (.ext 38 (.t 34) 0), .u (.ext 39 (.t 34) 1), .u (.al 10 [.nl 1, .nl 1, .nl 1]), .u (.st 3 (.t 10) (.t 38)), .u (.mv 11 (.t 39))]
def f8r8 : List PG := [.u (.mv 40 (.t 9)), .u (.beqn 41 true (.t 40)), .u (.mv 42 (.t 41)), .g 42 false (.mv 43 (.t 11)), .g 42 false (.beqn 44 true (.t 43)), .u (.pick 45 (.t 42) (.k (.bool true)) (.t 44))]
def f8r9 : List PG := [.u (.mv 4 (.k (.bool false)))]
abbrev f8p4 : PC := .seq (.reg f8r9) (.ret)
abbrev f8p5 : PC := .cond (.t 45) (f8p4) (.skip)
def f8r10 : List PG := [.u (.mv 46 (.t 8)), .u (.len 47 (.t 46)), .u (.mv 48 (.k (.int .i64 0)))]
def f8r11 : List PG := [.u (.bo 49 .lss (.t 48) (.t 47))]
def f8r12 : List PG := [.u (.mv 50 (.t 48)), .u (.mv 12 (.t 50))]
def f8r13 : List PG := [.u (.fa 51 2 (.t 5)), .u (.ld 52 1 false (.t 51)), .u (.mv 53 (.t 12)), .u (.ia 54 1 (.t 52) (.t 53)), .u (.ld 55 1 false (.t 54)), .u (.len 56 (.t 55)), .u (.mv 57 (.k (.int .i64 0)))]
def f8r14 : List PG := [.u (.bo 58 .lss (.t 57) (.t 56))]
def f8r15 : List PG := [.u (.ia 59 4 (.t 55) (.t 57)), .u (.ld 60 4 true (.t 59)), .u (.al 14 [.d (.v (.int .i64 0)), .d (.v (.int .i64 0)), .nl 10, .nl 10]), .u (.st 4 (.t 14) (.t 60))]
def f8r16 : List PG := [.u (.mv 61 (.t 8)), .u (.fa 62 0 (.t 14)), .u (.ld 63 1 false (.t 62)), .u (.ia 64 1 (.t 61) (.t 63)), .u (.ld 65 1 false (.t 64)), .u (.mv 66 (.t 8)), .u (.mv 67 (.t 12)), .u (.ia 68 1 (.t 66) (.t 67)), .u (.ld 69 1 false (.t 68)), .u (.beq 70 false false (.t 65) (.t 69)), .u (.mv 15 (.t 70))]
def f8r17 : List PG := [.u (.fa 71 2 (.t 10)), .u (.ld 72 1 false (.t 71)), .u (.mv 73 (.t 8)), .u (.mv 74 (.t 12)), .u (.ia 75 1 (.t 73) (.t 74)), .u (.ld 76 1 false (.t 75)), .u (.ia 77 1 (.t 72) (.t 76)), .u (.ld 78 1 false (.t 77)), .u (.len 79 (.t 78)), .u (.mv 80 (.k (.int .i64 0)))]
def f8r18 : List PG := [.u (.bo 81 .lss (.t 80) (.t 79))]
def f8r19 : List PG := [.u (.ia 82 4 (.t 78) (.t 80)), .u (.ld 83 4 true (.t 82)), .u (.al 17 [.d (.v (.int .i64 0)), .d (.v (.int .i64 0)), .nl 10, .nl 10]), .u (.st 4 (.t 17) (.t 83))]
def f8r20 : List PG := [.u (.mv 84 (.t 15)), .u (.mv 85 (.t 84)), .g 85 false (.fa 86 0 (.t 17)), .g 85 false (.ld 87 1 false (.t 86)), .g 85 false (.mv 88 (.t 8)), .g 85 false (.fa 89 0 (.t 14)), .g 85 false (.ld 90 1 false (.t 89)), .g 85 false (.ia 91 1 (.t 88) (.t 90)), .g 85 false (.ld 92 1 false (.t 91)), .g 85 false (.beq 93 false false (.t 87) (.t 92)), .g 85 false (.mv 94 (.t 93)), .g 94 true (.ld 95 4 true (.t 14)), .g 94 true (.ld 96 4 true (.t 17)), .gc 94 true 97 19 [.t 95, .t 96], .g 85 false (.pick 98 (.t 94) (.t 97) (.k (.bool false))), .u (.pick 99 (.t 85) (.k (.bool true)) (.t 98)), .u (.mv 15 (.t 99))]
def f8r21 : List PG := [.u (.bo 100 .add (.t 80) (.k (.int .i64 1))), .u (.mv 80 (.t 100))]
abbrev f8p6 : PC := .seq (.block 5 (.seq (.reg f8r19) (.regD f8r20 []))) (.reg f8r21)
abbrev f8p7 : PC := .seq (.cond (.t 81) (.skip) (.exit 4)) (f8p6)
abbrev f8p8 : PC := .seq (.reg f8r18) (f8p7)
abbrev f8p9 : PC := .block 4 (.loop (f8p8))
def f8r22 : List PG := [.u (.mv 101 (.t 15)), .u (.no 102 (.t 101))]
def f8r23 : List PG := [.u (.mv 4 (.k (.bool false)))]
abbrev f8p10 : PC := .seq (.reg f8r23) (.ret)
abbrev f8p11 : PC := .cond (.t 102) (f8p10) (.skip)
abbrev f8p12 : PC := .seq (.reg f8r22) (f8p11)
abbrev f8p13 : PC := .seq (.seq (.regD f8r17 []) (f8p9)) (f8p12)
abbrev f8p14 : PC := .seq (.regD f8r16 []) (f8p13)
def f8r24 : List PG := [.u (.bo 103 .add (.t 57) (.k (.int .i64 1))), .u (.mv 57 (.t 103))]
abbrev f8p15 : PC := .seq (.block 3 (.seq (.reg f8r15) (f8p14))) (.reg f8r24)
abbrev f8p16 : PC := .seq (.cond (.t 58) (.skip) (.exit 2)) (f8p15)
abbrev f8p17 : PC := .seq (.reg f8r14) (f8p16)
abbrev f8p18 : PC := .block 2 (.loop (f8p17))
abbrev f8p19 : PC := .seq (.reg f8r13) (f8p18)
def f8r25 : List PG := [.u (.bo 104 .add (.t 48) (.k (.int .i64 1))), .u (.mv 48 (.t 104))]
abbrev f8p20 : PC := .seq (.block 1 (.seq (.reg f8r12) (f8p19))) (.reg f8r25)
abbrev f8p21 : PC := .seq (.cond (.t 49) (.skip) (.exit 0)) (f8p20)
abbrev f8p22 : PC := .seq (.reg f8r11) (f8p21)
abbrev f8p23 : PC := .block 0 (.loop (f8p22))
def f8r26 : List PG := [.u (.mv 4 (.k (.bool true)))]
abbrev f8p24 : PC := .seq (.reg f8r26) (.ret)
abbrev f8p25 : PC := .seq (.seq (.reg f8r10) (f8p23)) (f8p24)
abbrev f8p26 : PC := .seq (.seq (.reg f8r8) (f8p5)) (f8p25)
abbrev f8p27 : PC := .seq (.reg f8r7) (f8p26)
abbrev f8p28 : PC := .seq (.reg f8r6) (f8p27)
abbrev f8p29 : PC := .seq (.seq (.reg f8r4) (f8p3)) (f8p28)
abbrev f8p30 : PC := .seq (.reg f8r3) (f8p29)
abbrev f8p31 : PC := .seq (.seq (.reg f8r1) (f8p1)) (f8p30)
abbrev f8pc : PC := .seq (.reg f8r0) (f8p31)
def f8k : List Nat := [0, 1, 2, 4, 5, 7, 8, 9, 10, 11, 12, 14, 15, 17, 19, 28, 45, 47, 48, 49, 55, 56, 57, 58, 78, 79, 80, 81, 102]
theorem f8c : Try.f8.body.bind (cC te Try.f8.ntmps) = some f8pc := by kernel_rfl
set_option maxRecDepth 20000
set_option maxHeartbeats 4000000
set_option linter.unusedSimpArgs false
set_option linter.unusedVariables false

theorem ors1 (y a : Bool) : (if y = true then true else a) = (y || a) := by cases y <;> rfl
theorem ors2 (y a c : Bool) : (if y = true then true else if a = true then c else false) = (y || (a && c)) := by cases y <;> cases a <;> rfl
theorem any2_step {p : Arc → Bool} {fs : List Arc} {k : Nat} {f : Arc} {y T : Bool} (h : (y || (fs.drop k).any p) = T) (hd : fs.drop k = f :: fs.drop (k + 1)) : ((y || p f) || (fs.drop (k + 1)).any p) = T := by rw [hd, List.any_cons, ← Bool.or_assoc] at h; exact h
theorem any2_end {p : Arc → Bool} {fs : List Arc} {k : Nat} {y T : Bool} (h : (y || (fs.drop k).any p) = T) (hk : fs.length ≤ k) : y = T := by rw [List.drop_eq_nil_of_le hk, List.any_nil, Bool.or_false] at h; exact h
theorem small_any {fs : List Arc} {e : Arc} {u v : Int} (h : u ≠ v → ∃ f ∈ fs, f.src = u ∧ sameE e f = true) : ((u == v) || (fs.drop 0).any (fun f => f.src == u && sameE e f)) = true := by
  by_cases q : u = v
  · subst q; simp
  · obtain ⟨f, h1, h2, h3⟩ := h q
    rw [List.drop_zero, Bool.or_eq_true]
    right
    rw [List.any_eq_true]
    exact ⟨f, h1, by rw [h2, h3]; simp⟩

theorem quotientSmall_none (sh : Shape) (hs : sh.ok) (w : Int) (hw : 0 ≤ w ∧ w ≤ 255) (hx : sh.netV w = none) : FnS Try.prog 8 [sh.av, .d (.v (.int .u8 w))] (.d (.v (.bool true))) := by
  have hN := netOfF_fn sh hs w hw
  rw [hx] at hN
  simp only [netA] at hN
  refine fn_of teok Try.func8 (by kernel_rfl) f8c f8k [.tmp 4] rfl (by show 2 ≤ 105; omega) ?_
  repeat' first
  | (exact absurd hc (by decide))
  | with_reducible refine awp_seq ?_
  | with_reducible refine awp_block ?_
  | with_reducible refine awp_scope ?_
  | with_reducible refine awp_reg ?_
  | with_reducible refine awp_regD ?_
  | with_reducible refine awp_ret ?_
  | with_reducible refine awp_skip ?_
  | with_reducible refine awp_exit ?_
  | with_reducible refine normQ_of ?_
  | with_reducible refine wkE_of ?_
  | with_reducible refine midQ_of (Wk_sub rfl rfl ?_ ?_)
  | with_reducible refine runD_nil ?_
  | with_reducible refine runD_cons ?_
  | with_reducible refine runF_cons ?_
  | with_reducible refine runF_nil ?_
  | with_reducible refine KF_of ?_
  | with_reducible refine chkQ_of rfl ?_
  | with_reducible refine awp_cond (by simp only [evX, lget, Option.getD_some, reduceIte, Nat.reduceEqDiff]; rfl) (fun hc => ?_) (fun hc => ?_)
  | with_reducible refine CallU_of (f := 20) (awake18_fn) (by first | exact Or.inr (Or.inl rfl) | exact Or.inl rfl) ?_
  | with_reducible refine CallC_of (f := 20) (fun _ => awake18_fn) (by first | exact Or.inr (Or.inl rfl) | exact Or.inl rfl) ?_
  | with_reducible refine CallU_of (f := 14) (hN) (by first | exact Or.inr (Or.inl rfl) | exact Or.inl rfl) ?_
  | with_reducible refine CallC_of (f := 14) (fun _ => hN) (by first | exact Or.inr (Or.inl rfl) | exact Or.inl rfl) ?_
  | (with_reducible assumption)
  | with_reducible refine fun (hG : okL _) => ?_
  | (with_reducible refine fun (hT : (_ : Bool) = _) => ?_)
  | (with_reducible first | exact hG.2 | exact hG.2.2 | exact hG.2.2.2 | exact hG.2.2.2.2)
  | with_reducible refine okL_mk ?_ ?_
  | with_reducible refine And.intro ?_ ?_
  | simp only [f8r0, f8r1, f8r2, f8r3, f8r4, f8r5, f8r6, f8r7, f8r8, f8r9, f8r10, f8r11, f8r12, f8r13, f8r14, f8r15, f8r16, f8r17, f8r18, f8r19, f8r20, f8r21, f8r22, f8r23, f8r24, f8r25, f8r26, f8k, te29, te47, te44, List.getElem?_cons_zero, List.getElem?_cons_succ, runG_nil, runG_u, runG_g, runG_ucS, runG_gcS, runG_uvS, stp, avL, avS, evs, evX, lget, lput, strip, putO, PO.dst, updO, okR, cells, splice, AV.cell, toD, toDs, binV, sameK, pickV, guardOf, okL_nil, sides, argsOf, rawOf, dv, dvL, owns, ownsL, flat, flatL, lkeep, seqQ, blockQ, initS, List.drop_succ_cons, List.drop_zero, List.take_succ_cons, List.take_zero, List.getD_cons_zero, List.getD_cons_succ, List.length_cons, List.length_nil, List.set_cons_zero, List.set_cons_succ, List.map_cons, List.map_nil, List.all_cons, List.all_nil, List.elem_cons, List.elem_nil, Option.getD_some, Option.getD_none, Option.bind_some, Option.isNone_none, reduceIte, reduceCtorEq, Nat.reduceEqDiff, Nat.reduceAdd, Nat.reduceLeDiff, Nat.zero_add, Nat.add_zero, Nat.reduceBEq, Bool.and_self, Bool.and_true, Bool.true_and, Bool.or_self, Bool.or_false, Bool.false_or, Bool.or_true, Bool.true_or, true_and, and_true, and_self, implies_true, forall_const, Bool.false_eq_true, id_eq, retQ, resOf, resV, Option.some.injEq, exists_eq_left', AV.d.injEq, D.v.injEq, Value.bool.injEq, imp_self, bldF, bldS, toVals, eqLs, Option.map_some, imp_false, not_true_eq_false, not_false_eq_true, foot, wrs, nm, nmL, PG.reads, PG.dst, PO.reads, X.sl, sls, slB, List.append_nil, List.cons_append, List.nil_append, Option.toList_some, Option.toList_none, loopQ_exit, loopQ_ret, subS, subO, Bool.bne_false, Bool.bne_true, elemsOf, bslD, bslS, mentries, isAgV, asA, lputs, mgetD_set, mcmp_set, mput_set, List.headD_cons, sealS, sealO, sealV, sealL, mput_nil, mcmp_nil, midQ_ret, midQ_exit, sealsS, sealsO, runW_nil, runW_cons, Bool.true_bne, Bool.false_bne, bne_self_eq_false, Int.reduceToNat, bndV, oSl, resR, runS_nil, runS_gc, ren, renL, renO, sg, gBack, scopeQ_normal, scopeQ_ret, scopeQ_exit, lenB, argsN, dvN]
  all_goals first
    | rfl
    | decide
    | trace_state
theorem quotientSmall_some (sh : Shape) (hs : sh.ok) (w : Int) (hw : 0 ≤ w ∧ w ≤ 255) (n : Net) (p : Int × Int) (hx : sh.netV w = some (n, p)) : FnS Try.prog 8 [sh.av, .d (.v (.int .u8 w))] (.d (.v (.bool true))) := by
  have hm : maxLen = 9223372036854775807 := rfl
  have hN := netOfF_fn sh hs w hw
  rw [hx] at hN
  simp only [netA] at hN
  obtain ⟨hsm, hmay, m, hnl, hn0⟩ := net_facts hx
  simp only at hsm hmay m hnl hn0
  have hR := rof_yes n hsm hmay
  have hfs := find_spec m
  have hbf := find_bf hmay
  obtain ⟨x, hqx, hqf⟩ := find_quot hmay
  have hl := hfs.1.len
  have hQ := quot_fn n hsm.ok (findV n) (by omega)
  rw [hqx] at hQ
  replace hQ : FnS Try.prog 21 [n.av, .d (.sl 1 ((findV n).map iD))] (.tp [x.av, .d (.v .nilIface)]) := hQ
  have hxm := qf_may hbf hqf
  have xm := Net.may_spec hxm
  have hxs := qf_small_ok hsm hbf hqf
  have hxl := qf_le hbf hqf
  have hC := count_of n m (findV n) hfs.1
  have hcnt := hqf.cnt
  have g0 : ((x.origin.length : Int) == countV (findV n)) = true := by rw [hcnt]; simp
  have hbo := qf_both (netV_both hx) hbf hqf
  have hsmall : ∀ (k : Nat) es, n.edges[k]? = some es → ∀ e ∈ es, ∀ y v, (findV n)[e.src.toNat]? = some y → (findV n)[k]? = some v → y ≠ v → ∃ f ∈ x.edges.getD v.toNat [], f.src = y ∧ sameE e f = true := by
    intro k es hes e he y v hy hv hne
    obtain ⟨f, h1, h2, h3⟩ := qf_small hbf hqf (k := k) (y := e) (by rw [gD_some hes]; exact he) (by rw [gD_some hy, gD_some hv]; exact hne)
    rw [gD_some hv] at h1
    rw [gD_some hy] at h2
    exact ⟨f, h1, h2, h3⟩
  have hrng : ∀ (k : Nat) v, (findV n)[k]? = some v → 0 ≤ v ∧ v < x.origin.length := fun k v hv => by have := can_rng hfs.1.can hv; omega
  clear hqx
  generalize hfb : findV n = b at hR hl hQ hC hcnt g0 hsmall hrng
  have x2 := xm.edges
  have x3 := xm.most
  have m2 := m.edges
  refine fn_of teok Try.func8 (by kernel_rfl) f8c f8k [.tmp 4] rfl (by show 2 ≤ 105; omega) ?_
  first | (have _q := @g0; clear _q) | have g0 : Nat.pred 77 = 76 := rfl
  first | (have _q := @g1; clear _q) | have g1 : Nat.pred 77 = 76 := rfl
  first | (have _q := @g2; clear _q) | have g2 : Nat.pred 77 = 76 := rfl
  first | (have _q := @g3; clear _q) | have g3 : Nat.pred 77 = 76 := rfl
  first | (have _q := @g4; clear _q) | have g4 : Nat.pred 77 = 76 := rfl
  first | (have _q := @g5; clear _q) | have g5 : Nat.pred 77 = 76 := rfl
  first | (have _q := @g6; clear _q) | have g6 : Nat.pred 77 = 76 := rfl
  repeat' first
  | (exact absurd hc (by decide))
  | with_reducible refine awp_seq ?_
  | with_reducible refine awp_block ?_
  | with_reducible refine awp_scope ?_
  | with_reducible refine awp_reg ?_
  | with_reducible refine awp_regD ?_
  | with_reducible refine awp_ret ?_
  | with_reducible refine awp_skip ?_
  | with_reducible refine awp_exit ?_
  | with_reducible refine normQ_of ?_
  | with_reducible refine wkE_of ?_
  | with_reducible refine midQ_of (Wk_sub rfl rfl ?_ ?_)
  | with_reducible refine runD_nil ?_
  | with_reducible refine runD_cons ?_
  | with_reducible refine runF_cons ?_
  | with_reducible refine runF_nil ?_
  | with_reducible refine KF_of ?_
  | with_reducible refine chkQ_of rfl ?_
  | with_reducible refine awp_cond (by simp only [evX, lget, Option.getD_some, reduceIte, Nat.reduceEqDiff]; rfl) (fun hc => ?_) (fun hc => ?_)
  | with_reducible refine CallU_of (f := 20) (awake18_fn) (by first | exact Or.inr (Or.inl rfl) | exact Or.inl rfl) ?_
  | with_reducible refine CallC_of (f := 20) (fun _ => awake18_fn) (by first | exact Or.inr (Or.inl rfl) | exact Or.inl rfl) ?_
  | with_reducible refine CallU_of (f := 14) (hN) (by first | exact Or.inr (Or.inl rfl) | exact Or.inl rfl) ?_
  | with_reducible refine CallC_of (f := 14) (fun _ => hN) (by first | exact Or.inr (Or.inl rfl) | exact Or.inl rfl) ?_
  | with_reducible refine CallU_of (f := 12) (hR) (by first | exact Or.inr (Or.inl rfl) | exact Or.inl rfl) ?_
  | with_reducible refine CallC_of (f := 12) (fun _ => hR) (by first | exact Or.inr (Or.inl rfl) | exact Or.inl rfl) ?_
  | with_reducible refine CallU_of (f := 21) (hQ) (by first | exact Or.inr (Or.inl rfl) | exact Or.inl rfl) ?_
  | with_reducible refine CallC_of (f := 21) (fun _ => hQ) (by first | exact Or.inr (Or.inl rfl) | exact Or.inl rfl) ?_
  | with_reducible refine CallU_of (f := 19) (esame_fn e (hsm.ok.edge _ (List.mem_of_getElem? hes.2.2.1) e (List.mem_of_getElem? he.2.2.1)) f (hxs.ok.edge _ (List.mem_of_getElem? hfs2) f (List.mem_of_getElem? hf.2.2.1))) (by first | exact Or.inr (Or.inl rfl) | exact Or.inl rfl) ?_
  | with_reducible refine CallC_of (f := 19) (fun _ => esame_fn e (hsm.ok.edge _ (List.mem_of_getElem? hes.2.2.1) e (List.mem_of_getElem? he.2.2.1)) f (hxs.ok.edge _ (List.mem_of_getElem? hfs2) f (List.mem_of_getElem? hf.2.2.1))) (by first | exact Or.inr (Or.inl rfl) | exact Or.inl rfl) ?_
  | (with_reducible assumption)
  | with_reducible refine fun (hG : okL _) => ?_
  | (with_reducible refine fun (hT : (_ : Bool) = _) => ?_)
  | (with_reducible first | exact hG.2 | exact hG.2.2 | exact hG.2.2.2 | exact hG.2.2.2.2)
  | with_reducible refine okL_mk ?_ ?_
  | with_reducible refine And.intro ?_ ?_
  | (with_reducible refine loopQ_next (z.1 + 1, z.2 || (f.src == u && sameE e f)) ?_ ?_ (Wk_sub rfl rfl ?_ ?_))
  | (with_reducible refine loopQ_next ((y.1 + 1, (), ())) ?_ ?_ (Wk_sub rfl rfl ?_ ?_))
  | (with_reducible refine loopQ_next ((k.1 + 1, (), (), ())) ?_ ?_ (Wk_sub rfl rfl ?_ ?_))
  | (with_reducible refine awp_loopU (b := f8p22) (fun k : Nat × Unit × Unit × Unit => k.1 ≤ b.length) (fun k => b.length - k.1) (fun k => [(48, .d (.v (.int .i64 k.1)))]) (fun k => []) ((0, (), (), ())) (Nat.zero_le _) (Wk.refl _ _) (Wk_sub rfl rfl ?_ ?_) (fun k hk => ?_))
  | (refine Exists.elim (at_drop iD b k.1 (Int.ofNat_lt.1 (of_decide_eq_true (show decide ((k.1 : Int) < b.length) = true from hc)))) (fun v hv => ?_); have g1 := hv.2.1; simp only [Int.toNat_natCast] at g1; refine Exists.elim (at_drop esD n.edges k.1 (by have := hv.2.2.2; omega)) (fun es hes => ?_); have g2 := hes.2.1; simp only [Int.toNat_natCast] at g2; have hel := m.row es (List.mem_of_getElem? hes.2.2.1); have hsr := m.src k.1 es hes.2.2.1; have hvr := hrng k.1 v hv.2.2.1; replace hc : True := trivial)
  | (with_reducible refine awp_loopU (b := f8p17) (fun y : Nat × Unit × Unit => y.1 ≤ es.length) (fun y => es.length - y.1) (fun y => [(57, .d (.v (.int .i64 y.1)))]) (fun y => []) ((0, (), ())) (Nat.zero_le _) (Wk.refl _ _) (Wk_sub rfl rfl ?_ ?_) (fun y hy => ?_))
  | (refine Exists.elim (at_drop Arc.row es y.1 (Int.ofNat_lt.1 (of_decide_eq_true (show decide ((y.1 : Int) < es.length) = true from hc)))) (fun e he => ?_); have g3 := he.2.1; simp only [Int.toNat_natCast] at g3; have hs := hsr e (List.mem_of_getElem? he.2.2.1); refine Exists.elim (⟨_, getD_mem b 0 hs.1 (by omega)⟩ : ∃ u, b[e.src.toNat]? = some u) (fun u hu => ?_); have g4 : List.getD (List.map iD b) e.src.toNat [] = iD u := (by simp [List.getD, hu]); have g5 := at_int esD x.edges [] hvr.1 (by omega); have hfs2 := getD_mem x.edges [] hvr.1 (by omega); have hfl := xm.row _ (List.mem_of_getElem? hfs2); have hall := small_any (hsmall k.1 es hes.2.2.1 e (List.mem_of_getElem? he.2.2.1) u v hu hv.2.2.1); replace hc : True := trivial)
  | (with_reducible refine awp_loopU (b := f8p8) (fun z : Nat × Bool => z.1 ≤ (x.edges.getD v.toNat []).length ∧ (z.2 || ((x.edges.getD v.toNat []).drop z.1).any (fun f => f.src == u && sameE e f)) = true) (fun z => (x.edges.getD v.toNat []).length - z.1) (fun z => [(80, .d (.v (.int .i64 z.1))), (15, .d (.v (.bool z.2)))]) (fun z => []) ((0, (u == v))) (⟨Nat.zero_le _, hall⟩) (Wk.refl _ _) (Wk_sub rfl rfl ?_ ?_) (fun z hz => ?_))
  | (refine Exists.elim (at_drop Arc.row (x.edges.getD v.toNat []) z.1 (Int.ofNat_lt.1 (of_decide_eq_true (show decide ((z.1 : Int) < (x.edges.getD v.toNat []).length) = true from hc)))) (fun f hf => ?_); have g6 := hf.2.1; simp only [Int.toNat_natCast] at g6; have _t := hf; replace hc : True := trivial)
  | simp only [f8r0, f8r1, f8r2, f8r3, f8r4, f8r5, f8r6, f8r7, f8r8, f8r9, f8r10, f8r11, f8r12, f8r13, f8r14, f8r15, f8r16, f8r17, f8r18, f8r19, f8r20, f8r21, f8r22, f8r23, f8r24, f8r25, f8r26, g0, g1, g2, g3, g4, g5, g6, f8k, te29, te47, te44, List.length_map, List.getElem?_cons_zero, List.getElem?_cons_succ, Int.toNat_natCast, runG_nil, runG_u, runG_g, runG_ucS, runG_gcS, runG_uvS, stp, avL, avS, evs, evX, lget, lput, strip, putO, PO.dst, updO, okR, cells, splice, AV.cell, toD, toDs, binV, sameK, pickV, guardOf, okL_nil, sides, argsOf, rawOf, dv, dvL, owns, ownsL, flat, flatL, lkeep, seqQ, blockQ, initS, List.drop_succ_cons, List.drop_zero, List.take_succ_cons, List.take_zero, List.getD_cons_zero, List.getD_cons_succ, List.length_cons, List.length_nil, List.set_cons_zero, List.set_cons_succ, List.map_cons, List.map_nil, List.all_cons, List.all_nil, List.elem_cons, List.elem_nil, Option.getD_some, Option.getD_none, Option.bind_some, Option.isNone_none, reduceIte, reduceCtorEq, Nat.reduceEqDiff, Nat.reduceAdd, Nat.reduceLeDiff, Nat.zero_add, Nat.add_zero, Nat.reduceBEq, Bool.and_self, Bool.and_true, Bool.true_and, Bool.or_self, Bool.or_false, Bool.false_or, Bool.or_true, Bool.true_or, true_and, and_true, and_self, implies_true, forall_const, Bool.false_eq_true, id_eq, retQ, resOf, resV, Option.some.injEq, exists_eq_left', AV.d.injEq, D.v.injEq, Value.bool.injEq, imp_self, bldF, bldS, toVals, eqLs, Option.map_some, imp_false, not_true_eq_false, not_false_eq_true, foot, wrs, nm, nmL, PG.reads, PG.dst, PO.reads, X.sl, sls, slB, List.append_nil, List.cons_append, List.nil_append, Option.toList_some, Option.toList_none, loopQ_exit, loopQ_ret, subS, subO, Bool.bne_false, Bool.bne_true, elemsOf, bslD, bslS, mentries, isAgV, asA, lputs, mgetD_set, mcmp_set, mput_set, List.headD_cons, sealS, sealO, sealV, sealL, mput_nil, mcmp_nil, midQ_ret, midQ_exit, sealsS, sealsO, runW_nil, runW_cons, Bool.true_bne, Bool.false_bne, bne_self_eq_false, Int.reduceToNat, bndV, oSl, resR, runS_nil, runS_gc, ren, renL, renO, sg, gBack, scopeQ_normal, scopeQ_ret, scopeQ_exit, lenB, argsN, dvN]
  all_goals try first
    | omega
    | (with_reducible rfl)
    | (show Value.int _ 0 = _; rfl)
    | (simp only [List.length_append, List.length_cons, List.length_nil]; omega)
    | (simp only [List.length_append, List.length_cons, List.length_nil, List.map_append, List.map_cons, List.map_nil]; done)
    | exact count64 hv.2.2.2 (by omega)
    | exact count64 he.2.2.2 (by omega)
    | exact count64 hf.2.2.2 (by omega)
    | exact any2_step hz.2 hf.1
    | (rw [ors2]; done)
    | (show Value.bool _ = Value.bool _; rw [ors2]; done)
    | (exfalso; have h0 := of_decide_eq_false (show decide ((z.1 : Int) < (x.edges.getD v.toNat []).length) = false by assumption); have h1 := any2_end hz.2 (by omega); rw [h1] at hc; exact absurd hc (by decide))
    | decide
  all_goals trace_state

theorem quotientSmall_as (av : List AV) (h : dArgs te 8 [44, 5] av) : FnS Try.prog 8 av (.d (.v (.bool true))) := by
  obtain ⟨x, _, rfl, hx, y, _, rfl, hy, rfl⟩ := h
  obtain ⟨sh, rfl, hs⟩ := shape_of (n := 3) hx
  obtain ⟨w, rfl, hw⟩ := u8_row (n := 7) hy
  cases hx : sh.netV w with
  | none => exact quotientSmall_none sh hs w hw hx
  | some x =>
    obtain ⟨n, p⟩ := x
    exact quotientSmall_some sh hs w hw n p hx

set_option maxRecDepth 100000 in
theorem quotientSmall_lifted (os : Os) (started : os.Started) (H : Type) (enc : TypeId × Value → H) :
    ReturnsInHanded {} Try.checked os 8 .any (Rows.quotientSmallSpec.pre6 enc Try.prog Try.f8 Rows.quotientSmallRow.domain false) (Rows.quotientSmallSpec.post enc Try.prog Try.f8 false true false false) := by
  refine returnsInHanded_of_change (C := Try.checked) own started (by kernel_rfl) Try.func8
    (ChangeSpec.witness6 (enc := enc) (C := Try.checked) false ⟨#[], #[.agg #[.int .u8 0, .slice none 0 0, .slice none 0 0, .slice none 0 0, .slice none 0 0, .slice none 0 0], .int .u8 0], []⟩ 8 (by kernel_rfl) (by kernel_rfl) (by kernel_rfl) (by kernel_rfl)) ?_
  intro W base args ds gs before hval hW hcnd _
  have hp : Try.f8.params.toList = [44, 5] := by kernel_rfl
  refine law_calls (n := 8) (b := 4) laidOut (by rw [hp]; exact List.forall_mem_cons.2 ⟨⟨by kernel_rfl, of_decide_eq_true (by kernel_rfl)⟩, List.forall_mem_cons.2 ⟨⟨by kernel_rfl, of_decide_eq_true (by kernel_rfl)⟩, (by simp)⟩⟩) (by rw [hp]; exact List.forall_mem_cons.2 ⟨by kernel_rfl, List.forall_mem_cons.2 ⟨by kernel_rfl, (by simp)⟩⟩) rfl (by kernel_rfl) (by kernel_rfl) (fun ds hd => ?_) hval hW (GX.nil _) (fun av h => quotientSmall_as av (argsT_d teok _ _ _ (by rw [hp]; exact List.forall_mem_cons.2 ⟨rfl, List.forall_mem_cons.2 ⟨rfl, (by simp)⟩⟩) h |> (hp ▸ ·)))
  have hd : ds.length = 2 := hd
  match ds, hd with
  | [_, _], _ => rfl
theorem quotientSmall_holds : Rows.QuotientSmallSaid :=
  OpenClaim.holds_of_wide 8 Try.f8 rfl rfl rfl rfl rfl rfl rfl ⟨rfl, rfl, rfl, rfl, rfl⟩ rfl rfl rfl rfl rfl (by kernel_rfl) Try.func8 (by kernel_rfl)
    (of_decide_eq_true (by kernel_rfl)) (by unfold Func.isWrapper; first | (rw [if_pos (by decide +kernel)]; kernel_rfl) | (rw [if_neg (by decide +kernel)]; exact ⟨rfl, rfl⟩))
    (fun os started H enc _ => quotientSmall_lifted os started H enc)
end Go.Proofs.Ytokfackbnnkbnaa

