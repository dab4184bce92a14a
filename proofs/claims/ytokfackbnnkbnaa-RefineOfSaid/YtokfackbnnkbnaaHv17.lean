/- What maquettelaw17.halved comes to. Printed by a program of this project (wip/mq). -/
import Derived.Test.YtokfackbnnkbnaaNm17
set_option linter.unusedVariables false
set_option linter.unusedSimpArgs false

namespace Go.Proofs.Ytokfackbnnkbnaa
open Go Mq Go.ChangeShapes Go.WideShapes Go.ChangeAt Go.RowKit
/-! maquette/maquettelaw17.halved -/
def f35r0 : List PG := [.u (.bx 2 (.t 0)), .u (.mv 4 (.nl 1))]
def f35r1 : List PG := [.u (.mv 8 (.t 1)), .u (.len 9 (.t 8)), .u (.mks 10 3 1 8 [.d (.v (.int .i64 0))] (.t 9)), .u (.mv 5 (.t 10))]
def f35r2 : List PG := [.u (.mv 11 (.t 1)), .u (.len 12 (.t 11)), .u (.mv 13 (.k (.int .i64 0)))]
def f35r3 : List PG := [.u (.bo 14 .lss (.t 13) (.t 12))]
def f35r4 : List PG := [.u (.mv 15 (.t 13)), .u (.mv 6 (.t 15))]
def f35r5 : List PG := [.u (.mv 16 (.t 5)), .u (.mv 17 (.t 6)), .u (.mv 18 (.t 6)), .u (.ia 19 1 (.t 16) (.t 17)), .u (.st 1 (.t 19) (.t 18))]
def f35r6 : List PG := [.u (.mv 7 (.k (.int .i64 0)))]
def f35r7 : List PG := [.u (.mv 20 (.t 7)), .u (.mv 21 (.t 6)), .u (.bo 22 .lss (.t 20) (.t 21))]
abbrev f35p0 : PC := .cond (.t 22) (.skip) (.exit 2)
def f35r8 : List PG := [.u (.mv 25 (.t 5)), .u (.mv 26 (.t 7)), .u (.ia 27 1 (.t 25) (.t 26)), .u (.ld 28 1 false (.t 27)), .u (.mv 29 (.t 7)), .u (.beq 30 false false (.t 28) (.t 29)), .u (.mv 31 (.t 30)), .g 31 true (.mv 32 (.t 1)), .g 31 true (.mv 33 (.t 7)), .g 31 true (.ia 34 1 (.t 32) (.t 33)), .g 31 true (.ld 35 1 false (.t 34)), .g 31 true (.mv 36 (.t 1)), .g 31 true (.mv 37 (.t 6)), .g 31 true (.ia 38 1 (.t 36) (.t 37)), .g 31 true (.ld 39 1 false (.t 38)), .g 31 true (.beq 40 false false (.t 35) (.t 39)), .u (.pick 41 (.t 31) (.t 40) (.k (.bool false))), .u (.mv 42 (.t 41)), .g 42 true (.ld 43 3 true (.t 2)), .g 42 true (.mv 44 (.t 1)), .g 42 true (.mv 45 (.t 7)), .g 42 true (.mv 46 (.t 6)), .gc 42 true 47 18 [.t 43, .t 44, .t 45, .t 46], .u (.pick 48 (.t 42) (.t 47) (.k (.bool false))), .u (.mv 49 (.t 48)), .g 49 true (.ld 50 3 true (.t 2)), .g 49 true (.mv 51 (.t 1)), .g 49 true (.mv 52 (.t 6)), .g 49 true (.mv 53 (.t 7)), .gc 49 true 54 18 [.t 50, .t 51, .t 52, .t 53], .u (.pick 55 (.t 49) (.t 54) (.k (.bool false)))]
def f35r9 : List PG := [.u (.mv 56 (.t 5)), .u (.mv 57 (.t 6)), .u (.mv 58 (.t 7)), .u (.ia 59 1 (.t 56) (.t 57)), .u (.st 1 (.t 59) (.t 58))]
abbrev f35p1 : PC := .seq (.reg f35r9) (.exit 2)
abbrev f35p2 : PC := .cond (.t 55) (f35p1) (.skip)
def f35r10 : List PG := [.u (.mv 23 (.t 7)), .u (.bo 24 .add (.t 23) (.k (.int .i64 1))), .u (.mv 7 (.t 24))]
abbrev f35p3 : PC := .seq (.block 3 (.seq (.regD f35r8 []) (f35p2))) (.reg f35r10)
abbrev f35p4 : PC := .seq (.seq (.reg f35r7) (f35p0)) (f35p3)
abbrev f35p5 : PC := .block 2 (.loop (f35p4))
abbrev f35p6 : PC := .seq (.reg f35r6) (f35p5)
abbrev f35p7 : PC := .seq (.reg f35r5) (f35p6)
def f35r11 : List PG := [.u (.bo 60 .add (.t 13) (.k (.int .i64 1))), .u (.mv 13 (.t 60))]
abbrev f35p8 : PC := .seq (.block 1 (.seq (.reg f35r4) (f35p7))) (.reg f35r11)
abbrev f35p9 : PC := .seq (.cond (.t 14) (.skip) (.exit 0)) (f35p8)
abbrev f35p10 : PC := .seq (.reg f35r3) (f35p9)
abbrev f35p11 : PC := .block 0 (.loop (f35p10))
def f35r12 : List PG := [.u (.mv 61 (.t 5)), .uc 62 16 [.t 61], .u (.mv 4 (.t 62))]
abbrev f35p12 : PC := .seq (.reg f35r12) (.ret)
abbrev f35p13 : PC := .seq (.seq (.reg f35r2) (f35p11)) (f35p12)
abbrev f35p14 : PC := .seq (.reg f35r1) (f35p13)
abbrev f35pc : PC := .seq (.reg f35r0) (f35p14)
def f35k : List Nat := [0, 1, 2, 4, 5, 6, 7, 12, 13, 14, 22, 55]
theorem f35c : Try.f35.body.bind (cC te Try.f35.ntmps) = some f35pc := by kernel_rfl
set_option maxRecDepth 20000
set_option maxHeartbeats 4000000
set_option linter.unusedSimpArgs false
set_option linter.unusedVariables false

/-- Within the putting to elder nodes. -/
structure HvI (n : Net) (b : List Int) (x : Nat × List Int) : Prop where
  le : x.1 ≤ b.length
  out : x.2.length = x.1
  go : halvGo (clsV n b) (b.length - x.1) x.2 = halvGo (clsV n b) b.length []
theorem HvI.zero (n : Net) (b : List Int) : HvI n b (0, []) := ⟨Nat.zero_le _, rfl, rfl⟩
def hvP (n : Net) (b hs : List Int) (k i : Nat) : Bool := hs.getD i 0 == (i : Int) && clsV n b i k
theorem halv_step {n : Net} {b : List Int} {x : Nat × List Int} (h : HvI n b x) (hl : x.1 < b.length) {v : Int} (hv : hNext (clsV n b) x.2 = v) : HvI n b (x.1 + 1, x.2 ++ [v]) := by
  refine ⟨hl, by simp [h.out], ?_⟩
  have h1 := h.go
  rw [show b.length - x.1 = (b.length - (x.1 + 1)) + 1 by omega, halvGo, hv] at h1
  exact h1
theorem HvI.hit {n : Net} {b : List Int} {x : Nat × List Int} (h : HvI n b x) (hl : x.1 < b.length) {i : Nat} (hi : i < x.1) (hp : hvP n b x.2 x.1 i = true) (hq : ∀ j, j < i → hvP n b x.2 x.1 j = false) : HvI n b (x.1 + 1, x.2 ++ [(i : Int)]) := by
  refine halv_step h hl ?_
  have h2 := h.out
  have : halvIn (clsV n b) x.2 x.2.length = some i := by
    unfold halvIn
    rw [h2]
    exact find_range_hit (p := fun i => hvP n b x.2 x.1 i) hi hp hq
  unfold hNext
  rw [this]
theorem HvI.new {n : Net} {b : List Int} {x : Nat × List Int} (h : HvI n b x) (hl : x.1 < b.length) (hq : ∀ j, j < x.1 → hvP n b x.2 x.1 j = false) : HvI n b (x.1 + 1, x.2 ++ [(x.1 : Int)]) := by
  refine halv_step h hl ?_
  have h2 := h.out
  have : halvIn (clsV n b) x.2 x.2.length = none := by
    unfold halvIn
    rw [h2]
    exact find_range_none (p := fun i => hvP n b x.2 x.1 i) hq
  unfold hNext
  rw [this, h2]
theorem HvI.done {n : Net} {b : List Int} {x : Nat × List Int} (h : HvI n b x) (hl : ¬ x.1 < b.length) : nmbV (outR b.length x.2) = halvV n b := by
  have h1 := h.go
  have h2 := h.out
  have h3 := h.le
  rw [show b.length - x.1 = 0 by omega, halvGo] at h1
  rw [outR_end (by omega), h1]
  rfl
theorem ifs3 (a c d e : Bool) : (if (if (if a = true then c else false) = true then d else false) = true then e else false) = (a && (c && (d && e))) := by cases a <;> cases c <;> cases d <;> cases e <;> rfl
theorem hvP_eq {n : Net} {b hs : List Int} {k i : Nat} {v : Int} (hv : b[k]? = some v) : hvP n b hs k i = (hs.getD i 0 == (i : Int) && (b.getD i 0 == v && (likeV n b i k && likeV n b k i))) := by
  unfold hvP clsV
  rw [gD_some hv]
theorem ones_step {p : Nat → Bool} {i : Nat} (hp : p i = false) (h : ∀ j, j < i → p j = false) : ∀ j, j < i + 1 → p j = false := fun j hj => by
  by_cases q : j = i
  · subst q; exact hp
  · exact h j (by omega)
theorem outR_old2 {N i k : Nat} {out : List Int} (hk : out.length = k) (h : i < k) (a : Int) : ((outR N (out ++ [a])).map iD).getD i [] = iD (out.getD i 0) := by
  subst hk
  rw [outR_old (by simp; omega)]
  congr 1
  rw [List.getD_eq_getElem?_getD, List.getElem?_append_left h]
  simp [List.getD]

theorem halved_fn (n : Net) (hn : n.small) (m : n.May) (b : List Int) (hb : b.length = n.origin.length) : FnS Try.prog 35 [n.av, .d (.sl 1 (b.map iD))] (.d (.sl 1 ((halvV n b).map iD))) := by
  have hm : maxLen = 9223372036854775807 := rfl
  have m2 := m.edges
  have m3 := m.most
  refine fn_of teok Try.func35 (by kernel_rfl) f35c f35k [.tmp 4] rfl (by show 2 ≤ 63; omega) ?_
  first | (have _q := @g1; clear _q) | have g1 : Nat.pred 77 = 76 := rfl
  first | (have _q := @g2; clear _q) | have g2 : Nat.pred 77 = 76 := rfl
  first | (have _q := @g3; clear _q) | have g3 : Nat.pred 77 = 76 := rfl
  first | (have _q := @g4; clear _q) | have g4 : Nat.pred 77 = 76 := rfl
  repeat' first
  | (exact absurd hc (by decide))
  | (with_reducible refine awp_exit_seal (i := 0) [10] ?_)
  | with_reducible refine awp_seq ?_
  | with_reducible refine awp_block ?_
  | with_reducible refine awp_scope ?_
  | with_reducible refine awp_reg ?_
  | with_reducible refine awp_regD ?_
  | with_reducible refine awp_ret ?_
  | with_reducible refine awp_skip ?_
  | with_reducible refine awp_exit ?_
  | with_reducible refine normQ_of ?_
  | with_reducible refine wkE_of ?_
  | with_reducible refine midQ_of (Wk_sub rfl rfl ?_ ?_)
  | with_reducible refine runD_nil ?_
  | with_reducible refine runD_cons ?_
  | with_reducible refine runF_cons ?_
  | with_reducible refine runF_nil ?_
  | with_reducible refine KF_of ?_
  | with_reducible refine chkQ_of rfl ?_
  | with_reducible refine awp_cond (by simp only [evX, lget, Option.getD_some, reduceIte, Nat.reduceEqDiff]; rfl) (fun hc => ?_) (fun hc => ?_)
  | with_reducible refine CallU_of (f := 18) (like_fn n hn m b hb y.1 x.1 (by omega) (by omega)) (by first | exact Or.inr (Or.inl rfl) | exact Or.inl rfl) ?_
  | with_reducible refine CallC_of (f := 18) (fun _ => like_fn n hn m b hb y.1 x.1 (by omega) (by omega)) (by first | exact Or.inr (Or.inl rfl) | exact Or.inl rfl) ?_
  | with_reducible refine CallU_of (f := 18) (like_fn n hn m b hb x.1 y.1 (by omega) (by omega)) (by first | exact Or.inr (Or.inl rfl) | exact Or.inl rfl) ?_
  | with_reducible refine CallC_of (f := 18) (fun _ => like_fn n hn m b hb x.1 y.1 (by omega) (by omega)) (by first | exact Or.inr (Or.inl rfl) | exact Or.inl rfl) ?_
  | with_reducible refine CallU_of (f := 16) (num17_fn (outR b.length x.2) (by rw [outR_len (by have := hx.out; have := hx.le; omega)]; omega)) (by first | exact Or.inr (Or.inl rfl) | exact Or.inl rfl) ?_
  | with_reducible refine CallC_of (f := 16) (fun _ => num17_fn (outR b.length x.2) (by rw [outR_len (by have := hx.out; have := hx.le; omega)]; omega)) (by first | exact Or.inr (Or.inl rfl) | exact Or.inl rfl) ?_
  | (with_reducible assumption)
  | with_reducible refine fun (hG : okL _) => ?_
  | (with_reducible refine fun (hT : (_ : Bool) = _) => ?_)
  | (with_reducible first | exact hG.2 | exact hG.2.2 | exact hG.2.2.2 | exact hG.2.2.2.2)
  | with_reducible refine okL_mk ?_ ?_
  | with_reducible refine And.intro ?_ ?_
  | (refine Exists.elim (⟨_, rfl⟩ : ∃ q, hvP n b x.2 x.1 y.1 = q) (fun q hq => ?_); have hcq : q = true := (by rw [← hq, hvP_eq hv.2.2.1, ← ifs3]; exact hc); subst hcq; clear hc; have hc : True := trivial)
  | (refine Exists.elim (⟨_, rfl⟩ : ∃ q, hvP n b x.2 x.1 y.1 = q) (fun q hq => ?_); have hcq : q = false := (by rw [← hq, hvP_eq hv.2.2.1, ← ifs3]; exact hc); subst hcq; clear hc; have hc : True := trivial)
  | (have _q : hvP n b x.2 x.1 y.1 = false := hq; with_reducible refine loopQ_next (y.1 + 1, ()) ?_ ?_ (Wk_sub rfl rfl ?_ ?_))
  | (have _q : hvP n b x.2 x.1 y.1 = true := hq; with_reducible refine loopQ_next (x.1 + 1, x.2 ++ [(y.1 : Int)]) ?_ ?_ (Wk_sub rfl rfl ?_ ?_))
  | (have _q : decide ((y.1 : Int) < x.1) = false := hc; with_reducible refine loopQ_next (x.1 + 1, x.2 ++ [(x.1 : Int)]) ?_ ?_ (Wk_sub rfl rfl ?_ ?_))
  | (with_reducible refine awp_loopU (b := f35p10) (fun x : Nat × List Int => HvI n b x) (fun x => b.length - x.1) (fun x => [(13, .d (.v (.int .i64 x.1)))]) (fun x => [(10, .row 3 1 0 ((outR b.length x.2).map iD))]) ((0, [])) (HvI.zero n b) (Wk.refl _ _) (Wk_sub rfl rfl ?_ ?_) (fun x hx => ?_))
  | (refine Exists.elim (at_drop iD b x.1 (Int.ofNat_lt.1 (of_decide_eq_true (show decide ((x.1 : Int) < b.length) = true from hc)))) (fun v hv => ?_); have g1 := hv.2.1; simp only [Int.toNat_natCast] at g1; have hk := hv.2.2.2; replace hc : True := trivial)
  | (with_reducible refine awp_loopU (b := f35p4) (fun y : Nat × Unit => y.1 ≤ x.1 ∧ ∀ j, j < y.1 → hvP n b x.2 x.1 j = false) (fun y => x.1 - y.1) (fun y => [(7, .d (.v (.int .i64 y.1)))]) (fun y => [(10, .row 3 1 0 ((outR b.length (x.2 ++ [(x.1 : Int)])).map iD))]) ((0, ())) (⟨Nat.zero_le _, fun j hj => absurd hj (Nat.not_lt_zero j)⟩) (Wk.refl _ _) (Wk_sub rfl rfl ?_ ?_) (fun y hy => ?_))
  | (have hlt : y.1 < x.1 := (by have := of_decide_eq_true (show decide ((y.1 : Int) < (x.1 : Int)) = true from hc); omega); have g2 := outR_old2 (N := b.length) hx.out hlt (x.1 : Int); have g3 := at_int iD b (k := (y.1 : Int)) 0 (by omega) (by omega); simp only [Int.toNat_natCast] at g3; replace hc : True := trivial)
  | simp only [f35r0, f35r1, f35r2, f35r3, f35r4, f35r5, f35r6, f35r7, f35r8, f35r9, f35r10, f35r11, f35r12, g1, g2, g3, g4, f35k, List.length_map, List.length_replicate, Int.toNat_natCast, outR_len, runG_nil, runG_u, runG_g, runG_ucS, runG_gcS, runG_uvS, stp, avL, avS, evs, evX, lget, lput, strip, putO, PO.dst, updO, okR, cells, splice, AV.cell, toD, toDs, binV, sameK, pickV, guardOf, okL_nil, sides, argsOf, rawOf, dv, dvL, owns, ownsL, flat, flatL, lkeep, seqQ, blockQ, initS, List.drop_succ_cons, List.drop_zero, List.take_succ_cons, List.take_zero, List.getD_cons_zero, List.getD_cons_succ, List.length_cons, List.length_nil, List.set_cons_zero, List.set_cons_succ, List.map_cons, List.map_nil, List.all_cons, List.all_nil, List.elem_cons, List.elem_nil, Option.getD_some, Option.getD_none, Option.bind_some, Option.isNone_none, reduceIte, reduceCtorEq, Nat.reduceEqDiff, Nat.reduceAdd, Nat.reduceLeDiff, Nat.zero_add, Nat.add_zero, Nat.reduceBEq, Bool.and_self, Bool.and_true, Bool.true_and, Bool.or_self, Bool.or_false, Bool.false_or, Bool.or_true, Bool.true_or, true_and, and_true, and_self, implies_true, forall_const, Bool.false_eq_true, id_eq, retQ, resOf, resV, Option.some.injEq, exists_eq_left', AV.d.injEq, D.v.injEq, Value.bool.injEq, imp_self, bldF, bldS, toVals, eqLs, Option.map_some, imp_false, not_true_eq_false, not_false_eq_true, foot, wrs, nm, nmL, PG.reads, PG.dst, PO.reads, X.sl, sls, slB, List.append_nil, List.cons_append, List.nil_append, Option.toList_some, Option.toList_none, loopQ_exit, loopQ_ret, subS, subO, Bool.bne_false, Bool.bne_true, elemsOf, bslD, bslS, mentries, isAgV, asA, lputs, mgetD_set, mcmp_set, mput_set, List.headD_cons, sealS, sealO, sealV, sealL, mput_nil, mcmp_nil, midQ_ret, midQ_exit, sealsS, sealsO, runW_nil, runW_cons, Bool.true_bne, Bool.false_bne, bne_self_eq_false, Int.reduceToNat, bndV, oSl, resR, runS_nil, runS_gc, ren, renL, renO, sg, gBack, scopeQ_normal, scopeQ_ret, scopeQ_exit, lenB, argsN, dvN]
  all_goals try first
    | omega
    | (with_reducible rfl)
    | (show Value.int _ 0 = _; rfl)
    | exact count64 hk (by omega)
    | exact count64 hlt (by omega)
    | (have := hx.out; have := hx.le; rw [outR_len (by simp; omega)]; omega)
    | (have := hx.out; have := hx.le; rw [outR_len (by omega)]; omega)
    | (simp [outR, List.map_replicate]; done)
    | exact ⟨hlt, ones_step hq hy.2⟩
    | exact ones_step hq hy.2
    | exact hx.hit hk hlt hq hy.2
    | exact hx.new hk (fun j hj => hy.2 j (by have := of_decide_eq_false hc; omega))
    | exact outR_row2 hx.out hk _
    | exact outR_row hx.out hk _
    | exact outR_put2 hx.out hk _ _
    | exact outR_put3 hx.out hk _ _
    | (rw [hx.done (by have := of_decide_eq_false hc; omega)]; done)
  all_goals trace_state
end Go.Proofs.Ytokfackbnnkbnaa

