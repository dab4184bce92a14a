/- What refine.split comes to. Printed by a program of this project (wip/mq). -/
import Derived.Test.YtgkkaimcchlnaaaGreatDoorSame
set_option linter.unusedVariables false
set_option linter.unusedSimpArgs false

namespace Go.Proofs.YtgkkaimcchlnaaaGreatDoor
open Go Mq Go.ChangeShapes Go.WideShapes Go.ChangeAt Go.RowKit
/-! maquette/refine.split -/
def f54r0 : List PG := [.u (.bx 3 (.t 0)), .u (.mv 6 (.nl 1))]
def f54r1 : List PG := [.u (.mv 13 (.t 2)), .u (.len 14 (.t 13)), .u (.mks 15 3 1 8 [.d (.v (.int .i64 0))] (.t 14)), .u (.mv 7 (.t 15))]
def f54r2 : List PG := [.u (.mv 8 (.nl 1))]
def f54r3 : List PG := [.u (.mv 16 (.t 2)), .u (.len 17 (.t 16)), .u (.mks 18 196 1 8 [.d (.v (.map none))] (.t 17)), .u (.mv 9 (.t 18))]
def f54r4 : List PG := [.u (.mv 19 (.t 2)), .u (.len 20 (.t 19)), .u (.mv 21 (.k (.int .i64 0)))]
def f54r5 : List PG := [.u (.bo 22 .lss (.t 21) (.t 20))]
def f54r6 : List PG := [.u (.mv 23 (.t 21)), .u (.mv 10 (.t 23))]
def f54r7 : List PG := [.u (.mv 24 (.t 9)), .u (.mv 25 (.t 10)), .u (.ld 26 3 true (.t 3)), .u (.mv 27 (.t 1)), .u (.mv 28 (.t 10)), .u (.ia 29 1 (.t 27) (.t 28)), .u (.ld 30 1 false (.t 29)), .u (.mv 31 (.t 2)), .u (.mv 32 (.t 10)), .uc 33 90 [.t 26, .t 30, .t 31, .t 32], .u (.ia 34 1 (.t 24) (.t 25)), .u (.st 1 (.t 34) (.t 33))]
def f54r8 : List PG := [.u (.mv 35 (.t 8)), .u (.len 36 (.t 35)), .u (.mv 37 (.k (.int .i64 0)))]
def f54r9 : List PG := [.u (.bo 38 .lss (.t 37) (.t 36))]
def f54r10 : List PG := [.u (.mv 39 (.t 37)), .u (.ia 40 1 (.t 35) (.t 37)), .u (.ld 41 1 false (.t 40)), .u (.mv 11 (.t 39)), .u (.mv 12 (.t 41))]
def f54r11 : List PG := [.u (.mv 42 (.t 2)), .u (.mv 43 (.t 12)), .u (.ia 44 1 (.t 42) (.t 43)), .u (.ld 45 1 false (.t 44)), .u (.mv 46 (.t 2)), .u (.mv 47 (.t 10)), .u (.ia 48 1 (.t 46) (.t 47)), .u (.ld 49 1 false (.t 48)), .u (.beq 50 false false (.t 45) (.t 49)), .u (.mv 51 (.t 50)), .g 51 true (.mv 52 (.t 9)), .g 51 true (.mv 53 (.t 12)), .g 51 true (.ia 54 1 (.t 52) (.t 53)), .g 51 true (.ld 55 1 false (.t 54)), .g 51 true (.mv 56 (.t 9)), .g 51 true (.mv 57 (.t 10)), .g 51 true (.ia 58 1 (.t 56) (.t 57)), .g 51 true (.ld 59 1 false (.t 58)), .gc 51 true 60 91 [.t 55, .t 59], .u (.pick 61 (.t 51) (.t 60) (.k (.bool false)))]
def f54r12 : List PG := [.u (.mv 62 (.t 7)), .u (.mv 63 (.t 10)), .u (.mv 64 (.t 11)), .u (.ia 65 1 (.t 62) (.t 63)), .u (.st 1 (.t 65) (.t 64))]
abbrev f54p0 : PC := .seq (.reg f54r12) (.exit 1)
abbrev f54p1 : PC := .cond (.t 61) (f54p0) (.skip)
abbrev f54p2 : PC := .seq (.regD f54r11 []) (f54p1)
def f54r13 : List PG := [.u (.bo 66 .add (.t 37) (.k (.int .i64 1))), .u (.mv 37 (.t 66))]
abbrev f54p3 : PC := .seq (.block 3 (.seq (.reg f54r10) (f54p2))) (.reg f54r13)
abbrev f54p4 : PC := .seq (.cond (.t 38) (.skip) (.exit 2)) (f54p3)
abbrev f54p5 : PC := .seq (.reg f54r9) (f54p4)
abbrev f54p6 : PC := .block 2 (.loop (f54p5))
def f54r14 : List PG := [.u (.mv 67 (.t 7)), .u (.mv 68 (.t 10)), .u (.mv 69 (.t 8)), .u (.len 70 (.t 69)), .u (.ia 71 1 (.t 67) (.t 68)), .u (.st 1 (.t 71) (.t 70))]
def f54r15 : List PG := [.u (.mv 72 (.t 8)), .u (.mv 73 (.t 10)), .u (.bslF 74 3 1 [.t 73]), .u (.app 75 3 1 8 (.t 72) (.t 74)), .u (.mv 8 (.t 75))]
abbrev f54p7 : PC := .seq (.reg f54r14) (.reg f54r15)
abbrev f54p8 : PC := .seq (.seq (.reg f54r8) (f54p6)) (f54p7)
abbrev f54p9 : PC := .seq (.regD f54r7 []) (f54p8)
def f54r16 : List PG := [.u (.bo 76 .add (.t 21) (.k (.int .i64 1))), .u (.mv 21 (.t 76))]
abbrev f54p10 : PC := .seq (.block 1 (.seq (.reg f54r6) (f54p9))) (.reg f54r16)
abbrev f54p11 : PC := .seq (.cond (.t 22) (.skip) (.exit 0)) (f54p10)
abbrev f54p12 : PC := .seq (.reg f54r5) (f54p11)
abbrev f54p13 : PC := .block 0 (.loop (f54p12))
def f54r17 : List PG := [.u (.mv 77 (.t 7)), .u (.mv 6 (.t 77))]
abbrev f54p14 : PC := .seq (.reg f54r17) (.ret)
abbrev f54p15 : PC := .seq (.seq (.reg f54r4) (f54p13)) (f54p14)
abbrev f54p16 : PC := .seq (.skip) (f54p15)
abbrev f54p17 : PC := .seq (.reg f54r3) (f54p16)
abbrev f54p18 : PC := .seq (.reg f54r2) (f54p17)
abbrev f54p19 : PC := .scope (.seq (.reg f54r1) (f54p18))
abbrev f54pc : PC := .seq (.reg f54r0) (f54p19)
def f54k : List Nat := [0, 1, 2, 3, 6, 7, 8, 9, 10, 11, 12, 20, 21, 22, 35, 36, 37, 38, 61]
theorem f54c : Tryz.f54.body.bind (cC te Tryz.f54.ntmps) = some f54pc := by kernel_rfl
set_option maxRecDepth 20000
set_option maxHeartbeats 4000000


def outR (N : Nat) (out : List Int) : List Int := out ++ List.replicate (N - out.length) 0
theorem outR_len {N : Nat} {out : List Int} (h : out.length ≤ N) : (outR N out).length = N := by simp [outR]; omega
theorem outR_set {N : Nat} {out : List Int} (h : out.length < N) (v : Int) : (outR N out).set out.length v = outR N (out ++ [v]) := by
  unfold outR
  rw [List.set_append_right _ _ (Nat.le_refl _), Nat.sub_self, show N - out.length = (N - (out.length + 1)) + 1 by omega, List.replicate_succ, List.set_cons_zero, List.length_append, List.length_singleton, List.append_assoc]
  rfl
theorem outR_end {N : Nat} {out : List Int} (h : N ≤ out.length) : outR N out = out := by simp [outR, show N - out.length = 0 by omega]
theorem outR_row {e s g N : Nat} {out : List Int} {k : Nat} (hk : out.length = k) (h : k < N) (v : Int) : AO.row e s g (((outR N out).map iD).set k [.v (.int .i64 v)]) = AO.row e s g ((outR N (out ++ [v])).map iD) := by
  subst hk
  rw [show [D.v (.int .i64 v)] = iD v from rfl, ← List.map_set, outR_set h]
abbrev setD (s : List (List Int)) : List D := [.mp true false (lset s)]
def setsR (mk : Nat → List (List Int)) (N k : Nat) : List (List D) := (List.range N).map fun j => if j < k then setD (mk j) else [.v (.map none)]
theorem setsR_len (mk : Nat → List (List Int)) (N k : Nat) : (setsR mk N k).length = N := by simp [setsR]
theorem setsR_zero (mk : Nat → List (List Int)) (N : Nat) : List.replicate N [D.v (.map none)] = setsR mk N 0 := by
  refine List.ext_getElem (by simp [setsR]) (fun i h1 h2 => ?_)
  simp [setsR]
theorem setsR_get {mk : Nat → List (List Int)} {N k j : Nat} (h : j < k) (h2 : k ≤ N) : (setsR mk N k).getD j [] = setD (mk j) := by
  rw [List.getD_eq_getElem?_getD, List.getElem?_eq_getElem (by rw [setsR_len]; omega)]
  simp [setsR, h]
theorem setsR_set {mk : Nat → List (List Int)} {N k : Nat} (h : k < N) : (setsR mk N k).set k (setD (mk k)) = setsR mk N (k + 1) := by
  refine List.ext_getElem (by simp [setsR]) (fun i h1 h2 => ?_)
  rw [List.getElem_set]
  simp only [setsR, List.getElem_map, List.getElem_range]
  by_cases hi : k = i
  · subst hi; simp
  · simp only [if_neg hi]
    by_cases h3 : i < k
    · rw [if_pos h3, if_pos (by omega)]
    · rw [if_neg h3, if_neg (by omega)]
theorem setsR_get0 {mk : Nat → List (List Int)} {N k : Nat} (h : k < N) : (setsR mk N k).getD k [] = [.v (.map none)] := by
  rw [List.getD_eq_getElem?_getD, List.getElem?_eq_getElem (by rw [setsR_len]; omega)]
  simp [setsR]
theorem setsR_put {e s g : Nat} {mk : Nat → List (List Int)} {N k : Nat} {t : List (List Int)} (h : k < N) (ht : mk k = t) : AO.row e s g ((setsR mk N k).set k (((setsR mk N k).getD k []).set 0 (.mp true false (lset t)))) = AO.row e s g (setsR mk N (k + 1)) := by
  subst ht
  rw [setsR_get0 h, ← setsR_set h]
  rfl
theorem fs_snoc {fs : List Int} {k : Nat} (h : ∀ f ∈ fs, 0 ≤ f ∧ f < k) : ∀ f ∈ fs ++ [(k : Int)], 0 ≤ f ∧ f < ((k + 1 : Nat) : Int) := by
  intro f hf
  rcases List.mem_append.1 hf with q | q
  · have := h f q; omega
  · simp only [List.mem_singleton] at q; omega
theorem fs_up {fs : List Int} {k : Nat} (h : ∀ f ∈ fs, 0 ≤ f ∧ f < k) : ∀ f ∈ fs, 0 ≤ f ∧ f < ((k + 1 : Nat) : Int) := fun f hf => by have := h f hf; omega
theorem outR_row2 {e s g N : Nat} {out : List Int} {k : Nat} (hk : out.length = k) (h : k < N) (v : Int) : AO.row e s g (((outR N out).map iD).set k ((((outR N out).map iD).getD k []).set 0 (.v (.int .i64 v)))) = AO.row e s g ((outR N (out ++ [v])).map iD) := by
  rw [← outR_row hk h v]
  have : ((outR N out).map iD).getD k [] = iD ((outR N out).getD k 0) := by
    have hl : k < (outR N out).length := by rw [outR_len (by omega)]; exact h
    simp [List.getD, hl]
  rw [this]
  rfl
theorem cls_if {n : Net} {pss : List (List (List Int))} {b : List Int} {f v : Int} {k : Nat} {c : Bool} (hv : b[k]? = some v) (h : (if (b.getD f.toNat 0 == v) = true then sameM (marksV n (pss.getD f.toNat []) b f.toNat) (marksV n (pss.getD k []) b k) else false) = c) : clsP n pss b f.toNat k = c := by
  have hv : b.getD k 0 = v := by simp [List.getD, hv]
  rw [← h]; unfold clsP; rw [hv]; cases b.getD f.toNat 0 == v <;> simp
theorem findF_hit {cls : Nat → Nat → Bool} {k : Nat} {fs : List Int} {f : Int} {r : List Int} {i : Nat} {T : Option Nat} (h : findF cls k fs i = T) (hd : fs = f :: r) (hc : cls f.toNat k = true) : T = some i := by subst hd; rw [← h, findF, if_pos hc]
theorem findF_miss {cls : Nat → Nat → Bool} {k : Nat} {fs : List Int} {f : Int} {r : List Int} {i : Nat} {T : Option Nat} (h : findF cls k fs i = T) (hd : fs = f :: r) (hc : cls f.toNat k = false) : findF cls k r (i + 1) = T := by subst hd; rw [← h, findF, if_neg (by rw [hc]; decide)]
theorem split_hit {cls : Nat → Nat → Bool} {N k : Nat} {fs out : List Int} {i : Nat} {T : List Int} (h : splitGo cls (N - k) fs out = T) (hk : k < N) (hl : out.length = k) (hf : findF cls k fs 0 = some i) : splitGo cls (N - (k + 1)) fs (out ++ [(i : Int)]) = T := by
  rw [← h, show N - k = (N - (k + 1)) + 1 by omega, splitGo, hl, hf]
theorem split_miss {cls : Nat → Nat → Bool} {N k : Nat} {fs out : List Int} {T : List Int} (h : splitGo cls (N - k) fs out = T) (hk : k < N) (hl : out.length = k) (hf : findF cls k fs 0 = none) : splitGo cls (N - (k + 1)) (fs ++ [(k : Int)]) (out ++ [(fs.length : Int)]) = T := by
  rw [← h, show N - k = (N - (k + 1)) + 1 by omega, splitGo, hl, hf]
theorem split_done {cls : Nat → Nat → Bool} {N k : Nat} {fs out : List Int} {T : List Int} (h : splitGo cls (N - k) fs out = T) (hk : N ≤ k) : out = T := by rw [← h, show N - k = 0 by omega, splitGo]
theorem marks_len {n : Net} {ps : List (List Int)} (hp : ∀ p ∈ ps, p.length = 24) (b : List Int) (k : Nat) : ∀ y ∈ marksV n ps b k, y.length = 25 := marksGo_len b _ ps [] hp (by simp)
structure PssOk (n : Net) (pss : List (List (List Int))) : Prop where
  len : pss.length = n.origin.length
  row : ∀ (k : Nat) es ps, n.edges[k]? = some es → pss[k]? = some ps → ps.length = es.length
  pol : ∀ ps ∈ pss, ∀ p ∈ ps, p.length = 24
theorem split_fn (n : Net) (hn : n.small) (m : n.May) (pss : List (List (List Int))) (hP : PssOk n pss) (b : List Int) (hb : b.length = n.origin.length) :
    FnS Tryz.prog 54 [n.av, .d (.sl 1 (pss.map pssD)), .d (.sl 1 (b.map iD))] (.d (.sl 1 ((splitGo (clsP n pss b) b.length [] []).map iD))) := by
  have hm : maxLen = 9223372036854775807 := rfl
  have m3 := m.most
  have m2 := m.edges
  have hpl := hP.len
  have hmk : ∀ (ps : List (List Int)), ps ∈ pss → ∀ k, ∀ y ∈ marksV n ps b k, y.length = 25 := fun ps hp k => marks_len (hP.pol ps hp) b k
  refine fn_of teok Tryz.func54 (by kernel_rfl) f54c f54k [.tmp 6] rfl (by show 3 ≤ 78; omega) ?_
  first | (have _q := @g1; clear _q) | have g1 : Nat.pred 77 = 76 := rfl
  first | (have _q := @g2; clear _q) | have g2 : Nat.pred 77 = 76 := rfl
  first | (have _q := @g3; clear _q) | have g3 : Nat.pred 77 = 76 := rfl
  first | (have _q := @g4; clear _q) | have g4 : Nat.pred 77 = 76 := rfl
  first | (have _q := @g5; clear _q) | have g5 : Nat.pred 77 = 76 := rfl
  first | (have _q := @g6; clear _q) | have g6 : Nat.pred 77 = 76 := rfl
  first | (have _q := @g7; clear _q) | have g7 : Nat.pred 77 = 76 := rfl
  repeat' first
|(exact absurd hc (by decide))
|(with_reducible first | refine awp_seq ?_ | refine awp_block ?_ | refine awp_scope ?_ | refine awp_reg ?_ | refine awp_regD ?_ | refine awp_ret ?_ | refine awp_skip ?_ | refine awp_exit ?_ | refine normQ_of ?_ | refine wkE_of ?_ | refine runD_nil ?_ | refine runD_cons ?_ | refine runF_cons ?_ | refine runF_nil ?_ | refine KF_of ?_ | refine chkQ_of rfl ?_)
|with_reducible refine awp_cond (by simp only [evX, lget, Option.getD_some, reduceIte, Nat.reduceEqDiff]; rfl) (fun hc => ?_) (fun hc => ?_)
|with_reducible refine CallU_of (f := 90) (marks_fn n hn m ps (hP.pol ps (List.mem_of_getElem? hq.2.2.1)) b hb x.1 (by omega) hrow) (by first | exact Or.inr (Or.inl rfl) | exact Or.inl rfl) ?_
|with_reducible refine CallC_of (f := 91) (fun _ => samem_fn (marksV n (pss.getD f.toNat []) b f.toNat) (marksV n (pss.getD x.1 []) b x.1) hm1 hm2) (by first | exact Or.inr (Or.inl rfl) | exact Or.inl rfl) ?_
|(with_reducible assumption)
|with_reducible refine fun (hG : okL _) => ?_
|(with_reducible refine fun (hT : (_ : Bool) = _) => ?_)
|(with_reducible first | exact hG.2 | exact hG.2.2 | exact hG.2.2.2 | exact hG.2.2.2.2)
|with_reducible refine okL_mk ?_ ?_
|with_reducible refine And.intro ?_ ?_
|(with_reducible refine loopQ_next ((y.1 + 1, ())) ?_ ?_ (Wk_sub rfl rfl ?_ ?_))
|(have _q : (if (b.getD f.toNat 0 == v) = true then _ else false) = true := hc; with_reducible refine loopQ_next (x.1 + 1, x.2.1, x.2.2 ++ [(y.1 : Int)]) ?_ ?_ (Wk_sub rfl rfl ?_ ?_))
|(with_reducible refine loopQ_next ((x.1 + 1, x.2.1 ++ [(x.1 : Int)], x.2.2 ++ [(x.2.1.length : Int)])) ?_ ?_ (Wk_sub rfl rfl ?_ ?_))
|(with_reducible refine awp_loopU (b := f54p12) (fun x : Nat × List Int × List Int => x.1 ≤ b.length ∧ x.2.2.length = x.1 ∧ x.2.1.length ≤ x.1 ∧ (∀ f ∈ x.2.1, 0 ≤ f ∧ f < x.1) ∧ splitGo (clsP n pss b) (b.length - x.1) x.2.1 x.2.2 = splitGo (clsP n pss b) b.length [] []) (fun x => b.length - x.1) (fun x => [(21, .d (.v (.int .i64 x.1))), (8, .own 75 x.2.1.length)]) (fun x => [(15, .row 3 1 0 ((outR b.length x.2.2).map iD)), (75, .row 3 1 x.2.1.length (x.2.1.map iD)), (18, .row 196 1 0 (setsR (fun j => marksV n (pss.getD j []) b j) b.length x.1))]) ((0, [], [])) (⟨Nat.zero_le _, rfl, Nat.le_refl _, by simp, rfl⟩) (Wk_nl 8 75 3 rfl rfl (by decide)) (Wk_sub rfl rfl ?_ ?_) (fun x hx => ?_))
|(refine Exists.elim (at_drop iD b x.1 (Int.ofNat_lt.1 (of_decide_eq_true (show decide ((x.1 : Int) < b.length) = true from hc)))) (fun v he => ?_); refine Exists.elim (at_drop pssD pss x.1 (by have := he.2.2.2; omega)) (fun ps hq => ?_); have g1 := he.2.1; have g2 := hq.2.1; simp only [Int.toNat_natCast] at g1 g2; have hk := he.2.2.2; have hgp : pss.getD x.1 [] = ps := gD_some hq.2.2.1; have hrow : ps.length = (n.edges.getD x.1 []).length := (by have hes : n.edges[x.1]? = some n.edges[x.1] := List.getElem?_eq_getElem (by omega); rw [gD_some hes]; exact hP.row x.1 _ ps hes hq.2.2.1); have g3 : (setsR (fun j => marksV n (pss.getD j []) b j) b.length (x.1 + 1)).getD x.1 [] = setD (marksV n (pss.getD x.1 []) b x.1) := setsR_get (Nat.lt_succ_self _) hk; replace hc : True := trivial)
|(with_reducible refine awp_loopU (b := f54p5) (fun y : Nat × Unit => y.1 ≤ x.2.1.length ∧ findF (clsP n pss b) x.1 (x.2.1.drop y.1) y.1 = findF (clsP n pss b) x.1 x.2.1 0) (fun y => x.2.1.length - y.1) (fun y => [(37, .d (.v (.int .i64 y.1)))]) (fun y => [(18, .row 196 1 0 (setsR (fun j => marksV n (pss.getD j []) b j) b.length (x.1 + 1)))]) ((0, ())) (⟨Nat.zero_le _, rfl⟩) (Wk.refl _ _) (Wk_sub rfl rfl ?_ ?_) (fun y hy => ?_))
|(refine Exists.elim (at_drop iD x.2.1 y.1 (Int.ofNat_lt.1 (of_decide_eq_true (show decide ((y.1 : Int) < x.2.1.length) = true from hc)))) (fun f hf => ?_); have g4 := hf.2.1; simp only [Int.toNat_natCast] at g4; have hfr := hx.2.2.2.1 f (List.mem_of_getElem? hf.2.2.1); have g5 := at_int iD b 0 hfr.1 (by omega); have g6 : (setsR (fun j => marksV n (pss.getD j []) b j) b.length (x.1 + 1)).getD f.toNat [] = setD (marksV n (pss.getD f.toNat []) b f.toNat) := setsR_get (by omega) hk; have g7 : 0 = 0 := rfl; have hm2 : ∀ y ∈ marksV n (pss.getD x.1 []) b x.1, y.length = 25 := hmk _ (by rw [hgp]; exact List.mem_of_getElem? hq.2.2.1) _; have hm1 : ∀ y ∈ marksV n (pss.getD f.toNat []) b f.toNat, y.length = 25 := hmk _ (by rw [gD_some (List.getElem?_eq_getElem (show f.toNat < pss.length by omega))]; exact List.getElem_mem _) _; replace hc : True := trivial)
|simp only [f54r0, f54r1, f54r2, f54r3, f54r4, f54r5, f54r6, f54r7, f54r8, f54r9, f54r10, f54r11, f54r12, f54r13, f54r14, f54r15, f54r16, f54r17, g1, g2, g3, g4, g5, g6, g7, f54k, List.length_map, Int.toNat_natCast, setsR_len, outR_len, runG_nil, runG_u, runG_g, runG_ucS, runG_gcS, stp, avL, avS, evs, evX, lget, lput, strip, putO, PO.dst, updO, okR, cells, splice, AV.cell, toD, toDs, binV, sameK, pickV, guardOf, okL_nil, sides, argsOf, rawOf, dv, dvL, owns, ownsL, flat, flatL, lkeep, seqQ, blockQ, initS, List.drop_succ_cons, List.drop_zero, List.take_succ_cons, List.take_zero, List.getD_cons_zero, List.getD_cons_succ, List.length_cons, List.length_nil, List.set_cons_zero, List.set_cons_succ, List.map_cons, List.map_nil, List.all_cons, List.all_nil, List.elem_cons, List.elem_nil, Option.getD_some, Option.getD_none, Option.bind_some, Option.isNone_none, reduceIte, reduceCtorEq, Nat.reduceEqDiff, Nat.reduceAdd, Nat.reduceLeDiff, Nat.zero_add, Nat.add_zero, Nat.reduceBEq, Bool.and_self, Bool.and_true, Bool.true_and, Bool.or_self, Bool.or_false, Bool.false_or, Bool.or_true, Bool.true_or, true_and, and_true, and_self, implies_true, forall_const, Bool.false_eq_true, id_eq, retQ, resOf, resV, Option.some.injEq, exists_eq_left', AV.d.injEq, D.v.injEq, Value.bool.injEq, imp_self, bldF, bldS, toVals, eqLs, Option.map_some, imp_false, not_true_eq_false, not_false_eq_true, foot, wrs, nm, nmL, PG.reads, PG.dst, PO.reads, X.sl, sls, slB, List.append_nil, List.cons_append, List.nil_append, Option.toList_some, Option.toList_none, loopQ_exit, loopQ_ret, subS, subO, Bool.bne_false, Bool.bne_true, elemsOf, bslD, bslS, lputs, List.headD_cons, sealS, sealO, sealV, sealL, sealsS, sealsO, Bool.true_bne, Bool.false_bne, bne_self_eq_false, Int.reduceToNat, oSl, resR, scopeQ_normal, scopeQ_ret, scopeQ_exit, argsN, dvN]
  all_goals try first
|omega
|(with_reducible rfl)
|(show Value.int _ 0 = _; rfl)
|(simp [outR, List.map_replicate]; done)
|(rw [setsR_zero]; done)
|exact setsR_put hk (by rw [← hgp])
|(rw [outR_len (by have := hx.2.1; omega)]; omega)
|(have := hx.2.1; simp only [List.length_append, List.length_singleton]; omega)
|exact fs_snoc hx.2.2.2.1
|exact fs_up hx.2.2.2.1
|exact split_miss hx.2.2.2.2 hk hx.2.1 (by have h0 := of_decide_eq_false hc; have h1 := hy.2; rw [List.drop_eq_nil_of_le (by omega), findF] at h1; exact h1.symm)
|exact split_hit hx.2.2.2.2 hk hx.2.1 (findF_hit hy.2 hf.1 (cls_if he.2.2.1 hc))
|exact findF_miss hy.2 hf.1 (cls_if he.2.2.1 hc)
|exact outR_row2 hx.2.1 hk _
|exact outR_row hx.2.1 hk _
|exact count64 hk (by omega)
|exact count64 hf.2.2.2 (by omega)
|(have h0 := of_decide_eq_false (show decide ((x.1 : Int) < b.length) = false from hc); have h1 := split_done hx.2.2.2.2 (by omega); rw [h1, outR_end (by rw [← h1, hx.2.1]; omega)]; done)
  all_goals trace_state
end Go.Proofs.YtgkkaimcchlnaaaGreatDoor
