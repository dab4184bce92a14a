/- What refine.marks and refine.Count come to. Printed by a program of this project (wip/mq). -/
import Derived.Test.YtgkkaimcchlnaaaGreatDoorPols
set_option linter.unusedVariables false
set_option linter.unusedSimpArgs false

namespace Go.Proofs.YtgkkaimcchlnaaaGreatDoor
open Go Mq Go.ChangeShapes Go.WideShapes Go.ChangeAt Go.RowKit
/-! maquette/refine.marks -/
def f90r0 : List PG := [.u (.bx 4 (.t 0)), .u (.mv 8 (.k (.map none)))]
def f90r1 : List PG := [.u (.mkm 12 true false), .u (.mv 9 (.t 12))]
def f90r2 : List PG := [.u (.fa 13 2 (.t 4)), .u (.ld 14 1 false (.t 13)), .u (.mv 15 (.t 3)), .u (.ia 16 1 (.t 14) (.t 15)), .u (.ld 17 1 false (.t 16)), .u (.len 18 (.t 17)), .u (.mv 19 (.k (.int .i64 0)))]
def f90r3 : List PG := [.u (.bo 20 .lss (.t 19) (.t 18))]
def f90r4 : List PG := [.u (.mv 21 (.t 19)), .u (.ia 22 4 (.t 17) (.t 19)), .u (.ld 23 4 true (.t 22)), .u (.al 11 [.d (.v (.int .i64 0)), .d (.v (.int .i64 0)), .nl 10, .nl 10]), .u (.mv 10 (.t 21)), .u (.st 4 (.t 11) (.t 23))]
def f90r5 : List PG := [.u (.mv 24 (.t 9)), .u (.mv 25 (.t 2)), .u (.fa 26 0 (.t 11)), .u (.ld 27 1 false (.t 26)), .u (.ia 28 1 (.t 25) (.t 27)), .u (.ld 29 1 false (.t 28)), .u (.mv 30 (.t 1)), .u (.mv 31 (.t 10)), .u (.ia 32 24 (.t 30) (.t 31)), .u (.ld 33 24 true (.t 32)), .u (.bld 34 [.d (.v (.int .i64 0)), .d (.v (.int .i64 0)), .d (.v (.int .i64 0)), .d (.v (.int .i64 0)), .d (.v (.int .i64 0)), .d (.v (.int .i64 0)), .d (.v (.int .i64 0)), .d (.v (.int .i64 0)), .d (.v (.int .i64 0)), .d (.v (.int .i64 0)), .d (.v (.int .i64 0)), .d (.v (.int .i64 0)), .d (.v (.int .i64 0)), .d (.v (.int .i64 0)), .d (.v (.int .i64 0)), .d (.v (.int .i64 0)), .d (.v (.int .i64 0)), .d (.v (.int .i64 0)), .d (.v (.int .i64 0)), .d (.v (.int .i64 0)), .d (.v (.int .i64 0)), .d (.v (.int .i64 0)), .d (.v (.int .i64 0)), .d (.v (.int .i64 0)), .d (.v (.int .i64 0))] [((0, 1), .t 29), ((1, 24), .t 33)]), .u (.mup true false [.i, .i, .i, .i, .i, .i, .i, .i, .i, .i, .i, .i, .i, .i, .i, .i, .i, .i, .i, .i, .i, .i, .i, .i, .i] 1 (.t 24) (.t 34) (.k (.bool true)))]
def f90r6 : List PG := [.u (.bo 35 .add (.t 19) (.k (.int .i64 1))), .u (.mv 19 (.t 35))]
abbrev f90p0 : PC := .seq (.block 1 (.seq (.reg f90r4) (.regD f90r5 []))) (.reg f90r6)
abbrev f90p1 : PC := .seq (.cond (.t 20) (.skip) (.exit 0)) (f90p0)
abbrev f90p2 : PC := .seq (.reg f90r3) (f90p1)
abbrev f90p3 : PC := .block 0 (.loop (f90p2))
def f90r7 : List PG := [.u (.mv 36 (.t 9)), .u (.mv 8 (.t 36))]
abbrev f90p4 : PC := .seq (.reg f90r7) (.ret)
abbrev f90p5 : PC := .seq (.seq (.reg f90r2) (f90p3)) (f90p4)
abbrev f90p6 : PC := .seq (.reg f90r1) (f90p5)
abbrev f90pc : PC := .seq (.reg f90r0) (f90p6)
def f90k : List Nat := [0, 1, 2, 3, 4, 8, 9, 10, 11, 17, 18, 19, 20]
theorem f90c : Tryz.f90.body.bind (cC te Tryz.f90.ntmps) = some f90pc := by kernel_rfl
/-! maquette/refine.Count -/
def f18r0 : List PG := [.u (.mv 2 (.k (.int .i64 0)))]
def f18r1 : List PG := [.u (.mv 3 (.k (.int .i64 0)))]
def f18r2 : List PG := [.u (.mv 6 (.t 0)), .u (.len 7 (.t 6)), .u (.mv 8 (.k (.int .i64 0)))]
def f18r3 : List PG := [.u (.bo 9 .lss (.t 8) (.t 7))]
def f18r4 : List PG := [.u (.ia 10 1 (.t 6) (.t 8)), .u (.ld 11 1 false (.t 10)), .u (.mv 5 (.t 11))]
def f18r5 : List PG := [.u (.mv 12 (.t 3)), .u (.mv 13 (.t 5)), .u (.bo 14 .add (.t 13) (.k (.int .i64 1))), .u (.mx 15 false (.t 12) (.t 14)), .u (.mv 3 (.t 15))]
def f18r6 : List PG := [.u (.bo 16 .add (.t 8) (.k (.int .i64 1))), .u (.mv 8 (.t 16))]
abbrev f18p0 : PC := .seq (.block 1 (.seq (.reg f18r4) (.reg f18r5))) (.reg f18r6)
abbrev f18p1 : PC := .seq (.cond (.t 9) (.skip) (.exit 0)) (f18p0)
abbrev f18p2 : PC := .seq (.reg f18r3) (f18p1)
abbrev f18p3 : PC := .block 0 (.loop (f18p2))
def f18r7 : List PG := [.u (.mv 17 (.t 3)), .u (.mv 2 (.t 17))]
abbrev f18p4 : PC := .seq (.reg f18r7) (.ret)
abbrev f18p5 : PC := .seq (.seq (.reg f18r2) (f18p3)) (f18p4)
abbrev f18p6 : PC := .seq (.reg f18r1) (f18p5)
abbrev f18pc : PC := .seq (.reg f18r0) (f18p6)
def f18k : List Nat := [0, 2, 3, 5, 6, 7, 8, 9]
theorem f18c : Tryz.f18.body.bind (cC te Tryz.f18.ntmps) = some f18pc := by kernel_rfl
set_option maxRecDepth 20000
set_option maxHeartbeats 4000000


theorem lenB_of : ∀ (ks : List LK) (l : List Value), l.length = ks.length → lenB ks l = true
  | [], [], _ => rfl
  | _ :: a, _ :: b, h => by simp only [lenB]; exact lenB_of a b (by simpa using h)
  | [], _ :: _, h => by simp at h
  | _ :: _, [], h => by simp at h
theorem eqIs : ∀ (x y : List Int), x.length = y.length → eqLs (List.replicate x.length .i) (x.map (Value.int .i64)) (y.map (Value.int .i64)) = some (x == y)
  | [], [], _ => rfl
  | a :: x, b :: y, h => by
    have := eqIs x y (by simpa using h)
    simp only [List.length_cons, List.replicate_succ, List.map_cons, eqLs, if_true, this, Option.map_some]
    rfl
  | [], _ :: _, h => by simp at h
  | _ :: _, [], h => by simp at h
/-- A set of rows of numbers, as a map. -/
def lset (s : List (List Int)) : ML := s.map fun k => (k.map (Value.int .i64), [.v (.bool true)])
theorem mcmp_lset (m : Nat) (x : List Int) (hx : x.length = m) : ∀ (s : List (List Int)), (∀ y ∈ s, y.length = m) → mcmp (List.replicate m .i) (x.map (Value.int .i64)) (lset s) = true
  | [], _ => rfl
  | y :: s, h => by
    have hy := h y (by simp)
    have ih := mcmp_lset m x hx s (fun z hz => h z (by simp [hz]))
    have e := eqIs x y (by omega)
    rw [hx] at e
    simp only [lset, List.map_cons, mcmp]
    rw [e]
    cases x == y
    · exact ih
    · rfl
theorem mget_lset (m : Nat) (x : List Int) (hx : x.length = m) : ∀ (s : List (List Int)), (∀ y ∈ s, y.length = m) → mget (List.replicate m .i) (x.map (Value.int .i64)) (lset s) = if s.elem x then some [.v (.bool true)] else none
  | [], _ => rfl
  | y :: s, h => by
    have hy := h y (by simp)
    have ih := mget_lset m x hx s (fun z hz => h z (by simp [hz]))
    have e := eqIs x y (by omega)
    rw [hx] at e
    simp only [lset, List.map_cons, mget]
    rw [e]
    by_cases hxy : (x == y) = true
    · have : x = y := by simpa using hxy
      subst this
      simp
    · have hxy : (x == y) = false := by simpa using hxy
      rw [hxy, if_neg (by decide)]
      have hel : (y :: s).elem x = s.elem x := by simp only [List.elem_cons, hxy]
      rw [hel]
      exact ih
theorem mput_lset (m : Nat) (x : List Int) (hx : x.length = m) : ∀ (s : List (List Int)), (∀ y ∈ s, y.length = m) → mput (List.replicate m .i) (x.map (Value.int .i64)) [.v (.bool true)] (lset s) = lset (ladd s x)
  | [], _ => rfl
  | y :: s, h => by
    have hy := h y (by simp)
    have ih := mput_lset m x hx s (fun z hz => h z (by simp [hz]))
    have e := eqIs x y (by omega)
    rw [hx] at e
    simp only [lset, List.map_cons, mput]
    rw [e]
    unfold ladd at ih ⊢
    cases hxy : x == y
    · have : ¬ (some false = some true) := by decide
      rw [if_neg this]
      simp only [lset] at ih
      rw [ih]
      have hel : (y :: s).elem x = s.elem x := by simp only [List.elem_cons, hxy]
      rw [hel]
      cases s.elem x <;> simp
    · have : x = y := by simpa using hxy
      subst this
      simp
theorem ladd_len {m : Nat} {s : List (List Int)} {x : List Int} (hx : x.length = m) (h : ∀ y ∈ s, y.length = m) : ∀ y ∈ ladd s x, y.length = m := by
  intro y hy
  rcases mem_ladd.1 hy with q | q
  · exact h y q
  · subst q; exact hx
theorem lenB_pol {p : List Int} (h : p.length = 24) : lenB [.i, .i, .i, .i, .i, .i, .i, .i, .i, .i, .i, .i, .i, .i, .i, .i, .i, .i, .i, .i, .i, .i, .i, .i] (p.map (Value.int .i64)) = true := lenB_of _ _ (by simp [h])
theorem mark_len {x : Int} {p : List Int} (h : p.length = 24) : (x :: p).length = 25 := by simp [h]
theorem mcmp_mark {x : Int} {p : List Int} (h : p.length = 24) {s : List (List Int)} (hs : ∀ y ∈ s, y.length = 25) : mcmp [.i, .i, .i, .i, .i, .i, .i, .i, .i, .i, .i, .i, .i, .i, .i, .i, .i, .i, .i, .i, .i, .i, .i, .i, .i] (Value.int .i64 x :: p.map (Value.int .i64)) (lset s) = true := mcmp_lset 25 (x :: p) (mark_len h) s hs
theorem mput_mark {x : Int} {p : List Int} (h : p.length = 24) {s : List (List Int)} (hs : ∀ y ∈ s, y.length = 25) : mput [.i, .i, .i, .i, .i, .i, .i, .i, .i, .i, .i, .i, .i, .i, .i, .i, .i, .i, .i, .i, .i, .i, .i, .i, .i] (Value.int .i64 x :: p.map (Value.int .i64)) [.v (.bool true)] (lset s) = lset (ladd s (x :: p)) := mput_lset 25 (x :: p) (mark_len h) s hs
theorem eq_pol {p q : List Int} (hp : p.length = 24) (hq : q.length = 24) : eqLs [.i, .i, .i, .i, .i, .i, .i, .i, .i, .i, .i, .i, .i, .i, .i, .i, .i, .i, .i, .i, .i, .i, .i, .i] (p.map (Value.int .i64)) (q.map (Value.int .i64)) = some (p == q) := by
  have := eqIs p q (by omega)
  rw [hp] at this
  exact this
theorem splice_mark (x : Int) {p : List Int} (h : p.length = 24) : splice [iA x, .d (.v (.int .i64 0)), .d (.v (.int .i64 0)), .d (.v (.int .i64 0)), .d (.v (.int .i64 0)), .d (.v (.int .i64 0)), .d (.v (.int .i64 0)), .d (.v (.int .i64 0)), .d (.v (.int .i64 0)), .d (.v (.int .i64 0)), .d (.v (.int .i64 0)), .d (.v (.int .i64 0)), .d (.v (.int .i64 0)), .d (.v (.int .i64 0)), .d (.v (.int .i64 0)), .d (.v (.int .i64 0)), .d (.v (.int .i64 0)), .d (.v (.int .i64 0)), .d (.v (.int .i64 0)), .d (.v (.int .i64 0)), .d (.v (.int .i64 0)), .d (.v (.int .i64 0)), .d (.v (.int .i64 0)), .d (.v (.int .i64 0)), .d (.v (.int .i64 0))] 1 (polA p) = iA x :: polA p := splice_tail _ (by rw [polA_len, h]; rfl)
theorem marksGo_len (b : List Int) : ∀ (es : List Arc) (ps s : List (List Int)), (∀ p ∈ ps, p.length = 24) → (∀ y ∈ s, y.length = 25) → ∀ y ∈ marksGo b es ps s, y.length = 25
  | [], _, _, _, h => by simpa [marksGo] using h
  | _ :: _, [], _, _, h => by simpa [marksGo] using h
  | e :: es, p :: ps, s, hp, h => by
    simp only [marksGo]
    exact marksGo_len b es ps _ (fun q hq => hp q (by simp [hq])) (ladd_len (by simp [hp p (by simp)]) h)
theorem marksGo_nil (b : List Int) (ps s : List (List Int)) : marksGo b [] ps s = s := by cases ps <;> rfl
theorem drop_getD {α : Type} {l : List α} {k : Nat} {x : α} (h : l[k]? = some x) : l.drop k = x :: l.drop (k + 1) := by
  obtain ⟨hk, rfl⟩ := List.getElem?_eq_some_iff.1 h
  exact List.drop_eq_getElem_cons hk
theorem marks_fn (n : Net) (hn : n.small) (m : n.May) (ps : List (List Int)) (hp : ∀ p ∈ ps, p.length = 24) (b : List Int) (hb : b.length = n.origin.length) (k : Nat) (hk : k < n.origin.length) (hpl : ps.length = (n.edges.getD k []).length) :
    FnS Tryz.prog 90 [n.av, .d (.sl 24 (ps.map polD)), .d (.sl 1 (b.map iD)), .d (.v (.int .i64 k))] (.d (.mp true false (lset (marksV n ps b k)))) := by
  have hm : maxLen = 9223372036854775807 := rfl
  have m2 := m.edges
  have m3 := m.most
  obtain ⟨es, hes⟩ : ∃ es, n.edges[k]? = some es := ⟨_, List.getElem?_eq_getElem (by omega)⟩
  have hge : n.edges.getD k [] = es := gD_some hes
  have hel := m.row es (List.mem_of_getElem? hes)
  have g1 : List.getD (List.map esD n.edges) k [] = esD es := by simp [List.getD, hes]
  have hsr := m.src k es hes
  unfold marksV
  rw [hge] at hpl ⊢
  refine fn_of teok Tryz.func90 (by kernel_rfl) f90c f90k [.tmp 8] rfl (by show 4 ≤ 37; omega) ?_
  first | (have _q := @g1; clear _q) | have g1 : Nat.pred 77 = 76 := rfl
  first | (have _q := @g2; clear _q) | have g2 : Nat.pred 77 = 76 := rfl
  first | (have _q := @g3; clear _q) | have g3 : Nat.pred 77 = 76 := rfl
  first | (have _q := @g4; clear _q) | have g4 : Nat.pred 77 = 76 := rfl
  first | (have _q := @g5; clear _q) | have g5 : Nat.pred 77 = 76 := rfl
  first | (have _q := @g6; clear _q) | have g6 : Nat.pred 77 = 76 := rfl
  first | (have _q := @g7; clear _q) | have g7 : Nat.pred 77 = 76 := rfl
  first | (have _q := @g8; clear _q) | have g8 : Nat.pred 77 = 76 := rfl
  first | (have _q := @g9; clear _q) | have g9 : Nat.pred 77 = 76 := rfl
  repeat' first
|(exact absurd hc (by decide))
|(with_reducible first | refine awp_seq ?_ | refine awp_block ?_ | refine awp_reg ?_ | refine awp_regD ?_ | refine awp_ret ?_ | refine awp_skip ?_ | refine awp_exit ?_ | refine normQ_of ?_ | refine wkE_of ?_ | refine runD_nil ?_ | refine runD_cons ?_ | refine runF_cons ?_ | refine runF_nil ?_ | refine KF_of ?_ | refine chkQ_of rfl ?_)
|with_reducible refine awp_cond (by simp only [evX, lget, Option.getD_some, reduceIte, Nat.reduceEqDiff]; rfl) (fun hc => ?_) (fun hc => ?_)
|(with_reducible assumption)
|(with_reducible refine fun (hT : (_ : Bool) = _) => ?_)
|with_reducible refine And.intro ?_ ?_
|(with_reducible refine awp_loopU (b := f90p2) (fun x : Nat × List (List Int) => x.1 ≤ es.length ∧ (∀ y ∈ x.2, y.length = 25) ∧ marksGo b (es.drop x.1) (ps.drop x.1) x.2 = marksGo b es ps []) (fun x => es.length - x.1) (fun x => [(19, .d (.v (.int .i64 x.1)))]) (fun x => [(12, .map true false (lset x.2))]) ((0, [])) (⟨Nat.zero_le _, by simp, rfl⟩) (Wk.refl _ _) (Wk_sub rfl rfl ?_ ?_) (fun x hx => ?_))
|(refine Exists.elim (at_drop Arc.row es x.1 (Int.ofNat_lt.1 (of_decide_eq_true (show decide ((x.1 : Int) < es.length) = true from hc)))) (fun e he => ?_); refine Exists.elim (at_drop polD ps x.1 (by have := he.2.2.2; omega)) (fun p hq => ?_); have g2 := he.2.1; have g3 := hq.2.1; simp only [Int.toNat_natCast] at g2 g3; have hs := hsr e (List.mem_of_getElem? he.2.2.1); have g4 := at_int iD b 0 hs.1 (by omega); have h24 := hp p (List.mem_of_getElem? hq.2.2.1); have g5 := take_polD h24; have g6 := splice_mark (b.getD e.src.toNat 0) h24; have g7 := lenB_pol h24; have g8 := mcmp_mark (x := b.getD e.src.toNat 0) h24 hx.2.1; have g9 := mput_mark (x := b.getD e.src.toNat 0) h24 hx.2.1; replace hc : True := trivial)
|(with_reducible refine loopQ_next ((x.1 + 1, ladd x.2 (b.getD e.src.toNat 0 :: p))) ?_ ?_ (Wk_sub rfl rfl ?_ ?_))
|simp only [f90r0, f90r1, f90r2, f90r3, f90r4, f90r5, f90r6, f90r7, g1, g2, g3, g4, g5, g6, g7, g8, g9, f90k, List.length_map, Int.toNat_natCast, polA_d, polA_len, polA_cell, toVals_pol, runG_nil, runG_u, runG_ucS, stp, avL, avS, evs, evX, lget, lput, strip, putO, PO.dst, updO, okR, cells, splice, AV.cell, toD, toDs, binV, sameK, pickV, guardOf, okL_nil, sides, argsOf, rawOf, dv, dvL, owns, ownsL, flat, flatL, lkeep, seqQ, blockQ, initS, List.drop_succ_cons, List.drop_zero, List.take_succ_cons, List.take_zero, List.getD_cons_zero, List.getD_cons_succ, List.length_cons, List.length_nil, List.set_cons_zero, List.set_cons_succ, List.map_cons, List.map_nil, List.all_cons, List.all_nil, List.elem_cons, List.elem_nil, Option.getD_some, Option.getD_none, Option.bind_some, Option.isNone_none, reduceIte, reduceCtorEq, Nat.reduceEqDiff, Nat.reduceAdd, Nat.reduceLeDiff, Nat.zero_add, Nat.add_zero, Nat.reduceBEq, Bool.and_self, Bool.and_true, Bool.true_and, Bool.or_self, Bool.or_false, Bool.false_or, Bool.or_true, Bool.true_or, true_and, and_true, and_self, implies_true, forall_const, Bool.false_eq_true, id_eq, retQ, resOf, resV, Option.some.injEq, exists_eq_left', AV.d.injEq, D.v.injEq, Value.bool.injEq, imp_self, bldF, bldS, toVals, eqLs, Option.map_some, imp_false, not_true_eq_false, not_false_eq_true, foot, wrs, nm, nmL, PG.reads, PG.dst, PO.reads, X.sl, sls, slB, List.append_nil, List.cons_append, List.nil_append, Option.toList_some, Option.toList_none, loopQ_exit, loopQ_ret, subS, subO, Bool.bne_false, Bool.bne_true, elemsOf, bslD, bslS, mentries, isAgV, asA, lputs, mgetD_set, mcmp_set, mput_set, List.headD_cons, sealS, sealO, sealV, sealL, mput_nil, mcmp_nil, sealsS, sealsO, Bool.true_bne, Bool.false_bne, bne_self_eq_false, Int.reduceToNat, oSl, resR, lenB, argsN, dvN]
  all_goals try first
|omega
|(with_reducible rfl)
|exact count64 he.2.2.2 (by omega)
|(have := polD_24 h24; omega)
|(show AO.map _ _ [] = AO.map _ _ []; rfl)
|(rw [h24]; done)
|(rw [polD_len, h24]; done)
|exact ladd_len (mark_len h24) hx.2.1
|(have h1 := hx.2.2; rw [drop_getD he.2.2.1, drop_getD hq.2.2.1, marksGo] at h1; exact ⟨ladd_len (mark_len h24) hx.2.1, h1⟩)
|(have h1 := hx.2.2; rw [drop_getD he.2.2.1, drop_getD hq.2.2.1, marksGo] at h1; exact h1)
|(show Value.int _ 0 = _; rfl)
|(have h0 := of_decide_eq_false hc; have h1 := hx.2.2; rw [List.drop_eq_nil_of_le (by omega), marksGo_nil] at h1; rw [h1]; done)
theorem count_fn (b : List Int) (hl : b.length ≤ maxLen) (hb : ∀ x ∈ b, -9223372036854775808 ≤ x ∧ x ≤ 1099511627776) : FnS Tryz.prog 18 [.d (.sl 1 (b.map iD))] (.d (.v (.int .i64 (countV b)))) := by
  have hm : maxLen = 9223372036854775807 := rfl
  refine fn_of teok Tryz.func18 (by kernel_rfl) f18c f18k [.tmp 2] rfl (by show 1 ≤ 18; omega) ?_
  first | (have _q := @g1; clear _q) | have g1 : Nat.pred 77 = 76 := rfl
  first | (have _q := @g2; clear _q) | have g2 : Nat.pred 77 = 76 := rfl
  repeat' first
|(with_reducible first | refine awp_seq ?_ | refine awp_block ?_ | refine awp_reg ?_ | refine awp_ret ?_ | refine awp_skip ?_ | refine awp_exit ?_ | refine normQ_of ?_ | refine wkE_of ?_)
|with_reducible refine awp_cond (by simp only [evX, lget, Option.getD_some, reduceIte, Nat.reduceEqDiff]; rfl) (fun hc => ?_) (fun hc => ?_)
|(with_reducible assumption)
|(with_reducible refine fun (hT : (_ : Bool) = _) => ?_)
|with_reducible refine And.intro ?_ ?_
|(with_reducible refine awp_loopU (b := f18p2) (fun x : Nat × Int => x.1 ≤ b.length ∧ (b.drop x.1).foldl (fun n k => mx n (k + 1)) x.2 = countV b) (fun x => b.length - x.1) (fun x => [(8, .d (.v (.int .i64 x.1))), (3, .d (.v (.int .i64 x.2)))]) (fun x => []) ((0, 0)) (⟨Nat.zero_le _, rfl⟩) (Wk.refl _ _) (Wk_sub rfl rfl ?_ ?_) (fun x hx => ?_))
|(refine Exists.elim (at_drop iD b x.1 (Int.ofNat_lt.1 (of_decide_eq_true (show decide ((x.1 : Int) < b.length) = true from hc)))) (fun v he => ?_); have g1 := he.2.1; simp only [Int.toNat_natCast] at g1; have hv := hb v (List.mem_of_getElem? he.2.2.1); have g2 : IntKind.i64.wrap (v + 1) = v + 1 := wrapI64 _ (by omega) (by omega); replace hc : True := trivial)
|(with_reducible refine loopQ_next ((x.1 + 1, mx x.2 (v + 1))) ?_ ?_ (Wk_sub rfl rfl ?_ ?_))
|simp only [f18r0, f18r1, f18r2, f18r3, f18r4, f18r5, f18r6, f18r7, g1, g2, f18k, List.length_map, Int.toNat_natCast, runG_nil, runG_u, runG_ucS, stp, avL, avS, evs, evX, lget, lput, strip, putO, PO.dst, updO, okR, cells, splice, AV.cell, toD, toDs, binV, sameK, pickV, guardOf, okL_nil, sides, argsOf, rawOf, dv, dvL, owns, ownsL, flat, flatL, lkeep, seqQ, blockQ, initS, List.drop_succ_cons, List.drop_zero, List.take_succ_cons, List.take_zero, List.getD_cons_zero, List.getD_cons_succ, List.length_cons, List.length_nil, List.set_cons_zero, List.set_cons_succ, List.map_cons, List.map_nil, List.all_cons, List.all_nil, List.elem_cons, List.elem_nil, Option.getD_some, Option.getD_none, Option.bind_some, Option.isNone_none, reduceIte, reduceCtorEq, Nat.reduceEqDiff, Nat.reduceAdd, Nat.reduceLeDiff, Nat.zero_add, Nat.add_zero, Nat.reduceBEq, Bool.and_self, Bool.and_true, Bool.true_and, Bool.or_self, Bool.or_false, Bool.false_or, Bool.or_true, Bool.true_or, true_and, and_true, and_self, implies_true, forall_const, Bool.false_eq_true, id_eq, retQ, resOf, resV, Option.some.injEq, exists_eq_left', AV.d.injEq, D.v.injEq, Value.bool.injEq, imp_self, bldF, bldS, toVals, eqLs, Option.map_some, imp_false, not_true_eq_false, not_false_eq_true, List.append_nil, List.cons_append, List.nil_append, Option.toList_some, Option.toList_none, loopQ_exit, loopQ_ret, subS, subO, Bool.bne_false, Bool.bne_true, elemsOf, bslD, bslS, lputs, List.headD_cons, sealS, sealO, sealV, sealL, sealsS, sealsO, Bool.true_bne, Bool.false_bne, bne_self_eq_false, Int.reduceToNat, oSl, resR, argsN, dvN]
  all_goals try first
|omega
|(with_reducible rfl)
|exact count64 he.2.2.2 hl
|(have h1 := hx.2; rw [drop_getD he.2.2.1, List.foldl_cons] at h1; exact h1)
|(show Value.int _ 0 = _; rfl)
|(rw [mx_eq]; done)
|(have h0 := of_decide_eq_false hc; have h1 := hx.2; rw [List.drop_eq_nil_of_le (by omega), List.foldl_nil] at h1; rw [h1]; done)
end Go.Proofs.YtgkkaimcchlnaaaGreatDoor
