/- What maquettelaw17.like, alone and Same come to. Printed by a program of this project (wip/mq). -/
import Derived.Test.YtokfackbnnkbnaaOf
set_option linter.unusedVariables false
set_option linter.unusedSimpArgs false

namespace Go.Proofs.Ytokfackbnnkbnaa
open Go Mq Go.ChangeShapes Go.WideShapes Go.ChangeAt Go.RowKit
/-! maquette/maquettelaw17.like -/
def f18r0 : List PG := [.u (.bx 4 (.t 0)), .u (.mv 8 (.k (.bool false)))]
def f18r1 : List PG := [.u (.fa 14 2 (.t 4)), .u (.ld 15 1 false (.t 14)), .u (.mv 16 (.t 2)), .u (.ia 17 1 (.t 15) (.t 16)), .u (.ld 18 1 false (.t 17)), .u (.len 19 (.t 18)), .u (.mv 20 (.k (.int .i64 0)))]
def f18r2 : List PG := [.u (.bo 21 .lss (.t 20) (.t 19))]
def f18r3 : List PG := [.u (.ia 22 4 (.t 18) (.t 20)), .u (.ld 23 4 true (.t 22)), .u (.al 10 [.d (.v (.int .i64 0)), .d (.v (.int .i64 0)), .nl 10, .nl 10]), .u (.st 4 (.t 10) (.t 23))]
def f18r4 : List PG := [.u (.mv 11 (.k (.bool false)))]
def f18r5 : List PG := [.u (.fa 24 2 (.t 4)), .u (.ld 25 1 false (.t 24)), .u (.mv 26 (.t 3)), .u (.ia 27 1 (.t 25) (.t 26)), .u (.ld 28 1 false (.t 27)), .u (.len 29 (.t 28)), .u (.mv 30 (.k (.int .i64 0)))]
def f18r6 : List PG := [.u (.bo 31 .lss (.t 30) (.t 29))]
def f18r7 : List PG := [.u (.ia 32 4 (.t 28) (.t 30)), .u (.ld 33 4 true (.t 32)), .u (.al 13 [.d (.v (.int .i64 0)), .d (.v (.int .i64 0)), .nl 10, .nl 10]), .u (.st 4 (.t 13) (.t 33))]
def f18r8 : List PG := [.u (.mv 34 (.t 11)), .u (.mv 35 (.t 34)), .g 35 false (.mv 36 (.t 1)), .g 35 false (.fa 37 0 (.t 13)), .g 35 false (.ld 38 1 false (.t 37)), .g 35 false (.ia 39 1 (.t 36) (.t 38)), .g 35 false (.ld 40 1 false (.t 39)), .g 35 false (.mv 41 (.t 1)), .g 35 false (.fa 42 0 (.t 10)), .g 35 false (.ld 43 1 false (.t 42)), .g 35 false (.ia 44 1 (.t 41) (.t 43)), .g 35 false (.ld 45 1 false (.t 44)), .g 35 false (.beq 46 false false (.t 40) (.t 45)), .g 35 false (.mv 47 (.t 46)), .g 47 true (.ld 48 4 true (.t 10)), .g 47 true (.ld 49 4 true (.t 13)), .gc 47 true 50 19 [.t 48, .t 49], .g 35 false (.pick 51 (.t 47) (.t 50) (.k (.bool false))), .u (.pick 52 (.t 35) (.k (.bool true)) (.t 51)), .u (.mv 11 (.t 52))]
def f18r9 : List PG := [.u (.bo 53 .add (.t 30) (.k (.int .i64 1))), .u (.mv 30 (.t 53))]
abbrev f18p0 : PC := .seq (.block 3 (.seq (.reg f18r7) (.regD f18r8 []))) (.reg f18r9)
abbrev f18p1 : PC := .seq (.cond (.t 31) (.skip) (.exit 2)) (f18p0)
abbrev f18p2 : PC := .seq (.reg f18r6) (f18p1)
abbrev f18p3 : PC := .block 2 (.loop (f18p2))
def f18r10 : List PG := [.u (.mv 54 (.t 11)), .u (.no 55 (.t 54))]
def f18r11 : List PG := [.u (.mv 8 (.k (.bool false)))]
abbrev f18p4 : PC := .seq (.reg f18r11) (.ret)
abbrev f18p5 : PC := .cond (.t 55) (f18p4) (.skip)
abbrev f18p6 : PC := .seq (.reg f18r10) (f18p5)
abbrev f18p7 : PC := .seq (.seq (.reg f18r5) (f18p3)) (f18p6)
abbrev f18p8 : PC := .seq (.reg f18r4) (f18p7)
def f18r12 : List PG := [.u (.bo 56 .add (.t 20) (.k (.int .i64 1))), .u (.mv 20 (.t 56))]
abbrev f18p9 : PC := .seq (.block 1 (.seq (.reg f18r3) (f18p8))) (.reg f18r12)
abbrev f18p10 : PC := .seq (.cond (.t 21) (.skip) (.exit 0)) (f18p9)
abbrev f18p11 : PC := .seq (.reg f18r2) (f18p10)
abbrev f18p12 : PC := .block 0 (.loop (f18p11))
def f18r13 : List PG := [.u (.mv 8 (.k (.bool true)))]
abbrev f18p13 : PC := .seq (.reg f18r13) (.ret)
abbrev f18p14 : PC := .seq (.seq (.reg f18r1) (f18p12)) (f18p13)
abbrev f18pc : PC := .seq (.reg f18r0) (f18p14)
def f18k : List Nat := [0, 1, 2, 3, 4, 8, 10, 11, 13, 18, 19, 20, 21, 28, 29, 30, 31, 55]
theorem f18c : Try.f18.body.bind (cC te Try.f18.ntmps) = some f18pc := by kernel_rfl
/-! maquette/maquettelaw17.alone -/
/-! maquette/maquettelaw17.Same -/
def f15r0 : List PG := [.u (.mv 4 (.k (.bool false)))]
def f15r1 : List PG := [.u (.mv 6 (.t 0)), .u (.len 7 (.t 6)), .u (.mv 8 (.t 1)), .u (.len 9 (.t 8)), .u (.beq 10 true false (.t 7) (.t 9))]
def f15r2 : List PG := [.u (.mv 4 (.k (.bool false)))]
abbrev f15p0 : PC := .seq (.reg f15r2) (.ret)
abbrev f15p1 : PC := .cond (.t 10) (f15p0) (.skip)
def f15r3 : List PG := [.u (.mv 11 (.t 0)), .u (.len 12 (.t 11)), .u (.mv 13 (.k (.int .i64 0)))]
def f15r4 : List PG := [.u (.bo 14 .lss (.t 13) (.t 12))]
def f15r5 : List PG := [.u (.mv 15 (.t 13)), .u (.mv 5 (.t 15))]
def f15r6 : List PG := [.u (.mv 16 (.t 0)), .u (.mv 17 (.t 5)), .u (.ia 18 1 (.t 16) (.t 17)), .u (.ld 19 1 false (.t 18)), .u (.mv 20 (.t 1)), .u (.mv 21 (.t 5)), .u (.ia 22 1 (.t 20) (.t 21)), .u (.ld 23 1 false (.t 22)), .u (.beq 24 true false (.t 19) (.t 23))]
def f15r7 : List PG := [.u (.mv 4 (.k (.bool false)))]
abbrev f15p2 : PC := .seq (.reg f15r7) (.ret)
abbrev f15p3 : PC := .cond (.t 24) (f15p2) (.skip)
abbrev f15p4 : PC := .seq (.regD f15r6 []) (f15p3)
def f15r8 : List PG := [.u (.bo 25 .add (.t 13) (.k (.int .i64 1))), .u (.mv 13 (.t 25))]
abbrev f15p5 : PC := .seq (.block 1 (.seq (.reg f15r5) (f15p4))) (.reg f15r8)
abbrev f15p6 : PC := .seq (.cond (.t 14) (.skip) (.exit 0)) (f15p5)
abbrev f15p7 : PC := .seq (.reg f15r4) (f15p6)
abbrev f15p8 : PC := .block 0 (.loop (f15p7))
def f15r9 : List PG := [.u (.mv 4 (.k (.bool true)))]
abbrev f15p9 : PC := .seq (.reg f15r9) (.ret)
abbrev f15p10 : PC := .seq (.seq (.reg f15r3) (f15p8)) (f15p9)
abbrev f15p11 : PC := .seq (.seq (.reg f15r1) (f15p1)) (f15p10)
abbrev f15pc : PC := .seq (.reg f15r0) (f15p11)
def f15k : List Nat := [0, 1, 4, 5, 10, 12, 13, 14, 24]
theorem f15c : Try.f15.body.bind (cC te Try.f15.ntmps) = some f15pc := by kernel_rfl
set_option maxRecDepth 20000
set_option maxHeartbeats 4000000
set_option linter.unusedSimpArgs false
set_option linter.unusedVariables false

theorem ors (y a s : Bool) : (if y = true then true else if a = true then s else false) = (y || (a && s)) := by cases y <;> cases a <;> rfl
theorem any_step {p : Arc → Bool} {fs : List Arc} {k : Nat} {f : Arc} {y T : Bool} (h : (y || (fs.drop k).any p) = T) (hd : fs.drop k = f :: fs.drop (k + 1)) : ((y || p f) || (fs.drop (k + 1)).any p) = T := by rw [hd, List.any_cons, ← Bool.or_assoc] at h; exact h
theorem any_end {p : Arc → Bool} {fs : List Arc} {k : Nat} {y T : Bool} (h : (y || (fs.drop k).any p) = T) (hk : fs.length ≤ k) : y = T := by rw [List.drop_eq_nil_of_le hk, List.any_nil, Bool.or_false] at h; exact h
theorem all_no {p : Arc → Bool} {es : List Arc} {k : Nat} {e : Arc} {T : Bool} (h : (es.drop k).all p = T) (hd : es.drop k = e :: es.drop (k + 1)) (hp : p e = false) : T = false := by rw [hd, List.all_cons, hp, Bool.false_and] at h; exact h.symm
theorem all_yes {p : Arc → Bool} {es : List Arc} {k : Nat} {e : Arc} {T : Bool} (h : (es.drop k).all p = T) (hd : es.drop k = e :: es.drop (k + 1)) (hp : p e = true) : (es.drop (k + 1)).all p = T := by rw [hd, List.all_cons, hp, Bool.true_and] at h; exact h
theorem all_end {p : Arc → Bool} {es : List Arc} {k : Nat} {T : Bool} (h : (es.drop k).all p = T) (hk : es.length ≤ k) : T = true := by rw [List.drop_eq_nil_of_le hk, List.all_nil] at h; exact h.symm
def lkP (b : List Int) (e f : Arc) : Bool := b.getD f.src.toNat 0 == b.getD e.src.toNat 0 && sameE e f
theorem likeV_eq {n : Net} {b : List Int} {i k : Nat} {es fs : List Arc} (h1 : n.edges[i]? = some es) (h2 : n.edges[k]? = some fs) : likeV n b i k = es.all fun e => fs.any (lkP b e) := by unfold likeV; rw [gD_some h1, gD_some h2]; rfl
theorem eq_drop {a c : List Int} {k : Nat} {v w : Int} (hl : a.length = c.length) (h : (a.drop k == c.drop k) = (a == c)) (h1 : a.drop k = v :: a.drop (k + 1)) (h2 : c.drop k = w :: c.drop (k + 1)) : (v == w && (a.drop (k + 1) == c.drop (k + 1))) = (a == c) := by
  rw [← h, h1, h2]; rfl

theorem like_fn (n : Net) (hn : n.small) (m : n.May) (b : List Int) (hb : b.length = n.origin.length) (i k : Nat) (hi : i < n.origin.length) (hk : k < n.origin.length) :
    FnS Try.prog 18 [n.av, .d (.sl 1 (b.map iD)), .d (.v (.int .i64 i)), .d (.v (.int .i64 k))] (.d (.v (.bool (likeV n b i k)))) := by
  have hm : maxLen = 9223372036854775807 := rfl
  have m2 := m.edges
  have m3 := m.most
  obtain ⟨es, hes⟩ : ∃ es, n.edges[i]? = some es := ⟨_, List.getElem?_eq_getElem (by omega)⟩
  obtain ⟨fs, hfs⟩ : ∃ fs, n.edges[k]? = some fs := ⟨_, List.getElem?_eq_getElem (by omega)⟩
  have g1 : List.getD (List.map esD n.edges) i [] = esD es := by simp [List.getD, hes]
  have g2 : List.getD (List.map esD n.edges) k [] = esD fs := by simp [List.getD, hfs]
  have hsr := m.src i es hes
  have hsr2 := m.src k fs hfs
  have hel := m.row es (List.mem_of_getElem? hes)
  have hel2 := m.row fs (List.mem_of_getElem? hfs)
  rw [likeV_eq hes hfs]
  refine fn_of teok Try.func18 (by kernel_rfl) f18c f18k [.tmp 8] rfl (by show 4 ≤ 57; omega) ?_
  first | (have _q := @g1; clear _q) | have g1 : Nat.pred 77 = 76 := rfl
  first | (have _q := @g2; clear _q) | have g2 : Nat.pred 77 = 76 := rfl
  first | (have _q := @g3; clear _q) | have g3 : Nat.pred 77 = 76 := rfl
  first | (have _q := @g4; clear _q) | have g4 : Nat.pred 77 = 76 := rfl
  first | (have _q := @g5; clear _q) | have g5 : Nat.pred 77 = 76 := rfl
  first | (have _q := @g6; clear _q) | have g6 : Nat.pred 77 = 76 := rfl
  repeat' first
  | with_reducible refine awp_seq ?_
  | with_reducible refine awp_block ?_
  | with_reducible refine awp_scope ?_
  | with_reducible refine awp_reg ?_
  | with_reducible refine awp_regD ?_
  | with_reducible refine awp_ret ?_
  | with_reducible refine awp_skip ?_
  | with_reducible refine awp_exit ?_
  | with_reducible refine normQ_of ?_
  | with_reducible refine wkE_of ?_
  | with_reducible refine midQ_of (Wk_sub rfl rfl ?_ ?_)
  | with_reducible refine runD_nil ?_
  | with_reducible refine runD_cons ?_
  | with_reducible refine runF_cons ?_
  | with_reducible refine runF_nil ?_
  | with_reducible refine KF_of ?_
  | with_reducible refine chkQ_of rfl ?_
  | with_reducible refine awp_cond (by simp only [evX, lget, Option.getD_some, reduceIte, Nat.reduceEqDiff]; rfl) (fun hc => ?_) (fun hc => ?_)
  | with_reducible refine CallU_of (f := 19) (esame_fn e (hn.ok.edge _ (List.mem_of_getElem? hes) e (List.mem_of_getElem? he.2.2.1)) f (hn.ok.edge _ (List.mem_of_getElem? hfs) f (List.mem_of_getElem? hf.2.2.1))) (by first | exact Or.inr (Or.inl rfl) | exact Or.inl rfl) ?_
  | with_reducible refine CallC_of (f := 19) (fun _ => esame_fn e (hn.ok.edge _ (List.mem_of_getElem? hes) e (List.mem_of_getElem? he.2.2.1)) f (hn.ok.edge _ (List.mem_of_getElem? hfs) f (List.mem_of_getElem? hf.2.2.1))) (by first | exact Or.inr (Or.inl rfl) | exact Or.inl rfl) ?_
  | (with_reducible assumption)
  | with_reducible refine fun (hG : okL _) => ?_
  | (with_reducible refine fun (hT : (_ : Bool) = _) => ?_)
  | (with_reducible first | exact hG.2 | exact hG.2.2 | exact hG.2.2.2 | exact hG.2.2.2.2)
  | with_reducible refine okL_mk ?_ ?_
  | with_reducible refine And.intro ?_ ?_
  | (with_reducible refine loopQ_next ((y.1 + 1, y.2 || lkP b e f)) ?_ ?_ (Wk_sub rfl rfl ?_ ?_))
  | (with_reducible refine loopQ_next ((x.1 + 1, ())) ?_ ?_ (Wk_sub rfl rfl ?_ ?_))
  | (with_reducible refine awp_loopU (b := f18p11) (fun x : Nat × Unit => x.1 ≤ es.length ∧ (es.drop x.1).all (fun e => fs.any (lkP b e)) = es.all (fun e => fs.any (lkP b e))) (fun x => es.length - x.1) (fun x => [(20, .d (.v (.int .i64 x.1)))]) (fun x => []) ((0, ())) (⟨Nat.zero_le _, rfl⟩) (Wk.refl _ _) (Wk_sub rfl rfl ?_ ?_) (fun x hx => ?_))
  | (refine Exists.elim (at_drop Arc.row es x.1 (Int.ofNat_lt.1 (of_decide_eq_true (show decide ((x.1 : Int) < es.length) = true from hc)))) (fun e he => ?_); have g3 := he.2.1; simp only [Int.toNat_natCast] at g3; have hs := hsr e (List.mem_of_getElem? he.2.2.1); have g4 := at_int iD b 0 hs.1 (by omega); replace hc : True := trivial)
  | (with_reducible refine awp_loopU (b := f18p2) (fun y : Nat × Bool => y.1 ≤ fs.length ∧ (y.2 || (fs.drop y.1).any (lkP b e)) = fs.any (lkP b e)) (fun y => fs.length - y.1) (fun y => [(30, .d (.v (.int .i64 y.1))), (11, .d (.v (.bool y.2)))]) (fun y => []) ((0, false)) (⟨Nat.zero_le _, rfl⟩) (Wk.refl _ _) (Wk_sub rfl rfl ?_ ?_) (fun y hy => ?_))
  | (refine Exists.elim (at_drop Arc.row fs y.1 (Int.ofNat_lt.1 (of_decide_eq_true (show decide ((y.1 : Int) < fs.length) = true from hc)))) (fun f hf => ?_); have g5 := hf.2.1; simp only [Int.toNat_natCast] at g5; have hs2 := hsr2 f (List.mem_of_getElem? hf.2.2.1); have g6 := at_int iD b 0 hs2.1 (by omega); replace hc : True := trivial)
  | simp only [f18r0, f18r1, f18r2, f18r3, f18r4, f18r5, f18r6, f18r7, f18r8, f18r9, f18r10, f18r11, f18r12, f18r13, g1, g2, g3, g4, g5, g6, f18k, te33, List.length_map, Int.toNat_natCast, List.getElem?_cons_zero, List.getElem?_cons_succ, runG_nil, runG_u, runG_g, runG_ucS, runG_gcS, runG_uvS, stp, avL, avS, evs, evX, lget, lput, strip, putO, PO.dst, updO, okR, cells, splice, AV.cell, toD, toDs, binV, sameK, pickV, guardOf, okL_nil, sides, argsOf, rawOf, dv, dvL, owns, ownsL, flat, flatL, lkeep, seqQ, blockQ, initS, List.drop_succ_cons, List.drop_zero, List.take_succ_cons, List.take_zero, List.getD_cons_zero, List.getD_cons_succ, List.length_cons, List.length_nil, List.set_cons_zero, List.set_cons_succ, List.map_cons, List.map_nil, List.all_cons, List.all_nil, List.elem_cons, List.elem_nil, Option.getD_some, Option.getD_none, Option.bind_some, Option.isNone_none, reduceIte, reduceCtorEq, Nat.reduceEqDiff, Nat.reduceAdd, Nat.reduceLeDiff, Nat.zero_add, Nat.add_zero, Nat.reduceBEq, Bool.and_self, Bool.and_true, Bool.true_and, Bool.or_self, Bool.or_false, Bool.false_or, Bool.or_true, Bool.true_or, true_and, and_true, and_self, implies_true, forall_const, Bool.false_eq_true, id_eq, retQ, resOf, resV, Option.some.injEq, exists_eq_left', AV.d.injEq, D.v.injEq, Value.bool.injEq, imp_self, bldF, bldS, toVals, eqLs, Option.map_some, imp_false, not_true_eq_false, not_false_eq_true, foot, wrs, nm, nmL, PG.reads, PG.dst, PO.reads, X.sl, sls, slB, List.append_nil, List.cons_append, List.nil_append, Option.toList_some, Option.toList_none, loopQ_exit, loopQ_ret, subS, subO, Bool.bne_false, Bool.bne_true, elemsOf, bslD, bslS, mentries, isAgV, asA, lputs, mgetD_set, mcmp_set, mput_set, List.headD_cons, sealS, sealO, sealV, sealL, mput_nil, mcmp_nil, midQ_ret, midQ_exit, sealsS, sealsO, runW_nil, runW_cons, Bool.true_bne, Bool.false_bne, bne_self_eq_false, Int.reduceToNat, bndV, oSl, resR, runS_nil, runS_gc, ren, renL, renO, sg, gBack, scopeQ_normal, scopeQ_ret, scopeQ_exit, lenB, argsN, dvN]
  all_goals try first
    | omega
    | (with_reducible rfl)
    | exact count64 he.2.2.2 (by omega)
    | exact count64 hf.2.2.2 (by omega)
    | (show Value.int _ 0 = _; rfl)
    | (rw [ors]; rfl)
    | (show Value.bool _ = Value.bool _; rw [ors]; rfl)
    | (simp; omega)
    | exact any_step hy.2 hf.1
    | (have h0 := of_decide_eq_false (show decide ((y.1 : Int) < fs.length) = false by assumption); have h1 := any_end hy.2 (by omega); have h2 : y.2 = false := (by simpa using hc); rw [h2] at h1; rw [all_no hx.2 he.1 h1.symm]; done)
    | (have h0 := of_decide_eq_false (show decide ((y.1 : Int) < fs.length) = false by assumption); have h1 := any_end hy.2 (by omega); have h2 : y.2 = true := (by simpa using hc); rw [h2] at h1; exact all_yes hx.2 he.1 h1.symm)
    | (have h0 := of_decide_eq_false (show decide ((x.1 : Int) < es.length) = false from hc); rw [all_end hx.2 (by omega)]; done)
  all_goals trace_state
theorem sameB_fn (a c : List Int) (ha : a.length ≤ maxLen) : FnS Try.prog 15 [.d (.sl 1 (a.map iD)), .d (.sl 1 (c.map iD))] (.d (.v (.bool (a == c)))) := by
  have hm : maxLen = 9223372036854775807 := rfl
  refine fn_of teok Try.func15 (by kernel_rfl) f15c f15k [.tmp 4] rfl (by show 2 ≤ 26; omega) ?_
  first | (have _q := @g1; clear _q) | have g1 : Nat.pred 77 = 76 := rfl
  first | (have _q := @g2; clear _q) | have g2 : Nat.pred 77 = 76 := rfl
  repeat' first
  | with_reducible refine awp_seq ?_
  | with_reducible refine awp_block ?_
  | with_reducible refine awp_scope ?_
  | with_reducible refine awp_reg ?_
  | with_reducible refine awp_regD ?_
  | with_reducible refine awp_ret ?_
  | with_reducible refine awp_skip ?_
  | with_reducible refine awp_exit ?_
  | with_reducible refine normQ_of ?_
  | with_reducible refine wkE_of ?_
  | with_reducible refine midQ_of (Wk_sub rfl rfl ?_ ?_)
  | with_reducible refine runD_nil ?_
  | with_reducible refine runD_cons ?_
  | with_reducible refine runF_cons ?_
  | with_reducible refine runF_nil ?_
  | with_reducible refine KF_of ?_
  | with_reducible refine chkQ_of rfl ?_
  | with_reducible refine awp_cond (by simp only [evX, lget, Option.getD_some, reduceIte, Nat.reduceEqDiff]; rfl) (fun hc => ?_) (fun hc => ?_)
  | (with_reducible assumption)
  | with_reducible refine fun (hG : okL _) => ?_
  | (with_reducible refine fun (hT : (_ : Bool) = _) => ?_)
  | (with_reducible first | exact hG.2 | exact hG.2.2 | exact hG.2.2.2 | exact hG.2.2.2.2)
  | with_reducible refine okL_mk ?_ ?_
  | with_reducible refine And.intro ?_ ?_
  | (have hlen : a.length = c.length := (by have h0 : (!((a.length : Int) == (c.length : Int))) = false := hc; simp at h0; omega); replace hc : True := trivial)
  | (with_reducible refine loopQ_next (x + 1) ?_ ?_ (Wk_sub rfl rfl ?_ ?_))
  | (with_reducible refine awp_loopU (b := f15p7) (fun x : Nat => x ≤ a.length ∧ (a.drop x == c.drop x) = (a == c)) (fun x => a.length - x) (fun x => [(13, .d (.v (.int .i64 x)))]) (fun x => []) (0) (⟨Nat.zero_le _, rfl⟩) (Wk.refl _ _) (Wk_sub rfl rfl ?_ ?_) (fun x hx => ?_))
  | (refine Exists.elim (at_drop iD a x (Int.ofNat_lt.1 (of_decide_eq_true (show decide ((x : Int) < a.length) = true from hc)))) (fun v hv => ?_); refine Exists.elim (at_drop iD c x (by have := hv.2.2.2; omega)) (fun w hw => ?_); have g1 := hv.2.1; have g2 := hw.2.1; simp only [Int.toNat_natCast] at g1 g2; replace hc : True := trivial)
  | simp only [f15r0, f15r1, f15r2, f15r3, f15r4, f15r5, f15r6, f15r7, f15r8, f15r9, g1, g2, f15k, List.length_map, Int.toNat_natCast, runG_nil, runG_u, runG_g, runG_ucS, runG_gcS, runG_uvS, stp, avL, avS, evs, evX, lget, lput, strip, putO, PO.dst, updO, okR, cells, splice, AV.cell, toD, toDs, binV, sameK, pickV, guardOf, okL_nil, sides, argsOf, rawOf, dv, dvL, owns, ownsL, flat, flatL, lkeep, seqQ, blockQ, initS, List.drop_succ_cons, List.drop_zero, List.take_succ_cons, List.take_zero, List.getD_cons_zero, List.getD_cons_succ, List.length_cons, List.length_nil, List.set_cons_zero, List.set_cons_succ, List.map_cons, List.map_nil, List.all_cons, List.all_nil, List.elem_cons, List.elem_nil, Option.getD_some, Option.getD_none, Option.bind_some, Option.isNone_none, reduceIte, reduceCtorEq, Nat.reduceEqDiff, Nat.reduceAdd, Nat.reduceLeDiff, Nat.zero_add, Nat.add_zero, Nat.reduceBEq, Bool.and_self, Bool.and_true, Bool.true_and, Bool.or_self, Bool.or_false, Bool.false_or, Bool.or_true, Bool.true_or, true_and, and_true, and_self, implies_true, forall_const, Bool.false_eq_true, id_eq, retQ, resOf, resV, Option.some.injEq, exists_eq_left', AV.d.injEq, D.v.injEq, Value.bool.injEq, imp_self, bldF, bldS, toVals, eqLs, Option.map_some, imp_false, not_true_eq_false, not_false_eq_true, foot, wrs, nm, nmL, PG.reads, PG.dst, PO.reads, X.sl, sls, slB, List.append_nil, List.cons_append, List.nil_append, Option.toList_some, Option.toList_none, loopQ_exit, loopQ_ret, subS, subO, Bool.bne_false, Bool.bne_true, elemsOf, bslD, bslS, mentries, isAgV, asA, lputs, mgetD_set, mcmp_set, mput_set, List.headD_cons, sealS, sealO, sealV, sealL, mput_nil, mcmp_nil, midQ_ret, midQ_exit, sealsS, sealsO, runW_nil, runW_cons, Bool.true_bne, Bool.false_bne, bne_self_eq_false, Int.reduceToNat, bndV, oSl, resR, runS_nil, runS_gc, ren, renL, renO, sg, gBack, scopeQ_normal, scopeQ_ret, scopeQ_exit, lenB, argsN, dvN]
  all_goals try first
    | omega
    | (with_reducible rfl)
    | exact count64 hv.2.2.2 ha
    | (show Value.int _ 0 = _; rfl)
    | (have h0 : (!((a.length : Int) == (c.length : Int))) = true := hc
       have h1 : (a == c) = false := by
         rw [beq_eq_false_iff_ne]; rintro rfl; simp at h0
       rw [h1]; done)
    | (have h1 := eq_drop hlen hx.2 hv.1 hw.1; have h2 : (v == w) = false := (by simpa using hc); rw [h2, Bool.false_and] at h1; rw [← h1]; done)
    | (have h1 := eq_drop hlen hx.2 hv.1 hw.1; have h2 : (v == w) = true := (by simpa using hc); rw [h2, Bool.true_and] at h1; exact h1)
    | (have h0 := of_decide_eq_false (show decide ((x : Int) < a.length) = false from hc); have h1 := hx.2; rw [List.drop_eq_nil_of_le (by omega), List.drop_eq_nil_of_le (by omega)] at h1; rw [← h1]; rfl)
  all_goals trace_state
end Go.Proofs.Ytokfackbnnkbnaa

