/- What maquettelaw17.number comes to. Printed by a program of this project (wip/mq). -/
import Derived.Test.YtokfackbnnkbnaaLk17
set_option linter.unusedVariables false
set_option linter.unusedSimpArgs false

namespace Go.Proofs.Ytokfackbnnkbnaa
open Go Mq Go.ChangeShapes Go.WideShapes Go.ChangeAt Go.RowKit
/-! maquette/maquettelaw17.number -/
def f16r0 : List PG := [.u (.mv 2 (.nl 1))]
def f16r1 : List PG := [.u (.mv 3 (.nl 1))]
def f16r2 : List PG := [.u (.mv 9 (.t 0)), .u (.len 10 (.t 9)), .u (.mks 11 3 1 8 [.d (.v (.int .i64 0))] (.t 10)), .u (.mv 4 (.t 11))]
def f16r3 : List PG := [.u (.mv 12 (.t 0)), .u (.len 13 (.t 12)), .u (.mv 14 (.k (.int .i64 0)))]
def f16r4 : List PG := [.u (.bo 15 .lss (.t 14) (.t 13))]
def f16r5 : List PG := [.u (.mv 16 (.t 14)), .u (.ia 17 1 (.t 12) (.t 14)), .u (.ld 18 1 false (.t 17)), .u (.mv 5 (.t 16)), .u (.mv 6 (.t 18))]
def f16r6 : List PG := [.u (.mv 19 (.t 4)), .u (.mv 20 (.t 5)), .u (.ia 21 1 (.t 19) (.t 20)), .u (.st 1 (.t 21) (.k (.int .i64 (-1))))]
def f16r7 : List PG := [.u (.mv 22 (.t 3)), .u (.len 23 (.t 22)), .u (.mv 24 (.k (.int .i64 0)))]
def f16r8 : List PG := [.u (.bo 25 .lss (.t 24) (.t 23))]
def f16r9 : List PG := [.u (.mv 26 (.t 24)), .u (.ia 27 1 (.t 22) (.t 24)), .u (.ld 28 1 false (.t 27)), .u (.mv 7 (.t 26)), .u (.mv 8 (.t 28))]
def f16r10 : List PG := [.u (.mv 29 (.t 8)), .u (.mv 30 (.t 6)), .u (.beq 31 false false (.t 29) (.t 30))]
def f16r11 : List PG := [.u (.mv 32 (.t 4)), .u (.mv 33 (.t 5)), .u (.mv 34 (.t 7)), .u (.ia 35 1 (.t 32) (.t 33)), .u (.st 1 (.t 35) (.t 34))]
abbrev f16p0 : PC := .cond (.t 31) (.reg f16r11) (.skip)
abbrev f16p1 : PC := .seq (.reg f16r10) (f16p0)
def f16r12 : List PG := [.u (.bo 36 .add (.t 24) (.k (.int .i64 1))), .u (.mv 24 (.t 36))]
abbrev f16p2 : PC := .seq (.block 3 (.seq (.reg f16r9) (f16p1))) (.reg f16r12)
abbrev f16p3 : PC := .seq (.cond (.t 25) (.skip) (.exit 2)) (f16p2)
abbrev f16p4 : PC := .seq (.reg f16r8) (f16p3)
abbrev f16p5 : PC := .block 2 (.loop (f16p4))
def f16r13 : List PG := [.u (.mv 37 (.t 4)), .u (.mv 38 (.t 5)), .u (.ia 39 1 (.t 37) (.t 38)), .u (.ld 40 1 false (.t 39)), .u (.bo 41 .lss (.t 40) (.k (.int .i64 0)))]
def f16r14 : List PG := [.u (.mv 42 (.t 4)), .u (.mv 43 (.t 5)), .u (.mv 44 (.t 3)), .u (.len 45 (.t 44)), .u (.ia 46 1 (.t 42) (.t 43)), .u (.st 1 (.t 46) (.t 45))]
def f16r15 : List PG := [.u (.mv 47 (.t 3)), .u (.mv 48 (.t 6)), .u (.bsl 49 3 1 [.t 48]), .u (.app 50 3 1 8 (.t 47) (.t 49)), .u (.mv 3 (.t 50))]
abbrev f16p6 : PC := .seq (.reg f16r14) (.reg f16r15)
abbrev f16p7 : PC := .cond (.t 41) (f16p6) (.skip)
abbrev f16p8 : PC := .seq (.reg f16r13) (f16p7)
abbrev f16p9 : PC := .seq (.seq (.reg f16r7) (f16p5)) (f16p8)
abbrev f16p10 : PC := .seq (.reg f16r6) (f16p9)
def f16r16 : List PG := [.u (.bo 51 .add (.t 14) (.k (.int .i64 1))), .u (.mv 14 (.t 51))]
abbrev f16p11 : PC := .seq (.block 1 (.seq (.reg f16r5) (f16p10))) (.reg f16r16)
abbrev f16p12 : PC := .seq (.cond (.t 15) (.skip) (.exit 0)) (f16p11)
abbrev f16p13 : PC := .seq (.reg f16r4) (f16p12)
abbrev f16p14 : PC := .block 0 (.loop (f16p13))
def f16r17 : List PG := [.u (.mv 52 (.t 4)), .u (.mv 2 (.t 52))]
abbrev f16p15 : PC := .seq (.reg f16r17) (.ret)
abbrev f16p16 : PC := .seq (.seq (.reg f16r3) (f16p14)) (f16p15)
abbrev f16p17 : PC := .seq (.reg f16r2) (f16p16)
abbrev f16p18 : PC := .seq (.reg f16r1) (f16p17)
abbrev f16pc : PC := .seq (.reg f16r0) (f16p18)
def f16k : List Nat := [0, 2, 3, 4, 5, 6, 7, 8, 12, 13, 14, 15, 22, 23, 24, 25, 31, 41]
theorem f16c : Try.f16.body.bind (cC te Try.f16.ntmps) = some f16pc := by kernel_rfl
set_option maxRecDepth 20000
set_option maxHeartbeats 4000000
set_option linter.unusedSimpArgs false
set_option linter.unusedVariables false

theorem outR_put {N k : Nat} {out : List Int} (hk : out.length = k) (h : k < N) (a v : Int) : (outR N (out ++ [a])).set k v = outR N (out ++ [v]) := by
  subst hk
  unfold outR
  rw [List.append_assoc, List.append_assoc, List.set_append_right _ _ (Nat.le_refl _), Nat.sub_self]
  simp
theorem outR_at {N k : Nat} {out : List Int} (hk : out.length = k) (a : Int) : ((outR N (out ++ [a])).map iD).getD k [] = iD a := by
  subst hk
  unfold outR
  simp [List.getD]
theorem outR_put2 {e s g N : Nat} {out : List Int} {k : Nat} (hk : out.length = k) (h : k < N) (a v : Int) : AO.row e s g (((outR N (out ++ [a])).map iD).set k [.v (.int .i64 v)]) = AO.row e s g ((outR N (out ++ [v])).map iD) := by
  rw [show [D.v (.int .i64 v)] = iD v from rfl, ← List.map_set, outR_put hk h]
theorem outR_put3 {e s g N : Nat} {out : List Int} {k : Nat} (hk : out.length = k) (h : k < N) (a v : Int) : AO.row e s g (((outR N (out ++ [a])).map iD).set k ((((outR N (out ++ [a])).map iD).getD k []).set 0 (.v (.int .i64 v)))) = AO.row e s g ((outR N (out ++ [v])).map iD) := by
  rw [outR_at hk]; exact outR_put2 hk h a v
theorem last_yes {x v : Int} {fs : List Int} {i : Nat} {f a T : Int} (h : lastGo x (fs.drop i) i a = T) (hd : fs.drop i = f :: fs.drop (i + 1)) (hc : (f == x) = true) : lastGo x (fs.drop (i + 1)) (i + 1) (i : Int) = T := by
  have : f = x := by simpa using hc
  rw [hd, lastGo, if_pos this] at h; exact h
theorem last_no {x v : Int} {fs : List Int} {i : Nat} {f a T : Int} (h : lastGo x (fs.drop i) i a = T) (hd : fs.drop i = f :: fs.drop (i + 1)) (hc : (f == x) = false) : lastGo x (fs.drop (i + 1)) (i + 1) a = T := by
  have : ¬ f = x := by simpa using hc
  rw [hd, lastGo, if_neg this] at h; exact h
/-- Within the numbering. -/
structure NmI (b : List Int) (x : Nat × List Int × List Int) : Prop where
  le : x.1 ≤ b.length
  out : x.2.2.length = x.1
  fs : x.2.1.length ≤ x.1
  nd : x.2.1.Nodup
  go : numGo (b.drop x.1) x.2.1 x.2.2 = nmbV b
theorem NmI.zero (b : List Int) : NmI b (0, [], []) := ⟨Nat.zero_le _, rfl, Nat.le_refl _, by simp, rfl⟩
theorem NmI.hit {b : List Int} {x : Nat × List Int × List Int} (h : NmI b x) {v : Int} (hd : b.drop x.1 = v :: b.drop (x.1 + 1)) (hl : x.1 < b.length) {a : Int} (ha : a = ixI v x.2.1) (h0 : ¬ a < 0) : NmI b (x.1 + 1, x.2.1, x.2.2 ++ [a]) := by
  subst ha
  exact ⟨hl, by simp [h.out], (show x.2.1.length ≤ x.1 + 1 by have := h.fs; omega), h.nd, numGo_hit h.go hd h0⟩
theorem NmI.new {b : List Int} {x : Nat × List Int × List Int} (h : NmI b x) {v : Int} (hd : b.drop x.1 = v :: b.drop (x.1 + 1)) (hl : x.1 < b.length) {a : Int} (ha : a = ixI v x.2.1) (h0 : a < 0) : NmI b (x.1 + 1, x.2.1 ++ [v], x.2.2 ++ [(x.2.1.length : Int)]) := by
  subst ha
  exact ⟨hl, by simp [h.out], by simp; exact h.fs, nodup_new h.nd h0, numGo_new h.go hd h0⟩
theorem NmI.done {b : List Int} {x : Nat × List Int × List Int} (h : NmI b x) (hl : ¬ x.1 < b.length) : outR b.length x.2.2 = nmbV b := by
  have h1 := h.go
  have h2 := h.out
  have h3 := h.le
  rw [List.drop_eq_nil_of_le (by omega), numGo] at h1
  rw [outR_end (by omega), h1]
/-- Within the search of a number. -/
def LsI (v : Int) (fs : List Int) (y : Nat × Int × Unit) : Prop := y.1 ≤ fs.length ∧ lastGo v (fs.drop y.1) y.1 y.2.1 = lastGo v fs 0 (-1)
theorem LsI.zero (v : Int) (fs : List Int) : LsI v fs (0, -1, ()) := ⟨Nat.zero_le _, rfl⟩
theorem LsI.done {v : Int} {fs : List Int} {y : Nat × Int × Unit} (h : LsI v fs y) (hn : fs.Nodup) (hl : ¬ y.1 < fs.length) : y.2.1 = ixI v fs := by
  rw [← last_ix hn, ← h.2, List.drop_eq_nil_of_le (by omega), lastGo]

theorem num17_fn (b : List Int) (hl : b.length ≤ 1048576) : FnS Try.prog 16 [.d (.sl 1 (b.map iD))] (.d (.sl 1 ((nmbV b).map iD))) := by
  have hm : maxLen = 9223372036854775807 := rfl
  refine fn_of teok Try.func16 (by kernel_rfl) f16c f16k [.tmp 2] rfl (by show 1 ≤ 53; omega) ?_
  first | (have _q := @g1; clear _q) | have g1 : Nat.pred 77 = 76 := rfl
  first | (have _q := @g2; clear _q) | have g2 : Nat.pred 77 = 76 := rfl
  first | (have _q := @g3; clear _q) | have g3 : Nat.pred 77 = 76 := rfl
  repeat' first
  | (exact absurd hc (by decide))
  | with_reducible refine awp_seq ?_
  | with_reducible refine awp_block ?_
  | with_reducible refine awp_scope ?_
  | with_reducible refine awp_reg ?_
  | with_reducible refine awp_regD ?_
  | with_reducible refine awp_ret ?_
  | with_reducible refine awp_skip ?_
  | with_reducible refine awp_exit ?_
  | with_reducible refine normQ_of ?_
  | with_reducible refine wkE_of ?_
  | with_reducible refine midQ_of (Wk_sub rfl rfl ?_ ?_)
  | with_reducible refine runD_nil ?_
  | with_reducible refine runD_cons ?_
  | with_reducible refine runF_cons ?_
  | with_reducible refine runF_nil ?_
  | with_reducible refine KF_of ?_
  | with_reducible refine chkQ_of rfl ?_
  | with_reducible refine awp_cond (by simp only [evX, lget, Option.getD_some, reduceIte, Nat.reduceEqDiff]; rfl) (fun hc => ?_) (fun hc => ?_)
  | (with_reducible assumption)
  | with_reducible refine fun (hG : okL _) => ?_
  | (with_reducible refine fun (hT : (_ : Bool) = _) => ?_)
  | (with_reducible first | exact hG.2 | exact hG.2.2 | exact hG.2.2.2 | exact hG.2.2.2.2)
  | with_reducible refine okL_mk ?_ ?_
  | with_reducible refine And.intro ?_ ?_
  | (with_reducible refine awp_loopU (b := f16p13) (fun x : Nat × List Int × List Int => NmI b x) (fun x => b.length - x.1) (fun x => [(14, .d (.v (.int .i64 x.1))), (3, .own 50 x.2.1.length)]) (fun x => [(11, .row 3 1 0 ((outR b.length x.2.2).map iD)), (50, .row 3 1 x.2.1.length (x.2.1.map iD))]) ((0, [], [])) (NmI.zero b) (Wk_nl 3 50 3 rfl rfl (by decide)) (Wk_sub rfl rfl ?_ ?_) (fun x hx => ?_))
  | (refine Exists.elim (at_drop iD b x.1 (Int.ofNat_lt.1 (of_decide_eq_true (show decide ((x.1 : Int) < b.length) = true from hc)))) (fun v hv => ?_); have g1 := hv.2.1; simp only [Int.toNat_natCast] at g1; have hk := hv.2.2.2; replace hc : True := trivial)
  | (with_reducible refine awp_loopU (b := f16p4) (fun y : Nat × Int × Unit => LsI v x.2.1 y) (fun y => x.2.1.length - y.1) (fun y => [(24, .d (.v (.int .i64 y.1)))]) (fun y => [(11, .row 3 1 0 ((outR b.length (x.2.2 ++ [y.2.1])).map iD))]) ((0, -1, ())) (LsI.zero v x.2.1) (Wk.refl _ _) (Wk_sub rfl rfl ?_ ?_) (fun y hy => ?_))
  | (refine Exists.elim (at_drop iD x.2.1 y.1 (Int.ofNat_lt.1 (of_decide_eq_true (show decide ((y.1 : Int) < x.2.1.length) = true from hc)))) (fun f hf => ?_); have g2 := hf.2.1; simp only [Int.toNat_natCast] at g2; replace hc : True := trivial)
  | (have _q : decide ((y.1 : Int) < x.2.1.length) = false := hc; have hix := hy.done hx.nd (by have := of_decide_eq_false _q; omega); have g2 := outR_at (N := b.length) hx.out y.2.1; replace hc : True := trivial)
  | (have hfx : (f == v) = true := hc; replace hc : True := trivial)
  | (have hfx : (f == v) = false := hc; replace hc : True := trivial)
  | (have hng : y.2.1 < 0 := of_decide_eq_true hc; replace hc : True := trivial)
  | (have hng : ¬ y.2.1 < 0 := of_decide_eq_false hc; replace hc : True := trivial)
  | (have _q : (f == v) = true := hfx; with_reducible refine loopQ_next (y.1 + 1, (y.1 : Int), ()) ?_ ?_ (Wk_sub rfl rfl ?_ ?_))
  | (have _q : (f == v) = false := hfx; with_reducible refine loopQ_next (y.1 + 1, y.2.1, ()) ?_ ?_ (Wk_sub rfl rfl ?_ ?_))
  | (have _q : y.2.1 < 0 := hng; with_reducible refine loopQ_next (x.1 + 1, x.2.1 ++ [v], x.2.2 ++ [(x.2.1.length : Int)]) ?_ ?_ (Wk_sub rfl rfl ?_ ?_))
  | (have _q : ¬ y.2.1 < 0 := hng; with_reducible refine loopQ_next (x.1 + 1, x.2.1, x.2.2 ++ [y.2.1]) ?_ ?_ (Wk_sub rfl rfl ?_ ?_))
  | simp only [f16r0, f16r1, f16r2, f16r3, f16r4, f16r5, f16r6, f16r7, f16r8, f16r9, f16r10, f16r11, f16r12, f16r13, f16r14, f16r15, f16r16, f16r17, g1, g2, g3, f16k, List.length_map, List.length_replicate, Int.toNat_natCast, outR_len, runG_nil, runG_u, runG_g, runG_ucS, runG_gcS, runG_uvS, stp, avL, avS, evs, evX, lget, lput, strip, putO, PO.dst, updO, okR, cells, splice, AV.cell, toD, toDs, binV, sameK, pickV, guardOf, okL_nil, sides, argsOf, rawOf, dv, dvL, owns, ownsL, flat, flatL, lkeep, seqQ, blockQ, initS, List.drop_succ_cons, List.drop_zero, List.take_succ_cons, List.take_zero, List.getD_cons_zero, List.getD_cons_succ, List.length_cons, List.length_nil, List.set_cons_zero, List.set_cons_succ, List.map_cons, List.map_nil, List.all_cons, List.all_nil, List.elem_cons, List.elem_nil, Option.getD_some, Option.getD_none, Option.bind_some, Option.isNone_none, reduceIte, reduceCtorEq, Nat.reduceEqDiff, Nat.reduceAdd, Nat.reduceLeDiff, Nat.zero_add, Nat.add_zero, Nat.reduceBEq, Bool.and_self, Bool.and_true, Bool.true_and, Bool.or_self, Bool.or_false, Bool.false_or, Bool.or_true, Bool.true_or, true_and, and_true, and_self, implies_true, forall_const, Bool.false_eq_true, id_eq, retQ, resOf, resV, Option.some.injEq, exists_eq_left', AV.d.injEq, D.v.injEq, Value.bool.injEq, imp_self, bldF, bldS, toVals, eqLs, Option.map_some, imp_false, not_true_eq_false, not_false_eq_true, foot, wrs, nm, nmL, PG.reads, PG.dst, PO.reads, X.sl, sls, slB, List.append_nil, List.cons_append, List.nil_append, Option.toList_some, Option.toList_none, loopQ_exit, loopQ_ret, subS, subO, Bool.bne_false, Bool.bne_true, elemsOf, bslD, bslS, mentries, isAgV, asA, lputs, mgetD_set, mcmp_set, mput_set, List.headD_cons, sealS, sealO, sealV, sealL, mput_nil, mcmp_nil, midQ_ret, midQ_exit, sealsS, sealsO, runW_nil, runW_cons, Bool.true_bne, Bool.false_bne, bne_self_eq_false, Int.reduceToNat, bndV, oSl, resR, runS_nil, runS_gc, ren, renL, renO, sg, gBack, scopeQ_normal, scopeQ_ret, scopeQ_exit, lenB, argsN, dvN]
  all_goals try first
    | omega
    | (with_reducible rfl)
    | (show Value.int _ 0 = _; rfl)
    | exact count64 hk (by omega)
    | exact count64 hf.2.2.2 (by have := hx.fs; omega)
    | (have := hx.out; have := hx.fs; have := hx.le; rw [outR_len (by simp; omega)]; omega)
    | (have := hx.out; have := hx.fs; have := hx.le; rw [outR_len (by omega)]; omega)
    | (simp [outR, List.map_replicate]; done)
    | exact ⟨hf.2.2.2, last_yes (v := v) hy.2 hf.1 hfx⟩
    | exact ⟨hf.2.2.2, last_no (v := v) hy.2 hf.1 hfx⟩
    | exact hx.hit hv.1 hk hix hng
    | exact hx.new hv.1 hk hix hng
    | exact outR_row2 hx.out hk _
    | exact outR_row hx.out hk _
    | exact outR_put2 hx.out hk _ _
    | exact outR_put3 hx.out hk _ _
    | (rw [hx.done (by have := of_decide_eq_false hc; omega)]; done)
    | (simp only [List.length_append, List.length_singleton]; done)
    | (simp only [List.length_append, List.length_singleton, List.map_append]; rfl)
    | (have := hx.fs; have := hx.le; omega)
  all_goals trace_state
end Go.Proofs.Ytokfackbnnkbnaa

