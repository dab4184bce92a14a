/- What edge.Same, stable.Fixed and refine.Alone come to. Printed by a program of this project (wip/mq). -/
import Derived.Test.YtgkkaimcchlnaaaGreatDoorLikes
import Derived.Test.YtgkkaimcchlnaaaGreatDoorMqPl
set_option linter.unusedVariables false
set_option linter.unusedSimpArgs false

namespace Go.Proofs.YtgkkaimcchlnaaaGreatDoor
open Go Mq Go.ChangeShapes Go.WideShapes Go.ChangeAt Go.RowKit
/-! maquette/stable.Fixed -/
def f15r0 : List PG := [.u (.bx 2 (.t 0)), .u (.mv 4 (.k (.bool false)))]
def f15r1 : List PG := [.u (.mv 5 (.t 1)), .u (.bo 6 .geq (.t 5) (.k (.int .i64 0))), .u (.mv 7 (.t 6)), .g 7 true (.mv 8 (.t 1)), .g 7 true (.fa 9 0 (.t 2)), .g 7 true (.ld 10 1 false (.t 9)), .g 7 true (.len 11 (.t 10)), .g 7 true (.bo 12 .lss (.t 8) (.t 11)), .u (.pick 13 (.t 7) (.t 12) (.k (.bool false))), .u (.mv 14 (.t 13)), .g 14 true (.fa 15 0 (.t 2)), .g 14 true (.ld 16 1 false (.t 15)), .g 14 true (.mv 17 (.t 1)), .g 14 true (.ia 18 1 (.t 16) (.t 17)), .g 14 true (.ld 19 1 false (.t 18)), .g 14 true (.mv 20 (.t 19)), .g 20 false (.mv 21 (.t 1)), .g 20 false (.fa 22 1 (.t 2)), .g 20 false (.ld 23 1 false (.t 22)), .g 20 false (.len 24 (.t 23)), .g 20 false (.bo 25 .lss (.t 21) (.t 24)), .g 20 false (.mv 26 (.t 25)), .g 26 true (.fa 27 1 (.t 2)), .g 26 true (.ld 28 1 false (.t 27)), .g 26 true (.mv 29 (.t 1)), .g 26 true (.ia 30 1 (.t 28) (.t 29)), .g 26 true (.ld 31 1 false (.t 30)), .g 26 true (.bo 32 .geq (.t 31) (.k (.int .i64 0))), .g 20 false (.pick 33 (.t 26) (.t 32) (.k (.bool false))), .g 14 true (.pick 34 (.t 20) (.k (.bool true)) (.t 33)), .u (.pick 35 (.t 14) (.t 34) (.k (.bool false))), .u (.mv 4 (.t 35))]
abbrev f15p0 : PC := .seq (.reg f15r1) (.ret)
abbrev f15pc : PC := .seq (.reg f15r0) (f15p0)
def f15k : List Nat := [0, 1, 2, 4]
theorem f15c : Tryz.f15.body.bind (cC te Tryz.f15.ntmps) = some f15pc := by kernel_rfl
/-! maquette/edge.Same -/
def f100r0 : List PG := [.u (.bx 2 (.t 0)), .u (.bx 3 (.t 1)), .u (.mv 4 (.k (.bool false)))]
def f100r1 : List PG := [.u (.mv 10 (.k (.int .u8 0)))]
def f100r2 : List PG := [.u (.bo 11 .lss (.t 10) (.k (.int .u8 16)))]
def f100r3 : List PG := [.u (.mv 12 (.t 10)), .u (.mv 5 (.t 12))]
def f100r4 : List PG := [.u (.ld 14 4 true (.t 2)), .u (.mv 15 (.t 5)), .uc 16 84 [.t 14, .t 15], .u (.mv 13 (.t 16)), .u (.ext 17 (.t 13) 0), .u (.ext 18 (.t 13) 1), .u (.al 6 [.d (.v (.bool false)), .d (.v (.int .i64 0)), .d (.v (.int .i64 0)), .d (.v (.int .u8 0))]), .u (.st 4 (.t 6) (.t 17)), .u (.mv 7 (.t 18))]
def f100r5 : List PG := [.u (.ld 20 4 true (.t 3)), .u (.mv 21 (.t 5)), .uc 22 84 [.t 20, .t 21], .u (.mv 19 (.t 22)), .u (.ext 23 (.t 19) 0), .u (.ext 24 (.t 19) 1), .u (.al 8 [.d (.v (.bool false)), .d (.v (.int .i64 0)), .d (.v (.int .i64 0)), .d (.v (.int .u8 0))]), .u (.st 4 (.t 8) (.t 23)), .u (.mv 9 (.t 24))]
def f100r6 : List PG := [.u (.mv 25 (.t 7)), .u (.mv 26 (.t 9)), .u (.beq 27 true true (.t 25) (.t 26)), .u (.mv 28 (.t 27)), .g 28 false (.ld 29 4 true (.t 6)), .g 28 false (.ld 30 4 true (.t 8)), .g 28 false (.beqs 31 true [.b, .i, .i, .i] (.t 29) (.t 30)), .u (.pick 32 (.t 28) (.k (.bool true)) (.t 31))]
def f100r7 : List PG := [.u (.mv 4 (.k (.bool false)))]
abbrev f100p0 : PC := .seq (.reg f100r7) (.ret)
abbrev f100p1 : PC := .cond (.t 32) (f100p0) (.skip)
abbrev f100p2 : PC := .seq (.reg f100r6) (f100p1)
abbrev f100p3 : PC := .seq (.reg f100r5) (f100p2)
abbrev f100p4 : PC := .seq (.reg f100r4) (f100p3)
def f100r8 : List PG := [.u (.bo 33 .add (.t 10) (.k (.int .u8 1))), .u (.mv 10 (.t 33))]
abbrev f100p5 : PC := .seq (.block 1 (.seq (.reg f100r3) (f100p4))) (.reg f100r8)
abbrev f100p6 : PC := .seq (.cond (.t 11) (.skip) (.exit 0)) (f100p5)
abbrev f100p7 : PC := .seq (.reg f100r2) (f100p6)
abbrev f100p8 : PC := .block 0 (.loop (f100p7))
def f100r9 : List PG := [.u (.mv 4 (.k (.bool true)))]
abbrev f100p9 : PC := .seq (.reg f100r9) (.ret)
abbrev f100p10 : PC := .seq (.seq (.reg f100r1) (f100p8)) (f100p9)
abbrev f100pc : PC := .seq (.reg f100r0) (f100p10)
def f100k : List Nat := [0, 1, 2, 3, 4, 5, 6, 7, 8, 9, 10, 11, 32]
theorem f100c : Tryz.f100.body.bind (cC te Tryz.f100.ntmps) = some f100pc := by kernel_rfl
/-! slices.IndexFunc[[]maquette/api.Edge,maquette/api.Edge] -/
def f139r0 : List PG := [.u (.mv 4 (.k (.int .i64 0)))]
def f139r1 : List PG := [.u (.mv 6 (.t 0)), .u (.len 7 (.t 6)), .u (.mv 8 (.k (.int .i64 0)))]
def f139r2 : List PG := [.u (.bo 9 .lss (.t 8) (.t 7))]
def f139r3 : List PG := [.u (.mv 10 (.t 8)), .u (.mv 5 (.t 10))]
def f139r4 : List PG := [.u (.mv 11 (.t 1)), .u (.mv 12 (.t 0)), .u (.mv 13 (.t 5)), .u (.ia 14 4 (.t 12) (.t 13)), .u (.ld 15 4 true (.t 14)), .uv 16 11 [.t 15]]
def f139r5 : List PG := [.u (.mv 17 (.t 5)), .u (.mv 4 (.t 17))]
abbrev f139p0 : PC := .seq (.reg f139r5) (.ret)
abbrev f139p1 : PC := .cond (.t 16) (f139p0) (.skip)
abbrev f139p2 : PC := .seq (.reg f139r4) (f139p1)
def f139r6 : List PG := [.u (.bo 18 .add (.t 8) (.k (.int .i64 1))), .u (.mv 8 (.t 18))]
abbrev f139p3 : PC := .seq (.block 1 (.seq (.reg f139r3) (f139p2))) (.reg f139r6)
abbrev f139p4 : PC := .seq (.cond (.t 9) (.skip) (.exit 0)) (f139p3)
abbrev f139p5 : PC := .seq (.reg f139r2) (f139p4)
abbrev f139p6 : PC := .block 0 (.loop (f139p5))
def f139r7 : List PG := [.u (.mv 4 (.k (.int .i64 (-1))))]
abbrev f139p7 : PC := .seq (.reg f139r7) (.ret)
abbrev f139p8 : PC := .seq (.seq (.reg f139r1) (f139p6)) (f139p7)
abbrev f139pc : PC := .seq (.reg f139r0) (f139p8)
def f139k : List Nat := [0, 1, 4, 5, 7, 8, 9, 16]
theorem f139c : Tryz.f139.body.bind (cC te Tryz.f139.ntmps) = some f139pc := by kernel_rfl
/-! slices.ContainsFunc[[]maquette/api.Edge,maquette/api.Edge] -/
def f89r0 : List PG := [.u (.mv 4 (.k (.bool false)))]
def f89r1 : List PG := [.u (.mv 5 (.t 0)), .u (.mv 6 (.t 1)), .uc 7 139 [.t 5, .t 6], .u (.bo 8 .geq (.t 7) (.k (.int .i64 0))), .u (.mv 4 (.t 8))]
abbrev f89p0 : PC := .seq (.reg f89r1) (.ret)
abbrev f89pc : PC := .seq (.reg f89r0) (f89p0)
def f89k : List Nat := [0, 1, 4]
theorem f89c : Tryz.f89.body.bind (cC te Tryz.f89.ntmps) = some f89pc := by kernel_rfl
/-! maquette/refine.Alone -/
def f53r0 : List PG := [.u (.bx 2 (.t 0)), .u (.mv 4 (.k (.bool false)))]
def f53r1 : List PG := [.u (.ld 5 3 true (.t 2)), .u (.mv 6 (.t 1)), .uc 7 15 [.t 5, .t 6]]
def f53r2 : List PG := [.u (.mv 4 (.k (.bool true)))]
abbrev f53p0 : PC := .seq (.reg f53r2) (.ret)
abbrev f53p1 : PC := .cond (.t 7) (f53p0) (.skip)
def f53r3 : List PG := [.u (.mv 8 (.t 1)), .u (.bo 9 .geq (.t 8) (.k (.int .i64 0))), .u (.mv 10 (.t 9)), .g 10 true (.mv 11 (.t 1)), .g 10 true (.fa 12 2 (.t 2)), .g 10 true (.ld 13 1 false (.t 12)), .g 10 true (.len 14 (.t 13)), .g 10 true (.bo 15 .lss (.t 11) (.t 14)), .u (.pick 16 (.t 10) (.t 15) (.k (.bool false))), .u (.mv 17 (.t 16)), .g 17 true (.fa 18 2 (.t 2)), .g 17 true (.ld 19 1 false (.t 18)), .g 17 true (.mv 20 (.t 1)), .g 17 true (.ia 21 1 (.t 19) (.t 20)), .g 17 true (.ld 22 1 false (.t 21)), .gc 17 true 23 89 [.t 22, .fn 49], .u (.pick 24 (.t 17) (.t 23) (.k (.bool false))), .u (.mv 4 (.t 24))]
abbrev f53p2 : PC := .seq (.reg f53r3) (.ret)
abbrev f53p3 : PC := .seq (.seq (.reg f53r1) (f53p1)) (f53p2)
abbrev f53pc : PC := .seq (.reg f53r0) (f53p3)
def f53k : List Nat := [0, 1, 2, 4, 7]
theorem f53c : Tryz.f53.body.bind (cC te Tryz.f53.ntmps) = some f53pc := by kernel_rfl
set_option maxRecDepth 20000
set_option maxHeartbeats 4000000


theorem gd_o {n : Net} {k : Int} (h : 0 ≤ k ∧ k < n.origin.length) : AV.d (((n.origin.map bD).getD k.toNat []).getD 0 (.v undef)) = .d (.v (.bool (n.origin.getD k.toNat false))) := by rw [at_int bD n.origin false h.1 h.2]; rfl
theorem gd_s {n : Net} {k : Int} (h : 0 ≤ k ∧ k < n.static.length) : AV.d (((n.static.map iD).getD k.toNat []).getD 0 (.v undef)) = .d (.v (.int .i64 (n.static.getD k.toNat 0))) := by rw [at_int iD n.static 0 h.1 h.2]; rfl
theorem fixed_fn (n : Net) (k : Int) : FnS Tryz.prog 15 [n.av, .d (.v (.int .i64 k))] (.d (.v (.bool (n.fixed k)))) := by
  refine fn_of teok Tryz.func15 (by kernel_rfl) f15c f15k [.tmp 4] rfl (by show 2 ≤ 36; omega) ?_
  repeat' first
|(with_reducible refine awp_cut (l := f15r1) [(15, [1019]), (12, [1031])] ?_; unfold f15r1)
|(with_reducible refine wkE_gd (ns := [1019]) 19 (.d (.v (.bool (n.origin.getD k.toNat false)))) rfl (fun hG => gd_o ?_) ?_)
|(with_reducible refine wkE_gd (ns := [1031]) 31 (.d (.v (.int .i64 (n.static.getD k.toNat 0)))) rfl (fun hG => gd_s ?_) ?_)
|(with_reducible first | refine awp_seq ?_ | refine awp_reg ?_ | refine awp_ret ?_ | refine awp_skip ?_ | refine normQ_of ?_ | refine wkE_of ?_)
|with_reducible refine awp_cond (by simp only [evX]; rfl) (fun hc => ?_) (fun hc => ?_)
|(with_reducible assumption)
|with_reducible refine fun (hG : okL _) => ?_
|(with_reducible refine fun (hT : (_ : Bool) = _) => ?_)
|(with_reducible first | exact hG.2 | exact hG.2.2 | exact hG.2.2.2 | exact hG.2.2.2.2)
|with_reducible refine okL_mk ?_ ?_
|with_reducible refine And.intro ?_ ?_
|simp only [f15r0, f15k, List.length_map, runG_nil, runG_u, runG_g, stp, evs, evX, lget, lput, strip, putO, PO.dst, updO, okR, cells, AV.cell, binV, sameK, pickV, guardOf, okL_nil, dv, lkeep, seqQ, initS, List.drop_succ_cons, List.drop_zero, List.take_succ_cons, List.take_zero, List.getD_cons_zero, List.getD_cons_succ, List.length_cons, List.length_nil, List.all_cons, List.all_nil, List.elem_cons, List.elem_nil, Option.getD_some, Option.bind_some, Option.isNone_none, reduceIte, reduceCtorEq, Nat.reduceEqDiff, Nat.reduceAdd, Nat.reduceLeDiff, Nat.zero_add, Nat.add_zero, Nat.reduceBEq, Bool.and_self, true_and, and_true, and_self, implies_true, Bool.false_eq_true, retQ, resOf, resV, Option.some.injEq, exists_eq_left', AV.d.injEq, D.v.injEq, Value.bool.injEq, imp_self, runW_nil, runW_cons]
  all_goals try first
|(simp [okL] at hG; omega)
|(simp [okL] at hG; rw [at_int bD n.origin false (by omega) (by omega)]; exact Nat.le_refl _)
|(simp [okL] at hG; rw [at_int iD n.static 0 (by omega) (by omega)]; exact Nat.le_refl _)
|(grind [Net.fixed])
  all_goals trace_state
theorem eqA_test (a b : Attr) : (if (!(a.ok == b.ok)) = true then true else !(a.ok == b.ok && (a.pref == b.pref && (a.cost == b.cost && a.tags == b.tags)))) = !eqA a b := by
  unfold eqA; cases (a.ok == b.ok) <;> simp
theorem all16 {f : Nat → Bool} {i : Nat} (h : i < 16) : ((List.range 16).drop i).all f = (f i && ((List.range 16).drop (i + 1)).all f) := by
  rw [List.drop_eq_getElem_cons (by simpa using h)]; simp
theorem esame_fn (x : Arc) (hx : x.ok) (y : Arc) (hy : y.ok) : FnS Tryz.prog 100 [.ag x.box, .ag y.box] (.d (.v (.bool (sameE x y)))) := by
  refine fn_of teok Tryz.func100 (by kernel_rfl) f100c f100k [.tmp 4] rfl (by show 2 ≤ 34; omega) ?_
  repeat' first
|(with_reducible first | refine awp_seq ?_ | refine awp_block ?_ | refine awp_reg ?_ | refine awp_ret ?_ | refine awp_skip ?_ | refine awp_exit ?_ | refine normQ_of ?_ | refine wkE_of ?_)
|with_reducible refine awp_cond (by simp only [evX, lget, Option.getD_some, reduceIte, Nat.reduceEqDiff]; rfl) (fun hc => ?_) (fun hc => ?_)
|with_reducible refine CallU_of (f := 84) (row_fn x hx _) (by first | exact Or.inr (Or.inl rfl) | exact Or.inl rfl) ?_
|with_reducible refine CallU_of (f := 84) (row_fn y hy _) (by first | exact Or.inr (Or.inl rfl) | exact Or.inl rfl) ?_
|(with_reducible assumption)
|with_reducible refine fun (hG : okL _) => ?_
|(with_reducible refine fun (hT : (_ : Bool) = _) => ?_)
|(with_reducible first | exact hG.2 | exact hG.2.2 | exact hG.2.2.2 | exact hG.2.2.2.2)
|with_reducible refine okL_mk ?_ ?_
|with_reducible refine And.intro ?_ ?_
|(with_reducible refine awp_loopU (b := f100p7) (fun i : Nat => i ≤ 16 ∧ ((List.range 16).drop i).all (fun t : Nat => eqA (rowV x (t : Int)) (rowV y (t : Int))) = sameE x y) (fun i => 16 - i) (fun i => [(10, .d (.v (.int .u8 i)))]) (fun i => []) (0) (⟨Nat.zero_le _, rfl⟩) (Wk.refl _ _) (Wk_sub rfl rfl ?_ ?_) (fun i hi => ?_))
|(with_reducible refine loopQ_next (i + 1) ?_ ?_ (Wk_sub rfl rfl ?_ ?_))
|simp only [f100r0, f100r1, f100r2, f100r3, f100r4, f100r5, f100r6, f100r7, f100r8, f100r9, f100k, List.getElem?_cons_zero, List.getElem?_cons_succ, runG_nil, runG_u, runG_g, runG_ucS, stp, evs, evX, lget, lput, strip, putO, PO.dst, updO, okR, cells, splice, AV.cell, binV, sameK, pickV, guardOf, okL_nil, sides, argsOf, rawOf, dv, dvL, owns, ownsL, lkeep, seqQ, blockQ, initS, List.drop_zero, List.take_succ_cons, List.take_zero, List.getD_cons_zero, List.length_cons, List.length_nil, List.set_cons_zero, List.set_cons_succ, List.all_cons, List.all_nil, List.elem_cons, List.elem_nil, Option.getD_some, Option.bind_some, Option.isNone_none, reduceIte, reduceCtorEq, Nat.reduceEqDiff, Nat.reduceAdd, Nat.reduceLeDiff, Nat.zero_add, Nat.reduceBEq, Bool.and_self, Bool.and_true, Bool.or_self, true_and, and_true, and_self, implies_true, Bool.false_eq_true, retQ, resOf, resV, Option.some.injEq, exists_eq_left', AV.d.injEq, D.v.injEq, Value.bool.injEq, imp_self, toVals, eqLs, Option.map_some, loopQ_exit, loopQ_ret, subS, subO, Bool.bne_true, lputs, argsN, dvN]
  all_goals try first
    | omega
    | (have h0 := of_decide_eq_true ‹decide ((i : Int) < 16) = true›; omega)
    | (have h0 := of_decide_eq_true ‹decide ((i : Int) < 16) = true›; exact count8 (by omega))
    | (show Value.int _ 0 = _; rfl)
    | (have h0 := of_decide_eq_true ‹decide ((i : Int) < 16) = true›; rw [eqA_test] at hc; have h1 := hi.2; rw [all16 (by omega)] at h1
       have h2 : eqA (rowV x i) (rowV y i) = false := by simpa using hc
       rw [← h1, h2]; rfl)
    | (have h0 := of_decide_eq_true ‹decide ((i : Int) < 16) = true›; rw [eqA_test] at hc; have h1 := hi.2; rw [all16 (by omega)] at h1
       have h2 : eqA (rowV x i) (rowV y i) = true := by simpa using hc
       rw [h2, Bool.true_and] at h1; exact h1)
    | (have h0 := of_decide_eq_false hc; have h1 := hi.2; rw [List.drop_eq_nil_of_le (by simp; omega)] at h1; simpa using h1)
  all_goals trace_state
def idxGo : List Arc → Nat → Int
  | [], _ => -1
  | e :: r, k => if likesE e then k else idxGo r (k + 1)
theorem idxGo_iff : ∀ (es : List Arc) (k : Nat), 0 ≤ idxGo es k ↔ es.any likesE = true
  | [], _ => by simp [idxGo]
  | e :: r, k => by
    have ih := idxGo_iff r (k + 1)
    simp only [idxGo, List.any_cons, Bool.or_eq_true]
    split
    · rename_i h; simp [h]
    · rename_i h; rw [ih]; simp [h]
theorem idxGo_ge (es : List Arc) (k : Nat) : decide (0 ≤ idxGo es k) = es.any likesE := by
  rw [Bool.eq_iff_iff, decide_eq_true_iff]; exact idxGo_iff es k
theorem idx_fn (es : List Arc) (hl : es.length ≤ maxLen) (hok : ∀ e ∈ es, e.ok) : FnS Tryz.prog 139 [.d (.sl 4 (es.map Arc.row)), .clo 49 []] (.d (.v (.int .i64 (idxGo es 0)))) := by
  refine fn_of teok Tryz.func139 (by kernel_rfl) f139c f139k [.tmp 4] rfl (by show 2 ≤ 19; omega) ?_
  first | (have _q := @g1; clear _q) | have g1 : Nat.pred 77 = 76 := rfl
  repeat' first
|(with_reducible first | refine awp_seq ?_ | refine awp_block ?_ | refine awp_reg ?_ | refine awp_ret ?_ | refine awp_skip ?_ | refine awp_exit ?_ | refine normQ_of ?_ | refine wkE_of ?_)
|with_reducible refine awp_cond (by simp only [evX, lget, Option.getD_some, reduceIte, Nat.reduceEqDiff]; rfl) (fun hc => ?_) (fun hc => ?_)
|with_reducible refine CallU_of (f := 49) (likesE_fn e (hok e (List.mem_of_getElem? he.2.2.1))) (by first | exact Or.inr (Or.inl rfl) | exact Or.inl rfl) ?_
|(with_reducible assumption)
|(with_reducible refine fun (hT : (_ : Bool) = _) => ?_)
|with_reducible refine And.intro ?_ ?_
|(with_reducible refine awp_loopU (b := f139p5) (fun i : Nat => i ≤ es.length ∧ idxGo (es.drop i) i = idxGo es 0) (fun i => es.length - i) (fun i => [(8, .d (.v (.int .i64 i)))]) (fun i => []) (0) (⟨Nat.zero_le _, rfl⟩) (Wk.refl _ _) (Wk_sub rfl rfl ?_ ?_) (fun i hi => ?_))
|(refine Exists.elim (at_drop Arc.row es i (Int.ofNat_lt.1 (of_decide_eq_true hc))) (fun e he => ?_); have g1 := he.2.1; replace hc : True := trivial)
|(with_reducible refine loopQ_next (i + 1) ?_ ?_ (Wk_sub rfl rfl ?_ ?_))
|simp only [f139r0, f139r1, f139r2, f139r3, f139r4, f139r5, f139r6, f139r7, g1, f139k, List.length_map, runG_nil, runG_u, runG_uvS, stp, evs, evX, lget, lput, strip, putO, PO.dst, updO, okR, binV, sameK, sides, argsOf, rawOf, dv, dvL, owns, ownsL, lkeep, seqQ, blockQ, initS, List.drop_zero, List.take_succ_cons, List.take_zero, List.getD_cons_zero, List.length_cons, List.length_nil, List.map_cons, List.map_nil, List.elem_cons, List.elem_nil, Option.getD_some, Option.bind_some, reduceIte, reduceCtorEq, Nat.reduceEqDiff, Nat.reduceAdd, Nat.reduceLeDiff, Nat.zero_add, Nat.reduceBEq, Bool.or_self, true_and, and_true, and_self, Bool.false_eq_true, retQ, resOf, resV, Option.some.injEq, exists_eq_left', AV.d.injEq, D.v.injEq, List.append_nil, loopQ_exit, loopQ_ret, subS, subO, lputs]
  all_goals try first
|omega
|(with_reducible rfl)
|(show Value.int _ 0 = _; rfl)
|(simp only [List.length_append, List.length_cons, List.length_nil]; omega)
|(simp only [List.length_append, List.length_cons, List.length_nil, List.map_append, List.map_cons, List.map_nil]; done)
|exact count64 he.2.2.2 hl
|(have h1 := hi.2; rw [he.1, idxGo, if_pos hc] at h1; rw [← h1]; done)
|(have h1 := hi.2; rw [he.1, idxGo, if_neg (by simp [hc])] at h1; exact h1)
|(have h0 := of_decide_eq_false hc; have h1 := hi.2; rw [List.drop_eq_nil_of_le (by omega), idxGo] at h1; rw [← h1]; done)
  all_goals trace_state
theorem cf_fn (es : List Arc) (hl : es.length ≤ maxLen) (hok : ∀ e ∈ es, e.ok) : FnS Tryz.prog 89 [.d (.sl 4 (es.map Arc.row)), .clo 49 []] (.d (.v (.bool (es.any likesE)))) := by
  have g1 := idxGo_ge es 0
  refine fn_of teok Tryz.func89 (by kernel_rfl) f89c f89k [.tmp 4] rfl (by show 2 ≤ 9; omega) ?_
  first | (have _q := @g1; clear _q) | have g1 : Nat.pred 77 = 76 := rfl
  repeat' first
|(with_reducible first | refine awp_seq ?_ | refine awp_reg ?_ | refine awp_ret ?_ | refine awp_skip ?_ | refine normQ_of ?_ | refine wkE_of ?_)
|with_reducible refine awp_cond (by simp only [evX]; rfl) (fun hc => ?_) (fun hc => ?_)
|with_reducible refine CallU_of (f := 139) (idx_fn es hl hok) (by first | exact Or.inr (Or.inl rfl) | exact Or.inl rfl) ?_
|(with_reducible assumption)
|(with_reducible refine fun (hT : (_ : Bool) = _) => ?_)
|with_reducible refine And.intro ?_ ?_
|simp only [f89r0, f89r1, g1, f89k, runG_nil, runG_u, runG_ucS, stp, evs, evX, lget, lput, strip, putO, PO.dst, updO, okR, binV, sameK, sides, argsOf, rawOf, dv, dvL, owns, ownsL, lkeep, seqQ, initS, List.elem_cons, List.elem_nil, Option.getD_some, Option.bind_some, reduceIte, reduceCtorEq, Nat.reduceEqDiff, Nat.zero_add, Nat.reduceBEq, Bool.or_self, true_and, and_self, Bool.false_eq_true, retQ, resOf, resV, Option.some.injEq, exists_eq_left', argsN, dvN]
  all_goals trace_state
theorem alone_in (n : Net) (hn : n.ok) (k : Int) (hk : 0 ≤ k ∧ k < n.edges.length) : FnS Tryz.prog 53 [n.av, .d (.v (.int .i64 k))] (.d (.v (.bool (aloneV n k)))) := by
  have g1 := at_int esD n.edges [] hk.1 hk.2
  have hm := List.mem_of_getElem? (getD_mem n.edges [] hk.1 hk.2)
  refine fn_of teok Tryz.func53 (by kernel_rfl) f53c f53k [.tmp 4] rfl (by show 2 ≤ 25; omega) ?_
  first | (have _q := @g1; clear _q) | have g1 : Nat.pred 77 = 76 := rfl
  repeat' first
|(with_reducible first | refine awp_seq ?_ | refine awp_reg ?_ | refine awp_ret ?_ | refine awp_skip ?_ | refine normQ_of ?_ | refine wkE_of ?_)
|with_reducible refine awp_cond (by simp only [evX, lget, Option.getD_some, reduceIte, Nat.reduceEqDiff]; rfl) (fun hc => ?_) (fun hc => ?_)
|with_reducible refine CallU_of (f := 15) (fixed_fn n k) (by first | exact Or.inr (Or.inl rfl) | exact Or.inl rfl) ?_
|with_reducible refine CallC_of (f := 89) (fun _ => cf_fn (n.edges.getD k.toNat []) (hn.row _ hm) (hn.edge _ hm)) (by first | exact Or.inr (Or.inl rfl) | exact Or.inl rfl) ?_
|(with_reducible assumption)
|with_reducible refine fun (hG : okL _) => ?_
|(with_reducible refine fun (hT : (_ : Bool) = _) => ?_)
|(with_reducible first | exact hG.2 | exact hG.2.2 | exact hG.2.2.2 | exact hG.2.2.2.2)
|with_reducible refine okL_mk ?_ ?_
|with_reducible refine And.intro ?_ ?_
|simp only [f53r0, f53r1, f53r2, f53r3, g1, f53k, List.length_map, List.getD_cons_zero, runG_nil, runG_u, runG_g, runG_ucS, runG_gcS, stp, evs, evX, lget, lput, strip, putO, PO.dst, updO, okR, cells, AV.cell, binV, sameK, pickV, guardOf, okL_nil, sides, argsOf, rawOf, dv, dvL, owns, ownsL, lkeep, seqQ, initS, List.drop_succ_cons, List.drop_zero, List.take_succ_cons, List.take_zero, List.getD_cons_zero, List.getD_cons_succ, List.length_cons, List.length_nil, List.map_cons, List.map_nil, List.all_cons, List.all_nil, List.elem_cons, List.elem_nil, Option.getD_some, Option.bind_some, Option.isNone_none, reduceIte, reduceCtorEq, Nat.reduceEqDiff, Nat.reduceAdd, Nat.reduceLeDiff, Nat.zero_add, Nat.reduceBEq, Bool.and_self, Bool.or_self, true_and, and_true, and_self, implies_true, Bool.false_eq_true, retQ, resOf, resV, Option.some.injEq, exists_eq_left', AV.d.injEq, D.v.injEq, Value.bool.injEq, imp_self, argsN, dvN]
  all_goals try first
|(simp [okL] at hG; omega)
|(simp; done)
|(unfold aloneV; rw [hc]; rfl)
|(unfold aloneV; rw [hc]; simp [hk.1, hk.2]; done)
  all_goals trace_state
theorem alone_out (n : Net) (k : Int) (hk : ¬ (0 ≤ k ∧ k < n.edges.length)) : FnS Tryz.prog 53 [n.av, .d (.v (.int .i64 k))] (.d (.v (.bool (aloneV n k)))) := by
  refine fn_of teok Tryz.func53 (by kernel_rfl) f53c f53k [.tmp 4] rfl (by show 2 ≤ 25; omega) ?_
  repeat' first
|(with_reducible first | refine awp_seq ?_ | refine awp_reg ?_ | refine awp_ret ?_ | refine awp_skip ?_ | refine normQ_of ?_ | refine wkE_of ?_)
|with_reducible refine awp_cond (by simp only [evX, lget, Option.getD_some, reduceIte, Nat.reduceEqDiff]; rfl) (fun hc => ?_) (fun hc => ?_)
|with_reducible refine CallU_of (f := 15) (fixed_fn n k) (by first | exact Or.inr (Or.inl rfl) | exact Or.inl rfl) ?_
|(with_reducible assumption)
|with_reducible refine fun (hG : okL _) => ?_
|(with_reducible refine fun (hT : (_ : Bool) = _) => ?_)
|(with_reducible first | exact hG.2 | exact hG.2.2 | exact hG.2.2.2 | exact hG.2.2.2.2)
|with_reducible refine okL_mk ?_ ?_
|with_reducible refine And.intro ?_ ?_
|(with_reducible refine CallC_of (f := 89) (rv := .d (.v (.bool false))) (fun hG => ?_) (Or.inl rfl) ?_)
|simp only [f53r0, f53r1, f53r2, f53r3, f53k, List.length_map, runG_nil, runG_u, runG_g, runG_ucS, runG_gcS, stp, evs, evX, lget, lput, strip, putO, PO.dst, updO, okR, cells, AV.cell, binV, sameK, pickV, guardOf, okL_nil, sides, argsOf, rawOf, dv, dvL, owns, ownsL, lkeep, seqQ, initS, List.drop_succ_cons, List.drop_zero, List.take_succ_cons, List.take_zero, List.getD_cons_zero, List.getD_cons_succ, List.length_cons, List.length_nil, List.all_cons, List.all_nil, List.elem_cons, List.elem_nil, Option.getD_some, Option.bind_some, Option.isNone_none, reduceIte, reduceCtorEq, Nat.reduceEqDiff, Nat.reduceAdd, Nat.reduceLeDiff, Nat.zero_add, Nat.reduceBEq, Bool.and_self, Bool.or_self, true_and, and_true, and_self, implies_true, Bool.false_eq_true, retQ, resOf, resV, Option.some.injEq, exists_eq_left', AV.d.injEq, D.v.injEq, Value.bool.injEq, imp_self, argsN, dvN]
  all_goals try first
    | (exfalso; simp [okL] at hG; omega)
    | (unfold aloneV; rw [hc]; rfl)
    | (have h2 : (decide (0 ≤ k) && decide (k < n.edges.length)) = false := by simpa using hk
       unfold aloneV; rw [hc]; simp; intro h0 h1; exact absurd ⟨h0, h1⟩ hk)
  all_goals trace_state
theorem alone_fn (n : Net) (hn : n.ok) (k : Int) : FnS Tryz.prog 53 [n.av, .d (.v (.int .i64 k))] (.d (.v (.bool (aloneV n k)))) := by
  by_cases hk : 0 ≤ k ∧ k < n.edges.length
  · exact alone_in n hn k hk
  · exact alone_out n k hk
end Go.Proofs.YtgkkaimcchlnaaaGreatDoor
