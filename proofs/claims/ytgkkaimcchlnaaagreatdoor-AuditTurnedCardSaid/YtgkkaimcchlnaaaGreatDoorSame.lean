/- What refine.same comes to. Printed by a program of this project (wip/mq). -/
import Derived.Test.YtgkkaimcchlnaaaGreatDoorMark
import Derived.Test.YtgkkaimcchlnaaaGreatDoorMqRng
set_option linter.unusedVariables false
set_option linter.unusedSimpArgs false

namespace Go.Proofs.YtgkkaimcchlnaaaGreatDoor
open Go Mq Go.ChangeShapes Go.WideShapes Go.ChangeAt Go.RowKit
/-! maquette/refine.same -/
def f91r0 : List PG := [.u (.mv 4 (.k (.bool false)))]
def f91r1 : List PG := [.u (.mv 6 (.t 0)), .u (.mln 7 true false (.t 6)), .u (.mv 8 (.t 1)), .u (.mln 9 true false (.t 8)), .u (.beq 10 true false (.t 7) (.t 9))]
def f91r2 : List PG := [.u (.mv 4 (.k (.bool false)))]
noncomputable abbrev f91p0 : PC := .seq (.reg f91r2) (.ret)
noncomputable abbrev f91p1 : PC := .cond (.t 10) (f91p0) (.skip)
def f91r3 : List PG := [.u (.mv 4 (.k (.bool true)))]
noncomputable abbrev f91p2 : PC := .seq (.reg f91r3) (.ret)
noncomputable abbrev f91p3 : PC := .seq (.raw 21 (cAt [1, 1, 0] (Tryz.f91.body.getD .skip))) (f91p2)
noncomputable abbrev f91p4 : PC := .seq (.seq (.reg f91r1) (f91p1)) (f91p3)
noncomputable abbrev f91pc : PC := .seq (.reg f91r0) (f91p4)
def f91k : List Nat := [0, 1, 4, 5, 10, 12, 14, 20]
theorem f91c : Tryz.f91.body.bind (cC te Tryz.f91.ntmps) = some f91pc := by kernel_rfl
set_option maxRecDepth 20000
set_option maxHeartbeats 4000000


def smr0 : List PG := [.u (.mv 17 (.t 1)), .u (.ld 18 25 true (.t 5)), .u (.lkp 19 true false [.i, .i, .i, .i, .i, .i, .i, .i, .i, .i, .i, .i, .i, .i, .i, .i, .i, .i, .i, .i, .i, .i, .i, .i, .i] [.d (.v (.bool false))] false (.t 17) (.t 18)), .u (.no 20 (.t 19))]
def smr1 : List PG := [.u (.mv 4 (.k (.bool false)))]
def smt : List PG := [.u (.al 5 [.d (.v (.int .i64 0)), .d (.v (.int .i64 0)), .d (.v (.int .i64 0)), .d (.v (.int .i64 0)), .d (.v (.int .i64 0)), .d (.v (.int .i64 0)), .d (.v (.int .i64 0)), .d (.v (.int .i64 0)), .d (.v (.int .i64 0)), .d (.v (.int .i64 0)), .d (.v (.int .i64 0)), .d (.v (.int .i64 0)), .d (.v (.int .i64 0)), .d (.v (.int .i64 0)), .d (.v (.int .i64 0)), .d (.v (.int .i64 0)), .d (.v (.int .i64 0)), .d (.v (.int .i64 0)), .d (.v (.int .i64 0)), .d (.v (.int .i64 0)), .d (.v (.int .i64 0)), .d (.v (.int .i64 0)), .d (.v (.int .i64 0)), .d (.v (.int .i64 0)), .d (.v (.int .i64 0))]), .u (.st 25 (.t 5) (.t 16))]
abbrev smp0 : PC := .seq (.reg smr1) (.ret)
abbrev smp1 : PC := .cond (.t 20) (smp0) (.skip)
abbrev smpc : PC := .seq (.reg smr0) (smp1)
theorem same_code : ∃ (i3 i4 i5 : Nat) (O3 O4 O5 : Array Oper) (rest5 : List Oper) (C : Code), cAt [1, 1, 0] (Tryz.f91.body.getD .skip) = .seq (.region i3 O3 false) (.block 0 (.loop (.seq (.region i4 O4 false) (.seq (.cond (.tmp 14) .skip (.exit 0)) (.block 1 (.seq (.region i5 O5 false) C))))))
    ∧ RngOps O3 O4 O5 rest5 11 12 13 14 15 16 196 ∧ cGs te 21 O5 rest5 = some smt ∧ cC te 21 C = some smpc :=
  ⟨_, _, _, _, _, _, _, _, rfl, ⟨⟨_, _, rfl, rfl, rfl⟩, ⟨_, _, rfl, rfl, rfl⟩, ⟨_, _, rfl, rfl, rfl⟩⟩, by kernel_rfl, by kernel_rfl⟩
theorem keyA_pol (k : List Int) : keyA true (k.map (Value.int .i64)) = .ag (polA k) := by simp [keyA, polA]
theorem splice25 {k : List Int} (h : k.length = 25) : splice [.d (.v (.int .i64 0)), .d (.v (.int .i64 0)), .d (.v (.int .i64 0)), .d (.v (.int .i64 0)), .d (.v (.int .i64 0)), .d (.v (.int .i64 0)), .d (.v (.int .i64 0)), .d (.v (.int .i64 0)), .d (.v (.int .i64 0)), .d (.v (.int .i64 0)), .d (.v (.int .i64 0)), .d (.v (.int .i64 0)), .d (.v (.int .i64 0)), .d (.v (.int .i64 0)), .d (.v (.int .i64 0)), .d (.v (.int .i64 0)), .d (.v (.int .i64 0)), .d (.v (.int .i64 0)), .d (.v (.int .i64 0)), .d (.v (.int .i64 0)), .d (.v (.int .i64 0)), .d (.v (.int .i64 0)), .d (.v (.int .i64 0)), .d (.v (.int .i64 0)), .d (.v (.int .i64 0))] 0 (polA k) = polA k := splice_whole (by rw [polA_len, h]; rfl)
theorem lenB_25 {p : List Int} (h : p.length = 25) : lenB [.i, .i, .i, .i, .i, .i, .i, .i, .i, .i, .i, .i, .i, .i, .i, .i, .i, .i, .i, .i, .i, .i, .i, .i, .i] (p.map (Value.int .i64)) = true := lenB_of _ _ (by simp [h])
theorem mcmp25 {x : List Int} (h : x.length = 25) {s : List (List Int)} (hs : ∀ y ∈ s, y.length = 25) : mcmp [.i, .i, .i, .i, .i, .i, .i, .i, .i, .i, .i, .i, .i, .i, .i, .i, .i, .i, .i, .i, .i, .i, .i, .i, .i] (x.map (Value.int .i64)) (lset s) = true := mcmp_lset 25 x h s hs
theorem mget25 {x : List Int} (h : x.length = 25) {s : List (List Int)} (hs : ∀ y ∈ s, y.length = 25) : mget [.i, .i, .i, .i, .i, .i, .i, .i, .i, .i, .i, .i, .i, .i, .i, .i, .i, .i, .i, .i, .i, .i, .i, .i, .i] (x.map (Value.int .i64)) (lset s) = if s.elem x then some [.v (.bool true)] else none := mget_lset 25 x h s hs
theorem lset_len (s : List (List Int)) : (lset s).length = s.length := by simp [lset]
theorem same_ne {s t : List (List Int)} (h : (!((s.length : Int) == (t.length : Int))) = true) : false = sameM s t := by
  have : ¬ s.length = t.length := by intro q; rw [q] at h; simp at h
  simp [sameM, this]
theorem same_not {s t : List (List Int)} {k : List Int} (hk : k ∈ s) (hel : t.elem k = false) : false = sameM s t := by
  have : (s.all fun x => t.elem x) = false := List.all_eq_false.2 ⟨k, hk, by rw [hel]; decide⟩
  simp only [sameM, this, Bool.and_false]
theorem int_inj : ∀ {x y : List Int}, x.map (Value.int .i64) = y.map (Value.int .i64) → x = y
  | [], [], _ => rfl
  | a :: x, b :: y, h => by
    simp only [List.map_cons, List.cons.injEq, Value.int.injEq, true_and] at h
    rw [h.1, int_inj h.2]
  | [], _ :: _, h => by simp at h
  | _ :: _, [], h => by simp at h
theorem same_all {s t : List (List Int)} (h : (!((s.length : Int) == (t.length : Int))) = false) (hall : ∀ p ∈ lset s, ∃ k : List Int, p.1 = k.map (Value.int .i64) ∧ t.elem k = true) : true = sameM s t := by
  have h1 : (s.length == t.length) = true := by simp at h ⊢; omega
  have h2 : (s.all fun x => t.elem x) = true := List.all_eq_true.2 fun x hx => by
    obtain ⟨k, hk, he⟩ := hall _ (List.mem_map_of_mem hx)
    rw [int_inj hk]; exact he
  simp only [sameM, h1, h2, Bool.and_true]
theorem samem_fn (s t : List (List Int)) (hs : ∀ y ∈ s, y.length = 25) (ht : ∀ y ∈ t, y.length = 25) : FnS Tryz.prog 91 [.d (.mp true false (lset s)), .d (.mp true false (lset t))] (.d (.v (.bool (sameM s t)))) := by
  have hm : maxLen = 9223372036854775807 := rfl
  obtain ⟨i3, i4, i5, O3, O4, O5, rest5, C, hcode, hops, hpl, hpc⟩ := same_code
  have hmt : Tryz.prog.underlying 196 = some (.map 279 4) := by kernel_rfl
  refine fn_of teok Tryz.func91 (by kernel_rfl) f91c f91k [.tmp 4] rfl (by show 2 ≤ 21; omega) ?_
  first | (have _q := @g1; clear _q) | have g1 : Nat.pred 77 = 76 := rfl
  first | (have _q := @g2; clear _q) | have g2 : Nat.pred 77 = 76 := rfl
  first | (have _q := @g3; clear _q) | have g3 : Nat.pred 77 = 76 := rfl
  first | (have _q := @g4; clear _q) | have g4 : Nat.pred 77 = 76 := rfl
  first | (have _q := @g5; clear _q) | have g5 : Nat.pred 77 = 76 := rfl
  first | (have _q := @g6; clear _q) | have g6 : Nat.pred 77 = 76 := rfl
  first | (have _q := @g7; clear _q) | have g7 : Nat.pred 77 = 76 := rfl
  first | (have _q := @g8; clear _q) | have g8 : Nat.pred 77 = 76 := rfl
  repeat' first
|(exact absurd hc (by decide))
|(refine awp_range teok (fun p => ∃ k : List Int, p.1 = k.map (Value.int .i64) ∧ t.elem k = true) hcode hops hpl hpc hmt rfl (by simp [lget]) (by decide) (fun p hp v hv => (by obtain ⟨k, _, rfl⟩ := List.mem_map.1 hp; obtain ⟨x, _, rfl⟩ := List.mem_map.1 hv; rfl)) (fun p hp v hv => ?_) (fun hall => ?_))
|(refine Exists.elim (List.mem_map.1 hp) (fun k hkk => ?_); have hkl := hs k hkk.1; have g1 : keyA true p.1 = .ag (polA k) := (by rw [← hkk.2]; exact keyA_pol k); have g2 := splice25 hkl; have g3 := lenB_25 hkl; have g4 := mcmp25 hkl ht; have g5 := mget25 hkl ht; have g6 := toVals_pol k; have g7 := polA_len k; rw [hkl] at g7; have g8 : (polA k).take 25 = polA k := List.take_of_length_le (by omega); have hpk : p.1 = k.map (Value.int .i64) := hkk.2 ▸ rfl; clear hp; rcases Bool.eq_false_or_eq_true (t.elem k) with hel | hel <;> rw [hel] at g5)
|with_reducible refine rngQ_nrm ⟨k, hpk, hel⟩ (Wk_sub rfl rfl ?_ ?_)
|with_reducible refine rngQ_ret ?_
|(with_reducible first | refine awp_seq ?_ | refine awp_reg ?_ | refine awp_ret ?_ | refine awp_skip ?_ | refine normQ_of ?_ | refine wkE_of ?_)
|with_reducible refine awp_cond (by simp only [evX, lget, Option.getD_some, reduceIte, Nat.reduceEqDiff]; rfl) (fun hc => ?_) (fun hc => ?_)
|(with_reducible assumption)
|(with_reducible refine fun (hT : (_ : Bool) = _) => ?_)
|with_reducible refine And.intro ?_ ?_
|simp only [f91r0, f91r1, f91r2, f91r3, g1, g2, g3, g4, g5, g6, g7, g8, f91k, lset_len, List.length_map, smr0, smr1, smt, nmL_pol, runG_nil, runG_u, runG_ucS, stp, avL, avS, evs, evX, lget, lput, strip, putO, PO.dst, updO, okR, cells, splice, AV.cell, toD, toDs, binV, sameK, pickV, guardOf, okL_nil, sides, argsOf, rawOf, dv, dvL, owns, ownsL, flat, flatL, lkeep, seqQ, blockQ, initS, List.drop_succ_cons, List.drop_zero, List.take_succ_cons, List.take_zero, List.getD_cons_zero, List.getD_cons_succ, List.length_cons, List.length_nil, List.set_cons_zero, List.set_cons_succ, List.map_cons, List.map_nil, List.all_cons, List.all_nil, List.elem_cons, List.elem_nil, Option.getD_some, Option.getD_none, Option.bind_some, Option.isNone_none, reduceIte, reduceCtorEq, Nat.reduceEqDiff, Nat.reduceAdd, Nat.reduceLeDiff, Nat.zero_add, Nat.add_zero, Nat.reduceBEq, Bool.and_self, Bool.and_true, Bool.true_and, Bool.or_self, Bool.or_false, Bool.false_or, Bool.or_true, Bool.true_or, true_and, and_true, and_self, implies_true, forall_const, Bool.false_eq_true, id_eq, retQ, resOf, resV, Option.some.injEq, exists_eq_left', AV.d.injEq, D.v.injEq, Value.bool.injEq, imp_self, bldF, bldS, toVals, eqLs, Option.map_some, imp_false, not_true_eq_false, not_false_eq_true, List.append_nil, List.cons_append, List.nil_append, Option.toList_some, Option.toList_none, subS, subO, Bool.bne_false, Bool.bne_true, elemsOf, bslD, bslS, mentries, isAgV, asA, lputs, mgetD_set, mcmp_set, mput_set, List.headD_cons, sealS, sealO, sealV, sealL, mput_nil, mcmp_nil, sealsS, sealsO, Bool.true_bne, Bool.false_bne, bne_self_eq_false, Int.reduceToNat, oSl, resR, lenB, argsN, dvN]
  all_goals try first
|omega
|(with_reducible rfl)
|decide
|exact polA_cell _
|exact same_ne hc
|exact same_not hkk.1 hel
|exact same_all hc hall
|exact ⟨k, hpk, hel⟩
  all_goals trace_state
end Go.Proofs.YtgkkaimcchlnaaaGreatDoor
