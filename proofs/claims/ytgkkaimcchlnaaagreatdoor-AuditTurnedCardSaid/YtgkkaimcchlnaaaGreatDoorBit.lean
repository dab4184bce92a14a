/- What compile.bit comes to. Printed by a program of this project (wip/mq). -/
import Derived.Test.YtgkkaimcchlnaaaGreatDoorTruth
set_option linter.unusedVariables false
set_option linter.unusedSimpArgs false

namespace Go.Proofs.YtgkkaimcchlnaaaGreatDoor
open Go Mq Go.ChangeShapes Go.WideShapes Go.ChangeAt Go.RowKit
/-! maquette/compile.bit -/
def f137r0 : List PG := [.u (.bx 2 (.t 0)), .u (.mv 4 (.k (.bool false)))]
def f137r1 : List PG := [.u (.mv 6 (.t 1)), .u (.beq 7 false false (.t 6) (.k (.int .i64 0))), .u (.mv 8 (.t 7)), .g 8 false (.fa 9 0 (.t 2)), .g 8 false (.ld 10 1 false (.t 9)), .g 8 false (.no 11 (.t 10)), .u (.pick 12 (.t 8) (.k (.bool true)) (.t 11)), .u (.mv 5 (.t 12))]
def f137r2 : List PG := [.u (.fa 13 0 (.t 2)), .u (.ld 14 1 false (.t 13)), .u (.mv 4 (.t 14))]
abbrev f137p0 : PC := .seq (.reg f137r2) (.ret)
def f137r3 : List PG := [.u (.mv 16 (.t 1)), .u (.bo 17 .leq (.t 16) (.k (.int .i64 4))), .u (.mv 15 (.t 17))]
def f137r4 : List PG := [.u (.fa 18 3 (.t 2)), .u (.ld 19 1 false (.t 18)), .u (.mv 20 (.t 1)), .u (.bo 21 .sub (.t 20) (.k (.int .i64 1))), .u (.bo 22 .shr (.t 19) (.t 21)), .u (.bo 23 .and (.t 22) (.k (.int .u8 1))), .u (.beq 24 false false (.t 23) (.k (.int .u8 1))), .u (.mv 4 (.t 24))]
abbrev f137p1 : PC := .seq (.reg f137r4) (.ret)
def f137r5 : List PG := [.u (.mv 26 (.t 1)), .u (.bo 27 .leq (.t 26) (.k (.int .i64 12))), .u (.mv 25 (.t 27))]
def f137r6 : List PG := [.u (.fa 28 1 (.t 2)), .u (.ld 29 1 false (.t 28)), .u (.mv 30 (.t 1)), .u (.bo 31 .sub (.t 30) (.k (.int .i64 1))), .u (.bo 32 .sub (.t 31) (.k (.int .i64 4))), .u (.bo 33 .shr (.t 29) (.t 32)), .u (.bo 34 .and (.t 33) (.k (.int .i64 1))), .u (.beq 35 false false (.t 34) (.k (.int .i64 1))), .u (.mv 4 (.t 35))]
abbrev f137p2 : PC := .seq (.reg f137r6) (.ret)
abbrev f137p3 : PC := .cond (.t 25) (f137p2) (.skip)
abbrev f137p4 : PC := .seq (.reg f137r5) (f137p3)
abbrev f137p5 : PC := .cond (.t 15) (f137p1) (f137p4)
abbrev f137p6 : PC := .seq (.reg f137r3) (f137p5)
abbrev f137p7 : PC := .cond (.t 5) (f137p0) (f137p6)
def f137r7 : List PG := [.u (.fa 36 2 (.t 2)), .u (.ld 37 1 false (.t 36)), .u (.mv 38 (.t 1)), .u (.bo 39 .sub (.t 38) (.k (.int .i64 1))), .u (.bo 40 .sub (.t 39) (.k (.int .i64 4))), .u (.bo 41 .sub (.t 40) (.k (.int .i64 8))), .u (.bo 42 .shr (.t 37) (.t 41)), .u (.bo 43 .and (.t 42) (.k (.int .i64 1))), .u (.beq 44 false false (.t 43) (.k (.int .i64 1))), .u (.mv 4 (.t 44))]
abbrev f137p8 : PC := .seq (.reg f137r7) (.ret)
abbrev f137p9 : PC := .seq (.block 0 (.seq (.reg f137r1) (f137p7))) (f137p8)
abbrev f137pc : PC := .seq (.reg f137r0) (f137p9)
def f137k : List Nat := [0, 1, 2, 4, 5, 15, 25]
theorem f137c : Tryz.f137.body.bind (cC te Tryz.f137.ntmps) = some f137pc := by kernel_rfl
set_option maxRecDepth 20000
set_option maxHeartbeats 4000000


theorem and1 (k : IntKind) (hk : k = .u8 ∨ k = .i64) {x : Int} (h0 : 0 ≤ x) (h1 : x ≤ 100000) (h8 : k = .u8 → x ≤ 255) : bitV .and k x 1 = x % 2 := by
  unfold bitV
  simp only
  have e : ((BitVec.ofInt k.bits x) &&& (BitVec.ofInt k.bits 1)).toNat = x.toNat % 2 := by
    rw [BitVec.toNat_and, BitVec.toNat_ofInt, BitVec.toNat_ofInt]
    rcases hk with rfl | rfl
    · have : x ≤ 255 := h8 rfl
      have h2 : (x % ((2 ^ IntKind.u8.bits : Nat) : Int)).toNat = x.toNat := by
        show (x % 256).toNat = _; omega
      rw [h2, show ((1 : Int) % ((2 ^ IntKind.u8.bits : Nat) : Int)).toNat = 1 from rfl, Nat.and_one_is_mod]
    · have h2 : (x % ((2 ^ IntKind.i64.bits : Nat) : Int)).toNat = x.toNat := by
        show (x % 18446744073709551616).toNat = _; omega
      rw [h2, show ((1 : Int) % ((2 ^ IntKind.i64.bits : Nat) : Int)).toNat = 1 from rfl, Nat.and_one_is_mod]
  rw [e]
  rcases hk with rfl | rfl
  · show IntKind.u8.wrap _ = _
    rw [show IntKind.u8.wrap ((x.toNat % 2 : Nat) : Int) = ((x.toNat % 2 : Nat) : Int) from by
      rcases Nat.mod_two_eq_zero_or_one x.toNat with h | h <;> rw [h] <;> rfl]
    omega
  · rw [wrapI64 _ (by omega) (by omega)]; omega
theorem shr_bit (k : IntKind) (hk : k = .u8 ∨ k = .i64) {x : Int} (h0 : 0 ≤ x) (h1 : x ≤ 100000) (h8 : k = .u8 → x ≤ 255) (n : Nat) (hn : n ≤ k.bits) : (bitV .and k (x.fdiv (2 ^ (min n k.bits))) 1 == 1) = x.toNat.testBit n := by
  rw [Nat.min_eq_left hn]
  have e1 : x.fdiv (2 ^ n) = ((x.toNat / 2 ^ n : Nat) : Int) := by
    rw [Int.fdiv_eq_ediv_of_nonneg _ (by exact Int.pow_nonneg (by decide))]
    have h2 : x = (x.toNat : Int) := by omega
    rw [h2, show ((2 : Int) ^ n) = ((2 ^ n : Nat) : Int) by push_cast; rfl, Int.toNat_natCast]
    rfl
  have h2 : x.toNat / 2 ^ n ≤ x.toNat := Nat.div_le_self _ _
  rw [e1, Nat.testBit_eq_decide_div_mod_eq]
  generalize x.toNat / 2 ^ n = q at *
  rw [and1 k hk (by omega) (by omega) (fun z => by have := h8 z; omega)]
  rw [Bool.eq_iff_iff]
  simp only [beq_iff_eq, decide_eq_true_eq]
  omega
theorem kT {k : Nat} {b : Bool} (h : (if ((k : Int) == 0) = true then true else !b) = true) : k = 0 ∨ b = false := by
  by_cases hk : k = 0
  · exact .inl hk
  · right
    have : ((k : Int) == 0) = false := by rw [beq_eq_false_iff_ne]; omega
    rw [this] at h
    simpa using h
theorem kF {k : Nat} {b : Bool} (h : (if ((k : Int) == 0) = true then true else !b) = false) : 0 < k ∧ b = true := by
  by_cases hk : k = 0
  · subst hk; simp at h
  · have : ((k : Int) == 0) = false := by rw [beq_eq_false_iff_ne]; omega
    rw [this] at h
    exact ⟨by omega, by simpa using h⟩
structure AtB (a : Attr) : Prop where
  pref : 0 ≤ a.pref ∧ a.pref ≤ 255
  tags : 0 ≤ a.tags ∧ a.tags ≤ 15
  cost : 0 ≤ a.cost ∧ a.cost ≤ 1030
theorem row_atB (e : Arc) (t : Nat) (ht : t < 16) : AtB (rowV e (t : Int)) := by
  rcases row_num e t ht with q | ⟨_, q1, q2, q3⟩
  · rw [q]; exact ⟨by decide, by decide, by decide⟩
  · exact ⟨q1, q2, q3⟩
theorem bit_fn (a : Attr) (ha : AtB a) (k : Nat) (hk : k < 24) : FnS Tryz.prog 137 [.ag [.d (.v (.bool a.ok)), .d (.v (.int .i64 a.pref)), .d (.v (.int .i64 a.cost)), .d (.v (.int .u8 a.tags))], .d (.v (.int .i64 k))] (.d (.v (.bool (bitA a k)))) := by
  have w1 : 0 < k → IntKind.i64.wrap ((k : Int) - 1) = ((k - 1 : Nat) : Int) := fun h => (wrapI64 _ (by omega) (by omega)).trans (by omega)
  have w2 : 4 < k → IntKind.i64.wrap (((k - 1 : Nat) : Int) - 4) = ((k - 5 : Nat) : Int) := fun h => (wrapI64 _ (by omega) (by omega)).trans (by omega)
  have w3 : 12 < k → IntKind.i64.wrap (((k - 5 : Nat) : Int) - 8) = ((k - 13 : Nat) : Int) := fun h => (wrapI64 _ (by omega) (by omega)).trans (by omega)
  refine fn_of teok Tryz.func137 (by kernel_rfl) f137c f137k [.tmp 4] rfl (by show 2 ≤ 45; omega) ?_
  repeat' first
|(with_reducible first | refine awp_seq ?_ | refine awp_block ?_ | refine awp_reg ?_ | refine awp_ret ?_ | refine awp_skip ?_ | refine normQ_of ?_ | refine wkE_of ?_)
|with_reducible refine awp_cond (by simp only [evX, lget, Option.getD_some, reduceIte, Nat.reduceEqDiff]; rfl) (fun hc => ?_) (fun hc => ?_)
|(with_reducible assumption)
|with_reducible refine fun (hG : okL _) => ?_
|(with_reducible refine fun (hT : (_ : Bool) = _) => ?_)
|(with_reducible first | exact hG.2 | exact hG.2.2 | exact hG.2.2.2 | exact hG.2.2.2.2)
|with_reducible refine okL_mk ?_ ?_
|with_reducible refine And.intro ?_ ?_
|simp only [f137r0, f137r1, f137r2, f137r3, f137r4, f137r5, f137r6, f137r7, f137k, List.length_map, runG_nil, runG_u, runG_g, runG_ucS, stp, avL, avS, evs, evX, lget, lput, strip, putO, PO.dst, updO, okR, cells, splice, AV.cell, toD, toDs, binV, sameK, pickV, guardOf, okL_nil, sides, argsOf, rawOf, dv, dvL, owns, ownsL, flat, flatL, lkeep, seqQ, blockQ, initS, List.drop_succ_cons, List.drop_zero, List.take_succ_cons, List.take_zero, List.getD_cons_zero, List.getD_cons_succ, List.length_cons, List.length_nil, List.set_cons_zero, List.set_cons_succ, List.map_cons, List.map_nil, List.all_cons, List.all_nil, List.elem_cons, List.elem_nil, Option.getD_some, Option.getD_none, Option.bind_some, Option.isNone_none, reduceIte, reduceCtorEq, Nat.reduceEqDiff, Nat.reduceAdd, Nat.reduceLeDiff, Nat.zero_add, Nat.add_zero, Nat.reduceBEq, Bool.and_self, Bool.and_true, Bool.true_and, Bool.or_self, Bool.or_false, Bool.false_or, Bool.or_true, Bool.true_or, true_and, and_true, and_self, implies_true, forall_const, Bool.false_eq_true, id_eq, retQ, resOf, resV, Option.some.injEq, exists_eq_left', AV.d.injEq, D.v.injEq, Value.bool.injEq, imp_self, bldF, bldS, toVals, eqLs, Option.map_some, imp_false, not_true_eq_false, not_false_eq_true, List.append_nil, List.cons_append, List.nil_append, Option.toList_some, Option.toList_none, subS, subO, Bool.bne_false, Bool.bne_true, elemsOf, bslD, bslS, lputs, List.headD_cons, sealS, sealO, sealV, sealL, sealsS, sealsO, Bool.true_bne, Bool.false_bne, bne_self_eq_false, Int.reduceToNat, oSl, resR, argsN, dvN]
  all_goals try first
    | (rw [bitA, if_pos (kT hc)]; done)
    | (have h0 := kF ‹(if ((k : Int) == 0) = true then true else !a.ok) = false›; have h1 := of_decide_eq_true hc; rw [w1 h0.1]; omega)
    | (have h0 := kF ‹(if ((k : Int) == 0) = true then true else !a.ok) = false›; have h1 := of_decide_eq_false ‹decide ((k : Int) ≤ 4) = false›; rw [w1 h0.1, w2 (by omega)]; omega)
    | (have h0 := kF ‹(if ((k : Int) == 0) = true then true else !a.ok) = false›; have h1 := of_decide_eq_false ‹decide ((k : Int) ≤ 12) = false›; rw [w1 h0.1, w2 (by omega), w3 (by omega)]; omega)
    | (have h0 := kF ‹(if ((k : Int) == 0) = true then true else !a.ok) = false›; have h1 := of_decide_eq_true hc
       rw [w1 h0.1, Int.toNat_natCast, shr_bit .u8 (.inl rfl) ha.tags.1 (by have := ha.tags; omega) (fun _ => by have := ha.tags; omega) (k - 1) (by show k - 1 ≤ 8; omega), bitA, if_neg (by simp [h0.2]; omega), if_pos (by omega)]; done)
    | (have h0 := kF ‹(if ((k : Int) == 0) = true then true else !a.ok) = false›; have h1 := of_decide_eq_true hc; have h2 := of_decide_eq_false ‹decide ((k : Int) ≤ 4) = false›
       rw [w1 h0.1, w2 (by omega), Int.toNat_natCast, shr_bit .i64 (.inr rfl) ha.pref.1 (by have := ha.pref; omega) (fun q => by cases q) (k - 5) (by show k - 5 ≤ 64; omega), bitA, if_neg (by simp [h0.2]; omega), if_neg (by omega), if_pos (by omega)]; done)
    | (have h0 := kF ‹(if ((k : Int) == 0) = true then true else !a.ok) = false›; have h2 := of_decide_eq_false hc
       rw [w1 h0.1, w2 (by omega), w3 (by omega), Int.toNat_natCast, shr_bit .i64 (.inr rfl) ha.cost.1 (by have := ha.cost; omega) (fun q => by cases q) (k - 13) (by show k - 13 ≤ 64; omega), bitA, if_neg (by simp [h0.2]; omega), if_neg (by omega), if_neg (by omega)]; done)
end Go.Proofs.YtgkkaimcchlnaaaGreatDoor
