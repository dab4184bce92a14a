/- What layer 15's Net comes to. Printed by a program of this project (wip/mq). -/
import Derived.Test.YtgkkaimcchlnaaaGreatDoorConf
import Derived.Test.YtgkkaimcchlnaaaGreatDoorClasses
import Derived.Test.YtgkkaimcchlnaaaGreatDoorLNet
import Derived.Test.YtgkkaimcchlnaaaGreatDoorMqPl
set_option linter.unusedVariables false
set_option linter.unusedSimpArgs false

namespace Go.Proofs.YtgkkaimcchlnaaaGreatDoor
open Go Mq Go.ChangeShapes Go.WideShapes Go.ChangeAt Go.RowKit
/-! maquette/maquettelaw15.Net -/
def f30r0 : List PG := [.u (.bx 2 (.t 0)), .u (.al 4 [.nl 1, .nl 1, .nl 1]), .u (.al 5 [.d (.v (.int .u32 0)), .d (.v (.int .i64 0))]), .u (.mv 6 (.k (.bool false)))]
def f30r1 : List PG := [.u (.ld 10 6 true (.t 2)), .uc 11 38 [.t 10], .u (.al 7 [.nl 3, .nl 5]), .u (.st 2 (.t 7) (.t 11))]
def f30r2 : List PG := [.u (.ld 12 2 true (.t 7)), .uc 13 46 [.t 12], .u (.mv 8 (.t 13))]
def f30r3 : List PG := [.u (.mv 14 (.t 8)), .u (.len 15 (.t 14)), .u (.beq 16 false false (.t 15) (.k (.int .i64 0)))]
def f30r4 : List PG := [.u (.bld 17 [.nl 1, .nl 1, .nl 1] []), .u (.bld 18 [.d (.v (.int .u32 0)), .d (.v (.int .i64 0))] []), .u (.st 3 (.t 4) (.t 17)), .u (.st 2 (.t 5) (.t 18)), .u (.mv 6 (.k (.bool false)))]
abbrev f30p0 : PC := .seq (.reg f30r4) (.ret)
abbrev f30p1 : PC := .cond (.t 16) (f30p0) (.skip)
def f30r5 : List PG := [.u (.mv 19 (.t 8)), .u (.mv 20 (.t 1)), .u (.cv 21 .i64 (.t 20)), .u (.mv 22 (.t 8)), .u (.len 23 (.t 22)), .u (.bo 24 .rem (.t 21) (.t 23)), .u (.ia 25 2 (.t 19) (.t 24)), .u (.ld 26 2 true (.t 25)), .u (.al 9 [.d (.v (.int .u32 0)), .d (.v (.int .i64 0))]), .u (.st 2 (.t 9) (.t 26))]
def f30r6 : List PG := [.u (.ld 27 2 true (.t 7)), .u (.ld 28 2 true (.t 9)), .uc 29 41 [.t 27, .t 28], .u (.ld 30 2 true (.t 9)), .u (.st 3 (.t 4) (.t 29)), .u (.st 2 (.t 5) (.t 30)), .u (.mv 6 (.k (.bool true)))]
abbrev f30p2 : PC := .seq (.regD f30r6 [(3, 4)]) (.ret)
abbrev f30p3 : PC := .seq (.reg f30r5) (f30p2)
abbrev f30p4 : PC := .seq (.seq (.reg f30r3) (f30p1)) (f30p3)
abbrev f30p5 : PC := .seq (.reg f30r2) (f30p4)
abbrev f30p6 : PC := .seq (.reg f30r1) (f30p5)
abbrev f30pc : PC := .seq (.reg f30r0) (f30p6)
def f30k : List Nat := [0, 1, 2, 4, 5, 6, 7, 8, 9, 16]
theorem f30c : Tryz.f30.body.bind (cC te Tryz.f30.ntmps) = some f30pc := by kernel_rfl
set_option maxRecDepth 20000
set_option maxHeartbeats 4000000


def netA : Option (Net × Int × Int) → AV
  | none => .tp [Net.av ⟨[], [], []⟩, .ag [.d (.v (.int .u32 0)), .d (.v (.int .i64 0))], .d (.v (.bool false))]
  | some x => .tp [x.1.av, .ag [.d (.v (.int .u32 x.2.1)), .d (.v (.int .i64 x.2.2))], .d (.v (.bool true))]
theorem netOf_none (sh : Shape) (hs : sh.ok) (w : Int) (hc0 : sh.conf.cls = []) : FnS Tryz.prog 30 [sh.av, .d (.v (.int .u8 w))] (netA (sh.netV w)) := by
  have hg := sh.good
  have h1 := classes_fn sh.conf hg.n hg.nets
  rw [show sortP (collGo sh.conf.ros []) = [] from hc0] at h1
  have h2 : sh.netV w = none := by rw [Shape.netV, hc0]; rfl
  rw [h2]
  refine fn_of teok Tryz.func30 (by kernel_rfl) f30c f30k [.cell 4 32, .cell 5 35, .tmp 6] rfl (by show 2 ≤ 31; omega) ?_
  repeat' first
|(exact absurd hc (by decide))
|(with_reducible first | refine awp_seq ?_ | refine awp_reg ?_ | refine awp_regD ?_ | refine awp_ret ?_ | refine awp_skip ?_ | refine normQ_of ?_ | refine wkE_of ?_ | refine runD_nil ?_ | refine runD_cons ?_ | refine runF_cons ?_ | refine runF_nil ?_ | refine KF_of ?_ | refine chkQ_of rfl ?_)
|with_reducible refine awp_cond (by simp only [evX, lget, Option.getD_some, reduceIte, Nat.reduceEqDiff]; rfl) (fun hc => ?_) (fun hc => ?_)
|with_reducible refine CallU_of (f := 38) (config_fn sh hs) (by first | exact Or.inr (Or.inl rfl) | exact Or.inl rfl) ?_
|with_reducible refine CallU_of (f := 46) (h1) (by first | exact Or.inr (Or.inl rfl) | exact Or.inl rfl) ?_
|(with_reducible assumption)
|(with_reducible refine fun (hT : (_ : Bool) = _) => ?_)
|with_reducible refine And.intro ?_ ?_
|simp only [f30r0, f30r1, f30r2, f30r3, f30r4, f30r5, f30r6, f30k, te32, te35, List.map_nil, List.length_nil, runG_nil, runG_u, runG_ucS, stp, avL, avS, evs, evX, lget, lput, strip, putO, PO.dst, updO, okR, cells, splice, AV.cell, toD, toDs, binV, sameK, pickV, guardOf, okL_nil, sides, argsOf, rawOf, dv, dvL, owns, ownsL, flat, flatL, lkeep, seqQ, blockQ, initS, List.drop_succ_cons, List.drop_zero, List.take_succ_cons, List.take_zero, List.getD_cons_zero, List.getD_cons_succ, List.length_cons, List.length_nil, List.set_cons_zero, List.set_cons_succ, List.map_cons, List.map_nil, List.all_cons, List.all_nil, List.elem_cons, List.elem_nil, Option.getD_some, Option.getD_none, Option.bind_some, Option.isNone_none, reduceIte, reduceCtorEq, Nat.reduceEqDiff, Nat.reduceAdd, Nat.reduceLeDiff, Nat.zero_add, Nat.add_zero, Nat.reduceBEq, Bool.and_self, Bool.and_true, Bool.true_and, Bool.or_self, Bool.or_false, Bool.false_or, Bool.or_true, Bool.true_or, true_and, and_true, and_self, implies_true, forall_const, Bool.false_eq_true, id_eq, retQ, resOf, resV, Option.some.injEq, exists_eq_left', AV.d.injEq, D.v.injEq, Value.bool.injEq, imp_self, bldF, bldS, toVals, eqLs, Option.map_some, imp_false, not_true_eq_false, not_false_eq_true, foot, wrs, nm, nmL, PG.reads, PG.dst, PO.reads, X.sl, sls, slB, List.append_nil, List.cons_append, List.nil_append, Option.toList_some, Option.toList_none, subS, subO, Bool.bne_false, Bool.bne_true, elemsOf, bslD, bslS, lputs, List.headD_cons, sealS, sealO, sealV, sealL, sealsS, sealsO, Bool.true_bne, Bool.false_bne, bne_self_eq_false, Int.reduceToNat, oSl, resR, argsN, dvN]
  all_goals first
    | rfl
    | decide
    | trace_state
theorem netOf_some (sh : Shape) (hs : sh.ok) (w : Int) (hw : 0 ≤ w ∧ w ≤ 255) (hc0 : sh.conf.cls ≠ []) : FnS Tryz.prog 30 [sh.av, .d (.v (.int .u8 w))] (netA (sh.netV w)) := by
  have hg := sh.good
  have h1 := classes_fn sh.conf hg.n hg.nets
  change FnS _ _ _ (.d (.sl 2 (sh.conf.cls.map pD))) at h1
  have hw2 : IntKind.i64.wrap w = w := wrapI64 _ (by omega) (by omega)
  have h3 := netV_ix sh hw hc0
  obtain ⟨p, hp⟩ : ∃ p, p = sh.conf.cls.getD (w.tmod sh.conf.cls.length).toNat (0, 0) := ⟨_, rfl⟩
  have h2 : sh.netV w = some (sh.conf.net p.1 p.2, p) := by rw [Shape.netV, if_neg hc0, ← hp]
  have g1 := h3.2.2
  rw [← hp] at g1
  have h0 : 0 < sh.conf.cls.length := List.length_pos_iff.2 hc0
  rw [h2]
  refine fn_of teok Tryz.func30 (by kernel_rfl) f30c f30k [.cell 4 32, .cell 5 35, .tmp 6] rfl (by show 2 ≤ 31; omega) ?_
  first | (have _q := @g1; clear _q) | have g1 : Nat.pred 77 = 76 := rfl
  repeat' first
|(with_reducible first | refine awp_seq ?_ | refine awp_reg ?_ | refine awp_regD ?_ | refine awp_ret ?_ | refine awp_skip ?_ | refine normQ_of ?_ | refine wkE_of ?_ | refine runD_nil ?_ | refine runD_cons ?_ | refine runF_cons ?_ | refine runF_nil ?_ | refine KF_of ?_ | refine chkQ_of rfl ?_)
|with_reducible refine awp_cond (by simp only [evX, lget, Option.getD_some, reduceIte, Nat.reduceEqDiff]; rfl) (fun hc => ?_) (fun hc => ?_)
|with_reducible refine CallU_of (f := 38) (config_fn sh hs) (by first | exact Or.inr (Or.inl rfl) | exact Or.inl rfl) ?_
|with_reducible refine CallU_of (f := 46) (h1) (by first | exact Or.inr (Or.inl rfl) | exact Or.inl rfl) ?_
|with_reducible refine CallU_of (f := 41) (net_fn sh.conf hg _ _) (by first | exact Or.inr (Or.inl rfl) | exact Or.inl rfl) ?_
|(with_reducible assumption)
|(with_reducible refine fun (hT : (_ : Bool) = _) => ?_)
|with_reducible refine And.intro ?_ ?_
|simp only [f30r0, f30r1, f30r2, f30r3, f30r4, f30r5, f30r6, hw2, g1, f30k, te32, te35, List.length_map, runG_nil, runG_u, runG_ucS, stp, avL, avS, evs, evX, lget, lput, strip, putO, PO.dst, updO, okR, cells, splice, AV.cell, toD, toDs, binV, sameK, pickV, guardOf, okL_nil, sides, argsOf, rawOf, dv, dvL, owns, ownsL, flat, flatL, lkeep, seqQ, blockQ, initS, List.drop_succ_cons, List.drop_zero, List.take_succ_cons, List.take_zero, List.getD_cons_zero, List.getD_cons_succ, List.length_cons, List.length_nil, List.set_cons_zero, List.set_cons_succ, List.map_cons, List.map_nil, List.all_cons, List.all_nil, List.elem_cons, List.elem_nil, Option.getD_some, Option.getD_none, Option.bind_some, Option.isNone_none, reduceIte, reduceCtorEq, Nat.reduceEqDiff, Nat.reduceAdd, Nat.reduceLeDiff, Nat.zero_add, Nat.add_zero, Nat.reduceBEq, Bool.and_self, Bool.and_true, Bool.true_and, Bool.or_self, Bool.or_false, Bool.false_or, Bool.or_true, Bool.true_or, true_and, and_true, and_self, implies_true, forall_const, Bool.false_eq_true, id_eq, retQ, resOf, resV, Option.some.injEq, exists_eq_left', AV.d.injEq, D.v.injEq, Value.bool.injEq, imp_self, bldF, bldS, toVals, eqLs, Option.map_some, imp_false, not_true_eq_false, not_false_eq_true, foot, wrs, nm, nmL, PG.reads, PG.dst, PO.reads, X.sl, sls, slB, List.append_nil, List.cons_append, List.nil_append, Option.toList_some, Option.toList_none, subS, subO, Bool.bne_false, Bool.bne_true, elemsOf, bslD, bslS, lputs, List.headD_cons, sealS, sealO, sealV, sealL, sealsS, sealsO, Bool.true_bne, Bool.false_bne, bne_self_eq_false, Int.reduceToNat, oSl, resR, argsN, dvN]
  all_goals first
    | (have : ((sh.conf.cls.length : Int) == 0) = true := hc
       have := eq_of_beq this; omega)
    | omega
    | rfl
    | decide
    | trace_state
end Go.Proofs.YtgkkaimcchlnaaaGreatDoor
