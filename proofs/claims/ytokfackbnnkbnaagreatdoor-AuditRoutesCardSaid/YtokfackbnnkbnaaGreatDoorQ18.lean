/- What layer 18's functions come to. Printed by a program of this project (wip/mq). -/
import Derived.Test.YtokfackbnnkbnaaGreatDoorQuot
set_option linter.unusedVariables false
set_option linter.unusedSimpArgs false

namespace Go.Proofs.YtokfackbnnkbnaaGreatDoor
open Go Mq Go.ChangeShapes Go.WideShapes Go.ChangeAt Go.RowKit
/-! maquette/quotient.Down -/
def f12r0 : List PG := [.u (.mv 4 (.nl 4))]
def f12r1 : List PG := [.u (.mv 5 (.nl 4))]
def f12r2 : List PG := [.u (.mv 9 (.t 0)), .u (.len 10 (.t 9)), .u (.mv 11 (.k (.int .i64 0)))]
def f12r3 : List PG := [.u (.bo 12 .lss (.t 11) (.t 10))]
def f12r4 : List PG := [.u (.ia 13 1 (.t 9) (.t 11)), .u (.ld 14 1 false (.t 13)), .u (.mv 7 (.t 14))]
def f12r5 : List PG := [.u (.al 8 [.d (.v (.bool false)), .d (.v (.int .i64 0)), .d (.v (.int .i64 0)), .d (.v (.int .u8 0))])]
def f12r6 : List PG := [.u (.mv 15 (.t 7)), .u (.bo 16 .geq (.t 15) (.k (.int .i64 0))), .u (.mv 17 (.t 16)), .g 17 true (.mv 18 (.t 7)), .g 17 true (.mv 19 (.t 1)), .g 17 true (.len 20 (.t 19)), .g 17 true (.bo 21 .lss (.t 18) (.t 20)), .u (.pick 22 (.t 17) (.t 21) (.k (.bool false)))]
def f12r7 : List PG := [.u (.mv 23 (.t 1)), .u (.mv 24 (.t 7)), .u (.ia 25 4 (.t 23) (.t 24)), .u (.ld 26 4 true (.t 25)), .u (.st 4 (.t 8) (.t 26))]
abbrev f12p0 : PC := .cond (.t 22) (.reg f12r7) (.skip)
def f12r8 : List PG := [.u (.mv 27 (.t 5)), .u (.ld 28 4 true (.t 8)), .u (.bslF 29 51 4 [.t 28]), .u (.app 30 51 4 32 (.t 27) (.t 29)), .u (.mv 5 (.t 30))]
abbrev f12p1 : PC := .seq (.seq (.reg f12r6) (f12p0)) (.reg f12r8)
abbrev f12p2 : PC := .seq (.reg f12r5) (f12p1)
def f12r9 : List PG := [.u (.bo 31 .add (.t 11) (.k (.int .i64 1))), .u (.mv 11 (.t 31))]
abbrev f12p3 : PC := .seq (.block 1 (.seq (.reg f12r4) (f12p2))) (.reg f12r9)
abbrev f12p4 : PC := .seq (.cond (.t 12) (.skip) (.exit 0)) (f12p3)
abbrev f12p5 : PC := .seq (.reg f12r3) (f12p4)
abbrev f12p6 : PC := .block 0 (.loop (f12p5))
def f12r10 : List PG := [.u (.mv 32 (.t 5)), .u (.mv 4 (.t 32))]
abbrev f12p7 : PC := .seq (.reg f12r10) (.ret)
abbrev f12p8 : PC := .seq (.seq (.reg f12r2) (f12p6)) (f12p7)
abbrev f12p9 : PC := .seq (.reg f12r1) (f12p8)
abbrev f12pc : PC := .seq (.reg f12r0) (f12p9)
def f12k : List Nat := [0, 1, 4, 5, 7, 8, 9, 10, 11, 12, 22]
theorem f12c : Tryz.f12.body.bind (cC te Tryz.f12.ntmps) = some f12pc := by kernel_rfl
set_option maxRecDepth 20000
set_option maxHeartbeats 4000000
set_option linter.unusedSimpArgs false
set_option linter.unusedVariables false

theorem quot_fn (n : Net) (hn : n.ok) (b : List Int) (hb : b.length ≤ maxLen) : FnS Tryz.prog 7 [n.av, .d (.sl 1 (b.map iD))] (quotV (n.quot b)) := by
  cases hf : n.firsts b with
  | none => exact quot_none n hn b hb hf
  | some fs => exact quot_some n hn b hb fs hf
def net0 : Net := ⟨[true, false, false], [-1, -1, -1], [[⟨1, 2, [], []⟩, ⟨2, 2, [], []⟩], [⟨0, 2, [], []⟩], [⟨0, 2, [], []⟩]]⟩
theorem quot0 : FnS Tryz.prog 7 [.ag [.d (.sl 1 [[.v (.bool true)], [.v (.bool false)], [.v (.bool false)]]), .d (.sl 1 [[.v (.int .i64 (-1))], [.v (.int .i64 (-1))], [.v (.int .i64 (-1))]]), .d (.sl 1 [[.sl 4 [[.v (.int .i64 1), .v (.int .i64 2), .sl 10 [], .sl 10 []], [.v (.int .i64 2), .v (.int .i64 2), .sl 10 [], .sl 10 []]]], [.sl 4 [[.v (.int .i64 0), .v (.int .i64 2), .sl 10 [], .sl 10 []]]], [.sl 4 [[.v (.int .i64 0), .v (.int .i64 2), .sl 10 [], .sl 10 []]]]])], .d (.sl 1 [[.v (.int .i64 0)], [.v (.int .i64 1)], [.v (.int .i64 1)]])]
    (.tp [.ag [.d (.sl 1 [[.v (.bool true)], [.v (.bool false)]]), .d (.sl 1 [[.v (.int .i64 (-1))], [.v (.int .i64 (-1))]]), .d (.sl 1 [[.sl 4 [[.v (.int .i64 1), .v (.int .i64 2), .sl 10 [], .sl 10 []]]], [.sl 4 [[.v (.int .i64 0), .v (.int .i64 2), .sl 10 [], .sl 10 []]]]])], .d (.v .nilIface)]) := by
  have hm : maxLen = 9223372036854775807 := rfl
  have h := quot_fn net0 ⟨by simp [net0, hm], by simp [net0, hm], by simp [net0, hm], by simp [net0, hm], by
    intro es hes e he
    simp only [net0, List.mem_cons, List.not_mem_nil, or_false] at hes
    rcases hes with rfl | rfl | rfl <;> simp only [List.mem_cons, List.not_mem_nil, or_false] at he <;> (rcases he with rfl | rfl <;> exact ⟨by simp [hm], by simp [hm]⟩) ⟩ [0, 1, 1] (by simp [hm])
  have hq : net0.quot [0, 1, 1] = some ⟨[true, false], [-1, -1], [[⟨1, 2, [], []⟩], [⟨0, 2, [], []⟩]]⟩ := by kernel_rfl
  rw [hq] at h
  exact h
theorem down_fn (b : List Int) (hb : b.length ≤ 1048576) (l : List Attr) (hl : l.length ≤ maxLen) : FnS Tryz.prog 12 [.d (.sl 1 (b.map iD)), .d (.sl 4 (l.map Attr.row))] (.d (.sl 4 ((downL b l).map Attr.row))) := by
  have hm : maxLen = 9223372036854775807 := rfl
  refine fn_of teok Tryz.func12 (by kernel_rfl) f12c f12k [.tmp 4] rfl (by show 2 ≤ 33; omega) ?_
  first | (have _q := @g2; clear _q) | have g2 : Nat.pred 77 = 76 := rfl
  first | (have _q := @g1; clear _q) | have g1 : Nat.pred 77 = 76 := rfl
  repeat' first
  | (with_reducible refine awp_mid (.reg f12r8) [] [(8, .box (dnA l v).box)] ?_ ?_)
  | (with_reducible first | refine awp_seq ?_ | refine awp_block ?_ | refine awp_reg ?_ | refine awp_ret ?_ | refine awp_skip ?_ | refine awp_exit ?_ | refine normQ_of ?_ | refine wkE_of ?_)
  | with_reducible refine midQ_of (Wk_sub rfl rfl ?_ ?_)
  | with_reducible refine awp_cond (by simp only [evX, lget, Option.getD_some, reduceIte, Nat.reduceEqDiff]; rfl) (fun hc => ?_) (fun hc => ?_)
  | (with_reducible assumption)
  | with_reducible refine fun (hG : okL _) => ?_
  | (with_reducible refine fun (hT : (_ : Bool) = _) => ?_)
  | (with_reducible first | exact hG.2 | exact hG.2.2 | exact hG.2.2.2 | exact hG.2.2.2.2)
  | with_reducible refine okL_mk ?_ ?_
  | with_reducible refine And.intro ?_ ?_
  | (with_reducible refine awp_loopU (b := f12p5) (fun x : Nat × List Attr => x.1 ≤ b.length ∧ x.2.length = x.1 ∧ x.2 ++ (b.drop x.1).map (dnA l) = downL b l) (fun x => b.length - x.1) (fun x => [(11, .d (.v (.int .i64 x.1))), (5, .own 30 x.2.length)]) (fun x => [(30, .row 51 4 x.2.length (x.2.map Attr.row))]) ((0, [])) (⟨Nat.zero_le _, rfl, rfl⟩) (Wk_nl 5 30 51 rfl rfl (by decide)) (Wk_sub rfl rfl ?_ ?_) (fun x hx => ?_))
  | (refine Exists.elim (at_drop iD b x.1 (Int.ofNat_lt.1 (of_decide_eq_true hc))) (fun v he => ?_); have g1 := he.2.1; replace hc : True := trivial)
  | (have g2v := dn_row hc; have g2 := g2v.1; replace hc : True := trivial)
  | (with_reducible refine loopQ_next ((x.1 + 1, x.2 ++ [dnA l v])) ?_ ?_ (Wk_sub rfl rfl ?_ ?_))
  | simp only [f12r0, f12r1, f12r2, f12r3, f12r4, f12r5, f12r6, f12r7, f12r8, f12r9, f12r10, g2, g1, f12k, List.length_map, runG_nil, runG_u, runG_g, runG_ucS, stp, avL, avS, evs, evX, lget, lput, strip, putO, PO.dst, updO, okR, cells, splice, AV.cell, toD, toDs, binV, sameK, pickV, guardOf, okL_nil, sides, argsOf, rawOf, dv, dvL, owns, ownsL, flat, flatL, lkeep, seqQ, blockQ, initS, List.drop_succ_cons, List.drop_zero, List.take_succ_cons, List.take_zero, List.getD_cons_zero, List.getD_cons_succ, List.length_cons, List.length_nil, List.set_cons_zero, List.set_cons_succ, List.map_cons, List.map_nil, List.all_cons, List.all_nil, List.elem_cons, List.elem_nil, Option.getD_some, Option.getD_none, Option.bind_some, Option.isNone_none, reduceIte, reduceCtorEq, Nat.reduceEqDiff, Nat.reduceAdd, Nat.reduceLeDiff, Nat.zero_add, Nat.add_zero, Nat.reduceBEq, Bool.and_self, Bool.and_true, Bool.true_and, Bool.or_self, Bool.or_false, Bool.false_or, Bool.or_true, Bool.true_or, true_and, and_true, and_self, implies_true, forall_const, Bool.false_eq_true, id_eq, retQ, resOf, resV, Option.some.injEq, exists_eq_left', AV.d.injEq, D.v.injEq, Value.bool.injEq, imp_self, bldF, bldS, toVals, eqLs, Option.map_some, imp_false, not_true_eq_false, not_false_eq_true, List.append_nil, List.cons_append, List.nil_append, Option.toList_some, Option.toList_none, loopQ_exit, loopQ_ret, subS, subO, Bool.bne_false, Bool.bne_true, elemsOf, bslD, bslS, lputs, List.headD_cons, sealS, sealO, sealV, sealL, midQ_ret, midQ_exit, sealsS, sealsO, Bool.true_bne, Bool.false_bne, bne_self_eq_false, Int.reduceToNat, oSl, resR, argsN, dvN]
  all_goals try first
    | omega
    | (with_reducible rfl)
    | (show Value.int _ 0 = _; rfl)
    | (simp only [List.length_append, List.length_cons, List.length_nil]; omega)
    | (simp only [List.length_append, List.length_cons, List.length_nil, List.map_append, List.map_cons, List.map_nil]; done)
    | exact count64 he.2.2.2 (by omega)
    | (rw [dn_none hc]; rfl)
    | (simp only [g2]; rfl)
    | (grind [downL])
  all_goals trace_state
end Go.Proofs.YtokfackbnnkbnaaGreatDoor

