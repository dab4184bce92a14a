/- The law SolveRaw: whatever the input, if what it reads is of bulk at most 1048576, it returns true and changes nothing. Printed by a program of this project (wip/mq). -/
import Derived.Test.YtiknbnkngmfdgaaAwakes
import Derived.Test.YtiknbnkngmfdgaaSweep
import Derived.Test.YtiknbnkngmfdgaaArgs
namespace Go.Proofs.Ytiknbnkngmfdgaa
open Go Mq Go.ChangeShapes Go.WideShapes Go.ChangeAt Go.RowKit
/-! maquette/maquettelaw16.SolveRaw -/
def f6r0 : List PG := [.u (.bx 3 (.t 0)), .u (.mv 6 (.k (.bool false)))]
def f6r1 : List PG := [.uc 11 22 [], .u (.no 12 (.t 11))]
def f6r2 : List PG := [.u (.mv 6 (.k (.bool false)))]
abbrev f6p0 : PC := .seq (.reg f6r2) (.ret)
abbrev f6p1 : PC := .cond (.t 12) (f6p0) (.skip)
def f6r3 : List PG := [.u (.ld 14 3 true (.t 3)), .uc 15 23 [.t 14], .u (.mv 13 (.t 15)), .u (.ext 16 (.t 13) 0), .u (.ext 17 (.t 13) 1), .u (.mv 7 (.t 16)), .u (.mv 8 (.t 17))]
def f6r4 : List PG := [.u (.ld 18 3 true (.t 3)), .uc 19 21 [.t 18], .u (.no 20 (.t 19)), .u (.mv 21 (.t 20)), .g 21 true (.mv 22 (.t 8)), .g 21 true (.mv 23 (.t 22)), .g 23 false (.mv 24 (.t 7)), .g 23 false (.len 25 (.t 24)), .g 23 false (.beq 26 true false (.t 25) (.k (.int .i64 0))), .g 21 true (.pick 27 (.t 23) (.k (.bool true)) (.t 26)), .u (.pick 28 (.t 21) (.t 27) (.k (.bool false)))]
def f6r5 : List PG := [.u (.mv 6 (.k (.bool false)))]
abbrev f6p2 : PC := .seq (.reg f6r5) (.ret)
abbrev f6p3 : PC := .cond (.t 28) (f6p2) (.skip)
def f6r6 : List PG := [.u (.ld 30 3 true (.t 3)), .u (.mv 31 (.t 1)), .u (.mv 32 (.t 2)), .u (.bo 33 .rem (.t 32) (.k (.int .i8 9))), .u (.cv 34 .i64 (.t 33)), .uc 35 24 [.t 30, .t 31, .t 34], .u (.mv 29 (.t 35)), .u (.ext 36 (.t 29) 0), .u (.ext 37 (.t 29) 1), .u (.mv 9 (.t 36)), .u (.mv 10 (.t 37))]
def f6r7 : List PG := [.u (.ld 38 3 true (.t 3)), .u (.mv 39 (.t 1)), .uc 40 25 [.t 38, .t 39], .u (.len 41 (.t 40)), .u (.mv 42 (.t 1)), .u (.len 43 (.t 42)), .u (.beq 44 false false (.t 41) (.t 43)), .u (.mv 45 (.t 44)), .g 45 true (.mv 46 (.t 9)), .g 45 true (.len 47 (.t 46)), .g 45 true (.mv 48 (.t 1)), .g 45 true (.len 49 (.t 48)), .g 45 true (.beq 50 false false (.t 47) (.t 49)), .u (.pick 51 (.t 45) (.t 50) (.k (.bool false))), .u (.mv 52 (.t 51)), .g 52 true (.mv 53 (.t 8)), .g 52 true (.no 54 (.t 53)), .g 52 true (.mv 55 (.t 54)), .g 55 false (.ld 56 3 true (.t 3)), .g 55 false (.mv 57 (.t 7)), .gc 55 false 58 19 [.t 56, .t 57], .g 52 true (.pick 59 (.t 55) (.k (.bool true)) (.t 58)), .u (.pick 60 (.t 52) (.t 59) (.k (.bool false))), .u (.mv 6 (.t 60))]
abbrev f6p4 : PC := .seq (.reg f6r7) (.ret)
abbrev f6p5 : PC := .seq (.reg f6r6) (f6p4)
abbrev f6p6 : PC := .seq (.seq (.reg f6r4) (f6p3)) (f6p5)
abbrev f6p7 : PC := .seq (.reg f6r3) (f6p6)
abbrev f6p8 : PC := .seq (.seq (.reg f6r1) (f6p1)) (f6p7)
abbrev f6pc : PC := .seq (.reg f6r0) (f6p8)
def f6k : List Nat := [0, 1, 2, 3, 6, 7, 8, 9, 12, 28]
theorem f6c : Try.f6.body.bind (cC te Try.f6.ntmps) = some f6pc := by kernel_rfl
set_option maxRecDepth 20000
set_option maxHeartbeats 4000000
set_option linter.unusedSimpArgs false
set_option linter.unusedVariables false

theorem rem9 {m : Int} (h : -128 ≤ m ∧ m ≤ 127) : IntKind.i64.wrap (m.tmod 9) ≤ 1000 := by
  have h1 : m.tmod 9 < 9 := Int.tmod_lt_of_pos m (by decide)
  have h2 : -9 < m.tmod 9 := by
    have := Int.tmod_lt_of_pos (-m) (show (0 : Int) < 9 by decide)
    rw [Int.neg_tmod] at this
    omega
  rw [wrapI64 _ (by omega) (by omega)]
  omega
theorem sraw_none (n : Net) (hn : n.small) (l : List Attr) (hl : l.length ≤ 1048576) (m : Int) (hb : -128 ≤ m ∧ m ≤ 127) (hg : n.greedy = none) : FnS Try.prog 6 [n.av, .d (.sl 4 (l.map Attr.row)), .d (.v (.int .i8 m))] (.d (.v (.bool true))) := by
  have hm : maxLen = 9223372036854775807 := rfl
  have hG : FnS Try.prog 23 [n.av] (.tp [.d (.sl 4 []), .d (.v (.bool false))]) := by have := greedy_fn n hn; rwa [hg] at this
  have hI : FnS Try.prog 19 [n.av, .d (.sl 4 [])] (.d (.v (.bool (n.isV [])))) := is_fn n hn [] (by decide)
  refine fn_of teok Try.func6 (by kernel_rfl) f6c f6k [.tmp 6] rfl (by show 3 ≤ 61; omega) ?_
  repeat' first
  | (exact absurd hc (by decide))
  | with_reducible refine awp_seq ?_
  | with_reducible refine awp_block ?_
  | with_reducible refine awp_reg ?_
  | with_reducible refine awp_regD ?_
  | with_reducible refine awp_ret ?_
  | with_reducible refine awp_skip ?_
  | with_reducible refine awp_exit ?_
  | with_reducible refine normQ_of ?_
  | with_reducible refine wkE_of ?_
  | with_reducible refine midQ_of (Wk_sub rfl rfl ?_ ?_)
  | with_reducible refine runD_nil ?_
  | with_reducible refine runD_cons ?_
  | with_reducible refine runF_cons ?_
  | with_reducible refine runF_nil ?_
  | with_reducible refine KF_of ?_
  | with_reducible refine chkQ_of rfl ?_
  | with_reducible refine awp_cond (by simp only [evX, lget, Option.getD_some, reduceIte, Nat.reduceEqDiff]; rfl) (fun hc => ?_) (fun hc => ?_)
  | with_reducible refine CallU_of (f := 22) (awake16_fn) (by first | exact Or.inr rfl | exact Or.inl rfl) ?_
  | with_reducible refine CallC_of (f := 22) (fun _ => awake16_fn) (by first | exact Or.inr rfl | exact Or.inl rfl) ?_
  | with_reducible refine CallU_of (f := 23) (hG) (by first | exact Or.inr rfl | exact Or.inl rfl) ?_
  | with_reducible refine CallC_of (f := 23) (fun _ => hG) (by first | exact Or.inr rfl | exact Or.inl rfl) ?_
  | with_reducible refine CallU_of (f := 21) (may_fn n hn.ok) (by first | exact Or.inr rfl | exact Or.inl rfl) ?_
  | with_reducible refine CallC_of (f := 21) (fun _ => may_fn n hn.ok) (by first | exact Or.inr rfl | exact Or.inl rfl) ?_
  | with_reducible refine CallU_of (f := 24) (settle_fn n hn l hl _ (rem9 hb)) (by first | exact Or.inr rfl | exact Or.inl rfl) ?_
  | with_reducible refine CallC_of (f := 24) (fun _ => settle_fn n hn l hl _ (rem9 hb)) (by first | exact Or.inr rfl | exact Or.inl rfl) ?_
  | with_reducible refine CallU_of (f := 25) (sweep_fn n hn l hl) (by first | exact Or.inr rfl | exact Or.inl rfl) ?_
  | with_reducible refine CallC_of (f := 25) (fun _ => sweep_fn n hn l hl) (by first | exact Or.inr rfl | exact Or.inl rfl) ?_
  | with_reducible refine CallU_of (f := 19) (hI) (by first | exact Or.inr rfl | exact Or.inl rfl) ?_
  | with_reducible refine CallC_of (f := 19) (fun _ => hI) (by first | exact Or.inr rfl | exact Or.inl rfl) ?_
  | (with_reducible assumption)
  | with_reducible refine fun (hG : okL _) => ?_
  | (with_reducible refine fun (hT : (_ : Bool) = _) => ?_)
  | (with_reducible first | exact hG.2 | exact hG.2.2 | exact hG.2.2.2 | exact hG.2.2.2.2)
  | with_reducible refine okL_mk ?_ ?_
  | with_reducible refine And.intro ?_ ?_
  | simp only [f6r0, f6r1, f6r2, f6r3, f6r4, f6r5, f6r6, f6r7, f6k, List.length_map, List.getElem?_cons_zero, List.getElem?_cons_succ, sweep_len, settle_len, runG_nil, runG_u, runG_g, runG_ucS, runG_gcS, stp, evs, evX, lget, lput, strip, putO, PO.dst, updO, okR, cells, splice, AV.cell, toD, toDs, binV, sameK, pickV, guardOf, okL_nil, sides, argsOf, rawOf, dv, dvL, owns, ownsL, flat, flatL, lkeep, seqQ, blockQ, initS, List.drop_succ_cons, List.drop_zero, List.take_succ_cons, List.take_zero, List.getD_cons_zero, List.getD_cons_succ, List.length_cons, List.length_nil, List.set_cons_zero, List.set_cons_succ, List.map_cons, List.map_nil, List.all_cons, List.all_nil, List.elem_cons, List.elem_nil, Option.getD_some, Option.getD_none, Option.bind_some, Option.isNone_none, reduceIte, reduceCtorEq, Nat.reduceEqDiff, Nat.reduceAdd, Nat.reduceLeDiff, Nat.zero_add, Nat.add_zero, Nat.reduceBEq, Bool.and_self, Bool.and_true, Bool.true_and, Bool.or_self, Bool.or_false, Bool.false_or, Bool.or_true, Bool.true_or, true_and, and_true, and_self, implies_true, forall_const, Bool.false_eq_true, id_eq, retQ, resOf, resV, Option.some.injEq, exists_eq_left', AV.d.injEq, D.v.injEq, Value.bool.injEq, imp_self, bldF, bldS, toVals, eqLs, Option.map_some, imp_false, not_true_eq_false, not_false_eq_true, foot, wrs, nm, nmL, PG.reads, PG.dst, PO.reads, X.sl, sls, slB, List.append_nil, List.cons_append, List.nil_append, Option.toList_some, Option.toList_none, loopQ_exit, loopQ_ret, subS, subO, Bool.bne_false, Bool.bne_true, elemsOf, bslD, bslS, mentries, isAgV, asA, lputs, mgetD_set, mcmp_set, mput_set, List.headD_cons, sealS, sealO, sealV, sealL, mput_nil, mcmp_nil, midQ_ret, midQ_exit, sealsS, sealsO, runW_nil, runW_cons, Bool.true_bne, Bool.false_bne, bne_self_eq_false, Int.reduceToNat, bndV, oSl]
  all_goals try first
    | decide
    | omega
    | (simp at hc; done)
    | (simp; done)
  all_goals trace_state
theorem sraw_some (n : Net) (hn : n.small) (l : List Attr) (hl : l.length ≤ 1048576) (m : Int) (hb : -128 ≤ m ∧ m ≤ 127) (x : List Attr) (hg : n.greedy = some x) : FnS Try.prog 6 [n.av, .d (.sl 4 (l.map Attr.row)), .d (.v (.int .i8 m))] (.d (.v (.bool true))) := by
  have hm : maxLen = 9223372036854775807 := rfl
  have hG : FnS Try.prog 23 [n.av] (.tp [.d (.sl 4 (x.map Attr.row)), .d (.v (.bool true))]) := by have := greedy_fn n hn; rwa [hg] at this
  have hst := greedy_stable hg
  have hxl : x.length ≤ 1048576 := by
    have h2 := hn.origin
    unfold Net.isV at hst
    split at hst
    · cases hst
    · omega
  have hmay : n.may = true := by
    unfold Net.greedy at hg
    split at hg
    · cases hg
    · rename_i hc; simp at hc; exact hc.1
  refine fn_of teok Try.func6 (by kernel_rfl) f6c f6k [.tmp 6] rfl (by show 3 ≤ 61; omega) ?_
  repeat' first
  | (exact absurd hc (by decide))
  | with_reducible refine awp_seq ?_
  | with_reducible refine awp_block ?_
  | with_reducible refine awp_reg ?_
  | with_reducible refine awp_regD ?_
  | with_reducible refine awp_ret ?_
  | with_reducible refine awp_skip ?_
  | with_reducible refine awp_exit ?_
  | with_reducible refine normQ_of ?_
  | with_reducible refine wkE_of ?_
  | with_reducible refine midQ_of (Wk_sub rfl rfl ?_ ?_)
  | with_reducible refine runD_nil ?_
  | with_reducible refine runD_cons ?_
  | with_reducible refine runF_cons ?_
  | with_reducible refine runF_nil ?_
  | with_reducible refine KF_of ?_
  | with_reducible refine chkQ_of rfl ?_
  | with_reducible refine awp_cond (by simp only [evX, lget, Option.getD_some, reduceIte, Nat.reduceEqDiff]; rfl) (fun hc => ?_) (fun hc => ?_)
  | with_reducible refine CallU_of (f := 22) (awake16_fn) (by first | exact Or.inr rfl | exact Or.inl rfl) ?_
  | with_reducible refine CallC_of (f := 22) (fun _ => awake16_fn) (by first | exact Or.inr rfl | exact Or.inl rfl) ?_
  | with_reducible refine CallU_of (f := 23) (hG) (by first | exact Or.inr rfl | exact Or.inl rfl) ?_
  | with_reducible refine CallC_of (f := 23) (fun _ => hG) (by first | exact Or.inr rfl | exact Or.inl rfl) ?_
  | with_reducible refine CallU_of (f := 21) (may_fn n hn.ok) (by first | exact Or.inr rfl | exact Or.inl rfl) ?_
  | with_reducible refine CallC_of (f := 21) (fun _ => may_fn n hn.ok) (by first | exact Or.inr rfl | exact Or.inl rfl) ?_
  | with_reducible refine CallU_of (f := 24) (settle_fn n hn l hl _ (rem9 hb)) (by first | exact Or.inr rfl | exact Or.inl rfl) ?_
  | with_reducible refine CallC_of (f := 24) (fun _ => settle_fn n hn l hl _ (rem9 hb)) (by first | exact Or.inr rfl | exact Or.inl rfl) ?_
  | with_reducible refine CallU_of (f := 25) (sweep_fn n hn l hl) (by first | exact Or.inr rfl | exact Or.inl rfl) ?_
  | with_reducible refine CallC_of (f := 25) (fun _ => sweep_fn n hn l hl) (by first | exact Or.inr rfl | exact Or.inl rfl) ?_
  | with_reducible refine CallU_of (f := 19) (is_fn n hn x hxl) (by first | exact Or.inr rfl | exact Or.inl rfl) ?_
  | with_reducible refine CallC_of (f := 19) (fun _ => is_fn n hn x hxl) (by first | exact Or.inr rfl | exact Or.inl rfl) ?_
  | (with_reducible assumption)
  | with_reducible refine fun (hG : okL _) => ?_
  | (with_reducible refine fun (hT : (_ : Bool) = _) => ?_)
  | (with_reducible first | exact hG.2 | exact hG.2.2 | exact hG.2.2.2 | exact hG.2.2.2.2)
  | with_reducible refine okL_mk ?_ ?_
  | with_reducible refine And.intro ?_ ?_
  | simp only [f6r0, f6r1, f6r2, f6r3, f6r4, f6r5, f6r6, f6r7, f6k, List.length_map, List.getElem?_cons_zero, List.getElem?_cons_succ, sweep_len, settle_len, runG_nil, runG_u, runG_g, runG_ucS, runG_gcS, stp, evs, evX, lget, lput, strip, putO, PO.dst, updO, okR, cells, splice, AV.cell, toD, toDs, binV, sameK, pickV, guardOf, okL_nil, sides, argsOf, rawOf, dv, dvL, owns, ownsL, flat, flatL, lkeep, seqQ, blockQ, initS, List.drop_succ_cons, List.drop_zero, List.take_succ_cons, List.take_zero, List.getD_cons_zero, List.getD_cons_succ, List.length_cons, List.length_nil, List.set_cons_zero, List.set_cons_succ, List.map_cons, List.map_nil, List.all_cons, List.all_nil, List.elem_cons, List.elem_nil, Option.getD_some, Option.getD_none, Option.bind_some, Option.isNone_none, reduceIte, reduceCtorEq, Nat.reduceEqDiff, Nat.reduceAdd, Nat.reduceLeDiff, Nat.zero_add, Nat.add_zero, Nat.reduceBEq, Bool.and_self, Bool.and_true, Bool.true_and, Bool.or_self, Bool.or_false, Bool.false_or, Bool.or_true, Bool.true_or, true_and, and_true, and_self, implies_true, forall_const, Bool.false_eq_true, id_eq, retQ, resOf, resV, Option.some.injEq, exists_eq_left', AV.d.injEq, D.v.injEq, Value.bool.injEq, imp_self, bldF, bldS, toVals, eqLs, Option.map_some, imp_false, not_true_eq_false, not_false_eq_true, foot, wrs, nm, nmL, PG.reads, PG.dst, PO.reads, X.sl, sls, slB, List.append_nil, List.cons_append, List.nil_append, Option.toList_some, Option.toList_none, loopQ_exit, loopQ_ret, subS, subO, Bool.bne_false, Bool.bne_true, elemsOf, bslD, bslS, mentries, isAgV, asA, lputs, mgetD_set, mcmp_set, mput_set, List.headD_cons, sealS, sealO, sealV, sealL, mput_nil, mcmp_nil, midQ_ret, midQ_exit, sealsS, sealsO, runW_nil, runW_cons, Bool.true_bne, Bool.false_bne, bne_self_eq_false, Int.reduceToNat, bndV, oSl]
  all_goals try first
    | decide
    | omega
    | (simp [hmay] at hc; done)
    | (simp [hst]; done)
  all_goals trace_state
theorem sraw_as (av : List AV) (h : dArgs te 8 [35, 23, 27] av) (hN : szAs av ≤ 1048576) : FnS Try.prog 6 av (.d (.v (.bool true))) := by
  obtain ⟨x, _, rfl, hx, y, _, rfl, hy, z, _, rfl, hz, rfl⟩ := h
  obtain ⟨n, rfl⟩ := net_of (n := 0) hx
  obtain ⟨l, rfl, _⟩ := attrs_of (n := 5) hy
  simp only [dT, te27] at hz
  obtain ⟨m, rfl, hm1, hm2⟩ := hz
  have hN : szAV n.av + (szLL (l.map Attr.row) + 1 + (1 + 0)) ≤ 1048576 := hN
  have h2 := szLL_map Attr.row (fun a => by simp) l
  have hn := Net.small_of (n := n) (by omega)
  have hb : -128 ≤ m ∧ m ≤ 127 := ⟨hm1, hm2⟩
  cases hg : n.greedy with
  | none => exact sraw_none n hn l (by omega) m hb hg
  | some x => exact sraw_some n hn l (by omega) m hb x hg
theorem isBulk {H : Type} : Bulk (H := H) Rows.uptoBulk Rows.uptoBulkAll where
  lit l := by cases l <;> simp [Rows.uptoBulk]
  str b := by simp [Rows.uptoBulk]
  nil := by simp [Rows.uptoBulk]
  slice l s := by simp [Rows.uptoBulk]
  agg l := by simp [Rows.uptoBulk]
  nilA := by simp [Rows.uptoBulkAll]
  cons x r := by simp [Rows.uptoBulkAll]

set_option maxRecDepth 100000 in
theorem solveRaw_lifted (os : Os) (started : os.Started) (H : Type) (enc : TypeId × Value → H) (F0 : Stop.Interp) :
    ReturnsInHanded {} Try.checked os 6 .any ((Rows.OpenSpec.upto Rows.solveRawSpec).pre6 enc Try.prog Try.f6 Rows.solveRawUptoRow.domain false) (((Rows.OpenSpec.upto Rows.solveRawSpec).at F0).post enc Try.prog Try.f6 false true false false) := by
  refine returnsInHanded_of_cond (C := Try.checked) (s := Rows.OpenSpec.upto Rows.solveRawSpec) (k := Rows.uptoSmall) rfl own started (by kernel_rfl) Try.func6
    (OpenSpec.witness (enc := enc) (C := Try.checked) (s := Rows.OpenSpec.upto Rows.solveRawSpec) (k := Rows.uptoSmall) rfl false ⟨#[], #[.agg #[.slice none 0 0, .slice none 0 0, .slice none 0 0], .slice none 0 0, .int .i8 0], []⟩ 8 (by kernel_rfl) (by kernel_rfl) (by kernel_rfl)
      (x := ([.agg [.nil, .nil, .nil], .nil, .lit (.int .i8 0)], [], [])) (by kernel_rfl) (by kernel_rfl) (by kernel_rfl)) ?_
  intro W base args ds gs before hval hW hcnd hk _
  have hp : Try.f6.params.toList = [35, 23, 27] := by kernel_rfl
  refine law_callsU (n := 8) (b := 4) (N := 1048576) isBulk laidOut (by rw [hp]; exact List.forall_mem_cons.2 ⟨⟨by kernel_rfl, of_decide_eq_true (by kernel_rfl)⟩, List.forall_mem_cons.2 ⟨⟨by kernel_rfl, of_decide_eq_true (by kernel_rfl)⟩, List.forall_mem_cons.2 ⟨⟨by kernel_rfl, of_decide_eq_true (by kernel_rfl)⟩, (by simp)⟩⟩⟩) (by rw [hp]; exact List.forall_mem_cons.2 ⟨by kernel_rfl, List.forall_mem_cons.2 ⟨by kernel_rfl, List.forall_mem_cons.2 ⟨by kernel_rfl, (by simp)⟩⟩⟩) rfl (by kernel_rfl) (by kernel_rfl) (fun ds hd => ?_) hval hW (of_decide_eq_true hk) (fun av h hN => sraw_as av (argsT_d teok _ _ _ (by rw [hp]; exact List.forall_mem_cons.2 ⟨rfl, List.forall_mem_cons.2 ⟨rfl, List.forall_mem_cons.2 ⟨rfl, (by simp)⟩⟩⟩) h |> (hp ▸ ·)) hN)
  have hd : ds.length = 3 := hd
  match ds, hd with
  | [_, _, _], _ => rfl
theorem solveRaw_holds : Rows.SolveRawUptoSaid :=
  OpenClaim.holds_of_cond 6 Try.f6 rfl rfl rfl rfl rfl rfl rfl ⟨rfl, rfl, rfl, rfl, rfl⟩ rfl rfl rfl rfl rfl (by kernel_rfl) Try.func6 (by kernel_rfl)
    (of_decide_eq_true (by kernel_rfl)) (by unfold Func.isWrapper; first | (rw [if_pos (by decide +kernel)]; kernel_rfl) | (rw [if_neg (by decide +kernel)]; exact ⟨rfl, rfl⟩))
    (fun os started H enc _ F0 => solveRaw_lifted os started H enc F0)
end Go.Proofs.Ytiknbnkngmfdgaa
