/- The law AuditSelf: its walk. Printed by a program of this project (wip/mq). -/
import Derived.Test.YtipekfhpcjcabaaDoorQself
import Derived.Test.YtipekfhpcjcabaaDoorAis
set_option linter.unusedVariables false
set_option linter.unusedSimpArgs false
namespace Go.Proofs.YtipekfhpcjcabaaDoor
open Go Mq Go.ChangeShapes Go.WideShapes Go.ChangeAt Go.RowKit
/-! maquette/maquettelaw19.awake -/
def f18r0 : List PG := [.u (.mv 0 (.k (.bool false)))]
def f18r1 : List PG := [.u (.bsl 7 4 1 [.k (.bool true), .k (.bool false), .k (.bool false)]), .u (.bsl 8 3 1 [.k (.int .i64 (-1)), .k (.int .i64 (-1)), .k (.int .i64 (-1))]), .u (.bld 9 [.d (.v (.int .i64 0)), .d (.v (.int .i64 0)), .nl 10, .nl 10] [((0, 1), .k (.int .i64 1)), ((1, 1), .k (.int .i64 2))]), .u (.bld 10 [.d (.v (.int .i64 0)), .d (.v (.int .i64 0)), .nl 10, .nl 10] [((0, 1), .k (.int .i64 2)), ((1, 1), .k (.int .i64 2))]), .u (.bsl 11 71 4 [.t 9, .t 10]), .u (.bld 12 [.d (.v (.int .i64 0)), .d (.v (.int .i64 0)), .nl 10, .nl 10] [((0, 1), .k (.int .i64 0)), ((1, 1), .k (.int .i64 2))]), .u (.bsl 13 71 4 [.t 12]), .u (.bld 14 [.d (.v (.int .i64 0)), .d (.v (.int .i64 0)), .nl 10, .nl 10] [((0, 1), .k (.int .i64 0)), ((1, 1), .k (.int .i64 2))]), .u (.bsl 15 71 4 [.t 14]), .u (.bsl 16 72 1 [.t 11, .t 13, .t 15]), .u (.bld 17 [.nl 1, .nl 1, .nl 1] [((0, 1), .t 7), ((1, 1), .t 8), ((2, 1), .t 16)]), .u (.al 1 [.nl 1, .nl 1, .nl 1]), .u (.st 3 (.t 1) (.t 17))]
def f18r2 : List PG := [.u (.bsl 18 3 1 [.k (.int .i64 0), .k (.int .i64 1), .k (.int .i64 1)]), .u (.mv 2 (.t 18))]
def f18r3 : List PG := [.u (.ld 20 3 true (.t 1)), .u (.mv 21 (.t 2)), .uc 22 11 [.t 20, .t 21], .u (.mv 19 (.t 22)), .u (.ext 23 (.t 19) 0), .u (.ext 24 (.t 19) 1), .u (.al 3 [.nl 1, .nl 1, .nl 1]), .u (.st 3 (.t 3) (.t 23)), .u (.mv 4 (.t 24))]
def f18r4 : List PG := [.u (.ld 25 3 true (.t 3)), .u (.al 5 [.nl 1, .nl 1, .nl 1]), .u (.st 3 (.t 5) (.t 25))]
def f18r5 : List PG := [.u (.bsl 26 4 1 [.k (.bool true), .k (.bool true)]), .u (.fa 27 0 (.t 5)), .u (.st 1 (.t 27) (.t 26))]
def f18r6 : List PG := [.u (.ld 28 3 true (.t 1)), .u (.ld 29 3 true (.t 5)), .u (.mv 30 (.t 2)), .uc 31 19 [.t 28, .t 29, .t 30], .u (.mv 6 (.t 31))]
def f18r7 : List PG := [.u (.mv 32 (.t 6)), .u (.beqn 33 false (.t 32))]
def f18r8 : List PG := [.u (.mv 0 (.k (.bool false)))]
abbrev f18p0 : PC := .seq (.reg f18r8) (.ret)
abbrev f18p1 : PC := .cond (.t 33) (f18p0) (.skip)
def f18r9 : List PG := [.u (.mv 34 (.t 4)), .u (.beqn 35 false (.t 34)), .u (.mv 36 (.t 35)), .g 36 true (.ld 37 3 true (.t 1)), .g 36 true (.ld 38 3 true (.t 3)), .g 36 true (.mv 39 (.t 2)), .gc 36 true 40 19 [.t 37, .t 38, .t 39], .g 36 true (.beqn 41 false (.t 40)), .u (.pick 42 (.t 36) (.t 41) (.k (.bool false))), .u (.mv 43 (.t 42)), .g 43 true (.mv 44 (.t 6)), .gc 43 true 45 13 [.t 44], .g 43 true (.beq 46 false false (.t 45) (.k (.int .i64 9))), .u (.pick 47 (.t 43) (.t 46) (.k (.bool false))), .u (.mv 0 (.t 47))]
abbrev f18p2 : PC := .seq (.reg f18r9) (.ret)
abbrev f18p3 : PC := .seq (.seq (.reg f18r7) (f18p1)) (f18p2)
abbrev f18p4 : PC := .seq (.reg f18r6) (f18p3)
abbrev f18p5 : PC := .seq (.reg f18r5) (f18p4)
abbrev f18p6 : PC := .seq (.reg f18r4) (f18p5)
abbrev f18p7 : PC := .seq (.reg f18r3) (f18p6)
abbrev f18p8 : PC := .seq (.reg f18r2) (f18p7)
abbrev f18p9 : PC := .seq (.reg f18r1) (f18p8)
abbrev f18pc : PC := .seq (.reg f18r0) (f18p9)
def f18k : List Nat := [0, 1, 2, 3, 4, 5, 6, 33]
theorem f18c : Tryd.f18.body.bind (cC te Tryd.f18.ntmps) = some f18pc := by kernel_rfl
/-! maquette/maquettelaw19.AuditSelf -/
def f6r0 : List PG := [.u (.mv 6 (.k (.bool false)))]
def f6r1 : List PG := [.uc 11 18 [], .u (.no 12 (.t 11))]
def f6r2 : List PG := [.u (.mv 6 (.k (.bool false)))]
abbrev f6p0 : PC := .seq (.reg f6r2) (.ret)
abbrev f6p1 : PC := .cond (.t 12) (f6p0) (.skip)
def f6r3 : List PG := [.u (.mv 13 (.t 0)), .u (.mv 14 (.t 1)), .u (.mv 15 (.t 2)), .uc 16 10 [.t 13, .t 14, .t 15], .u (.al 7 [.nl 1, .nl 1, .nl 1]), .u (.st 3 (.t 7) (.t 16))]
def f6r4 : List PG := [.u (.mv 8 (.nl 1))]
def f6r5 : List PG := [.u (.fa 17 0 (.t 7)), .u (.ld 18 1 false (.t 17)), .u (.len 19 (.t 18)), .u (.mv 20 (.k (.int .i64 0)))]
def f6r6 : List PG := [.u (.bo 21 .lss (.t 20) (.t 19))]
def f6r7 : List PG := [.u (.mv 22 (.t 20)), .u (.mv 9 (.t 22))]
def f6r8 : List PG := [.u (.mv 23 (.t 8)), .u (.mv 24 (.t 9)), .u (.bsl 25 3 1 [.t 24]), .u (.app 26 3 1 8 (.t 23) (.t 25)), .u (.mv 8 (.t 26))]
def f6r9 : List PG := [.u (.fa 27 1 (.t 7)), .u (.ld 28 1 false (.t 27)), .u (.mv 29 (.t 9)), .u (.fa 30 1 (.t 7)), .u (.ld 31 1 false (.t 30)), .u (.mv 32 (.t 9)), .u (.ia 33 1 (.t 31) (.t 32)), .u (.ld 34 1 false (.t 33)), .u (.mx 35 false (.k (.int .i64 (-1))) (.t 34)), .u (.ia 36 1 (.t 28) (.t 29)), .u (.st 1 (.t 36) (.t 35))]
abbrev f6p2 : PC := .seq (.reg f6r8) (.regD f6r9 [])
def f6r10 : List PG := [.u (.bo 37 .add (.t 20) (.k (.int .i64 1))), .u (.mv 20 (.t 37))]
abbrev f6p3 : PC := .seq (.block 1 (.seq (.reg f6r7) (f6p2))) (.reg f6r10)
abbrev f6p4 : PC := .seq (.cond (.t 21) (.skip) (.exit 0)) (f6p3)
abbrev f6p5 : PC := .seq (.reg f6r6) (f6p4)
abbrev f6p6 : PC := .block 0 (.loop (f6p5))
def f6r11 : List PG := [.u (.ld 38 3 true (.t 7)), .u (.ld 39 3 true (.t 7)), .u (.mv 40 (.t 8)), .uc 41 19 [.t 38, .t 39, .t 40], .u (.mv 10 (.t 41))]
def f6r12 : List PG := [.u (.ld 42 3 true (.t 7)), .uc 43 12 [.t 42], .u (.no 44 (.t 43))]
def f6r13 : List PG := [.u (.mv 45 (.t 10)), .uc 46 13 [.t 45], .u (.beq 47 false false (.t 46) (.k (.int .i64 10))), .u (.mv 6 (.t 47))]
abbrev f6p7 : PC := .seq (.reg f6r13) (.ret)
abbrev f6p8 : PC := .cond (.t 44) (f6p7) (.skip)
def f6r14 : List PG := [.u (.mv 48 (.t 10)), .u (.beqn 49 false (.t 48)), .u (.mv 6 (.t 49))]
abbrev f6p9 : PC := .seq (.reg f6r14) (.ret)
abbrev f6p10 : PC := .seq (.seq (.reg f6r12) (f6p8)) (f6p9)
abbrev f6p11 : PC := .seq (.reg f6r11) (f6p10)
abbrev f6p12 : PC := .seq (.seq (.reg f6r5) (f6p6)) (f6p11)
abbrev f6p13 : PC := .seq (.reg f6r4) (f6p12)
abbrev f6p14 : PC := .seq (.reg f6r3) (f6p13)
abbrev f6p15 : PC := .seq (.seq (.reg f6r1) (f6p1)) (f6p14)
abbrev f6pc : PC := .seq (.reg f6r0) (f6p15)
def f6k : List Nat := [0, 1, 2, 6, 7, 8, 9, 10, 12, 19, 20, 21, 44]
theorem f6c : Tryd.f6.body.bind (cC te Tryd.f6.ntmps) = some f6pc := by kernel_rfl
set_option maxRecDepth 20000
set_option maxHeartbeats 4000000
set_option linter.unusedSimpArgs false
set_option linter.unusedVariables false

theorem net0_ok : net0.ok := by
  have hm : maxLen = 9223372036854775807 := rfl
  exact ⟨by simp [net0, hm], by simp [net0, hm], by simp [net0, hm], by simp [net0, hm], by
    intro es hes e he
    simp only [net0, List.mem_cons, List.not_mem_nil, or_false] at hes
    rcases hes with rfl | rfl | rfl <;> simp only [List.mem_cons, List.not_mem_nil, or_false] at he <;> (rcases he with rfl | rfl <;> exact ⟨by simp [hm], by simp [hm]⟩) ⟩
theorem small_ok (o : List Bool) (ho : o.length = 2) : (⟨o, [-1, -1], [[⟨1, 2, [], []⟩], [⟨0, 2, [], []⟩]]⟩ : Net).ok := by
  have hm : maxLen = 9223372036854775807 := rfl
  exact ⟨by simp [hm, ho], by simp [hm], by simp [hm], by simp [hm], by
    intro es hes e he
    simp only [List.mem_cons, List.not_mem_nil, or_false] at hes
    rcases hes with rfl | rfl <;> simp only [List.mem_cons, List.not_mem_nil, or_false] at he <;> (subst he; exact ⟨by simp [hm], by simp [hm]⟩) ⟩
abbrev NV0 : AV := .ag [.d (.sl 1 [[.v (.bool true)], [.v (.bool false)], [.v (.bool false)]]), .d (.sl 1 [[.v (.int .i64 (-1))], [.v (.int .i64 (-1))], [.v (.int .i64 (-1))]]), .d (.sl 1 [[.sl 4 [[.v (.int .i64 1), .v (.int .i64 2), .sl 10 [], .sl 10 []], [.v (.int .i64 2), .v (.int .i64 2), .sl 10 [], .sl 10 []]]], [.sl 4 [[.v (.int .i64 0), .v (.int .i64 2), .sl 10 [], .sl 10 []]]], [.sl 4 [[.v (.int .i64 0), .v (.int .i64 2), .sl 10 [], .sl 10 []]]]])]
abbrev NVs (a b : Bool) : AV := .ag [.d (.sl 1 [[.v (.bool a)], [.v (.bool b)]]), .d (.sl 1 [[.v (.int .i64 (-1))], [.v (.int .i64 (-1))]]), .d (.sl 1 [[.sl 4 [[.v (.int .i64 1), .v (.int .i64 2), .sl 10 [], .sl 10 []]]], [.sl 4 [[.v (.int .i64 0), .v (.int .i64 2), .sl 10 [], .sl 10 []]]]])]
theorem is_tt : FnS Tryd.prog 19 [NV0, NVs true true, .d (.sl 1 [[.v (.int .i64 0)], [.v (.int .i64 1)], [.v (.int .i64 1)]])] (.d (.v (.iface 37 (.int .i64 9)))) := by
  have h := is_fn net0 _ net0_ok (small_ok [true, true] rfl) [0, 1, 1] (by decide)
  rw [show isCode net0 _ [0, 1, 1] = 9 from by kernel_rfl] at h
  exact h
theorem is_tf : FnS Tryd.prog 19 [NV0, NVs true false, .d (.sl 1 [[.v (.int .i64 0)], [.v (.int .i64 1)], [.v (.int .i64 1)]])] (.d (.v .nilIface)) := by
  have h := is_fn net0 _ net0_ok (small_ok [true, false] rfl) [0, 1, 1] (by decide)
  rw [show isCode net0 _ [0, 1, 1] = 0 from by kernel_rfl] at h
  exact h
theorem awake19_fn : FnS Tryd.prog 18 [] (.d (.v (.bool true))) := by
  refine fn_of teok Tryd.func18 (by kernel_rfl) f18c f18k [.tmp 0] rfl (by show 0 ≤ 48; omega) ?_
  repeat' first
  | (exact absurd hc (by decide))
  | (with_reducible refine awp_cut (l := f18r1) [(9, [11, 13, 15]), (3, [7, 8, 16])] ?_; unfold f18r1)
  | (with_reducible refine awp_cut (l := f18r2) [(1, [18])] ?_; unfold f18r2)
  | (with_reducible refine awp_cut (l := f18r5) [(1, [26])] ?_; unfold f18r5)
  | with_reducible refine awp_seq ?_
  | with_reducible refine awp_block ?_
  | with_reducible refine awp_scope ?_
  | with_reducible refine awp_reg ?_
  | with_reducible refine awp_regD ?_
  | with_reducible refine awp_ret ?_
  | with_reducible refine awp_skip ?_
  | with_reducible refine awp_exit ?_
  | with_reducible refine normQ_of ?_
  | with_reducible refine wkE_of ?_
  | with_reducible refine midQ_of (Wk_sub rfl rfl ?_ ?_)
  | with_reducible refine runD_nil ?_
  | with_reducible refine runD_cons ?_
  | with_reducible refine runF_cons ?_
  | with_reducible refine runF_nil ?_
  | with_reducible refine KF_of ?_
  | with_reducible refine chkQ_of rfl ?_
  | with_reducible refine awp_cond (by simp only [evX, lget, Option.getD_some, reduceIte, Nat.reduceEqDiff]; rfl) (fun hc => ?_) (fun hc => ?_)
  | with_reducible refine CallU_of (f := 11) (quot0) (by first | exact Or.inr (Or.inl rfl) | exact Or.inl rfl) ?_
  | with_reducible refine CallC_of (f := 11) (fun _ => quot0) (by first | exact Or.inr (Or.inl rfl) | exact Or.inl rfl) ?_
  | with_reducible refine CallU_of (f := 19) (is_tt) (by first | exact Or.inr (Or.inl rfl) | exact Or.inl rfl) ?_
  | with_reducible refine CallC_of (f := 19) (fun _ => is_tt) (by first | exact Or.inr (Or.inl rfl) | exact Or.inl rfl) ?_
  | with_reducible refine CallU_of (f := 19) (is_tf) (by first | exact Or.inr (Or.inl rfl) | exact Or.inl rfl) ?_
  | with_reducible refine CallC_of (f := 19) (fun _ => is_tf) (by first | exact Or.inr (Or.inl rfl) | exact Or.inl rfl) ?_
  | with_reducible refine CallU_of (f := 13) (number_hit 9) (by first | exact Or.inr (Or.inl rfl) | exact Or.inl rfl) ?_
  | with_reducible refine CallC_of (f := 13) (fun _ => number_hit 9) (by first | exact Or.inr (Or.inl rfl) | exact Or.inl rfl) ?_
  | (with_reducible assumption)
  | with_reducible refine fun (hG : okL _) => ?_
  | (with_reducible refine fun (hT : (_ : Bool) = _) => ?_)
  | (with_reducible first | exact hG.2 | exact hG.2.2 | exact hG.2.2.2 | exact hG.2.2.2.2)
  | with_reducible refine okL_mk ?_ ?_
  | with_reducible refine And.intro ?_ ?_
  | simp only [f18r0, f18r3, f18r4, f18r6, f18r7, f18r8, f18r9, f18k, te29, List.length_cons, List.getElem?_cons_zero, List.getElem?_cons_succ, runG_nil, runG_u, runG_g, runG_ucS, runG_gcS, runG_uvS, stp, avL, avS, evs, evX, lget, lput, strip, putO, PO.dst, updO, okR, cells, splice, AV.cell, toD, toDs, binV, sameK, pickV, guardOf, okL_nil, sides, argsOf, rawOf, dv, dvL, owns, ownsL, flat, flatL, lkeep, seqQ, blockQ, initS, List.drop_succ_cons, List.drop_zero, List.take_succ_cons, List.take_zero, List.getD_cons_zero, List.getD_cons_succ, List.length_cons, List.length_nil, List.set_cons_zero, List.set_cons_succ, List.map_cons, List.map_nil, List.all_cons, List.all_nil, List.elem_cons, List.elem_nil, Option.getD_some, Option.getD_none, Option.bind_some, Option.isNone_none, reduceIte, reduceCtorEq, Nat.reduceEqDiff, Nat.reduceAdd, Nat.reduceLeDiff, Nat.zero_add, Nat.add_zero, Nat.reduceBEq, Bool.and_self, Bool.and_true, Bool.true_and, Bool.or_self, Bool.or_false, Bool.false_or, Bool.or_true, Bool.true_or, true_and, and_true, and_self, implies_true, forall_const, Bool.false_eq_true, id_eq, retQ, resOf, resV, Option.some.injEq, exists_eq_left', AV.d.injEq, D.v.injEq, Value.bool.injEq, imp_self, bldF, bldS, toVals, eqLs, Option.map_some, imp_false, not_true_eq_false, not_false_eq_true, foot, wrs, nm, nmL, PG.reads, PG.dst, PO.reads, X.sl, sls, slB, List.append_nil, List.cons_append, List.nil_append, Option.toList_some, Option.toList_none, loopQ_exit, loopQ_ret, subS, subO, Bool.bne_false, Bool.bne_true, elemsOf, bslD, bslS, mentries, isAgV, asA, lputs, mgetD_set, mcmp_set, mput_set, List.headD_cons, sealS, sealO, sealV, sealL, mput_nil, mcmp_nil, midQ_ret, midQ_exit, sealsS, sealsO, runW_nil, runW_cons, Bool.true_bne, Bool.false_bne, bne_self_eq_false, Int.reduceToNat, bndV, oSl, resR, runS_nil, runS_gc, ren, renL, renO, sg, gBack, scopeQ_normal, scopeQ_ret, scopeQ_exit, lenB, argsN, dvN]
  all_goals try first | omega | decide | rfl | (simp; done)
  all_goals trace_state
theorem aself_of (o : List Bool) (ho : o.length ≤ maxLen) (st : List Int) (hst : st.length ≤ maxLen) (ws : List (List Wire)) (hws : WsOk ws) (n : Net) (hn : wiresV o st ws = n) (hmay : (selfNet n).may = true) : FnS Tryd.prog 6 [.d (.sl 1 (o.map bD)), .d (.sl 1 (st.map fun x => [D.v (.int .i8 x)])), .d (.sl 1 (ws.map wsD))] (.d (.v (.bool true))) := by
  have hm : maxLen = 9223372036854775807 := rfl
  have hT := wiresV_tiny o st ws
  have hW := wires_fnG o ho st hst ws hws
  rw [hn] at hT hW
  have t1 := hT.origin
  have t2 := hT.static
  have t3 := hT.edges
  have hsl := (self_tiny hT).small
  have hM := may_fn (selfNet n) hsl.ok
  rw [hmay] at hM
  have hI := is_fn (selfNet n) (selfNet n) hsl.ok hsl.ok (idL n.origin.length) (by rw [idL_len]; omega)
  have hq := is_id hmay (self_ge hT)
  rw [show (selfNet n).origin.length = n.origin.length from rfl] at hq
  rw [hq] at hI
  replace hI : FnS Tryd.prog 19 [(selfNet n).av, (selfNet n).av, .d (.sl 1 ((idL n.origin.length).map iD))] (.d (.v .nilIface)) := hI
  refine fn_of teok Tryd.func6 (by kernel_rfl) f6c f6k [.tmp 6] rfl (by show 3 ≤ 50; omega) ?_
  repeat' first
  | (exact absurd hc (by decide))
  | (with_reducible refine awp_sc (l := f6r3) [(3, .gc [] [] [])] ?_; unfold f6r3)
  | (with_reducible refine awp_exit_seal (i := 0) [27, 42, 70, 26] ?_)
  | with_reducible refine awp_seq ?_
  | with_reducible refine awp_block ?_
  | with_reducible refine awp_scope ?_
  | with_reducible refine awp_reg ?_
  | with_reducible refine awp_regD ?_
  | with_reducible refine awp_ret ?_
  | with_reducible refine awp_skip ?_
  | with_reducible refine awp_exit ?_
  | with_reducible refine normQ_of ?_
  | with_reducible refine wkE_of ?_
  | with_reducible refine midQ_of (Wk_sub rfl rfl ?_ ?_)
  | with_reducible refine runD_nil ?_
  | with_reducible refine runD_cons ?_
  | with_reducible refine runF_cons ?_
  | with_reducible refine runF_nil ?_
  | with_reducible refine KF_of ?_
  | with_reducible refine chkQ_of rfl ?_
  | with_reducible refine awp_cond (by simp only [evX, lget, Option.getD_some, reduceIte, Nat.reduceEqDiff]; rfl) (fun hc => ?_) (fun hc => ?_)
  | with_reducible refine gc_of (f := 10) (hW) ?_ rfl rfl rfl rfl (Or.inl rfl) ?_
  | with_reducible refine CallU_of (f := 18) (awake19_fn) (by first | exact Or.inr (Or.inl rfl) | exact Or.inl rfl) ?_
  | with_reducible refine CallC_of (f := 18) (fun _ => awake19_fn) (by first | exact Or.inr (Or.inl rfl) | exact Or.inl rfl) ?_
  | with_reducible refine CallU_of (f := 19) (hI) (by first | exact Or.inr (Or.inl rfl) | exact Or.inl rfl) ?_
  | with_reducible refine CallC_of (f := 19) (fun _ => hI) (by first | exact Or.inr (Or.inl rfl) | exact Or.inl rfl) ?_
  | with_reducible refine CallU_of (f := 12) (hM) (by first | exact Or.inr (Or.inl rfl) | exact Or.inl rfl) ?_
  | with_reducible refine CallC_of (f := 12) (fun _ => hM) (by first | exact Or.inr (Or.inl rfl) | exact Or.inl rfl) ?_
  | with_reducible refine CallU_of (f := 13) (number_nil) (by first | exact Or.inr (Or.inl rfl) | exact Or.inl rfl) ?_
  | with_reducible refine CallC_of (f := 13) (fun _ => number_nil) (by first | exact Or.inr (Or.inl rfl) | exact Or.inl rfl) ?_
  | (with_reducible assumption)
  | with_reducible refine fun (hG : okL _) => ?_
  | (with_reducible refine fun (hT : (_ : Bool) = _) => ?_)
  | (with_reducible first | exact hG.2 | exact hG.2.2 | exact hG.2.2.2 | exact hG.2.2.2.2)
  | with_reducible refine okL_mk ?_ ?_
  | with_reducible refine And.intro ?_ ?_
  | (with_reducible refine awp_loopU (b := f6p5) (fun i : Nat => i ≤ n.origin.length) (fun i => n.origin.length - i) (fun i => [(20, .d (.v (.int .i64 i))), (8, .own 26 i)]) (fun i => [(26, .row 3 1 i ((idL i).map iD)), (42, .row 3 1 n.static.length ((selfL n.static i).map iD))]) (0) (Nat.zero_le _) (Wk_nl 8 26 3 rfl rfl (by decide)) (Wk_sub rfl rfl ?_ ?_) (fun i hi => ?_))
  | (refine Exists.elim (at_drop iD n.static i (by have := Int.ofNat_lt.1 (of_decide_eq_true (show decide ((i : Int) < n.origin.length) = true from hc)); omega)) (fun v he => ?_); have g1 := selfL_row he.2.2.1; have hlt : i < n.origin.length := Int.ofNat_lt.1 (of_decide_eq_true (show decide ((i : Int) < n.origin.length) = true from hc)); replace hc : True := trivial)
  | (with_reducible refine loopQ_next (i + 1) ?_ ?_ (Wk_sub rfl rfl ?_ ?_))
  | (have _q : decide ((i : Int) < n.origin.length) = false := hc; have hie : i = n.origin.length := (by have := of_decide_eq_false _q; omega); subst hie; replace hc : True := trivial)
  | simp only [f6r0, f6r1, f6r2, f6r4, f6r5, f6r6, f6r7, f6r8, f6r9, f6r10, f6r11, f6r12, f6r13, f6r14, g1, f6k, te29, List.length_map, selfL_len, List.getElem?_cons_zero, List.getElem?_cons_succ, runG_nil, runG_u, runG_g, runG_ucS, runG_gcS, runG_uvS, stp, avL, avS, evs, evX, lget, lput, strip, putO, PO.dst, updO, okR, cells, splice, AV.cell, toD, toDs, binV, sameK, pickV, guardOf, okL_nil, sides, argsOf, rawOf, dv, dvL, owns, ownsL, flat, flatL, lkeep, seqQ, blockQ, initS, List.drop_succ_cons, List.drop_zero, List.take_succ_cons, List.take_zero, List.getD_cons_zero, List.getD_cons_succ, List.length_cons, List.length_nil, List.set_cons_zero, List.set_cons_succ, List.map_cons, List.map_nil, List.all_cons, List.all_nil, List.elem_cons, List.elem_nil, Option.getD_some, Option.getD_none, Option.bind_some, Option.isNone_none, reduceIte, reduceCtorEq, Nat.reduceEqDiff, Nat.reduceAdd, Nat.reduceLeDiff, Nat.zero_add, Nat.add_zero, Nat.reduceBEq, Bool.and_self, Bool.and_true, Bool.true_and, Bool.or_self, Bool.or_false, Bool.false_or, Bool.or_true, Bool.true_or, true_and, and_true, and_self, implies_true, forall_const, Bool.false_eq_true, id_eq, retQ, resOf, resV, Option.some.injEq, exists_eq_left', AV.d.injEq, D.v.injEq, Value.bool.injEq, imp_self, bldF, bldS, toVals, eqLs, Option.map_some, imp_false, not_true_eq_false, not_false_eq_true, foot, wrs, nm, nmL, PG.reads, PG.dst, PO.reads, X.sl, sls, slB, List.append_nil, List.cons_append, List.nil_append, Option.toList_some, Option.toList_none, loopQ_exit, loopQ_ret, subS, subO, Bool.bne_false, Bool.bne_true, elemsOf, bslD, bslS, mentries, isAgV, asA, lputs, mgetD_set, mcmp_set, mput_set, List.headD_cons, sealS, sealO, sealV, sealL, mput_nil, mcmp_nil, midQ_ret, midQ_exit, sealsS, sealsO, runW_nil, runW_cons, Bool.true_bne, Bool.false_bne, bne_self_eq_false, Int.reduceToNat, bndV, oSl, resR, runS_nil, runS_gc, ren, renL, renO, sg, gBack, scopeQ_normal, scopeQ_ret, scopeQ_exit, lenB, argsN, dvN]
  | simp only [f6r0, f6r1, f6r2, f6r4, f6r5, f6r6, f6r7, f6r8, f6r9, f6r10, f6r11, f6r12, f6r13, f6r14, f6k, te29, List.length_map, selfL_len, List.getElem?_cons_zero, List.getElem?_cons_succ, runG_nil, runG_u, runG_g, runG_ucS, runG_gcS, runG_uvS, stp, avL, avS, evs, evX, lget, lput, strip, putO, PO.dst, updO, okR, cells, splice, AV.cell, toD, toDs, binV, sameK, pickV, guardOf, okL_nil, sides, argsOf, rawOf, dv, dvL, owns, ownsL, flat, flatL, lkeep, seqQ, blockQ, initS, List.drop_succ_cons, List.drop_zero, List.take_succ_cons, List.take_zero, List.getD_cons_zero, List.getD_cons_succ, List.length_cons, List.length_nil, List.set_cons_zero, List.set_cons_succ, List.map_cons, List.map_nil, List.all_cons, List.all_nil, List.elem_cons, List.elem_nil, Option.getD_some, Option.getD_none, Option.bind_some, Option.isNone_none, reduceIte, reduceCtorEq, Nat.reduceEqDiff, Nat.reduceAdd, Nat.reduceLeDiff, Nat.zero_add, Nat.add_zero, Nat.reduceBEq, Bool.and_self, Bool.and_true, Bool.true_and, Bool.or_self, Bool.or_false, Bool.false_or, Bool.or_true, Bool.true_or, true_and, and_true, and_self, implies_true, forall_const, Bool.false_eq_true, id_eq, retQ, resOf, resV, Option.some.injEq, exists_eq_left', AV.d.injEq, D.v.injEq, Value.bool.injEq, imp_self, bldF, bldS, toVals, eqLs, Option.map_some, imp_false, not_true_eq_false, not_false_eq_true, foot, wrs, nm, nmL, PG.reads, PG.dst, PO.reads, X.sl, sls, slB, List.append_nil, List.cons_append, List.nil_append, Option.toList_some, Option.toList_none, loopQ_exit, loopQ_ret, subS, subO, Bool.bne_false, Bool.bne_true, elemsOf, bslD, bslS, mentries, isAgV, asA, lputs, mgetD_set, mcmp_set, mput_set, List.headD_cons, sealS, sealO, sealV, sealL, mput_nil, mcmp_nil, midQ_ret, midQ_exit, sealsS, sealsO, runW_nil, runW_cons, Bool.true_bne, Bool.false_bne, bne_self_eq_false, Int.reduceToNat, bndV, oSl, resR, runS_nil, runS_gc, ren, renL, renO, sg, gBack, scopeQ_normal, scopeQ_ret, scopeQ_exit, lenB, argsN, dvN]
  all_goals try first
    | omega
    | (with_reducible rfl)
    | exact count64 he.2.2.2 (by omega)
    | (rw [selfL_len]; omega)
    | (rw [Int.toNat_natCast, show (if v > -1 then v else -1) = mx (-1) v from rfl, idS_set, selfL_set he.2.2.1]; done)
    | (show AO.row 3 1 0 [] = _; rfl)
    | (rw [idL_succ, List.map_append]; rfl)
    | (rw [idL_len]; done)
    | (rw [idL_len]; omega)
    | (rw [selfL_zero]; done)
    | decide
    | exact count64 hlt (by omega)
    | (exfalso; have hvj : v = (j.1 : Int) := (by simpa using hc); have hvg := hsp.via j.1 v he.2.2.1 (by omega); obtain ⟨es, h1, e, h2, h3⟩ := hvg; exact (hsp.src j.1 es h1 e h2).2.2 (by omega))
    | (show Value.int _ 0 = _; rfl)
  all_goals trace_state
theorem aself_no (o : List Bool) (ho : o.length ≤ maxLen) (st : List Int) (hst : st.length ≤ maxLen) (ws : List (List Wire)) (hws : WsOk ws) (n : Net) (hn : wiresV o st ws = n) (hmay : (selfNet n).may = false) : FnS Tryd.prog 6 [.d (.sl 1 (o.map bD)), .d (.sl 1 (st.map fun x => [D.v (.int .i8 x)])), .d (.sl 1 (ws.map wsD))] (.d (.v (.bool true))) := by
  have hm : maxLen = 9223372036854775807 := rfl
  have hT := wiresV_tiny o st ws
  have hW := wires_fnG o ho st hst ws hws
  rw [hn] at hT hW
  have t1 := hT.origin
  have t2 := hT.static
  have t3 := hT.edges
  have hsl := (self_tiny hT).small
  have hM := may_fn (selfNet n) hsl.ok
  rw [hmay] at hM
  have hI := is_fn (selfNet n) (selfNet n) hsl.ok hsl.ok (idL n.origin.length) (by rw [idL_len]; omega)
  rw [is_bad (fun q => by rw [hmay] at q; exact absurd q.1 (by decide))] at hI
  replace hI : FnS Tryd.prog 19 [(selfNet n).av, (selfNet n).av, .d (.sl 1 ((idL n.origin.length).map iD))] (.d (.v (.iface 37 (.int .i64 10)))) := hI
  refine fn_of teok Tryd.func6 (by kernel_rfl) f6c f6k [.tmp 6] rfl (by show 3 ≤ 50; omega) ?_
  repeat' first
  | (exact absurd hc (by decide))
  | (with_reducible refine awp_sc (l := f6r3) [(3, .gc [] [] [])] ?_; unfold f6r3)
  | (with_reducible refine awp_exit_seal (i := 0) [27, 42, 70, 26] ?_)
  | with_reducible refine awp_seq ?_
  | with_reducible refine awp_block ?_
  | with_reducible refine awp_scope ?_
  | with_reducible refine awp_reg ?_
  | with_reducible refine awp_regD ?_
  | with_reducible refine awp_ret ?_
  | with_reducible refine awp_skip ?_
  | with_reducible refine awp_exit ?_
  | with_reducible refine normQ_of ?_
  | with_reducible refine wkE_of ?_
  | with_reducible refine midQ_of (Wk_sub rfl rfl ?_ ?_)
  | with_reducible refine runD_nil ?_
  | with_reducible refine runD_cons ?_
  | with_reducible refine runF_cons ?_
  | with_reducible refine runF_nil ?_
  | with_reducible refine KF_of ?_
  | with_reducible refine chkQ_of rfl ?_
  | with_reducible refine awp_cond (by simp only [evX, lget, Option.getD_some, reduceIte, Nat.reduceEqDiff]; rfl) (fun hc => ?_) (fun hc => ?_)
  | with_reducible refine gc_of (f := 10) (hW) ?_ rfl rfl rfl rfl (Or.inl rfl) ?_
  | with_reducible refine CallU_of (f := 18) (awake19_fn) (by first | exact Or.inr (Or.inl rfl) | exact Or.inl rfl) ?_
  | with_reducible refine CallC_of (f := 18) (fun _ => awake19_fn) (by first | exact Or.inr (Or.inl rfl) | exact Or.inl rfl) ?_
  | with_reducible refine CallU_of (f := 19) (hI) (by first | exact Or.inr (Or.inl rfl) | exact Or.inl rfl) ?_
  | with_reducible refine CallC_of (f := 19) (fun _ => hI) (by first | exact Or.inr (Or.inl rfl) | exact Or.inl rfl) ?_
  | with_reducible refine CallU_of (f := 12) (hM) (by first | exact Or.inr (Or.inl rfl) | exact Or.inl rfl) ?_
  | with_reducible refine CallC_of (f := 12) (fun _ => hM) (by first | exact Or.inr (Or.inl rfl) | exact Or.inl rfl) ?_
  | with_reducible refine CallU_of (f := 13) (number_hit 10) (by first | exact Or.inr (Or.inl rfl) | exact Or.inl rfl) ?_
  | with_reducible refine CallC_of (f := 13) (fun _ => number_hit 10) (by first | exact Or.inr (Or.inl rfl) | exact Or.inl rfl) ?_
  | (with_reducible assumption)
  | with_reducible refine fun (hG : okL _) => ?_
  | (with_reducible refine fun (hT : (_ : Bool) = _) => ?_)
  | (with_reducible first | exact hG.2 | exact hG.2.2 | exact hG.2.2.2 | exact hG.2.2.2.2)
  | with_reducible refine okL_mk ?_ ?_
  | with_reducible refine And.intro ?_ ?_
  | (with_reducible refine awp_loopU (b := f6p5) (fun i : Nat => i ≤ n.origin.length) (fun i => n.origin.length - i) (fun i => [(20, .d (.v (.int .i64 i))), (8, .own 26 i)]) (fun i => [(26, .row 3 1 i ((idL i).map iD)), (42, .row 3 1 n.static.length ((selfL n.static i).map iD))]) (0) (Nat.zero_le _) (Wk_nl 8 26 3 rfl rfl (by decide)) (Wk_sub rfl rfl ?_ ?_) (fun i hi => ?_))
  | (refine Exists.elim (at_drop iD n.static i (by have := Int.ofNat_lt.1 (of_decide_eq_true (show decide ((i : Int) < n.origin.length) = true from hc)); omega)) (fun v he => ?_); have g1 := selfL_row he.2.2.1; have hlt : i < n.origin.length := Int.ofNat_lt.1 (of_decide_eq_true (show decide ((i : Int) < n.origin.length) = true from hc)); replace hc : True := trivial)
  | (with_reducible refine loopQ_next (i + 1) ?_ ?_ (Wk_sub rfl rfl ?_ ?_))
  | (have _q : decide ((i : Int) < n.origin.length) = false := hc; have hie : i = n.origin.length := (by have := of_decide_eq_false _q; omega); subst hie; replace hc : True := trivial)
  | simp only [f6r0, f6r1, f6r2, f6r4, f6r5, f6r6, f6r7, f6r8, f6r9, f6r10, f6r11, f6r12, f6r13, f6r14, g1, f6k, te29, List.length_map, selfL_len, List.getElem?_cons_zero, List.getElem?_cons_succ, runG_nil, runG_u, runG_g, runG_ucS, runG_gcS, runG_uvS, stp, avL, avS, evs, evX, lget, lput, strip, putO, PO.dst, updO, okR, cells, splice, AV.cell, toD, toDs, binV, sameK, pickV, guardOf, okL_nil, sides, argsOf, rawOf, dv, dvL, owns, ownsL, flat, flatL, lkeep, seqQ, blockQ, initS, List.drop_succ_cons, List.drop_zero, List.take_succ_cons, List.take_zero, List.getD_cons_zero, List.getD_cons_succ, List.length_cons, List.length_nil, List.set_cons_zero, List.set_cons_succ, List.map_cons, List.map_nil, List.all_cons, List.all_nil, List.elem_cons, List.elem_nil, Option.getD_some, Option.getD_none, Option.bind_some, Option.isNone_none, reduceIte, reduceCtorEq, Nat.reduceEqDiff, Nat.reduceAdd, Nat.reduceLeDiff, Nat.zero_add, Nat.add_zero, Nat.reduceBEq, Bool.and_self, Bool.and_true, Bool.true_and, Bool.or_self, Bool.or_false, Bool.false_or, Bool.or_true, Bool.true_or, true_and, and_true, and_self, implies_true, forall_const, Bool.false_eq_true, id_eq, retQ, resOf, resV, Option.some.injEq, exists_eq_left', AV.d.injEq, D.v.injEq, Value.bool.injEq, imp_self, bldF, bldS, toVals, eqLs, Option.map_some, imp_false, not_true_eq_false, not_false_eq_true, foot, wrs, nm, nmL, PG.reads, PG.dst, PO.reads, X.sl, sls, slB, List.append_nil, List.cons_append, List.nil_append, Option.toList_some, Option.toList_none, loopQ_exit, loopQ_ret, subS, subO, Bool.bne_false, Bool.bne_true, elemsOf, bslD, bslS, mentries, isAgV, asA, lputs, mgetD_set, mcmp_set, mput_set, List.headD_cons, sealS, sealO, sealV, sealL, mput_nil, mcmp_nil, midQ_ret, midQ_exit, sealsS, sealsO, runW_nil, runW_cons, Bool.true_bne, Bool.false_bne, bne_self_eq_false, Int.reduceToNat, bndV, oSl, resR, runS_nil, runS_gc, ren, renL, renO, sg, gBack, scopeQ_normal, scopeQ_ret, scopeQ_exit, lenB, argsN, dvN]
  | simp only [f6r0, f6r1, f6r2, f6r4, f6r5, f6r6, f6r7, f6r8, f6r9, f6r10, f6r11, f6r12, f6r13, f6r14, f6k, te29, List.length_map, selfL_len, List.getElem?_cons_zero, List.getElem?_cons_succ, runG_nil, runG_u, runG_g, runG_ucS, runG_gcS, runG_uvS, stp, avL, avS, evs, evX, lget, lput, strip, putO, PO.dst, updO, okR, cells, splice, AV.cell, toD, toDs, binV, sameK, pickV, guardOf, okL_nil, sides, argsOf, rawOf, dv, dvL, owns, ownsL, flat, flatL, lkeep, seqQ, blockQ, initS, List.drop_succ_cons, List.drop_zero, List.take_succ_cons, List.take_zero, List.getD_cons_zero, List.getD_cons_succ, List.length_cons, List.length_nil, List.set_cons_zero, List.set_cons_succ, List.map_cons, List.map_nil, List.all_cons, List.all_nil, List.elem_cons, List.elem_nil, Option.getD_some, Option.getD_none, Option.bind_some, Option.isNone_none, reduceIte, reduceCtorEq, Nat.reduceEqDiff, Nat.reduceAdd, Nat.reduceLeDiff, Nat.zero_add, Nat.add_zero, Nat.reduceBEq, Bool.and_self, Bool.and_true, Bool.true_and, Bool.or_self, Bool.or_false, Bool.false_or, Bool.or_true, Bool.true_or, true_and, and_true, and_self, implies_true, forall_const, Bool.false_eq_true, id_eq, retQ, resOf, resV, Option.some.injEq, exists_eq_left', AV.d.injEq, D.v.injEq, Value.bool.injEq, imp_self, bldF, bldS, toVals, eqLs, Option.map_some, imp_false, not_true_eq_false, not_false_eq_true, foot, wrs, nm, nmL, PG.reads, PG.dst, PO.reads, X.sl, sls, slB, List.append_nil, List.cons_append, List.nil_append, Option.toList_some, Option.toList_none, loopQ_exit, loopQ_ret, subS, subO, Bool.bne_false, Bool.bne_true, elemsOf, bslD, bslS, mentries, isAgV, asA, lputs, mgetD_set, mcmp_set, mput_set, List.headD_cons, sealS, sealO, sealV, sealL, mput_nil, mcmp_nil, midQ_ret, midQ_exit, sealsS, sealsO, runW_nil, runW_cons, Bool.true_bne, Bool.false_bne, bne_self_eq_false, Int.reduceToNat, bndV, oSl, resR, runS_nil, runS_gc, ren, renL, renO, sg, gBack, scopeQ_normal, scopeQ_ret, scopeQ_exit, lenB, argsN, dvN]
  all_goals try first
    | omega
    | (with_reducible rfl)
    | exact count64 he.2.2.2 (by omega)
    | (rw [selfL_len]; omega)
    | (rw [Int.toNat_natCast, show (if v > -1 then v else -1) = mx (-1) v from rfl, idS_set, selfL_set he.2.2.1]; done)
    | (show AO.row 3 1 0 [] = _; rfl)
    | (rw [idL_succ, List.map_append]; rfl)
    | (rw [idL_len]; done)
    | (rw [idL_len]; omega)
    | (rw [selfL_zero]; done)
    | decide
    | exact count64 hlt (by omega)
    | (exfalso; have hvj : v = (j.1 : Int) := (by simpa using hc); have hvg := hsp.via j.1 v he.2.2.1 (by omega); obtain ⟨es, h1, e, h2, h3⟩ := hvg; exact (hsp.src j.1 es h1 e h2).2.2 (by omega))
    | (show Value.int _ 0 = _; rfl)
  all_goals trace_state
theorem aself_fn (o : List Bool) (ho : o.length ≤ maxLen) (st : List Int) (hst : st.length ≤ maxLen) (ws : List (List Wire)) (hws : WsOk ws) : FnS Tryd.prog 6 [.d (.sl 1 (o.map bD)), .d (.sl 1 (st.map fun x => [D.v (.int .i8 x)])), .d (.sl 1 (ws.map wsD))] (.d (.v (.bool true))) := by
  cases h : (selfNet (wiresV o st ws)).may
  · exact aself_no o ho st hst ws hws _ rfl h
  · exact aself_of o ho st hst ws hws _ rfl h
end Go.Proofs.YtipekfhpcjcabaaDoor
