/- The law SolveBare: whatever the input, it returns true and changes nothing. Printed by a program of this project (wip/mq). -/
import Derived.Test.YtajkgmmmkhekmaaNetF
import Derived.Test.YtajkgmmmkhekmaaGreedy
import Derived.Test.YtajkgmmmkhekmaaAwk16
import Derived.Test.YtajkgmmmkhekmaaArgs
import Derived.Test.YtajkgmmmkhekmaaSame
import Derived.Test.YtajkgmmmkhekmaaSetG
namespace Go.Proofs.Ytajkgmmmkhekmaa
open Go Mq Go.ChangeShapes Go.WideShapes Go.ChangeAt Go.RowKit
/-! maquette/maquettelaw16.SolveBare -/
def f12r0 : List PG := [.u (.bx 2 (.t 0)), .u (.mv 4 (.k (.bool false)))]
def f12r1 : List PG := [.uc 12 27 [], .u (.no 13 (.t 12))]
def f12r2 : List PG := [.u (.mv 4 (.k (.bool false)))]
abbrev f12p0 : PC := .seq (.reg f12r2) (.ret)
abbrev f12p1 : PC := .cond (.t 13) (f12p0) (.skip)
def f12r3 : List PG := [.u (.ld 15 6 true (.t 2)), .uc 16 36 [.t 15], .u (.mv 17 (.t 1)), .uc 18 14 [.t 16, .t 17], .u (.mv 14 (.t 18)), .u (.ext 19 (.t 14) 0), .u (.ext 20 (.t 14) 1), .u (.ext 21 (.t 14) 2), .u (.al 5 [.nl 1, .nl 1, .nl 1]), .u (.al 6 [.d (.v (.int .u32 0)), .d (.v (.int .i64 0))]), .u (.st 3 (.t 5) (.t 19)), .u (.st 2 (.t 6) (.t 20)), .u (.mv 7 (.t 21))]
def f12r4 : List PG := [.u (.mv 22 (.t 7)), .u (.no 23 (.t 22))]
def f12r5 : List PG := [.u (.mv 4 (.k (.bool true)))]
abbrev f12p2 : PC := .seq (.reg f12r5) (.ret)
abbrev f12p3 : PC := .cond (.t 23) (f12p2) (.skip)
def f12r6 : List PG := [.u (.ld 25 3 true (.t 5)), .u (.fa 26 0 (.t 5)), .u (.ld 27 1 false (.t 26)), .u (.len 28 (.t 27)), .u (.mks 29 45 4 32 [.d (.v (.bool false)), .d (.v (.int .i64 0)), .d (.v (.int .i64 0)), .d (.v (.int .u8 0))] (.t 28)), .u (.fa 30 0 (.t 5)), .u (.ld 31 1 false (.t 30)), .u (.len 32 (.t 31)), .uc 33 33 [.t 25, .t 29, .t 32], .u (.mv 24 (.t 33)), .u (.ext 34 (.t 24) 0), .u (.ext 35 (.t 24) 1), .u (.mv 8 (.t 34)), .u (.mv 9 (.t 35))]
def f12r7 : List PG := [.u (.ld 37 3 true (.t 5)), .uc 38 29 [.t 37], .u (.mv 36 (.t 38)), .u (.ext 39 (.t 36) 0), .u (.ext 40 (.t 36) 1), .u (.mv 10 (.t 39)), .u (.mv 11 (.t 40))]
def f12r8 : List PG := [.u (.mv 41 (.t 9)), .u (.mv 42 (.t 41)), .g 42 true (.mv 43 (.t 11)), .u (.pick 44 (.t 42) (.t 43) (.k (.bool false))), .u (.mv 45 (.t 44)), .g 45 true (.mv 46 (.t 10)), .g 45 true (.mv 47 (.t 8)), .gc 45 true 48 32 [.t 46, .t 47], .u (.pick 49 (.t 45) (.t 48) (.k (.bool false))), .u (.mv 4 (.t 49))]
abbrev f12p4 : PC := .seq (.reg f12r8) (.ret)
abbrev f12p5 : PC := .seq (.reg f12r7) (f12p4)
abbrev f12p6 : PC := .seq (.regD f12r6 [(0, 4), (4, 5), (4, 6), (4, 7)]) (f12p5)
abbrev f12p7 : PC := .seq (.seq (.reg f12r4) (f12p3)) (f12p6)
abbrev f12p8 : PC := .seq (.reg f12r3) (f12p7)
abbrev f12p9 : PC := .seq (.seq (.reg f12r1) (f12p1)) (f12p8)
abbrev f12pc : PC := .seq (.reg f12r0) (f12p9)
def f12k : List Nat := [0, 1, 2, 4, 5, 7, 8, 9, 10, 11, 13, 23]
theorem f12c : Try.f12.body.bind (cC te Try.f12.ntmps) = some f12pc := by kernel_rfl
set_option maxRecDepth 20000
set_option maxHeartbeats 4000000
set_option linter.unusedSimpArgs false
set_option linter.unusedVariables false

theorem solveBare_none (sh : Shape) (hs : sh.ok) (w : Int) (hw : 0 ≤ w ∧ w ≤ 255) (hx : sh.bare.netV w = none) : FnS Try.prog 12 [sh.av, .d (.v (.int .u8 w))] (.d (.v (.bool true))) := by
  have hN := netOfF_fn sh.bare hs.bare w hw
  rw [hx] at hN
  simp only [netA] at hN
  refine fn_of teok Try.func12 (by kernel_rfl) f12c f12k [.tmp 4] rfl (by show 2 ≤ 50; omega) ?_
  repeat' first
  | (exact absurd hc (by decide))
  | with_reducible refine awp_seq ?_
  | with_reducible refine awp_block ?_
  | with_reducible refine awp_reg ?_
  | with_reducible refine awp_regD ?_
  | with_reducible refine awp_ret ?_
  | with_reducible refine awp_skip ?_
  | with_reducible refine awp_exit ?_
  | with_reducible refine normQ_of ?_
  | with_reducible refine wkE_of ?_
  | with_reducible refine midQ_of (Wk_sub rfl rfl ?_ ?_)
  | with_reducible refine runD_nil ?_
  | with_reducible refine runD_cons ?_
  | with_reducible refine runF_cons ?_
  | with_reducible refine runF_nil ?_
  | with_reducible refine KF_of ?_
  | with_reducible refine chkQ_of rfl ?_
  | with_reducible refine awp_cond (by simp only [evX, lget, Option.getD_some, reduceIte, Nat.reduceEqDiff]; rfl) (fun hc => ?_) (fun hc => ?_)
  | with_reducible refine CallU_of (f := 27) (awake16_fn) (by first | exact Or.inr (Or.inl rfl) | exact Or.inl rfl) ?_
  | with_reducible refine CallC_of (f := 27) (fun _ => awake16_fn) (by first | exact Or.inr (Or.inl rfl) | exact Or.inl rfl) ?_
  | with_reducible refine CallU_of (f := 14) (hN) (by first | exact Or.inr (Or.inl rfl) | exact Or.inl rfl) ?_
  | with_reducible refine CallC_of (f := 14) (fun _ => hN) (by first | exact Or.inr (Or.inl rfl) | exact Or.inl rfl) ?_
  | with_reducible refine CallU_of (f := 36) (bare_fn sh) (by first | exact Or.inr (Or.inl rfl) | exact Or.inl rfl) ?_
  | with_reducible refine CallC_of (f := 36) (fun _ => bare_fn sh) (by first | exact Or.inr (Or.inl rfl) | exact Or.inl rfl) ?_
  | (with_reducible assumption)
  | with_reducible refine fun (hG : okL _) => ?_
  | (with_reducible refine fun (hT : (_ : Bool) = _) => ?_)
  | (with_reducible first | exact hG.2 | exact hG.2.2 | exact hG.2.2.2 | exact hG.2.2.2.2)
  | with_reducible refine okL_mk ?_ ?_
  | with_reducible refine And.intro ?_ ?_
  | simp only [f12r0, f12r1, f12r2, f12r3, f12r4, f12r5, f12r6, f12r7, f12r8, f12k, te33, te36, te25, List.getElem?_cons_zero, List.getElem?_cons_succ, runG_nil, runG_u, runG_g, runG_ucS, runG_gcS, stp, evs, evX, lget, lput, strip, putO, PO.dst, updO, okR, cells, splice, AV.cell, toD, toDs, binV, sameK, pickV, guardOf, okL_nil, sides, argsOf, rawOf, dv, dvL, owns, ownsL, flat, flatL, lkeep, seqQ, blockQ, initS, List.drop_succ_cons, List.drop_zero, List.take_succ_cons, List.take_zero, List.getD_cons_zero, List.getD_cons_succ, List.length_cons, List.length_nil, List.set_cons_zero, List.set_cons_succ, List.map_cons, List.map_nil, List.all_cons, List.all_nil, List.elem_cons, List.elem_nil, Option.getD_some, Option.getD_none, Option.bind_some, Option.isNone_none, reduceIte, reduceCtorEq, Nat.reduceEqDiff, Nat.reduceAdd, Nat.reduceLeDiff, Nat.zero_add, Nat.add_zero, Nat.reduceBEq, Bool.and_self, Bool.and_true, Bool.true_and, Bool.or_self, Bool.or_false, Bool.false_or, Bool.or_true, Bool.true_or, true_and, and_true, and_self, implies_true, forall_const, Bool.false_eq_true, id_eq, retQ, resOf, resV, Option.some.injEq, exists_eq_left', AV.d.injEq, D.v.injEq, Value.bool.injEq, imp_self, bldF, bldS, toVals, eqLs, Option.map_some, imp_false, not_true_eq_false, not_false_eq_true, foot, wrs, nm, nmL, PG.reads, PG.dst, PO.reads, X.sl, sls, slB, List.append_nil, List.cons_append, List.nil_append, Option.toList_some, Option.toList_none, loopQ_exit, loopQ_ret, subS, subO, Bool.bne_false, Bool.bne_true, elemsOf, bslD, bslS, mentries, isAgV, asA, lputs, mgetD_set, mcmp_set, mput_set, List.headD_cons, sealS, sealO, sealV, sealL, mput_nil, mcmp_nil, midQ_ret, midQ_exit, sealsS, sealsO, runW_nil, runW_cons, Bool.true_bne, Bool.false_bne, bne_self_eq_false, Int.reduceToNat, bndV, oSl, resR, runS_nil, runS_gc]
  all_goals first
    | rfl
    | decide
    | trace_state
theorem solveBare_some (sh : Shape) (hs : sh.ok) (w : Int) (hw : 0 ≤ w ∧ w ≤ 255) (n : Net) (p : Int × Int) (hx : sh.bare.netV w = some (n, p)) : FnS Try.prog 12 [sh.av, .d (.v (.int .u8 w))] (.d (.v (.bool true))) := by
  have hm : maxLen = 9223372036854775807 := rfl
  have hN := netOfF_fn sh.bare hs.bare w hw
  rw [hx] at hN
  simp only [netA] at hN
  obtain ⟨hsm, hmay, m, hnl, hn0⟩ := net_facts hx
  simp only at hsm hmay m hnl hn0
  have hbr : n.bare := bare_net hx
  have hlk := bare_likes hbr
  obtain ⟨l, hl⟩ := greedy_some hmay hlk
  have hG := greedy_fn n hsm
  rw [hl] at hG
  simp only [greedyA] at hG
  obtain ⟨hll, hln⟩ := greedy_num hl
  have hB := bare_BLs hbr hl hmay
  obtain ⟨z1, z2⟩ := bare_zero hB
  obtain ⟨s1, s2⟩ := bare_settle hB n.origin.length 0 _ 0 z1 (by omega) (by omega) (by omega) z2
  have hSF := settle_fnF n hsm (List.replicate n.origin.length attr0) (by simp; omega) n.origin.length (by omega)
  have hS := settle_fn n hsm (List.replicate n.origin.length attr0) (by simp; omega) n.origin.length (by omega)
  have hmx : (mx 0 (n.origin.length : Int)).toNat = n.origin.length := by unfold mx; split <;> omega
  rw [hmx] at hS hSF
  rw [s1] at hS hSF
  have hsame : sameL l (n.settle n.origin.length (List.replicate n.origin.length attr0)) = true :=
    stable_same (B := 100000000) m hlk (by omega) (greedy_stable hl) s1 (fun a ha ho => rt_le (hln a ha ho) (by omega)) (fun a ha ho => rt_le (s2 a ha ho) (by omega))
  have hxl : (n.settle n.origin.length (List.replicate n.origin.length attr0)).length = n.origin.length := by rw [settle_len]; simp
  generalize n.settle n.origin.length (List.replicate n.origin.length attr0) = x at hS hSF hsame hxl
  have hA := sameL_fn l x (by omega) (by omega)
  rw [hsame] at hA
  have g1 : List.replicate (Int.toNat (n.origin.length : Int)) [D.v (.bool false), .v (.int .i64 0), .v (.int .i64 0), .v (.int .u8 0)] = (List.replicate n.origin.length attr0).map Attr.row := by rw [List.map_replicate, Int.toNat_natCast]; rfl
  refine fn_of teok Try.func12 (by kernel_rfl) f12c f12k [.tmp 4] rfl (by show 2 ≤ 50; omega) ?_
  repeat' first
  | (exact absurd hc (by decide))
  | with_reducible refine awp_seq ?_
  | with_reducible refine awp_block ?_
  | with_reducible refine awp_reg ?_
  | with_reducible refine awp_regD ?_
  | with_reducible refine awp_ret ?_
  | with_reducible refine awp_skip ?_
  | with_reducible refine awp_exit ?_
  | with_reducible refine normQ_of ?_
  | with_reducible refine wkE_of ?_
  | with_reducible refine midQ_of (Wk_sub rfl rfl ?_ ?_)
  | with_reducible refine runD_nil ?_
  | with_reducible refine runD_cons ?_
  | with_reducible refine runF_cons ?_
  | with_reducible refine runF_nil ?_
  | with_reducible refine KF_of ?_
  | with_reducible refine chkQ_of rfl ?_
  | with_reducible refine awp_cond (by simp only [evX, lget, Option.getD_some, reduceIte, Nat.reduceEqDiff]; rfl) (fun hc => ?_) (fun hc => ?_)
  | with_reducible refine CallU_of (f := 27) (awake16_fn) (by first | exact Or.inr (Or.inl rfl) | exact Or.inl rfl) ?_
  | with_reducible refine CallC_of (f := 27) (fun _ => awake16_fn) (by first | exact Or.inr (Or.inl rfl) | exact Or.inl rfl) ?_
  | with_reducible refine CallU_of (f := 14) (hN) (by first | exact Or.inr (Or.inl rfl) | exact Or.inl rfl) ?_
  | with_reducible refine CallC_of (f := 14) (fun _ => hN) (by first | exact Or.inr (Or.inl rfl) | exact Or.inl rfl) ?_
  | with_reducible refine CallU_of (f := 36) (bare_fn sh) (by first | exact Or.inr (Or.inl rfl) | exact Or.inl rfl) ?_
  | with_reducible refine CallC_of (f := 36) (fun _ => bare_fn sh) (by first | exact Or.inr (Or.inl rfl) | exact Or.inl rfl) ?_
  | with_reducible refine CallU_of (f := 29) (hG) (by first | exact Or.inr (Or.inl rfl) | exact Or.inl rfl) ?_
  | with_reducible refine CallC_of (f := 29) (fun _ => hG) (by first | exact Or.inr (Or.inl rfl) | exact Or.inl rfl) ?_
  | with_reducible refine CallU_of (f := 33) (hS) (by first | exact Or.inr (Or.inl rfl) | exact Or.inl rfl | exact Or.inr (Or.inr (fun _ => hSF))) ?_
  | with_reducible refine CallC_of (f := 33) (fun _ => hS) (by first | exact Or.inr (Or.inl rfl) | exact Or.inl rfl | exact Or.inr (Or.inr (fun _ => hSF))) ?_
  | with_reducible refine CallU_of (f := 32) (hA) (by first | exact Or.inr (Or.inl rfl) | exact Or.inl rfl) ?_
  | with_reducible refine CallC_of (f := 32) (fun _ => hA) (by first | exact Or.inr (Or.inl rfl) | exact Or.inl rfl) ?_
  | (with_reducible assumption)
  | with_reducible refine fun (hG : okL _) => ?_
  | (with_reducible refine fun (hT : (_ : Bool) = _) => ?_)
  | (with_reducible first | exact hG.2 | exact hG.2.2 | exact hG.2.2.2 | exact hG.2.2.2.2)
  | with_reducible refine okL_mk ?_ ?_
  | with_reducible refine And.intro ?_ ?_
  | simp only [f12r0, f12r1, f12r2, f12r3, f12r4, f12r5, f12r6, f12r7, f12r8, g1, f12k, te33, te36, te25, List.length_map, List.getElem?_cons_zero, List.getElem?_cons_succ, runG_nil, runG_u, runG_g, runG_ucS, runG_gcS, stp, evs, evX, lget, lput, strip, putO, PO.dst, updO, okR, cells, splice, AV.cell, toD, toDs, binV, sameK, pickV, guardOf, okL_nil, sides, argsOf, rawOf, dv, dvL, owns, ownsL, flat, flatL, lkeep, seqQ, blockQ, initS, List.drop_succ_cons, List.drop_zero, List.take_succ_cons, List.take_zero, List.getD_cons_zero, List.getD_cons_succ, List.length_cons, List.length_nil, List.set_cons_zero, List.set_cons_succ, List.map_cons, List.map_nil, List.all_cons, List.all_nil, List.elem_cons, List.elem_nil, Option.getD_some, Option.getD_none, Option.bind_some, Option.isNone_none, reduceIte, reduceCtorEq, Nat.reduceEqDiff, Nat.reduceAdd, Nat.reduceLeDiff, Nat.zero_add, Nat.add_zero, Nat.reduceBEq, Bool.and_self, Bool.and_true, Bool.true_and, Bool.or_self, Bool.or_false, Bool.false_or, Bool.or_true, Bool.true_or, true_and, and_true, and_self, implies_true, forall_const, Bool.false_eq_true, id_eq, retQ, resOf, resV, Option.some.injEq, exists_eq_left', AV.d.injEq, D.v.injEq, Value.bool.injEq, imp_self, bldF, bldS, toVals, eqLs, Option.map_some, imp_false, not_true_eq_false, not_false_eq_true, foot, wrs, nm, nmL, PG.reads, PG.dst, PO.reads, X.sl, sls, slB, List.append_nil, List.cons_append, List.nil_append, Option.toList_some, Option.toList_none, loopQ_exit, loopQ_ret, subS, subO, Bool.bne_false, Bool.bne_true, elemsOf, bslD, bslS, mentries, isAgV, asA, lputs, mgetD_set, mcmp_set, mput_set, List.headD_cons, sealS, sealO, sealV, sealL, mput_nil, mcmp_nil, midQ_ret, midQ_exit, sealsS, sealsO, runW_nil, runW_cons, Bool.true_bne, Bool.false_bne, bne_self_eq_false, Int.reduceToNat, bndV, oSl, resR, runS_nil, runS_gc]
  | simp only [f12r0, f12r1, f12r2, f12r3, f12r4, f12r5, f12r6, f12r7, f12r8, f12k, te33, te36, te25, List.length_map, List.getElem?_cons_zero, List.getElem?_cons_succ, runG_nil, runG_u, runG_g, runG_ucS, runG_gcS, stp, evs, evX, lget, lput, strip, putO, PO.dst, updO, okR, cells, splice, AV.cell, toD, toDs, binV, sameK, pickV, guardOf, okL_nil, sides, argsOf, rawOf, dv, dvL, owns, ownsL, flat, flatL, lkeep, seqQ, blockQ, initS, List.drop_succ_cons, List.drop_zero, List.take_succ_cons, List.take_zero, List.getD_cons_zero, List.getD_cons_succ, List.length_cons, List.length_nil, List.set_cons_zero, List.set_cons_succ, List.map_cons, List.map_nil, List.all_cons, List.all_nil, List.elem_cons, List.elem_nil, Option.getD_some, Option.getD_none, Option.bind_some, Option.isNone_none, reduceIte, reduceCtorEq, Nat.reduceEqDiff, Nat.reduceAdd, Nat.reduceLeDiff, Nat.zero_add, Nat.add_zero, Nat.reduceBEq, Bool.and_self, Bool.and_true, Bool.true_and, Bool.or_self, Bool.or_false, Bool.false_or, Bool.or_true, Bool.true_or, true_and, and_true, and_self, implies_true, forall_const, Bool.false_eq_true, id_eq, retQ, resOf, resV, Option.some.injEq, exists_eq_left', AV.d.injEq, D.v.injEq, Value.bool.injEq, imp_self, bldF, bldS, toVals, eqLs, Option.map_some, imp_false, not_true_eq_false, not_false_eq_true, foot, wrs, nm, nmL, PG.reads, PG.dst, PO.reads, X.sl, sls, slB, List.append_nil, List.cons_append, List.nil_append, Option.toList_some, Option.toList_none, loopQ_exit, loopQ_ret, subS, subO, Bool.bne_false, Bool.bne_true, elemsOf, bslD, bslS, mentries, isAgV, asA, lputs, mgetD_set, mcmp_set, mput_set, List.headD_cons, sealS, sealO, sealV, sealL, mput_nil, mcmp_nil, midQ_ret, midQ_exit, sealsS, sealsO, runW_nil, runW_cons, Bool.true_bne, Bool.false_bne, bne_self_eq_false, Int.reduceToNat, bndV, oSl, resR, runS_nil, runS_gc]
  all_goals try first
    | omega
    | (with_reducible rfl)
    | (show Value.int _ 0 = _; rfl)
    | (simp only [List.length_append, List.length_cons, List.length_nil]; omega)
    | (simp only [List.length_append, List.length_cons, List.length_nil, List.map_append, List.map_cons, List.map_nil]; done)
    | decide
    | (simp at hc; done)
  all_goals trace_state

theorem solveBare_as (av : List AV) (h : dArgs te 8 [25, 5] av) : FnS Try.prog 12 av (.d (.v (.bool true))) := by
  obtain ⟨x, _, rfl, hx, y, _, rfl, hy, rfl⟩ := h
  obtain ⟨sh, rfl, hs⟩ := shape_of (n := 3) hx
  obtain ⟨w, rfl, hw⟩ := u8_row (n := 7) hy
  cases hx : sh.bare.netV w with
  | none => exact solveBare_none sh hs w hw hx
  | some x =>
    obtain ⟨n, p⟩ := x
    exact solveBare_some sh hs w hw n p hx

set_option maxRecDepth 100000 in
theorem solveBare_lifted (os : Os) (started : os.Started) (H : Type) (enc : TypeId × Value → H) :
    ReturnsInHanded {} Try.checked os 12 .any (Rows.solveBareSpec.pre6 enc Try.prog Try.f12 Rows.solveBareRow.domain false) (Rows.solveBareSpec.post enc Try.prog Try.f12 false true false false) := by
  refine returnsInHanded_of_change (C := Try.checked) own started (by kernel_rfl) Try.func12
    (ChangeSpec.witness6 (enc := enc) (C := Try.checked) false ⟨#[], #[.agg #[.int .u8 0, .slice none 0 0, .slice none 0 0, .slice none 0 0, .slice none 0 0, .slice none 0 0], .int .u8 0], []⟩ 8 (by kernel_rfl) (by kernel_rfl) (by kernel_rfl) (by kernel_rfl)) ?_
  intro W base args ds gs before hval hW hcnd _
  have hp : Try.f12.params.toList = [25, 5] := by kernel_rfl
  refine law_calls (n := 8) (b := 4) laidOut (by rw [hp]; exact List.forall_mem_cons.2 ⟨⟨by kernel_rfl, of_decide_eq_true (by kernel_rfl)⟩, List.forall_mem_cons.2 ⟨⟨by kernel_rfl, of_decide_eq_true (by kernel_rfl)⟩, (by simp)⟩⟩) (by rw [hp]; exact List.forall_mem_cons.2 ⟨by kernel_rfl, List.forall_mem_cons.2 ⟨by kernel_rfl, (by simp)⟩⟩) rfl (by kernel_rfl) (by kernel_rfl) (fun ds hd => ?_) hval hW (fun av h => solveBare_as av (argsT_d teok _ _ _ (by rw [hp]; exact List.forall_mem_cons.2 ⟨rfl, List.forall_mem_cons.2 ⟨rfl, (by simp)⟩⟩) h |> (hp ▸ ·)))
  have hd : ds.length = 2 := hd
  match ds, hd with
  | [_, _], _ => rfl
theorem solveBare_holds : Rows.SolveBareSaid :=
  OpenClaim.holds_of_wide 12 Try.f12 rfl rfl rfl rfl rfl rfl rfl ⟨rfl, rfl, rfl, rfl, rfl⟩ rfl rfl rfl rfl rfl (by kernel_rfl) Try.func12 (by kernel_rfl)
    (of_decide_eq_true (by kernel_rfl)) (by unfold Func.isWrapper; first | (rw [if_pos (by decide +kernel)]; kernel_rfl) | (rw [if_neg (by decide +kernel)]; exact ⟨rfl, rfl⟩))
    (fun os started H enc _ => solveBare_lifted os started H enc)
end Go.Proofs.Ytajkgmmmkhekmaa
