/- The law QuotientBack: whatever the input, it returns true and changes nothing. Printed by a program of this project (wip/mq). -/
import Derived.Test.YtokfackbnnkbnaaNetF
import Derived.Test.YtokfackbnnkbnaaArgsS
import Derived.Test.YtokfackbnnkbnaaHv17
import Derived.Test.YtokfackbnnkbnaaNm17
import Derived.Test.YtokfackbnnkbnaaQ18
import Derived.Test.YtokfackbnnkbnaaSome
import Derived.Test.YtokfackbnnkbnaaSameA
set_option linter.unusedVariables false
set_option linter.unusedSimpArgs false

namespace Go.Proofs.Ytokfackbnnkbnaa
open Go Mq Go.ChangeShapes Go.WideShapes Go.ChangeAt Go.RowKit
/-! maquette/maquettelaw18.QuotientBack -/
def f9r0 : List PG := [.u (.bx 3 (.t 0)), .u (.mv 6 (.k (.bool false)))]
def f9r1 : List PG := [.uc 13 20 [], .u (.no 14 (.t 13))]
def f9r2 : List PG := [.u (.mv 6 (.k (.bool false)))]
abbrev f9p0 : PC := .seq (.reg f9r2) (.ret)
abbrev f9p1 : PC := .cond (.t 14) (f9p0) (.skip)
def f9r3 : List PG := [.u (.ld 16 6 true (.t 3)), .u (.mv 17 (.t 1)), .uc 18 14 [.t 16, .t 17], .u (.mv 15 (.t 18)), .u (.ext 19 (.t 15) 0), .u (.ext 20 (.t 15) 1), .u (.ext 21 (.t 15) 2), .u (.al 7 [.nl 1, .nl 1, .nl 1]), .u (.al 8 [.d (.v (.int .u32 0)), .d (.v (.int .i64 0))]), .u (.st 3 (.t 7) (.t 19)), .u (.st 2 (.t 8) (.t 20)), .u (.mv 9 (.t 21))]
def f9r4 : List PG := [.u (.mv 22 (.t 9)), .u (.no 23 (.t 22))]
def f9r5 : List PG := [.u (.mv 6 (.k (.bool true)))]
abbrev f9p2 : PC := .seq (.reg f9r5) (.ret)
abbrev f9p3 : PC := .cond (.t 23) (f9p2) (.skip)
def f9r6 : List PG := [.u (.ld 25 3 true (.t 7)), .uc 26 12 [.t 25], .u (.mv 24 (.t 26)), .u (.ext 27 (.t 24) 0), .u (.ext 28 (.t 24) 1), .u (.mv 10 (.t 27)), .u (.mv 11 (.t 28))]
def f9r7 : List PG := [.u (.mv 29 (.t 11)), .u (.beqn 30 true (.t 29))]
def f9r8 : List PG := [.u (.mv 6 (.k (.bool false)))]
abbrev f9p4 : PC := .seq (.reg f9r8) (.ret)
abbrev f9p5 : PC := .cond (.t 30) (f9p4) (.skip)
def f9r9 : List PG := [.u (.mv 31 (.t 2)), .u (.mv 32 (.t 10)), .uc 33 13 [.t 32], .uc 34 23 [.t 31, .t 33], .u (.mv 12 (.t 34))]
def f9r10 : List PG := [.u (.mv 35 (.t 10)), .u (.mv 36 (.t 10)), .u (.mv 37 (.t 12)), .uc 38 26 [.t 36, .t 37], .uc 39 25 [.t 35, .t 38], .u (.mv 40 (.t 12)), .uc 41 24 [.t 39, .t 40], .u (.mv 6 (.t 41))]
abbrev f9p6 : PC := .seq (.reg f9r10) (.ret)
abbrev f9p7 : PC := .seq (.reg f9r9) (f9p6)
abbrev f9p8 : PC := .seq (.seq (.reg f9r7) (f9p5)) (f9p7)
abbrev f9p9 : PC := .seq (.reg f9r6) (f9p8)
abbrev f9p10 : PC := .seq (.seq (.reg f9r4) (f9p3)) (f9p9)
abbrev f9p11 : PC := .seq (.reg f9r3) (f9p10)
abbrev f9p12 : PC := .seq (.seq (.reg f9r1) (f9p1)) (f9p11)
abbrev f9pc : PC := .seq (.reg f9r0) (f9p12)
def f9k : List Nat := [0, 1, 2, 3, 6, 7, 9, 10, 11, 12, 14, 23, 30]
theorem f9c : Try.f9.body.bind (cC te Try.f9.ntmps) = some f9pc := by kernel_rfl
set_option maxRecDepth 20000
set_option maxHeartbeats 4000000
set_option linter.unusedSimpArgs false
set_option linter.unusedVariables false

theorem quotientBack_none (sh : Shape) (hs : sh.ok) (w : Int) (hw : 0 ≤ w ∧ w ≤ 255)(ns : List Int) (hx : sh.netV w = none) : FnS Try.prog 9 [sh.av, .d (.v (.int .u8 w)), .d (.sl 1 (ns.map wD))] (.d (.v (.bool true))) := by
  have hN := netOfF_fn sh hs w hw
  rw [hx] at hN
  simp only [netA] at hN
  refine fn_of teok Try.func9 (by kernel_rfl) f9c f9k [.tmp 6] rfl (by show 3 ≤ 42; omega) ?_
  repeat' first
  | (exact absurd hc (by decide))
  | with_reducible refine awp_seq ?_
  | with_reducible refine awp_block ?_
  | with_reducible refine awp_scope ?_
  | with_reducible refine awp_reg ?_
  | with_reducible refine awp_regD ?_
  | with_reducible refine awp_ret ?_
  | with_reducible refine awp_skip ?_
  | with_reducible refine awp_exit ?_
  | with_reducible refine normQ_of ?_
  | with_reducible refine wkE_of ?_
  | with_reducible refine midQ_of (Wk_sub rfl rfl ?_ ?_)
  | with_reducible refine runD_nil ?_
  | with_reducible refine runD_cons ?_
  | with_reducible refine runF_cons ?_
  | with_reducible refine runF_nil ?_
  | with_reducible refine KF_of ?_
  | with_reducible refine chkQ_of rfl ?_
  | with_reducible refine awp_cond (by simp only [evX, lget, Option.getD_some, reduceIte, Nat.reduceEqDiff]; rfl) (fun hc => ?_) (fun hc => ?_)
  | with_reducible refine CallU_of (f := 20) (awake18_fn) (by first | exact Or.inr (Or.inl rfl) | exact Or.inl rfl) ?_
  | with_reducible refine CallC_of (f := 20) (fun _ => awake18_fn) (by first | exact Or.inr (Or.inl rfl) | exact Or.inl rfl) ?_
  | with_reducible refine CallU_of (f := 14) (hN) (by first | exact Or.inr (Or.inl rfl) | exact Or.inl rfl) ?_
  | with_reducible refine CallC_of (f := 14) (fun _ => hN) (by first | exact Or.inr (Or.inl rfl) | exact Or.inl rfl) ?_
  | (with_reducible assumption)
  | with_reducible refine fun (hG : okL _) => ?_
  | (with_reducible refine fun (hT : (_ : Bool) = _) => ?_)
  | (with_reducible first | exact hG.2 | exact hG.2.2 | exact hG.2.2.2 | exact hG.2.2.2.2)
  | with_reducible refine okL_mk ?_ ?_
  | with_reducible refine And.intro ?_ ?_
  | simp only [f9r0, f9r1, f9r2, f9r3, f9r4, f9r5, f9r6, f9r7, f9r8, f9r9, f9r10, f9k, te29, te47, te44, List.getElem?_cons_zero, List.getElem?_cons_succ, runG_nil, runG_u, runG_g, runG_ucS, runG_gcS, runG_uvS, stp, avL, avS, evs, evX, lget, lput, strip, putO, PO.dst, updO, okR, cells, splice, AV.cell, toD, toDs, binV, sameK, pickV, guardOf, okL_nil, sides, argsOf, rawOf, dv, dvL, owns, ownsL, flat, flatL, lkeep, seqQ, blockQ, initS, List.drop_succ_cons, List.drop_zero, List.take_succ_cons, List.take_zero, List.getD_cons_zero, List.getD_cons_succ, List.length_cons, List.length_nil, List.set_cons_zero, List.set_cons_succ, List.map_cons, List.map_nil, List.all_cons, List.all_nil, List.elem_cons, List.elem_nil, Option.getD_some, Option.getD_none, Option.bind_some, Option.isNone_none, reduceIte, reduceCtorEq, Nat.reduceEqDiff, Nat.reduceAdd, Nat.reduceLeDiff, Nat.zero_add, Nat.add_zero, Nat.reduceBEq, Bool.and_self, Bool.and_true, Bool.true_and, Bool.or_self, Bool.or_false, Bool.false_or, Bool.or_true, Bool.true_or, true_and, and_true, and_self, implies_true, forall_const, Bool.false_eq_true, id_eq, retQ, resOf, resV, Option.some.injEq, exists_eq_left', AV.d.injEq, D.v.injEq, Value.bool.injEq, imp_self, bldF, bldS, toVals, eqLs, Option.map_some, imp_false, not_true_eq_false, not_false_eq_true, foot, wrs, nm, nmL, PG.reads, PG.dst, PO.reads, X.sl, sls, slB, List.append_nil, List.cons_append, List.nil_append, Option.toList_some, Option.toList_none, loopQ_exit, loopQ_ret, subS, subO, Bool.bne_false, Bool.bne_true, elemsOf, bslD, bslS, mentries, isAgV, asA, lputs, mgetD_set, mcmp_set, mput_set, List.headD_cons, sealS, sealO, sealV, sealL, mput_nil, mcmp_nil, midQ_ret, midQ_exit, sealsS, sealsO, runW_nil, runW_cons, Bool.true_bne, Bool.false_bne, bne_self_eq_false, Int.reduceToNat, bndV, oSl, resR, runS_nil, runS_gc, ren, renL, renO, sg, gBack, scopeQ_normal, scopeQ_ret, scopeQ_exit, lenB, argsN, dvN]
  all_goals first
    | rfl
    | decide
    | trace_state
theorem quotientBack_some (sh : Shape) (hs : sh.ok) (w : Int) (hw : 0 ≤ w ∧ w ≤ 255)(ns : List Int) (n : Net) (p : Int × Int) (hx : sh.netV w = some (n, p)) (hns : B16 ns) : FnS Try.prog 9 [sh.av, .d (.v (.int .u8 w)), .d (.sl 1 (ns.map wD))] (.d (.v (.bool true))) := by
  have hm : maxLen = 9223372036854775807 := rfl
  have hN := netOfF_fn sh hs w hw
  rw [hx] at hN
  simp only [netA] at hN
  obtain ⟨hsm, hmay, m, hnl, hn0⟩ := net_facts hx
  simp only at hsm hmay m hnl hn0
  have hR := rof_yes n hsm hmay
  have hfs := find_spec m
  have hl := hfs.1.len
  have hC := count_of n m (findV n) hfs.1
  have hcr := find_count hmay hn0
  obtain ⟨c, hc0⟩ := Int.eq_ofNat_of_zero_le (show 0 ≤ countV (findV n) by omega)
  have hS := some_fn ns hns c (by omega)
  have hSl := someV_len ns c
  have hUD := up_down (b := findV n) (l := someV ns c) hfs.1.can (by rw [hSl, hc0])
  generalize someV ns c = l at hS hSl hUD
  have hD := down_fn (findV n) (by omega) l (by omega)
  have hU := up_fn (findV n) (by omega) (downL (findV n) l) (by unfold downL; rw [List.length_map]; omega)
  rw [hUD] at hU
  have hSA := sameL_fn l l (by omega) (by omega)
  rw [sameL_refl] at hSA
  rw [hc0] at hC
  refine fn_of teok Try.func9 (by kernel_rfl) f9c f9k [.tmp 6] rfl (by show 3 ≤ 42; omega) ?_
  repeat' first
  | (exact absurd hc (by decide))
  | with_reducible refine awp_seq ?_
  | with_reducible refine awp_block ?_
  | with_reducible refine awp_scope ?_
  | with_reducible refine awp_reg ?_
  | with_reducible refine awp_regD ?_
  | with_reducible refine awp_ret ?_
  | with_reducible refine awp_skip ?_
  | with_reducible refine awp_exit ?_
  | with_reducible refine normQ_of ?_
  | with_reducible refine wkE_of ?_
  | with_reducible refine midQ_of (Wk_sub rfl rfl ?_ ?_)
  | with_reducible refine runD_nil ?_
  | with_reducible refine runD_cons ?_
  | with_reducible refine runF_cons ?_
  | with_reducible refine runF_nil ?_
  | with_reducible refine KF_of ?_
  | with_reducible refine chkQ_of rfl ?_
  | with_reducible refine awp_cond (by simp only [evX, lget, Option.getD_some, reduceIte, Nat.reduceEqDiff]; rfl) (fun hc => ?_) (fun hc => ?_)
  | with_reducible refine CallU_of (f := 20) (awake18_fn) (by first | exact Or.inr (Or.inl rfl) | exact Or.inl rfl) ?_
  | with_reducible refine CallC_of (f := 20) (fun _ => awake18_fn) (by first | exact Or.inr (Or.inl rfl) | exact Or.inl rfl) ?_
  | with_reducible refine CallU_of (f := 14) (hN) (by first | exact Or.inr (Or.inl rfl) | exact Or.inl rfl) ?_
  | with_reducible refine CallC_of (f := 14) (fun _ => hN) (by first | exact Or.inr (Or.inl rfl) | exact Or.inl rfl) ?_
  | with_reducible refine CallU_of (f := 12) (hR) (by first | exact Or.inr (Or.inl rfl) | exact Or.inl rfl) ?_
  | with_reducible refine CallC_of (f := 12) (fun _ => hR) (by first | exact Or.inr (Or.inl rfl) | exact Or.inl rfl) ?_
  | with_reducible refine CallU_of (f := 13) (hC) (by first | exact Or.inr (Or.inl rfl) | exact Or.inl rfl) ?_
  | with_reducible refine CallC_of (f := 13) (fun _ => hC) (by first | exact Or.inr (Or.inl rfl) | exact Or.inl rfl) ?_
  | with_reducible refine CallU_of (f := 23) (hS) (by first | exact Or.inr (Or.inl rfl) | exact Or.inl rfl) ?_
  | with_reducible refine CallC_of (f := 23) (fun _ => hS) (by first | exact Or.inr (Or.inl rfl) | exact Or.inl rfl) ?_
  | with_reducible refine CallU_of (f := 26) (hD) (by first | exact Or.inr (Or.inl rfl) | exact Or.inl rfl) ?_
  | with_reducible refine CallC_of (f := 26) (fun _ => hD) (by first | exact Or.inr (Or.inl rfl) | exact Or.inl rfl) ?_
  | with_reducible refine CallU_of (f := 25) (hU) (by first | exact Or.inr (Or.inl rfl) | exact Or.inl rfl) ?_
  | with_reducible refine CallC_of (f := 25) (fun _ => hU) (by first | exact Or.inr (Or.inl rfl) | exact Or.inl rfl) ?_
  | with_reducible refine CallU_of (f := 24) (hSA) (by first | exact Or.inr (Or.inl rfl) | exact Or.inl rfl) ?_
  | with_reducible refine CallC_of (f := 24) (fun _ => hSA) (by first | exact Or.inr (Or.inl rfl) | exact Or.inl rfl) ?_
  | (with_reducible assumption)
  | with_reducible refine fun (hG : okL _) => ?_
  | (with_reducible refine fun (hT : (_ : Bool) = _) => ?_)
  | (with_reducible first | exact hG.2 | exact hG.2.2 | exact hG.2.2.2 | exact hG.2.2.2.2)
  | with_reducible refine okL_mk ?_ ?_
  | with_reducible refine And.intro ?_ ?_
  | simp only [f9r0, f9r1, f9r2, f9r3, f9r4, f9r5, f9r6, f9r7, f9r8, f9r9, f9r10, f9k, te29, te47, te44, List.length_map, List.getElem?_cons_zero, List.getElem?_cons_succ, Int.toNat_natCast, runG_nil, runG_u, runG_g, runG_ucS, runG_gcS, runG_uvS, stp, avL, avS, evs, evX, lget, lput, strip, putO, PO.dst, updO, okR, cells, splice, AV.cell, toD, toDs, binV, sameK, pickV, guardOf, okL_nil, sides, argsOf, rawOf, dv, dvL, owns, ownsL, flat, flatL, lkeep, seqQ, blockQ, initS, List.drop_succ_cons, List.drop_zero, List.take_succ_cons, List.take_zero, List.getD_cons_zero, List.getD_cons_succ, List.length_cons, List.length_nil, List.set_cons_zero, List.set_cons_succ, List.map_cons, List.map_nil, List.all_cons, List.all_nil, List.elem_cons, List.elem_nil, Option.getD_some, Option.getD_none, Option.bind_some, Option.isNone_none, reduceIte, reduceCtorEq, Nat.reduceEqDiff, Nat.reduceAdd, Nat.reduceLeDiff, Nat.zero_add, Nat.add_zero, Nat.reduceBEq, Bool.and_self, Bool.and_true, Bool.true_and, Bool.or_self, Bool.or_false, Bool.false_or, Bool.or_true, Bool.true_or, true_and, and_true, and_self, implies_true, forall_const, Bool.false_eq_true, id_eq, retQ, resOf, resV, Option.some.injEq, exists_eq_left', AV.d.injEq, D.v.injEq, Value.bool.injEq, imp_self, bldF, bldS, toVals, eqLs, Option.map_some, imp_false, not_true_eq_false, not_false_eq_true, foot, wrs, nm, nmL, PG.reads, PG.dst, PO.reads, X.sl, sls, slB, List.append_nil, List.cons_append, List.nil_append, Option.toList_some, Option.toList_none, loopQ_exit, loopQ_ret, subS, subO, Bool.bne_false, Bool.bne_true, elemsOf, bslD, bslS, mentries, isAgV, asA, lputs, mgetD_set, mcmp_set, mput_set, List.headD_cons, sealS, sealO, sealV, sealL, mput_nil, mcmp_nil, midQ_ret, midQ_exit, sealsS, sealsO, runW_nil, runW_cons, Bool.true_bne, Bool.false_bne, bne_self_eq_false, Int.reduceToNat, bndV, oSl, resR, runS_nil, runS_gc, ren, renL, renO, sg, gBack, scopeQ_normal, scopeQ_ret, scopeQ_exit, lenB, argsN, dvN]
  all_goals try first
    | omega
    | (with_reducible rfl)
    | (show Value.int _ 0 = _; rfl)
    | (simp only [List.length_append, List.length_cons, List.length_nil]; omega)
    | (simp only [List.length_append, List.length_cons, List.length_nil, List.map_append, List.map_cons, List.map_nil]; done)
    | decide
    | rfl
  all_goals trace_state

theorem quotientBack_as (av : List AV) (h : dArgs te 8 [44, 5, 60] av) : FnS Try.prog 9 av (.d (.v (.bool true))) := by
  obtain ⟨x, _, rfl, hx, y, _, rfl, hy, z, _, rfl, hz, rfl⟩ := h
  obtain ⟨sh, rfl, hs⟩ := shape_of (n := 3) hx
  obtain ⟨w, rfl, hw⟩ := u8_row (n := 7) hy
  obtain ⟨ns, rfl, hns⟩ := u16s_of (n := 6) hz
  cases hx : sh.netV w with
  | none => exact quotientBack_none sh hs w hw ns hx
  | some x =>
    obtain ⟨n, p⟩ := x
    exact quotientBack_some sh hs w hw ns n p hx hns

set_option maxRecDepth 100000 in
theorem quotientBack_lifted (os : Os) (started : os.Started) (H : Type) (enc : TypeId × Value → H) :
    ReturnsInHanded {} Try.checked os 9 .any (Rows.quotientBackSpec.pre6 enc Try.prog Try.f9 Rows.quotientBackRow.domain false) (Rows.quotientBackSpec.post enc Try.prog Try.f9 false true false false) := by
  refine returnsInHanded_of_change (C := Try.checked) own started (by kernel_rfl) Try.func9
    (ChangeSpec.witness6 (enc := enc) (C := Try.checked) false ⟨#[], #[.agg #[.int .u8 0, .slice none 0 0, .slice none 0 0, .slice none 0 0, .slice none 0 0, .slice none 0 0], .int .u8 0, .slice none 0 0], []⟩ 8 (by kernel_rfl) (by kernel_rfl) (by kernel_rfl) (by kernel_rfl)) ?_
  intro W base args ds gs before hval hW hcnd _
  have hp : Try.f9.params.toList = [44, 5, 60] := by kernel_rfl
  refine law_calls (n := 8) (b := 4) laidOut (by rw [hp]; exact List.forall_mem_cons.2 ⟨⟨by kernel_rfl, of_decide_eq_true (by kernel_rfl)⟩, List.forall_mem_cons.2 ⟨⟨by kernel_rfl, of_decide_eq_true (by kernel_rfl)⟩, List.forall_mem_cons.2 ⟨⟨by kernel_rfl, of_decide_eq_true (by kernel_rfl)⟩, (by simp)⟩⟩⟩) (by rw [hp]; exact List.forall_mem_cons.2 ⟨by kernel_rfl, List.forall_mem_cons.2 ⟨by kernel_rfl, List.forall_mem_cons.2 ⟨by kernel_rfl, (by simp)⟩⟩⟩) rfl (by kernel_rfl) (by kernel_rfl) (fun ds hd => ?_) hval hW (GX.nil _) (fun av h => quotientBack_as av (argsT_d teok _ _ _ (by rw [hp]; exact List.forall_mem_cons.2 ⟨rfl, List.forall_mem_cons.2 ⟨rfl, List.forall_mem_cons.2 ⟨rfl, (by simp)⟩⟩⟩) h |> (hp ▸ ·)))
  have hd : ds.length = 3 := hd
  match ds, hd with
  | [_, _, _], _ => rfl
theorem quotientBack_holds : Rows.QuotientBackSaid :=
  OpenClaim.holds_of_wide 9 Try.f9 rfl rfl rfl rfl rfl rfl rfl ⟨rfl, rfl, rfl, rfl, rfl⟩ rfl rfl rfl rfl rfl (by kernel_rfl) Try.func9 (by kernel_rfl)
    (of_decide_eq_true (by kernel_rfl)) (by unfold Func.isWrapper; first | (rw [if_pos (by decide +kernel)]; kernel_rfl) | (rw [if_neg (by decide +kernel)]; exact ⟨rfl, rfl⟩))
    (fun os started H enc _ => quotientBack_lifted os started H enc)
end Go.Proofs.Ytokfackbnnkbnaa

