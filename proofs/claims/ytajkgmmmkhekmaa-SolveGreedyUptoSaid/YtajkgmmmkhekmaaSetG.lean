/- What solve.Settle hands back is the caller's own. Printed by a program of this project (wip/mq). -/
import Derived.Test.YtajkgmmmkhekmaaSweep
import Derived.Test.YtajkgmmmkhekmaaMqOwn
namespace Go.Proofs.Ytajkgmmmkhekmaa
open Go Mq Go.ChangeShapes Go.WideShapes Go.ChangeAt Go.RowKit

set_option maxRecDepth 20000
set_option maxHeartbeats 4000000
set_option linter.unusedSimpArgs false
theorem settle_fnG (n : Net) (hn : n.small) (l : List Attr) (hl : l.length ≤ 1048576) (m : Int) (hm2 : m ≤ 1000) : FnG Try.prog 33 [n.av, .d (.sl 4 (l.map Attr.row)), .d (.v (.int .i64 m))] []
    (.tp [.own 20 0, .d (.v (.bool (n.isV (n.settle (mx 0 m).toNat l))))]) [(20, .row 45 4 0 ((n.settle (mx 0 m).toNat l).map Attr.row))] := by
  have hm : maxLen = 9223372036854775807 := rfl
  have hM : (if m > 0 then m else 0) = mx 0 m := rfl
  have hM0 : 0 ≤ mx 0 m ∧ mx 0 m ≤ 1000 := by unfold mx; split <;> omega
  refine fnG_of teok Try.func33 (by kernel_rfl) f33c f33k [.tmp 6, .tmp 7] rfl (by show 3 ≤ 24; omega) ?_
  repeat' first
  | with_reducible refine awp_seq ?_
  | with_reducible refine awp_block ?_
  | with_reducible refine awp_reg ?_
  | with_reducible refine awp_regD ?_
  | with_reducible refine awp_ret ?_
  | with_reducible refine awp_skip ?_
  | with_reducible refine awp_exit ?_
  | with_reducible refine normQ_of ?_
  | with_reducible refine wkE_of ?_
  | with_reducible refine retG_ret rfl ?_ ?_
  | with_reducible refine retG_nrm rfl ?_ ?_
  | with_reducible refine midQ_of (Wk_sub rfl rfl ?_ ?_)
  | with_reducible refine runD_nil ?_
  | with_reducible refine runD_cons ?_
  | with_reducible refine runF_cons ?_
  | with_reducible refine runF_nil ?_
  | with_reducible refine KF_of ?_
  | with_reducible refine chkQ_of rfl ?_
  | with_reducible refine awp_cond (by simp only [evX, lget, Option.getD_some, reduceIte, Nat.reduceEqDiff]; rfl) (fun hc => ?_) (fun hc => ?_)
  | with_reducible refine CallU_of (f := 24) (is_fn n hn x.2 (by omega)) (by first | exact Or.inr (Or.inl rfl) | exact Or.inl rfl) ?_
  | with_reducible refine CallC_of (f := 24) (fun _ => is_fn n hn x.2 (by omega)) (by first | exact Or.inr (Or.inl rfl) | exact Or.inl rfl) ?_
  | with_reducible refine CallU_of (f := 35) (sweep_fn n hn x.2 (by omega)) (by first | exact Or.inr (Or.inl rfl) | exact Or.inl rfl) ?_
  | with_reducible refine CallC_of (f := 35) (fun _ => sweep_fn n hn x.2 (by omega)) (by first | exact Or.inr (Or.inl rfl) | exact Or.inl rfl) ?_
  | (with_reducible assumption)
  | with_reducible refine fun (hG : okL _) => ?_
  | (with_reducible refine fun (hT : (_ : Bool) = _) => ?_)
  | (with_reducible first | exact hG.2 | exact hG.2.2 | exact hG.2.2.2 | exact hG.2.2.2.2)
  | with_reducible refine okL_mk ?_ ?_
  | with_reducible refine And.intro ?_ ?_
  | (with_reducible refine awp_loopU (b := f33p3) (fun x : Nat × List Attr => (x.1 : Int) ≤ mx 0 m ∧ x.2.length = l.length ∧ n.settle ((mx 0 m).toNat - x.1) x.2 = n.settle (mx 0 m).toNat l) (fun x => (mx 0 m).toNat - x.1) (fun x => [(10, .d (.v (.int .i64 x.1))), (1, .d (.sl 4 (x.2.map Attr.row)))]) (fun x => []) ((0, l)) (⟨by simpa using hM0.1, rfl, by simp⟩) (Wk.refl _ _) (Wk_sub rfl rfl ?_ ?_) (fun x hx => ?_))
  | (with_reducible refine loopQ_next ((x.1 + 1, n.sweep x.2)) ?_ ?_ (Wk_sub rfl rfl ?_ ?_))
  | simp only [f33r0, f33r1, f33r2, f33r3, f33r4, f33r5, f33r6, f33k, hM, List.length_map, List.getElem?_cons_zero, List.getElem?_cons_succ, runG_nil, runG_u, runG_g, runG_ucS, runG_gcS, runG_uvS, stp, avL, avS, evs, evX, lget, lput, strip, putO, PO.dst, updO, okR, cells, splice, AV.cell, toD, toDs, binV, sameK, pickV, guardOf, okL_nil, sides, argsOf, rawOf, dv, dvL, owns, ownsL, flat, flatL, lkeep, seqQ, blockQ, initS, List.drop_succ_cons, List.drop_zero, List.take_succ_cons, List.take_zero, List.getD_cons_zero, List.getD_cons_succ, List.length_cons, List.length_nil, List.set_cons_zero, List.set_cons_succ, List.map_cons, List.map_nil, List.all_cons, List.all_nil, List.elem_cons, List.elem_nil, Option.getD_some, Option.getD_none, Option.bind_some, Option.isNone_none, reduceIte, reduceCtorEq, Nat.reduceEqDiff, Nat.reduceAdd, Nat.reduceLeDiff, Nat.zero_add, Nat.add_zero, Nat.reduceBEq, Bool.and_self, Bool.and_true, Bool.true_and, Bool.or_self, Bool.or_false, Bool.false_or, Bool.or_true, Bool.true_or, true_and, and_true, and_self, implies_true, forall_const, Bool.false_eq_true, id_eq, retQ, resOf, resV, Option.some.injEq, exists_eq_left', AV.d.injEq, D.v.injEq, Value.bool.injEq, imp_self, bldF, bldS, toVals, eqLs, Option.map_some, imp_false, not_true_eq_false, not_false_eq_true, foot, wrs, nm, nmL, PG.reads, PG.dst, PO.reads, X.sl, sls, slB, List.append_nil, List.cons_append, List.nil_append, Option.toList_some, Option.toList_none, loopQ_exit, loopQ_ret, subS, subO, Bool.bne_false, Bool.bne_true, elemsOf, bslD, bslS, mentries, isAgV, asA, lputs, mgetD_set, mcmp_set, mput_set, List.headD_cons, sealS, sealO, sealV, sealL, mput_nil, mcmp_nil, midQ_ret, midQ_exit, sealsS, sealsO, runW_nil, runW_cons, Bool.true_bne, Bool.false_bne, bne_self_eq_false, Int.reduceToNat, bndV, oSl, resR, runS_nil, runS_gc, ren, renL, renO, sg, gBack]
  all_goals try first
    | omega
    | (with_reducible rfl)
    | (show Value.int _ 0 = _; rfl)
    | (have h0 := of_decide_eq_true ‹decide ((x.1 : Int) < _) = true›; omega)
    | (have h0 := of_decide_eq_true ‹decide ((x.1 : Int) < _) = true›; exact count64 (n := (mx 0 m).toNat) (by omega) (by omega))
    | (rw [sweep_len]; omega)
    | (have h0 := of_decide_eq_true ‹decide ((x.1 : Int) < _) = true›; rw [← settle_step (by omega) hc]; exact hx.2.2)
    | (have h1 := hx.2.2; rw [settle_stop hc] at h1; rw [← h1]; done)
    | (have h0 := of_decide_eq_false hc; have h1 := hx.2.2; rw [show (mx 0 m).toNat - x.1 = 0 by omega, Net.settle] at h1; rw [← h1]; done)
    | (have h1 := hx.2.1; simp; omega)
  all_goals trace_state
theorem settle_fnF (n : Net) (hn : n.small) (l : List Attr) (hl : l.length ≤ 1048576) (m : Int) (hm2 : m ≤ 1000) : FnF Try.prog 33 [n.av, .d (.sl 4 (l.map Attr.row)), .d (.v (.int .i64 m))] (.tp [.d (.sl 4 ((n.settle (mx 0 m).toNat l).map Attr.row)), .d (.v (.bool (n.isV (n.settle (mx 0 m).toNat l))))]) :=
  FnF_of_FnG (settle_fnG n hn l hl m hm2) rfl ⟨flatRow_map Attr.row (fun a d hd => by simp [Attr.row] at hd; rcases hd with rfl | rfl | rfl | rfl <;> exact ⟨_, rfl⟩) _, trivial⟩
end Go.Proofs.Ytajkgmmmkhekmaa
