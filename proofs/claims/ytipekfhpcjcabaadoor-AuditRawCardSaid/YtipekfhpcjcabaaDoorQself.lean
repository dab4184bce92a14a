/- The law QuotientSelf: its walk. Printed by a program of this project (wip/mq). -/
import Derived.Test.YtipekfhpcjcabaaDoorWires
import Derived.Test.YtipekfhpcjcabaaDoorSame13
import Derived.Test.YtipekfhpcjcabaaDoorQ18
import Derived.Test.YtipekfhpcjcabaaDoorNum
import Derived.Test.YtipekfhpcjcabaaDoorMqPl12
import Derived.Test.YtipekfhpcjcabaaDoorMqPl14
set_option linter.unusedVariables false
set_option linter.unusedSimpArgs false
namespace Go.Proofs.YtipekfhpcjcabaaDoor
open Go Mq Go.ChangeShapes Go.WideShapes Go.ChangeAt Go.RowKit
/-! maquette/maquettelaw18.QuotientSelf -/
def f3r0 : List PG := [.u (.mv 6 (.k (.bool false)))]
def f3r1 : List PG := [.uc 14 9 [], .u (.no 15 (.t 14))]
def f3r2 : List PG := [.u (.mv 6 (.k (.bool false)))]
abbrev f3p0 : PC := .seq (.reg f3r2) (.ret)
abbrev f3p1 : PC := .cond (.t 15) (f3p0) (.skip)
def f3r3 : List PG := [.u (.mv 16 (.t 0)), .u (.mv 17 (.t 1)), .u (.mv 18 (.t 2)), .uc 19 10 [.t 16, .t 17, .t 18], .u (.al 7 [.nl 1, .nl 1, .nl 1]), .u (.st 3 (.t 7) (.t 19))]
def f3r4 : List PG := [.u (.mv 8 (.nl 1))]
def f3r5 : List PG := [.u (.fa 20 0 (.t 7)), .u (.ld 21 1 false (.t 20)), .u (.len 22 (.t 21)), .u (.mv 23 (.k (.int .i64 0)))]
def f3r6 : List PG := [.u (.bo 24 .lss (.t 23) (.t 22))]
def f3r7 : List PG := [.u (.mv 25 (.t 23)), .u (.mv 9 (.t 25))]
def f3r8 : List PG := [.u (.mv 26 (.t 8)), .u (.mv 27 (.t 9)), .u (.bsl 28 3 1 [.t 27]), .u (.app 29 3 1 8 (.t 26) (.t 28)), .u (.mv 8 (.t 29))]
def f3r9 : List PG := [.u (.fa 30 1 (.t 7)), .u (.ld 31 1 false (.t 30)), .u (.mv 32 (.t 9)), .u (.fa 33 1 (.t 7)), .u (.ld 34 1 false (.t 33)), .u (.mv 35 (.t 9)), .u (.ia 36 1 (.t 34) (.t 35)), .u (.ld 37 1 false (.t 36)), .u (.mx 38 false (.k (.int .i64 (-1))) (.t 37)), .u (.ia 39 1 (.t 31) (.t 32)), .u (.st 1 (.t 39) (.t 38))]
abbrev f3p2 : PC := .seq (.reg f3r8) (.regD f3r9 [])
def f3r10 : List PG := [.u (.bo 40 .add (.t 23) (.k (.int .i64 1))), .u (.mv 23 (.t 40))]
abbrev f3p3 : PC := .seq (.block 1 (.seq (.reg f3r7) (f3p2))) (.reg f3r10)
abbrev f3p4 : PC := .seq (.cond (.t 24) (.skip) (.exit 0)) (f3p3)
abbrev f3p5 : PC := .seq (.reg f3r6) (f3p4)
abbrev f3p6 : PC := .block 0 (.loop (f3p5))
def f3r11 : List PG := [.u (.ld 42 3 true (.t 7)), .u (.mv 43 (.t 8)), .uc 44 11 [.t 42, .t 43], .u (.mv 41 (.t 44)), .u (.ext 45 (.t 41) 0), .u (.ext 46 (.t 41) 1), .u (.al 10 [.nl 1, .nl 1, .nl 1]), .u (.st 3 (.t 10) (.t 45)), .u (.mv 11 (.t 46))]
def f3r12 : List PG := [.u (.ld 47 3 true (.t 7)), .uc 48 12 [.t 47], .u (.no 49 (.t 48))]
def f3r13 : List PG := [.u (.mv 50 (.t 11)), .uc 51 13 [.t 50], .u (.beq 52 false false (.t 51) (.k (.int .i64 10))), .u (.mv 6 (.t 52))]
abbrev f3p7 : PC := .seq (.reg f3r13) (.ret)
abbrev f3p8 : PC := .cond (.t 49) (f3p7) (.skip)
def f3r14 : List PG := [.u (.fa 53 1 (.t 7)), .u (.ld 54 1 false (.t 53)), .u (.len 55 (.t 54)), .u (.mv 56 (.k (.int .i64 0)))]
def f3r15 : List PG := [.u (.bo 57 .lss (.t 56) (.t 55))]
def f3r16 : List PG := [.u (.mv 58 (.t 56)), .u (.ia 59 1 (.t 54) (.t 56)), .u (.ld 60 1 false (.t 59)), .u (.mv 12 (.t 58)), .u (.mv 13 (.t 60))]
def f3r17 : List PG := [.u (.mv 61 (.t 13)), .u (.mv 62 (.t 12)), .u (.beq 63 false false (.t 61) (.t 62))]
def f3r18 : List PG := [.u (.mv 64 (.t 11)), .uc 65 13 [.t 64], .u (.beq 66 false false (.t 65) (.k (.int .i64 10))), .u (.mv 6 (.t 66))]
abbrev f3p9 : PC := .seq (.reg f3r18) (.ret)
abbrev f3p10 : PC := .cond (.t 63) (f3p9) (.skip)
abbrev f3p11 : PC := .seq (.reg f3r17) (f3p10)
def f3r19 : List PG := [.u (.bo 67 .add (.t 56) (.k (.int .i64 1))), .u (.mv 56 (.t 67))]
abbrev f3p12 : PC := .seq (.block 3 (.seq (.reg f3r16) (f3p11))) (.reg f3r19)
abbrev f3p13 : PC := .seq (.cond (.t 57) (.skip) (.exit 2)) (f3p12)
abbrev f3p14 : PC := .seq (.reg f3r15) (f3p13)
abbrev f3p15 : PC := .block 2 (.loop (f3p14))
def f3r20 : List PG := [.u (.mv 68 (.t 11)), .u (.beqn 69 false (.t 68)), .u (.mv 70 (.t 69)), .g 70 true (.ld 71 3 true (.t 10)), .g 70 true (.ld 72 3 true (.t 7)), .gc 70 true 73 14 [.t 71, .t 72], .u (.pick 74 (.t 70) (.t 73) (.k (.bool false))), .u (.mv 6 (.t 74))]
abbrev f3p16 : PC := .seq (.reg f3r20) (.ret)
abbrev f3p17 : PC := .seq (.seq (.reg f3r14) (f3p15)) (f3p16)
abbrev f3p18 : PC := .seq (.seq (.reg f3r12) (f3p8)) (f3p17)
abbrev f3p19 : PC := .seq (.reg f3r11) (f3p18)
abbrev f3p20 : PC := .seq (.seq (.reg f3r5) (f3p6)) (f3p19)
abbrev f3p21 : PC := .seq (.reg f3r4) (f3p20)
abbrev f3p22 : PC := .seq (.reg f3r3) (f3p21)
abbrev f3p23 : PC := .seq (.seq (.reg f3r1) (f3p1)) (f3p22)
abbrev f3pc : PC := .seq (.reg f3r0) (f3p23)
def f3k : List Nat := [0, 1, 2, 6, 7, 8, 9, 10, 11, 12, 13, 15, 22, 23, 24, 49, 54, 55, 56, 57, 63]
theorem f3c : Tryd.f3.body.bind (cC te Tryd.f3.ntmps) = some f3pc := by kernel_rfl
set_option maxRecDepth 20000
set_option maxHeartbeats 4000000
set_option linter.unusedSimpArgs false
set_option linter.unusedVariables false

def selfL (l : List Int) (x : Nat) : List Int := (l.take x).map (mx (-1)) ++ l.drop x
abbrev selfNet (n : Net) : Net := ⟨n.origin, selfL n.static n.origin.length, n.edges⟩
theorem selfL_len (l : List Int) (x : Nat) : (selfL l x).length = l.length := by simp [selfL]; omega
theorem selfL_get {l : List Int} {x : Nat} {v : Int} (h : l[x]? = some v) : (selfL l x)[x]? = some v := by
  obtain ⟨hx, rfl⟩ := List.getElem?_eq_some_iff.1 h
  have : ((l.take x).map (mx (-1))).length = x := by simp; omega
  rw [selfL, List.getElem?_append_right (by omega), this, Nat.sub_self, List.getElem?_drop, Nat.add_zero]
  exact h
theorem selfL_set {l : List Int} {x : Nat} {v : Int} (h : l[x]? = some v) : (selfL l x).set x (mx (-1) v) = selfL l (x + 1) := by
  obtain ⟨hx, rfl⟩ := List.getElem?_eq_some_iff.1 h
  have : ((l.take x).map (mx (-1))).length = x := by simp; omega
  rw [selfL, List.set_append_right _ _ (by omega), this, Nat.sub_self, List.drop_eq_getElem_cons hx, List.set_cons_zero, selfL, List.take_add_one, h]
  show _ = (l.take x ++ [l[x]]).map _ ++ _
  rw [List.map_append, List.append_assoc]
  rfl
theorem selfL_zero (l : List Int) : selfL l 0 = l := by simp [selfL]
theorem selfL_end {l : List Int} {x : Nat} (h : l.length ≤ x) : selfL l x = l.map (mx (-1)) := by simp [selfL, List.take_of_length_le h, List.drop_eq_nil_of_le h]
theorem self_tiny {n : Net} (h : n.tiny) : (selfNet n).tiny := ⟨h.origin, by simp [selfL_len, h.static], h.edges, h.row, h.edge⟩
theorem self_ge {n : Net} (h : n.tiny) : ∀ st ∈ (selfNet n).static, -1 ≤ st := by
  intro st hs
  rw [show (selfNet n).static = n.static.map (mx (-1)) from selfL_end (by have := h.static; omega)] at hs
  obtain ⟨v, _, rfl⟩ := List.mem_map.1 hs
  rw [mx_eq]; split <;> omega
theorem idS_set {e s g : Nat} (L : List Int) (k : Nat) (c : Int) : AO.row e s g ((L.map iD).set k [.v (.int .i64 c)]) = AO.row e s g ((L.set k c).map iD) := by rw [show [D.v (.int .i64 c)] = iD c from rfl, row_set]
theorem selfL_row {l : List Int} {x : Nat} {v : Int} (h : l[x]? = some v) : ((selfL l x).map iD).getD (Int.toNat (x : Int)) [] = iD v := by simp [List.getD, selfL_get h]

theorem qself_of (o : List Bool) (ho : o.length ≤ maxLen) (st : List Int) (hst : st.length ≤ maxLen) (ws : List (List Wire)) (hws : WsOk ws) (n : Net) (hn : wiresV o st ws = n) (hmay : (selfNet n).may = true) : FnS Tryd.prog 3 [.d (.sl 1 (o.map bD)), .d (.sl 1 (st.map fun x => [D.v (.int .i8 x)])), .d (.sl 1 (ws.map wsD))] (.d (.v (.bool true))) := by
  have hm : maxLen = 9223372036854775807 := rfl
  have hT := wiresV_tiny o st ws
  have hW := wires_fnG o ho st hst ws hws
  rw [hn] at hT hW
  have t1 := hT.origin
  have t2 := hT.static
  have t3 := hT.edges
  have hsl := (self_tiny hT).small
  have hM := may_fn (selfNet n) hsl.ok
  rw [hmay] at hM
  have hQ := quot_fn (selfNet n) hsl.ok (idL n.origin.length) (by rw [idL_len]; omega)
  have hq := quot_id hmay (self_ge hT)
  rw [show (selfNet n).origin.length = n.origin.length from rfl] at hq
  rw [hq] at hQ
  replace hQ : FnS Tryd.prog 11 [(selfNet n).av, .d (.sl 1 ((idL n.origin.length).map iD))] (.tp [(selfNet n).av, .d (.v .nilIface)]) := hQ
  have hS := same_self (selfNet n) hsl.ok
  have hsp := Net.may_spec hmay
  refine fn_of teok Tryd.func3 (by kernel_rfl) f3c f3k [.tmp 6] rfl (by show 3 ≤ 75; omega) ?_
  repeat' first
  | (exact absurd hc (by decide))
  | (with_reducible refine awp_sc (l := f3r3) [(3, .gc [] [] [])] ?_; unfold f3r3)
  | (with_reducible refine awp_exit_seal (i := 0) [27, 42, 70, 29] ?_)
  | with_reducible refine awp_seq ?_
  | with_reducible refine awp_block ?_
  | with_reducible refine awp_scope ?_
  | with_reducible refine awp_reg ?_
  | with_reducible refine awp_regD ?_
  | with_reducible refine awp_ret ?_
  | with_reducible refine awp_skip ?_
  | with_reducible refine awp_exit ?_
  | with_reducible refine normQ_of ?_
  | with_reducible refine wkE_of ?_
  | with_reducible refine midQ_of (Wk_sub rfl rfl ?_ ?_)
  | with_reducible refine runD_nil ?_
  | with_reducible refine runD_cons ?_
  | with_reducible refine runF_cons ?_
  | with_reducible refine runF_nil ?_
  | with_reducible refine KF_of ?_
  | with_reducible refine chkQ_of rfl ?_
  | with_reducible refine awp_cond (by simp only [evX, lget, Option.getD_some, reduceIte, Nat.reduceEqDiff]; rfl) (fun hc => ?_) (fun hc => ?_)
  | with_reducible refine gc_of (f := 10) (hW) ?_ rfl rfl rfl rfl (Or.inl rfl) ?_
  | with_reducible refine CallU_of (f := 9) (awake18_fn) (by first | exact Or.inr (Or.inl rfl) | exact Or.inl rfl) ?_
  | with_reducible refine CallC_of (f := 9) (fun _ => awake18_fn) (by first | exact Or.inr (Or.inl rfl) | exact Or.inl rfl) ?_
  | with_reducible refine CallU_of (f := 11) (hQ) (by first | exact Or.inr (Or.inl rfl) | exact Or.inl rfl) ?_
  | with_reducible refine CallC_of (f := 11) (fun _ => hQ) (by first | exact Or.inr (Or.inl rfl) | exact Or.inl rfl) ?_
  | with_reducible refine CallU_of (f := 12) (hM) (by first | exact Or.inr (Or.inl rfl) | exact Or.inl rfl) ?_
  | with_reducible refine CallC_of (f := 12) (fun _ => hM) (by first | exact Or.inr (Or.inl rfl) | exact Or.inl rfl) ?_
  | with_reducible refine CallU_of (f := 13) (number_nil) (by first | exact Or.inr (Or.inl rfl) | exact Or.inl rfl) ?_
  | with_reducible refine CallC_of (f := 13) (fun _ => number_nil) (by first | exact Or.inr (Or.inl rfl) | exact Or.inl rfl) ?_
  | with_reducible refine CallU_of (f := 14) (hS) (by first | exact Or.inr (Or.inl rfl) | exact Or.inl rfl) ?_
  | with_reducible refine CallC_of (f := 14) (fun _ => hS) (by first | exact Or.inr (Or.inl rfl) | exact Or.inl rfl) ?_
  | (with_reducible assumption)
  | with_reducible refine fun (hG : okL _) => ?_
  | (with_reducible refine fun (hT : (_ : Bool) = _) => ?_)
  | (with_reducible first | exact hG.2 | exact hG.2.2 | exact hG.2.2.2 | exact hG.2.2.2.2)
  | with_reducible refine okL_mk ?_ ?_
  | with_reducible refine And.intro ?_ ?_
  | (with_reducible refine awp_loopU (b := f3p5) (fun i : Nat => i ≤ n.origin.length) (fun i => n.origin.length - i) (fun i => [(23, .d (.v (.int .i64 i))), (8, .own 29 i)]) (fun i => [(29, .row 3 1 i ((idL i).map iD)), (42, .row 3 1 n.static.length ((selfL n.static i).map iD))]) (0) (Nat.zero_le _) (Wk_nl 8 29 3 rfl rfl (by decide)) (Wk_sub rfl rfl ?_ ?_) (fun i hi => ?_))
  | (refine Exists.elim (at_drop iD n.static i (by have := Int.ofNat_lt.1 (of_decide_eq_true (show decide ((i : Int) < n.origin.length) = true from hc)); omega)) (fun v he => ?_); have g1 := selfL_row he.2.2.1; have hlt : i < n.origin.length := Int.ofNat_lt.1 (of_decide_eq_true (show decide ((i : Int) < n.origin.length) = true from hc)); replace hc : True := trivial)
  | (with_reducible refine loopQ_next (i + 1) ?_ ?_ (Wk_sub rfl rfl ?_ ?_))
  | (have _q : decide ((i : Int) < n.origin.length) = false := hc; have hie : i = n.origin.length := (by have := of_decide_eq_false _q; omega); subst hie; replace hc : True := trivial)
  | (with_reducible refine awp_loopU (b := f3p14) (fun j : Nat × Unit => j.1 ≤ n.static.length) (fun j => n.static.length - j.1) (fun j => [(56, .d (.v (.int .i64 j.1)))]) (fun j => []) ((0, ())) (Nat.zero_le _) (Wk.refl _ _) (Wk_sub rfl rfl ?_ ?_) (fun j hi => ?_))
  | (refine Exists.elim (at_drop iD (selfNet n).static j.1 (by have := Int.ofNat_lt.1 (of_decide_eq_true (show decide ((j.1 : Int) < n.static.length) = true from hc)); rw [selfL_len]; omega)) (fun v he => ?_); have g1 := he.2.1; have hlt : j.1 < n.static.length := Int.ofNat_lt.1 (of_decide_eq_true (show decide ((j.1 : Int) < n.static.length) = true from hc)); replace hc : True := trivial)
  | (with_reducible refine loopQ_next ((j.1 + 1, ())) ?_ ?_ (Wk_sub rfl rfl ?_ ?_))
  | simp only [f3r0, f3r1, f3r2, f3r4, f3r5, f3r6, f3r7, f3r8, f3r9, f3r10, f3r11, f3r12, f3r13, f3r14, f3r15, f3r16, f3r17, f3r18, f3r19, f3r20, g1, f3k, te29, List.length_map, selfL_len, List.getElem?_cons_zero, List.getElem?_cons_succ, runG_nil, runG_u, runG_g, runG_ucS, runG_gcS, runG_uvS, stp, avL, avS, evs, evX, lget, lput, strip, putO, PO.dst, updO, okR, cells, splice, AV.cell, toD, toDs, binV, sameK, pickV, guardOf, okL_nil, sides, argsOf, rawOf, dv, dvL, owns, ownsL, flat, flatL, lkeep, seqQ, blockQ, initS, List.drop_succ_cons, List.drop_zero, List.take_succ_cons, List.take_zero, List.getD_cons_zero, List.getD_cons_succ, List.length_cons, List.length_nil, List.set_cons_zero, List.set_cons_succ, List.map_cons, List.map_nil, List.all_cons, List.all_nil, List.elem_cons, List.elem_nil, Option.getD_some, Option.getD_none, Option.bind_some, Option.isNone_none, reduceIte, reduceCtorEq, Nat.reduceEqDiff, Nat.reduceAdd, Nat.reduceLeDiff, Nat.zero_add, Nat.add_zero, Nat.reduceBEq, Bool.and_self, Bool.and_true, Bool.true_and, Bool.or_self, Bool.or_false, Bool.false_or, Bool.or_true, Bool.true_or, true_and, and_true, and_self, implies_true, forall_const, Bool.false_eq_true, id_eq, retQ, resOf, resV, Option.some.injEq, exists_eq_left', AV.d.injEq, D.v.injEq, Value.bool.injEq, imp_self, bldF, bldS, toVals, eqLs, Option.map_some, imp_false, not_true_eq_false, not_false_eq_true, foot, wrs, nm, nmL, PG.reads, PG.dst, PO.reads, X.sl, sls, slB, List.append_nil, List.cons_append, List.nil_append, Option.toList_some, Option.toList_none, loopQ_exit, loopQ_ret, subS, subO, Bool.bne_false, Bool.bne_true, elemsOf, bslD, bslS, mentries, isAgV, asA, lputs, mgetD_set, mcmp_set, mput_set, List.headD_cons, sealS, sealO, sealV, sealL, mput_nil, mcmp_nil, midQ_ret, midQ_exit, sealsS, sealsO, runW_nil, runW_cons, Bool.true_bne, Bool.false_bne, bne_self_eq_false, Int.reduceToNat, bndV, oSl, resR, runS_nil, runS_gc, ren, renL, renO, sg, gBack, scopeQ_normal, scopeQ_ret, scopeQ_exit, lenB, argsN, dvN]
  | simp only [f3r0, f3r1, f3r2, f3r4, f3r5, f3r6, f3r7, f3r8, f3r9, f3r10, f3r11, f3r12, f3r13, f3r14, f3r15, f3r16, f3r17, f3r18, f3r19, f3r20, f3k, te29, List.length_map, selfL_len, List.getElem?_cons_zero, List.getElem?_cons_succ, runG_nil, runG_u, runG_g, runG_ucS, runG_gcS, runG_uvS, stp, avL, avS, evs, evX, lget, lput, strip, putO, PO.dst, updO, okR, cells, splice, AV.cell, toD, toDs, binV, sameK, pickV, guardOf, okL_nil, sides, argsOf, rawOf, dv, dvL, owns, ownsL, flat, flatL, lkeep, seqQ, blockQ, initS, List.drop_succ_cons, List.drop_zero, List.take_succ_cons, List.take_zero, List.getD_cons_zero, List.getD_cons_succ, List.length_cons, List.length_nil, List.set_cons_zero, List.set_cons_succ, List.map_cons, List.map_nil, List.all_cons, List.all_nil, List.elem_cons, List.elem_nil, Option.getD_some, Option.getD_none, Option.bind_some, Option.isNone_none, reduceIte, reduceCtorEq, Nat.reduceEqDiff, Nat.reduceAdd, Nat.reduceLeDiff, Nat.zero_add, Nat.add_zero, Nat.reduceBEq, Bool.and_self, Bool.and_true, Bool.true_and, Bool.or_self, Bool.or_false, Bool.false_or, Bool.or_true, Bool.true_or, true_and, and_true, and_self, implies_true, forall_const, Bool.false_eq_true, id_eq, retQ, resOf, resV, Option.some.injEq, exists_eq_left', AV.d.injEq, D.v.injEq, Value.bool.injEq, imp_self, bldF, bldS, toVals, eqLs, Option.map_some, imp_false, not_true_eq_false, not_false_eq_true, foot, wrs, nm, nmL, PG.reads, PG.dst, PO.reads, X.sl, sls, slB, List.append_nil, List.cons_append, List.nil_append, Option.toList_some, Option.toList_none, loopQ_exit, loopQ_ret, subS, subO, Bool.bne_false, Bool.bne_true, elemsOf, bslD, bslS, mentries, isAgV, asA, lputs, mgetD_set, mcmp_set, mput_set, List.headD_cons, sealS, sealO, sealV, sealL, mput_nil, mcmp_nil, midQ_ret, midQ_exit, sealsS, sealsO, runW_nil, runW_cons, Bool.true_bne, Bool.false_bne, bne_self_eq_false, Int.reduceToNat, bndV, oSl, resR, runS_nil, runS_gc, ren, renL, renO, sg, gBack, scopeQ_normal, scopeQ_ret, scopeQ_exit, lenB, argsN, dvN]
  all_goals try first
    | omega
    | (with_reducible rfl)
    | exact count64 he.2.2.2 (by omega)
    | (rw [selfL_len]; omega)
    | (rw [Int.toNat_natCast, show (if v > -1 then v else -1) = mx (-1) v from rfl, idS_set, selfL_set he.2.2.1]; done)
    | (show AO.row 3 1 0 [] = _; rfl)
    | (rw [idL_succ, List.map_append]; rfl)
    | (rw [idL_len]; done)
    | (rw [idL_len]; omega)
    | (rw [selfL_zero]; done)
    | decide
    | exact count64 hlt (by omega)
    | (exfalso; have hvj : v = (j.1 : Int) := (by simpa using hc); have hvg := hsp.via j.1 v he.2.2.1 (by omega); obtain ⟨es, h1, e, h2, h3⟩ := hvg; exact (hsp.src j.1 es h1 e h2).2.2 (by omega))
    | (show Value.int _ 0 = _; rfl)
  all_goals trace_state

theorem qself_no (o : List Bool) (ho : o.length ≤ maxLen) (st : List Int) (hst : st.length ≤ maxLen) (ws : List (List Wire)) (hws : WsOk ws) (n : Net) (hn : wiresV o st ws = n) (hmay : (selfNet n).may = false) : FnS Tryd.prog 3 [.d (.sl 1 (o.map bD)), .d (.sl 1 (st.map fun x => [D.v (.int .i8 x)])), .d (.sl 1 (ws.map wsD))] (.d (.v (.bool true))) := by
  have hm : maxLen = 9223372036854775807 := rfl
  have hT := wiresV_tiny o st ws
  have hW := wires_fnG o ho st hst ws hws
  rw [hn] at hT hW
  have t1 := hT.origin
  have t2 := hT.static
  have t3 := hT.edges
  have hsl := (self_tiny hT).small
  have hM := may_fn (selfNet n) hsl.ok
  rw [hmay] at hM
  have hQ := quot_fn (selfNet n) hsl.ok (idL n.origin.length) (by rw [idL_len]; omega)
  have hq : (selfNet n).quot (idL n.origin.length) = none := by
    have hf : (selfNet n).firsts (idL n.origin.length) = none := by unfold Net.firsts; rw [if_pos (by simp [hmay])]
    simp [Net.quot, hf]
  rw [hq] at hQ
  replace hQ : FnS Tryd.prog 11 [(selfNet n).av, .d (.sl 1 ((idL n.origin.length).map iD))] (.tp [Net.av ⟨[], [], []⟩, .d (.v (.iface 37 (.int .i64 10)))]) := hQ
  refine fn_of teok Tryd.func3 (by kernel_rfl) f3c f3k [.tmp 6] rfl (by show 3 ≤ 75; omega) ?_
  repeat' first
  | (exact absurd hc (by decide))
  | (with_reducible refine awp_sc (l := f3r3) [(3, .gc [] [] [])] ?_; unfold f3r3)
  | (with_reducible refine awp_exit_seal (i := 0) [27, 42, 70, 29] ?_)
  | with_reducible refine awp_seq ?_
  | with_reducible refine awp_block ?_
  | with_reducible refine awp_scope ?_
  | with_reducible refine awp_reg ?_
  | with_reducible refine awp_regD ?_
  | with_reducible refine awp_ret ?_
  | with_reducible refine awp_skip ?_
  | with_reducible refine awp_exit ?_
  | with_reducible refine normQ_of ?_
  | with_reducible refine wkE_of ?_
  | with_reducible refine midQ_of (Wk_sub rfl rfl ?_ ?_)
  | with_reducible refine runD_nil ?_
  | with_reducible refine runD_cons ?_
  | with_reducible refine runF_cons ?_
  | with_reducible refine runF_nil ?_
  | with_reducible refine KF_of ?_
  | with_reducible refine chkQ_of rfl ?_
  | with_reducible refine awp_cond (by simp only [evX, lget, Option.getD_some, reduceIte, Nat.reduceEqDiff]; rfl) (fun hc => ?_) (fun hc => ?_)
  | with_reducible refine gc_of (f := 10) (hW) ?_ rfl rfl rfl rfl (Or.inl rfl) ?_
  | with_reducible refine CallU_of (f := 9) (awake18_fn) (by first | exact Or.inr (Or.inl rfl) | exact Or.inl rfl) ?_
  | with_reducible refine CallC_of (f := 9) (fun _ => awake18_fn) (by first | exact Or.inr (Or.inl rfl) | exact Or.inl rfl) ?_
  | with_reducible refine CallU_of (f := 11) (hQ) (by first | exact Or.inr (Or.inl rfl) | exact Or.inl rfl) ?_
  | with_reducible refine CallC_of (f := 11) (fun _ => hQ) (by first | exact Or.inr (Or.inl rfl) | exact Or.inl rfl) ?_
  | with_reducible refine CallU_of (f := 12) (hM) (by first | exact Or.inr (Or.inl rfl) | exact Or.inl rfl) ?_
  | with_reducible refine CallC_of (f := 12) (fun _ => hM) (by first | exact Or.inr (Or.inl rfl) | exact Or.inl rfl) ?_
  | with_reducible refine CallU_of (f := 13) (number_hit 10) (by first | exact Or.inr (Or.inl rfl) | exact Or.inl rfl) ?_
  | with_reducible refine CallC_of (f := 13) (fun _ => number_hit 10) (by first | exact Or.inr (Or.inl rfl) | exact Or.inl rfl) ?_
  | (with_reducible assumption)
  | with_reducible refine fun (hG : okL _) => ?_
  | (with_reducible refine fun (hT : (_ : Bool) = _) => ?_)
  | (with_reducible first | exact hG.2 | exact hG.2.2 | exact hG.2.2.2 | exact hG.2.2.2.2)
  | with_reducible refine okL_mk ?_ ?_
  | with_reducible refine And.intro ?_ ?_
  | (with_reducible refine awp_loopU (b := f3p5) (fun i : Nat => i ≤ n.origin.length) (fun i => n.origin.length - i) (fun i => [(23, .d (.v (.int .i64 i))), (8, .own 29 i)]) (fun i => [(29, .row 3 1 i ((idL i).map iD)), (42, .row 3 1 n.static.length ((selfL n.static i).map iD))]) (0) (Nat.zero_le _) (Wk_nl 8 29 3 rfl rfl (by decide)) (Wk_sub rfl rfl ?_ ?_) (fun i hi => ?_))
  | (refine Exists.elim (at_drop iD n.static i (by have := Int.ofNat_lt.1 (of_decide_eq_true (show decide ((i : Int) < n.origin.length) = true from hc)); omega)) (fun v he => ?_); have g1 := selfL_row he.2.2.1; have hlt : i < n.origin.length := Int.ofNat_lt.1 (of_decide_eq_true (show decide ((i : Int) < n.origin.length) = true from hc)); replace hc : True := trivial)
  | (with_reducible refine loopQ_next (i + 1) ?_ ?_ (Wk_sub rfl rfl ?_ ?_))
  | (have _q : decide ((i : Int) < n.origin.length) = false := hc; have hie : i = n.origin.length := (by have := of_decide_eq_false _q; omega); subst hie; replace hc : True := trivial)
  | simp only [f3r0, f3r1, f3r2, f3r4, f3r5, f3r6, f3r7, f3r8, f3r9, f3r10, f3r11, f3r12, f3r13, f3r14, f3r15, f3r16, f3r17, f3r18, f3r19, f3r20, g1, f3k, te29, List.length_map, selfL_len, List.getElem?_cons_zero, List.getElem?_cons_succ, runG_nil, runG_u, runG_g, runG_ucS, runG_gcS, runG_uvS, stp, avL, avS, evs, evX, lget, lput, strip, putO, PO.dst, updO, okR, cells, splice, AV.cell, toD, toDs, binV, sameK, pickV, guardOf, okL_nil, sides, argsOf, rawOf, dv, dvL, owns, ownsL, flat, flatL, lkeep, seqQ, blockQ, initS, List.drop_succ_cons, List.drop_zero, List.take_succ_cons, List.take_zero, List.getD_cons_zero, List.getD_cons_succ, List.length_cons, List.length_nil, List.set_cons_zero, List.set_cons_succ, List.map_cons, List.map_nil, List.all_cons, List.all_nil, List.elem_cons, List.elem_nil, Option.getD_some, Option.getD_none, Option.bind_some, Option.isNone_none, reduceIte, reduceCtorEq, Nat.reduceEqDiff, Nat.reduceAdd, Nat.reduceLeDiff, Nat.zero_add, Nat.add_zero, Nat.reduceBEq, Bool.and_self, Bool.and_true, Bool.true_and, Bool.or_self, Bool.or_false, Bool.false_or, Bool.or_true, Bool.true_or, true_and, and_true, and_self, implies_true, forall_const, Bool.false_eq_true, id_eq, retQ, resOf, resV, Option.some.injEq, exists_eq_left', AV.d.injEq, D.v.injEq, Value.bool.injEq, imp_self, bldF, bldS, toVals, eqLs, Option.map_some, imp_false, not_true_eq_false, not_false_eq_true, foot, wrs, nm, nmL, PG.reads, PG.dst, PO.reads, X.sl, sls, slB, List.append_nil, List.cons_append, List.nil_append, Option.toList_some, Option.toList_none, loopQ_exit, loopQ_ret, subS, subO, Bool.bne_false, Bool.bne_true, elemsOf, bslD, bslS, mentries, isAgV, asA, lputs, mgetD_set, mcmp_set, mput_set, List.headD_cons, sealS, sealO, sealV, sealL, mput_nil, mcmp_nil, midQ_ret, midQ_exit, sealsS, sealsO, runW_nil, runW_cons, Bool.true_bne, Bool.false_bne, bne_self_eq_false, Int.reduceToNat, bndV, oSl, resR, runS_nil, runS_gc, ren, renL, renO, sg, gBack, scopeQ_normal, scopeQ_ret, scopeQ_exit, lenB, argsN, dvN]
  | simp only [f3r0, f3r1, f3r2, f3r4, f3r5, f3r6, f3r7, f3r8, f3r9, f3r10, f3r11, f3r12, f3r13, f3r14, f3r15, f3r16, f3r17, f3r18, f3r19, f3r20, f3k, te29, List.length_map, selfL_len, List.getElem?_cons_zero, List.getElem?_cons_succ, runG_nil, runG_u, runG_g, runG_ucS, runG_gcS, runG_uvS, stp, avL, avS, evs, evX, lget, lput, strip, putO, PO.dst, updO, okR, cells, splice, AV.cell, toD, toDs, binV, sameK, pickV, guardOf, okL_nil, sides, argsOf, rawOf, dv, dvL, owns, ownsL, flat, flatL, lkeep, seqQ, blockQ, initS, List.drop_succ_cons, List.drop_zero, List.take_succ_cons, List.take_zero, List.getD_cons_zero, List.getD_cons_succ, List.length_cons, List.length_nil, List.set_cons_zero, List.set_cons_succ, List.map_cons, List.map_nil, List.all_cons, List.all_nil, List.elem_cons, List.elem_nil, Option.getD_some, Option.getD_none, Option.bind_some, Option.isNone_none, reduceIte, reduceCtorEq, Nat.reduceEqDiff, Nat.reduceAdd, Nat.reduceLeDiff, Nat.zero_add, Nat.add_zero, Nat.reduceBEq, Bool.and_self, Bool.and_true, Bool.true_and, Bool.or_self, Bool.or_false, Bool.false_or, Bool.or_true, Bool.true_or, true_and, and_true, and_self, implies_true, forall_const, Bool.false_eq_true, id_eq, retQ, resOf, resV, Option.some.injEq, exists_eq_left', AV.d.injEq, D.v.injEq, Value.bool.injEq, imp_self, bldF, bldS, toVals, eqLs, Option.map_some, imp_false, not_true_eq_false, not_false_eq_true, foot, wrs, nm, nmL, PG.reads, PG.dst, PO.reads, X.sl, sls, slB, List.append_nil, List.cons_append, List.nil_append, Option.toList_some, Option.toList_none, loopQ_exit, loopQ_ret, subS, subO, Bool.bne_false, Bool.bne_true, elemsOf, bslD, bslS, mentries, isAgV, asA, lputs, mgetD_set, mcmp_set, mput_set, List.headD_cons, sealS, sealO, sealV, sealL, mput_nil, mcmp_nil, midQ_ret, midQ_exit, sealsS, sealsO, runW_nil, runW_cons, Bool.true_bne, Bool.false_bne, bne_self_eq_false, Int.reduceToNat, bndV, oSl, resR, runS_nil, runS_gc, ren, renL, renO, sg, gBack, scopeQ_normal, scopeQ_ret, scopeQ_exit, lenB, argsN, dvN]
  all_goals try first
    | omega
    | (with_reducible rfl)
    | exact count64 he.2.2.2 (by omega)
    | (rw [selfL_len]; omega)
    | (rw [Int.toNat_natCast, show (if v > -1 then v else -1) = mx (-1) v from rfl, idS_set, selfL_set he.2.2.1]; done)
    | (show AO.row 3 1 0 [] = _; rfl)
    | (rw [idL_succ, List.map_append]; rfl)
    | (rw [idL_len]; done)
    | (rw [idL_len]; omega)
    | (rw [selfL_zero]; done)
    | decide
    | exact count64 hlt (by omega)
    | (exfalso; have hvj : v = (j.1 : Int) := (by simpa using hc); have hvg := hsp.via j.1 v he.2.2.1 (by omega); obtain ⟨es, h1, e, h2, h3⟩ := hvg; exact (hsp.src j.1 es h1 e h2).2.2 (by omega))
    | (show Value.int _ 0 = _; rfl)
  all_goals trace_state

theorem qself_fn (o : List Bool) (ho : o.length ≤ maxLen) (st : List Int) (hst : st.length ≤ maxLen) (ws : List (List Wire)) (hws : WsOk ws) : FnS Tryd.prog 3 [.d (.sl 1 (o.map bD)), .d (.sl 1 (st.map fun x => [D.v (.int .i8 x)])), .d (.sl 1 (ws.map wsD))] (.d (.v (.bool true))) := by
  cases h : (selfNet (wiresV o st ws)).may
  · exact qself_no o ho st hst ws hws _ rfl h
  · exact qself_of o ho st hst ws hws _ rfl h
end Go.Proofs.YtipekfhpcjcabaaDoor
