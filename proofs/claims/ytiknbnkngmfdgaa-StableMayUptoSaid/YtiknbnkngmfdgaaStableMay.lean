/- The law StableMay: whatever the input, if what it reads is of bulk at most 1048576, it returns true and changes nothing. Printed by a program of this project (wip/mq). -/
import Derived.Test.YtiknbnkngmfdgaaWires
import Derived.Test.YtiknbnkngmfdgaaExamples
import Derived.Test.YtiknbnkngmfdgaaArgs
namespace Go.Proofs.Ytiknbnkngmfdgaa
open Go Mq Go.ChangeShapes Go.WideShapes Go.ChangeAt Go.RowKit
/-! maquette/maquettelaw15.StableMay -/
def f5r0 : List PG := [.u (.mv 6 (.k (.bool false)))]
def f5r1 : List PG := [.uc 17 11 [], .u (.no 18 (.t 17))]
def f5r2 : List PG := [.u (.mv 6 (.k (.bool false)))]
abbrev f5p0 : PC := .seq (.reg f5r2) (.ret)
abbrev f5p1 : PC := .cond (.t 18) (f5p0) (.skip)
def f5r3 : List PG := [.u (.mv 19 (.t 0)), .u (.mv 20 (.t 1)), .u (.mv 21 (.t 2)), .uc 22 20 [.t 19, .t 20, .t 21], .u (.al 7 [.nl 1, .nl 1, .nl 1]), .u (.st 3 (.t 7) (.t 22))]
def f5r4 : List PG := [.u (.mv 8 (.k (.bool true)))]
def f5r5 : List PG := [.u (.fa 23 2 (.t 7)), .u (.ld 24 1 false (.t 23)), .u (.len 25 (.t 24)), .u (.mv 26 (.k (.int .i64 0)))]
def f5r6 : List PG := [.u (.bo 27 .lss (.t 26) (.t 25))]
def f5r7 : List PG := [.u (.mv 28 (.t 26)), .u (.ia 29 1 (.t 24) (.t 26)), .u (.ld 30 1 false (.t 29)), .u (.mv 9 (.t 28)), .u (.mv 10 (.t 30))]
def f5r8 : List PG := [.u (.fa 31 1 (.t 7)), .u (.ld 32 1 false (.t 31)), .u (.mv 33 (.t 9)), .u (.ia 34 1 (.t 32) (.t 33)), .u (.ld 35 1 false (.t 34)), .u (.bo 36 .lss (.t 35) (.k (.int .i64 0))), .u (.mv 11 (.t 36))]
def f5r9 : List PG := [.u (.mv 37 (.t 10)), .u (.len 38 (.t 37)), .u (.mv 39 (.k (.int .i64 0)))]
def f5r10 : List PG := [.u (.bo 40 .lss (.t 39) (.t 38))]
def f5r11 : List PG := [.u (.mv 41 (.t 39)), .u (.ia 42 4 (.t 37) (.t 39)), .u (.ld 43 4 true (.t 42)), .u (.al 13 [.d (.v (.int .i64 0)), .d (.v (.int .i64 0)), .nl 10, .nl 10]), .u (.mv 12 (.t 41)), .u (.st 4 (.t 13) (.t 43))]
def f5r12 : List PG := [.u (.fa 44 0 (.t 13)), .u (.ld 45 1 false (.t 44)), .u (.bo 46 .lss (.t 45) (.k (.int .i64 0))), .u (.mv 47 (.t 46)), .g 47 false (.fa 48 0 (.t 13)), .g 47 false (.ld 49 1 false (.t 48)), .g 47 false (.fa 50 0 (.t 7)), .g 47 false (.ld 51 1 false (.t 50)), .g 47 false (.len 52 (.t 51)), .g 47 false (.bo 53 .geq (.t 49) (.t 52)), .u (.pick 54 (.t 47) (.k (.bool true)) (.t 53)), .u (.mv 55 (.t 54)), .g 55 false (.fa 56 0 (.t 13)), .g 55 false (.ld 57 1 false (.t 56)), .g 55 false (.mv 58 (.t 9)), .g 55 false (.beq 59 false false (.t 57) (.t 58)), .u (.pick 60 (.t 55) (.k (.bool true)) (.t 59))]
def f5r13 : List PG := [.u (.mv 8 (.k (.bool false)))]
abbrev f5p2 : PC := .cond (.t 60) (.reg f5r13) (.skip)
def f5r14 : List PG := [.u (.mv 61 (.t 10)), .u (.mv 62 (.t 12)), .u (.slc 63 4 (.t 61) none (some (.t 62))), .u (.len 64 (.t 63)), .u (.mv 65 (.k (.int .i64 0)))]
def f5r15 : List PG := [.u (.bo 66 .lss (.t 65) (.t 64))]
def f5r16 : List PG := [.u (.ia 67 4 (.t 63) (.t 65)), .u (.ld 68 4 true (.t 67)), .u (.al 15 [.d (.v (.int .i64 0)), .d (.v (.int .i64 0)), .nl 10, .nl 10]), .u (.st 4 (.t 15) (.t 68))]
def f5r17 : List PG := [.u (.fa 69 0 (.t 15)), .u (.ld 70 1 false (.t 69)), .u (.fa 71 0 (.t 13)), .u (.ld 72 1 false (.t 71)), .u (.beq 73 false false (.t 70) (.t 72))]
def f5r18 : List PG := [.u (.mv 8 (.k (.bool false)))]
abbrev f5p3 : PC := .cond (.t 73) (.reg f5r18) (.skip)
abbrev f5p4 : PC := .seq (.reg f5r17) (f5p3)
def f5r19 : List PG := [.u (.bo 74 .add (.t 65) (.k (.int .i64 1))), .u (.mv 65 (.t 74))]
abbrev f5p5 : PC := .seq (.block 5 (.seq (.reg f5r16) (f5p4))) (.reg f5r19)
abbrev f5p6 : PC := .seq (.cond (.t 66) (.skip) (.exit 4)) (f5p5)
abbrev f5p7 : PC := .seq (.reg f5r15) (f5p6)
abbrev f5p8 : PC := .block 4 (.loop (f5p7))
def f5r20 : List PG := [.u (.mv 75 (.t 11)), .u (.mv 76 (.t 75)), .g 76 false (.fa 77 0 (.t 13)), .g 76 false (.ld 78 1 false (.t 77)), .g 76 false (.fa 79 1 (.t 7)), .g 76 false (.ld 80 1 false (.t 79)), .g 76 false (.mv 81 (.t 9)), .g 76 false (.ia 82 1 (.t 80) (.t 81)), .g 76 false (.ld 83 1 false (.t 82)), .g 76 false (.beq 84 false false (.t 78) (.t 83)), .u (.pick 85 (.t 76) (.k (.bool true)) (.t 84)), .u (.mv 11 (.t 85))]
abbrev f5p9 : PC := .seq (.seq (.reg f5r14) (f5p8)) (.regD f5r20 [])
abbrev f5p10 : PC := .seq (.seq (.reg f5r12) (f5p2)) (f5p9)
def f5r21 : List PG := [.u (.bo 86 .add (.t 39) (.k (.int .i64 1))), .u (.mv 39 (.t 86))]
abbrev f5p11 : PC := .seq (.block 3 (.seq (.reg f5r11) (f5p10))) (.reg f5r21)
abbrev f5p12 : PC := .seq (.cond (.t 40) (.skip) (.exit 2)) (f5p11)
abbrev f5p13 : PC := .seq (.reg f5r10) (f5p12)
abbrev f5p14 : PC := .block 2 (.loop (f5p13))
def f5r22 : List PG := [.u (.mv 87 (.t 8)), .u (.mv 88 (.t 87)), .g 88 true (.mv 89 (.t 11)), .u (.pick 90 (.t 88) (.t 89) (.k (.bool false))), .u (.mv 8 (.t 90))]
abbrev f5p15 : PC := .seq (.seq (.reg f5r9) (f5p14)) (.reg f5r22)
abbrev f5p16 : PC := .seq (.reg f5r8) (f5p15)
def f5r23 : List PG := [.u (.bo 91 .add (.t 26) (.k (.int .i64 1))), .u (.mv 26 (.t 91))]
abbrev f5p17 : PC := .seq (.block 1 (.seq (.reg f5r7) (f5p16))) (.reg f5r23)
abbrev f5p18 : PC := .seq (.cond (.t 27) (.skip) (.exit 0)) (f5p17)
abbrev f5p19 : PC := .seq (.reg f5r6) (f5p18)
abbrev f5p20 : PC := .block 0 (.loop (f5p19))
def f5r24 : List PG := [.u (.ld 92 3 true (.t 7)), .u (.al 16 [.nl 1, .nl 1, .nl 1]), .u (.st 3 (.t 16) (.t 92))]
def f5r25 : List PG := [.u (.bsl 93 3 1 [.k (.int .i64 (-1))]), .u (.fa 94 1 (.t 7)), .u (.ld 95 1 false (.t 94)), .u (.app 96 3 1 8 (.t 93) (.t 95)), .u (.fa 97 1 (.t 16)), .u (.st 1 (.t 97) (.t 96))]
def f5r26 : List PG := [.u (.ld 98 3 true (.t 7)), .uc 99 21 [.t 98], .u (.mv 100 (.t 8)), .u (.beq 101 false true (.t 99) (.t 100)), .u (.mv 102 (.t 101)), .g 102 true (.ld 103 3 true (.t 16)), .gc 102 true 104 21 [.t 103], .g 102 true (.no 105 (.t 104)), .u (.pick 106 (.t 102) (.t 105) (.k (.bool false))), .u (.mv 6 (.t 106))]
abbrev f5p21 : PC := .seq (.reg f5r26) (.ret)
abbrev f5p22 : PC := .seq (.reg f5r25) (f5p21)
abbrev f5p23 : PC := .seq (.reg f5r24) (f5p22)
abbrev f5p24 : PC := .seq (.seq (.reg f5r5) (f5p20)) (f5p23)
abbrev f5p25 : PC := .seq (.reg f5r4) (f5p24)
abbrev f5p26 : PC := .seq (.reg f5r3) (f5p25)
abbrev f5p27 : PC := .seq (.seq (.reg f5r1) (f5p1)) (f5p26)
abbrev f5pc : PC := .seq (.reg f5r0) (f5p27)
def f5k : List Nat := [0, 1, 2, 6, 7, 8, 9, 10, 11, 12, 13, 15, 16, 18, 24, 25, 26, 27, 37, 38, 39, 40, 60, 63, 64, 65, 66, 73]
theorem f5c : Try.f5.body.bind (cC te Try.f5.ntmps) = some f5pc := by kernel_rfl
set_option maxRecDepth 20000
set_option maxHeartbeats 4000000
set_option linter.unusedSimpArgs false
set_option linter.unusedVariables false

theorem take_cast (l : List Arc) (i : Nat) : (l.map Arc.row).take (Int.toNat (i : Int)) = (l.take i).map Arc.row := by simp
theorem mayL {n : Net} (h : n.tiny) : FnS Try.prog 21 [.ag [.d (.sl 1 (n.origin.map bD)), .d (.sl 1 ([.v (.int .i64 (-1))] :: n.static.map iD)), .d (.sl 1 (n.edges.map esD))]] (.d (.v (.bool false))) := by
  have h2 := h.small.ok
  have hm : maxLen = 9223372036854775807 := rfl
  have h3 := h.static
  have h4 := h.origin
  have := may_fn ⟨n.origin, -1 :: n.static, n.edges⟩ ⟨h2.origin, by simp; omega, h2.edges, h2.row, h2.edge⟩
  rw [may_longer h] at this
  exact this
theorem smay_fn (o : List Bool) (ho : o.length ≤ 1048576) (st : List Int) (hst : st.length ≤ maxLen) (ws : List (List Wire)) (hws : WsOk ws) : FnS Try.prog 5 [.d (.sl 1 (o.map bD)), .d (.sl 1 (st.map fun x => [D.v (.int .i8 x)])), .d (.sl 1 (ws.map wsD))] (.d (.v (.bool true))) := by
  have hm : maxLen = 9223372036854775807 := rfl
  have hT := wiresV_tiny o st ws
  have hW := wires_fn o ho st hst ws hws
  generalize wiresV o st ws = n at hT hW
  have t1 := hT.origin
  have t2 := hT.static
  have t3 := hT.edges
  have hsl := hT.small
  refine fn_of teok Try.func5 (by kernel_rfl) f5c f5k [.tmp 6] rfl (by show 3 ≤ 107; omega) ?_
  repeat' first
  | (exact absurd hc (by decide))
  | (with_reducible refine awp_mid (f5p9) [(8, .d (.v (.bool (if decide (e.src < 0) || decide ((n.origin.length : Int) ≤ e.src) || e.src == (x.1 : Int) then false else y.2.2))))] [] ?_ ?_)
  | with_reducible refine awp_seq ?_
  | with_reducible refine awp_block ?_
  | with_reducible refine awp_reg ?_
  | with_reducible refine awp_regD ?_
  | with_reducible refine awp_ret ?_
  | with_reducible refine awp_skip ?_
  | with_reducible refine awp_exit ?_
  | with_reducible refine normQ_of ?_
  | with_reducible refine wkE_of ?_
  | with_reducible refine midQ_of (Wk_sub rfl rfl ?_ ?_)
  | with_reducible refine runD_nil ?_
  | with_reducible refine runD_cons ?_
  | with_reducible refine runF_cons ?_
  | with_reducible refine runF_nil ?_
  | with_reducible refine KF_of ?_
  | with_reducible refine chkQ_of rfl ?_
  | with_reducible refine awp_cond (by simp only [evX, lget, Option.getD_some, reduceIte, Nat.reduceEqDiff]; rfl) (fun hc => ?_) (fun hc => ?_)
  | with_reducible refine CallU_of (f := 11) (awake15_fn) (by first | exact Or.inr rfl | exact Or.inl rfl) ?_
  | with_reducible refine CallC_of (f := 11) (fun _ => awake15_fn) (by first | exact Or.inr rfl | exact Or.inl rfl) ?_
  | with_reducible refine CallU_of (f := 20) (hW) (by first | exact Or.inr rfl | exact Or.inl rfl) ?_
  | with_reducible refine CallC_of (f := 20) (fun _ => hW) (by first | exact Or.inr rfl | exact Or.inl rfl) ?_
  | with_reducible refine CallU_of (f := 21) (may_fn n hsl.ok) (by first | exact Or.inr rfl | exact Or.inl rfl) ?_
  | with_reducible refine CallC_of (f := 21) (fun _ => may_fn n hsl.ok) (by first | exact Or.inr rfl | exact Or.inl rfl) ?_
  | with_reducible refine CallU_of (f := 21) (mayL hT) (by first | exact Or.inr rfl | exact Or.inl rfl) ?_
  | with_reducible refine CallC_of (f := 21) (fun _ => mayL hT) (by first | exact Or.inr rfl | exact Or.inl rfl) ?_
  | (with_reducible assumption)
  | with_reducible refine fun (hG : okL _) => ?_
  | (with_reducible refine fun (hT : (_ : Bool) = _) => ?_)
  | (with_reducible first | exact hG.2 | exact hG.2.2 | exact hG.2.2.2 | exact hG.2.2.2.2)
  | with_reducible refine okL_mk ?_ ?_
  | with_reducible refine And.intro ?_ ?_
  | (with_reducible refine awp_loopU (b := f5p19) (fun x : Nat × Bool => x.1 ≤ n.edges.length ∧ lawN n.origin.length (n.edges.drop x.1) (n.static.drop x.1) x.1 x.2 = lawN n.origin.length n.edges n.static 0 true) (fun x => n.edges.length - x.1) (fun x => [(26, .d (.v (.int .i64 x.1))), (8, .d (.v (.bool x.2)))]) (fun x => []) ((0, true)) (⟨Nat.zero_le _, rfl⟩) (Wk.refl _ _) (Wk_sub rfl rfl ?_ ?_) (fun x hx => ?_))
  | (refine Exists.elim (at_drop esD n.edges x.1 (Int.ofNat_lt.1 (of_decide_eq_true hc))) (fun es he => ?_); refine Exists.elim (at_drop iD n.static x.1 (by have := he.2.2.2; omega)) (fun st hs => ?_); have g1 := he.2.1; have g2 := hs.2.1; have hrow := hT.row es (List.mem_of_getElem? he.2.2.1); replace hc : True := trivial)
  | (with_reducible refine awp_loopU (b := f5p13) (fun y : Nat × Bool × Bool => y.1 ≤ es.length ∧ lawE n.origin.length x.1 st es (es.drop y.1) y.1 y.2.1 y.2.2 = lawE n.origin.length x.1 st es es 0 (decide (st < 0)) x.2) (fun y => es.length - y.1) (fun y => [(39, .d (.v (.int .i64 y.1))), (11, .d (.v (.bool y.2.1))), (8, .d (.v (.bool y.2.2)))]) (fun y => []) ((0, decide (st < 0), x.2)) (⟨Nat.zero_le _, rfl⟩) (Wk.refl _ _) (Wk_sub rfl rfl ?_ ?_) (fun y hy => ?_))
  | (refine Exists.elim (at_drop Arc.row es y.1 (Int.ofNat_lt.1 (of_decide_eq_true hc))) (fun e hq => ?_); have g3 := hq.2.1; replace hc : True := trivial)
  | (with_reducible refine awp_loopU (b := f5p7) (fun z : Nat × Bool => z.1 ≤ (es.take y.1).length ∧ (if ((es.take y.1).drop z.1).any (fun f => f.src == e.src) then false else z.2) = (if (es.take y.1).any (fun f => f.src == e.src) then false else (if decide (e.src < 0) || decide ((n.origin.length : Int) ≤ e.src) || e.src == (x.1 : Int) then false else y.2.2))) (fun z => (es.take y.1).length - z.1) (fun z => [(65, .d (.v (.int .i64 z.1))), (8, .d (.v (.bool z.2)))]) (fun z => []) ((0, (if decide (e.src < 0) || decide ((n.origin.length : Int) ≤ e.src) || e.src == (x.1 : Int) then false else y.2.2))) (⟨Nat.zero_le _, rfl⟩) (Wk.refl _ _) (Wk_sub rfl rfl ?_ ?_) (fun z hz => ?_))
  | (refine Exists.elim (at_drop Arc.row (es.take y.1) z.1 (Int.ofNat_lt.1 (of_decide_eq_true hc))) (fun f hf => ?_); have g4 := hf.2.1; replace hc : True := trivial)
  | (have _q : (_ : Bool) = true := hc; with_reducible refine loopQ_next ((z.1 + 1, false)) ?_ ?_ (Wk_sub rfl rfl ?_ ?_))
  | (have _q : (f.src == e.src) = false := hc; with_reducible refine loopQ_next (z.1 + 1, z.2) ?_ ?_ (Wk_sub rfl rfl ?_ ?_))
  | (with_reducible refine loopQ_next (y.1 + 1, (y.2.1 || e.src == st), z.2) ?_ ?_ (Wk_sub rfl rfl ?_ ?_))
  | (with_reducible refine loopQ_next ((x.1 + 1, (if y.2.2 then y.2.1 else false))) ?_ ?_ (Wk_sub rfl rfl ?_ ?_))
  | simp only [f5r0, f5r1, f5r2, f5r3, f5r4, f5r5, f5r6, f5r7, f5r8, f5r9, f5r10, f5r11, f5r12, f5r13, f5r14, f5r15, f5r16, f5r17, f5r18, f5r19, f5r20, f5r21, f5r22, f5r23, f5r24, f5r25, f5r26, g4, g3, g2, g1, f5k, List.length_map, take_cast, runG_nil, runG_u, runG_g, runG_ucS, runG_gcS, stp, evs, evX, lget, lput, strip, putO, PO.dst, updO, okR, cells, splice, AV.cell, toD, toDs, binV, sameK, pickV, guardOf, okL_nil, sides, argsOf, rawOf, dv, dvL, owns, ownsL, flat, flatL, lkeep, seqQ, blockQ, initS, List.drop_succ_cons, List.drop_zero, List.take_succ_cons, List.take_zero, List.getD_cons_zero, List.getD_cons_succ, List.length_cons, List.length_nil, List.set_cons_zero, List.set_cons_succ, List.map_cons, List.map_nil, List.all_cons, List.all_nil, List.elem_cons, List.elem_nil, Option.getD_some, Option.getD_none, Option.bind_some, Option.isNone_none, reduceIte, reduceCtorEq, Nat.reduceEqDiff, Nat.reduceAdd, Nat.reduceLeDiff, Nat.zero_add, Nat.add_zero, Nat.reduceBEq, Bool.and_self, Bool.and_true, Bool.true_and, Bool.or_self, Bool.or_false, Bool.false_or, Bool.or_true, Bool.true_or, true_and, and_true, and_self, implies_true, forall_const, Bool.false_eq_true, id_eq, retQ, resOf, resV, Option.some.injEq, exists_eq_left', AV.d.injEq, D.v.injEq, Value.bool.injEq, imp_self, bldF, bldS, toVals, eqLs, Option.map_some, imp_false, not_true_eq_false, not_false_eq_true, foot, wrs, nm, nmL, PG.reads, PG.dst, PO.reads, X.sl, sls, slB, List.append_nil, List.cons_append, List.nil_append, Option.toList_some, Option.toList_none, loopQ_exit, loopQ_ret, subS, subO, Bool.bne_false, Bool.bne_true, elemsOf, bslD, bslS, mentries, isAgV, asA, lputs, mgetD_set, mcmp_set, mput_set, List.headD_cons, sealS, sealO, sealV, sealL, mput_nil, mcmp_nil, midQ_ret, midQ_exit, sealsS, sealsO, runW_nil, runW_cons, Bool.true_bne, Bool.false_bne, bne_self_eq_false, Int.reduceToNat, bndV, oSl]
  | simp only [f5r0, f5r1, f5r2, f5r3, f5r4, f5r5, f5r6, f5r7, f5r8, f5r9, f5r10, f5r11, f5r12, f5r13, f5r14, f5r15, f5r16, f5r17, f5r18, f5r19, f5r20, f5r21, f5r22, f5r23, f5r24, f5r25, f5r26, g3, g2, g1, f5k, List.length_map, take_cast, runG_nil, runG_u, runG_g, runG_ucS, runG_gcS, stp, evs, evX, lget, lput, strip, putO, PO.dst, updO, okR, cells, splice, AV.cell, toD, toDs, binV, sameK, pickV, guardOf, okL_nil, sides, argsOf, rawOf, dv, dvL, owns, ownsL, flat, flatL, lkeep, seqQ, blockQ, initS, List.drop_succ_cons, List.drop_zero, List.take_succ_cons, List.take_zero, List.getD_cons_zero, List.getD_cons_succ, List.length_cons, List.length_nil, List.set_cons_zero, List.set_cons_succ, List.map_cons, List.map_nil, List.all_cons, List.all_nil, List.elem_cons, List.elem_nil, Option.getD_some, Option.getD_none, Option.bind_some, Option.isNone_none, reduceIte, reduceCtorEq, Nat.reduceEqDiff, Nat.reduceAdd, Nat.reduceLeDiff, Nat.zero_add, Nat.add_zero, Nat.reduceBEq, Bool.and_self, Bool.and_true, Bool.true_and, Bool.or_self, Bool.or_false, Bool.false_or, Bool.or_true, Bool.true_or, true_and, and_true, and_self, implies_true, forall_const, Bool.false_eq_true, id_eq, retQ, resOf, resV, Option.some.injEq, exists_eq_left', AV.d.injEq, D.v.injEq, Value.bool.injEq, imp_self, bldF, bldS, toVals, eqLs, Option.map_some, imp_false, not_true_eq_false, not_false_eq_true, foot, wrs, nm, nmL, PG.reads, PG.dst, PO.reads, X.sl, sls, slB, List.append_nil, List.cons_append, List.nil_append, Option.toList_some, Option.toList_none, loopQ_exit, loopQ_ret, subS, subO, Bool.bne_false, Bool.bne_true, elemsOf, bslD, bslS, mentries, isAgV, asA, lputs, mgetD_set, mcmp_set, mput_set, List.headD_cons, sealS, sealO, sealV, sealL, mput_nil, mcmp_nil, midQ_ret, midQ_exit, sealsS, sealsO, runW_nil, runW_cons, Bool.true_bne, Bool.false_bne, bne_self_eq_false, Int.reduceToNat, bndV, oSl]
  | simp only [f5r0, f5r1, f5r2, f5r3, f5r4, f5r5, f5r6, f5r7, f5r8, f5r9, f5r10, f5r11, f5r12, f5r13, f5r14, f5r15, f5r16, f5r17, f5r18, f5r19, f5r20, f5r21, f5r22, f5r23, f5r24, f5r25, f5r26, g2, g1, f5k, List.length_map, take_cast, runG_nil, runG_u, runG_g, runG_ucS, runG_gcS, stp, evs, evX, lget, lput, strip, putO, PO.dst, updO, okR, cells, splice, AV.cell, toD, toDs, binV, sameK, pickV, guardOf, okL_nil, sides, argsOf, rawOf, dv, dvL, owns, ownsL, flat, flatL, lkeep, seqQ, blockQ, initS, List.drop_succ_cons, List.drop_zero, List.take_succ_cons, List.take_zero, List.getD_cons_zero, List.getD_cons_succ, List.length_cons, List.length_nil, List.set_cons_zero, List.set_cons_succ, List.map_cons, List.map_nil, List.all_cons, List.all_nil, List.elem_cons, List.elem_nil, Option.getD_some, Option.getD_none, Option.bind_some, Option.isNone_none, reduceIte, reduceCtorEq, Nat.reduceEqDiff, Nat.reduceAdd, Nat.reduceLeDiff, Nat.zero_add, Nat.add_zero, Nat.reduceBEq, Bool.and_self, Bool.and_true, Bool.true_and, Bool.or_self, Bool.or_false, Bool.false_or, Bool.or_true, Bool.true_or, true_and, and_true, and_self, implies_true, forall_const, Bool.false_eq_true, id_eq, retQ, resOf, resV, Option.some.injEq, exists_eq_left', AV.d.injEq, D.v.injEq, Value.bool.injEq, imp_self, bldF, bldS, toVals, eqLs, Option.map_some, imp_false, not_true_eq_false, not_false_eq_true, foot, wrs, nm, nmL, PG.reads, PG.dst, PO.reads, X.sl, sls, slB, List.append_nil, List.cons_append, List.nil_append, Option.toList_some, Option.toList_none, loopQ_exit, loopQ_ret, subS, subO, Bool.bne_false, Bool.bne_true, elemsOf, bslD, bslS, mentries, isAgV, asA, lputs, mgetD_set, mcmp_set, mput_set, List.headD_cons, sealS, sealO, sealV, sealL, mput_nil, mcmp_nil, midQ_ret, midQ_exit, sealsS, sealsO, runW_nil, runW_cons, Bool.true_bne, Bool.false_bne, bne_self_eq_false, Int.reduceToNat, bndV, oSl]
  | simp only [f5r0, f5r1, f5r2, f5r3, f5r4, f5r5, f5r6, f5r7, f5r8, f5r9, f5r10, f5r11, f5r12, f5r13, f5r14, f5r15, f5r16, f5r17, f5r18, f5r19, f5r20, f5r21, f5r22, f5r23, f5r24, f5r25, f5r26, f5k, List.length_map, take_cast, runG_nil, runG_u, runG_g, runG_ucS, runG_gcS, stp, evs, evX, lget, lput, strip, putO, PO.dst, updO, okR, cells, splice, AV.cell, toD, toDs, binV, sameK, pickV, guardOf, okL_nil, sides, argsOf, rawOf, dv, dvL, owns, ownsL, flat, flatL, lkeep, seqQ, blockQ, initS, List.drop_succ_cons, List.drop_zero, List.take_succ_cons, List.take_zero, List.getD_cons_zero, List.getD_cons_succ, List.length_cons, List.length_nil, List.set_cons_zero, List.set_cons_succ, List.map_cons, List.map_nil, List.all_cons, List.all_nil, List.elem_cons, List.elem_nil, Option.getD_some, Option.getD_none, Option.bind_some, Option.isNone_none, reduceIte, reduceCtorEq, Nat.reduceEqDiff, Nat.reduceAdd, Nat.reduceLeDiff, Nat.zero_add, Nat.add_zero, Nat.reduceBEq, Bool.and_self, Bool.and_true, Bool.true_and, Bool.or_self, Bool.or_false, Bool.false_or, Bool.or_true, Bool.true_or, true_and, and_true, and_self, implies_true, forall_const, Bool.false_eq_true, id_eq, retQ, resOf, resV, Option.some.injEq, exists_eq_left', AV.d.injEq, D.v.injEq, Value.bool.injEq, imp_self, bldF, bldS, toVals, eqLs, Option.map_some, imp_false, not_true_eq_false, not_false_eq_true, foot, wrs, nm, nmL, PG.reads, PG.dst, PO.reads, X.sl, sls, slB, List.append_nil, List.cons_append, List.nil_append, Option.toList_some, Option.toList_none, loopQ_exit, loopQ_ret, subS, subO, Bool.bne_false, Bool.bne_true, elemsOf, bslD, bslS, mentries, isAgV, asA, lputs, mgetD_set, mcmp_set, mput_set, List.headD_cons, sealS, sealO, sealV, sealL, mput_nil, mcmp_nil, midQ_ret, midQ_exit, sealsS, sealsO, runW_nil, runW_cons, Bool.true_bne, Bool.false_bne, bne_self_eq_false, Int.reduceToNat, bndV, oSl]
  all_goals try first
    | omega
    | (with_reducible rfl)
    | (show Value.int _ 0 = _; rfl)
    | (simp only [List.length_append, List.length_cons, List.length_nil]; omega)
    | (simp only [List.length_append, List.length_cons, List.length_nil, List.map_append, List.map_cons, List.map_nil]; done)
    | exact count64 hf.2.2.2 (by simp; omega)
    | exact count64 hq.2.2.2 (by omega)
    | exact count64 he.2.2.2 (by omega)
    | (have h1 := hz.2; rw [hf.1, List.any_cons, hc, Bool.true_or, if_pos rfl] at h1; rw [← h1]; simp; done)
    | (have h1 := hz.2; rw [hf.1, List.any_cons, hc, Bool.false_or] at h1; exact h1)
    | (have h1 := hy.2; rw [hq.1, lawE] at h1
       have h0 := of_decide_eq_false hc
       have h2 := hz.2; rw [List.drop_eq_nil_of_le (by omega)] at h2; simp only [List.any_nil, Bool.false_eq_true, if_false] at h2
       rw [h2]; exact h1)
    | (have h0 := of_decide_eq_false hc; have h1 := hx.2
       rw [List.drop_eq_nil_of_le (by omega)] at h1; simp only [lawN] at h1
       rw [hT.may, ← h1]; simp; done)
    | (have h0 := of_decide_eq_false hc; have h1 := hx.2; have h2 := hy.2
       rw [List.drop_eq_nil_of_le (by omega), lawE] at h2
       rw [he.1, hs.1, lawN, ← h2] at h1
       rw [← h1]; cases y.2.2 <;> simp; done)
    | (grind)

theorem rows_ofQ {α : Type} (f : α → List D) (p : List D → Prop) (q : α → Prop) (hp : ∀ x, p x → ∃ a, x = f a ∧ q a) : ∀ (l : List (List D)), (∀ x ∈ l, p x) → ∃ rs : List α, l = rs.map f ∧ ∀ a ∈ rs, q a
  | [], _ => ⟨[], rfl, by simp⟩
  | x :: l, h => by
    obtain ⟨rs, rfl, hr⟩ := rows_ofQ f p q hp l (fun y hy => h y (by simp [hy]))
    obtain ⟨a, rfl, ha⟩ := hp x (h x (by simp))
    exact ⟨a :: rs, rfl, fun b hb => by rcases List.mem_cons.1 hb with rfl | hb; exact ha; exact hr b hb⟩
theorem i8_row {n : Nat} {x : List D} (h : dT te (n + 1) 27 x) : ∃ m : Int, x = [D.v (.int .i8 m)] := by
  simp only [dT, te27] at h
  obtain ⟨m, rfl, _⟩ := h
  exact ⟨m, rfl⟩
theorem rule_row {n : Nat} {x : List D} (h : dT te (n + 2) 128 x) : ∃ r : Rule, x = r.row ∧ (0 ≤ r.to ∧ r.to ≤ 255) := by
  simp only [dT, te128, dFs, te5] at h
  obtain ⟨_, _, rfl, _, ⟨a, rfl, h1, h2⟩, _, _, rfl, _, ⟨b, rfl, _⟩, _, _, rfl, _, ⟨c, rfl, _⟩, _, _, rfl, _, ⟨d, rfl, _⟩, _, _, rfl, _, ⟨e, rfl, _⟩, _, _, rfl, _, ⟨f, rfl, _⟩, rfl⟩ := h
  exact ⟨⟨a, b, c, d, e, f⟩, rfl, h1, h2⟩
theorem rules_of {n : Nat} {x : List D} (h : dT te (n + 3) 70 x) : ∃ rs : List Rule, x = [.sl 6 (rs.map Rule.row)] ∧ rs.length ≤ maxLen ∧ ∀ r ∈ rs, 0 ≤ r.to ∧ r.to ≤ 255 := by
  rw [dT] at h
  simp only [te70, te128] at h
  obtain ⟨l, rfl, hm, hl⟩ := h
  obtain ⟨rs, rfl, hr⟩ := rows_ofQ Rule.row _ _ (fun x hx => rule_row hx) l (fun x hx => (hl x hx).2)
  exact ⟨rs, rfl, by simpa using hm, hr⟩
structure WireOk (w : Wire) : Prop where
  exp : w.exp.length ≤ maxLen
  imp : w.imp.length ≤ maxLen
  expR : ∀ q ∈ w.exp, 0 ≤ q.to ∧ q.to ≤ 255
  impR : ∀ q ∈ w.imp, 0 ≤ q.to ∧ q.to ≤ 255
theorem wire_row {n : Nat} {x : List D} (h : dT te (n + 4) 72 x) : ∃ w : Wire, x = w.row ∧ WireOk w := by
  rw [dT] at h
  simp only [te72, dFs, te5, te70] at h
  obtain ⟨_, _, rfl, _, h1, _, _, rfl, _, h2, _, _, rfl, _, h3, _, _, rfl, _, h4, rfl⟩ := h
  simp only [dT, te5] at h1 h2
  obtain ⟨a, rfl, _⟩ := h1
  obtain ⟨b, rfl, _⟩ := h2
  obtain ⟨e, rfl, e1, e2⟩ := rules_of h3
  obtain ⟨i, rfl, i1, i2⟩ := rules_of h4
  exact ⟨⟨a, b, e, i⟩, rfl, e1, i1, e2, i2⟩
theorem ws_row {n : Nat} {x : List D} (h : dT te (n + 5) 69 x) : ∃ ws : List Wire, x = wsD ws ∧ (ws.length ≤ maxLen ∧ ∀ w ∈ ws, WireOk w) := by
  rw [dT] at h
  simp only [te69, te72] at h
  obtain ⟨l, rfl, hm, hl⟩ := h
  obtain ⟨rs, rfl, hr⟩ := rows_ofQ Wire.row _ _ (fun x hx => wire_row hx) l (fun x hx => (hl x hx).2)
  exact ⟨rs, rfl, by simpa using hm, hr⟩
theorem smay_as (av : List AV) (h : dArgs te 8 [32, 22, 42] av) (hN : szAs av ≤ 1048576) : FnS Try.prog 5 av (.d (.v (.bool true))) := by
  obtain ⟨x, _, rfl, hx, y, _, rfl, hy, z, _, rfl, hz, rfl⟩ := h
  rw [dT] at hx hy hz
  simp only [te32, te22, te42, te4, te27, te69] at hx hy hz
  obtain ⟨l1, rfl, _, g1⟩ := hx
  obtain ⟨l2, rfl, m2, g2⟩ := hy
  obtain ⟨l3, rfl, _, g3⟩ := hz
  obtain ⟨o, rfl⟩ := rows_of bD _ (fun x hx => bool_row hx) l1 (fun x hx => (g1 x hx).2)
  obtain ⟨st, rfl⟩ := rows_of (fun x => [D.v (.int .i8 x)]) _ (fun x hx => i8_row hx) l2 (fun x hx => (g2 x hx).2)
  obtain ⟨ws, rfl, hw⟩ := rows_ofQ wsD _ _ (fun x hx => ws_row (n := 2) hx) l3 (fun x hx => (g3 x hx).2)
  have hN : szLL (o.map bD) + 1 + _ ≤ 1048576 := hN
  have h2 := szLL_map bD (fun a => by simp) o
  exact smay_fn o (by omega) st (by simpa using m2) ws ⟨fun r hr => (hw r hr).1, fun r hr w hm => ((hw r hr).2 w hm).exp, fun r hr w hm => ((hw r hr).2 w hm).imp, fun r hr w hm => ((hw r hr).2 w hm).expR, fun r hr w hm => ((hw r hr).2 w hm).impR⟩
theorem isBulk {H : Type} : Bulk (H := H) Rows.uptoBulk Rows.uptoBulkAll where
  lit l := by cases l <;> simp [Rows.uptoBulk]
  str b := by simp [Rows.uptoBulk]
  nil := by simp [Rows.uptoBulk]
  slice l s := by simp [Rows.uptoBulk]
  agg l := by simp [Rows.uptoBulk]
  nilA := by simp [Rows.uptoBulkAll]
  cons x r := by simp [Rows.uptoBulkAll]

set_option maxRecDepth 100000 in
theorem stableMay_lifted (os : Os) (started : os.Started) (H : Type) (enc : TypeId × Value → H) (F0 : Stop.Interp) :
    ReturnsInHanded {} Try.checked os 5 .any ((Rows.OpenSpec.upto Rows.stableMaySpec).pre6 enc Try.prog Try.f5 Rows.stableMayUptoRow.domain false) (((Rows.OpenSpec.upto Rows.stableMaySpec).at F0).post enc Try.prog Try.f5 false true false false) := by
  refine returnsInHanded_of_cond (C := Try.checked) (s := Rows.OpenSpec.upto Rows.stableMaySpec) (k := Rows.uptoSmall) rfl own started (by kernel_rfl) Try.func5
    (OpenSpec.witness (enc := enc) (C := Try.checked) (s := Rows.OpenSpec.upto Rows.stableMaySpec) (k := Rows.uptoSmall) rfl false ⟨#[], #[.slice none 0 0, .slice none 0 0, .slice none 0 0], []⟩ 8 (by kernel_rfl) (by kernel_rfl) (by kernel_rfl)
      (x := ([.nil, .nil, .nil], [], [])) (by kernel_rfl) (by kernel_rfl) (by kernel_rfl)) ?_
  intro W base args ds gs before hval hW hcnd hk _
  have hp : Try.f5.params.toList = [32, 22, 42] := by kernel_rfl
  refine law_callsU (n := 8) (b := 4) (N := 1048576) isBulk laidOut (by rw [hp]; exact List.forall_mem_cons.2 ⟨⟨by kernel_rfl, of_decide_eq_true (by kernel_rfl)⟩, List.forall_mem_cons.2 ⟨⟨by kernel_rfl, of_decide_eq_true (by kernel_rfl)⟩, List.forall_mem_cons.2 ⟨⟨by kernel_rfl, of_decide_eq_true (by kernel_rfl)⟩, (by simp)⟩⟩⟩) (by rw [hp]; exact List.forall_mem_cons.2 ⟨by kernel_rfl, List.forall_mem_cons.2 ⟨by kernel_rfl, List.forall_mem_cons.2 ⟨by kernel_rfl, (by simp)⟩⟩⟩) rfl (by kernel_rfl) (by kernel_rfl) (fun ds hd => ?_) hval hW (of_decide_eq_true hk) (fun av h hN => smay_as av (argsT_d teok _ _ _ (by rw [hp]; exact List.forall_mem_cons.2 ⟨rfl, List.forall_mem_cons.2 ⟨rfl, List.forall_mem_cons.2 ⟨rfl, (by simp)⟩⟩⟩) h |> (hp ▸ ·)) hN)
  have hd : ds.length = 3 := hd
  match ds, hd with
  | [_, _, _], _ => rfl
theorem stableMay_holds : Rows.StableMayUptoSaid :=
  OpenClaim.holds_of_cond 5 Try.f5 rfl rfl rfl rfl rfl rfl rfl ⟨rfl, rfl, rfl, rfl, rfl⟩ rfl rfl rfl rfl rfl (by kernel_rfl) Try.func5 (by kernel_rfl)
    (of_decide_eq_true (by kernel_rfl)) (by unfold Func.isWrapper; first | (rw [if_pos (by decide +kernel)]; kernel_rfl) | (rw [if_neg (by decide +kernel)]; exact ⟨rfl, rfl⟩))
    (fun os started H enc _ F0 => stableMay_lifted os started H enc F0)
end Go.Proofs.Ytiknbnkngmfdgaa
