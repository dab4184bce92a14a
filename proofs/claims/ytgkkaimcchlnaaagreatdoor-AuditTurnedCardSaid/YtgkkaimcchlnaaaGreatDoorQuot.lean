/- What quotient.Of comes to. Printed by a program of this project (wip/mq). -/
import Derived.Test.YtgkkaimcchlnaaaGreatDoorFirsts
set_option linter.unusedVariables false
set_option linter.unusedSimpArgs false

namespace Go.Proofs.YtgkkaimcchlnaaaGreatDoor
open Go Mq Go.ChangeShapes Go.WideShapes Go.ChangeAt Go.RowKit
/-! maquette/quotient.Of -/
def f32r0 : List PG := [.u (.bx 2 (.t 0)), .u (.al 4 [.nl 1, .nl 1, .nl 1]), .u (.mv 5 (.k (.nilIface)))]
def f32r1 : List PG := [.u (.ld 17 3 true (.t 2)), .u (.mv 18 (.t 1)), .uc 19 56 [.t 17, .t 18], .u (.mv 16 (.t 19)), .u (.ext 20 (.t 16) 0), .u (.ext 21 (.t 16) 1), .u (.mv 6 (.t 20)), .u (.mv 7 (.t 21))]
def f32r2 : List PG := [.u (.mv 22 (.t 7)), .u (.no 23 (.t 22))]
def f32r3 : List PG := [.u (.bld 24 [.nl 1, .nl 1, .nl 1] []), .u (.mki 25 95 (.k (.int .i64 10))), .u (.st 3 (.t 4) (.t 24)), .u (.mv 5 (.t 25))]
abbrev f32p0 : PC := .seq (.reg f32r3) (.ret)
abbrev f32p1 : PC := .cond (.t 23) (f32p0) (.skip)
def f32r4 : List PG := [.u (.al 8 [.nl 1, .nl 1, .nl 1])]
def f32r5 : List PG := [.u (.mv 26 (.t 6)), .u (.len 27 (.t 26)), .u (.mv 28 (.k (.int .i64 0)))]
def f32r6 : List PG := [.u (.bo 29 .lss (.t 28) (.t 27))]
def f32r7 : List PG := [.u (.mv 30 (.t 28)), .u (.ia 31 1 (.t 26) (.t 28)), .u (.ld 32 1 false (.t 31)), .u (.mv 9 (.t 30)), .u (.mv 10 (.t 32))]
def f32r8 : List PG := [.u (.fa 33 1 (.t 2)), .u (.ld 34 1 false (.t 33)), .u (.mv 35 (.t 10)), .u (.ia 36 1 (.t 34) (.t 35)), .u (.ld 37 1 false (.t 36)), .u (.mx 38 false (.k (.int .i64 (-1))) (.t 37)), .u (.mv 11 (.t 38))]
def f32r9 : List PG := [.u (.mv 39 (.t 11)), .u (.bo 40 .geq (.t 39) (.k (.int .i64 0)))]
def f32r10 : List PG := [.u (.mv 41 (.t 1)), .u (.mv 42 (.t 11)), .u (.ia 43 1 (.t 41) (.t 42)), .u (.ld 44 1 false (.t 43)), .u (.mv 11 (.t 44))]
abbrev f32p2 : PC := .cond (.t 40) (.reg f32r10) (.skip)
def f32r11 : List PG := [.u (.mv 45 (.t 11)), .u (.mv 46 (.t 9)), .u (.beq 47 false false (.t 45) (.t 46))]
def f32r12 : List PG := [.u (.bld 48 [.nl 1, .nl 1, .nl 1] []), .u (.mki 49 95 (.k (.int .i64 10))), .u (.st 3 (.t 4) (.t 48)), .u (.mv 5 (.t 49))]
abbrev f32p3 : PC := .seq (.reg f32r12) (.ret)
abbrev f32p4 : PC := .cond (.t 47) (f32p3) (.skip)
def f32r13 : List PG := [.u (.fa 50 0 (.t 8)), .u (.ld 51 1 false (.t 50)), .u (.fa 52 0 (.t 2)), .u (.ld 53 1 false (.t 52)), .u (.mv 54 (.t 10)), .u (.ia 55 1 (.t 53) (.t 54)), .u (.ld 56 1 false (.t 55)), .u (.bslF 57 4 1 [.t 56]), .u (.app 58 4 1 1 (.t 51) (.t 57)), .u (.fa 59 1 (.t 8)), .u (.ld 60 1 false (.t 59)), .u (.mv 61 (.t 11)), .u (.bslF 62 3 1 [.t 61]), .u (.app 63 3 1 8 (.t 60) (.t 62)), .u (.fa 64 0 (.t 8)), .u (.st 1 (.t 64) (.t 58)), .u (.fa 65 1 (.t 8)), .u (.st 1 (.t 65) (.t 63))]
def f32r14 : List PG := [.u (.mv 12 (.nl 4))]
def f32r15 : List PG := [.u (.mkm 66 false false), .u (.mv 67 (.t 9)), .u (.mup false false [.i] 1 (.t 66) (.t 67) (.k (.bool true))), .u (.mv 68 (.t 66)), .u (.mv 13 (.t 68))]
def f32r16 : List PG := [.u (.fa 69 2 (.t 2)), .u (.ld 70 1 false (.t 69)), .u (.mv 71 (.t 10)), .u (.ia 72 1 (.t 70) (.t 71)), .u (.ld 73 1 false (.t 72)), .u (.len 74 (.t 73)), .u (.mv 75 (.k (.int .i64 0)))]
def f32r17 : List PG := [.u (.bo 76 .lss (.t 75) (.t 74))]
def f32r18 : List PG := [.u (.ia 77 4 (.t 73) (.t 75)), .u (.ld 78 4 true (.t 77)), .u (.al 15 [.d (.v (.int .i64 0)), .d (.v (.int .i64 0)), .nl 10, .nl 10]), .u (.st 4 (.t 15) (.t 78))]
def f32r19 : List PG := [.u (.mv 79 (.t 13)), .u (.mv 80 (.t 1)), .u (.fa 81 0 (.t 15)), .u (.ld 82 1 false (.t 81)), .u (.ia 83 1 (.t 80) (.t 82)), .u (.ld 84 1 false (.t 83)), .u (.lkp 85 false false [.i] [.d (.v (.bool false))] false (.t 79) (.t 84)), .u (.no 86 (.t 85))]
def f32r20 : List PG := [.u (.mv 87 (.t 13)), .u (.mv 88 (.t 1)), .u (.fa 89 0 (.t 15)), .u (.ld 90 1 false (.t 89)), .u (.ia 91 1 (.t 88) (.t 90)), .u (.ld 92 1 false (.t 91)), .u (.mup false false [.i] 1 (.t 87) (.t 92) (.k (.bool true)))]
def f32r21 : List PG := [.u (.mv 93 (.t 1)), .u (.fa 94 0 (.t 15)), .u (.ld 95 1 false (.t 94)), .u (.ia 96 1 (.t 93) (.t 95)), .u (.ld 97 1 false (.t 96)), .u (.fa 98 0 (.t 15)), .u (.st 1 (.t 98) (.t 97))]
def f32r22 : List PG := [.u (.mv 99 (.t 12)), .u (.ld 100 4 true (.t 15)), .u (.bslF 101 91 4 [.t 100]), .u (.app 102 91 4 64 (.t 99) (.t 101)), .u (.mv 12 (.t 102))]
abbrev f32p5 : PC := .seq (.reg f32r21) (.reg f32r22)
abbrev f32p6 : PC := .seq (.reg f32r20) (f32p5)
abbrev f32p7 : PC := .cond (.t 86) (f32p6) (.skip)
abbrev f32p8 : PC := .seq (.reg f32r19) (f32p7)
def f32r23 : List PG := [.u (.bo 103 .add (.t 75) (.k (.int .i64 1))), .u (.mv 75 (.t 103))]
abbrev f32p9 : PC := .seq (.block 3 (.seq (.reg f32r18) (f32p8))) (.reg f32r23)
abbrev f32p10 : PC := .seq (.cond (.t 76) (.skip) (.exit 2)) (f32p9)
abbrev f32p11 : PC := .seq (.reg f32r17) (f32p10)
abbrev f32p12 : PC := .block 2 (.loop (f32p11))
def f32r24 : List PG := [.u (.fa 104 2 (.t 8)), .u (.ld 105 1 false (.t 104)), .u (.mv 106 (.t 12)), .u (.bslF 107 88 1 [.t 106]), .u (.app 108 88 1 24 (.t 105) (.t 107)), .u (.fa 109 2 (.t 8)), .u (.st 1 (.t 109) (.t 108))]
abbrev f32p13 : PC := .seq (.seq (.reg f32r16) (f32p12)) (.reg f32r24)
abbrev f32p14 : PC := .seq (.reg f32r15) (f32p13)
abbrev f32p15 : PC := .seq (.reg f32r14) (f32p14)
abbrev f32p16 : PC := .seq (.regD f32r13 [(8, 9), (8, 10), (8, 11), (8, 12), (13, 14)]) (f32p15)
abbrev f32p17 : PC := .seq (.seq (.reg f32r11) (f32p4)) (f32p16)
abbrev f32p18 : PC := .seq (.seq (.reg f32r9) (f32p2)) (f32p17)
abbrev f32p19 : PC := .seq (.reg f32r8) (f32p18)
def f32r25 : List PG := [.u (.bo 110 .add (.t 28) (.k (.int .i64 1))), .u (.mv 28 (.t 110))]
abbrev f32p20 : PC := .seq (.block 1 (.seq (.reg f32r7) (f32p19))) (.reg f32r25)
abbrev f32p21 : PC := .seq (.cond (.t 29) (.skip) (.exit 0)) (f32p20)
abbrev f32p22 : PC := .seq (.reg f32r6) (f32p21)
abbrev f32p23 : PC := .block 0 (.loop (f32p22))
def f32r26 : List PG := [.u (.ld 111 3 true (.t 8)), .u (.st 3 (.t 4) (.t 111)), .u (.mv 5 (.k (.nilIface)))]
abbrev f32p24 : PC := .seq (.reg f32r26) (.ret)
abbrev f32p25 : PC := .seq (.seq (.reg f32r5) (f32p23)) (f32p24)
abbrev f32p26 : PC := .seq (.reg f32r4) (f32p25)
abbrev f32p27 : PC := .seq (.seq (.reg f32r2) (f32p1)) (f32p26)
abbrev f32p28 : PC := .seq (.reg f32r1) (f32p27)
abbrev f32pc : PC := .seq (.reg f32r0) (f32p28)
def f32k : List Nat := [0, 1, 2, 4, 5, 6, 7, 8, 9, 10, 11, 12, 13, 15, 23, 26, 27, 28, 29, 40, 47, 73, 74, 75, 76, 86]
theorem f32c : Tryz.f32.body.bind (cC te Tryz.f32.ntmps) = some f32pc := by kernel_rfl
set_option maxRecDepth 20000
set_option maxHeartbeats 4000000


def quotV : Option Net → AV
  | none => .tp [Net.av ⟨[], [], []⟩, .d (.v (.iface 95 (.int .i64 10)))]
  | some x => .tp [x.av, .d (.v .nilIface)]
theorem quot_none (n : Net) (hn : n.ok) (b : List Int) (hb : b.length ≤ maxLen) (hf : n.firsts b = none) : FnS Tryz.prog 32 [n.av, .d (.sl 1 (b.map iD))] (quotV (n.quot b)) := by
  have h42 : FnS Tryz.prog 56 [n.av, .d (.sl 1 (b.map iD))] (.tp [.d (.sl 1 []), .d (.v (.bool false))]) := by have := firsts_fn n hn b hb; rwa [hf] at this
  have hq : quotV (n.quot b) = .tp [Net.av ⟨[], [], []⟩, .d (.v (.iface 95 (.int .i64 10)))] := by simp [Net.quot, hf, quotV]
  rw [hq]
  refine fn_of teok Tryz.func32 (by kernel_rfl) f32c f32k [.cell 4 32, .tmp 5] rfl (by show 2 ≤ 112; omega) ?_
  repeat' first
|(exact absurd hc (by decide))
|(with_reducible first | refine awp_seq ?_ | refine awp_block ?_ | refine awp_reg ?_ | refine awp_regD ?_ | refine awp_ret ?_ | refine awp_skip ?_ | refine awp_exit ?_ | refine normQ_of ?_ | refine wkE_of ?_ | refine runD_nil ?_ | refine runD_cons ?_ | refine runF_cons ?_ | refine runF_nil ?_ | refine KF_of ?_ | refine chkQ_of rfl ?_)
|with_reducible refine awp_cond (by simp only [evX, lget, Option.getD_some, reduceIte, Nat.reduceEqDiff]; rfl) (fun hc => ?_) (fun hc => ?_)
|with_reducible refine CallU_of (f := 56) (h42) (by first | exact Or.inr (Or.inl rfl) | exact Or.inl rfl) ?_
|(with_reducible assumption)
|(with_reducible refine fun (hT : (_ : Bool) = _) => ?_)
|with_reducible refine And.intro ?_ ?_
|simp only [f32r0, f32r1, f32r2, f32r3, f32r4, f32r5, f32r6, f32r7, f32r8, f32r9, f32r10, f32r11, f32r12, f32r13, f32r14, f32r15, f32r16, f32r17, f32r18, f32r19, f32r20, f32r21, f32r22, f32r23, f32r24, f32r25, f32r26, f32k, te32, List.getElem?_cons_zero, List.getElem?_cons_succ, runG_nil, runG_u, runG_ucS, stp, avL, avS, evs, evX, lget, lput, strip, putO, PO.dst, updO, okR, cells, splice, AV.cell, toD, toDs, binV, sameK, pickV, guardOf, okL_nil, sides, argsOf, rawOf, dv, dvL, owns, ownsL, flat, flatL, lkeep, seqQ, blockQ, initS, List.drop_succ_cons, List.drop_zero, List.take_succ_cons, List.take_zero, List.getD_cons_zero, List.getD_cons_succ, List.length_cons, List.length_nil, List.set_cons_zero, List.set_cons_succ, List.map_cons, List.map_nil, List.all_cons, List.all_nil, List.elem_cons, List.elem_nil, Option.getD_some, Option.getD_none, Option.bind_some, Option.isNone_none, reduceIte, reduceCtorEq, Nat.reduceEqDiff, Nat.reduceAdd, Nat.reduceLeDiff, Nat.zero_add, Nat.add_zero, Nat.reduceBEq, Bool.and_self, Bool.and_true, Bool.true_and, Bool.or_self, Bool.or_false, Bool.false_or, Bool.or_true, Bool.true_or, true_and, and_true, and_self, implies_true, forall_const, Bool.false_eq_true, id_eq, retQ, resOf, resV, Option.some.injEq, exists_eq_left', AV.d.injEq, D.v.injEq, Value.bool.injEq, imp_self, bldF, bldS, toVals, eqLs, Option.map_some, imp_false, not_true_eq_false, not_false_eq_true, foot, wrs, nm, nmL, PG.reads, PG.dst, PO.reads, X.sl, sls, slB, List.append_nil, List.cons_append, List.nil_append, Option.toList_some, Option.toList_none, loopQ_exit, loopQ_ret, subS, subO, Bool.bne_false, Bool.bne_true, elemsOf, bslD, bslS, mentries, isAgV, asA, lputs, mgetD_set, mcmp_set, mput_set, List.headD_cons, sealS, sealO, sealV, sealL, mput_nil, mcmp_nil, sealsS, sealsO, Bool.true_bne, Bool.false_bne, bne_self_eq_false, Int.reduceToNat, oSl, resR, lenB, argsN, dvN]
  all_goals rfl
theorem quot_some (n : Net) (hn : n.ok) (b : List Int) (hb : b.length ≤ maxLen) (fs : List Int) (hf : n.firsts b = some fs) : FnS Tryz.prog 32 [n.av, .d (.sl 1 (b.map iD))] (quotV (n.quot b)) := by
  have h42 : FnS Tryz.prog 56 [n.av, .d (.sl 1 (b.map iD))] (.tp [.d (.sl 1 (fs.map iD)), .d (.v (.bool true))]) := by have := firsts_fn n hn b hb; rwa [hf] at this
  have hq : quotV (n.quot b) = quotV (quotGo n b fs 0 ⟨[], [], []⟩) := by simp [Net.quot, hf]
  rw [hq]
  obtain ⟨hm, hbl, hfl, hfs⟩ := Net.firsts_spec hf
  have m1 := hm.static
  have m2 := hm.edges
  have m3 := hm.most
  refine fn_of teok Tryz.func32 (by kernel_rfl) f32c f32k [.cell 4 32, .tmp 5] rfl (by show 2 ≤ 112; omega) ?_
  first | (have _q := @g7; clear _q) | have g7 : Nat.pred 77 = 76 := rfl
  first | (have _q := @g6; clear _q) | have g6 : Nat.pred 77 = 76 := rfl
  first | (have _q := @g5; clear _q) | have g5 : Nat.pred 77 = 76 := rfl
  first | (have _q := @g4; clear _q) | have g4 : Nat.pred 77 = 76 := rfl
  first | (have _q := @g3; clear _q) | have g3 : Nat.pred 77 = 76 := rfl
  first | (have _q := @g1; clear _q) | have g1 : Nat.pred 77 = 76 := rfl
  first | (have _q := @g8; clear _q) | have g8 : Nat.pred 77 = 76 := rfl
  repeat' first
|(exact absurd hc (by decide))
|(with_reducible refine awp_exit_seal (i := 2) [102] ?_)
|(with_reducible refine awp_mid (f32p17) [(11, .d (.v (.int .i64 (n.via b f))))] [] ?_ ?_)
|(with_reducible first | refine awp_seq ?_ | refine awp_block ?_ | refine awp_reg ?_ | refine awp_regD ?_ | refine awp_ret ?_ | refine awp_skip ?_ | refine awp_exit ?_ | refine normQ_of ?_ | refine wkE_of ?_)
|with_reducible refine midQ_of (Wk_sub rfl rfl ?_ ?_)
|(with_reducible first | refine runD_nil ?_ | refine runD_cons ?_ | refine runF_cons ?_ | refine runF_nil ?_ | refine KF_of ?_ | refine chkQ_of rfl ?_)
|with_reducible refine awp_cond (by simp only [evX, lget, Option.getD_some, reduceIte, Nat.reduceEqDiff]; rfl) (fun hc => ?_) (fun hc => ?_)
|with_reducible refine CallU_of (f := 56) (h42) (by first | exact Or.inr (Or.inl rfl) | exact Or.inl rfl) ?_
|(with_reducible assumption)
|(with_reducible refine fun (hT : (_ : Bool) = _) => ?_)
|with_reducible refine And.intro ?_ ?_
|(with_reducible refine awp_loopU (b := f32p22) (fun x : Nat × Net => x.1 ≤ fs.length ∧ x.2.origin.length = x.1 ∧ x.2.static.length = x.1 ∧ x.2.edges.length = x.1 ∧ quotGo n b (fs.drop x.1) x.1 x.2 = quotGo n b fs 0 ⟨[], [], []⟩) (fun x => fs.length - x.1) (fun x => [(28, .d (.v (.int .i64 x.1)))]) (fun x => [(8, .box [.own 58 x.2.origin.length, .own 63 x.2.static.length, .own 108 x.2.edges.length]), (58, .row 4 1 x.2.origin.length (x.2.origin.map bD)), (63, .row 3 1 x.2.static.length (x.2.static.map iD)), (108, .row 88 1 x.2.edges.length (x.2.edges.map esD))]) ((0, ⟨[], [], []⟩)) (⟨Nat.zero_le _, rfl, rfl, rfl, rfl⟩) (((Wk_nlB 8 0 58 4 rfl rfl rfl (by decide)).trans (Wk_nlB 8 1 63 3 rfl rfl rfl (by decide))).trans (Wk_nlB 8 2 108 88 rfl rfl rfl (by decide))) (Wk_sub rfl rfl ?_ ?_) (fun x hx => ?_))
|(refine Exists.elim (at_drop iD fs x.1 (Int.ofNat_lt.1 (of_decide_eq_true hc))) (fun f he => ?_); have g1 := he.2.1; have hf0 := hfs f (List.mem_of_getElem? he.2.2.1); have g3 := at_int iD n.static 0 hf0.1 (by omega); have g4 := at_int bD n.origin false hf0.1 (by omega); have g5 := at_int esD n.edges [] hf0.1 (by omega); replace hc : True := trivial)
|(have g8v := via_row hm hbl hf0 hc; have g8 := g8v.1; have hc0 := hc; replace hc : True := trivial)
|(with_reducible refine awp_loopU (b := f32p11) (fun y : Nat × List Int × List Arc => y.1 ≤ (n.edges.getD f.toNat []).length ∧ y.2.2.length ≤ y.1 ∧ quotEs b ((n.edges.getD f.toNat []).drop y.1) y.2.1 y.2.2 = quotEs b (n.edges.getD f.toNat []) [(x.1 : Int)] []) (fun y => (n.edges.getD f.toNat []).length - y.1) (fun y => [(75, .d (.v (.int .i64 y.1))), (12, .own 102 y.2.2.length)]) (fun y => [(66, .map false false (mset y.2.1)), (102, .row 91 4 y.2.2.length (y.2.2.map Arc.row))]) ((0, [(x.1 : Int)], [])) (⟨Nat.zero_le _, Nat.le_refl _, rfl⟩) (Wk_nl 12 102 91 rfl rfl (by decide)) (Wk_sub rfl rfl ?_ ?_) (fun y hy => ?_))
|(refine Exists.elim (at_drop Arc.row (n.edges.getD f.toNat []) y.1 (Int.ofNat_lt.1 (of_decide_eq_true hc))) (fun e he2 => ?_); have g6 := he2.2.1; have hs0 := hm.src _ _ (getD_mem n.edges [] hf0.1 (by omega)) e (List.mem_of_getElem? he2.2.2.1); have g7 := at_int iD b 0 hs0.1 (by omega); have hl0 := hm.row _ (List.mem_of_getElem? (getD_mem n.edges [] hf0.1 (by omega))); replace hc : True := trivial)
|(have _q : (_ : Bool) = true := hc; with_reducible refine loopQ_next ((y.1 + 1, sadd y.2.1 (b.getD e.src.toNat 0), y.2.2 ++ [{ e with src := b.getD e.src.toNat 0 }])) ?_ ?_ (Wk_sub rfl rfl ?_ ?_))
|(have _q : (_ : Bool) = false := hc; with_reducible refine loopQ_next ((y.1 + 1, y.2.1, y.2.2)) ?_ ?_ (Wk_sub rfl rfl ?_ ?_))
|(with_reducible refine loopQ_next ((x.1 + 1, ⟨x.2.origin ++ [n.origin.getD f.toNat false], x.2.static ++ [n.via b f], x.2.edges ++ [y.2.2]⟩)) ?_ ?_ (Wk_sub rfl rfl ?_ ?_))
|simp only [f32r0, f32r1, f32r2, f32r3, f32r4, f32r5, f32r6, f32r7, f32r8, f32r9, f32r10, f32r11, f32r12, f32r13, f32r14, f32r15, f32r16, f32r17, f32r18, f32r19, f32r20, f32r21, f32r22, f32r23, f32r24, f32r25, f32r26, g7, g6, g5, g4, g3, g1, g8, f32k, te32, List.length_map, List.getElem?_cons_zero, List.getElem?_cons_succ, runG_nil, runG_u, runG_ucS, stp, avL, avS, evs, evX, lget, lput, strip, putO, PO.dst, updO, okR, cells, splice, AV.cell, toD, toDs, binV, sameK, pickV, guardOf, okL_nil, sides, argsOf, rawOf, dv, dvL, owns, ownsL, flat, flatL, lkeep, seqQ, blockQ, initS, List.drop_succ_cons, List.drop_zero, List.take_succ_cons, List.take_zero, List.getD_cons_zero, List.getD_cons_succ, List.length_cons, List.length_nil, List.set_cons_zero, List.set_cons_succ, List.map_cons, List.map_nil, List.all_cons, List.all_nil, List.elem_cons, List.elem_nil, Option.getD_some, Option.getD_none, Option.bind_some, Option.isNone_none, reduceIte, reduceCtorEq, Nat.reduceEqDiff, Nat.reduceAdd, Nat.reduceLeDiff, Nat.zero_add, Nat.add_zero, Nat.reduceBEq, Bool.and_self, Bool.and_true, Bool.true_and, Bool.or_self, Bool.or_false, Bool.false_or, Bool.or_true, Bool.true_or, true_and, and_true, and_self, implies_true, forall_const, Bool.false_eq_true, id_eq, retQ, resOf, resV, Option.some.injEq, exists_eq_left', AV.d.injEq, D.v.injEq, Value.bool.injEq, imp_self, bldF, bldS, toVals, eqLs, Option.map_some, imp_false, not_true_eq_false, not_false_eq_true, foot, wrs, nm, nmL, PG.reads, PG.dst, PO.reads, X.sl, sls, slB, List.append_nil, List.cons_append, List.nil_append, Option.toList_some, Option.toList_none, loopQ_exit, loopQ_ret, subS, subO, Bool.bne_false, Bool.bne_true, elemsOf, bslD, bslS, mentries, isAgV, asA, lputs, mgetD_set, mcmp_set, mput_set, List.headD_cons, sealS, sealO, sealV, sealL, mput_nil, mcmp_nil, midQ_ret, midQ_exit, sealsS, sealsO, Bool.true_bne, Bool.false_bne, bne_self_eq_false, Int.reduceToNat, oSl, resR, lenB, argsN, dvN]
  all_goals try first
|omega
|(with_reducible rfl)
|(show Value.int _ 0 = _; rfl)
|(simp only [List.length_append, List.length_cons, List.length_nil]; omega)
|(simp only [List.length_append, List.length_cons, List.length_nil, List.map_append, List.map_cons, List.map_nil]; done)
|exact count64 he2.2.2.2 (by omega)
|exact count64 he.2.2.2 (by omega)
|(show AO.map _ _ _ = AO.map _ _ _; rfl)
|(simp only [Net.via, if_pos (of_decide_eq_true hc0)]; done)
|(simp only [Net.via, if_neg (of_decide_eq_false hc)]; done)
|(grind [quotGo, quotEs, quotV, Net.via])
end Go.Proofs.YtgkkaimcchlnaaaGreatDoor
