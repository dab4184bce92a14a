/- What arena.Of and Mk come to. Printed by a program of this project (wip/mq). -/
import Derived.Test.YtgkkaimcchlnaaaGreatDoorTake
import Derived.Test.YtgkkaimcchlnaaaGreatDoorMqPl
set_option linter.unusedVariables false
set_option linter.unusedSimpArgs false

namespace Go.Proofs.YtgkkaimcchlnaaaGreatDoor
open Go Mq Go.ChangeShapes Go.WideShapes Go.ChangeAt Go.RowKit
/-! maquette/arena.Of -/
def f87r0 : List PG := [.u (.mv 2 (.k (.pointer none)))]
def f87r1 : List PG := [.u (.bld 3 [.d (.v (.int .i64 0)), .d (.v (.int .i64 0)), .d (.v (.int .i64 0))] [((0, 1), .k (.int .i64 1024)), ((1, 1), .k (.int .i64 0)), ((2, 1), .k (.int .i64 0))]), .u (.bld 4 [.d (.v (.int .i64 0)), .d (.v (.int .i64 0)), .d (.v (.int .i64 0))] [((0, 1), .k (.int .i64 1024)), ((1, 1), .k (.int .i64 1)), ((2, 1), .k (.int .i64 1))]), .u (.bsl 5 269 3 [.t 3, .t 4]), .u (.mkm 6 true false), .u (.mv 7 (.t 0)), .u (.mx 8 true (.t 7) (.k (.int .i64 131072))), .u (.mx 9 false (.k (.int .i64 2)) (.t 8)), .u (.bld 10 [.nl 3, .d (.v (.map none)), .d (.v (.int .i64 0))] [((0, 1), .t 5), ((1, 1), .t 6), ((2, 1), .t 9)]), .u (.bx 11 (.t 10)), .u (.mv 2 (.t 11))]
abbrev f87p0 : PC := .seq (.reg f87r1) (.ret)
abbrev f87pc : PC := .seq (.reg f87r0) (f87p0)
def f87k : List Nat := [0, 2]
theorem f87c : Tryz.f87.body.bind (cC te Tryz.f87.ntmps) = some f87pc := by kernel_rfl
/-! (*maquette/arena.Arena).Mk -/
def f185r0 : List PG := [.u (.mv 8 (.k (.int .i64 0))), .u (.mv 9 (.k (.nilIface)))]
def f185r1 : List PG := [.u (.mv 13 (.t 1)), .u (.bo 14 .lss (.t 13) (.k (.int .i64 0))), .u (.mv 15 (.t 14)), .g 15 false (.mv 16 (.t 1)), .g 15 false (.bo 17 .geq (.t 16) (.k (.int .i64 1024))), .u (.pick 18 (.t 15) (.k (.bool true)) (.t 17)), .u (.mv 19 (.t 18)), .g 19 false (.mv 20 (.t 2)), .g 19 false (.bo 21 .lss (.t 20) (.k (.int .i64 0))), .u (.pick 22 (.t 19) (.k (.bool true)) (.t 21)), .u (.mv 23 (.t 22)), .g 23 false (.mv 24 (.t 2)), .g 23 false (.mv 25 (.t 0)), .g 23 false (.nck 26 (.t 25)), .g 23 false (.fa 27 0 (.t 26)), .g 23 false (.ld 28 1 false (.t 27)), .g 23 false (.len 29 (.t 28)), .g 23 false (.bo 30 .geq (.t 24) (.t 29)), .u (.pick 31 (.t 23) (.k (.bool true)) (.t 30)), .u (.mv 32 (.t 31)), .g 32 false (.mv 33 (.t 3)), .g 32 false (.bo 34 .lss (.t 33) (.k (.int .i64 0))), .u (.pick 35 (.t 32) (.k (.bool true)) (.t 34)), .u (.mv 36 (.t 35)), .g 36 false (.mv 37 (.t 3)), .g 36 false (.mv 38 (.t 0)), .g 36 false (.nck 39 (.t 38)), .g 36 false (.fa 40 0 (.t 39)), .g 36 false (.ld 41 1 false (.t 40)), .g 36 false (.len 42 (.t 41)), .g 36 false (.bo 43 .geq (.t 37) (.t 42)), .u (.pick 44 (.t 36) (.k (.bool true)) (.t 43)), .u (.mv 45 (.t 44)), .g 45 false (.mv 46 (.t 0)), .g 45 false (.nck 47 (.t 46)), .g 45 false (.fa 48 0 (.t 47)), .g 45 false (.ld 49 1 false (.t 48)), .g 45 false (.mv 50 (.t 2)), .g 45 false (.ia 51 3 (.t 49) (.t 50)), .g 45 false (.fa 52 0 (.t 51)), .g 45 false (.ld 53 1 false (.t 52)), .g 45 false (.mv 54 (.t 1)), .g 45 false (.bo 55 .leq (.t 53) (.t 54)), .u (.pick 56 (.t 45) (.k (.bool true)) (.t 55)), .u (.mv 57 (.t 56)), .g 57 false (.mv 58 (.t 0)), .g 57 false (.nck 59 (.t 58)), .g 57 false (.fa 60 0 (.t 59)), .g 57 false (.ld 61 1 false (.t 60)), .g 57 false (.mv 62 (.t 3)), .g 57 false (.ia 63 3 (.t 61) (.t 62)), .g 57 false (.fa 64 0 (.t 63)), .g 57 false (.ld 65 1 false (.t 64)), .g 57 false (.mv 66 (.t 1)), .g 57 false (.bo 67 .leq (.t 65) (.t 66)), .u (.pick 68 (.t 57) (.k (.bool true)) (.t 67))]
def f185r2 : List PG := [.u (.mki 69 95 (.k (.int .i64 10))), .u (.mv 8 (.k (.int .i64 0))), .u (.mv 9 (.t 69))]
abbrev f185p0 : PC := .seq (.reg f185r2) (.ret)
abbrev f185p1 : PC := .cond (.t 68) (f185p0) (.skip)
def f185r3 : List PG := [.u (.mv 70 (.t 1)), .u (.mv 71 (.t 2)), .u (.mv 72 (.t 3)), .u (.bld 73 [.d (.v (.int .i64 0)), .d (.v (.int .i64 0)), .d (.v (.int .i64 0))] [((0, 1), .t 70), ((1, 1), .t 71), ((2, 1), .t 72)]), .u (.al 10 [.d (.v (.int .i64 0)), .d (.v (.int .i64 0)), .d (.v (.int .i64 0))]), .u (.st 3 (.t 10) (.t 73))]
def f185r4 : List PG := [.u (.mv 74 (.t 2)), .u (.mv 75 (.t 3)), .u (.beq 76 false false (.t 74) (.t 75))]
def f185r5 : List PG := [.u (.mv 77 (.t 2)), .u (.mv 8 (.t 77)), .u (.mv 9 (.k (.nilIface)))]
abbrev f185p2 : PC := .seq (.reg f185r5) (.ret)
abbrev f185p3 : PC := .cond (.t 76) (f185p2) (.skip)
def f185r6 : List PG := [.u (.mv 79 (.t 0)), .u (.nck 80 (.t 79)), .u (.fa 81 1 (.t 80)), .u (.ld 82 1 false (.t 81)), .u (.ld 83 3 true (.t 10)), .u (.lkp 84 true false [.i, .i, .i] [.d (.v (.int .i64 0))] true (.t 82) (.t 83)), .u (.mv 78 (.t 84)), .u (.ext 85 (.t 78) 0), .u (.ext 86 (.t 78) 1), .u (.mv 11 (.t 85)), .u (.mv 12 (.t 86))]
def f185r7 : List PG := [.u (.mv 87 (.t 12))]
def f185r8 : List PG := [.u (.mv 88 (.t 11)), .u (.mv 8 (.t 88)), .u (.mv 9 (.k (.nilIface)))]
abbrev f185p4 : PC := .seq (.reg f185r8) (.ret)
abbrev f185p5 : PC := .cond (.t 87) (f185p4) (.skip)
abbrev f185p6 : PC := .seq (.reg f185r7) (f185p5)
def f185r9 : List PG := [.u (.mv 89 (.t 0)), .u (.nck 90 (.t 89)), .u (.fa 91 0 (.t 90)), .u (.ld 92 1 false (.t 91)), .u (.len 93 (.t 92)), .u (.mv 94 (.t 0)), .u (.nck 95 (.t 94)), .u (.fa 96 2 (.t 95)), .u (.ld 97 1 false (.t 96)), .u (.beq 98 false false (.t 93) (.t 97))]
def f185r10 : List PG := [.u (.mki 99 95 (.k (.int .i64 8))), .u (.mv 8 (.k (.int .i64 0))), .u (.mv 9 (.t 99))]
abbrev f185p7 : PC := .seq (.reg f185r10) (.ret)
abbrev f185p8 : PC := .cond (.t 98) (f185p7) (.skip)
def f185r11 : List PG := [.u (.mv 100 (.t 0)), .u (.mv 101 (.t 0)), .u (.nck 102 (.t 101)), .u (.fa 103 0 (.t 102)), .u (.ld 104 1 false (.t 103)), .u (.ld 105 3 true (.t 10)), .u (.bslF 106 269 3 [.t 105]), .u (.app 107 269 3 24 (.t 104) (.t 106)), .u (.nck 108 (.t 100)), .u (.fa 109 0 (.t 108)), .u (.st 1 (.t 109) (.t 107))]
def f185r12 : List PG := [.u (.mv 110 (.t 0)), .u (.nck 111 (.t 110)), .u (.fa 112 1 (.t 111)), .u (.ld 113 1 false (.t 112)), .u (.ld 114 3 true (.t 10)), .u (.mv 115 (.t 0)), .u (.nck 116 (.t 115)), .u (.fa 117 0 (.t 116)), .u (.ld 118 1 false (.t 117)), .u (.len 119 (.t 118)), .u (.bo 120 .sub (.t 119) (.k (.int .i64 1))), .u (.mup true false [.i, .i, .i] 1 (.t 113) (.t 114) (.t 120))]
def f185r13 : List PG := [.u (.mv 121 (.t 0)), .u (.nck 122 (.t 121)), .u (.fa 123 0 (.t 122)), .u (.ld 124 1 false (.t 123)), .u (.len 125 (.t 124)), .u (.bo 126 .sub (.t 125) (.k (.int .i64 1))), .u (.mv 8 (.t 126)), .u (.mv 9 (.k (.nilIface)))]
abbrev f185p9 : PC := .seq (.reg f185r13) (.ret)
abbrev f185p10 : PC := .seq (.regD f185r12 []) (f185p9)
abbrev f185p11 : PC := .seq (.regD f185r11 [(0, 7)]) (f185p10)
abbrev f185p12 : PC := .seq (.seq (.regD f185r9 []) (f185p8)) (f185p11)
abbrev f185p13 : PC := .seq (.seq (.regD f185r6 []) (f185p6)) (f185p12)
abbrev f185p14 : PC := .seq (.seq (.reg f185r4) (f185p3)) (f185p13)
abbrev f185p15 : PC := .seq (.reg f185r3) (f185p14)
abbrev f185p16 : PC := .seq (.seq (.reg f185r1) (f185p1)) (f185p15)
abbrev f185pc : PC := .seq (.reg f185r0) (f185p16)
def f185k : List Nat := [0, 1, 2, 3, 8, 9, 10, 11, 12, 68, 76, 87, 98]
theorem f185c : Tryz.f185.body.bind (cC te Tryz.f185.ntmps) = some f185pc := by kernel_rfl
set_option maxRecDepth 20000
set_option maxHeartbeats 4000000


abbrev ndD (x : Nd) : List D := [.v (.int .i64 x.1), .v (.int .i64 x.2.1), .v (.int .i64 x.2.2)]
abbrev ndK (x : Nd) : List Value := [.int .i64 x.1, .int .i64 x.2.1, .int .i64 x.2.2]
def seenGo : List Nd → Nat → ML
  | [], _ => []
  | x :: r, i => (ndK x, [.v (.int .i64 (i : Int))]) :: seenGo r (i + 1)
/-- What an arena has seen. -/
def seenL (ns : List Nd) : ML := seenGo (ns.drop 2) 2
theorem eq3 (x y : Nd) : eqLs [.i, .i, .i] (ndK x) (ndK y) = some (decide (x = y)) := by
  obtain ⟨a, b, c⟩ := x
  obtain ⟨a', b', c'⟩ := y
  simp only [eqLs, if_true, Option.map_some, Option.some.injEq, Bool.and_true]
  rw [Bool.eq_iff_iff]
  simp
theorem mcmp_seenGo (x : Nd) : ∀ (l : List Nd) (i : Nat), mcmp [.i, .i, .i] (ndK x) (seenGo l i) = true
  | [], _ => rfl
  | y :: r, i => by
    simp only [seenGo, mcmp]
    rw [eq3]
    have := mcmp_seenGo x r (i + 1)
    cases decide (x = y) <;> simp [this]
theorem mget_seenGo (x : Nd) : ∀ (l : List Nd) (i : Nat), mget [.i, .i, .i] (ndK x) (seenGo l i) = (atGo x l i).map fun j : Nat => [D.v (.int .i64 (j : Int))]
  | [], _ => rfl
  | y :: r, i => by
    simp only [seenGo, mget, atGo]
    rw [eq3, mget_seenGo x r (i + 1)]
    by_cases h : x = y <;> simp [h]
theorem mput_seenGo (x : Nd) : ∀ (l : List Nd) (i : Nat), atGo x l i = none → mput [.i, .i, .i] (ndK x) [.v (.int .i64 ((i + l.length : Nat) : Int))] (seenGo l i) = seenGo (l ++ [x]) i
  | [], _, _ => rfl
  | y :: r, i, h => by
    simp only [atGo] at h
    split at h
    · cases h
    · rename_i hxy
      have ih := mput_seenGo x r (i + 1) h
      simp only [seenGo, mput, List.cons_append]
      rw [eq3, if_neg (by simp [hxy]), ← ih, List.length_cons, show i + (r.length + 1) = i + 1 + r.length by omega]
theorem mcmp_seen (v l h : Int) (ns : List Nd) : mcmp [.i, .i, .i] [.int .i64 v, .int .i64 l, .int .i64 h] (seenL ns) = true := mcmp_seenGo (v, l, h) _ _
theorem mget_seen (v l h : Int) (ns : List Nd) : mget [.i, .i, .i] [.int .i64 v, .int .i64 l, .int .i64 h] (seenL ns) = (atGo (v, l, h) (ns.drop 2) 2).map fun j : Nat => [D.v (.int .i64 (j : Int))] := mget_seenGo (v, l, h) _ _
theorem mput_seen {v l h : Int} {ns : List Nd} (hl : 2 ≤ ns.length) (ha : atGo (v, l, h) (ns.drop 2) 2 = none) : mput [.i, .i, .i] [.int .i64 v, .int .i64 l, .int .i64 h] [.v (.int .i64 (ns.length : Int))] (seenL ns) = seenL (ns ++ [(v, l, h)]) := by
  have := mput_seenGo (v, l, h) (ns.drop 2) 2 ha
  rw [List.length_drop, show 2 + (ns.length - 2) = ns.length by omega] at this
  unfold seenL
  rw [List.drop_append_of_le_length hl]
  exact this
/-- An arena of so many nodes, in memory. -/
abbrev arO (ns : List Nd) : Mq.Os := [(100000, .box [.own 100001 (ns.length - 2), .mp 100002, .d (.v (.int .i64 131072))]), (100001, .row 269 3 (ns.length - 2) (ns.map ndD)), (100002, .map true false (seenL ns))]
theorem flat_seen : ∀ (l : List Nd) (i : Nat), flatRow ((seenGo l i).map (·.2))
  | [], _ => fun es he => by simp [seenGo] at he
  | x :: l, i => fun es he => by
    simp only [seenGo, List.map_cons, List.mem_cons] at he
    rcases he with rfl | he
    · intro d hd; simp only [List.mem_singleton] at hd; exact ⟨_, hd⟩
    · exact flat_seen l (i + 1) es he
theorem flat_ar (ns : List Nd) : flatO (arO ns) := ⟨rfl, flatRow_map ndD (fun x d hd => by simp only [List.mem_cons, List.not_mem_nil, or_false] at hd; rcases hd with rfl | rfl | rfl <;> exact ⟨_, rfl⟩) ns, flat_seen _ _, trivial⟩
def ns0 : List Nd := [(1024, 0, 0), (1024, 1, 1)]
theorem ns0_ok : ArOk ns0 := ⟨rfl, rfl, fun i x h1 h2 => by have := (List.getElem?_eq_some_iff.1 h2).1; simp [ns0] at this; omega, fun i j x h1 h2 h3 h4 => by have := (List.getElem?_eq_some_iff.1 h3).1; simp [ns0] at this; omega⟩
theorem arenaOf_fn : FnG Tryz.prog 87 [.d (.v (.int .i64 131072))] [] (.ptr 11 0) [(11, .box [.own 5 0, .mp 6, .d (.v (.int .i64 131072))]), (5, .row 269 3 0 (ns0.map ndD)), (6, .map true false [])] := by
  refine fnG_of teok Tryz.func87 (by kernel_rfl) f87c f87k [.tmp 2] rfl (by show 1 ≤ 12; omega) ?_
  repeat' first
|(with_reducible first | refine awp_seq ?_ | refine awp_reg ?_ | refine awp_ret ?_ | refine awp_skip ?_ | refine normQ_of ?_ | refine wkE_of ?_)
|with_reducible refine retG_ret rfl ?_ ?_
|with_reducible refine retG_nrm rfl ?_ ?_
|with_reducible refine awp_cond (by simp only [evX, lget, Option.getD_some, reduceIte, Nat.reduceEqDiff]; rfl) (fun hc => ?_) (fun hc => ?_)
|(with_reducible assumption)
|(with_reducible refine fun (hT : (_ : Bool) = _) => ?_)
|with_reducible refine And.intro ?_ ?_
|simp only [f87r0, f87r1, f87k, runG_nil, runG_u, runG_ucS, stp, avL, avS, evs, evX, lget, lput, strip, putO, PO.dst, updO, okR, cells, splice, AV.cell, toD, toDs, binV, sameK, pickV, guardOf, okL_nil, sides, argsOf, rawOf, dv, dvL, owns, ownsL, flat, flatL, lkeep, seqQ, blockQ, initS, List.drop_succ_cons, List.drop_zero, List.take_succ_cons, List.take_zero, List.getD_cons_zero, List.getD_cons_succ, List.length_cons, List.length_nil, List.set_cons_zero, List.set_cons_succ, List.map_cons, List.map_nil, List.all_cons, List.all_nil, List.elem_cons, List.elem_nil, Option.getD_some, Option.getD_none, Option.bind_some, Option.isNone_none, reduceIte, reduceCtorEq, Nat.reduceEqDiff, Nat.reduceAdd, Nat.reduceLeDiff, Nat.zero_add, Nat.add_zero, Nat.reduceBEq, Bool.and_self, Bool.and_true, Bool.true_and, Bool.or_self, Bool.or_false, Bool.false_or, Bool.or_true, Bool.true_or, true_and, and_true, and_self, implies_true, forall_const, Bool.false_eq_true, id_eq, retQ, resOf, resV, Option.some.injEq, exists_eq_left', AV.d.injEq, D.v.injEq, Value.bool.injEq, imp_self, bldF, bldS, toVals, eqLs, Option.map_some, imp_false, not_true_eq_false, not_false_eq_true, List.append_nil, List.cons_append, List.nil_append, Option.toList_some, Option.toList_none, subS, subO, Bool.bne_false, Bool.bne_true, elemsOf, bslD, bslS, mentries, isAgV, asA, lputs, mgetD_set, mcmp_set, mput_set, List.headD_cons, sealS, sealO, sealV, sealL, mput_nil, mcmp_nil, sealsS, sealsO, Bool.true_bne, Bool.false_bne, bne_self_eq_false, Int.reduceToNat, oSl, resR, runS_nil, runS_gc, ren, renL, renO, sg, gBack, lenB, argsN, dvN]
  all_goals try first
|omega
|rfl
|(rw [ea]; done)
|(rw [ea, hp]; done)
|(simp at hc; done)
|(simp; omega)
theorem mk_eq {ns : List Nd} (h : ArOk ns) {v lo hi : Int} (hv : 0 ≤ v ∧ v < 4) (l0 : 0 ≤ lo ∧ lo < ns.length) (h0 : 0 ≤ hi ∧ hi < ns.length) (hl : v < (nd ns lo).1) (hh : v < (nd ns hi).1) (he : lo = hi) : FnG Tryz.prog 185 [.ptr 100000 0, .d (.v (.int .i64 v)), .d (.v (.int .i64 lo)), .d (.v (.int .i64 hi))] (arO ns) (.tp [.d (.v (.int .i64 lo)), .d (.v .nilIface)]) (arO ns) := by
  have hm : maxLen = 9223372036854775807 := rfl
  have hlen := h.len
  have hfew := h.few
  have e1 : decide (v < 0) = false := decide_eq_false (by omega)
  have e2 : decide ((1024 : Int) ≤ v) = false := decide_eq_false (by omega)
  have e3 : decide (lo < 0) = false := decide_eq_false (by omega)
  have e4 : decide ((ns.length : Int) ≤ lo) = false := decide_eq_false (by omega)
  have e5 : decide (hi < 0) = false := decide_eq_false (by omega)
  have e6 : decide ((ns.length : Int) ≤ hi) = false := decide_eq_false (by omega)
  have g1 := at_int ndD ns (1024, 0, 0) l0.1 l0.2
  have g2 := at_int ndD ns (1024, 0, 0) h0.1 h0.2
  have g3 : List.getD ns lo.toNat (1024, 0, 0) = nd ns lo := rfl
  have g4 : List.getD ns hi.toNat (1024, 0, 0) = nd ns hi := rfl
  have e7 : decide ((nd ns lo).1 ≤ v) = false := decide_eq_false (by omega)
  have e8 : decide ((nd ns hi).1 ≤ v) = false := decide_eq_false (by omega)
  have e9 : ((ns.length : Int) == 131072) = false := by rw [beq_eq_false_iff_ne]; omega
  have ea : IntKind.i64.wrap (((ns.length + 1 : Nat) : Int) - 1) = (ns.length : Int) := (wrapI64 _ (by omega) (by omega)).trans (by omega)
  subst he
  refine fnG_of teok Tryz.func185 (by kernel_rfl) f185c f185k [.tmp 8, .tmp 9] rfl (by show 4 ≤ 127; omega) ?_
  first | (have _q := @g1; clear _q) | have g1 : Nat.pred 77 = 76 := rfl
  first | (have _q := @g2; clear _q) | have g2 : Nat.pred 77 = 76 := rfl
  first | (have _q := @g3; clear _q) | have g3 : Nat.pred 77 = 76 := rfl
  first | (have _q := @g4; clear _q) | have g4 : Nat.pred 77 = 76 := rfl
  repeat' first
|(exact absurd hc (by decide))
|(with_reducible first | refine awp_seq ?_ | refine awp_reg ?_ | refine awp_regD ?_ | refine awp_ret ?_ | refine awp_skip ?_ | refine normQ_of ?_ | refine wkE_of ?_)
|with_reducible refine retG_ret rfl ?_ ?_
|with_reducible refine retG_nrm rfl ?_ ?_
|(with_reducible first | refine runD_nil ?_ | refine runD_cons ?_ | refine runF_cons ?_ | refine runF_nil ?_ | refine KF_of ?_ | refine chkQ_of rfl ?_)
|with_reducible refine awp_cond (by simp only [evX, lget, Option.getD_some, reduceIte, Nat.reduceEqDiff]; rfl) (fun hc => ?_) (fun hc => ?_)
|(with_reducible assumption)
|with_reducible refine fun (hG : okL _) => ?_
|(with_reducible refine fun (hT : (_ : Bool) = _) => ?_)
|(with_reducible first | exact hG.2 | exact hG.2.2 | exact hG.2.2.2 | exact hG.2.2.2.2)
|with_reducible refine okL_mk ?_ ?_
|with_reducible refine And.intro ?_ ?_
|simp only [f185r0, f185r1, f185r2, f185r3, f185r4, f185r5, f185r6, f185r7, f185r8, f185r9, f185r10, f185r11, f185r12, f185r13, e1, e2, e3, e4, e5, e6, g1, g2, g3, g4, e7, e8, e9, beq_self_eq_true, f185k, List.getElem?_cons_zero, List.getElem?_cons_succ, List.length_map, mcmp_seen, mget_seen, runG_nil, runG_u, runG_g, runG_ucS, stp, avL, avS, evs, evX, lget, lput, strip, putO, PO.dst, updO, okR, cells, splice, AV.cell, toD, toDs, binV, sameK, pickV, guardOf, okL_nil, sides, argsOf, rawOf, dv, dvL, owns, ownsL, flat, flatL, lkeep, seqQ, blockQ, initS, List.drop_succ_cons, List.drop_zero, List.take_succ_cons, List.take_zero, List.getD_cons_zero, List.getD_cons_succ, List.length_cons, List.length_nil, List.set_cons_zero, List.set_cons_succ, List.map_cons, List.map_nil, List.all_cons, List.all_nil, List.elem_cons, List.elem_nil, Option.getD_some, Option.getD_none, Option.bind_some, Option.isNone_none, reduceIte, reduceCtorEq, Nat.reduceEqDiff, Nat.reduceAdd, Nat.reduceLeDiff, Nat.zero_add, Nat.add_zero, Nat.reduceBEq, Bool.and_self, Bool.and_true, Bool.true_and, Bool.or_self, Bool.or_false, Bool.false_or, Bool.or_true, Bool.true_or, true_and, and_true, and_self, implies_true, forall_const, Bool.false_eq_true, id_eq, retQ, resOf, resV, Option.some.injEq, exists_eq_left', AV.d.injEq, D.v.injEq, Value.bool.injEq, imp_self, bldF, bldS, toVals, eqLs, Option.map_some, imp_false, not_true_eq_false, not_false_eq_true, foot, wrs, nm, nmL, PG.reads, PG.dst, PO.reads, X.sl, sls, slB, List.append_nil, List.cons_append, List.nil_append, Option.toList_some, Option.toList_none, subS, subO, Bool.bne_false, Bool.bne_true, elemsOf, bslD, bslS, mentries, isAgV, asA, lputs, mgetD_set, mcmp_set, mput_set, List.headD_cons, sealS, sealO, sealV, sealL, mput_nil, mcmp_nil, sealsS, sealsO, Bool.true_bne, Bool.false_bne, bne_self_eq_false, Int.reduceToNat, oSl, resR, runS_nil, runS_gc, ren, renL, renO, sg, gBack, lenB, argsN, dvN]
  all_goals try first
|omega
|rfl
|(rw [ea]; done)
|(rw [ea, hp]; done)
|(simp at hc; done)
|(simp; omega)
theorem mk_old {ns : List Nd} (h : ArOk ns) {v lo hi : Int} (hv : 0 ≤ v ∧ v < 4) (l0 : 0 ≤ lo ∧ lo < ns.length) (h0 : 0 ≤ hi ∧ hi < ns.length) (hl : v < (nd ns lo).1) (hh : v < (nd ns hi).1) (hne : lo ≠ hi) (i : Nat) (ha : atGo (v, lo, hi) (ns.drop 2) 2 = some i) : FnG Tryz.prog 185 [.ptr 100000 0, .d (.v (.int .i64 v)), .d (.v (.int .i64 lo)), .d (.v (.int .i64 hi))] (arO ns) (.tp [.d (.v (.int .i64 i)), .d (.v .nilIface)]) (arO ns) := by
  have hm : maxLen = 9223372036854775807 := rfl
  have hlen := h.len
  have hfew := h.few
  have e1 : decide (v < 0) = false := decide_eq_false (by omega)
  have e2 : decide ((1024 : Int) ≤ v) = false := decide_eq_false (by omega)
  have e3 : decide (lo < 0) = false := decide_eq_false (by omega)
  have e4 : decide ((ns.length : Int) ≤ lo) = false := decide_eq_false (by omega)
  have e5 : decide (hi < 0) = false := decide_eq_false (by omega)
  have e6 : decide ((ns.length : Int) ≤ hi) = false := decide_eq_false (by omega)
  have g1 := at_int ndD ns (1024, 0, 0) l0.1 l0.2
  have g2 := at_int ndD ns (1024, 0, 0) h0.1 h0.2
  have g3 : List.getD ns lo.toNat (1024, 0, 0) = nd ns lo := rfl
  have g4 : List.getD ns hi.toNat (1024, 0, 0) = nd ns hi := rfl
  have e7 : decide ((nd ns lo).1 ≤ v) = false := decide_eq_false (by omega)
  have e8 : decide ((nd ns hi).1 ≤ v) = false := decide_eq_false (by omega)
  have e9 : ((ns.length : Int) == 131072) = false := by rw [beq_eq_false_iff_ne]; omega
  have ea : IntKind.i64.wrap (((ns.length + 1 : Nat) : Int) - 1) = (ns.length : Int) := (wrapI64 _ (by omega) (by omega)).trans (by omega)
  have eb : (lo == hi) = false := by rw [beq_eq_false_iff_ne]; exact hne
  refine fnG_of teok Tryz.func185 (by kernel_rfl) f185c f185k [.tmp 8, .tmp 9] rfl (by show 4 ≤ 127; omega) ?_
  first | (have _q := @g1; clear _q) | have g1 : Nat.pred 77 = 76 := rfl
  first | (have _q := @g2; clear _q) | have g2 : Nat.pred 77 = 76 := rfl
  first | (have _q := @g3; clear _q) | have g3 : Nat.pred 77 = 76 := rfl
  first | (have _q := @g4; clear _q) | have g4 : Nat.pred 77 = 76 := rfl
  repeat' first
|(exact absurd hc (by decide))
|(with_reducible first | refine awp_seq ?_ | refine awp_reg ?_ | refine awp_regD ?_ | refine awp_ret ?_ | refine awp_skip ?_ | refine normQ_of ?_ | refine wkE_of ?_)
|with_reducible refine retG_ret rfl ?_ ?_
|with_reducible refine retG_nrm rfl ?_ ?_
|(with_reducible first | refine runD_nil ?_ | refine runD_cons ?_ | refine runF_cons ?_ | refine runF_nil ?_ | refine KF_of ?_ | refine chkQ_of rfl ?_)
|with_reducible refine awp_cond (by simp only [evX, lget, Option.getD_some, reduceIte, Nat.reduceEqDiff]; rfl) (fun hc => ?_) (fun hc => ?_)
|(with_reducible assumption)
|with_reducible refine fun (hG : okL _) => ?_
|(with_reducible refine fun (hT : (_ : Bool) = _) => ?_)
|(with_reducible first | exact hG.2 | exact hG.2.2 | exact hG.2.2.2 | exact hG.2.2.2.2)
|with_reducible refine okL_mk ?_ ?_
|with_reducible refine And.intro ?_ ?_
|simp only [f185r0, f185r1, f185r2, f185r3, f185r4, f185r5, f185r6, f185r7, f185r8, f185r9, f185r10, f185r11, f185r12, f185r13, e1, e2, e3, e4, e5, e6, g1, g2, g3, g4, e7, e8, e9, eb, ha, f185k, List.getElem?_cons_zero, List.getElem?_cons_succ, List.length_map, mcmp_seen, mget_seen, Option.isSome_some, runG_nil, runG_u, runG_g, runG_ucS, stp, avL, avS, evs, evX, lget, lput, strip, putO, PO.dst, updO, okR, cells, splice, AV.cell, toD, toDs, binV, sameK, pickV, guardOf, okL_nil, sides, argsOf, rawOf, dv, dvL, owns, ownsL, flat, flatL, lkeep, seqQ, blockQ, initS, List.drop_succ_cons, List.drop_zero, List.take_succ_cons, List.take_zero, List.getD_cons_zero, List.getD_cons_succ, List.length_cons, List.length_nil, List.set_cons_zero, List.set_cons_succ, List.map_cons, List.map_nil, List.all_cons, List.all_nil, List.elem_cons, List.elem_nil, Option.getD_some, Option.getD_none, Option.bind_some, Option.isNone_none, reduceIte, reduceCtorEq, Nat.reduceEqDiff, Nat.reduceAdd, Nat.reduceLeDiff, Nat.zero_add, Nat.add_zero, Nat.reduceBEq, Bool.and_self, Bool.and_true, Bool.true_and, Bool.or_self, Bool.or_false, Bool.false_or, Bool.or_true, Bool.true_or, true_and, and_true, and_self, implies_true, forall_const, Bool.false_eq_true, id_eq, retQ, resOf, resV, Option.some.injEq, exists_eq_left', AV.d.injEq, D.v.injEq, Value.bool.injEq, imp_self, bldF, bldS, toVals, eqLs, Option.map_some, imp_false, not_true_eq_false, not_false_eq_true, foot, wrs, nm, nmL, PG.reads, PG.dst, PO.reads, X.sl, sls, slB, List.append_nil, List.cons_append, List.nil_append, Option.toList_some, Option.toList_none, subS, subO, Bool.bne_false, Bool.bne_true, elemsOf, bslD, bslS, mentries, isAgV, asA, lputs, mgetD_set, mcmp_set, mput_set, List.headD_cons, sealS, sealO, sealV, sealL, mput_nil, mcmp_nil, sealsS, sealsO, Bool.true_bne, Bool.false_bne, bne_self_eq_false, Int.reduceToNat, oSl, resR, runS_nil, runS_gc, ren, renL, renO, sg, gBack, lenB, argsN, dvN]
  all_goals try first
|omega
|rfl
|(rw [ea]; done)
|(rw [ea, hp]; done)
|(simp at hc; done)
|(simp; omega)
theorem mk_new {ns : List Nd} (h : ArOk ns) {v lo hi : Int} (hv : 0 ≤ v ∧ v < 4) (l0 : 0 ≤ lo ∧ lo < ns.length) (h0 : 0 ≤ hi ∧ hi < ns.length) (hl : v < (nd ns lo).1) (hh : v < (nd ns hi).1) (hne : lo ≠ hi) (ha : atGo (v, lo, hi) (ns.drop 2) 2 = none) : FnG Tryz.prog 185 [.ptr 100000 0, .d (.v (.int .i64 v)), .d (.v (.int .i64 lo)), .d (.v (.int .i64 hi))] (arO ns) (.tp [.d (.v (.int .i64 ns.length)), .d (.v .nilIface)]) (arO (ns ++ [(v, lo, hi)])) := by
  have hm : maxLen = 9223372036854775807 := rfl
  have hlen := h.len
  have hfew := h.few
  have e1 : decide (v < 0) = false := decide_eq_false (by omega)
  have e2 : decide ((1024 : Int) ≤ v) = false := decide_eq_false (by omega)
  have e3 : decide (lo < 0) = false := decide_eq_false (by omega)
  have e4 : decide ((ns.length : Int) ≤ lo) = false := decide_eq_false (by omega)
  have e5 : decide (hi < 0) = false := decide_eq_false (by omega)
  have e6 : decide ((ns.length : Int) ≤ hi) = false := decide_eq_false (by omega)
  have g1 := at_int ndD ns (1024, 0, 0) l0.1 l0.2
  have g2 := at_int ndD ns (1024, 0, 0) h0.1 h0.2
  have g3 : List.getD ns lo.toNat (1024, 0, 0) = nd ns lo := rfl
  have g4 : List.getD ns hi.toNat (1024, 0, 0) = nd ns hi := rfl
  have e7 : decide ((nd ns lo).1 ≤ v) = false := decide_eq_false (by omega)
  have e8 : decide ((nd ns hi).1 ≤ v) = false := decide_eq_false (by omega)
  have e9 : ((ns.length : Int) == 131072) = false := by rw [beq_eq_false_iff_ne]; omega
  have ea : IntKind.i64.wrap (((ns.length + 1 : Nat) : Int) - 1) = (ns.length : Int) := (wrapI64 _ (by omega) (by omega)).trans (by omega)
  have eb : (lo == hi) = false := by rw [beq_eq_false_iff_ne]; exact hne
  have hp := mput_seen hlen ha
  refine fnG_of teok Tryz.func185 (by kernel_rfl) f185c f185k [.tmp 8, .tmp 9] rfl (by show 4 ≤ 127; omega) ?_
  first | (have _q := @g1; clear _q) | have g1 : Nat.pred 77 = 76 := rfl
  first | (have _q := @g2; clear _q) | have g2 : Nat.pred 77 = 76 := rfl
  first | (have _q := @g3; clear _q) | have g3 : Nat.pred 77 = 76 := rfl
  first | (have _q := @g4; clear _q) | have g4 : Nat.pred 77 = 76 := rfl
  repeat' first
|(exact absurd hc (by decide))
|(with_reducible first | refine awp_seq ?_ | refine awp_reg ?_ | refine awp_regD ?_ | refine awp_ret ?_ | refine awp_skip ?_ | refine normQ_of ?_ | refine wkE_of ?_)
|with_reducible refine retG_ret rfl ?_ ?_
|with_reducible refine retG_nrm rfl ?_ ?_
|(with_reducible first | refine runD_nil ?_ | refine runD_cons ?_ | refine runF_cons ?_ | refine runF_nil ?_ | refine KF_of ?_ | refine chkQ_of rfl ?_)
|with_reducible refine awp_cond (by simp only [evX, lget, Option.getD_some, reduceIte, Nat.reduceEqDiff]; rfl) (fun hc => ?_) (fun hc => ?_)
|(with_reducible assumption)
|with_reducible refine fun (hG : okL _) => ?_
|(with_reducible refine fun (hT : (_ : Bool) = _) => ?_)
|(with_reducible first | exact hG.2 | exact hG.2.2 | exact hG.2.2.2 | exact hG.2.2.2.2)
|with_reducible refine okL_mk ?_ ?_
|with_reducible refine And.intro ?_ ?_
|simp only [f185r0, f185r1, f185r2, f185r3, f185r4, f185r5, f185r6, f185r7, f185r8, f185r9, f185r10, f185r11, f185r12, f185r13, e1, e2, e3, e4, e5, e6, g1, g2, g3, g4, e7, e8, e9, eb, ha, hp, ea, f185k, List.getElem?_cons_zero, List.getElem?_cons_succ, List.length_map, mcmp_seen, mget_seen, Option.isSome_none, List.length_append, Option.map_none, runG_nil, runG_u, runG_g, runG_ucS, stp, avL, avS, evs, evX, lget, lput, strip, putO, PO.dst, updO, okR, cells, splice, AV.cell, toD, toDs, binV, sameK, pickV, guardOf, okL_nil, sides, argsOf, rawOf, dv, dvL, owns, ownsL, flat, flatL, lkeep, seqQ, blockQ, initS, List.drop_succ_cons, List.drop_zero, List.take_succ_cons, List.take_zero, List.getD_cons_zero, List.getD_cons_succ, List.length_cons, List.length_nil, List.set_cons_zero, List.set_cons_succ, List.map_cons, List.map_nil, List.all_cons, List.all_nil, List.elem_cons, List.elem_nil, Option.getD_some, Option.getD_none, Option.bind_some, Option.isNone_none, reduceIte, reduceCtorEq, Nat.reduceEqDiff, Nat.reduceAdd, Nat.reduceLeDiff, Nat.zero_add, Nat.add_zero, Nat.reduceBEq, Bool.and_self, Bool.and_true, Bool.true_and, Bool.or_self, Bool.or_false, Bool.false_or, Bool.or_true, Bool.true_or, true_and, and_true, and_self, implies_true, forall_const, Bool.false_eq_true, id_eq, retQ, resOf, resV, Option.some.injEq, exists_eq_left', AV.d.injEq, D.v.injEq, Value.bool.injEq, imp_self, bldF, bldS, toVals, eqLs, Option.map_some, imp_false, not_true_eq_false, not_false_eq_true, foot, wrs, nm, nmL, PG.reads, PG.dst, PO.reads, X.sl, sls, slB, List.append_nil, List.cons_append, List.nil_append, Option.toList_some, Option.toList_none, subS, subO, Bool.bne_false, Bool.bne_true, elemsOf, bslD, bslS, mentries, isAgV, asA, lputs, mgetD_set, mcmp_set, mput_set, List.headD_cons, sealS, sealO, sealV, sealL, mput_nil, mcmp_nil, sealsS, sealsO, Bool.true_bne, Bool.false_bne, bne_self_eq_false, Int.reduceToNat, oSl, resR, runS_nil, runS_gc, ren, renL, renO, sg, gBack, lenB, argsN, dvN]
  all_goals try first
|omega
|rfl
|(rw [ea]; done)
|(rw [ea, hp]; done)
|(simp at hc; done)
|(simp; omega)
theorem mk_fn {ns : List Nd} (h : ArOk ns) {v lo hi : Int} (hv : 0 ≤ v ∧ v < 4) (l0 : 0 ≤ lo ∧ lo < ns.length) (h0 : 0 ≤ hi ∧ hi < ns.length) (hl : v < (nd ns lo).1) (hh : v < (nd ns hi).1) : FnG Tryz.prog 185 [.ptr 100000 0, .d (.v (.int .i64 v)), .d (.v (.int .i64 lo)), .d (.v (.int .i64 hi))] (arO ns) (.tp [.d (.v (.int .i64 (mkV ns (v, lo, hi)).2)), .d (.v .nilIface)]) (arO (mkV ns (v, lo, hi)).1) := by
  unfold mkV
  split
  · rename_i he; exact mk_eq h hv l0 h0 hl hh he
  · rename_i hne
    split
    · rename_i i hi; exact mk_old h hv l0 h0 hl hh hne i hi
    · rename_i hi; exact mk_new h hv l0 h0 hl hh hne hi
end Go.Proofs.YtgkkaimcchlnaaaGreatDoor
