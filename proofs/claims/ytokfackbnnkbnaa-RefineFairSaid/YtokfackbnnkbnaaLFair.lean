/- The law RefineFair: whatever the input, it returns true and changes nothing. Printed by a program of this project (wip/mq). -/
import Derived.Test.YtokfackbnnkbnaaNetF
import Derived.Test.YtokfackbnnkbnaaArgsS
import Derived.Test.YtokfackbnnkbnaaAwk17
set_option linter.unusedVariables false
set_option linter.unusedSimpArgs false

namespace Go.Proofs.Ytokfackbnnkbnaa
open Go Mq Go.ChangeShapes Go.WideShapes Go.ChangeAt Go.RowKit
/-! maquette/maquettelaw17.RefineFair -/
def f6r0 : List PG := [.u (.bx 2 (.t 0)), .u (.mv 4 (.k (.bool false)))]
def f6r1 : List PG := [.uc 16 10 [], .u (.no 17 (.t 16))]
def f6r2 : List PG := [.u (.mv 4 (.k (.bool false)))]
abbrev f6p0 : PC := .seq (.reg f6r2) (.ret)
abbrev f6p1 : PC := .cond (.t 17) (f6p0) (.skip)
def f6r3 : List PG := [.u (.ld 19 6 true (.t 2)), .u (.mv 20 (.t 1)), .uc 21 14 [.t 19, .t 20], .u (.mv 18 (.t 21)), .u (.ext 22 (.t 18) 0), .u (.ext 23 (.t 18) 1), .u (.ext 24 (.t 18) 2), .u (.al 5 [.nl 1, .nl 1, .nl 1]), .u (.al 6 [.d (.v (.int .u32 0)), .d (.v (.int .i64 0))]), .u (.st 3 (.t 5) (.t 22)), .u (.st 2 (.t 6) (.t 23)), .u (.mv 7 (.t 24))]
def f6r4 : List PG := [.u (.mv 25 (.t 7)), .u (.no 26 (.t 25))]
def f6r5 : List PG := [.u (.mv 4 (.k (.bool true)))]
abbrev f6p2 : PC := .seq (.reg f6r5) (.ret)
abbrev f6p3 : PC := .cond (.t 26) (f6p2) (.skip)
def f6r6 : List PG := [.u (.ld 28 3 true (.t 5)), .uc 29 12 [.t 28], .u (.mv 27 (.t 29)), .u (.ext 30 (.t 27) 0), .u (.ext 31 (.t 27) 1), .u (.mv 8 (.t 30)), .u (.mv 9 (.t 31))]
def f6r7 : List PG := [.u (.mv 32 (.t 9)), .u (.beqn 33 true (.t 32)), .u (.mv 34 (.t 33)), .g 34 false (.mv 35 (.t 8)), .g 34 false (.len 36 (.t 35)), .g 34 false (.fa 37 0 (.t 5)), .g 34 false (.ld 38 1 false (.t 37)), .g 34 false (.len 39 (.t 38)), .g 34 false (.beq 40 true false (.t 36) (.t 39)), .u (.pick 41 (.t 34) (.k (.bool true)) (.t 40))]
def f6r8 : List PG := [.u (.mv 4 (.k (.bool false)))]
abbrev f6p4 : PC := .seq (.reg f6r8) (.ret)
abbrev f6p5 : PC := .cond (.t 41) (f6p4) (.skip)
def f6r9 : List PG := [.u (.mv 42 (.t 8)), .u (.len 43 (.t 42)), .u (.mv 44 (.k (.int .i64 0)))]
def f6r10 : List PG := [.u (.bo 45 .lss (.t 44) (.t 43))]
def f6r11 : List PG := [.u (.mv 46 (.t 44)), .u (.mv 10 (.t 46))]
def f6r12 : List PG := [.u (.mv 47 (.t 8)), .u (.len 48 (.t 47)), .u (.mv 49 (.k (.int .i64 0)))]
def f6r13 : List PG := [.u (.bo 50 .lss (.t 49) (.t 48))]
def f6r14 : List PG := [.u (.mv 51 (.t 49)), .u (.mv 11 (.t 51))]
def f6r15 : List PG := [.u (.mv 52 (.t 8)), .u (.mv 53 (.t 10)), .u (.ia 54 1 (.t 52) (.t 53)), .u (.ld 55 1 false (.t 54)), .u (.mv 56 (.t 8)), .u (.mv 57 (.t 11)), .u (.ia 58 1 (.t 56) (.t 57)), .u (.ld 59 1 false (.t 58)), .u (.beq 60 false false (.t 55) (.t 59)), .u (.mv 61 (.t 60)), .g 61 true (.ld 62 3 true (.t 5)), .g 61 true (.mv 63 (.t 8)), .g 61 true (.mv 64 (.t 10)), .g 61 true (.mv 65 (.t 11)), .gc 61 true 66 18 [.t 62, .t 63, .t 64, .t 65], .g 61 true (.no 67 (.t 66)), .u (.pick 68 (.t 61) (.t 67) (.k (.bool false)))]
def f6r16 : List PG := [.u (.mv 4 (.k (.bool false)))]
abbrev f6p6 : PC := .seq (.reg f6r16) (.ret)
abbrev f6p7 : PC := .cond (.t 68) (f6p6) (.skip)
abbrev f6p8 : PC := .seq (.regD f6r15 []) (f6p7)
def f6r17 : List PG := [.u (.bo 69 .add (.t 49) (.k (.int .i64 1))), .u (.mv 49 (.t 69))]
abbrev f6p9 : PC := .seq (.block 3 (.seq (.reg f6r14) (f6p8))) (.reg f6r17)
abbrev f6p10 : PC := .seq (.cond (.t 50) (.skip) (.exit 2)) (f6p9)
abbrev f6p11 : PC := .seq (.reg f6r13) (f6p10)
abbrev f6p12 : PC := .block 2 (.loop (f6p11))
def f6r18 : List PG := [.u (.fa 70 2 (.t 5)), .u (.ld 71 1 false (.t 70)), .u (.mv 72 (.t 10)), .u (.ia 73 1 (.t 71) (.t 72)), .u (.ld 74 1 false (.t 73)), .u (.len 75 (.t 74)), .u (.mv 76 (.k (.int .i64 0)))]
def f6r19 : List PG := [.u (.bo 77 .lss (.t 76) (.t 75))]
def f6r20 : List PG := [.u (.mv 78 (.t 76)), .u (.ia 79 4 (.t 74) (.t 76)), .u (.ld 80 4 true (.t 79)), .u (.al 13 [.d (.v (.int .i64 0)), .d (.v (.int .i64 0)), .nl 10, .nl 10]), .u (.mv 12 (.t 78)), .u (.st 4 (.t 13) (.t 80))]
def f6r21 : List PG := [.u (.fa 81 2 (.t 5)), .u (.ld 82 1 false (.t 81)), .u (.mv 83 (.t 10)), .u (.ia 84 1 (.t 82) (.t 83)), .u (.ld 85 1 false (.t 84)), .u (.mv 86 (.t 12)), .u (.slc 87 4 (.t 85) none (some (.t 86))), .u (.len 88 (.t 87)), .u (.mv 89 (.k (.int .i64 0)))]
def f6r22 : List PG := [.u (.bo 90 .lss (.t 89) (.t 88))]
def f6r23 : List PG := [.u (.ia 91 4 (.t 87) (.t 89)), .u (.ld 92 4 true (.t 91)), .u (.al 15 [.d (.v (.int .i64 0)), .d (.v (.int .i64 0)), .nl 10, .nl 10]), .u (.st 4 (.t 15) (.t 92))]
def f6r24 : List PG := [.u (.mv 93 (.t 8)), .u (.fa 94 0 (.t 13)), .u (.ld 95 1 false (.t 94)), .u (.ia 96 1 (.t 93) (.t 95)), .u (.ld 97 1 false (.t 96)), .u (.mv 98 (.t 8)), .u (.fa 99 0 (.t 15)), .u (.ld 100 1 false (.t 99)), .u (.ia 101 1 (.t 98) (.t 100)), .u (.ld 102 1 false (.t 101)), .u (.beq 103 false false (.t 97) (.t 102)), .u (.mv 104 (.t 103)), .g 104 true (.mv 105 (.t 8)), .g 104 true (.fa 106 0 (.t 13)), .g 104 true (.ld 107 1 false (.t 106)), .g 104 true (.ia 108 1 (.t 105) (.t 107)), .g 104 true (.ld 109 1 false (.t 108)), .g 104 true (.mv 110 (.t 8)), .g 104 true (.mv 111 (.t 10)), .g 104 true (.ia 112 1 (.t 110) (.t 111)), .g 104 true (.ld 113 1 false (.t 112)), .g 104 true (.beq 114 true false (.t 109) (.t 113)), .u (.pick 115 (.t 104) (.t 114) (.k (.bool false))), .u (.mv 116 (.t 115)), .g 116 true (.ld 117 4 true (.t 13)), .g 116 true (.ld 118 4 true (.t 15)), .gc 116 true 119 19 [.t 117, .t 118], .g 116 true (.no 120 (.t 119)), .u (.pick 121 (.t 116) (.t 120) (.k (.bool false)))]
def f6r25 : List PG := [.u (.mv 4 (.k (.bool false)))]
abbrev f6p13 : PC := .seq (.reg f6r25) (.ret)
abbrev f6p14 : PC := .cond (.t 121) (f6p13) (.skip)
abbrev f6p15 : PC := .seq (.regD f6r24 []) (f6p14)
def f6r26 : List PG := [.u (.bo 122 .add (.t 89) (.k (.int .i64 1))), .u (.mv 89 (.t 122))]
abbrev f6p16 : PC := .seq (.block 7 (.seq (.reg f6r23) (f6p15))) (.reg f6r26)
abbrev f6p17 : PC := .seq (.cond (.t 90) (.skip) (.exit 6)) (f6p16)
abbrev f6p18 : PC := .seq (.reg f6r22) (f6p17)
abbrev f6p19 : PC := .block 6 (.loop (f6p18))
abbrev f6p20 : PC := .seq (.reg f6r21) (f6p19)
def f6r27 : List PG := [.u (.bo 123 .add (.t 76) (.k (.int .i64 1))), .u (.mv 76 (.t 123))]
abbrev f6p21 : PC := .seq (.block 5 (.seq (.reg f6r20) (f6p20))) (.reg f6r27)
abbrev f6p22 : PC := .seq (.cond (.t 77) (.skip) (.exit 4)) (f6p21)
abbrev f6p23 : PC := .seq (.reg f6r19) (f6p22)
abbrev f6p24 : PC := .block 4 (.loop (f6p23))
abbrev f6p25 : PC := .seq (.reg f6r18) (f6p24)
abbrev f6p26 : PC := .seq (.seq (.reg f6r12) (f6p12)) (f6p25)
def f6r28 : List PG := [.u (.bo 124 .add (.t 44) (.k (.int .i64 1))), .u (.mv 44 (.t 124))]
abbrev f6p27 : PC := .seq (.block 1 (.seq (.reg f6r11) (f6p26))) (.reg f6r28)
abbrev f6p28 : PC := .seq (.cond (.t 45) (.skip) (.exit 0)) (f6p27)
abbrev f6p29 : PC := .seq (.reg f6r10) (f6p28)
abbrev f6p30 : PC := .block 0 (.loop (f6p29))
def f6r29 : List PG := [.u (.mv 4 (.k (.bool true)))]
abbrev f6p31 : PC := .seq (.reg f6r29) (.ret)
abbrev f6p32 : PC := .seq (.seq (.reg f6r9) (f6p30)) (f6p31)
abbrev f6p33 : PC := .seq (.seq (.reg f6r7) (f6p5)) (f6p32)
abbrev f6p34 : PC := .seq (.reg f6r6) (f6p33)
abbrev f6p35 : PC := .seq (.seq (.reg f6r4) (f6p3)) (f6p34)
abbrev f6p36 : PC := .seq (.reg f6r3) (f6p35)
abbrev f6p37 : PC := .seq (.seq (.reg f6r1) (f6p1)) (f6p36)
abbrev f6pc : PC := .seq (.reg f6r0) (f6p37)
def f6k : List Nat := [0, 1, 2, 4, 5, 7, 8, 9, 10, 11, 12, 13, 15, 17, 26, 41, 43, 44, 45, 48, 49, 50, 68, 74, 75, 76, 77, 87, 88, 89, 90, 121]
theorem f6c : Try.f6.body.bind (cC te Try.f6.ntmps) = some f6pc := by kernel_rfl
set_option maxRecDepth 20000
set_option maxHeartbeats 4000000
set_option linter.unusedSimpArgs false
set_option linter.unusedVariables false

theorem len_ok (a c : Nat) (h : a = c) : (if (!true) = true then true else !((a : Int) == (c : Int))) = false := by subst h; simp
theorem fair3 (a c d : Bool) : (if (if a = true then !c else false) = true then !d else false) = (a && (!c && !d)) := by cases a <;> cases c <;> cases d <;> rfl
theorem like_no {n : Net} {b : List Int} {x y : Nat} {v u : Int} (h : halvV n b = b) (hv : b[x]? = some v) (hu : b[y]? = some u) (hc : (if (v == u) = true then !likeV n b x y else false) = true) : False := by
  by_cases q : v = u
  · subst q
    rw [halv_fair h hv hu] at hc
    simp at hc
  · have : (v == u) = false := by simpa using q
    rw [this] at hc; simp at hc
theorem fair_no {n : Net} {b : List Int} {es : List Arc} {k : Nat} {v : Int} {e f : Arc} (h : takenV n b = none) (hk : n.edges[k]? = some es) (he : e ∈ es) (hf : f ∈ es) (hv : b[k]? = some v) (hc : (if (if (b.getD e.src.toNat 0 == b.getD f.src.toNat 0) = true then !(b.getD e.src.toNat 0 == v) else false) = true then !sameE e f else false) = true) : False := by
  rw [fair3] at hc
  simp only [Bool.and_eq_true, Bool.not_eq_true', beq_iff_eq, beq_eq_false_iff_ne, ne_eq] at hc
  have := taken_fair h hk he hf hc.1 (by rw [gD_some hv]; exact hc.2.1)
  rw [this] at hc
  exact absurd hc.2.2 (by decide)
theorem at_dropT {es : List Arc} {j k : Nat} (hj : j < (es.take k).length) : ∃ e, ((es.take k).map Arc.row).getD (Int.toNat (j : Int)) [] = Arc.row e ∧ e ∈ es ∧ j < (es.take k).length := by
  obtain ⟨e, _, h2, h3, h4⟩ := at_drop Arc.row (es.take k) j hj
  exact ⟨e, h2, List.mem_of_mem_take (List.mem_of_getElem? h3), h4⟩

theorem refineFair_none (sh : Shape) (hs : sh.ok) (w : Int) (hw : 0 ≤ w ∧ w ≤ 255) (hx : sh.netV w = none) : FnS Try.prog 6 [sh.av, .d (.v (.int .u8 w))] (.d (.v (.bool true))) := by
  have hN := netOfF_fn sh hs w hw
  rw [hx] at hN
  simp only [netA] at hN
  refine fn_of teok Try.func6 (by kernel_rfl) f6c f6k [.tmp 4] rfl (by show 2 ≤ 125; omega) ?_
  repeat' first
  | (exact absurd hc (by decide))
  | with_reducible refine awp_seq ?_
  | with_reducible refine awp_block ?_
  | with_reducible refine awp_scope ?_
  | with_reducible refine awp_reg ?_
  | with_reducible refine awp_regD ?_
  | with_reducible refine awp_ret ?_
  | with_reducible refine awp_skip ?_
  | with_reducible refine awp_exit ?_
  | with_reducible refine normQ_of ?_
  | with_reducible refine wkE_of ?_
  | with_reducible refine midQ_of (Wk_sub rfl rfl ?_ ?_)
  | with_reducible refine runD_nil ?_
  | with_reducible refine runD_cons ?_
  | with_reducible refine runF_cons ?_
  | with_reducible refine runF_nil ?_
  | with_reducible refine KF_of ?_
  | with_reducible refine chkQ_of rfl ?_
  | with_reducible refine awp_cond (by simp only [evX, lget, Option.getD_some, reduceIte, Nat.reduceEqDiff]; rfl) (fun hc => ?_) (fun hc => ?_)
  | with_reducible refine CallU_of (f := 10) (awake17_fn) (by first | exact Or.inr (Or.inl rfl) | exact Or.inl rfl) ?_
  | with_reducible refine CallC_of (f := 10) (fun _ => awake17_fn) (by first | exact Or.inr (Or.inl rfl) | exact Or.inl rfl) ?_
  | with_reducible refine CallU_of (f := 14) (hN) (by first | exact Or.inr (Or.inl rfl) | exact Or.inl rfl) ?_
  | with_reducible refine CallC_of (f := 14) (fun _ => hN) (by first | exact Or.inr (Or.inl rfl) | exact Or.inl rfl) ?_
  | (with_reducible assumption)
  | with_reducible refine fun (hG : okL _) => ?_
  | (with_reducible refine fun (hT : (_ : Bool) = _) => ?_)
  | (with_reducible first | exact hG.2 | exact hG.2.2 | exact hG.2.2.2 | exact hG.2.2.2.2)
  | with_reducible refine okL_mk ?_ ?_
  | with_reducible refine And.intro ?_ ?_
  | simp only [f6r0, f6r1, f6r2, f6r3, f6r4, f6r5, f6r6, f6r7, f6r8, f6r9, f6r10, f6r11, f6r12, f6r13, f6r14, f6r15, f6r16, f6r17, f6r18, f6r19, f6r20, f6r21, f6r22, f6r23, f6r24, f6r25, f6r26, f6r27, f6r28, f6r29, f6k, te29, te47, te44, List.getElem?_cons_zero, List.getElem?_cons_succ, runG_nil, runG_u, runG_g, runG_ucS, runG_gcS, runG_uvS, stp, avL, avS, evs, evX, lget, lput, strip, putO, PO.dst, updO, okR, cells, splice, AV.cell, toD, toDs, binV, sameK, pickV, guardOf, okL_nil, sides, argsOf, rawOf, dv, dvL, owns, ownsL, flat, flatL, lkeep, seqQ, blockQ, initS, List.drop_succ_cons, List.drop_zero, List.take_succ_cons, List.take_zero, List.getD_cons_zero, List.getD_cons_succ, List.length_cons, List.length_nil, List.set_cons_zero, List.set_cons_succ, List.map_cons, List.map_nil, List.all_cons, List.all_nil, List.elem_cons, List.elem_nil, Option.getD_some, Option.getD_none, Option.bind_some, Option.isNone_none, reduceIte, reduceCtorEq, Nat.reduceEqDiff, Nat.reduceAdd, Nat.reduceLeDiff, Nat.zero_add, Nat.add_zero, Nat.reduceBEq, Bool.and_self, Bool.and_true, Bool.true_and, Bool.or_self, Bool.or_false, Bool.false_or, Bool.or_true, Bool.true_or, true_and, and_true, and_self, implies_true, forall_const, Bool.false_eq_true, id_eq, retQ, resOf, resV, Option.some.injEq, exists_eq_left', AV.d.injEq, D.v.injEq, Value.bool.injEq, imp_self, bldF, bldS, toVals, eqLs, Option.map_some, imp_false, not_true_eq_false, not_false_eq_true, foot, wrs, nm, nmL, PG.reads, PG.dst, PO.reads, X.sl, sls, slB, List.append_nil, List.cons_append, List.nil_append, Option.toList_some, Option.toList_none, loopQ_exit, loopQ_ret, subS, subO, Bool.bne_false, Bool.bne_true, elemsOf, bslD, bslS, mentries, isAgV, asA, lputs, mgetD_set, mcmp_set, mput_set, List.headD_cons, sealS, sealO, sealV, sealL, mput_nil, mcmp_nil, midQ_ret, midQ_exit, sealsS, sealsO, runW_nil, runW_cons, Bool.true_bne, Bool.false_bne, bne_self_eq_false, Int.reduceToNat, bndV, oSl, resR, runS_nil, runS_gc, ren, renL, renO, sg, gBack, scopeQ_normal, scopeQ_ret, scopeQ_exit, lenB, argsN, dvN]
  all_goals first
    | rfl
    | decide
    | trace_state
theorem refineFair_some (sh : Shape) (hs : sh.ok) (w : Int) (hw : 0 ≤ w ∧ w ≤ 255) (n : Net) (p : Int × Int) (hx : sh.netV w = some (n, p)) : FnS Try.prog 6 [sh.av, .d (.v (.int .u8 w))] (.d (.v (.bool true))) := by
  have hm : maxLen = 9223372036854775807 := rfl
  have hN := netOfF_fn sh hs w hw
  rw [hx] at hN
  simp only [netA] at hN
  obtain ⟨hsm, hmay, m, hnl, hn0⟩ := net_facts hx
  simp only at hsm hmay m hnl hn0
  have hR := rof_yes n hsm hmay
  have hfs := find_spec m
  have hl := hfs.1.len
  have hcan := hfs.1.can
  have hst := step_none hfs.2.1
  generalize hfb : findV n = b at hR hl hcan hst hfs
  have m2 := m.edges
  have g0 : ((b.length : Int) == (n.origin.length : Int)) = true := by rw [hl]; simp
  refine fn_of teok Try.func6 (by kernel_rfl) f6c f6k [.tmp 4] rfl (by show 2 ≤ 125; omega) ?_
  first | (have _q := @g0; clear _q) | have g0 : Nat.pred 77 = 76 := rfl
  first | (have _q := @g1; clear _q) | have g1 : Nat.pred 77 = 76 := rfl
  first | (have _q := @g2; clear _q) | have g2 : Nat.pred 77 = 76 := rfl
  first | (have _q := @g3; clear _q) | have g3 : Nat.pred 77 = 76 := rfl
  first | (have _q := @g4; clear _q) | have g4 : Nat.pred 77 = 76 := rfl
  first | (have _q := @g5; clear _q) | have g5 : Nat.pred 77 = 76 := rfl
  first | (have _q := @g6; clear _q) | have g6 : Nat.pred 77 = 76 := rfl
  repeat' first
  | (exact absurd hc (by decide))
  | with_reducible refine awp_seq ?_
  | with_reducible refine awp_block ?_
  | with_reducible refine awp_scope ?_
  | with_reducible refine awp_reg ?_
  | with_reducible refine awp_regD ?_
  | with_reducible refine awp_ret ?_
  | with_reducible refine awp_skip ?_
  | with_reducible refine awp_exit ?_
  | with_reducible refine normQ_of ?_
  | with_reducible refine wkE_of ?_
  | with_reducible refine midQ_of (Wk_sub rfl rfl ?_ ?_)
  | with_reducible refine runD_nil ?_
  | with_reducible refine runD_cons ?_
  | with_reducible refine runF_cons ?_
  | with_reducible refine runF_nil ?_
  | with_reducible refine KF_of ?_
  | with_reducible refine chkQ_of rfl ?_
  | with_reducible refine awp_cond (by simp only [evX, lget, Option.getD_some, reduceIte, Nat.reduceEqDiff]; rfl) (fun hc => ?_) (fun hc => ?_)
  | with_reducible refine CallU_of (f := 10) (awake17_fn) (by first | exact Or.inr (Or.inl rfl) | exact Or.inl rfl) ?_
  | with_reducible refine CallC_of (f := 10) (fun _ => awake17_fn) (by first | exact Or.inr (Or.inl rfl) | exact Or.inl rfl) ?_
  | with_reducible refine CallU_of (f := 14) (hN) (by first | exact Or.inr (Or.inl rfl) | exact Or.inl rfl) ?_
  | with_reducible refine CallC_of (f := 14) (fun _ => hN) (by first | exact Or.inr (Or.inl rfl) | exact Or.inl rfl) ?_
  | with_reducible refine CallU_of (f := 12) (hR) (by first | exact Or.inr (Or.inl rfl) | exact Or.inl rfl) ?_
  | with_reducible refine CallC_of (f := 12) (fun _ => hR) (by first | exact Or.inr (Or.inl rfl) | exact Or.inl rfl) ?_
  | with_reducible refine CallU_of (f := 18) (like_fn n hsm m b hl x.1 y.1 (by omega) (by omega)) (by first | exact Or.inr (Or.inl rfl) | exact Or.inl rfl) ?_
  | with_reducible refine CallC_of (f := 18) (fun _ => like_fn n hsm m b hl x.1 y.1 (by omega) (by omega)) (by first | exact Or.inr (Or.inl rfl) | exact Or.inl rfl) ?_
  | with_reducible refine CallU_of (f := 19) (esame_fn e (hsm.ok.edge _ (List.mem_of_getElem? hes.2.2.1) e (List.mem_of_getElem? he.2.2.1)) f (hsm.ok.edge _ (List.mem_of_getElem? hes.2.2.1) f hf.2.1)) (by first | exact Or.inr (Or.inl rfl) | exact Or.inl rfl) ?_
  | with_reducible refine CallC_of (f := 19) (fun _ => esame_fn e (hsm.ok.edge _ (List.mem_of_getElem? hes.2.2.1) e (List.mem_of_getElem? he.2.2.1)) f (hsm.ok.edge _ (List.mem_of_getElem? hes.2.2.1) f hf.2.1)) (by first | exact Or.inr (Or.inl rfl) | exact Or.inl rfl) ?_
  | (with_reducible assumption)
  | with_reducible refine fun (hG : okL _) => ?_
  | (with_reducible refine fun (hT : (_ : Bool) = _) => ?_)
  | (with_reducible first | exact hG.2 | exact hG.2.2 | exact hG.2.2.2 | exact hG.2.2.2.2)
  | with_reducible refine okL_mk ?_ ?_
  | with_reducible refine And.intro ?_ ?_
  | (with_reducible refine loopQ_next ((u.1 + 1, (), (), ())) ?_ ?_ (Wk_sub rfl rfl ?_ ?_))
  | (with_reducible refine loopQ_next ((z.1 + 1, (), ())) ?_ ?_ (Wk_sub rfl rfl ?_ ?_))
  | (with_reducible refine loopQ_next ((y.1 + 1, ())) ?_ ?_ (Wk_sub rfl rfl ?_ ?_))
  | (with_reducible refine loopQ_next ((x.1 + 1, (), (), (), ())) ?_ ?_ (Wk_sub rfl rfl ?_ ?_))
  | (with_reducible refine awp_loopU (b := f6p29) (fun x : Nat × Unit × Unit × Unit × Unit => x.1 ≤ b.length) (fun x => b.length - x.1) (fun x => [(44, .d (.v (.int .i64 x.1)))]) (fun x => []) ((0, (), (), (), ())) (Nat.zero_le _) (Wk.refl _ _) (Wk_sub rfl rfl ?_ ?_) (fun x hx => ?_))
  | (refine Exists.elim (at_drop iD b x.1 (Int.ofNat_lt.1 (of_decide_eq_true (show decide ((x.1 : Int) < b.length) = true from hc)))) (fun v hv => ?_); refine Exists.elim (at_drop esD n.edges x.1 (by have := hv.2.2.2; omega)) (fun es hes => ?_); have g1 := hv.2.1; have g2 := hes.2.1; simp only [Int.toNat_natCast] at g1 g2; have hsr := m.src x.1 es hes.2.2.1; have hel := m.row es (List.mem_of_getElem? hes.2.2.1); replace hc : True := trivial)
  | (with_reducible refine awp_loopU (b := f6p11) (fun y : Nat × Unit => y.1 ≤ b.length) (fun y => b.length - y.1) (fun y => [(49, .d (.v (.int .i64 y.1)))]) (fun y => []) ((0, ())) (Nat.zero_le _) (Wk.refl _ _) (Wk_sub rfl rfl ?_ ?_) (fun y hy => ?_))
  | (refine Exists.elim (at_drop iD b y.1 (Int.ofNat_lt.1 (of_decide_eq_true (show decide ((y.1 : Int) < b.length) = true from hc)))) (fun u hu => ?_); have g3 := hu.2.1; simp only [Int.toNat_natCast] at g3; replace hc : True := trivial)
  | (with_reducible refine awp_loopU (b := f6p23) (fun z : Nat × Unit × Unit => z.1 ≤ es.length) (fun z => es.length - z.1) (fun z => [(76, .d (.v (.int .i64 z.1)))]) (fun z => []) ((0, (), ())) (Nat.zero_le _) (Wk.refl _ _) (Wk_sub rfl rfl ?_ ?_) (fun z hz => ?_))
  | (refine Exists.elim (at_drop Arc.row es z.1 (Int.ofNat_lt.1 (of_decide_eq_true (show decide ((z.1 : Int) < es.length) = true from hc)))) (fun e he => ?_); have g3 := he.2.1; simp only [Int.toNat_natCast] at g3; have hs := hsr e (List.mem_of_getElem? he.2.2.1); have g4 := at_int iD b 0 hs.1 (by omega); replace hc : True := trivial)
  | (with_reducible refine awp_loopU (b := f6p18) (fun u : Nat × Unit × Unit × Unit => u.1 ≤ (es.take z.1).length) (fun u => (es.take z.1).length - u.1) (fun u => [(89, .d (.v (.int .i64 u.1)))]) (fun u => []) ((0, (), (), ())) (Nat.zero_le _) (Wk.refl _ _) (Wk_sub rfl rfl ?_ ?_) (fun u hu => ?_))
  | (refine Exists.elim (at_dropT (es := es) (j := u.1) (k := z.1) (by have := of_decide_eq_true hc; rw [List.length_take]; omega)) (fun f hf => ?_); have g5 := hf.1; simp only [Int.toNat_natCast, List.map_take] at g5; have hs2 := hsr f hf.2.1; have hlt : u.1 < min z.1 es.length := Nat.lt_of_lt_of_eq hf.2.2 List.length_take; have g6 := at_int iD b 0 hs2.1 (by omega); replace hc : True := trivial)
  | simp only [f6r0, f6r1, f6r2, f6r3, f6r4, f6r5, f6r6, f6r7, f6r8, f6r9, f6r10, f6r11, f6r12, f6r13, f6r14, f6r15, f6r16, f6r17, f6r18, f6r19, f6r20, f6r21, f6r22, f6r23, f6r24, f6r25, f6r26, f6r27, f6r28, f6r29, g0, g1, g2, g3, g4, g5, g6, f6k, te29, te47, te44, List.length_map, List.getElem?_cons_zero, List.getElem?_cons_succ, Int.toNat_natCast, List.length_take, List.map_take, runG_nil, runG_u, runG_g, runG_ucS, runG_gcS, runG_uvS, stp, avL, avS, evs, evX, lget, lput, strip, putO, PO.dst, updO, okR, cells, splice, AV.cell, toD, toDs, binV, sameK, pickV, guardOf, okL_nil, sides, argsOf, rawOf, dv, dvL, owns, ownsL, flat, flatL, lkeep, seqQ, blockQ, initS, List.drop_succ_cons, List.drop_zero, List.take_succ_cons, List.take_zero, List.getD_cons_zero, List.getD_cons_succ, List.length_cons, List.length_nil, List.set_cons_zero, List.set_cons_succ, List.map_cons, List.map_nil, List.all_cons, List.all_nil, List.elem_cons, List.elem_nil, Option.getD_some, Option.getD_none, Option.bind_some, Option.isNone_none, reduceIte, reduceCtorEq, Nat.reduceEqDiff, Nat.reduceAdd, Nat.reduceLeDiff, Nat.zero_add, Nat.add_zero, Nat.reduceBEq, Bool.and_self, Bool.and_true, Bool.true_and, Bool.or_self, Bool.or_false, Bool.false_or, Bool.or_true, Bool.true_or, true_and, and_true, and_self, implies_true, forall_const, Bool.false_eq_true, id_eq, retQ, resOf, resV, Option.some.injEq, exists_eq_left', AV.d.injEq, D.v.injEq, Value.bool.injEq, imp_self, bldF, bldS, toVals, eqLs, Option.map_some, imp_false, not_true_eq_false, not_false_eq_true, foot, wrs, nm, nmL, PG.reads, PG.dst, PO.reads, X.sl, sls, slB, List.append_nil, List.cons_append, List.nil_append, Option.toList_some, Option.toList_none, loopQ_exit, loopQ_ret, subS, subO, Bool.bne_false, Bool.bne_true, elemsOf, bslD, bslS, mentries, isAgV, asA, lputs, mgetD_set, mcmp_set, mput_set, List.headD_cons, sealS, sealO, sealV, sealL, mput_nil, mcmp_nil, midQ_ret, midQ_exit, sealsS, sealsO, runW_nil, runW_cons, Bool.true_bne, Bool.false_bne, bne_self_eq_false, Int.reduceToNat, bndV, oSl, resR, runS_nil, runS_gc, ren, renL, renO, sg, gBack, scopeQ_normal, scopeQ_ret, scopeQ_exit, lenB, argsN, dvN]
  all_goals try first
    | omega
    | (with_reducible rfl)
    | (show Value.int _ 0 = _; rfl)
    | (simp only [List.length_append, List.length_cons, List.length_nil]; omega)
    | (simp only [List.length_append, List.length_cons, List.length_nil, List.map_append, List.map_cons, List.map_nil]; done)
    | exact count64 hv.2.2.2 (by omega)
    | exact count64 hu.2.2.2 (by omega)
    | exact count64 he.2.2.2 (by omega)
    | exact count64 hf.2.2 (by rw [List.length_take]; omega)
    | exact count64 hlt (by omega)
    | (exfalso; exact like_no hst.1 hv.2.2.1 hu.2.2.1 hc)
    | (exfalso; exact fair_no hst.2 hes.2.2.1 (List.mem_of_getElem? he.2.2.1) hf.2.1 hv.2.2.1 hc)
    | decide
  all_goals trace_state

theorem refineFair_as (av : List AV) (h : dArgs te 8 [44, 5] av) : FnS Try.prog 6 av (.d (.v (.bool true))) := by
  obtain ⟨x, _, rfl, hx, y, _, rfl, hy, rfl⟩ := h
  obtain ⟨sh, rfl, hs⟩ := shape_of (n := 3) hx
  obtain ⟨w, rfl, hw⟩ := u8_row (n := 7) hy
  cases hx : sh.netV w with
  | none => exact refineFair_none sh hs w hw hx
  | some x =>
    obtain ⟨n, p⟩ := x
    exact refineFair_some sh hs w hw n p hx

set_option maxRecDepth 100000 in
theorem refineFair_lifted (os : Os) (started : os.Started) (H : Type) (enc : TypeId × Value → H) :
    ReturnsInHanded {} Try.checked os 6 .any (Rows.refineFairSpec.pre6 enc Try.prog Try.f6 Rows.refineFairRow.domain false) (Rows.refineFairSpec.post enc Try.prog Try.f6 false true false false) := by
  refine returnsInHanded_of_change (C := Try.checked) own started (by kernel_rfl) Try.func6
    (ChangeSpec.witness6 (enc := enc) (C := Try.checked) false ⟨#[], #[.agg #[.int .u8 0, .slice none 0 0, .slice none 0 0, .slice none 0 0, .slice none 0 0, .slice none 0 0], .int .u8 0], []⟩ 8 (by kernel_rfl) (by kernel_rfl) (by kernel_rfl) (by kernel_rfl)) ?_
  intro W base args ds gs before hval hW hcnd _
  have hp : Try.f6.params.toList = [44, 5] := by kernel_rfl
  refine law_calls (n := 8) (b := 4) laidOut (by rw [hp]; exact List.forall_mem_cons.2 ⟨⟨by kernel_rfl, of_decide_eq_true (by kernel_rfl)⟩, List.forall_mem_cons.2 ⟨⟨by kernel_rfl, of_decide_eq_true (by kernel_rfl)⟩, (by simp)⟩⟩) (by rw [hp]; exact List.forall_mem_cons.2 ⟨by kernel_rfl, List.forall_mem_cons.2 ⟨by kernel_rfl, (by simp)⟩⟩) rfl (by kernel_rfl) (by kernel_rfl) (fun ds hd => ?_) hval hW (GX.nil _) (fun av h => refineFair_as av (argsT_d teok _ _ _ (by rw [hp]; exact List.forall_mem_cons.2 ⟨rfl, List.forall_mem_cons.2 ⟨rfl, (by simp)⟩⟩) h |> (hp ▸ ·)))
  have hd : ds.length = 2 := hd
  match ds, hd with
  | [_, _], _ => rfl
theorem refineFair_holds : Rows.RefineFairSaid :=
  OpenClaim.holds_of_wide 6 Try.f6 rfl rfl rfl rfl rfl rfl rfl ⟨rfl, rfl, rfl, rfl, rfl⟩ rfl rfl rfl rfl rfl (by kernel_rfl) Try.func6 (by kernel_rfl)
    (of_decide_eq_true (by kernel_rfl)) (by unfold Func.isWrapper; first | (rw [if_pos (by decide +kernel)]; kernel_rfl) | (rw [if_neg (by decide +kernel)]; exact ⟨rfl, rfl⟩))
    (fun os started H enc _ => refineFair_lifted os started H enc)
end Go.Proofs.Ytokfackbnnkbnaa

