/- The law QuotientRoutes: whatever the input, if what it reads is of bulk at most 1048576, it returns true and changes nothing. Printed by a program of this project (wip/mq). -/
import Derived.Test.YtiknbnkngmfdgaaLay18
namespace Go.Proofs.Ytiknbnkngmfdgaa
open Go Mq Go.ChangeShapes Go.WideShapes Go.ChangeAt Go.RowKit
/-! maquette/maquettelaw18.QuotientRoutes -/
def f3r0 : List PG := [.u (.mv 4 (.k (.bool false)))]
def f3r1 : List PG := [.uc 17 8 [], .u (.no 18 (.t 17))]
def f3r2 : List PG := [.u (.mv 4 (.k (.bool false)))]
abbrev f3p0 : PC := .seq (.reg f3r2) (.ret)
abbrev f3p1 : PC := .cond (.t 18) (f3p0) (.skip)
def f3r3 : List PG := [.u (.mv 5 (.nl 1))]
def f3r4 : List PG := [.u (.mv 19 (.t 0)), .u (.len 20 (.t 19)), .u (.mv 21 (.k (.int .i64 0)))]
def f3r5 : List PG := [.u (.bo 22 .lss (.t 21) (.t 20))]
def f3r6 : List PG := [.u (.ia 23 1 (.t 19) (.t 21)), .u (.ld 24 1 false (.t 23)), .u (.mv 7 (.t 24))]
def f3r7 : List PG := [.u (.mv 25 (.t 5)), .u (.mv 26 (.t 7)), .u (.cv 27 .i64 (.t 26)), .u (.bsl 28 3 1 [.t 27]), .u (.app 29 3 1 8 (.t 25) (.t 28)), .u (.mv 5 (.t 29))]
def f3r8 : List PG := [.u (.bo 30 .add (.t 21) (.k (.int .i64 1))), .u (.mv 21 (.t 30))]
abbrev f3p2 : PC := .seq (.block 1 (.seq (.reg f3r6) (.reg f3r7))) (.reg f3r8)
abbrev f3p3 : PC := .seq (.cond (.t 22) (.skip) (.exit 0)) (f3p2)
abbrev f3p4 : PC := .seq (.reg f3r5) (f3p3)
abbrev f3p5 : PC := .block 0 (.loop (f3p4))
def f3r9 : List PG := [.u (.mv 31 (.t 5)), .u (.mv 32 (.t 1)), .uc 33 9 [.t 31, .t 32], .u (.mv 34 (.t 5)), .u (.mv 35 (.t 1)), .uc 36 10 [.t 34, .t 35], .u (.mv 8 (.t 33)), .u (.mv 9 (.t 36))]
def f3r10 : List PG := [.u (.mv 10 (.nl 4))]
def f3r11 : List PG := [.u (.mv 37 (.t 5)), .u (.len 38 (.t 37)), .u (.mv 39 (.t 1)), .u (.len 40 (.t 39)), .u (.beq 41 false false (.t 38) (.t 40))]
def f3r12 : List PG := [.u (.mv 42 (.t 5)), .u (.len 43 (.t 42)), .u (.mv 44 (.k (.int .i64 0)))]
def f3r13 : List PG := [.u (.bo 45 .lss (.t 44) (.t 43))]
def f3r14 : List PG := [.u (.mv 46 (.t 44)), .u (.ia 47 1 (.t 42) (.t 44)), .u (.ld 48 1 false (.t 47)), .u (.mv 11 (.t 46)), .u (.mv 12 (.t 48))]
def f3r15 : List PG := [.u (.mv 49 (.t 12)), .u (.mv 50 (.t 10)), .u (.len 51 (.t 50)), .u (.beq 52 false false (.t 49) (.t 51))]
def f3r16 : List PG := [.u (.mv 53 (.t 10)), .u (.mv 54 (.t 1)), .u (.mv 55 (.t 11)), .u (.ia 56 4 (.t 54) (.t 55)), .u (.ld 57 4 true (.t 56)), .u (.bsl 58 30 4 [.t 57]), .u (.app 59 30 4 32 (.t 53) (.t 58)), .u (.mv 10 (.t 59))]
abbrev f3p6 : PC := .cond (.t 52) (.reg f3r16) (.skip)
abbrev f3p7 : PC := .seq (.reg f3r15) (f3p6)
def f3r17 : List PG := [.u (.bo 60 .add (.t 44) (.k (.int .i64 1))), .u (.mv 44 (.t 60))]
abbrev f3p8 : PC := .seq (.block 3 (.seq (.reg f3r14) (f3p7))) (.reg f3r17)
abbrev f3p9 : PC := .seq (.cond (.t 45) (.skip) (.exit 2)) (f3p8)
abbrev f3p10 : PC := .seq (.reg f3r13) (f3p9)
abbrev f3p11 : PC := .block 2 (.loop (f3p10))
abbrev f3p12 : PC := .seq (.reg f3r12) (f3p11)
abbrev f3p13 : PC := .cond (.t 41) (f3p12) (.skip)
def f3r18 : List PG := [.u (.mv 61 (.t 8)), .u (.len 62 (.t 61)), .u (.mv 63 (.t 10)), .u (.len 64 (.t 63)), .u (.beq 65 true false (.t 62) (.t 64)), .u (.mv 66 (.t 65)), .g 66 false (.mv 67 (.t 9)), .g 66 false (.len 68 (.t 67)), .g 66 false (.mv 69 (.t 5)), .g 66 false (.len 70 (.t 69)), .g 66 false (.beq 71 true false (.t 68) (.t 70)), .u (.pick 72 (.t 66) (.k (.bool true)) (.t 71))]
def f3r19 : List PG := [.u (.mv 4 (.k (.bool false)))]
abbrev f3p14 : PC := .seq (.reg f3r19) (.ret)
abbrev f3p15 : PC := .cond (.t 72) (f3p14) (.skip)
def f3r20 : List PG := [.u (.mv 73 (.t 10)), .u (.len 74 (.t 73)), .u (.mv 75 (.k (.int .i64 0)))]
def f3r21 : List PG := [.u (.bo 76 .lss (.t 75) (.t 74))]
def f3r22 : List PG := [.u (.mv 77 (.t 75)), .u (.mv 13 (.t 77))]
def f3r23 : List PG := [.u (.mv 78 (.t 8)), .u (.mv 79 (.t 13)), .u (.ia 80 4 (.t 78) (.t 79)), .u (.ld 81 4 true (.t 80)), .u (.mv 82 (.t 10)), .u (.mv 83 (.t 13)), .u (.ia 84 4 (.t 82) (.t 83)), .u (.ld 85 4 true (.t 84)), .u (.beqs 86 true [.b, .i, .i, .i] (.t 81) (.t 85))]
def f3r24 : List PG := [.u (.mv 4 (.k (.bool false)))]
abbrev f3p16 : PC := .seq (.reg f3r24) (.ret)
abbrev f3p17 : PC := .cond (.t 86) (f3p16) (.skip)
abbrev f3p18 : PC := .seq (.regD f3r23 []) (f3p17)
def f3r25 : List PG := [.u (.bo 87 .add (.t 75) (.k (.int .i64 1))), .u (.mv 75 (.t 87))]
abbrev f3p19 : PC := .seq (.block 5 (.seq (.reg f3r22) (f3p18))) (.reg f3r25)
abbrev f3p20 : PC := .seq (.cond (.t 76) (.skip) (.exit 4)) (f3p19)
abbrev f3p21 : PC := .seq (.reg f3r21) (f3p20)
abbrev f3p22 : PC := .block 4 (.loop (f3p21))
def f3r26 : List PG := [.u (.mv 88 (.t 5)), .u (.len 89 (.t 88)), .u (.mv 90 (.k (.int .i64 0)))]
def f3r27 : List PG := [.u (.bo 91 .lss (.t 90) (.t 89))]
def f3r28 : List PG := [.u (.mv 92 (.t 90)), .u (.ia 93 1 (.t 88) (.t 90)), .u (.ld 94 1 false (.t 93)), .u (.mv 14 (.t 92)), .u (.mv 15 (.t 94))]
def f3r29 : List PG := [.u (.bld 95 [.d (.v (.bool false)), .d (.v (.int .i64 0)), .d (.v (.int .i64 0)), .d (.v (.int .u8 0))] []), .u (.al 16 [.d (.v (.bool false)), .d (.v (.int .i64 0)), .d (.v (.int .i64 0)), .d (.v (.int .u8 0))]), .u (.st 4 (.t 16) (.t 95))]
def f3r30 : List PG := [.u (.mv 96 (.t 15)), .u (.bo 97 .geq (.t 96) (.k (.int .i64 0))), .u (.mv 98 (.t 97)), .g 98 true (.mv 99 (.t 15)), .g 98 true (.mv 100 (.t 1)), .g 98 true (.len 101 (.t 100)), .g 98 true (.bo 102 .lss (.t 99) (.t 101)), .u (.pick 103 (.t 98) (.t 102) (.k (.bool false)))]
def f3r31 : List PG := [.u (.mv 104 (.t 1)), .u (.mv 105 (.t 15)), .u (.ia 106 4 (.t 104) (.t 105)), .u (.ld 107 4 true (.t 106)), .u (.st 4 (.t 16) (.t 107))]
abbrev f3p23 : PC := .cond (.t 103) (.reg f3r31) (.skip)
def f3r32 : List PG := [.u (.mv 108 (.t 9)), .u (.mv 109 (.t 14)), .u (.ia 110 4 (.t 108) (.t 109)), .u (.ld 111 4 true (.t 110)), .u (.ld 112 4 true (.t 16)), .u (.beqs 113 true [.b, .i, .i, .i] (.t 111) (.t 112))]
def f3r33 : List PG := [.u (.mv 4 (.k (.bool false)))]
abbrev f3p24 : PC := .seq (.reg f3r33) (.ret)
abbrev f3p25 : PC := .cond (.t 113) (f3p24) (.skip)
abbrev f3p26 : PC := .seq (.regD f3r32 []) (f3p25)
abbrev f3p27 : PC := .seq (.seq (.reg f3r30) (f3p23)) (f3p26)
abbrev f3p28 : PC := .seq (.reg f3r29) (f3p27)
def f3r34 : List PG := [.u (.bo 114 .add (.t 90) (.k (.int .i64 1))), .u (.mv 90 (.t 114))]
abbrev f3p29 : PC := .seq (.block 7 (.seq (.reg f3r28) (f3p28))) (.reg f3r34)
abbrev f3p30 : PC := .seq (.cond (.t 91) (.skip) (.exit 6)) (f3p29)
abbrev f3p31 : PC := .seq (.reg f3r27) (f3p30)
abbrev f3p32 : PC := .block 6 (.loop (f3p31))
def f3r35 : List PG := [.u (.mv 4 (.k (.bool true)))]
abbrev f3p33 : PC := .seq (.reg f3r35) (.ret)
abbrev f3p34 : PC := .seq (.seq (.reg f3r26) (f3p32)) (f3p33)
abbrev f3p35 : PC := .seq (.seq (.reg f3r20) (f3p22)) (f3p34)
abbrev f3p36 : PC := .seq (.seq (.reg f3r18) (f3p15)) (f3p35)
abbrev f3p37 : PC := .seq (.seq (.reg f3r11) (f3p13)) (f3p36)
abbrev f3p38 : PC := .seq (.reg f3r10) (f3p37)
abbrev f3p39 : PC := .seq (.reg f3r9) (f3p38)
abbrev f3p40 : PC := .seq (.seq (.reg f3r4) (f3p5)) (f3p39)
abbrev f3p41 : PC := .seq (.reg f3r3) (f3p40)
abbrev f3p42 : PC := .seq (.seq (.reg f3r1) (f3p1)) (f3p41)
abbrev f3pc : PC := .seq (.reg f3r0) (f3p42)
def f3k : List Nat := [0, 1, 4, 5, 7, 8, 9, 10, 11, 12, 13, 14, 15, 16, 18, 19, 20, 21, 22, 41, 42, 43, 44, 45, 52, 72, 74, 75, 76, 86, 88, 89, 90, 91, 103, 113]
theorem f3c : Try.f3.body.bind (cC te Try.f3.ntmps) = some f3pc := by kernel_rfl
set_option maxRecDepth 20000
set_option maxHeartbeats 4000000
set_option linter.unusedSimpArgs false
set_option linter.unusedVariables false

theorem i8_of {n : Nat} : ∀ (l : List (List D)), (∀ x ∈ l, x.length = 1 ∧ dT te (n + 1) 27 x) → ∃ rs : List Int, l = rs.map fun x => [D.v (.int .i8 x)]
  | [], _ => ⟨[], rfl⟩
  | x :: l, h => by
    obtain ⟨rs, rfl⟩ := i8_of l (fun y hy => h y (by simp [hy]))
    have := (h x (by simp)).2
    simp only [dT, te27] at this
    obtain ⟨m, rfl, _⟩ := this
    exact ⟨m :: rs, rfl⟩
theorem attr_of {n : Nat} {x : List D} (h : dT te (n + 2) 30 x) : ∃ a : Attr, x = a.row := by
  simp only [dT, te30, dFs, te4, te3, te5] at h
  obtain ⟨d1, d2, rfl, _, ⟨o, rfl⟩, d3, d4, rfl, _, ⟨p, rfl, _⟩, d5, d6, rfl, _, ⟨c, rfl, _⟩, d7, d8, rfl, _, ⟨t, rfl, _⟩, rfl⟩ := h
  exact ⟨⟨o, p, c, t⟩, rfl⟩
theorem attrs_of {n : Nat} : ∀ (l : List (List D)), (∀ x ∈ l, x.length = 4 ∧ dT te (n + 2) 30 x) → ∃ rs : List Attr, l = rs.map Attr.row
  | [], _ => ⟨[], rfl⟩
  | x :: l, h => by
    obtain ⟨rs, rfl⟩ := attrs_of l (fun y hy => h y (by simp [hy]))
    obtain ⟨a, rfl⟩ := attr_of (h x (by simp)).2
    exact ⟨a :: rs, rfl⟩

theorem up_len (b : List Int) (l : List Attr) : (upL b l).length ≤ b.length := by
  have : ∀ (b : List Int) (l out : List Attr), (upGo b l out).length ≤ out.length + b.length := by
    intro b
    induction b with
    | nil => intro l out; simp [upGo]
    | cons x r ih =>
      intro l out
      cases l with
      | nil => simp [upGo]
      | cons a s =>
        simp only [upGo]
        split
        · have := ih s (out ++ [a]); simp at this ⊢; omega
        · have := ih s out; simp; omega
  unfold upL
  split
  · simp
  · simpa using this b l []
theorem routes_fn (b : List Int) (hb : b.length ≤ 1048576) (l : List Attr) (hl : l.length ≤ maxLen) : FnS Try.prog 3 [.d (.sl 1 (b.map fun x => [D.v (.int .i8 x)])), .d (.sl 4 (l.map Attr.row))] (.d (.v (.bool true))) := by
  have hm : maxLen = 9223372036854775807 := rfl
  refine fn_of teok Try.func3 (by kernel_rfl) f3c f3k [.tmp 4] rfl (by show 2 ≤ 115; omega) ?_
  repeat' first
  | (exact absurd hc (by decide))
  | (with_reducible refine awp_exit_seal (i := 0) [29] ?_)
  | (with_reducible refine awp_exit_seal (i := 2) [59] ?_)
  | (with_reducible refine awp_mid (f3p36) [(10, .d (.sl 4 ((upL x.2 l).map Attr.row)))] [] ?_ ?_)
  | (with_reducible refine midQ_of ((Wk_nlD 10 rfl).trans (Wk_sub rfl rfl ?_ ?_)))
  | (with_reducible refine awp_mid (f3p26) [] [(16, .box (dnA l v).box)] ?_ ?_)
  | with_reducible refine awp_seq ?_
  | with_reducible refine awp_block ?_
  | with_reducible refine awp_reg ?_
  | with_reducible refine awp_regD ?_
  | with_reducible refine awp_ret ?_
  | with_reducible refine awp_skip ?_
  | with_reducible refine awp_exit ?_
  | with_reducible refine normQ_of ?_
  | with_reducible refine wkE_of ?_
  | with_reducible refine midQ_of (Wk_sub rfl rfl ?_ ?_)
  | with_reducible refine runD_nil ?_
  | with_reducible refine runD_cons ?_
  | with_reducible refine runF_cons ?_
  | with_reducible refine runF_nil ?_
  | with_reducible refine KF_of ?_
  | with_reducible refine chkQ_of rfl ?_
  | with_reducible refine awp_cond (by simp only [evX, lget, Option.getD_some, reduceIte, Nat.reduceEqDiff]; rfl) (fun hc => ?_) (fun hc => ?_)
  | with_reducible refine CallU_of (f := 8) (awake18_fn) (by first | exact Or.inr rfl | exact Or.inl rfl) ?_
  | with_reducible refine CallC_of (f := 8) (fun _ => awake18_fn) (by first | exact Or.inr rfl | exact Or.inl rfl) ?_
  | with_reducible refine CallU_of (f := 9) (up_fn x.2 (by omega) l hl) (by first | exact Or.inr rfl | exact Or.inl rfl) ?_
  | with_reducible refine CallC_of (f := 9) (fun _ => up_fn x.2 (by omega) l hl) (by first | exact Or.inr rfl | exact Or.inl rfl) ?_
  | with_reducible refine CallU_of (f := 10) (down_fn x.2 (by omega) l hl) (by first | exact Or.inr rfl | exact Or.inl rfl) ?_
  | with_reducible refine CallC_of (f := 10) (fun _ => down_fn x.2 (by omega) l hl) (by first | exact Or.inr rfl | exact Or.inl rfl) ?_
  | (with_reducible assumption)
  | with_reducible refine fun (hG : okL _) => ?_
  | (with_reducible refine fun (hT : (_ : Bool) = _) => ?_)
  | (with_reducible first | exact hG.2 | exact hG.2.2 | exact hG.2.2.2 | exact hG.2.2.2.2)
  | with_reducible refine okL_mk ?_ ?_
  | with_reducible refine And.intro ?_ ?_
  | (with_reducible refine awp_loopU (b := f3p4) (fun x : Nat × List Int => x.1 ≤ b.length ∧ x.2.length = x.1) (fun x => b.length - x.1) (fun x => [(21, .d (.v (.int .i64 x.1))), (5, .own 29 x.2.length)]) (fun x => [(29, .row 3 1 x.2.length (x.2.map iD))]) ((0, [])) (⟨Nat.zero_le _, rfl⟩) (Wk_nl 5 29 3 rfl rfl (by decide)) (Wk_sub rfl rfl ?_ ?_) (fun x hx => ?_))
  | (refine Exists.elim (at_drop (fun x => [D.v (.int .i8 x)]) b x.1 (Int.ofNat_lt.1 (of_decide_eq_true hc))) (fun u he => ?_); have g1 := he.2.1; replace hc : True := trivial)
  | (with_reducible refine loopQ_next ((x.1 + 1, x.2 ++ [IntKind.i64.wrap u])) ?_ ?_ (Wk_sub rfl rfl ?_ ?_))
  | (with_reducible refine awp_loopU (b := f3p10) (fun y : Nat × List Attr => y.1 ≤ x.2.length ∧ x.2.length = l.length ∧ x.2.length = b.length ∧ y.2.length ≤ y.1 ∧ upGo (x.2.drop y.1) (l.drop y.1) y.2 = upGo x.2 l []) (fun y => x.2.length - y.1) (fun y => [(44, .d (.v (.int .i64 y.1))), (10, .own 59 y.2.length)]) (fun y => [(59, .row 30 4 y.2.length (y.2.map Attr.row))]) ((0, [])) (⟨Nat.zero_le _, by simp at hc; omega, by grind, Nat.le_refl _, rfl⟩) (Wk_nl 10 59 30 rfl rfl (by decide)) (Wk_sub rfl rfl ?_ ?_) (fun y hy => ?_))
  | (refine Exists.elim (at_drop iD x.2 y.1 (Int.ofNat_lt.1 (of_decide_eq_true hc))) (fun u hu => ?_); refine Exists.elim (at_drop Attr.row l y.1 (by have := hu.2.2.2; omega)) (fun a ha => ?_); have g2 := hu.2.1; have g3 := ha.2.1; replace hc : True := trivial)
  | (have _q : (_ : Bool) = true := hc; with_reducible refine loopQ_next ((y.1 + 1, y.2 ++ [a])) ?_ ?_ (Wk_sub rfl rfl ?_ ?_))
  | (have _q : (_ : Bool) = false := hc; with_reducible refine loopQ_next ((y.1 + 1, y.2)) ?_ ?_ (Wk_sub rfl rfl ?_ ?_))
  | (with_reducible refine awp_loopU (b := f3p21) (fun i : Nat => i ≤ (upL x.2 l).length ∧ x.2.length ≤ b.length) (fun i => (upL x.2 l).length - i) (fun i => [(75, .d (.v (.int .i64 i)))]) (fun i => []) (0) (⟨Nat.zero_le _, by grind⟩) (Wk.refl _ _) (Wk_sub rfl rfl ?_ ?_) (fun i hi => ?_))
  | (refine Exists.elim (at_drop Attr.row (upL x.2 l) i (Int.ofNat_lt.1 (of_decide_eq_true hc))) (fun a ha => ?_); have g4 := ha.2.1; replace hc : True := trivial)
  | (with_reducible refine awp_loopU (b := f3p31) (fun j : Nat => j ≤ x.2.length ∧ x.2.length ≤ b.length) (fun j => x.2.length - j) (fun j => [(90, .d (.v (.int .i64 j)))]) (fun j => []) (0) (⟨Nat.zero_le _, by grind⟩) (Wk.refl _ _) (Wk_sub rfl rfl ?_ ?_) (fun j hj => ?_))
  | (refine Exists.elim (down_at x.2 l j (Int.ofNat_lt.1 (of_decide_eq_true hc))) (fun v hv => ?_); have g5 := hv.1; have g6 := hv.2.1; replace hc : True := trivial)
  | (have g7v := dn_row hc; have g7 := g7v.1; replace hc : True := trivial)
  | (with_reducible refine loopQ_next (j + 1) ?_ ?_ (Wk_sub rfl rfl ?_ ?_))
  | (with_reducible refine loopQ_next (i + 1) ?_ ?_ (Wk_sub rfl rfl ?_ ?_))
  | simp only [f3r0, f3r1, f3r2, f3r3, f3r4, f3r5, f3r6, f3r7, f3r8, f3r9, f3r10, f3r11, f3r12, f3r13, f3r14, f3r15, f3r16, f3r17, f3r18, f3r19, f3r20, f3r21, f3r22, f3r23, f3r24, f3r25, f3r26, f3r27, f3r28, f3r29, f3r30, f3r31, f3r32, f3r33, f3r34, f3r35, g7, g6, g5, f3k, List.length_map, runG_nil, runG_u, runG_g, runG_ucS, runG_gcS, stp, evs, evX, lget, lput, strip, putO, PO.dst, updO, okR, cells, splice, AV.cell, toD, toDs, binV, sameK, pickV, guardOf, okL_nil, sides, argsOf, rawOf, dv, dvL, owns, ownsL, flat, flatL, lkeep, seqQ, blockQ, initS, List.drop_succ_cons, List.drop_zero, List.take_succ_cons, List.take_zero, List.getD_cons_zero, List.getD_cons_succ, List.length_cons, List.length_nil, List.set_cons_zero, List.set_cons_succ, List.map_cons, List.map_nil, List.all_cons, List.all_nil, List.elem_cons, List.elem_nil, Option.getD_some, Option.getD_none, Option.bind_some, Option.isNone_none, reduceIte, reduceCtorEq, Nat.reduceEqDiff, Nat.reduceAdd, Nat.reduceLeDiff, Nat.zero_add, Nat.add_zero, Nat.reduceBEq, Bool.and_self, Bool.and_true, Bool.true_and, Bool.or_self, Bool.or_false, Bool.false_or, Bool.or_true, Bool.true_or, true_and, and_true, and_self, implies_true, forall_const, Bool.false_eq_true, id_eq, retQ, resOf, resV, Option.some.injEq, exists_eq_left', AV.d.injEq, D.v.injEq, Value.bool.injEq, imp_self, bldF, bldS, toVals, eqLs, Option.map_some, imp_false, not_true_eq_false, not_false_eq_true, foot, wrs, nm, nmL, PG.reads, PG.dst, PO.reads, X.sl, sls, slB, List.append_nil, List.cons_append, List.nil_append, Option.toList_some, Option.toList_none, loopQ_exit, loopQ_ret, subS, subO, Bool.bne_false, Bool.bne_true, elemsOf, bslD, bslS, mentries, isAgV, asA, lputs, mgetD_set, mcmp_set, mput_set, List.headD_cons, sealS, sealO, sealV, sealL, mput_nil, mcmp_nil, midQ_ret, midQ_exit, sealsS, sealsO, runW_nil, runW_cons, Bool.true_bne, Bool.false_bne, bne_self_eq_false, Int.reduceToNat]
  | simp only [f3r0, f3r1, f3r2, f3r3, f3r4, f3r5, f3r6, f3r7, f3r8, f3r9, f3r10, f3r11, f3r12, f3r13, f3r14, f3r15, f3r16, f3r17, f3r18, f3r19, f3r20, f3r21, f3r22, f3r23, f3r24, f3r25, f3r26, f3r27, f3r28, f3r29, f3r30, f3r31, f3r32, f3r33, f3r34, f3r35, g6, g5, f3k, List.length_map, runG_nil, runG_u, runG_g, runG_ucS, runG_gcS, stp, evs, evX, lget, lput, strip, putO, PO.dst, updO, okR, cells, splice, AV.cell, toD, toDs, binV, sameK, pickV, guardOf, okL_nil, sides, argsOf, rawOf, dv, dvL, owns, ownsL, flat, flatL, lkeep, seqQ, blockQ, initS, List.drop_succ_cons, List.drop_zero, List.take_succ_cons, List.take_zero, List.getD_cons_zero, List.getD_cons_succ, List.length_cons, List.length_nil, List.set_cons_zero, List.set_cons_succ, List.map_cons, List.map_nil, List.all_cons, List.all_nil, List.elem_cons, List.elem_nil, Option.getD_some, Option.getD_none, Option.bind_some, Option.isNone_none, reduceIte, reduceCtorEq, Nat.reduceEqDiff, Nat.reduceAdd, Nat.reduceLeDiff, Nat.zero_add, Nat.add_zero, Nat.reduceBEq, Bool.and_self, Bool.and_true, Bool.true_and, Bool.or_self, Bool.or_false, Bool.false_or, Bool.or_true, Bool.true_or, true_and, and_true, and_self, implies_true, forall_const, Bool.false_eq_true, id_eq, retQ, resOf, resV, Option.some.injEq, exists_eq_left', AV.d.injEq, D.v.injEq, Value.bool.injEq, imp_self, bldF, bldS, toVals, eqLs, Option.map_some, imp_false, not_true_eq_false, not_false_eq_true, foot, wrs, nm, nmL, PG.reads, PG.dst, PO.reads, X.sl, sls, slB, List.append_nil, List.cons_append, List.nil_append, Option.toList_some, Option.toList_none, loopQ_exit, loopQ_ret, subS, subO, Bool.bne_false, Bool.bne_true, elemsOf, bslD, bslS, mentries, isAgV, asA, lputs, mgetD_set, mcmp_set, mput_set, List.headD_cons, sealS, sealO, sealV, sealL, mput_nil, mcmp_nil, midQ_ret, midQ_exit, sealsS, sealsO, runW_nil, runW_cons, Bool.true_bne, Bool.false_bne, bne_self_eq_false, Int.reduceToNat]
  | simp only [f3r0, f3r1, f3r2, f3r3, f3r4, f3r5, f3r6, f3r7, f3r8, f3r9, f3r10, f3r11, f3r12, f3r13, f3r14, f3r15, f3r16, f3r17, f3r18, f3r19, f3r20, f3r21, f3r22, f3r23, f3r24, f3r25, f3r26, f3r27, f3r28, f3r29, f3r30, f3r31, f3r32, f3r33, f3r34, f3r35, g4, f3k, List.length_map, runG_nil, runG_u, runG_g, runG_ucS, runG_gcS, stp, evs, evX, lget, lput, strip, putO, PO.dst, updO, okR, cells, splice, AV.cell, toD, toDs, binV, sameK, pickV, guardOf, okL_nil, sides, argsOf, rawOf, dv, dvL, owns, ownsL, flat, flatL, lkeep, seqQ, blockQ, initS, List.drop_succ_cons, List.drop_zero, List.take_succ_cons, List.take_zero, List.getD_cons_zero, List.getD_cons_succ, List.length_cons, List.length_nil, List.set_cons_zero, List.set_cons_succ, List.map_cons, List.map_nil, List.all_cons, List.all_nil, List.elem_cons, List.elem_nil, Option.getD_some, Option.getD_none, Option.bind_some, Option.isNone_none, reduceIte, reduceCtorEq, Nat.reduceEqDiff, Nat.reduceAdd, Nat.reduceLeDiff, Nat.zero_add, Nat.add_zero, Nat.reduceBEq, Bool.and_self, Bool.and_true, Bool.true_and, Bool.or_self, Bool.or_false, Bool.false_or, Bool.or_true, Bool.true_or, true_and, and_true, and_self, implies_true, forall_const, Bool.false_eq_true, id_eq, retQ, resOf, resV, Option.some.injEq, exists_eq_left', AV.d.injEq, D.v.injEq, Value.bool.injEq, imp_self, bldF, bldS, toVals, eqLs, Option.map_some, imp_false, not_true_eq_false, not_false_eq_true, foot, wrs, nm, nmL, PG.reads, PG.dst, PO.reads, X.sl, sls, slB, List.append_nil, List.cons_append, List.nil_append, Option.toList_some, Option.toList_none, loopQ_exit, loopQ_ret, subS, subO, Bool.bne_false, Bool.bne_true, elemsOf, bslD, bslS, mentries, isAgV, asA, lputs, mgetD_set, mcmp_set, mput_set, List.headD_cons, sealS, sealO, sealV, sealL, mput_nil, mcmp_nil, midQ_ret, midQ_exit, sealsS, sealsO, runW_nil, runW_cons, Bool.true_bne, Bool.false_bne, bne_self_eq_false, Int.reduceToNat]
  | simp only [f3r0, f3r1, f3r2, f3r3, f3r4, f3r5, f3r6, f3r7, f3r8, f3r9, f3r10, f3r11, f3r12, f3r13, f3r14, f3r15, f3r16, f3r17, f3r18, f3r19, f3r20, f3r21, f3r22, f3r23, f3r24, f3r25, f3r26, f3r27, f3r28, f3r29, f3r30, f3r31, f3r32, f3r33, f3r34, f3r35, g2, g3, f3k, List.length_map, runG_nil, runG_u, runG_g, runG_ucS, runG_gcS, stp, evs, evX, lget, lput, strip, putO, PO.dst, updO, okR, cells, splice, AV.cell, toD, toDs, binV, sameK, pickV, guardOf, okL_nil, sides, argsOf, rawOf, dv, dvL, owns, ownsL, flat, flatL, lkeep, seqQ, blockQ, initS, List.drop_succ_cons, List.drop_zero, List.take_succ_cons, List.take_zero, List.getD_cons_zero, List.getD_cons_succ, List.length_cons, List.length_nil, List.set_cons_zero, List.set_cons_succ, List.map_cons, List.map_nil, List.all_cons, List.all_nil, List.elem_cons, List.elem_nil, Option.getD_some, Option.getD_none, Option.bind_some, Option.isNone_none, reduceIte, reduceCtorEq, Nat.reduceEqDiff, Nat.reduceAdd, Nat.reduceLeDiff, Nat.zero_add, Nat.add_zero, Nat.reduceBEq, Bool.and_self, Bool.and_true, Bool.true_and, Bool.or_self, Bool.or_false, Bool.false_or, Bool.or_true, Bool.true_or, true_and, and_true, and_self, implies_true, forall_const, Bool.false_eq_true, id_eq, retQ, resOf, resV, Option.some.injEq, exists_eq_left', AV.d.injEq, D.v.injEq, Value.bool.injEq, imp_self, bldF, bldS, toVals, eqLs, Option.map_some, imp_false, not_true_eq_false, not_false_eq_true, foot, wrs, nm, nmL, PG.reads, PG.dst, PO.reads, X.sl, sls, slB, List.append_nil, List.cons_append, List.nil_append, Option.toList_some, Option.toList_none, loopQ_exit, loopQ_ret, subS, subO, Bool.bne_false, Bool.bne_true, elemsOf, bslD, bslS, mentries, isAgV, asA, lputs, mgetD_set, mcmp_set, mput_set, List.headD_cons, sealS, sealO, sealV, sealL, mput_nil, mcmp_nil, midQ_ret, midQ_exit, sealsS, sealsO, runW_nil, runW_cons, Bool.true_bne, Bool.false_bne, bne_self_eq_false, Int.reduceToNat]
  | simp only [f3r0, f3r1, f3r2, f3r3, f3r4, f3r5, f3r6, f3r7, f3r8, f3r9, f3r10, f3r11, f3r12, f3r13, f3r14, f3r15, f3r16, f3r17, f3r18, f3r19, f3r20, f3r21, f3r22, f3r23, f3r24, f3r25, f3r26, f3r27, f3r28, f3r29, f3r30, f3r31, f3r32, f3r33, f3r34, f3r35, g1, f3k, List.length_map, runG_nil, runG_u, runG_g, runG_ucS, runG_gcS, stp, evs, evX, lget, lput, strip, putO, PO.dst, updO, okR, cells, splice, AV.cell, toD, toDs, binV, sameK, pickV, guardOf, okL_nil, sides, argsOf, rawOf, dv, dvL, owns, ownsL, flat, flatL, lkeep, seqQ, blockQ, initS, List.drop_succ_cons, List.drop_zero, List.take_succ_cons, List.take_zero, List.getD_cons_zero, List.getD_cons_succ, List.length_cons, List.length_nil, List.set_cons_zero, List.set_cons_succ, List.map_cons, List.map_nil, List.all_cons, List.all_nil, List.elem_cons, List.elem_nil, Option.getD_some, Option.getD_none, Option.bind_some, Option.isNone_none, reduceIte, reduceCtorEq, Nat.reduceEqDiff, Nat.reduceAdd, Nat.reduceLeDiff, Nat.zero_add, Nat.add_zero, Nat.reduceBEq, Bool.and_self, Bool.and_true, Bool.true_and, Bool.or_self, Bool.or_false, Bool.false_or, Bool.or_true, Bool.true_or, true_and, and_true, and_self, implies_true, forall_const, Bool.false_eq_true, id_eq, retQ, resOf, resV, Option.some.injEq, exists_eq_left', AV.d.injEq, D.v.injEq, Value.bool.injEq, imp_self, bldF, bldS, toVals, eqLs, Option.map_some, imp_false, not_true_eq_false, not_false_eq_true, foot, wrs, nm, nmL, PG.reads, PG.dst, PO.reads, X.sl, sls, slB, List.append_nil, List.cons_append, List.nil_append, Option.toList_some, Option.toList_none, loopQ_exit, loopQ_ret, subS, subO, Bool.bne_false, Bool.bne_true, elemsOf, bslD, bslS, mentries, isAgV, asA, lputs, mgetD_set, mcmp_set, mput_set, List.headD_cons, sealS, sealO, sealV, sealL, mput_nil, mcmp_nil, midQ_ret, midQ_exit, sealsS, sealsO, runW_nil, runW_cons, Bool.true_bne, Bool.false_bne, bne_self_eq_false, Int.reduceToNat]
  | simp only [f3r0, f3r1, f3r2, f3r3, f3r4, f3r5, f3r6, f3r7, f3r8, f3r9, f3r10, f3r11, f3r12, f3r13, f3r14, f3r15, f3r16, f3r17, f3r18, f3r19, f3r20, f3r21, f3r22, f3r23, f3r24, f3r25, f3r26, f3r27, f3r28, f3r29, f3r30, f3r31, f3r32, f3r33, f3r34, f3r35, f3k, List.length_map, runG_nil, runG_u, runG_g, runG_ucS, runG_gcS, stp, evs, evX, lget, lput, strip, putO, PO.dst, updO, okR, cells, splice, AV.cell, toD, toDs, binV, sameK, pickV, guardOf, okL_nil, sides, argsOf, rawOf, dv, dvL, owns, ownsL, flat, flatL, lkeep, seqQ, blockQ, initS, List.drop_succ_cons, List.drop_zero, List.take_succ_cons, List.take_zero, List.getD_cons_zero, List.getD_cons_succ, List.length_cons, List.length_nil, List.set_cons_zero, List.set_cons_succ, List.map_cons, List.map_nil, List.all_cons, List.all_nil, List.elem_cons, List.elem_nil, Option.getD_some, Option.getD_none, Option.bind_some, Option.isNone_none, reduceIte, reduceCtorEq, Nat.reduceEqDiff, Nat.reduceAdd, Nat.reduceLeDiff, Nat.zero_add, Nat.add_zero, Nat.reduceBEq, Bool.and_self, Bool.and_true, Bool.true_and, Bool.or_self, Bool.or_false, Bool.false_or, Bool.or_true, Bool.true_or, true_and, and_true, and_self, implies_true, forall_const, Bool.false_eq_true, id_eq, retQ, resOf, resV, Option.some.injEq, exists_eq_left', AV.d.injEq, D.v.injEq, Value.bool.injEq, imp_self, bldF, bldS, toVals, eqLs, Option.map_some, imp_false, not_true_eq_false, not_false_eq_true, foot, wrs, nm, nmL, PG.reads, PG.dst, PO.reads, X.sl, sls, slB, List.append_nil, List.cons_append, List.nil_append, Option.toList_some, Option.toList_none, loopQ_exit, loopQ_ret, subS, subO, Bool.bne_false, Bool.bne_true, elemsOf, bslD, bslS, mentries, isAgV, asA, lputs, mgetD_set, mcmp_set, mput_set, List.headD_cons, sealS, sealO, sealV, sealL, mput_nil, mcmp_nil, midQ_ret, midQ_exit, sealsS, sealsO, runW_nil, runW_cons, Bool.true_bne, Bool.false_bne, bne_self_eq_false, Int.reduceToNat]
  all_goals try first
    | omega
    | (with_reducible rfl)
    | (show Value.int _ 0 = _; rfl)
    | (simp only [List.length_append, List.length_cons, List.length_nil]; omega)
    | (simp only [List.length_append, List.length_cons, List.length_nil, List.map_append, List.map_cons, List.map_nil]; done)
    | exact count64 he.2.2.2 (by omega)
    | exact count64 hu.2.2.2 (by omega)
    | exact count64 hv.2.2 (by omega)
    | (simp only [downL_len]; omega)
    | (simp only [g7]; rfl)
    | exact count64 ha.2.2.2 (by have := up_len x.2 l; omega)
    | (rw [dn_none hc]; rfl)
    | (simp only [g5]; rfl)
    | (exfalso; simp [downL] at hc; done)
    | (simp at hc; done)
    | (grind [upGo, upL, downL])

theorem routes_as (av : List AV) (h : dArgs te 3 [22, 23] av) (hN : szAs av ≤ 1048576) : FnS Try.prog 3 av (.d (.v (.bool true))) := by
  obtain ⟨x, _, rfl, hx, y, _, rfl, hy, rfl⟩ := h
  simp only [dT, te22, te27, te23, te30] at hx hy
  obtain ⟨l, rfl, hl, hr⟩ := hx
  obtain ⟨l', rfl, hl', hr'⟩ := hy
  obtain ⟨rs, rfl⟩ := i8_of (n := 1) l (fun y hy => ⟨(hr y hy).1, by simp only [dT, te27]; exact (hr y hy).2⟩)
  obtain ⟨rs', rfl⟩ := attrs_of (n := 0) l' (fun y hy => ⟨(hr' y hy).1, by simp only [dT, te30]; exact (hr' y hy).2⟩)
  have h1 := szLL_len (rs.map fun x => [D.v (.int .i8 x)]) (fun x hx => by rw [(hr x hx).1]; decide)
  have hN : szLL (rs.map fun x => [D.v (.int .i8 x)]) + 1 + (szLL (rs'.map Attr.row) + 1 + 0) ≤ 1048576 := hN
  rw [List.length_map] at h1
  exact routes_fn rs (by omega) rs' (by simpa using hl')
theorem isBulk {H : Type} : Bulk (H := H) Rows.uptoBulk Rows.uptoBulkAll where
  lit l := by cases l <;> simp [Rows.uptoBulk]
  str b := by simp [Rows.uptoBulk]
  nil := by simp [Rows.uptoBulk]
  slice l s := by simp [Rows.uptoBulk]
  agg l := by simp [Rows.uptoBulk]
  nilA := by simp [Rows.uptoBulkAll]
  cons x r := by simp [Rows.uptoBulkAll]

set_option maxRecDepth 100000 in
theorem quotientRoutes_lifted (os : Os) (started : os.Started) (H : Type) (enc : TypeId × Value → H) (F0 : Stop.Interp) :
    ReturnsInHanded {} Try.checked os 3 .any ((Rows.OpenSpec.upto Rows.quotientRoutesSpec).pre6 enc Try.prog Try.f3 Rows.quotientRoutesUptoRow.domain false) (((Rows.OpenSpec.upto Rows.quotientRoutesSpec).at F0).post enc Try.prog Try.f3 false true false false) := by
  refine returnsInHanded_of_cond (C := Try.checked) (s := Rows.OpenSpec.upto Rows.quotientRoutesSpec) (k := Rows.uptoSmall) rfl own started (by kernel_rfl) Try.func3
    (OpenSpec.witness (enc := enc) (C := Try.checked) (s := Rows.OpenSpec.upto Rows.quotientRoutesSpec) (k := Rows.uptoSmall) rfl false ⟨#[], #[.slice none 0 0, .slice none 0 0], []⟩ 8 (by kernel_rfl) (by kernel_rfl) (by kernel_rfl)
      (x := ([.nil, .nil], [], [])) (by kernel_rfl) (by kernel_rfl) (by kernel_rfl)) ?_
  intro W base args ds gs before hval hW hcnd hk _
  have hp : Try.f3.params.toList = [22, 23] := by kernel_rfl
  refine law_callsU (n := 3) (b := 4) (N := 1048576) isBulk laidOut (by rw [hp]; exact List.forall_mem_cons.2 ⟨⟨by kernel_rfl, of_decide_eq_true (by kernel_rfl)⟩, List.forall_mem_cons.2 ⟨⟨by kernel_rfl, of_decide_eq_true (by kernel_rfl)⟩, (by simp)⟩⟩) (by rw [hp]; exact List.forall_mem_cons.2 ⟨by kernel_rfl, List.forall_mem_cons.2 ⟨by kernel_rfl, (by simp)⟩⟩) rfl (by kernel_rfl) (by kernel_rfl) (fun ds hd => ?_) hval hW (of_decide_eq_true hk) (fun av h hN => routes_as av (argsT_d teok _ _ _ (by rw [hp]; exact List.forall_mem_cons.2 ⟨rfl, List.forall_mem_cons.2 ⟨rfl, (by simp)⟩⟩) h |> (hp ▸ ·)) hN)
  have hd : ds.length = 2 := hd
  match ds, hd with
  | [_, _], _ => rfl
theorem quotientRoutes_holds : Rows.QuotientRoutesUptoSaid :=
  OpenClaim.holds_of_cond 3 Try.f3 rfl rfl rfl rfl rfl rfl rfl ⟨rfl, rfl, rfl, rfl, rfl⟩ rfl rfl rfl rfl rfl (by kernel_rfl) Try.func3 (by kernel_rfl)
    (of_decide_eq_true (by kernel_rfl)) (by unfold Func.isWrapper; first | (rw [if_pos (by decide +kernel)]; kernel_rfl) | (rw [if_neg (by decide +kernel)]; exact ⟨rfl, rfl⟩))
    (fun os started H enc _ F0 => quotientRoutes_lifted os started H enc F0)
end Go.Proofs.Ytiknbnkngmfdgaa
