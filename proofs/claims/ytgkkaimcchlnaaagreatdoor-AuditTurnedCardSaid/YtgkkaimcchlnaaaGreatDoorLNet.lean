/- What lower.Net comes to. Printed by a program of this project (wip/mq). -/
import Derived.Test.YtgkkaimcchlnaaaGreatDoorLow
import Derived.Test.YtgkkaimcchlnaaaGreatDoorMqPl
set_option linter.unusedVariables false
set_option linter.unusedSimpArgs false

namespace Go.Proofs.YtgkkaimcchlnaaaGreatDoor
open Go Mq Go.ChangeShapes Go.WideShapes Go.ChangeAt Go.RowKit
/-! maquette/lower.Net -/
def f41r0 : List PG := [.u (.bx 2 (.t 0)), .u (.bx 3 (.t 1)), .u (.al 4 [.nl 1, .nl 1, .nl 1])]
def f41r1 : List PG := [.u (.mkm 23 false false), .u (.mv 5 (.t 23))]
def f41r2 : List PG := [.u (.fa 24 1 (.t 2)), .u (.ld 25 1 false (.t 24)), .u (.len 26 (.t 25)), .u (.mv 27 (.k (.int .i64 0)))]
def f41r3 : List PG := [.u (.bo 28 .lss (.t 27) (.t 26))]
def f41r4 : List PG := [.u (.mv 29 (.t 27)), .u (.ia 30 5 (.t 25) (.t 27)), .u (.ld 31 5 true (.t 30)), .u (.al 7 [.d (.v (.string ⟨#[]⟩)), .nl 2, .nl 5, .nl 4, .d (.v (.int .i64 0))]), .u (.mv 6 (.t 29)), .u (.st 5 (.t 7) (.t 31))]
def f41r5 : List PG := [.u (.mv 32 (.t 5)), .u (.fa 33 0 (.t 7)), .u (.ld 34 1 false (.t 33)), .u (.mv 35 (.t 6)), .u (.mup false false [.s] 1 (.t 32) (.t 34) (.t 35))]
def f41r6 : List PG := [.u (.bo 36 .add (.t 27) (.k (.int .i64 1))), .u (.mv 27 (.t 36))]
abbrev f41p0 : PC := .seq (.block 1 (.seq (.reg f41r4) (.reg f41r5))) (.reg f41r6)
abbrev f41p1 : PC := .seq (.cond (.t 28) (.skip) (.exit 0)) (f41p0)
abbrev f41p2 : PC := .seq (.reg f41r3) (f41p1)
abbrev f41p3 : PC := .block 0 (.loop (f41p2))
def f41r7 : List PG := [.u (.al 8 [.nl 1, .nl 1, .nl 1])]
def f41r8 : List PG := [.u (.fa 37 1 (.t 2)), .u (.ld 38 1 false (.t 37)), .u (.len 39 (.t 38)), .u (.mv 40 (.k (.int .i64 0)))]
def f41r9 : List PG := [.u (.bo 41 .lss (.t 40) (.t 39))]
def f41r10 : List PG := [.u (.ia 42 5 (.t 38) (.t 40)), .u (.ld 43 5 true (.t 42)), .u (.al 10 [.d (.v (.string ⟨#[]⟩)), .nl 2, .nl 5, .nl 4, .d (.v (.int .i64 0))]), .u (.st 5 (.t 10) (.t 43))]
def f41r11 : List PG := [.u (.fa 44 0 (.t 8)), .u (.ld 45 1 false (.t 44)), .u (.fa 46 1 (.t 10)), .u (.ld 47 1 false (.t 46)), .u (.ld 48 2 true (.t 3)), .uc 49 73 [.t 47, .t 48], .u (.bslF 50 4 1 [.t 49]), .u (.app 51 4 1 1 (.t 45) (.t 50)), .u (.fa 52 0 (.t 8)), .u (.st 1 (.t 52) (.t 51))]
def f41r12 : List PG := [.u (.mv 11 (.k (.int .i64 (-1))))]
def f41r13 : List PG := [.u (.ld 54 5 true (.t 10)), .u (.ld 55 2 true (.t 3)), .uc 56 74 [.t 54, .t 55], .u (.mv 53 (.t 56)), .u (.ext 57 (.t 53) 0), .u (.ext 58 (.t 53) 1), .u (.mv 12 (.t 57)), .u (.mv 13 (.t 58))]
def f41r14 : List PG := [.u (.mv 60 (.t 5)), .u (.mv 61 (.t 12)), .u (.lkp 62 false false [.s] [.d (.v (.int .i64 0))] true (.t 60) (.t 61)), .u (.mv 59 (.t 62)), .u (.ext 63 (.t 59) 0), .u (.ext 64 (.t 59) 1), .u (.mv 14 (.t 63)), .u (.mv 15 (.t 64))]
def f41r15 : List PG := [.u (.mv 65 (.t 13)), .u (.mv 66 (.t 65)), .g 66 true (.mv 67 (.t 15)), .u (.pick 68 (.t 66) (.t 67) (.k (.bool false)))]
def f41r16 : List PG := [.u (.mv 69 (.t 14)), .u (.mv 11 (.t 69))]
abbrev f41p4 : PC := .cond (.t 68) (.reg f41r16) (.skip)
abbrev f41p5 : PC := .seq (.reg f41r15) (f41p4)
def f41r17 : List PG := [.u (.fa 70 1 (.t 8)), .u (.ld 71 1 false (.t 70)), .u (.mv 72 (.t 11)), .u (.bslF 73 3 1 [.t 72]), .u (.app 74 3 1 8 (.t 71) (.t 73)), .u (.fa 75 1 (.t 8)), .u (.st 1 (.t 75) (.t 74))]
def f41r18 : List PG := [.u (.mv 16 (.nl 4))]
def f41r19 : List PG := [.u (.fa 76 2 (.t 10)), .u (.ld 77 1 false (.t 76)), .u (.len 78 (.t 77)), .u (.mv 79 (.k (.int .i64 0)))]
def f41r20 : List PG := [.u (.bo 80 .lss (.t 79) (.t 78))]
def f41r21 : List PG := [.u (.ia 81 5 (.t 77) (.t 79)), .u (.ld 82 5 true (.t 81)), .u (.al 18 [.d (.v (.string ⟨#[]⟩)), .d (.v (.int .i64 0)), .d (.v (.string ⟨#[]⟩)), .d (.v (.string ⟨#[]⟩)), .d (.v (.int .i64 0))]), .u (.st 5 (.t 18) (.t 82))]
def f41r22 : List PG := [.u (.mv 84 (.t 5)), .u (.fa 85 0 (.t 18)), .u (.ld 86 1 false (.t 85)), .u (.lkp 87 false false [.s] [.d (.v (.int .i64 0))] true (.t 84) (.t 86)), .u (.mv 83 (.t 87)), .u (.ext 88 (.t 83) 0), .u (.ext 89 (.t 83) 1), .u (.mv 19 (.t 88)), .u (.mv 20 (.t 89))]
def f41r23 : List PG := [.u (.mv 90 (.t 20)), .u (.no 91 (.t 90))]
abbrev f41p6 : PC := .cond (.t 91) (.exit 5) (.skip)
def f41r24 : List PG := [.u (.fa 93 1 (.t 2)), .u (.ld 94 1 false (.t 93)), .u (.mv 95 (.t 19)), .u (.ia 96 5 (.t 94) (.t 95)), .u (.ld 97 5 true (.t 96)), .u (.fa 98 0 (.t 10)), .u (.ld 99 1 false (.t 98)), .uc 100 75 [.t 97, .t 99], .u (.mv 92 (.t 100)), .u (.ext 101 (.t 92) 0), .u (.ext 102 (.t 92) 1), .u (.al 21 [.d (.v (.string ⟨#[]⟩)), .d (.v (.int .i64 0)), .d (.v (.string ⟨#[]⟩)), .d (.v (.string ⟨#[]⟩)), .d (.v (.int .i64 0))]), .u (.st 5 (.t 21) (.t 101)), .u (.mv 22 (.t 102))]
def f41r25 : List PG := [.u (.mv 103 (.t 16)), .u (.mv 104 (.t 19)), .u (.fa 105 1 (.t 18)), .u (.ld 106 1 false (.t 105)), .u (.ld 107 2 true (.t 2)), .u (.fa 108 3 (.t 21)), .u (.ld 109 1 false (.t 108)), .u (.ld 110 2 true (.t 3)), .uc 111 76 [.t 107, .t 109, .t 110], .u (.ld 112 2 true (.t 2)), .u (.fa 113 2 (.t 18)), .u (.ld 114 1 false (.t 113)), .u (.ld 115 2 true (.t 3)), .uc 116 76 [.t 112, .t 114, .t 115], .u (.bld 117 [.d (.v (.int .i64 0)), .d (.v (.int .i64 0)), .nl 10, .nl 10] [((0, 1), .t 104), ((1, 1), .t 106), ((2, 1), .t 111), ((3, 1), .t 116)]), .u (.bslF 118 91 4 [.t 117]), .u (.app 119 91 4 64 (.t 103) (.t 118)), .u (.mv 16 (.t 119))]
abbrev f41p7 : PC := .seq (.regD f41r24 [(0, 11), (1, 11), (2, 11), (3, 11), (4, 11), (5, 11), (6, 11), (7, 11), (8, 11), (9, 11), (10, 11), (10, 12)]) (.regD f41r25 [])
abbrev f41p8 : PC := .seq (.seq (.reg f41r23) (f41p6)) (f41p7)
abbrev f41p9 : PC := .seq (.reg f41r22) (f41p8)
def f41r26 : List PG := [.u (.bo 120 .add (.t 79) (.k (.int .i64 1))), .u (.mv 79 (.t 120))]
abbrev f41p10 : PC := .seq (.block 5 (.seq (.reg f41r21) (f41p9))) (.reg f41r26)
abbrev f41p11 : PC := .seq (.cond (.t 80) (.skip) (.exit 4)) (f41p10)
abbrev f41p12 : PC := .seq (.reg f41r20) (f41p11)
abbrev f41p13 : PC := .block 4 (.loop (f41p12))
def f41r27 : List PG := [.u (.fa 121 2 (.t 8)), .u (.ld 122 1 false (.t 121)), .u (.mv 123 (.t 16)), .u (.bslF 124 88 1 [.t 123]), .u (.app 125 88 1 24 (.t 122) (.t 124)), .u (.fa 126 2 (.t 8)), .u (.st 1 (.t 126) (.t 125))]
abbrev f41p14 : PC := .seq (.seq (.reg f41r19) (f41p13)) (.reg f41r27)
abbrev f41p15 : PC := .seq (.reg f41r18) (f41p14)
abbrev f41p16 : PC := .seq (.reg f41r17) (f41p15)
abbrev f41p17 : PC := .seq (.seq (.reg f41r14) (f41p5)) (f41p16)
abbrev f41p18 : PC := .seq (.reg f41r13) (f41p17)
abbrev f41p19 : PC := .seq (.reg f41r12) (f41p18)
abbrev f41p20 : PC := .seq (.regD f41r11 []) (f41p19)
def f41r28 : List PG := [.u (.bo 127 .add (.t 40) (.k (.int .i64 1))), .u (.mv 40 (.t 127))]
abbrev f41p21 : PC := .seq (.block 3 (.seq (.reg f41r10) (f41p20))) (.reg f41r28)
abbrev f41p22 : PC := .seq (.cond (.t 41) (.skip) (.exit 2)) (f41p21)
abbrev f41p23 : PC := .seq (.reg f41r9) (f41p22)
abbrev f41p24 : PC := .block 2 (.loop (f41p23))
def f41r29 : List PG := [.u (.ld 128 3 true (.t 8)), .u (.st 3 (.t 4) (.t 128))]
abbrev f41p25 : PC := .seq (.reg f41r29) (.ret)
abbrev f41p26 : PC := .seq (.seq (.reg f41r8) (f41p24)) (f41p25)
abbrev f41p27 : PC := .seq (.reg f41r7) (f41p26)
abbrev f41p28 : PC := .seq (.seq (.reg f41r2) (f41p3)) (f41p27)
abbrev f41p29 : PC := .seq (.reg f41r1) (f41p28)
abbrev f41pc : PC := .seq (.reg f41r0) (f41p29)
def f41k : List Nat := [0, 1, 2, 3, 4, 5, 6, 7, 8, 10, 11, 12, 13, 14, 15, 16, 18, 19, 20, 21, 25, 26, 27, 28, 38, 39, 40, 41, 68, 77, 78, 79, 80, 91]
theorem f41c : Tryz.f41.body.bind (cC te Tryz.f41.ntmps) = some f41pc := by kernel_rfl
set_option maxRecDepth 20000
set_option maxHeartbeats 4000000


attribute [local irreducible] rname
theorem peer_some {c : Conf} (hg : c.good) {j : Nat} {r2 : Ro} (h : c.ros[j]? = some r2) {k : Nat} {l2 : Lk} (hl : peerV r2.links k = some l2) (hk : k < 8) : FnS Tryz.prog 75 [.ag r2.box, .d (.v (.string (rname k)))] (.tp [.ag l2.box, .d (.v (.bool true))]) := by
  have hr := List.mem_of_getElem? h
  have := peer_fn r2 (by have := hg.links r2 hr; have hm : maxLen = 9223372036854775807 := rfl; omega) (fun l hl => by have := hg.peer r2 hr l hl; have := hg.n; omega) k hk
  rwa [hl] at this
theorem net_fn (c : Conf) (hg : c.good) (a b : Int) : FnS Tryz.prog 41 [c.av, .ag [.d (.v (.int .u32 a)), .d (.v (.int .i64 b))]] (c.net a b).av := by
  have hm : maxLen = 9223372036854775807 := rfl
  have hn := hg.n
  refine fn_of teok Tryz.func41 (by kernel_rfl) f41c f41k [.cell 4 32] rfl (by show 2 ≤ 129; omega) ?_
  first | (have _q := @g6; clear _q) | have g6 : Nat.pred 77 = 76 := rfl
  first | (have _q := @g5; clear _q) | have g5 : Nat.pred 77 = 76 := rfl
  first | (have _q := @g4; clear _q) | have g4 : Nat.pred 77 = 76 := rfl
  first | (have _q := @g9; clear _q) | have g9 : Nat.pred 77 = 76 := rfl
  first | (have _q := @g8; clear _q) | have g8 : Nat.pred 77 = 76 := rfl
  first | (have _q := @g7; clear _q) | have g7 : Nat.pred 77 = 76 := rfl
  first | (have _q := @g3; clear _q) | have g3 : Nat.pred 77 = 76 := rfl
  first | (have _q := @g1; clear _q) | have g1 : Nat.pred 77 = 76 := rfl
  first | (have _q := @g2; clear _q) | have g2 : Nat.pred 77 = 76 := rfl
  repeat' first
|(exact absurd hc (by decide))
|(have hxn : x.1 = c.ros.length := (by have h0 := of_decide_eq_false (show decide ((x.1 : Int) < c.ros.length) = false from hc); omega); replace hc : True := trivial)
|(have hje : z = r.links.length := (by have h0 := of_decide_eq_false (show decide ((z : Int) < r.links.length) = false from hc); omega); subst hje; replace hc : True := trivial)
|(with_reducible refine awp_exit_seal (i := 4) [119] ?_)
|(with_reducible refine awp_mid (f41p16) [(11, .d (.v (.int .i64 (viaV r a b))))] [] ?_ ?_)
|(with_reducible first | refine awp_seq ?_ | refine awp_block ?_ | refine awp_reg ?_ | refine awp_regD ?_ | refine awp_ret ?_ | refine awp_skip ?_ | refine awp_exit ?_ | refine normQ_of ?_ | refine wkE_of ?_)
|with_reducible refine midQ_of (Wk_sub rfl rfl ?_ ?_)
|(with_reducible first | refine runD_nil ?_ | refine runD_cons ?_ | refine runF_cons ?_ | refine runF_nil ?_ | refine KF_of ?_ | refine chkQ_of rfl ?_)
|with_reducible refine awp_cond (by simp only [evX, lget, Option.getD_some, reduceIte, Nat.reduceEqDiff]; rfl) (fun hc => ?_) (fun hc => ?_)
|with_reducible refine CallU_of (f := 73) (contains_fn r.nets (by have := hg.nets r hr; omega) a b) (by first | exact Or.inr (Or.inl rfl) | exact Or.inl rfl) ?_
|with_reducible refine CallU_of (f := 74) (static_fn r (by have := hg.sts r hr; omega) a b) (by first | exact Or.inr (Or.inl rfl) | exact Or.inl rfl) ?_
|with_reducible refine CallU_of (f := 75) (hP) (by first | exact Or.inr (Or.inl rfl) | exact Or.inl rfl) ?_
|with_reducible refine CallU_of (f := 76) (clauses_of_fn c (by have := hg.maps; omega) (fun m hm => by have := hg.cls m hm; omega) l2.exp a b) (by first | exact Or.inr (Or.inl rfl) | exact Or.inl rfl) ?_
|with_reducible refine CallU_of (f := 76) (clauses_of_fn c (by have := hg.maps; omega) (fun m hm => by have := hg.cls m hm; omega) l.imp a b) (by first | exact Or.inr (Or.inl rfl) | exact Or.inl rfl) ?_
|(with_reducible assumption)
|with_reducible refine fun (hG : okL _) => ?_
|(with_reducible refine fun (hT : (_ : Bool) = _) => ?_)
|(with_reducible first | exact hG.2 | exact hG.2.2 | exact hG.2.2.2 | exact hG.2.2.2.2)
|with_reducible refine okL_mk ?_ ?_
|with_reducible refine And.intro ?_ ?_
|(with_reducible refine awp_loopU (b := f41p2) (fun x : Nat × Unit => x.1 ≤ c.ros.length) (fun x => c.ros.length - x.1) (fun x => [(27, .d (.v (.int .i64 x.1)))]) (fun x => [(23, .map false false (atM x.1))]) ((0, ())) (Nat.zero_le _) (Wk.refl _ _) (Wk_sub rfl rfl ?_ ?_) (fun x hx => ?_))
|(refine Exists.elim (at_drop Ro.row c.ros x.1 (Int.ofNat_lt.1 (of_decide_eq_true (show decide ((x.1 : Int) < c.ros.length) = true from hc)))) (fun r he => ?_); have g1 := he.2.1; have g2 : r.k = x.1 := hg.k _ _ he.2.2.1; replace hc : True := trivial)
|(with_reducible refine loopQ_next ((x.1 + 1, ())) ?_ ?_ (Wk_sub rfl rfl ?_ ?_))
|(with_reducible refine awp_loopU (b := f41p23) (fun y : Nat × Bool => y.1 ≤ c.ros.length) (fun y => c.ros.length - y.1) (fun y => [(40, .d (.v (.int .i64 y.1)))]) (fun y => [(8, .box [.own 51 y.1, .own 74 y.1, .own 125 y.1]), (51, .row 4 1 y.1 (((c.net a b).origin.take y.1).map bD)), (74, .row 3 1 y.1 (((c.net a b).static.take y.1).map iD)), (125, .row 88 1 y.1 (((c.net a b).edges.take y.1).map esD))]) ((0, true)) (Nat.zero_le _) (((Wk_nlB 8 0 51 4 rfl rfl rfl (by decide)).trans (Wk_nlB 8 1 74 3 rfl rfl rfl (by decide))).trans (Wk_nlB 8 2 125 88 rfl rfl rfl (by decide))) (Wk_sub rfl rfl ?_ ?_) (fun y hy => ?_))
|(refine Exists.elim (at_drop Ro.row c.ros y.1 (Int.ofNat_lt.1 (of_decide_eq_true (show decide ((y.1 : Int) < c.ros.length) = true from hc)))) (fun r he => ?_); have g1 := he.2.1; have gk : r.k = y.1 := hg.k _ _ he.2.2.1; have hL := net_len (k := y.1) (c := c) (by omega) a b; have g7 := hL.1; have g8 := hL.2.1; have g9 := hL.2.2; have hr : r ∈ c.ros := List.mem_of_getElem? he.2.2.1; have g3 := mget_o (n := x.1) (by omega) _ (by rw [hxn]; exact via_of hn (hg.via r hr) (a := a) (b := b)); have hT := net_take he.2.2.1 gk a b; have hlk := hg.links r hr; replace hc : True := trivial)
|(with_reducible refine awp_loopU (b := f41p12) (fun z : Nat => z ≤ r.links.length) (fun z => r.links.length - z) (fun z => [(79, .d (.v (.int .i64 z))), (16, .own 119 z)]) (fun z => [(119, .row 91 4 z (((r.links.take z).map (c.arc a b y.1)).map Arc.row))]) (0) (Nat.zero_le _) (Wk_nl 16 119 91 rfl rfl (by decide)) (Wk_sub rfl rfl ?_ ?_) (fun z hz => ?_))
|(refine Exists.elim (at_drop Lk.row r.links z (Int.ofNat_lt.1 (of_decide_eq_true (show decide ((z : Int) < r.links.length) = true from hc)))) (fun l hl => ?_); have g4 := hl.2.1; have hlm : l ∈ r.links := List.mem_of_getElem? hl.2.2.1; have hpl := hg.peer r hr l hlm; have g5 := mget_at (n := x.1) (j := l.peer) (by omega) (by omega); have g6 := at_int Ro.row c.ros (k := (l.peer : Int)) default (by omega) (by omega); refine Exists.elim (hg.back r hr l hlm) (fun l2 hl2 => ?_); have hR2 := getD_mem c.ros default (k := (l.peer : Int)) (by omega) (by omega); have hP := peer_some hg hR2 hl2 (by omega); rw [gk] at hl2; replace hc : True := trivial)
|(with_reducible refine loopQ_next (show Nat from z + 1) ?_ ?_ (Wk_sub rfl rfl ?_ ?_))
|(with_reducible refine loopQ_next ((y.1 + 1, y.2)) ?_ ?_ (Wk_sub rfl rfl ?_ ?_))
|simp only [f41r0, f41r1, f41r2, f41r3, f41r4, f41r5, f41r6, f41r7, f41r8, f41r9, f41r10, f41r11, f41r12, f41r13, f41r14, f41r15, f41r16, f41r17, f41r18, f41r19, f41r20, f41r21, f41r22, f41r23, f41r24, f41r25, f41r26, f41r27, f41r28, f41r29, g6, g5, g4, g9, g8, g7, g3, g1, g2, f41k, mcmp_at, List.headD_cons, Option.getD_some, Option.isSome_some, te147, te151, te91, te32, List.length_map, List.getElem?_cons_zero, List.getElem?_cons_succ, runG_nil, runG_u, runG_g, runG_ucS, stp, avL, avS, evs, evX, lget, lput, strip, putO, PO.dst, updO, okR, cells, splice, AV.cell, toD, toDs, binV, sameK, pickV, guardOf, okL_nil, sides, argsOf, rawOf, dv, dvL, owns, ownsL, flat, flatL, lkeep, seqQ, blockQ, initS, List.drop_succ_cons, List.drop_zero, List.take_succ_cons, List.take_zero, List.getD_cons_zero, List.getD_cons_succ, List.length_cons, List.length_nil, List.set_cons_zero, List.set_cons_succ, List.map_cons, List.map_nil, List.all_cons, List.all_nil, List.elem_cons, List.elem_nil, Option.getD_some, Option.getD_none, Option.bind_some, Option.isNone_none, reduceIte, reduceCtorEq, Nat.reduceEqDiff, Nat.reduceAdd, Nat.reduceLeDiff, Nat.zero_add, Nat.add_zero, Nat.reduceBEq, Bool.and_self, Bool.and_true, Bool.true_and, Bool.or_self, Bool.or_false, Bool.false_or, Bool.or_true, Bool.true_or, true_and, and_true, and_self, implies_true, forall_const, Bool.false_eq_true, id_eq, retQ, resOf, resV, Option.some.injEq, exists_eq_left', AV.d.injEq, D.v.injEq, Value.bool.injEq, imp_self, bldF, bldS, toVals, eqLs, Option.map_some, imp_false, not_true_eq_false, not_false_eq_true, foot, wrs, nm, nmL, PG.reads, PG.dst, PO.reads, X.sl, sls, slB, List.append_nil, List.cons_append, List.nil_append, Option.toList_some, Option.toList_none, loopQ_exit, loopQ_ret, subS, subO, Bool.bne_false, Bool.bne_true, elemsOf, bslD, bslS, mentries, isAgV, asA, lputs, mgetD_set, mcmp_set, mput_set, List.headD_cons, sealS, sealO, sealV, sealL, mput_nil, mcmp_nil, midQ_ret, midQ_exit, sealsS, sealsO, Bool.true_bne, Bool.false_bne, bne_self_eq_false, Int.reduceToNat, oSl, resR, lenB, argsN, dvN]
  all_goals try first
    | omega
    | (with_reducible rfl)
    | (show Value.int _ 0 = _; rfl)
    | (simp only [List.length_append, List.length_cons, List.length_nil]; omega)
    | (simp only [List.length_append, List.length_cons, List.length_nil, List.map_append, List.map_cons, List.map_nil]; done)
    | exact count64 he.2.2.2 (by omega)
    | exact count64 hl.2.2.2 (by omega)
    | (rw [mput_at (by omega)]; done)
    | exact via_yes hc
    | (rw [List.length_take]; omega)
    | (rw [List.take_add_one, hl.2.2.1]; simp only [Option.toList_some, List.map_append, List.map_cons, List.map_nil, Conf.arc, hl2, Option.getD_some]; done)
    | (simp only [hT.2.2, List.take_length, List.map_append, List.map_cons, List.map_nil]; done)
    | (rw [via_no hc]; done)
    | (rw [take_map_succ (c.arc a b y.1) hl.2.2.1]; rfl)
    | (simp only [List.map_take, take_map_succ _ hl.2.2.1]; simp only [List.map_append, List.map_cons, List.map_nil, Conf.arc, hl2, Option.getD_some]; rfl)
    | (rw [hT.1, hT.2.1, hT.2.2]; done)
    | (simp only [hT.1, hT.2.1, hT.2.2, List.map_append, List.map_cons, List.map_nil]; done)
    | (simp only [hT.1, hT.2.1, hT.2.2, List.map_append, List.map_cons, List.map_nil]; rfl)
    | (simp only [hT.1, hT.2.1, hT.2.2, List.map_append, List.map_cons, List.map_nil, List.take_length]; rfl)
    | (have h0 := of_decide_eq_false hc; have hyn : y.1 = c.ros.length := by omega
       have q1 : (c.net a b).origin.take y.1 = (c.net a b).origin := List.take_of_length_le (by simp [Conf.net]; omega)
       have q2 : (c.net a b).static.take y.1 = (c.net a b).static := List.take_of_length_le (by simp [Conf.net]; omega)
       have q3 : (c.net a b).edges.take y.1 = (c.net a b).edges := List.take_of_length_le (by simp [Conf.net]; omega)
       simp only [q1, q2, q3]; done)
    | rfl
  all_goals trace_state
end Go.Proofs.YtgkkaimcchlnaaaGreatDoor
