/- What layer 7's Config comes to. Printed by a program of this project (wip/mq). -/
import Derived.Test.YtgkkaimcchlnaaaGreatDoorNums
import Derived.Test.YtgkkaimcchlnaaaGreatDoorMake
set_option linter.unusedVariables false
set_option linter.unusedSimpArgs false

namespace Go.Proofs.YtgkkaimcchlnaaaGreatDoor
open Go Mq Go.ChangeShapes Go.WideShapes Go.ChangeAt Go.RowKit
/-! (maquette/maquettelaw07.Shape).Config -/
def f38r0 : List PG := [.u (.bx 1 (.t 0)), .u (.al 2 [.nl 3, .nl 5])]
def f38r1 : List PG := [.u (.al 3 [.nl 3, .nl 5])]
def f38r2 : List PG := [.u (.fa 14 2 (.t 1)), .u (.ld 15 1 false (.t 14)), .u (.len 16 (.t 15)), .u (.mv 17 (.k (.int .i64 0)))]
def f38r3 : List PG := [.u (.bo 18 .lss (.t 17) (.t 16))]
def f38r4 : List PG := [.u (.mv 19 (.t 17)), .u (.ia 20 1 (.t 15) (.t 17)), .u (.ld 21 1 false (.t 20)), .u (.mv 4 (.t 19)), .u (.mv 5 (.t 21))]
def f38r5 : List PG := [.u (.mv 22 (.t 4)), .u (.bo 23 .lss (.t 22) (.k (.int .i64 4)))]
def f38r6 : List PG := [.u (.fa 24 0 (.t 3)), .u (.ld 25 1 false (.t 24)), .u (.mv 26 (.t 4)), .u (.bo 27 .add (.k (.int .i64 97)) (.t 26)), .u (.cv 28 .i32 (.t 27)), .u (.cvs 29 (.t 28)), .u (.bo 30 .add (.k (.string ⟨#[109]⟩)) (.t 29)), .u (.mv 31 (.t 5)), .uc 32 62 [.t 31], .u (.bld 33 [.d (.v (.string ⟨#[]⟩)), .nl 10, .d (.v (.int .i64 0))] [((0, 1), .t 30), ((1, 1), .t 32)]), .u (.bslF 34 142 3 [.t 33]), .u (.app 35 142 3 48 (.t 25) (.t 34)), .u (.fa 36 0 (.t 3)), .u (.st 1 (.t 36) (.t 35))]
abbrev f38p0 : PC := .cond (.t 23) (.regD f38r6 []) (.skip)
abbrev f38p1 : PC := .seq (.reg f38r5) (f38p0)
def f38r7 : List PG := [.u (.bo 37 .add (.t 17) (.k (.int .i64 1))), .u (.mv 17 (.t 37))]
abbrev f38p2 : PC := .seq (.block 1 (.seq (.reg f38r4) (f38p1))) (.reg f38r7)
abbrev f38p3 : PC := .seq (.cond (.t 18) (.skip) (.exit 0)) (f38p2)
abbrev f38p4 : PC := .seq (.reg f38r3) (f38p3)
abbrev f38p5 : PC := .block 0 (.loop (f38p4))
def f38r8 : List PG := [.u (.fa 38 0 (.t 1)), .u (.ld 39 1 false (.t 38)), .u (.bo 40 .rem (.t 39) (.k (.int .u8 8))), .u (.cv 41 .i64 (.t 40)), .u (.mv 6 (.t 41))]
def f38r9 : List PG := [.u (.mv 7 (.k (.int .i64 0)))]
def f38r10 : List PG := [.u (.mv 42 (.t 7)), .u (.mv 43 (.t 6)), .u (.bo 44 .lss (.t 42) (.t 43))]
abbrev f38p6 : PC := .cond (.t 44) (.skip) (.exit 2)
def f38r11 : List PG := [.u (.mv 47 (.t 7)), .uc 48 63 [.t 47], .u (.bld 49 [.d (.v (.string ⟨#[]⟩)), .nl 2, .nl 5, .nl 4, .d (.v (.int .i64 0))] [((0, 1), .t 48)]), .u (.al 8 [.d (.v (.string ⟨#[]⟩)), .nl 2, .nl 5, .nl 4, .d (.v (.int .i64 0))]), .u (.st 5 (.t 8) (.t 49))]
def f38r12 : List PG := [.u (.fa 50 4 (.t 1)), .u (.ld 51 1 false (.t 50)), .u (.mv 52 (.t 7)), .uc 53 64 [.t 51, .t 52], .u (.mv 9 (.t 53))]
def f38r13 : List PG := [.u (.mv 54 (.t 7)), .u (.beq 55 false false (.t 54) (.k (.int .i64 0))), .u (.mv 56 (.t 55)), .g 56 false (.mv 57 (.t 9)), .g 56 false (.bo 58 .rem (.t 57) (.k (.int .i64 4))), .g 56 false (.beq 59 false false (.t 58) (.k (.int .i64 0))), .u (.pick 60 (.t 56) (.k (.bool true)) (.t 59))]
def f38r14 : List PG := [.u (.fa 61 1 (.t 8)), .u (.ld 62 1 false (.t 61)), .u (.mv 63 (.t 9)), .u (.cv 64 .u8 (.t 63)), .uc 65 65 [.t 64], .u (.bslF 66 35 2 [.t 65]), .u (.app 67 35 2 16 (.t 62) (.t 66)), .u (.fa 68 1 (.t 8)), .u (.st 1 (.t 68) (.t 67))]
abbrev f38p7 : PC := .cond (.t 60) (.regD f38r14 []) (.skip)
abbrev f38p8 : PC := .seq (.reg f38r13) (f38p7)
def f38r15 : List PG := [.u (.mv 10 (.k (.int .i64 0)))]
def f38r16 : List PG := [.u (.mv 69 (.t 10)), .u (.mv 70 (.t 6)), .u (.bo 71 .lss (.t 69) (.t 70))]
abbrev f38p9 : PC := .cond (.t 71) (.skip) (.exit 4)
def f38r17 : List PG := [.u (.mv 74 (.t 10)), .u (.mv 75 (.t 7)), .u (.mx 76 true (.t 74) (.t 75)), .u (.mv 77 (.t 6)), .u (.bo 78 .mul (.t 76) (.t 77)), .u (.mv 79 (.t 10)), .u (.mv 80 (.t 7)), .u (.mx 81 false (.t 79) (.t 80)), .u (.bo 82 .add (.t 78) (.t 81)), .u (.mv 11 (.t 82))]
def f38r18 : List PG := [.u (.mv 83 (.t 10)), .u (.mv 84 (.t 7)), .u (.beq 85 true false (.t 83) (.t 84)), .u (.mv 86 (.t 85)), .g 86 true (.fa 87 1 (.t 1)), .g 86 true (.ld 88 1 false (.t 87)), .g 86 true (.mv 89 (.t 11)), .gc 86 true 90 64 [.t 88, .t 89], .g 86 true (.bo 91 .rem (.t 90) (.k (.int .i64 3))), .g 86 true (.bo 92 .gtr (.t 91) (.k (.int .i64 0))), .g 86 true (.mv 93 (.t 92)), .g 93 false (.mv 94 (.t 10)), .g 93 false (.mv 95 (.t 7)), .g 93 false (.bo 96 .add (.t 95) (.k (.int .i64 1))), .g 93 false (.beq 97 false false (.t 94) (.t 96)), .g 86 true (.pick 98 (.t 93) (.k (.bool true)) (.t 97)), .g 86 true (.mv 99 (.t 98)), .g 99 false (.mv 100 (.t 7)), .g 99 false (.mv 101 (.t 10)), .g 99 false (.bo 102 .add (.t 101) (.k (.int .i64 1))), .g 99 false (.beq 103 false false (.t 100) (.t 102)), .g 86 true (.pick 104 (.t 99) (.k (.bool true)) (.t 103)), .u (.pick 105 (.t 86) (.t 104) (.k (.bool false)))]
def f38r19 : List PG := [.u (.fa 106 3 (.t 1)), .u (.ld 107 1 false (.t 106)), .u (.mv 108 (.t 7)), .u (.mv 109 (.t 6)), .u (.bo 110 .mul (.t 108) (.t 109)), .u (.mv 111 (.t 10)), .u (.bo 112 .add (.t 110) (.t 111)), .uc 113 64 [.t 107, .t 112], .u (.mv 12 (.t 113))]
def f38r20 : List PG := [.u (.fa 114 2 (.t 8)), .u (.ld 115 1 false (.t 114)), .u (.mv 116 (.t 10)), .uc 117 63 [.t 116], .u (.fa 118 1 (.t 1)), .u (.ld 119 1 false (.t 118)), .u (.mv 120 (.t 11)), .uc 121 64 [.t 119, .t 120], .u (.bo 122 .quo (.t 121) (.k (.int .i64 3))), .u (.bo 123 .rem (.t 122) (.k (.int .i64 3))), .u (.bo 124 .add (.k (.int .i64 1)) (.t 123)), .u (.ld 125 6 true (.t 1)), .u (.mv 126 (.t 12)), .uc 127 66 [.t 125, .t 126], .u (.ld 128 6 true (.t 1)), .u (.mv 129 (.t 12)), .u (.bo 130 .quo (.t 129) (.k (.int .i64 12))), .uc 131 66 [.t 128, .t 130], .u (.bld 132 [.d (.v (.string ⟨#[]⟩)), .d (.v (.int .i64 0)), .d (.v (.string ⟨#[]⟩)), .d (.v (.string ⟨#[]⟩)), .d (.v (.int .i64 0))] [((0, 1), .t 117), ((1, 1), .t 124), ((2, 1), .t 127), ((3, 1), .t 131)]), .u (.bslF 133 151 5 [.t 132]), .u (.app 134 151 5 64 (.t 115) (.t 133)), .u (.fa 135 2 (.t 8)), .u (.st 1 (.t 135) (.t 134))]
abbrev f38p10 : PC := .seq (.reg f38r19) (.regD f38r20 [])
abbrev f38p11 : PC := .cond (.t 105) (f38p10) (.skip)
abbrev f38p12 : PC := .seq (.reg f38r18) (f38p11)
def f38r21 : List PG := [.u (.mv 72 (.t 10)), .u (.bo 73 .add (.t 72) (.k (.int .i64 1))), .u (.mv 10 (.t 73))]
abbrev f38p13 : PC := .seq (.block 5 (.seq (.reg f38r17) (f38p12))) (.reg f38r21)
abbrev f38p14 : PC := .seq (.seq (.reg f38r16) (f38p9)) (f38p13)
abbrev f38p15 : PC := .block 4 (.loop (f38p14))
def f38r22 : List PG := [.u (.fa 136 5 (.t 1)), .u (.ld 137 1 false (.t 136)), .u (.mv 138 (.t 7)), .uc 139 64 [.t 137, .t 138], .u (.mv 13 (.t 139))]
def f38r23 : List PG := [.u (.mv 140 (.t 13)), .u (.bo 141 .rem (.t 140) (.k (.int .i64 5))), .u (.beq 142 false false (.t 141) (.k (.int .i64 4))), .u (.mv 143 (.t 142)), .g 143 true (.fa 144 2 (.t 8)), .g 143 true (.ld 145 1 false (.t 144)), .g 143 true (.len 146 (.t 145)), .g 143 true (.bo 147 .gtr (.t 146) (.k (.int .i64 0))), .u (.pick 148 (.t 143) (.t 147) (.k (.bool false)))]
def f38r24 : List PG := [.u (.fa 149 3 (.t 8)), .u (.ld 150 1 false (.t 149)), .u (.mv 151 (.t 13)), .u (.cv 152 .u8 (.t 151)), .uc 153 65 [.t 152], .u (.fa 154 2 (.t 8)), .u (.ld 155 1 false (.t 154)), .u (.mv 156 (.t 13)), .u (.bo 157 .quo (.t 156) (.k (.int .i64 8))), .u (.fa 158 2 (.t 8)), .u (.ld 159 1 false (.t 158)), .u (.len 160 (.t 159)), .u (.bo 161 .rem (.t 157) (.t 160)), .u (.ia 162 5 (.t 155) (.t 161)), .u (.fa 163 0 (.t 162)), .u (.ld 164 1 false (.t 163)), .u (.bld 165 [.d (.v (.int .u32 0)), .d (.v (.int .i64 0)), .d (.v (.string ⟨#[]⟩)), .d (.v (.int .i64 0))] [((0, 2), .t 153), ((2, 1), .t 164)]), .u (.bslF 166 153 4 [.t 165]), .u (.app 167 153 4 40 (.t 150) (.t 166)), .u (.fa 168 3 (.t 8)), .u (.st 1 (.t 168) (.t 167))]
abbrev f38p16 : PC := .cond (.t 148) (.regD f38r24 []) (.skip)
abbrev f38p17 : PC := .seq (.reg f38r23) (f38p16)
def f38r25 : List PG := [.u (.fa 169 1 (.t 3)), .u (.ld 170 1 false (.t 169)), .u (.ld 171 5 true (.t 8)), .u (.bslF 172 147 5 [.t 171]), .u (.app 173 147 5 96 (.t 170) (.t 172)), .u (.fa 174 1 (.t 3)), .u (.st 1 (.t 174) (.t 173))]
abbrev f38p18 : PC := .seq (.seq (.reg f38r22) (f38p17)) (.reg f38r25)
abbrev f38p19 : PC := .seq (.seq (.reg f38r15) (f38p15)) (f38p18)
abbrev f38p20 : PC := .seq (.seq (.reg f38r12) (f38p8)) (f38p19)
def f38r26 : List PG := [.u (.mv 45 (.t 7)), .u (.bo 46 .add (.t 45) (.k (.int .i64 1))), .u (.mv 7 (.t 46))]
abbrev f38p21 : PC := .seq (.block 3 (.seq (.reg f38r11) (f38p20))) (.reg f38r26)
abbrev f38p22 : PC := .seq (.seq (.reg f38r10) (f38p6)) (f38p21)
abbrev f38p23 : PC := .block 2 (.loop (f38p22))
def f38r27 : List PG := [.u (.ld 175 2 true (.t 3)), .u (.st 2 (.t 2) (.t 175))]
abbrev f38p24 : PC := .seq (.reg f38r27) (.ret)
abbrev f38p25 : PC := .seq (.seq (.reg f38r9) (f38p23)) (f38p24)
abbrev f38p26 : PC := .seq (.reg f38r8) (f38p25)
abbrev f38p27 : PC := .seq (.seq (.reg f38r2) (f38p5)) (f38p26)
abbrev f38p28 : PC := .seq (.reg f38r1) (f38p27)
abbrev f38pc : PC := .seq (.reg f38r0) (f38p28)
def f38k : List Nat := [0, 1, 2, 3, 4, 5, 6, 7, 8, 9, 10, 11, 12, 13, 15, 16, 17, 18, 23, 44, 60, 71, 105, 148]
theorem f38c : Tryz.f38.body.bind (cC te Tryz.f38.ntmps) = some f38pc := by kernel_rfl
set_option maxRecDepth 20000
set_option maxHeartbeats 4000000


attribute [local irreducible] rname mname
theorem config_fn (sh : Shape) (hs : sh.ok) : FnS Tryz.prog 38 [sh.av] sh.conf.av := by
  have hm : maxLen = 9223372036854775807 := rfl
  have hn := sh.n_le
  have hR : IntKind.i64.wrap (sh.routers.tmod 8) = (sh.n : Int) := by
    have h1 : 0 ≤ sh.routers.tmod 8 := Int.tmod_nonneg _ hs.routers.1
    have h2 : sh.routers.tmod 8 < 8 := Int.tmod_lt_of_pos _ (by decide)
    rw [wrapI64 _ (by omega) (by omega)]; unfold Shape.n; omega
  refine fn_of teok Tryz.func38 (by kernel_rfl) f38c f38k [.cell 2 106] rfl (by show 1 ≤ 176; omega) ?_
  first | (have _q := @g12; clear _q) | have g12 : Nat.pred 77 = 76 := rfl
  first | (have _q := @g11; clear _q) | have g11 : Nat.pred 77 = 76 := rfl
  first | (have _q := @g4; clear _q) | have g4 : Nat.pred 77 = 76 := rfl
  first | (have _q := @g3; clear _q) | have g3 : Nat.pred 77 = 76 := rfl
  first | (have _q := @g10; clear _q) | have g10 : Nat.pred 77 = 76 := rfl
  first | (have _q := @g9; clear _q) | have g9 : Nat.pred 77 = 76 := rfl
  first | (have _q := @g8; clear _q) | have g8 : Nat.pred 77 = 76 := rfl
  first | (have _q := @g7; clear _q) | have g7 : Nat.pred 77 = 76 := rfl
  first | (have _q := @g6; clear _q) | have g6 : Nat.pred 77 = 76 := rfl
  first | (have _q := @g5; clear _q) | have g5 : Nat.pred 77 = 76 := rfl
  first | (have _q := @g2; clear _q) | have g2 : Nat.pred 77 = 76 := rfl
  first | (have _q := @g1; clear _q) | have g1 : Nat.pred 77 = 76 := rfl
  repeat' first
|(have hje : j = sh.n := (by have h0 := of_decide_eq_false (show decide ((j : Int) < sh.n) = false from hc); omega); subst hje; replace hc : True := trivial)
|(have hw := sts_yes (numV_rng hs.ways _) hc; have g11 := (quo64 (numV_rng hs.ways y.1) 8 (by decide)).1; have g12 := hw.2.2.2.1; have hll := lks_len sh y.1 sh.n; replace hc : True := trivial)
|(have _q := hw; with_reducible refine midQ_of ((Wk_seals [67, 167]).trans (Wk_sub rfl rfl ?_ ?_)))
|(with_reducible refine awp_exit_seal (i := 0) [35] ?_)
|(with_reducible refine awp_exit_seal (i := 4) [134] ?_)
|(with_reducible refine awp_exit_seal (i := 2) [173] ?_)
|(with_reducible refine awp_mid (f38p19) [] [(8, .box [.d (.v (.string (rname y.1))), .d (.sl 2 ((sh.netsV y.1).map pD)), .nl 5, .nl 4, .d (.v (.int .i64 0))])] ?_ ?_)
|(with_reducible refine awp_mid (.reg f38r25) [] [(8, .box [.d (.v (.string (rname y.1))), .d (.sl 2 ((sh.netsV y.1).map pD)), .d (.sl 5 ((sh.lks y.1 sh.n).map Lk.row)), .d (.sl 4 ((sh.stsV y.1).map Way.row)), .d (.v (.int .i64 0))])] ?_ ?_)
|(have _q : (_ : Bool) = true := hc; with_reducible refine midQ_of ((Wk_seals [67, 167]).trans (Wk_sub rfl rfl ?_ ?_)))
|(have _q : (if ((y.1 : Int) == 0) = true then true else _) = false := hc; with_reducible refine midQ_of ((Wk_nlBD 8 1 rfl rfl).trans (Wk_sub rfl rfl ?_ ?_)))
|(have _q : (_ : Bool) = false := hc; with_reducible refine midQ_of ((Wk_nlBD 8 3 rfl rfl).trans (Wk_sub rfl rfl ?_ ?_)))
|(with_reducible first | refine awp_seq ?_ | refine awp_block ?_ | refine awp_reg ?_ | refine awp_regD ?_ | refine awp_ret ?_ | refine awp_skip ?_ | refine awp_exit ?_ | refine normQ_of ?_ | refine wkE_of ?_)
|with_reducible refine midQ_of (Wk_sub rfl rfl ?_ ?_)
|(with_reducible first | refine runD_nil ?_ | refine runD_cons ?_ | refine runF_cons ?_ | refine runF_nil ?_ | refine KF_of ?_ | refine chkQ_of rfl ?_)
|with_reducible refine awp_cond (by simp only [evX, lget, Option.getD_some, reduceIte, Nat.reduceEqDiff]; rfl) (fun hc => ?_) (fun hc => ?_)
|with_reducible refine CallU_of (f := 62) (clauses_fn rs (by have := hs.row rs (List.mem_of_getElem? he.2.2.1); omega) (hs.rule rs (List.mem_of_getElem? he.2.2.1))) (by first | exact Or.inr (Or.inl rfl) | exact Or.inl rfl) ?_
|with_reducible refine CallU_of (f := 63) (name_fn y.1 (by omega)) (by first | exact Or.inr (Or.inl rfl) | exact Or.inl rfl) ?_
|with_reducible refine CallU_of (f := 63) (name_fn j (by omega)) (by first | exact Or.inr (Or.inl rfl) | exact Or.inl rfl) ?_
|with_reducible refine CallU_of (f := 64) (number_fn sh.nets hs.nets y.1) (by first | exact Or.inr (Or.inl rfl) | exact Or.inl rfl) ?_
|with_reducible refine CallC_of (f := 64) (fun _ => number_fn sh.nets hs.nets y.1) (by first | exact Or.inr (Or.inl rfl) | exact Or.inl rfl) ?_
|with_reducible refine CallU_of (f := 64) (number_fn sh.ways hs.ways y.1) (by first | exact Or.inr (Or.inl rfl) | exact Or.inl rfl) ?_
|with_reducible refine CallC_of (f := 64) (fun _ => number_fn sh.ways hs.ways y.1) (by first | exact Or.inr (Or.inl rfl) | exact Or.inl rfl) ?_
|with_reducible refine CallU_of (f := 65) (make_fn (numV sh.nets y.1) (numV_rng hs.nets _)) (by first | exact Or.inr (Or.inl rfl) | exact Or.inl rfl) ?_
|with_reducible refine CallU_of (f := 65) (make_fn (numV sh.ways y.1) (numV_rng hs.ways _)) (by first | exact Or.inr (Or.inl rfl) | exact Or.inl rfl) ?_
|with_reducible refine CallU_of (f := 64) (number_fn sh.links hs.links (min j y.1 * sh.n + max j y.1)) (by first | exact Or.inr (Or.inl rfl) | exact Or.inl rfl) ?_
|with_reducible refine CallC_of (f := 64) (fun _ => number_fn sh.links hs.links (min j y.1 * sh.n + max j y.1)) (by first | exact Or.inr (Or.inl rfl) | exact Or.inl rfl) ?_
|with_reducible refine CallU_of (f := 64) (number_fn sh.names hs.names (y.1 * sh.n + j)) (by first | exact Or.inr (Or.inl rfl) | exact Or.inl rfl) ?_
|with_reducible refine CallC_of (f := 64) (fun _ => number_fn sh.names hs.names (y.1 * sh.n + j)) (by first | exact Or.inr (Or.inl rfl) | exact Or.inl rfl) ?_
|with_reducible refine CallU_of (f := 66) (mapped_fn sh (numV sh.names (y.1 * sh.n + j)) (numV_rng hs.names _)) (by first | exact Or.inr (Or.inl rfl) | exact Or.inl rfl) ?_
|with_reducible refine CallU_of (f := 66) (mapped_fn sh ((numV sh.names (y.1 * sh.n + j)).tdiv 12) (quo64 (numV_rng hs.names _) 12 (by decide)).2) (by first | exact Or.inr (Or.inl rfl) | exact Or.inl rfl) ?_
|(with_reducible assumption)
|with_reducible refine fun (hG : okL _) => ?_
|(with_reducible refine fun (hT : (_ : Bool) = _) => ?_)
|(with_reducible first | exact hG.2 | exact hG.2.2 | exact hG.2.2.2 | exact hG.2.2.2.2)
|with_reducible refine okL_mk ?_ ?_
|with_reducible refine And.intro ?_ ?_
|(with_reducible refine awp_loopU (b := f38p4) (fun x : Nat × List Mp => x.1 ≤ sh.maps.length ∧ x.2.length ≤ 4 ∧ (x.1 < 4 → x.2.length ≤ x.1) ∧ mpsGo (sh.maps.drop x.1) x.1 x.2 = mpsGo sh.maps 0 []) (fun x => sh.maps.length - x.1) (fun x => [(17, .d (.v (.int .i64 x.1)))]) (fun x => [(3, .box [.own 35 x.2.length, .nl 5]), (35, .row 142 3 x.2.length (x.2.map Mp.row))]) ((0, [])) (⟨Nat.zero_le _, by simp, by simp, rfl⟩) (Wk_nlB 3 0 35 142 rfl rfl rfl (by decide)) (Wk_sub rfl rfl ?_ ?_) (fun x hx => ?_))
|(refine Exists.elim (at_drop rsD sh.maps x.1 (Int.ofNat_lt.1 (of_decide_eq_true hc))) (fun rs he => ?_); have g1 := he.2.1; replace hc : True := trivial)
|(have _q : decide ((x.1 : Int) < (4 : Int)) = true := hc; have hx4 := of_decide_eq_true _q; have g2 := chr_of x.1 (by omega) (by omega); replace hc : True := trivial)
|(have _q := hx4; with_reducible refine loopQ_next (x.1 + 1, x.2 ++ [⟨mname x.1, clausesL rs⟩]) ?_ ?_ (Wk_sub rfl rfl ?_ ?_))
|(with_reducible refine awp_loopU (b := f38p22) (fun y : Nat × Unit => y.1 ≤ sh.n) (fun y => sh.n - y.1) (fun y => [(7, .d (.v (.int .i64 y.1)))]) (fun y => [(3, .box [.d (.sl 3 ((mpsGo sh.maps 0 []).map Mp.row)), .own 173 y.1]), (173, .row 147 5 y.1 (((List.range y.1).map sh.ro).map Ro.row))]) ((0, ())) (Nat.zero_le _) (Wk_nlB 3 1 173 147 rfl rfl rfl (by decide)) (Wk_sub rfl rfl ?_ ?_) (fun y hy => ?_))
|(have hy2 : y.1 < sh.n := Int.ofNat_lt.1 (of_decide_eq_true hc); have g3 := wrapU8 (numV sh.nets y.1) (numV_rng hs.nets _).1 (numV_rng hs.nets _).2; have g4 := wrapU8 (numV sh.ways y.1) (numV_rng hs.ways _).1 (numV_rng hs.ways _).2; replace hc : True := trivial)
|(with_reducible refine awp_loopU (b := f38p14) (fun j : Nat => j ≤ sh.n) (fun j => sh.n - j) (fun j => [(10, .d (.v (.int .i64 j)))]) (fun j => [(8, .box [.d (.v (.string (rname y.1))), .d (.sl 2 ((sh.netsV y.1).map pD)), .own 134 (sh.lks y.1 j).length, .nl 4, .d (.v (.int .i64 0))]), (134, .row 151 5 (sh.lks y.1 j).length ((sh.lks y.1 j).map Lk.row))]) (0) (Nat.zero_le _) (Wk_nlB 8 2 134 151 rfl rfl rfl (by decide)) (Wk_sub rfl rfl ?_ ?_) (fun j hj => ?_))
|(have hj2 : j < sh.n := Int.ofNat_lt.1 (of_decide_eq_true hc); have hll := lks_len sh y.1 j; have g5 := ix64 (n := sh.n) (j := j) (k := y.1) hn (by omega) (by omega); have g6 := nm64 (n := sh.n) (j := j) (k := y.1) hn (by omega) (by omega); have g7 := (quo64 (numV_rng hs.names (y.1 * sh.n + j)) 12 (by decide)).1; have g8 := (quo64 (numV_rng hs.links (min j y.1 * sh.n + max j y.1)) 3 (by decide)).1; have g9 := cost64 (numV_rng hs.links (min j y.1 * sh.n + max j y.1)); replace hc : True := trivial)
|(have _q : (_ : Bool) = true := hc; with_reducible refine loopQ_next (show Nat from j + 1) ?_ ?_ (Wk_sub rfl rfl ?_ ?_))
|(have _q : (_ : Bool) = false := hc; with_reducible refine loopQ_next (show Nat from j + 1) ?_ ?_ (Wk_sub rfl rfl ?_ ?_))
|(have _q : (_ : Bool) = false := hc; with_reducible refine loopQ_next ((x.1 + 1, x.2)) ?_ ?_ (Wk_sub rfl rfl ?_ ?_))
|(with_reducible refine loopQ_next ((y.1 + 1, ())) ?_ ?_ (Wk_sub rfl rfl ?_ ?_))
|simp only [f38r0, f38r1, f38r2, f38r3, f38r4, f38r5, f38r6, f38r7, f38r8, f38r9, f38r10, f38r11, f38r12, f38r13, f38r14, f38r15, f38r16, f38r17, f38r18, f38r19, f38r20, f38r21, f38r22, f38r23, f38r24, f38r25, f38r26, f38r27, g12, g11, g4, g3, g9, g8, g7, g6, g5, g2, g1, f38k, te106, hR, List.length_range, List.length_map, runG_nil, runG_u, runG_g, runG_ucS, runG_gcS, stp, evs, evX, lget, lput, strip, putO, PO.dst, updO, okR, cells, splice, AV.cell, toD, toDs, binV, sameK, pickV, guardOf, okL_nil, sides, argsOf, rawOf, dv, dvL, owns, ownsL, lkeep, seqQ, blockQ, initS, List.drop_succ_cons, List.drop_zero, List.take_succ_cons, List.take_zero, List.getD_cons_zero, List.getD_cons_succ, List.length_cons, List.length_nil, List.set_cons_zero, List.set_cons_succ, List.map_cons, List.map_nil, List.all_cons, List.all_nil, List.elem_cons, List.elem_nil, Option.getD_some, Option.bind_some, Option.isNone_none, reduceIte, reduceCtorEq, Nat.reduceEqDiff, Nat.reduceAdd, Nat.reduceLeDiff, Nat.zero_add, Nat.add_zero, Nat.reduceBEq, Bool.and_self, Bool.or_self, true_and, and_true, and_self, implies_true, Bool.false_eq_true, retQ, resOf, resV, Option.some.injEq, exists_eq_left', AV.d.injEq, D.v.injEq, imp_self, bldF, bldS, loopQ_exit, subS, subO, Bool.bne_false, Bool.bne_true, elemsOf, bslD, bslS, lputs, sealS, sealO, sealV, sealL, sealsS, sealsO, argsN, dvN]
  all_goals try first
    | omega
    | (with_reducible rfl)
    | (show Value.int _ 0 = _; rfl)
    | (simp only [List.length_append, List.length_cons, List.length_nil]; omega)
    | (simp only [List.length_append, List.length_cons, List.length_nil, List.map_append, List.map_cons, List.map_nil]; done)
    | exact count64 he.2.2.2 (by have := hs.maps; omega)
    | exact chr_fit _ _
    | (have h1 := hx.2.2.1 (by omega); simp; omega)
    | (have h1 := hx.2.2.2; rw [he.1, mpsGo, if_pos (by omega)] at h1; exact h1)
    | (have h0 := of_decide_eq_false hc; have h1 := hx.2.2.2; rw [he.1, mpsGo, if_neg (by omega)] at h1; exact h1)
    | (simp only [List.length_append, List.length_cons, List.length_nil, List.map_append, List.map_cons, List.map_nil, mname]; done)
    | (have h0 := of_decide_eq_false hc; have h1 := hx.2.2.2; rw [List.drop_eq_nil_of_le (by omega), mpsGo] at h1; rw [h1]; done)
    | exact count64 (n := sh.n) hj2 (by omega)
    | exact count64 (n := sh.n) hy2 (by omega)
    | (have hh := (has_of (s := sh) (k := y.1) (j := j) (by omega) (by omega)).symm.trans hc
       simp only [lks_succ, hh, reduceIte, List.length_append, List.length_cons, List.length_nil, List.map_append, List.map_cons, List.map_nil]; try rfl
       done)
    | (have hh := (has_of (s := sh) (k := y.1) (j := j) (by omega) (by omega)).symm.trans hc
       simp only [lks_succ, hh, Bool.false_eq_true, reduceIte]; try rfl
       done)
    | (rw [hw.2.2.2.2]; rfl)
    | (rw [sts_no hc]; rfl)
    | (rw [nets_yes hc]; rfl)
    | (rw [nets_no hc]; rfl)
    | (simp only [List.range_succ, List.map_append, List.map_cons, List.map_nil]; rfl)
    | (have h0 := of_decide_eq_false hc; rw [show y.1 = sh.n by omega]; rfl)
    | rfl
  all_goals trace_state
end Go.Proofs.YtgkkaimcchlnaaaGreatDoor
