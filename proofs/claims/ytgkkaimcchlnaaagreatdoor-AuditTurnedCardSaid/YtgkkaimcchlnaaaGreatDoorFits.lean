/- What layer 19's fits comes to. Printed by a program of this project (wip/mq). -/
import Derived.Test.YtgkkaimcchlnaaaGreatDoorHas
import Derived.Test.YtgkkaimcchlnaaaGreatDoorAis
set_option linter.unusedVariables false
set_option linter.unusedSimpArgs false

namespace Go.Proofs.YtgkkaimcchlnaaaGreatDoor
open Go Mq Go.ChangeShapes Go.WideShapes Go.ChangeAt Go.RowKit
/-! maquette/maquettelaw19.fits -/
def f36r0 : List PG := [.u (.bx 3 (.t 0)), .u (.bx 4 (.t 1)), .u (.mv 6 (.k (.int .i64 0)))]
def f36r1 : List PG := [.u (.ld 19 3 true (.t 3)), .uc 20 42 [.t 19], .u (.no 21 (.t 20)), .u (.mv 22 (.t 21)), .g 22 false (.ld 23 3 true (.t 4)), .gc 22 false 24 42 [.t 23], .g 22 false (.no 25 (.t 24)), .u (.pick 26 (.t 22) (.k (.bool true)) (.t 25)), .u (.mv 27 (.t 26)), .g 27 false (.mv 28 (.t 2)), .g 27 false (.len 29 (.t 28)), .g 27 false (.fa 30 0 (.t 3)), .g 27 false (.ld 31 1 false (.t 30)), .g 27 false (.len 32 (.t 31)), .g 27 false (.beq 33 true false (.t 29) (.t 32)), .u (.pick 34 (.t 27) (.k (.bool true)) (.t 33))]
def f36r2 : List PG := [.u (.mv 6 (.k (.int .i64 10)))]
abbrev f36p0 : PC := .seq (.reg f36r2) (.ret)
abbrev f36p1 : PC := .cond (.t 34) (f36p0) (.skip)
def f36r3 : List PG := [.u (.fa 35 0 (.t 4)), .u (.ld 36 1 false (.t 35)), .u (.len 37 (.t 36)), .u (.mks 38 3 1 8 [.d (.v (.int .i64 0))] (.t 37)), .u (.mv 7 (.t 38))]
def f36r4 : List PG := [.u (.mv 39 (.t 2)), .u (.len 40 (.t 39)), .u (.mv 41 (.k (.int .i64 0)))]
def f36r5 : List PG := [.u (.bo 42 .lss (.t 41) (.t 40))]
def f36r6 : List PG := [.u (.ia 43 1 (.t 39) (.t 41)), .u (.ld 44 1 false (.t 43)), .u (.mv 9 (.t 44))]
def f36r7 : List PG := [.u (.mv 45 (.t 9)), .u (.bo 46 .lss (.t 45) (.k (.int .i64 0))), .u (.mv 47 (.t 46)), .g 47 false (.mv 48 (.t 9)), .g 47 false (.mv 49 (.t 7)), .g 47 false (.len 50 (.t 49)), .g 47 false (.bo 51 .geq (.t 48) (.t 50)), .u (.pick 52 (.t 47) (.k (.bool true)) (.t 51))]
def f36r8 : List PG := [.u (.mv 6 (.k (.int .i64 10)))]
abbrev f36p2 : PC := .seq (.reg f36r8) (.ret)
abbrev f36p3 : PC := .cond (.t 52) (f36p2) (.skip)
def f36r9 : List PG := [.u (.mv 53 (.t 7)), .u (.mv 54 (.t 9)), .u (.ia 55 1 (.t 53) (.t 54)), .u (.ld 56 1 false (.t 55)), .u (.bo 57 .add (.t 56) (.k (.int .i64 1))), .u (.ia 58 1 (.t 53) (.t 54)), .u (.st 1 (.t 58) (.t 57))]
abbrev f36p4 : PC := .seq (.seq (.reg f36r7) (f36p3)) (.reg f36r9)
def f36r10 : List PG := [.u (.bo 59 .add (.t 41) (.k (.int .i64 1))), .u (.mv 41 (.t 59))]
abbrev f36p5 : PC := .seq (.block 1 (.seq (.reg f36r6) (f36p4))) (.reg f36r10)
abbrev f36p6 : PC := .seq (.cond (.t 42) (.skip) (.exit 0)) (f36p5)
abbrev f36p7 : PC := .seq (.reg f36r5) (f36p6)
abbrev f36p8 : PC := .block 0 (.loop (f36p7))
def f36r11 : List PG := [.u (.mv 60 (.t 7)), .u (.len 61 (.t 60)), .u (.mv 62 (.k (.int .i64 0)))]
def f36r12 : List PG := [.u (.bo 63 .lss (.t 62) (.t 61))]
def f36r13 : List PG := [.u (.ia 64 1 (.t 60) (.t 62)), .u (.ld 65 1 false (.t 64)), .u (.mv 11 (.t 65))]
def f36r14 : List PG := [.u (.mv 66 (.t 11)), .u (.beq 67 false false (.t 66) (.k (.int .i64 0)))]
def f36r15 : List PG := [.u (.mv 6 (.k (.int .i64 10)))]
abbrev f36p9 : PC := .seq (.reg f36r15) (.ret)
abbrev f36p10 : PC := .cond (.t 67) (f36p9) (.skip)
abbrev f36p11 : PC := .seq (.reg f36r14) (f36p10)
def f36r16 : List PG := [.u (.bo 68 .add (.t 62) (.k (.int .i64 1))), .u (.mv 62 (.t 68))]
abbrev f36p12 : PC := .seq (.block 3 (.seq (.reg f36r13) (f36p11))) (.reg f36r16)
abbrev f36p13 : PC := .seq (.cond (.t 63) (.skip) (.exit 2)) (f36p12)
abbrev f36p14 : PC := .seq (.reg f36r12) (f36p13)
abbrev f36p15 : PC := .block 2 (.loop (f36p14))
def f36r17 : List PG := [.u (.mv 69 (.t 2)), .u (.len 70 (.t 69)), .u (.mv 71 (.k (.int .i64 0)))]
def f36r18 : List PG := [.u (.bo 72 .lss (.t 71) (.t 70))]
def f36r19 : List PG := [.u (.mv 73 (.t 71)), .u (.ia 74 1 (.t 69) (.t 71)), .u (.ld 75 1 false (.t 74)), .u (.mv 12 (.t 73)), .u (.mv 13 (.t 75))]
def f36r20 : List PG := [.u (.mv 14 (.k (.int .i64 (-1))))]
def f36r21 : List PG := [.u (.fa 76 1 (.t 3)), .u (.ld 77 1 false (.t 76)), .u (.mv 78 (.t 12)), .u (.ia 79 1 (.t 77) (.t 78)), .u (.ld 80 1 false (.t 79)), .u (.bo 81 .geq (.t 80) (.k (.int .i64 0)))]
def f36r22 : List PG := [.u (.mv 82 (.t 2)), .u (.fa 83 1 (.t 3)), .u (.ld 84 1 false (.t 83)), .u (.mv 85 (.t 12)), .u (.ia 86 1 (.t 84) (.t 85)), .u (.ld 87 1 false (.t 86)), .u (.ia 88 1 (.t 82) (.t 87)), .u (.ld 89 1 false (.t 88)), .u (.mv 14 (.t 89))]
abbrev f36p16 : PC := .cond (.t 81) (.reg f36r22) (.skip)
def f36r23 : List PG := [.u (.fa 90 0 (.t 3)), .u (.ld 91 1 false (.t 90)), .u (.mv 92 (.t 12)), .u (.ia 93 1 (.t 91) (.t 92)), .u (.ld 94 1 false (.t 93)), .u (.fa 95 0 (.t 4)), .u (.ld 96 1 false (.t 95)), .u (.mv 97 (.t 13)), .u (.ia 98 1 (.t 96) (.t 97)), .u (.ld 99 1 false (.t 98)), .u (.beq 100 true true (.t 94) (.t 99)), .u (.mv 101 (.t 100)), .g 101 false (.mv 102 (.t 14)), .g 101 false (.fa 103 1 (.t 4)), .g 101 false (.ld 104 1 false (.t 103)), .g 101 false (.mv 105 (.t 13)), .g 101 false (.ia 106 1 (.t 104) (.t 105)), .g 101 false (.ld 107 1 false (.t 106)), .g 101 false (.beq 108 true false (.t 102) (.t 107)), .u (.pick 109 (.t 101) (.k (.bool true)) (.t 108)), .u (.mv 110 (.t 109)), .g 110 false (.mv 111 (.t 7)), .g 110 false (.mv 112 (.t 13)), .g 110 false (.ia 113 1 (.t 111) (.t 112)), .g 110 false (.ld 114 1 false (.t 113)), .g 110 false (.bo 115 .gtr (.t 114) (.k (.int .i64 1))), .g 110 false (.mv 116 (.t 115)), .g 116 true (.ld 117 3 true (.t 3)), .g 116 true (.mv 118 (.t 12)), .gc 116 true 119 53 [.t 117, .t 118], .g 110 false (.pick 120 (.t 116) (.t 119) (.k (.bool false))), .u (.pick 121 (.t 110) (.k (.bool true)) (.t 120))]
def f36r24 : List PG := [.u (.mv 6 (.k (.int .i64 9)))]
abbrev f36p17 : PC := .seq (.reg f36r24) (.ret)
abbrev f36p18 : PC := .cond (.t 121) (f36p17) (.skip)
def f36r25 : List PG := [.u (.fa 122 2 (.t 3)), .u (.ld 123 1 false (.t 122)), .u (.mv 124 (.t 12)), .u (.ia 125 1 (.t 123) (.t 124)), .u (.ld 126 1 false (.t 125)), .u (.len 127 (.t 126)), .u (.mv 128 (.k (.int .i64 0)))]
def f36r26 : List PG := [.u (.bo 129 .lss (.t 128) (.t 127))]
def f36r27 : List PG := [.u (.ia 130 4 (.t 126) (.t 128)), .u (.ld 131 4 true (.t 130)), .u (.al 16 [.d (.v (.int .i64 0)), .d (.v (.int .i64 0)), .nl 10, .nl 10]), .u (.st 4 (.t 16) (.t 131))]
def f36r28 : List PG := [.u (.mv 132 (.t 2)), .u (.fa 133 0 (.t 16)), .u (.ld 134 1 false (.t 133)), .u (.ia 135 1 (.t 132) (.t 134)), .u (.ld 136 1 false (.t 135)), .u (.mv 137 (.t 13)), .u (.beq 138 true false (.t 136) (.t 137)), .u (.mv 139 (.t 138)), .g 139 true (.fa 140 2 (.t 4)), .g 139 true (.ld 141 1 false (.t 140)), .g 139 true (.mv 142 (.t 13)), .g 139 true (.ia 143 1 (.t 141) (.t 142)), .g 139 true (.ld 144 1 false (.t 143)), .g 139 true (.mv 145 (.t 2)), .g 139 true (.fa 146 0 (.t 16)), .g 139 true (.ld 147 1 false (.t 146)), .g 139 true (.ia 148 1 (.t 145) (.t 147)), .g 139 true (.ld 149 1 false (.t 148)), .g 139 true (.ld 150 4 true (.t 16)), .gc 139 true 151 60 [.t 144, .nl 1, .t 149, .t 150], .g 139 true (.no 152 (.t 151)), .u (.pick 153 (.t 139) (.t 152) (.k (.bool false)))]
def f36r29 : List PG := [.u (.mv 6 (.k (.int .i64 9)))]
abbrev f36p19 : PC := .seq (.reg f36r29) (.ret)
abbrev f36p20 : PC := .cond (.t 153) (f36p19) (.skip)
abbrev f36p21 : PC := .seq (.regD f36r28 []) (f36p20)
def f36r30 : List PG := [.u (.bo 154 .add (.t 128) (.k (.int .i64 1))), .u (.mv 128 (.t 154))]
abbrev f36p22 : PC := .seq (.block 7 (.seq (.reg f36r27) (f36p21))) (.reg f36r30)
abbrev f36p23 : PC := .seq (.cond (.t 129) (.skip) (.exit 6)) (f36p22)
abbrev f36p24 : PC := .seq (.reg f36r26) (f36p23)
abbrev f36p25 : PC := .block 6 (.loop (f36p24))
def f36r31 : List PG := [.u (.fa 155 2 (.t 4)), .u (.ld 156 1 false (.t 155)), .u (.mv 157 (.t 13)), .u (.ia 158 1 (.t 156) (.t 157)), .u (.ld 159 1 false (.t 158)), .u (.len 160 (.t 159)), .u (.mv 161 (.k (.int .i64 0)))]
def f36r32 : List PG := [.u (.bo 162 .lss (.t 161) (.t 160))]
def f36r33 : List PG := [.u (.ia 163 4 (.t 159) (.t 161)), .u (.ld 164 4 true (.t 163)), .u (.al 18 [.d (.v (.int .i64 0)), .d (.v (.int .i64 0)), .nl 10, .nl 10]), .u (.st 4 (.t 18) (.t 164))]
def f36r34 : List PG := [.u (.fa 165 2 (.t 3)), .u (.ld 166 1 false (.t 165)), .u (.mv 167 (.t 12)), .u (.ia 168 1 (.t 166) (.t 167)), .u (.ld 169 1 false (.t 168)), .u (.mv 170 (.t 2)), .u (.fa 171 0 (.t 18)), .u (.ld 172 1 false (.t 171)), .u (.ld 173 4 true (.t 18)), .uc 174 60 [.t 169, .t 170, .t 172, .t 173], .u (.no 175 (.t 174))]
def f36r35 : List PG := [.u (.mv 6 (.k (.int .i64 9)))]
abbrev f36p26 : PC := .seq (.reg f36r35) (.ret)
abbrev f36p27 : PC := .cond (.t 175) (f36p26) (.skip)
abbrev f36p28 : PC := .seq (.regD f36r34 []) (f36p27)
def f36r36 : List PG := [.u (.bo 176 .add (.t 161) (.k (.int .i64 1))), .u (.mv 161 (.t 176))]
abbrev f36p29 : PC := .seq (.block 9 (.seq (.reg f36r33) (f36p28))) (.reg f36r36)
abbrev f36p30 : PC := .seq (.cond (.t 162) (.skip) (.exit 8)) (f36p29)
abbrev f36p31 : PC := .seq (.reg f36r32) (f36p30)
abbrev f36p32 : PC := .block 8 (.loop (f36p31))
abbrev f36p33 : PC := .seq (.reg f36r31) (f36p32)
abbrev f36p34 : PC := .seq (.seq (.reg f36r25) (f36p25)) (f36p33)
abbrev f36p35 : PC := .seq (.seq (.regD f36r23 []) (f36p18)) (f36p34)
abbrev f36p36 : PC := .seq (.seq (.reg f36r21) (f36p16)) (f36p35)
abbrev f36p37 : PC := .seq (.reg f36r20) (f36p36)
def f36r37 : List PG := [.u (.bo 177 .add (.t 71) (.k (.int .i64 1))), .u (.mv 71 (.t 177))]
abbrev f36p38 : PC := .seq (.block 5 (.seq (.reg f36r19) (f36p37))) (.reg f36r37)
abbrev f36p39 : PC := .seq (.cond (.t 72) (.skip) (.exit 4)) (f36p38)
abbrev f36p40 : PC := .seq (.reg f36r18) (f36p39)
abbrev f36p41 : PC := .block 4 (.loop (f36p40))
def f36r38 : List PG := [.u (.mv 6 (.k (.int .i64 0)))]
abbrev f36p42 : PC := .seq (.reg f36r38) (.ret)
abbrev f36p43 : PC := .seq (.seq (.reg f36r17) (f36p41)) (f36p42)
abbrev f36p44 : PC := .seq (.seq (.reg f36r11) (f36p15)) (f36p43)
abbrev f36p45 : PC := .seq (.seq (.reg f36r4) (f36p8)) (f36p44)
abbrev f36p46 : PC := .seq (.reg f36r3) (f36p45)
abbrev f36p47 : PC := .seq (.seq (.reg f36r1) (f36p1)) (f36p46)
abbrev f36pc : PC := .seq (.reg f36r0) (f36p47)
def f36k : List Nat := [0, 1, 2, 3, 4, 6, 7, 9, 11, 12, 13, 14, 16, 18, 34, 39, 40, 41, 42, 52, 60, 61, 62, 63, 67, 69, 70, 71, 72, 81, 121, 126, 127, 128, 129, 153, 159, 160, 161, 162, 175]
theorem f36c : Tryz.f36.body.bind (cC te Tryz.f36.ntmps) = some f36pc := by kernel_rfl
set_option maxRecDepth 20000
set_option maxHeartbeats 4000000


theorem or3b (a b c d : Bool) : (if (if (!a) = true then true else !b) = true then true else if c = true then d else false) = ((!a) || ((!b) || (c && d))) := by cases a <;> cases b <;> cases c <;> cases d <;> rfl
def al1 (n m : Net) (b : List Int) (k : Nat) (v : Int) : Bool := (n.edges.getD (Int.toNat (k : Int)) []).all fun e => b.getD e.src.toNat 0 == v || overV m v (b.getD e.src.toNat 0) e
def al2 (n m : Net) (b : List Int) (k : Nat) (v : Int) : Bool := (m.edges.getD v.toNat []).all fun e => fromV n b k e.src e
theorem node_v {n m : Net} {b : List Int} {k : Nat} {v : Int} {sev : Bool} (h : b.getD k 0 = v) : nodeV n m b k sev = if ((!(n.origin.getD (Int.toNat (k : Int)) false == m.origin.getD v.toNat false)) || ((!(aVia n b k == m.static.getD v.toNat 0)) || (sev && aloneV n k))) then false else al1 n m b k v && al2 n m b k v := by
  have h' : b.getD (Int.toNat (k : Int)) 0 = v := by simpa using h
  subst h'
  rfl
theorem nv_t {n m : Net} {b : List Int} {k : Nat} {v : Int} {sev : Bool} (h : b.getD k 0 = v) (hc : ((!(n.origin.getD (Int.toNat (k : Int)) false == m.origin.getD v.toNat false)) || ((!(aVia n b k == m.static.getD v.toNat 0)) || (sev && aloneV n k))) = true) : nodeV n m b k sev = false := by rw [node_v h, if_pos hc]
theorem nv_1 {n m : Net} {b : List Int} {k : Nat} {v : Int} {sev : Bool} (h : b.getD k 0 = v) (hc : al1 n m b k v = false) : nodeV n m b k sev = false := by rw [node_v h, hc]; split <;> rfl
theorem nv_2 {n m : Net} {b : List Int} {k : Nat} {v : Int} {sev : Bool} (h : b.getD k 0 = v) (hc : al2 n m b k v = false) : nodeV n m b k sev = false := by rw [node_v h, hc, Bool.and_false]; split <;> rfl
theorem nv_3 {n m : Net} {b : List Int} {k : Nat} {v : Int} {sev : Bool} (h : b.getD k 0 = v) (hc : ((!(n.origin.getD (Int.toNat (k : Int)) false == m.origin.getD v.toNat false)) || ((!(aVia n b k == m.static.getD v.toNat 0)) || (sev && aloneV n k))) = false) (h1 : al1 n m b k v = true) (h2 : al2 n m b k v = true) : nodeV n m b k sev = true := by rw [node_v h, if_neg (by rw [hc]; decide), h1, h2]; rfl
theorem code_bad {n m : Net} {b c : List Int} {k : Nat} {v : Int} (hA : n.may = true ∧ m.may = true ∧ b.length = n.origin.length) (hcnt : cntGo m.origin.length b (List.replicate m.origin.length 0) = some c) (h6 : c.any (· == 0) = false)
    (hz : nodesGo n m b c (b.drop k) k = nodesGo n m b c b 0) (hd : b.drop k = v :: b.drop (k + 1)) (hn : nodeV n m b k (decide (1 < c.getD v.toNat 0)) = false) : isCode n m b = 9 := by
  rw [is_go hA, hcnt]
  show (if c.any (· == 0) = true then _ else if nodesGo n m b c b 0 = true then _ else _) = _
  rw [hd, nodesGo, hn, Bool.false_and] at hz
  rw [if_neg (by rw [h6]; decide), ← hz, if_neg (by decide)]
theorem code_good {n m : Net} {b c : List Int} {k : Nat} (hA : n.may = true ∧ m.may = true ∧ b.length = n.origin.length) (hcnt : cntGo m.origin.length b (List.replicate m.origin.length 0) = some c) (h6 : c.any (· == 0) = false)
    (hz : nodesGo n m b c (b.drop k) k = nodesGo n m b c b 0) (hd : b.length ≤ k) : isCode n m b = 0 := by
  rw [is_go hA, hcnt]
  show (if c.any (· == 0) = true then _ else if nodesGo n m b c b 0 = true then _ else _) = _
  rw [List.drop_eq_nil_of_le hd, nodesGo] at hz
  rw [if_neg (by rw [h6]; decide), if_pos hz.symm]
theorem code_zero {n m : Net} {b c : List Int} (hA : n.may = true ∧ m.may = true ∧ b.length = n.origin.length) (hcnt : cntGo m.origin.length b (List.replicate m.origin.length 0) = some c) (h6 : c.any (· == 0) = true) : isCode n m b = 10 := by
  rw [is_go hA, hcnt]
  show (if c.any (· == 0) = true then _ else _) = _
  rw [if_pos h6]
theorem code_none {n m : Net} {b : List Int} (hA : n.may = true ∧ m.may = true ∧ b.length = n.origin.length) (hcnt : cntGo m.origin.length b (List.replicate m.origin.length 0) = none) : isCode n m b = 10 := by
  rw [is_go hA, hcnt]
theorem node_next {n m : Net} {b c : List Int} {k : Nat} {v : Int} {T : Bool} (hz : nodesGo n m b c (b.drop k) k = T) (hd : b.drop k = v :: b.drop (k + 1)) (hn : nodeV n m b k (decide (1 < c.getD v.toNat 0)) = true) : nodesGo n m b c (b.drop (k + 1)) (k + 1) = T := by
  rw [hd, nodesGo, hn, Bool.true_and] at hz; exact hz
theorem getD_of {l : List Int} {k : Nat} {v : Int} (h : l[k]? = some v) : l.getD k 0 = v := by simp [List.getD, h]
theorem fits_fn (n m : Net) (hn : n.ok) (hm : m.ok) (b : List Int) (hb : b.length ≤ maxLen) : FnS Tryz.prog 36 [n.av, m.av, .d (.sl 1 (b.map iD))] (.d (.v (.int .i64 (isCode n m b)))) := by
  have hM : maxLen = 9223372036854775807 := rfl
  refine fn_of teok Tryz.func36 (by kernel_rfl) f36c f36k [.tmp 6] rfl (by show 3 ≤ 178; omega) ?_
  first | (have _q := @g11; clear _q) | have g11 : Nat.pred 77 = 76 := rfl
  first | (have _q := @g10; clear _q) | have g10 : Nat.pred 77 = 76 := rfl
  first | (have _q := @g1; clear _q) | have g1 : Nat.pred 77 = 76 := rfl
  first | (have _q := @g2; clear _q) | have g2 : Nat.pred 77 = 76 := rfl
  first | (have _q := @g3; clear _q) | have g3 : Nat.pred 77 = 76 := rfl
  first | (have _q := @g4; clear _q) | have g4 : Nat.pred 77 = 76 := rfl
  first | (have _q := @g5; clear _q) | have g5 : Nat.pred 77 = 76 := rfl
  first | (have _q := @g6; clear _q) | have g6 : Nat.pred 77 = 76 := rfl
  first | (have _q := @g7; clear _q) | have g7 : Nat.pred 77 = 76 := rfl
  first | (have _q := @g8; clear _q) | have g8 : Nat.pred 77 = 76 := rfl
  first | (have _q := @g9; clear _q) | have g9 : Nat.pred 77 = 76 := rfl
  repeat' first
|(have hA := is_test (n := n) (m := m) (b := b) hc; have nm := Net.may_spec hA.1; have mm := Net.may_spec hA.2.1; have hA64 := nm.most; have hM64 := mm.most; replace hc : True := trivial)
|(with_reducible refine awp_mid (f36p35) [(14, .d (.v (.int .i64 (aVia n b z.1))))] [] ?_ ?_)
|(with_reducible first | refine awp_seq ?_ | refine awp_block ?_ | refine awp_reg ?_ | refine awp_regD ?_ | refine awp_ret ?_ | refine awp_skip ?_ | refine awp_exit ?_ | refine normQ_of ?_ | refine wkE_of ?_)
|with_reducible refine midQ_of (Wk_sub rfl rfl ?_ ?_)
|(with_reducible first | refine runD_nil ?_ | refine runD_cons ?_ | refine runF_cons ?_ | refine runF_nil ?_ | refine KF_of ?_ | refine chkQ_of rfl ?_)
|with_reducible refine awp_cond (by simp only [evX, lget, Option.getD_some, reduceIte, Nat.reduceEqDiff]; rfl) (fun hc => ?_) (fun hc => ?_)
|with_reducible refine CallUN_of (f := 60) (has_nil (m.edges.getD v.toNat []) (hm.row _ hme) (hm.edge _ hme) (b.getD e.src.toNat 0) e (hn.edge _ hne e (List.mem_of_getElem? hq.2.2.1))) (by first | exact Or.inr (Or.inl rfl) | exact Or.inl rfl) ?_
|with_reducible refine CallCN_of (f := 60) (fun _ => has_nil (m.edges.getD v.toNat []) (hm.row _ hme) (hm.edge _ hme) (b.getD e.src.toNat 0) e (hn.edge _ hne e (List.mem_of_getElem? hq.2.2.1))) (by first | exact Or.inr (Or.inl rfl) | exact Or.inl rfl) ?_
|with_reducible refine CallU_of (f := 42) (may_fn n hn) (by first | exact Or.inr (Or.inl rfl) | exact Or.inl rfl) ?_
|with_reducible refine CallC_of (f := 42) (fun _ => may_fn n hn) (by first | exact Or.inr (Or.inl rfl) | exact Or.inl rfl) ?_
|with_reducible refine CallU_of (f := 42) (may_fn m hm) (by first | exact Or.inr (Or.inl rfl) | exact Or.inl rfl) ?_
|with_reducible refine CallC_of (f := 42) (fun _ => may_fn m hm) (by first | exact Or.inr (Or.inl rfl) | exact Or.inl rfl) ?_
|with_reducible refine CallC_of (f := 53) (fun _ => alone_fn n hn z.1) (by first | exact Or.inr (Or.inl rfl) | exact Or.inl rfl) ?_
|with_reducible refine CallU_of (f := 60) (has_fn (n.edges.getD (Int.toNat (z.1 : Int)) []) (hn.row _ hne) (hn.edge _ hne) b hsr e.src e (hm.edge _ hme e (List.mem_of_getElem? hq.2.2.1))) (by first | exact Or.inr (Or.inl rfl) | exact Or.inl rfl) ?_
|with_reducible refine CallC_of (f := 60) (fun _ => has_fn (n.edges.getD (Int.toNat (z.1 : Int)) []) (hn.row _ hne) (hn.edge _ hne) b hsr e.src e (hm.edge _ hme e (List.mem_of_getElem? hq.2.2.1))) (by first | exact Or.inr (Or.inl rfl) | exact Or.inl rfl) ?_
|(with_reducible assumption)
|with_reducible refine fun (hG : okL _) => ?_
|(with_reducible refine fun (hT : (_ : Bool) = _) => ?_)
|(with_reducible first | exact hG.2 | exact hG.2.2 | exact hG.2.2.2 | exact hG.2.2.2.2)
|with_reducible refine okL_mk ?_ ?_
|with_reducible refine And.intro ?_ ?_
|(with_reducible refine loopQ_next ((j.1 + 1, (), ())) ?_ ?_ (Wk_sub rfl rfl ?_ ?_))
|(with_reducible refine loopQ_next ((i.1 + 1, (), (), ())) ?_ ?_ (Wk_sub rfl rfl ?_ ?_))
|(with_reducible refine loopQ_next ((z.1 + 1, ())) ?_ ?_ (Wk_sub rfl rfl ?_ ?_))
|(with_reducible refine loopQ_next (y + 1) ?_ ?_ (Wk_sub rfl rfl ?_ ?_))
|(with_reducible refine loopQ_next ((x.1 + 1, x.2.set v.toNat (x.2.getD v.toNat 0 + 1))) ?_ ?_ (Wk_sub rfl rfl ?_ ?_))
|(with_reducible refine awp_loopU (b := f36p7) (fun x : Nat × List Int => x.1 ≤ b.length ∧ x.2.length = m.origin.length ∧ (∀ c ∈ x.2, 0 ≤ c ∧ c ≤ x.1) ∧ (∀ v ∈ b.take x.1, 0 ≤ v ∧ v < m.origin.length) ∧ cntGo m.origin.length (b.drop x.1) x.2 = cntGo m.origin.length b (List.replicate m.origin.length 0)) (fun x => b.length - x.1) (fun x => [(41, .d (.v (.int .i64 x.1)))]) (fun x => [(38, .row 3 1 0 (x.2.map iD))]) ((0, List.replicate m.origin.length 0)) (⟨Nat.zero_le _, List.length_replicate, (fun c q => (by rw [List.eq_of_mem_replicate q]; simp)), (fun v q => (by simp at q)), rfl⟩) (Wk.refl _ _) (Wk_sub rfl rfl ?_ ?_) (fun x hx => ?_))
|(refine Exists.elim (at_drop iD b x.1 (Int.ofNat_lt.1 (of_decide_eq_true (show decide ((x.1 : Int) < b.length) = true from hc)))) (fun v he => ?_); have g1 := he.2.1; replace hc : True := trivial)
|(have hv := rng_f (v := v) (N := (x.2.length : Int)) hc; have g2 := at_int iD x.2 0 hv.1 hv.2; have hbd := getD_bd hx.2.2.1 hv.1 hv.2; have g3 := wrapI64 (x.2.getD v.toNat 0 + 1) (by omega) (by omega); replace hc : True := trivial)
|(have _q : decide ((x.1 : Int) < b.length) = false := hc; have hcnt : cntGo m.origin.length b (List.replicate m.origin.length 0) = some x.2 := (by have h0 := of_decide_eq_false _q; have h1 := hx.2.2.2.2; rw [List.drop_eq_nil_of_le (by omega), cntGo] at h1; exact h1.symm); have hbr : ∀ v ∈ b, 0 ≤ v ∧ v < m.origin.length := (by have h0 := of_decide_eq_false _q; have h1 := hx.2.2.2.1; rw [List.take_of_length_le (by omega)] at h1; exact h1); replace hc : True := trivial)
|(with_reducible refine awp_loopU (b := f36p14) (fun y : Nat => y ≤ x.2.length ∧ ((x.2.drop y).any (· == 0)) = x.2.any (· == 0)) (fun y => x.2.length - y) (fun y => [(62, .d (.v (.int .i64 y)))]) (fun y => []) (0) (⟨Nat.zero_le _, rfl⟩) (Wk.refl _ _) (Wk_sub rfl rfl ?_ ?_) (fun y hy => ?_))
|(refine Exists.elim (at_drop iD x.2 y (Int.ofNat_lt.1 (of_decide_eq_true (show decide ((y : Int) < x.2.length) = true from hc)))) (fun c he => ?_); have g1 := he.2.1; replace hc : True := trivial)
|(have _q : decide ((y : Int) < x.2.length) = false := hc; have h6 : x.2.any (· == 0) = false := (by have h4 := of_decide_eq_false _q; have h5 := hy.2; rw [List.drop_eq_nil_of_le (by omega), List.any_nil] at h5; exact h5.symm); replace hc : True := trivial)
|(with_reducible refine awp_loopU (b := f36p40) (fun z : Nat × Unit => z.1 ≤ b.length ∧ nodesGo n m b x.2 (b.drop z.1) z.1 = nodesGo n m b x.2 b 0) (fun z => b.length - z.1) (fun z => [(71, .d (.v (.int .i64 z.1)))]) (fun z => []) ((0, ())) (⟨Nat.zero_le _, rfl⟩) (Wk.refl _ _) (Wk_sub rfl rfl ?_ ?_) (fun z hz => ?_))
|(refine Exists.elim (at_drop iD b z.1 (Int.ofNat_lt.1 (of_decide_eq_true (show decide ((z.1 : Int) < b.length) = true from hc)))) (fun v he => ?_); have g1 := he.2.1; have hv := hbr v (List.mem_of_getElem? he.2.2.1); have hk : (0 : Int) ≤ (z.1 : Int) ∧ (z.1 : Int) < n.origin.length := ⟨by omega, by have := hA.2.2; have := he.2.2.2; omega⟩; have n1 := nm.static; have n2 := nm.edges; have m1 := mm.static; have m2 := mm.edges; have g2 := at_int iD x.2 0 hv.1 (by have := hx.2.1; omega); have g3 := at_int iD n.static 0 hk.1 (by omega); have g4 := at_int bD n.origin false hk.1 (by omega); have g5 := at_int esD n.edges [] hk.1 (by omega); have g6 := at_int iD m.static 0 hv.1 (by omega); have g7 := at_int bD m.origin false hv.1 (by omega); have g8 := at_int esD m.edges [] hv.1 (by omega); have hst := nm.st_lt (getD_mem n.static 0 hk.1 (by omega)); have hne := mem_edges (n := n) (k := (z.1 : Int)) ⟨hk.1, by omega⟩; have hme := mem_edges (n := m) (k := v) ⟨hv.1, by omega⟩; have hbv := getD_of he.2.2.1; have hsr : ∀ f ∈ n.edges.getD (Int.toNat (z.1 : Int)) [], 0 ≤ f.src ∧ f.src < b.length := (fun f hf => by have := nm.src _ _ (getD_mem n.edges [] hk.1 (by omega)) f hf; have := hA.2.2; omega); replace hc : True := trivial)
|(have hv0 : 0 ≤ n.static.getD (Int.toNat (z.1 : Int)) 0 := of_decide_eq_true (show decide (0 ≤ n.static.getD (Int.toNat (z.1 : Int)) 0) = true from hc); have g9 := at_int iD b 0 hv0 (by have := hA.2.2; omega); replace hc : True := trivial)
|(with_reducible refine awp_loopU (b := f36p24) (fun i : Nat × Unit × Unit × Unit => i.1 ≤ (n.edges.getD (Int.toNat (z.1 : Int)) []).length ∧ ((n.edges.getD (Int.toNat (z.1 : Int)) []).drop i.1).all (fun e => b.getD e.src.toNat 0 == v || overV m v (b.getD e.src.toNat 0) e) = al1 n m b z.1 v) (fun i => (n.edges.getD (Int.toNat (z.1 : Int)) []).length - i.1) (fun i => [(128, .d (.v (.int .i64 i.1)))]) (fun i => []) ((0, (), (), ())) (⟨Nat.zero_le _, rfl⟩) (Wk.refl _ _) (Wk_sub rfl rfl ?_ ?_) (fun i hi => ?_))
|(refine Exists.elim (at_drop Arc.row (n.edges.getD (Int.toNat (z.1 : Int)) []) i.1 (Int.ofNat_lt.1 (of_decide_eq_true (show decide ((i.1 : Int) < (n.edges.getD (Int.toNat (z.1 : Int)) []).length) = true from hc)))) (fun e hq => ?_); have g10 := hq.2.1; have hs := hsr e (List.mem_of_getElem? hq.2.2.1); have g11 := at_int iD b 0 hs.1 hs.2; replace hc : True := trivial)
|(have _q : decide ((i.1 : Int) < (n.edges.getD (Int.toNat (z.1 : Int)) []).length) = false := hc; have ha1 : al1 n m b z.1 v = true := (by have h4 := of_decide_eq_false _q; have h5 := hi.2; rw [List.drop_eq_nil_of_le (by omega), List.all_nil] at h5; exact h5.symm); replace hc : True := trivial)
|(with_reducible refine awp_loopU (b := f36p31) (fun j : Nat × Unit × Unit => j.1 ≤ (m.edges.getD v.toNat []).length ∧ ((m.edges.getD v.toNat []).drop j.1).all (fun e => fromV n b z.1 e.src e) = al2 n m b z.1 v) (fun j => (m.edges.getD v.toNat []).length - j.1) (fun j => [(161, .d (.v (.int .i64 j.1)))]) (fun j => []) ((0, (), ())) (⟨Nat.zero_le _, rfl⟩) (Wk.refl _ _) (Wk_sub rfl rfl ?_ ?_) (fun j hj => ?_))
|(refine Exists.elim (at_drop Arc.row (m.edges.getD v.toNat []) j.1 (Int.ofNat_lt.1 (of_decide_eq_true (show decide ((j.1 : Int) < (m.edges.getD v.toNat []).length) = true from hc)))) (fun e hq => ?_); have g10 := hq.2.1; replace hc : True := trivial)
|(have _q : decide ((j.1 : Int) < (m.edges.getD v.toNat []).length) = false := hc; have ha2 : al2 n m b z.1 v = true := (by have h4 := of_decide_eq_false _q; have h5 := hj.2; rw [List.drop_eq_nil_of_le (by omega), List.all_nil] at h5; exact h5.symm); replace hc : True := trivial)
|(have _q : (if (if (!(n.origin.getD (Int.toNat (z.1 : Int)) false == m.origin.getD v.toNat false)) = true then true else !(aVia n b z.1 == m.static.getD v.toNat 0)) = true then true else if decide (1 < x.2.getD v.toNat 0) = true then aloneV n z.1 else false) = false := hc; have hT : ((!(n.origin.getD (Int.toNat (z.1 : Int)) false == m.origin.getD v.toNat false)) || ((!(aVia n b z.1 == m.static.getD v.toNat 0)) || (decide (1 < x.2.getD v.toNat 0) && aloneV n z.1))) = false := (by rw [← or3b]; exact _q); replace hc : True := trivial)
|simp only [f36r0, f36r1, f36r2, f36r3, f36r4, f36r5, f36r6, f36r7, f36r8, f36r9, f36r10, f36r11, f36r12, f36r13, f36r14, f36r15, f36r16, f36r17, f36r18, f36r19, f36r20, f36r21, f36r22, f36r23, f36r24, f36r25, f36r26, f36r27, f36r28, f36r29, f36r30, f36r31, f36r32, f36r33, f36r34, f36r35, f36r36, f36r37, f36r38, g11, g10, g1, g2, g3, g4, g5, g6, g7, g8, g9, f36k, te91, List.length_map, List.getD_cons_zero, List.length_replicate, runG_nil, runG_u, runG_g, runG_ucS, runG_gcS, stp, avL, avS, evs, evX, lget, lput, strip, putO, PO.dst, updO, okR, cells, splice, AV.cell, toD, toDs, binV, sameK, pickV, guardOf, okL_nil, sides, argsOf, rawOf, dv, dvL, owns, ownsL, flat, flatL, lkeep, seqQ, blockQ, initS, List.drop_succ_cons, List.drop_zero, List.take_succ_cons, List.take_zero, List.getD_cons_zero, List.getD_cons_succ, List.length_cons, List.length_nil, List.set_cons_zero, List.set_cons_succ, List.map_cons, List.map_nil, List.all_cons, List.all_nil, List.elem_cons, List.elem_nil, Option.getD_some, Option.getD_none, Option.bind_some, Option.isNone_none, reduceIte, reduceCtorEq, Nat.reduceEqDiff, Nat.reduceAdd, Nat.reduceLeDiff, Nat.zero_add, Nat.add_zero, Nat.reduceBEq, Bool.and_self, Bool.and_true, Bool.true_and, Bool.or_self, Bool.or_false, Bool.false_or, Bool.or_true, Bool.true_or, true_and, and_true, and_self, implies_true, forall_const, Bool.false_eq_true, id_eq, retQ, resOf, resV, Option.some.injEq, exists_eq_left', AV.d.injEq, D.v.injEq, Value.bool.injEq, imp_self, bldF, bldS, toVals, eqLs, Option.map_some, imp_false, not_true_eq_false, not_false_eq_true, foot, wrs, nm, nmL, PG.reads, PG.dst, PO.reads, X.sl, sls, slB, List.append_nil, List.cons_append, List.nil_append, Option.toList_some, Option.toList_none, loopQ_exit, loopQ_ret, subS, subO, Bool.bne_false, Bool.bne_true, elemsOf, bslD, bslS, lputs, List.headD_cons, sealS, sealO, sealV, sealL, midQ_ret, midQ_exit, sealsS, sealsO, Bool.true_bne, Bool.false_bne, bne_self_eq_false, Int.reduceToNat, oSl, resR, argsN, dvN]
  all_goals try first
    | omega
    | (with_reducible rfl)
    | (show Value.int _ 0 = _; rfl)
    | (simp only [List.length_append, List.length_cons, List.length_nil]; omega)
    | (simp only [List.length_append, List.length_cons, List.length_nil, List.map_append, List.map_cons, List.map_nil]; done)
    | exact count64 hq.2.2.2 (hn.row _ hne)
    | exact count64 hq.2.2.2 (hm.row _ hme)
    | exact count64 he.2.2.2 hb
    | exact count64 he.2.2.2 (by omega)
    | (simp; omega)
    | (rw [is_bad (is_testT hc)]; done)
    | exact set_bd hx.2.2.1 (by omega)
    | exact take_bd hx.2.2.2.1 he.2.2.1 (by have := hx.2.1; omega)
    | (simp [hx.2.1]; done)
    | (rw [code_none hA (by rw [← hx.2.2.2.2, he.1, cnt_out (by have := rng_t hc; have := hx.2.1; omega)])]; done)
    | (simp [List.map_replicate]; done)
    | (have h1 := hx.2.2.2.2; rw [he.1, cnt_in (by have := hx.2.1; omega)] at h1; exact h1)
    | (have h1 := hy.2; rw [he.1, List.any_cons, hc, Bool.true_or] at h1; rw [code_zero hA hcnt h1.symm]; done)
    | (have h1 := hy.2; rw [he.1, List.any_cons, hc, Bool.false_or] at h1; exact h1)
    | (rw [aVia, if_pos hv0]; done)
    | (rw [aVia, if_neg (of_decide_eq_false hc)]; done)
    | (rw [code_bad hA hcnt h6 hz.2 he.1 (nv_t hbv (by rw [← or3b]; exact hc))]; done)
    | (have h2 : (b.getD e.src.toNat 0 == v || overV m v (b.getD e.src.toNat 0) e) = false := (by unfold overV; revert hc; cases (b.getD e.src.toNat 0 == v) <;> simp)
       have h1 := hi.2; rw [hq.1, List.all_cons, h2, Bool.false_and] at h1; rw [code_bad hA hcnt h6 hz.2 he.1 (nv_1 hbv h1.symm)]; done)
    | (have h2 : (b.getD e.src.toNat 0 == v || overV m v (b.getD e.src.toNat 0) e) = true := (by unfold overV; revert hc; cases (b.getD e.src.toNat 0 == v) <;> simp)
       have h1 := hi.2; rw [hq.1, List.all_cons, h2, Bool.true_and] at h1; exact h1)
    | (have h2 : fromV n b z.1 e.src e = false := (by unfold fromV; simpa using hc)
       have h1 := hj.2; rw [hq.1, List.all_cons, h2, Bool.false_and] at h1; rw [code_bad hA hcnt h6 hz.2 he.1 (nv_2 hbv h1.symm)]; done)
    | (have h2 : fromV n b z.1 e.src e = true := (by unfold fromV; simpa using hc)
       have h1 := hj.2; rw [hq.1, List.all_cons, h2, Bool.true_and] at h1; exact h1)
    | exact node_next hz.2 he.1 (nv_3 hbv hT ha1 ha2)
    | (have h0 := of_decide_eq_false (show decide ((z.1 : Int) < b.length) = false from hc); rw [code_good hA hcnt h6 hz.2 (by omega)]; done)
  all_goals trace_state
end Go.Proofs.YtgkkaimcchlnaaaGreatDoor
