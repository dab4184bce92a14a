/- What maquettelaw18.small comes to. Printed by a program of this project (wip/mq). -/
import Derived.Test.YtgkkaimcchlnaaaDoorMay
import Derived.Test.YtgkkaimcchlnaaaDoorFirsts
import Derived.Test.YtgkkaimcchlnaaaDoorMqSealB
import Derived.Test.YtgkkaimcchlnaaaDoorMqPool
import Derived.Test.YtgkkaimcchlnaaaDoorMqPl
set_option linter.unusedVariables false
set_option linter.unusedSimpArgs false

namespace Go.Proofs.YtgkkaimcchlnaaaDoor
open Go Mq Go.ChangeShapes Go.WideShapes Go.ChangeAt Go.RowKit
/-! maquette/maquettelaw18.small -/
def f8r0 : List PG := [.u (.bx 2 (.t 0)), .u (.al 4 [.nl 1, .nl 1, .nl 1]), .u (.mv 5 (.k (.bool false)))]
def f8r1 : List PG := [.u (.al 6 [.nl 1, .nl 1, .nl 1])]
def f8r2 : List PG := [.u (.ld 17 3 true (.t 2)), .uc 18 14 [.t 17], .u (.no 19 (.t 18)), .u (.mv 20 (.t 19)), .g 20 false (.mv 21 (.t 1)), .g 20 false (.len 22 (.t 21)), .g 20 false (.fa 23 0 (.t 2)), .g 20 false (.ld 24 1 false (.t 23)), .g 20 false (.len 25 (.t 24)), .g 20 false (.beq 26 true false (.t 22) (.t 25)), .u (.pick 27 (.t 20) (.k (.bool true)) (.t 26))]
def f8r3 : List PG := [.u (.bld 28 [.nl 1, .nl 1, .nl 1] []), .u (.st 3 (.t 4) (.t 28)), .u (.mv 5 (.k (.bool false)))]
abbrev f8p0 : PC := .seq (.reg f8r3) (.ret)
abbrev f8p1 : PC := .cond (.t 27) (f8p0) (.skip)
def f8r4 : List PG := [.u (.mv 29 (.t 1)), .u (.len 30 (.t 29)), .u (.mv 31 (.k (.int .i64 0)))]
def f8r5 : List PG := [.u (.bo 32 .lss (.t 31) (.t 30))]
def f8r6 : List PG := [.u (.mv 33 (.t 31)), .u (.ia 34 1 (.t 29) (.t 31)), .u (.ld 35 1 false (.t 34)), .u (.mv 7 (.t 33)), .u (.mv 8 (.t 35))]
def f8r7 : List PG := [.u (.mv 36 (.t 8)), .u (.bo 37 .lss (.t 36) (.k (.int .i64 0))), .u (.mv 38 (.t 37)), .g 38 false (.mv 39 (.t 8)), .g 38 false (.fa 40 0 (.t 6)), .g 38 false (.ld 41 1 false (.t 40)), .g 38 false (.len 42 (.t 41)), .g 38 false (.bo 43 .gtr (.t 39) (.t 42)), .u (.pick 44 (.t 38) (.k (.bool true)) (.t 43))]
def f8r8 : List PG := [.u (.bld 45 [.nl 1, .nl 1, .nl 1] []), .u (.st 3 (.t 4) (.t 45)), .u (.mv 5 (.k (.bool false)))]
abbrev f8p2 : PC := .seq (.reg f8r8) (.ret)
abbrev f8p3 : PC := .cond (.t 44) (f8p2) (.skip)
def f8r9 : List PG := [.u (.mv 46 (.t 8)), .u (.fa 47 0 (.t 6)), .u (.ld 48 1 false (.t 47)), .u (.len 49 (.t 48)), .u (.bo 50 .lss (.t 46) (.t 49))]
abbrev f8p4 : PC := .cond (.t 50) (.exit 1) (.skip)
def f8r10 : List PG := [.u (.fa 51 0 (.t 6)), .u (.ld 52 1 false (.t 51)), .u (.fa 53 0 (.t 2)), .u (.ld 54 1 false (.t 53)), .u (.mv 55 (.t 7)), .u (.ia 56 1 (.t 54) (.t 55)), .u (.ld 57 1 false (.t 56)), .u (.bslF 58 4 1 [.t 57]), .u (.app 59 4 1 1 (.t 52) (.t 58)), .u (.fa 60 0 (.t 6)), .u (.st 1 (.t 60) (.t 59))]
def f8r11 : List PG := [.u (.fa 61 1 (.t 6)), .u (.ld 62 1 false (.t 61)), .u (.fa 63 1 (.t 2)), .u (.ld 64 1 false (.t 63)), .u (.mv 65 (.t 7)), .u (.ia 66 1 (.t 64) (.t 65)), .u (.ld 67 1 false (.t 66)), .u (.mx 68 false (.k (.int .i64 (-1))) (.t 67)), .u (.bslF 69 3 1 [.t 68]), .u (.app 70 3 1 8 (.t 62) (.t 69)), .u (.fa 71 1 (.t 6)), .u (.st 1 (.t 71) (.t 70))]
def f8r12 : List PG := [.u (.fa 72 2 (.t 6)), .u (.ld 73 1 false (.t 72)), .u (.bsl 74 56 1 [.k (.slice none 0 0)]), .u (.app 75 56 1 24 (.t 73) (.t 74)), .u (.fa 76 2 (.t 6)), .u (.st 1 (.t 76) (.t 75))]
def f8r13 : List PG := [.u (.fa 77 2 (.t 2)), .u (.ld 78 1 false (.t 77)), .u (.mv 79 (.t 7)), .u (.ia 80 1 (.t 78) (.t 79)), .u (.ld 81 1 false (.t 80)), .u (.len 82 (.t 81)), .u (.mv 83 (.k (.int .i64 0)))]
def f8r14 : List PG := [.u (.bo 84 .lss (.t 83) (.t 82))]
def f8r15 : List PG := [.u (.mv 85 (.t 83)), .u (.ia 86 4 (.t 81) (.t 83)), .u (.ld 87 4 true (.t 86)), .u (.al 10 [.d (.v (.int .i64 0)), .d (.v (.int .i64 0)), .nl 10, .nl 10]), .u (.mv 9 (.t 85)), .u (.st 4 (.t 10) (.t 87))]
def f8r16 : List PG := [.u (.mv 88 (.t 1)), .u (.fa 89 0 (.t 10)), .u (.ld 90 1 false (.t 89)), .u (.ia 91 1 (.t 88) (.t 90)), .u (.ld 92 1 false (.t 91)), .u (.mv 93 (.t 8)), .u (.beq 94 true false (.t 92) (.t 93)), .u (.mv 11 (.t 94))]
def f8r17 : List PG := [.u (.fa 95 2 (.t 2)), .u (.ld 96 1 false (.t 95)), .u (.mv 97 (.t 7)), .u (.ia 98 1 (.t 96) (.t 97)), .u (.ld 99 1 false (.t 98)), .u (.mv 100 (.t 9)), .u (.slc 101 4 (.t 99) none (some (.t 100))), .u (.len 102 (.t 101)), .u (.mv 103 (.k (.int .i64 0)))]
def f8r18 : List PG := [.u (.bo 104 .lss (.t 103) (.t 102))]
def f8r19 : List PG := [.u (.ia 105 4 (.t 101) (.t 103)), .u (.ld 106 4 true (.t 105)), .u (.al 13 [.d (.v (.int .i64 0)), .d (.v (.int .i64 0)), .nl 10, .nl 10]), .u (.st 4 (.t 13) (.t 106))]
def f8r20 : List PG := [.u (.mv 107 (.t 11)), .u (.mv 108 (.t 107)), .g 108 true (.mv 109 (.t 1)), .g 108 true (.fa 110 0 (.t 13)), .g 108 true (.ld 111 1 false (.t 110)), .g 108 true (.ia 112 1 (.t 109) (.t 111)), .g 108 true (.ld 113 1 false (.t 112)), .g 108 true (.mv 114 (.t 1)), .g 108 true (.fa 115 0 (.t 10)), .g 108 true (.ld 116 1 false (.t 115)), .g 108 true (.ia 117 1 (.t 114) (.t 116)), .g 108 true (.ld 118 1 false (.t 117)), .g 108 true (.beq 119 true false (.t 113) (.t 118)), .u (.pick 120 (.t 108) (.t 119) (.k (.bool false))), .u (.mv 11 (.t 120))]
def f8r21 : List PG := [.u (.bo 121 .add (.t 103) (.k (.int .i64 1))), .u (.mv 103 (.t 121))]
abbrev f8p5 : PC := .seq (.block 5 (.seq (.reg f8r19) (.regD f8r20 []))) (.reg f8r21)
abbrev f8p6 : PC := .seq (.cond (.t 104) (.skip) (.exit 4)) (f8p5)
abbrev f8p7 : PC := .seq (.reg f8r18) (f8p6)
abbrev f8p8 : PC := .block 4 (.loop (f8p7))
def f8r22 : List PG := [.u (.mv 122 (.t 11))]
def f8r23 : List PG := [.u (.fa 123 2 (.t 6)), .u (.ld 124 1 false (.t 123)), .u (.mv 125 (.t 8)), .u (.fa 126 2 (.t 6)), .u (.ld 127 1 false (.t 126)), .u (.mv 128 (.t 8)), .u (.ia 129 1 (.t 127) (.t 128)), .u (.ld 130 1 false (.t 129)), .u (.ld 131 4 true (.t 10)), .u (.bslF 132 55 4 [.t 131]), .u (.app 133 55 4 64 (.t 130) (.t 132)), .u (.ia 134 1 (.t 124) (.t 125)), .u (.st 1 (.t 134) (.t 133))]
abbrev f8p9 : PC := .cond (.t 122) (.regD f8r23 [(0, 10), (1, 10), (2, 10)]) (.skip)
abbrev f8p10 : PC := .seq (.reg f8r22) (f8p9)
abbrev f8p11 : PC := .seq (.seq (.reg f8r17) (f8p8)) (f8p10)
abbrev f8p12 : PC := .seq (.reg f8r16) (f8p11)
def f8r24 : List PG := [.u (.bo 135 .add (.t 83) (.k (.int .i64 1))), .u (.mv 83 (.t 135))]
abbrev f8p13 : PC := .seq (.block 3 (.seq (.reg f8r15) (f8p12))) (.reg f8r24)
abbrev f8p14 : PC := .seq (.cond (.t 84) (.skip) (.exit 2)) (f8p13)
abbrev f8p15 : PC := .seq (.reg f8r14) (f8p14)
abbrev f8p16 : PC := .block 2 (.loop (f8p15))
abbrev f8p17 : PC := .seq (.reg f8r13) (f8p16)
abbrev f8p18 : PC := .seq (.reg f8r12) (f8p17)
abbrev f8p19 : PC := .seq (.regD f8r11 []) (f8p18)
abbrev f8p20 : PC := .seq (.regD f8r10 []) (f8p19)
abbrev f8p21 : PC := .seq (.seq (.reg f8r9) (f8p4)) (f8p20)
abbrev f8p22 : PC := .seq (.seq (.reg f8r7) (f8p3)) (f8p21)
def f8r25 : List PG := [.u (.bo 136 .add (.t 31) (.k (.int .i64 1))), .u (.mv 31 (.t 136))]
abbrev f8p23 : PC := .seq (.block 1 (.seq (.reg f8r6) (f8p22))) (.reg f8r25)
abbrev f8p24 : PC := .seq (.cond (.t 32) (.skip) (.exit 0)) (f8p23)
abbrev f8p25 : PC := .seq (.reg f8r5) (f8p24)
abbrev f8p26 : PC := .block 0 (.loop (f8p25))
def f8r26 : List PG := [.u (.fa 137 1 (.t 6)), .u (.ld 138 1 false (.t 137)), .u (.len 139 (.t 138)), .u (.mv 140 (.k (.int .i64 0)))]
def f8r27 : List PG := [.u (.bo 141 .lss (.t 140) (.t 139))]
def f8r28 : List PG := [.u (.mv 142 (.t 140)), .u (.ia 143 1 (.t 138) (.t 140)), .u (.ld 144 1 false (.t 143)), .u (.mv 14 (.t 142)), .u (.mv 15 (.t 144))]
def f8r29 : List PG := [.u (.mv 145 (.t 15)), .u (.bo 146 .geq (.t 145) (.k (.int .i64 0)))]
def f8r30 : List PG := [.u (.fa 147 1 (.t 6)), .u (.ld 148 1 false (.t 147)), .u (.mv 149 (.t 14)), .u (.mv 150 (.t 1)), .u (.mv 151 (.t 15)), .u (.ia 152 1 (.t 150) (.t 151)), .u (.ld 153 1 false (.t 152)), .u (.ia 154 1 (.t 148) (.t 149)), .u (.st 1 (.t 154) (.t 153))]
abbrev f8p27 : PC := .cond (.t 146) (.regD f8r30 []) (.skip)
def f8r31 : List PG := [.u (.mv 155 (.t 15)), .u (.bo 156 .geq (.t 155) (.k (.int .i64 0))), .u (.mv 157 (.t 156)), .g 157 true (.mv 158 (.t 1)), .g 157 true (.mv 159 (.t 15)), .g 157 true (.ia 160 1 (.t 158) (.t 159)), .g 157 true (.ld 161 1 false (.t 160)), .g 157 true (.mv 162 (.t 14)), .g 157 true (.beq 163 false false (.t 161) (.t 162)), .u (.pick 164 (.t 157) (.t 163) (.k (.bool false)))]
def f8r32 : List PG := [.u (.bld 165 [.nl 1, .nl 1, .nl 1] []), .u (.st 3 (.t 4) (.t 165)), .u (.mv 5 (.k (.bool false)))]
abbrev f8p28 : PC := .seq (.reg f8r32) (.ret)
abbrev f8p29 : PC := .cond (.t 164) (f8p28) (.skip)
def f8r33 : List PG := [.u (.fa 166 2 (.t 6)), .u (.ld 167 1 false (.t 166)), .u (.mv 168 (.t 14)), .u (.ia 169 1 (.t 167) (.t 168)), .u (.ld 170 1 false (.t 169)), .u (.len 171 (.t 170)), .u (.mv 172 (.k (.int .i64 0)))]
def f8r34 : List PG := [.u (.bo 173 .lss (.t 172) (.t 171))]
def f8r35 : List PG := [.u (.mv 174 (.t 172)), .u (.mv 16 (.t 174))]
def f8r36 : List PG := [.u (.fa 175 2 (.t 6)), .u (.ld 176 1 false (.t 175)), .u (.mv 177 (.t 14)), .u (.ia 178 1 (.t 176) (.t 177)), .u (.ld 179 1 false (.t 178)), .u (.mv 180 (.t 16)), .u (.mv 181 (.t 1)), .u (.fa 182 2 (.t 6)), .u (.ld 183 1 false (.t 182)), .u (.mv 184 (.t 14)), .u (.ia 185 1 (.t 183) (.t 184)), .u (.ld 186 1 false (.t 185)), .u (.mv 187 (.t 16)), .u (.ia 188 4 (.t 186) (.t 187)), .u (.fa 189 0 (.t 188)), .u (.ld 190 1 false (.t 189)), .u (.ia 191 1 (.t 181) (.t 190)), .u (.ld 192 1 false (.t 191)), .u (.ia 193 4 (.t 179) (.t 180)), .u (.fa 194 0 (.t 193)), .u (.st 1 (.t 194) (.t 192))]
def f8r37 : List PG := [.u (.bo 195 .add (.t 172) (.k (.int .i64 1))), .u (.mv 172 (.t 195))]
abbrev f8p30 : PC := .seq (.block 9 (.seq (.reg f8r35) (.regD f8r36 []))) (.reg f8r37)
abbrev f8p31 : PC := .seq (.cond (.t 173) (.skip) (.exit 8)) (f8p30)
abbrev f8p32 : PC := .seq (.reg f8r34) (f8p31)
abbrev f8p33 : PC := .block 8 (.loop (f8p32))
abbrev f8p34 : PC := .seq (.reg f8r33) (f8p33)
abbrev f8p35 : PC := .seq (.seq (.reg f8r31) (f8p29)) (f8p34)
abbrev f8p36 : PC := .seq (.seq (.reg f8r29) (f8p27)) (f8p35)
def f8r38 : List PG := [.u (.bo 196 .add (.t 140) (.k (.int .i64 1))), .u (.mv 140 (.t 196))]
abbrev f8p37 : PC := .seq (.block 7 (.seq (.reg f8r28) (f8p36))) (.reg f8r38)
abbrev f8p38 : PC := .seq (.cond (.t 141) (.skip) (.exit 6)) (f8p37)
abbrev f8p39 : PC := .seq (.reg f8r27) (f8p38)
abbrev f8p40 : PC := .block 6 (.loop (f8p39))
def f8r39 : List PG := [.u (.ld 197 3 true (.t 6)), .u (.st 3 (.t 4) (.t 197)), .u (.mv 5 (.k (.bool true)))]
abbrev f8p41 : PC := .seq (.reg f8r39) (.ret)
abbrev f8p42 : PC := .seq (.seq (.reg f8r26) (f8p40)) (f8p41)
abbrev f8p43 : PC := .seq (.seq (.reg f8r4) (f8p26)) (f8p42)
abbrev f8p44 : PC := .seq (.seq (.reg f8r2) (f8p1)) (f8p43)
abbrev f8p45 : PC := .seq (.reg f8r1) (f8p44)
abbrev f8pc : PC := .seq (.reg f8r0) (f8p45)
def f8k : List Nat := [0, 1, 2, 4, 5, 6, 7, 8, 9, 10, 11, 13, 14, 15, 16, 27, 29, 30, 31, 32, 44, 50, 81, 82, 83, 84, 101, 102, 103, 104, 122, 138, 139, 140, 141, 146, 164, 171, 172, 173]
theorem f8c : Tryd.f8.body.bind (cC te Tryd.f8.ntmps) = some f8pc := by kernel_rfl
set_option maxRecDepth 20000
set_option maxHeartbeats 4000000
set_option linter.unusedSimpArgs false
set_option linter.unusedVariables false

def smR : Option Net → AV
  | none => .tp [Net.av ⟨[], [], []⟩, .d (.v (.bool false))]
  | some x => .tp [x.av, .d (.v (.bool true))]
theorem sm_none {o : Option Net} (h : o = none) : AV.tp [.ag [.d (.sl 1 []), .d (.sl 1 []), .d (.sl 1 [])], .d (.v (.bool false))] = smR o := by rw [h]; rfl
def selR (n : Net) (b fs : List Int) : List (List (List D)) := (selL n b fs 0).map fun es => es.map Arc.row
def midR (n : Net) (b fs : List Int) (i : Nat) : List (List (List D)) := (midE n b fs i).map fun es => es.map Arc.row
def midQ (b : List Int) (rs : List Arc) (i : Nat) : List Arc := (rs.take i).map (reB b) ++ rs.drop i
theorem selR_len (n : Net) (b fs : List Int) : (selR n b fs).length = fs.length := by simp [selR, selL_len]
theorem midR_len (n : Net) (b fs : List Int) (i : Nat) : (midR n b fs i).length = fs.length := by simp [midR, midE_len]
theorem midR_zero (n : Net) (b fs : List Int) : midR n b fs 0 = selR n b fs := by rw [midR, midE_zero, selR]
theorem sel_last (n : Net) (b fs : List Int) : (selR n b fs ++ [[]])[fs.length]? = some [] := by
  rw [List.getElem?_append_right (by rw [selR_len]; exact Nat.le_refl _), selR_len, Nat.sub_self]; rfl
theorem sel_put (n : Net) (b fs : List Int) (k : Nat) {es : List Arc} (h : n.edges[k]? = some es) : (selR n b fs ++ [[]]).set fs.length ((selE b fs.length es).map Arc.row) = selR n b (fs ++ [(k : Int)]) := by
  unfold selR
  rw [selL_snoc, List.map_append, List.set_append_right _ _ (by simp [selL_len])]
  have e : n.edges.getD (k : Int).toNat [] = es := by rw [Int.toNat_natCast]; exact gD_some h
  rw [e]
  simp [selL_len]
theorem midR_at {n : Net} {b fs : List Int} {i : Nat} {f : Int} (h : fs[i]? = some f) : (midR n b fs i)[i]? = some ((selE b i (n.edges.getD f.toNat [])).map Arc.row) := by
  rw [midR, List.getElem?_map, midE_at h]; rfl
theorem midQ_zero (b : List Int) (rs : List Arc) : midQ b rs 0 = rs := by simp [midQ]
theorem midQ_end (b : List Int) (rs : List Arc) {i : Nat} (h : rs.length ≤ i) : midQ b rs i = rs.map (reB b) := by
  rw [midQ, List.take_of_length_le h, List.drop_eq_nil_of_le h, List.append_nil]
theorem midQ_len (b : List Int) (rs : List Arc) (i : Nat) : (midQ b rs i).length = rs.length := by simp [midQ]; omega
theorem midQ_at {b : List Int} {rs : List Arc} {i : Nat} {e : Arc} (h : rs[i]? = some e) : (midQ b rs i)[i]? = some e := by
  have hi := (List.getElem?_eq_some_iff.1 h).1
  unfold midQ
  rw [List.getElem?_append_right (by simp; omega)]
  simp [Nat.min_eq_left (Nat.le_of_lt hi), h]
theorem midQ_set {b : List Int} {rs : List Arc} {i : Nat} {e : Arc} (h : rs[i]? = some e) : (midQ b rs i).set i (reB b e) = midQ b rs (i + 1) := by
  have hi := (List.getElem?_eq_some_iff.1 h).1
  unfold midQ
  rw [List.drop_eq_getElem_cons hi, set_mid _ _ (by simp; omega), List.take_add_one, h]
  simp
theorem midR_set {n : Net} {b fs : List Int} {i : Nat} {f : Int} (h : fs[i]? = some f) {q : Nat} (hq : (selE b i (n.edges.getD f.toNat [])).length ≤ q) :
    (midR n b fs i).set i ((midQ b (selE b i (n.edges.getD f.toNat [])) q).map Arc.row) = midR n b fs (i + 1) := by
  rw [midQ_end _ _ hq, midR, midR, ← midE_set h, List.map_set]
theorem polD_mid (n : Net) (b fs : List Int) (i : Nat) : polD 4 (midR n b fs i) = (midE n b fs i).map esD := by simp [polD, midR]
theorem q_row {e s g : Nat} {b : List Int} {rs : List Arc} {i : Nat} {a : Arc} (h : rs[i]? = some a) : AO.row e s g (((midQ b rs i).map Arc.row).set i [.v (.int .i64 (b.getD a.src.toNat 0)), .v (.int .i64 a.cost), .sl 10 (a.exp.map Clause.row), .sl 10 (a.imp.map Clause.row)]) = AO.row e s g ((midQ b rs (i + 1)).map Arc.row) := by
  rw [← midQ_set h, List.map_set]; rfl
theorem sm_bad {n : Net} {b : List Int} (h : (if (!n.may) = true then true else !((b.length : Int) == (n.origin.length : Int))) = true) : n.firsts b = none := by
  unfold Net.firsts
  by_cases q : n.may = true
  · rw [q] at h
    have : ¬ b.length = n.origin.length := fun c => by rw [c] at h; simp at h
    simp [q, this]
  · simp [q]
theorem sm_ok {n : Net} {b : List Int} (h : (if (!n.may) = true then true else !((b.length : Int) == (n.origin.length : Int))) = false) : n.may = true ∧ b.length = n.origin.length ∧ n.firsts b = firstsGo b 0 [] := by
  by_cases q : n.may = true
  · rw [q] at h
    have : b.length = n.origin.length := by simp at h; omega
    exact ⟨q, this, by unfold Net.firsts; simp [q, this]⟩
  · simp [q] at h
/-- Within the search of the first nodes. -/
def SmI (b : List Int) (x : Nat × List Int) : Prop := x.1 ≤ b.length ∧ x.2.length ≤ x.1 ∧ firstsGo (b.drop x.1) x.1 x.2 = firstsGo b 0 []
theorem SmI.zero (b : List Int) : SmI b (0, []) := ⟨Nat.zero_le _, Nat.le_refl _, rfl⟩
theorem SmI.bad {b : List Int} {x : Nat × List Int} (h : SmI b x) {v : Int} (hd : b.drop x.1 = v :: b.drop (x.1 + 1)) (hc : (if decide (v < 0) = true then true else decide ((x.2.length : Int) < v)) = true) : firstsGo b 0 [] = none := by
  rw [← h.2.2, hd, firstsGo, if_pos]
  rw [← hc]; cases decide (v < 0) <;> simp
theorem SmI.rng {n : Nat} {v : Int} (hc : (if decide (v < 0) = true then true else decide ((n : Int) < v)) = false) : 0 ≤ v ∧ v ≤ n := by
  by_cases q : v < 0
  · simp [q] at hc
  · simp [q] at hc; omega
theorem SmI.skip {b : List Int} {x : Nat × List Int} (h : SmI b x) {v : Int} (hd : b.drop x.1 = v :: b.drop (x.1 + 1)) (hl : x.1 < b.length) (h0 : 0 ≤ v) (h1 : v < x.2.length) : SmI b (x.1 + 1, x.2) := by
  refine ⟨hl, Nat.le_succ_of_le h.2.1, ?_⟩
  have h2 := h.2.2
  rw [hd, firstsGo, if_neg (by simp; omega), if_neg (by simp; omega)] at h2
  exact h2
theorem SmI.new {b : List Int} {x : Nat × List Int} (h : SmI b x) {v : Int} (hd : b.drop x.1 = v :: b.drop (x.1 + 1)) (hl : x.1 < b.length) (h1 : v = (x.2.length : Int)) : SmI b (x.1 + 1, x.2 ++ [(x.1 : Int)]) := by
  have h3 := h.2.1
  refine ⟨hl, by simp; exact h3, ?_⟩
  have h2 := h.2.2
  rw [hd, firstsGo, if_neg (by simp; omega), if_pos (by simpa using h1)] at h2
  exact h2
theorem SmI.done {b : List Int} {x : Nat × List Int} (h : SmI b x) (hl : ¬ x.1 < b.length) : firstsGo b 0 [] = some x.2 := by
  rw [← h.2.2, List.drop_eq_nil_of_le (by omega), firstsGo]
theorem fst_step {p : Arc → Bool} {es : List Arc} {j : Nat} {f : Arc} {y T : Bool} (h : (y && (es.drop j).all p) = T) (hd : es.drop j = f :: es.drop (j + 1)) : ((if y = true then p f else false) && (es.drop (j + 1)).all p) = T := by
  rw [hd, List.all_cons] at h
  rw [← h]
  cases y <;> simp
theorem fst_end {p : Arc → Bool} {es : List Arc} {j : Nat} {y T : Bool} (h : (y && (es.drop j).all p) = T) (hj : es.length ≤ j) : y = T := by
  rw [List.drop_eq_nil_of_le hj, List.all_nil, Bool.and_true] at h; exact h
theorem sel_yes {b : List Int} {v : Int} {es out T : List Arc} {i : Nat} {e : Arc} (h : selGo b v (es.drop i) (es.take i) out = T) (he : es[i]? = some e) (hd : es.drop i = e :: es.drop (i + 1)) (hf : isFst b v e (es.take i) = true) : selGo b v (es.drop (i + 1)) (es.take (i + 1)) (out ++ [e]) = T := by
  rw [hd, selGo, hf, if_pos rfl] at h
  rw [List.take_add_one, he]; exact h
theorem sel_no {b : List Int} {v : Int} {es out T : List Arc} {i : Nat} {e : Arc} (h : selGo b v (es.drop i) (es.take i) out = T) (he : es[i]? = some e) (hd : es.drop i = e :: es.drop (i + 1)) (hf : isFst b v e (es.take i) = false) : selGo b v (es.drop (i + 1)) (es.take (i + 1)) out = T := by
  rw [hd, selGo, hf, if_neg (by decide)] at h
  rw [List.take_add_one, he]; exact h
theorem sel_end {b : List Int} {v : Int} {es out T : List Arc} {i : Nat} (h : selGo b v (es.drop i) (es.take i) out = T) (hi : es.length ≤ i) : out = T := by
  rw [List.drop_eq_nil_of_le hi, selGo] at h; exact h
theorem selGo_sub (b : List Int) (v : Int) : ∀ (es pre out : List Arc), ∀ e ∈ selGo b v es pre out, e ∈ out ∨ e ∈ es
  | [], _, out, e, h => .inl h
  | a :: r, pre, out, e, h => by
    simp only [selGo] at h
    rcases selGo_sub b v r _ _ e h with q | q
    · split at q
      · rcases List.mem_append.1 q with q | q
        · exact .inl q
        · simp at q; exact .inr (by simp [q])
      · exact .inl q
    · exact .inr (by simp [q])
theorem selE_sub {b : List Int} {v : Int} {es : List Arc} {e : Arc} (h : e ∈ selE b v es) : e ∈ es := by
  rcases selGo_sub b v es [] [] e h with q | q
  · cases q
  · exact q
theorem selGo_len (b : List Int) (v : Int) : ∀ (es pre out : List Arc), (selGo b v es pre out).length ≤ out.length + es.length
  | [], _, out => by simp [selGo]
  | a :: r, pre, out => by
    simp only [selGo]
    cases isFst b v a pre with
    | true =>
      have := selGo_len b v r (pre ++ [a]) (out ++ [a])
      simp only [List.length_append, List.length_nil, List.length_cons, if_true] at *
      omega
    | false =>
      have := selGo_len b v r (pre ++ [a]) out
      simp only [Bool.false_eq_true, if_false, List.length_cons] at *
      omega
theorem selE_len (b : List Int) (v : Int) (es : List Arc) : (selE b v es).length ≤ es.length := by
  have := selGo_len b v es [] []
  simp only [List.length_nil, Nat.zero_add] at this
  exact this
theorem st_row {n : Net} {fs : List Int} {k g : Nat} {st : Int} (h : n.static[k]? = some st) : AO.row g 1 (fs.length + 1) (List.map iD (List.map (mxs n) fs) ++ [[.v (.int .i64 (if st > -1 then st else -1))]]) = AO.row g 1 (fs ++ [(k : Int)]).length (List.map iD (List.map (mxs n) (fs ++ [(k : Int)]))) := by
  have e : mxs n (k : Int) = if st > -1 then st else -1 := by unfold mxs mx; rw [Int.toNat_natCast, gD_some h]
  rw [List.length_append, List.map_append, List.map_append, List.map_cons, List.map_cons, List.map_nil, List.map_nil, e]; rfl
theorem or_row {n : Net} {fs : List Int} {k g : Nat} {o : Bool} (h : n.origin[k]? = some o) : AO.row g 1 (fs.length + 1) (List.map bD (List.map (fun f => n.origin.getD f.toNat false) fs) ++ [[.v (.bool o)]]) = AO.row g 1 (fs ++ [(k : Int)]).length (List.map bD (List.map (fun f => n.origin.getD f.toNat false) (fs ++ [(k : Int)]))) := by
  have e : n.origin.getD (k : Int).toNat false = o := by rw [Int.toNat_natCast]; exact gD_some h
  rw [List.length_append, List.map_append, List.map_append, List.map_cons, List.map_cons, List.map_nil, List.map_nil, e]; rfl
theorem rowD {l : List Arc} {i : Nat} {a : Arc} (h : l[i]? = some a) : List.getD (l.map Arc.row) i [] = Arc.row a := by simp [List.getD, h]
theorem via_ext {n : Net} {b fs : List Int} {z : Nat} {f : Int} (h : ∀ (i : Nat) f, i < z → fs[i]? = some f → n.via b f ≠ (i : Int)) (hf : fs[z]? = some f) (hv : n.via b f ≠ (z : Int)) : ∀ (i : Nat) f, i < z + 1 → fs[i]? = some f → n.via b f ≠ (i : Int) := by
  intro i g hi hg
  by_cases c : i = z
  · subst c; rw [hf] at hg; cases hg; exact hv
  · exact h i g (by omega) hg
theorem mid_put {n : Net} {b fs : List Int} {z e g : Nat} {f w : Int} (hf : fs[z]? = some f) (hv : n.via b f = w) : AO.row e 1 g ((List.map iD (midS n b fs z)).set z [.v (.int .i64 w)]) = AO.row e 1 g (List.map iD (midS n b fs (z + 1))) := by
  rw [show [D.v (.int .i64 w)] = iD w from rfl, ← List.map_set, ← hv, midS_set hf]
theorem sm_some {n : Net} {b fs : List Int} {z : Nat} (hF : n.firsts b = some fs) (h : ∀ (i : Nat) f, i < z → fs[i]? = some f → n.via b f ≠ (i : Int)) (hz : z = fs.length) : AV.tp [.ag [.d (.sl 1 (List.map bD (List.map (fun f => n.origin.getD f.toNat false) fs))), .d (.sl 1 (List.map iD (midS n b fs z))), .d (.sl 1 (List.map esD (midE n b fs z)))], .d (.v (.bool true))] = smR (n.quot b) := by
  subst hz
  rw [quot_mid hF (fun i f hi => h i f (List.getElem?_eq_some_iff.1 hi).1 hi)]
  rfl
theorem pol_new {t t2 s g g' : Nat} {a b : List (List (List D))} {o : Option (Nat × AV)} (h : a = b) (hg : g = g') : AO.pol t t2 s g a o = AO.pol t t2 s g' b o := by rw [h, hg]
theorem in_new {n : Net} {b fs : List Int} : (selR n b fs ++ [[]]).length = fs.length + 1 := by rw [List.length_append, selR_len]; rfl
theorem mxs_rng {n : Net} (m : n.May) {f : Int} (h0 : 0 ≤ f) (hf : f < n.origin.length) (hp : 0 ≤ mxs n f) : mxs n f < n.origin.length := by
  have hs : n.static[f.toNat]? = some (n.static.getD f.toNat 0) := some_getD 0 (by have := m.static; omega)
  have e : mxs n f = n.static.getD f.toNat 0 := by unfold mxs mx at *; split at hp <;> split <;> omega
  obtain ⟨es, hes, a, ha, hsr⟩ := m.via _ _ hs (by omega)
  have := m.src _ es hes a ha
  omega
theorem pol_eq {t t2 s g : Nat} {a b : List (List (List D))} {o : Option (Nat × AV)} (h : a = b) : AO.pol t t2 s g a o = AO.pol t t2 s g b o := by rw [h]
theorem row_eq {e s g : Nat} {a b : List (List D)} (h : a = b) : AO.row e s g a = AO.row e s g b := by rw [h]
theorem via_no {n : Net} {b : List Int} {f : Int} {z : Nat} (h : ¬ 0 ≤ mxs n f) : n.via b f ≠ z := by rw [via_mxs, if_neg h]; omega

theorem small_fn (n : Net) (hn : n.ok) (b : List Int) (hb : b.length ≤ maxLen) : FnS Tryd.prog 8 [n.av, .d (.sl 1 (b.map iD))] (smR (n.quot b)) := by
  have hm : maxLen = 9223372036854775807 := rfl
  refine fn_of teok Tryd.func8 (by kernel_rfl) f8c f8k [.cell 4 32, .tmp 5] rfl (by show 2 ≤ 198; omega) ?_
  first | (have _q := @g1; clear _q) | have g1 : Nat.pred 77 = 76 := rfl
  first | (have _q := @g2; clear _q) | have g2 : Nat.pred 77 = 76 := rfl
  first | (have _q := @g3; clear _q) | have g3 : Nat.pred 77 = 76 := rfl
  first | (have _q := @g4; clear _q) | have g4 : Nat.pred 77 = 76 := rfl
  first | (have _q := @g5; clear _q) | have g5 : Nat.pred 77 = 76 := rfl
  first | (have _q := @g6; clear _q) | have g6 : Nat.pred 77 = 76 := rfl
  first | (have _q := @g7; clear _q) | have g7 : Nat.pred 77 = 76 := rfl
  first | (have _q := @g8; clear _q) | have g8 : Nat.pred 77 = 76 := rfl
  first | (have _q := @g9; clear _q) | have g9 : Nat.pred 77 = 76 := rfl
  first | (have _q := @g10; clear _q) | have g10 : Nat.pred 77 = 76 := rfl
  first | (have _q := @g11; clear _q) | have g11 : Nat.pred 77 = 76 := rfl
  repeat' first
  | (exact absurd hc (by decide))
  | (with_reducible refine awp_cut (l := f8r33) [(0, [1003])] ?_; unfold f8r33)
  | (with_reducible refine wkE_take (ns := [1003]) 202 z.1 203 (by decide) (by decide) rfl (midR_at hf) rfl ?_)
  | (with_reducible refine awp_exit_wk (i := 2) (Wk_put 202 x.2.length 203 (by decide) (by decide) (by decide) rfl rfl rfl rfl (by simp [selR_len])) ?_)
  | (with_reducible refine awp_exit_wk (i := 8) (Wk_put 202 z.1 203 (by decide) (by decide) (by decide) rfl rfl rfl rfl (by rw [midR_len]; exact hzl)) ?_)
  | (with_reducible refine awp_exit_seal (i := 6) [200, 201, 202] ?_)
  | with_reducible refine awp_seq ?_
  | with_reducible refine awp_block ?_
  | with_reducible refine awp_scope ?_
  | with_reducible refine awp_reg ?_
  | with_reducible refine awp_regD ?_
  | with_reducible refine awp_ret ?_
  | with_reducible refine awp_skip ?_
  | with_reducible refine awp_exit ?_
  | with_reducible refine normQ_of ?_
  | with_reducible refine wkE_of ?_
  | with_reducible refine midQ_of (Wk_sub rfl rfl ?_ ?_)
  | with_reducible refine runD_nil ?_
  | with_reducible refine runD_cons ?_
  | with_reducible refine runF_cons ?_
  | with_reducible refine runF_nil ?_
  | with_reducible refine KF_of ?_
  | with_reducible refine chkQ_of rfl ?_
  | with_reducible refine awp_cond (by simp only [evX, lget, Option.getD_some, reduceIte, Nat.reduceEqDiff]; rfl) (fun hc => ?_) (fun hc => ?_)
  | with_reducible refine CallU_of (f := 14) (may_fn n hn) (by first | exact Or.inr (Or.inl rfl) | exact Or.inl rfl) ?_
  | with_reducible refine CallC_of (f := 14) (fun _ => may_fn n hn) (by first | exact Or.inr (Or.inl rfl) | exact Or.inl rfl) ?_
  | (with_reducible assumption)
  | with_reducible refine fun (hG : okL _) => ?_
  | (with_reducible refine fun (hT : (_ : Bool) = _) => ?_)
  | (with_reducible first | exact hG.2 | exact hG.2.2 | exact hG.2.2.2 | exact hG.2.2.2.2)
  | with_reducible refine okL_mk ?_ ?_
  | with_reducible refine And.intro ?_ ?_
  | (have hbad : n.firsts b = none := sm_bad (show (if (!n.may) = true then true else !((b.length : Int) == (n.origin.length : Int))) = true from hc); replace hc : True := trivial)
  | (have hok := sm_ok (show (if (!n.may) = true then true else !((b.length : Int) == (n.origin.length : Int))) = false from hc); have m := Net.may_spec hok.1; have m1 := m.static; have m2 := m.edges; have m3 := m.most; have m4 := hok.2.1; replace hc : True := trivial)
  | (with_reducible refine loopQ_next ((q.1 + 1, (), (), (), ())) ?_ ?_ (Wk_sub rfl rfl ?_ ?_))
  | (with_reducible refine loopQ_next ((u.1 + 1, (if u.2.1 = true then !(b.getD f.src.toNat 0 == b.getD e.src.toNat 0) else false), (), ())) ?_ ?_ (Wk_sub rfl rfl ?_ ?_))
  | (have _q : u.2.1 = true := hfst; with_reducible refine loopQ_next (y.1 + 1, y.2.1 ++ [e], ()) ?_ ?_ (Wk_sub rfl rfl ?_ ?_))
  | (have _q : u.2.1 = false := hfst; with_reducible refine loopQ_next (y.1 + 1, y.2.1, ()) ?_ ?_ (Wk_sub rfl rfl ?_ ?_))
  | (have _q : n.via b f ≠ (z.1 : Int) := hvne; with_reducible refine loopQ_next (z.1 + 1, (), (), ()) ?_ ?_ (Wk_sub rfl rfl ?_ ?_))
  | (have _q : v < (x.2.length : Int) := hvl; with_reducible refine loopQ_next (x.1 + 1, x.2) ?_ ?_ (Wk_sub rfl rfl ?_ ?_))
  | (have _q : v = (x.2.length : Int) := hvl; with_reducible refine loopQ_next (x.1 + 1, x.2 ++ [(x.1 : Int)]) ?_ ?_ (Wk_sub rfl rfl ?_ ?_))
  | (with_reducible refine awp_loopU (b := f8p25) (fun x : Nat × List Int => SmI b x) (fun x => b.length - x.1) (fun x => [(31, .d (.v (.int .i64 x.1)))]) (fun x => [(6, .box [.own 200 x.2.length, .own 201 x.2.length, .own 202 x.2.length]), (200, .row 4 1 x.2.length ((x.2.map fun f => n.origin.getD f.toNat false).map bD)), (201, .row 3 1 x.2.length ((x.2.map (mxs n)).map iD)), (202, .pol 56 55 4 x.2.length (selR n b x.2) none)]) ((0, [])) (SmI.zero b) (((Wk_nlB 6 0 200 4 (s := 1) rfl rfl rfl (by decide)).trans (Wk_nlB 6 1 201 3 (s := 1) rfl rfl rfl (by decide))).trans (Wk_nlP 6 2 202 56 55 4 rfl rfl rfl (by decide))) (Wk_sub rfl rfl ?_ ?_) (fun x hx => ?_))
  | (refine Exists.elim (at_drop iD b x.1 (Int.ofNat_lt.1 (of_decide_eq_true (show decide ((x.1 : Int) < b.length) = true from hc)))) (fun v hv => ?_); have hxl := hv.2.2.2; refine Exists.elim (at_drop esD n.edges x.1 (by omega)) (fun es hes => ?_); refine Exists.elim (at_drop bD n.origin x.1 (by omega)) (fun o ho => ?_); refine Exists.elim (at_drop iD n.static x.1 (by omega)) (fun st hst => ?_); have g1 := hv.2.1; have g2 := hes.2.1; have g3 := ho.2.1; have g4 := hst.2.1; simp only [Int.toNat_natCast] at g1 g2 g3 g4; have hsr := m.src x.1 es hes.2.2.1; have hel := m.row es (List.mem_of_getElem? hes.2.2.1); have hx2 := hx.2.1; replace hc : True := trivial)
  | (have hF : n.firsts b = some x.2 := (hok.2.2.trans (hx.done (by have := of_decide_eq_false (show decide ((x.1 : Int) < b.length) = false from hc); omega))); have hsp := Net.firsts_spec hF; have hx2 := hx.2.1; have hx1 := hx.1; replace hc : True := trivial)
  | (have hbad : n.firsts b = none := hok.2.2.trans (hx.bad hv.1 (show (if decide (v < 0) = true then true else decide ((x.2.length : Int) < v)) = true from hc)); replace hc : True := trivial)
  | (have hvr := SmI.rng (show (if decide (v < 0) = true then true else decide ((x.2.length : Int) < v)) = false from hc); replace hc : True := trivial)
  | (have hvl : v < (x.2.length : Int) := of_decide_eq_true (show decide (v < (x.2.length : Int)) = true from hc); replace hc : True := trivial)
  | (have hvl : v = (x.2.length : Int) := (by have := of_decide_eq_false (show decide (v < (x.2.length : Int)) = false from hc); omega); replace hc : True := trivial)
  | (with_reducible refine awp_loopU (b := f8p15) (fun y : Nat × List Arc × Unit => y.1 ≤ es.length ∧ y.2.1.length ≤ y.1 ∧ selGo b v (es.drop y.1) (es.take y.1) y.2.1 = selE b v es) (fun y => es.length - y.1) (fun y => [(83, .d (.v (.int .i64 y.1)))]) (fun y => [(202, .pol 56 55 4 (x.2.length + 1) (selR n b x.2 ++ [[]]) (some (x.2.length, .own 203 y.2.1.length))), (203, .row 55 4 y.2.1.length (y.2.1.map Arc.row))]) ((0, [], ())) (⟨Nat.zero_le _, Nat.le_refl _, rfl⟩) (Wk_take 202 x.2.length 203 (by decide) (by decide) rfl (sel_last n b x.2) rfl) (Wk_sub rfl rfl ?_ ?_) (fun y hy => ?_))
  | (refine Exists.elim (at_drop Arc.row es y.1 (Int.ofNat_lt.1 (of_decide_eq_true (show decide ((y.1 : Int) < es.length) = true from hc)))) (fun e he => ?_); have g5 := he.2.1; simp only [Int.toNat_natCast] at g5; have hs := hsr e (List.mem_of_getElem? he.2.2.1); have g6 := at_int iD b 0 hs.1 (by omega); have hyl := he.2.2.2; replace hc : True := trivial)
  | (have hyE : y.2.1 = selE b v es := sel_end hy.2.2 (by have := of_decide_eq_false (show decide ((y.1 : Int) < es.length) = false from hc); omega); replace hc : True := trivial)
  | (with_reducible refine awp_loopU (b := f8p7) (fun u : Nat × Bool × Unit × Unit => u.1 ≤ y.1 ∧ (u.2.1 && ((es.take y.1).drop u.1).all (fun f => !(b.getD f.src.toNat 0 == b.getD e.src.toNat 0))) = isFst b v e (es.take y.1)) (fun u => y.1 - u.1) (fun u => [(103, .d (.v (.int .i64 u.1))), (11, .d (.v (.bool u.2.1)))]) (fun u => []) ((0, !(b.getD e.src.toNat 0 == v), (), ())) (⟨Nat.zero_le _, rfl⟩) (Wk.refl _ _) (Wk_sub rfl rfl ?_ ?_) (fun u hu => ?_))
  | (have hul : u.1 < y.1 := (by have := of_decide_eq_true (show decide ((u.1 : Int) < ((min y.1 es.length : Nat) : Int)) = true from hc); omega); refine Exists.elim (at_drop Arc.row (es.take y.1) u.1 (by rw [List.length_take]; omega)) (fun f hf0 => ?_); have g7 := hf0.2.1; simp only [Int.toNat_natCast, List.map_take] at g7; have hs2 := hsr f (List.mem_of_mem_take (List.mem_of_getElem? hf0.2.2.1)); have g8 := at_int iD b 0 hs2.1 (by omega); replace hc : True := trivial)
  | (have hue : u.2.1 = isFst b v e (es.take y.1) := fst_end hu.2 (by have := of_decide_eq_false (show decide ((u.1 : Int) < ((min y.1 es.length : Nat) : Int)) = false from hc); rw [List.length_take]; omega); replace hc : True := trivial)
  | (have hfst : u.2.1 = true := hc; replace hc : True := trivial)
  | (have hfst : u.2.1 = false := hc; replace hc : True := trivial)
  | (with_reducible refine awp_loopU (b := f8p39) (fun z : Nat × Unit × Unit × Unit => z.1 ≤ x.2.length ∧ ∀ (i : Nat) f, i < z.1 → x.2[i]? = some f → n.via b f ≠ (i : Int)) (fun z => x.2.length - z.1) (fun z => [(140, .d (.v (.int .i64 z.1)))]) (fun z => [(201, .row 3 1 x.2.length ((midS n b x.2 z.1).map iD)), (202, .pol 56 55 4 x.2.length (midR n b x.2 z.1) none)]) ((0, (), (), ())) (⟨Nat.zero_le _, fun i f h => absurd h (Nat.not_lt_zero i)⟩) (Wk.refl _ _) (Wk_sub rfl rfl ?_ ?_) (fun z hz => ?_))
  | (have hzl : z.1 < x.2.length := Int.ofNat_lt.1 (of_decide_eq_true (show decide ((z.1 : Int) < (x.2.length : Int)) = true from hc)); refine Exists.elim (⟨_, List.getElem?_eq_getElem hzl⟩ : ∃ f, x.2[z.1]? = some f) (fun f hf => ?_); have hfr := hsp.2.2.2 f (List.mem_of_getElem? hf); have g1 : List.getD (List.map iD (midS n b x.2 z.1)) z.1 [] = iD (mxs n f) := (by simp [List.getD, midS_at hf]); have hrsl : (selE b z.1 (n.edges.getD f.toNat [])).length ≤ 64 := Nat.le_trans (selE_len _ _ _) (Nat.le_trans (m.row _ (List.mem_of_getElem? (some_getD [] (show f.toNat < n.edges.length by omega)))) m3); replace hc : True := trivial)
  | (have hzE : z.1 = x.2.length := (by have := of_decide_eq_false (show decide ((z.1 : Int) < (x.2.length : Int)) = false from hc); have := hz.1; omega); replace hc : True := trivial)
  | (have hmp : 0 ≤ mxs n f := of_decide_eq_true (show decide (0 ≤ mxs n f) = true from hc); have g2 : decide (0 ≤ mxs n f) = true := decide_eq_true hmp; have hml := mxs_rng m hfr.1 (by have := hfr.2; omega) hmp; have g3 := at_int iD b 0 hmp (by omega); have hve2 : n.via b f = b.getD (mxs n f).toNat 0 := (by rw [via_mxs, if_pos hmp]); replace hc : True := trivial)
  | (have hmp : ¬ 0 ≤ mxs n f := of_decide_eq_false (show decide (0 ≤ mxs n f) = false from hc); have g2 : decide (0 ≤ mxs n f) = false := decide_eq_false hmp; have g3 : List.getD (List.map iD b) (mxs n f).toNat [] = iD (b.getD (mxs n f).toNat 0) := (by have h0 : (mxs n f).toNat < b.length := (by have := hx.1; omega); simp [List.getD, h0]); have hvne : n.via b f ≠ (z.1 : Int) := via_no hmp; replace hc : True := trivial)
  | (have hvz : n.via b f = (z.1 : Int) := (by rw [hve2]; exact eq_of_beq (show (b.getD (mxs n f).toNat 0 == (z.1 : Int)) = true from hc)); replace hc : True := trivial)
  | (have hvne : n.via b f ≠ (z.1 : Int) := (by rw [hve2]; exact beq_eq_false_iff_ne.1 (show (b.getD (mxs n f).toNat 0 == (z.1 : Int)) = false from hc)); replace hc : True := trivial)
  | (with_reducible refine awp_loopU (b := f8p32) (fun q : Nat × Unit × Unit × Unit × Unit => q.1 ≤ (selE b z.1 (n.edges.getD f.toNat [])).length) (fun q => (selE b z.1 (n.edges.getD f.toNat [])).length - q.1) (fun q => [(172, .d (.v (.int .i64 q.1)))]) (fun q => [(203, .row 55 4 0 ((midQ b (selE b z.1 (n.edges.getD f.toNat [])) q.1).map Arc.row))]) ((0, (), (), (), ())) (Nat.zero_le _) (Wk.refl _ _) (Wk_sub rfl rfl ?_ ?_) (fun q hq => ?_))
  | (have hql : q.1 < (selE b z.1 (n.edges.getD f.toNat [])).length := Int.ofNat_lt.1 (of_decide_eq_true (show decide ((q.1 : Int) < ((selE b z.1 (n.edges.getD f.toNat [])).length : Int)) = true from hc)); refine Exists.elim (⟨_, List.getElem?_eq_getElem hql⟩ : ∃ a, (selE b z.1 (n.edges.getD f.toNat []))[q.1]? = some a) (fun a ha => ?_); have g4 : List.getD (List.map Arc.row (midQ b (selE b z.1 (n.edges.getD f.toNat [])) q.1)) q.1 [] = Arc.row a := rowD (midQ_at ha); have hae := selE_sub (List.mem_of_getElem? ha); have hsr := m.src f.toNat _ (some_getD [] (by omega)) a hae; have g5 := at_int iD b 0 hsr.1 (by omega); replace hc : True := trivial)
  | (have hqE : (selE b z.1 (n.edges.getD f.toNat [])).length ≤ q.1 := (by have := of_decide_eq_false (show decide ((q.1 : Int) < ((selE b z.1 (n.edges.getD f.toNat [])).length : Int)) = false from hc); omega); replace hc : True := trivial)
  | simp only [f8r0, f8r1, f8r2, f8r3, f8r4, f8r5, f8r6, f8r7, f8r8, f8r9, f8r10, f8r11, f8r12, f8r13, f8r14, f8r15, f8r16, f8r17, f8r18, f8r19, f8r20, f8r21, f8r22, f8r23, f8r24, f8r25, f8r26, f8r27, f8r28, f8r29, f8r30, f8r31, f8r32, f8r34, f8r35, f8r36, f8r37, f8r38, f8r39, g1, g2, g3, g4, g5, g6, g7, g8, g9, g10, g11, f8k, te32, te55, List.length_map, List.length_take, List.map_take, Int.toNat_natCast, List.getElem?_cons_zero, List.getElem?_cons_succ, Option.map_none, in_new, sealBS, sealBO, sealBV, sealBL, polD_mid, rovO, selR_len, midR_len, midQ_len, midS_len, runG_nil, runG_u, runG_g, runG_ucS, runG_gcS, runG_uvS, stp, avL, avS, evs, evX, lget, lput, strip, putO, PO.dst, updO, okR, cells, splice, AV.cell, toD, toDs, binV, sameK, pickV, guardOf, okL_nil, sides, argsOf, rawOf, dv, dvL, owns, ownsL, flat, flatL, lkeep, seqQ, blockQ, initS, List.drop_succ_cons, List.drop_zero, List.take_succ_cons, List.take_zero, List.getD_cons_zero, List.getD_cons_succ, List.length_cons, List.length_nil, List.set_cons_zero, List.set_cons_succ, List.map_cons, List.map_nil, List.all_cons, List.all_nil, List.elem_cons, List.elem_nil, Option.getD_some, Option.getD_none, Option.bind_some, Option.isNone_none, reduceIte, reduceCtorEq, Nat.reduceEqDiff, Nat.reduceAdd, Nat.reduceLeDiff, Nat.zero_add, Nat.add_zero, Nat.reduceBEq, Bool.and_self, Bool.and_true, Bool.true_and, Bool.or_self, Bool.or_false, Bool.false_or, Bool.or_true, Bool.true_or, true_and, and_true, and_self, implies_true, forall_const, Bool.false_eq_true, id_eq, retQ, resOf, resV, Option.some.injEq, exists_eq_left', AV.d.injEq, D.v.injEq, Value.bool.injEq, imp_self, bldF, bldS, toVals, eqLs, Option.map_some, imp_false, not_true_eq_false, not_false_eq_true, foot, wrs, nm, nmL, PG.reads, PG.dst, PO.reads, X.sl, sls, slB, List.append_nil, List.cons_append, List.nil_append, Option.toList_some, Option.toList_none, loopQ_exit, loopQ_ret, subS, subO, Bool.bne_false, Bool.bne_true, elemsOf, bslD, bslS, mentries, isAgV, asA, lputs, mgetD_set, mcmp_set, mput_set, List.headD_cons, sealS, sealO, sealV, sealL, mput_nil, mcmp_nil, midQ_ret, midQ_exit, sealsS, sealsO, runW_nil, runW_cons, Bool.true_bne, Bool.false_bne, bne_self_eq_false, Int.reduceToNat, bndV, oSl, resR, runS_nil, runS_gc, ren, renL, renO, sg, gBack, scopeQ_normal, scopeQ_ret, scopeQ_exit, lenB, argsN, dvN]
  all_goals try first
    | omega
    | (with_reducible rfl)
    | (show Value.int _ 0 = _; rfl)
    | (simp only [List.length_append, List.length_cons, List.length_nil]; omega)
    | (simp only [List.length_append, List.length_cons, List.length_nil, List.map_append, List.map_cons, List.map_nil]; done)
    | (show AO.pol _ _ _ _ _ _ = _; rfl)
    | exact or_row ho.2.2.1
    | exact st_row hst.2.2.1
    | exact pol_new (by rw [hyE, hvl]; exact sel_put n b x.2 x.1 hes.2.2.1) (by simp)
    | (rw [in_new]; omega)
    | exact sm_none (quot_noF hbad)
    | exact sm_none (quot_no hF hf hvz)
    | exact count64 hxl hb
    | exact count64 hyl (by omega)
    | exact count64 hul (by omega)
    | exact count64 hzl (by omega)
    | exact hx.skip hv.1 hxl hvr.1 hvl
    | exact hx.new hv.1 hxl hvl
    | exact row_eq (by rw [midS_zero])
    | exact pol_eq (by rw [midR_zero])
    | exact pol_eq (by rw [hyE, hvl]; exact sel_put n b x.2 x.1 hes.2.2.1)
    | exact pol_eq (midR_set hf hqE)
    | exact row_eq (by rw [midQ_zero])
    | exact q_row ha
    | exact count64 hql (by omega)
    | exact via_ext hz.2 hf hvne
    | exact mid_put hf hve2
    | exact fun q => q.elim
    | exact sm_some hF hz.2 hzE
    | (rw [midS_skip hf hmp]; done)
    | exact fst_step hu.2 hf0.1
    | exact sel_yes hy.2.2 he.2.2.1 he.1 (by rw [← hue]; exact hfst)
    | exact sel_no hy.2.2 he.2.2.1 he.1 (by rw [← hue]; exact hfst)
    | (exfalso; revert hG; simp [okL]; done)
  all_goals trace_state
end Go.Proofs.YtgkkaimcchlnaaaDoor

