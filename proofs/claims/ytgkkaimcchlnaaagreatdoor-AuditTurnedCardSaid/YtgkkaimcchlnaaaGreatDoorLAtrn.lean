/- The law AuditTurned: its walk. Printed by a program of this project (wip/mq). -/
import Derived.Test.YtgkkaimcchlnaaaGreatDoorNetF
import Derived.Test.YtgkkaimcchlnaaaGreatDoorArgsS
import Derived.Test.YtgkkaimcchlnaaaGreatDoorOf
import Derived.Test.YtgkkaimcchlnaaaGreatDoorAwk19
import Derived.Test.YtgkkaimcchlnaaaGreatDoorMqPl
import Derived.Test.YtgkkaimcchlnaaaGreatDoorFits
import Derived.Test.YtgkkaimcchlnaaaGreatDoorMake
set_option linter.unusedVariables false
set_option linter.unusedSimpArgs false

namespace Go.Proofs.YtgkkaimcchlnaaaGreatDoor
open Go Mq Go.ChangeShapes Go.WideShapes Go.ChangeAt Go.RowKit
/-! maquette/maquettelaw19.AuditTurned -/
def f6r0 : List PG := [.u (.bx 6 (.t 0)), .u (.bx 8 (.t 2)), .u (.bx 10 (.t 4)), .u (.mv 12 (.k (.bool false)))]
def f6r1 : List PG := [.uc 30 29 [], .u (.no 31 (.t 30))]
def f6r2 : List PG := [.u (.mv 12 (.k (.bool false)))]
abbrev f6p0 : PC := .seq (.reg f6r2) (.ret)
abbrev f6p1 : PC := .cond (.t 31) (f6p0) (.skip)
def f6r3 : List PG := [.u (.ld 33 6 true (.t 6)), .u (.mv 34 (.t 1)), .uc 35 30 [.t 33, .t 34], .u (.mv 32 (.t 35)), .u (.ext 36 (.t 32) 0), .u (.ext 37 (.t 32) 1), .u (.ext 38 (.t 32) 2), .u (.al 13 [.nl 1, .nl 1, .nl 1]), .u (.al 14 [.d (.v (.int .u32 0)), .d (.v (.int .i64 0))]), .u (.st 3 (.t 13) (.t 36)), .u (.st 2 (.t 14) (.t 37)), .u (.mv 15 (.t 38))]
def f6r4 : List PG := [.u (.ld 40 6 true (.t 8)), .u (.mv 41 (.t 1)), .uc 42 30 [.t 40, .t 41], .u (.mv 39 (.t 42)), .u (.ext 43 (.t 39) 0), .u (.ext 44 (.t 39) 1), .u (.ext 45 (.t 39) 2), .u (.al 16 [.nl 1, .nl 1, .nl 1]), .u (.al 17 [.d (.v (.int .u32 0)), .d (.v (.int .i64 0))]), .u (.st 3 (.t 16) (.t 43)), .u (.st 2 (.t 17) (.t 44)), .u (.mv 18 (.t 45))]
def f6r5 : List PG := [.u (.mv 46 (.t 15)), .u (.no 47 (.t 46)), .u (.mv 48 (.t 47)), .g 48 false (.mv 49 (.t 18)), .g 48 false (.no 50 (.t 49)), .u (.pick 51 (.t 48) (.k (.bool true)) (.t 50))]
def f6r6 : List PG := [.u (.mv 12 (.k (.bool true)))]
abbrev f6p2 : PC := .seq (.reg f6r6) (.ret)
abbrev f6p3 : PC := .cond (.t 51) (f6p2) (.skip)
def f6r7 : List PG := [.u (.ld 53 3 true (.t 13)), .uc 54 31 [.t 53], .u (.mv 52 (.t 54)), .u (.ext 55 (.t 52) 0), .u (.ext 56 (.t 52) 1), .u (.mv 19 (.t 55)), .u (.mv 20 (.t 56))]
def f6r8 : List PG := [.u (.ld 58 3 true (.t 13)), .u (.mv 59 (.t 19)), .uc 60 32 [.t 58, .t 59], .u (.mv 57 (.t 60)), .u (.ext 61 (.t 57) 0), .u (.ext 62 (.t 57) 1), .u (.al 21 [.nl 1, .nl 1, .nl 1]), .u (.st 3 (.t 21) (.t 61)), .u (.mv 22 (.t 62))]
def f6r9 : List PG := [.u (.mv 63 (.t 20)), .u (.beqn 64 true (.t 63)), .u (.mv 65 (.t 64)), .g 65 false (.mv 66 (.t 22)), .g 65 false (.beqn 67 true (.t 66)), .u (.pick 68 (.t 65) (.k (.bool true)) (.t 67))]
def f6r10 : List PG := [.u (.mv 12 (.k (.bool false)))]
abbrev f6p4 : PC := .seq (.reg f6r10) (.ret)
abbrev f6p5 : PC := .cond (.t 68) (f6p4) (.skip)
def f6r11 : List PG := [.u (.ld 69 3 true (.t 21)), .u (.al 23 [.nl 1, .nl 1, .nl 1]), .u (.st 3 (.t 23) (.t 69))]
def f6r12 : List PG := [.u (.fa 70 2 (.t 21)), .u (.ld 71 1 false (.t 70)), .u (.app 72 88 1 24 (.nl 1) (.t 71)), .u (.fa 73 2 (.t 23)), .u (.st 1 (.t 73) (.t 72))]
def f6r13 : List PG := [.u (.mv 74 (.t 5)), .u (.cv 75 .i64 (.t 74)), .u (.fa 76 2 (.t 23)), .u (.ld 77 1 false (.t 76)), .u (.len 78 (.t 77)), .u (.bo 79 .rem (.t 75) (.t 78)), .u (.mv 24 (.t 79))]
def f6r14 : List PG := [.u (.fa 80 2 (.t 23)), .u (.ld 81 1 false (.t 80)), .u (.mv 82 (.t 24)), .u (.ia 83 1 (.t 81) (.t 82)), .u (.ld 84 1 false (.t 83)), .u (.len 85 (.t 84)), .u (.bo 86 .gtr (.t 85) (.k (.int .i64 0)))]
def f6r15 : List PG := [.u (.fa 87 2 (.t 23)), .u (.ld 88 1 false (.t 87)), .u (.mv 89 (.t 24)), .u (.fa 90 2 (.t 23)), .u (.ld 91 1 false (.t 90)), .u (.mv 92 (.t 24)), .u (.ia 93 1 (.t 91) (.t 92)), .u (.ld 94 1 false (.t 93)), .u (.app 95 91 4 64 (.nl 4) (.t 94)), .u (.ia 96 1 (.t 88) (.t 89)), .u (.st 1 (.t 96) (.t 95))]
def f6r16 : List PG := [.u (.ld 97 4 true (.t 10)), .uc 98 33 [.t 97], .u (.al 25 [.d (.v (.int .i64 0)), .d (.v (.int .i64 0)), .nl 10, .nl 10]), .u (.st 4 (.t 25) (.t 98))]
def f6r17 : List PG := [.u (.fa 99 2 (.t 23)), .u (.ld 100 1 false (.t 99)), .u (.mv 101 (.t 24)), .u (.ia 102 1 (.t 100) (.t 101)), .u (.ld 103 1 false (.t 102)), .u (.ia 104 4 (.t 103) (.k (.int .i64 0))), .u (.fa 105 0 (.t 104)), .u (.ld 106 1 false (.t 105)), .u (.fa 107 0 (.t 25)), .u (.st 1 (.t 107) (.t 106))]
def f6r18 : List PG := [.u (.fa 108 2 (.t 23)), .u (.ld 109 1 false (.t 108)), .u (.mv 110 (.t 24)), .u (.ia 111 1 (.t 109) (.t 110)), .u (.ld 112 1 false (.t 111)), .u (.ld 113 4 true (.t 25)), .u (.ia 114 4 (.t 112) (.k (.int .i64 0))), .u (.st 4 (.t 114) (.t 113))]
abbrev f6p6 : PC := .seq (.reg f6r17) (.regD f6r18 [])
abbrev f6p7 : PC := .seq (.reg f6r16) (f6p6)
abbrev f6p8 : PC := .seq (.regD f6r15 [(0, 8), (1, 8), (2, 8)]) (f6p7)
abbrev f6p9 : PC := .cond (.t 86) (f6p8) (.skip)
def f6r19 : List PG := [.u (.mv 115 (.t 19)), .u (.len 116 (.t 115)), .u (.mks 117 3 1 8 [.d (.v (.int .i64 0))] (.t 116)), .u (.mv 26 (.t 117))]
def f6r20 : List PG := [.u (.mv 118 (.t 26)), .u (.len 119 (.t 118)), .u (.mv 120 (.k (.int .i64 0)))]
def f6r21 : List PG := [.u (.bo 121 .lss (.t 120) (.t 119))]
def f6r22 : List PG := [.u (.mv 122 (.t 120)), .u (.mv 27 (.t 122))]
def f6r23 : List PG := [.u (.mv 123 (.t 27)), .u (.mv 124 (.t 3)), .u (.len 125 (.t 124)), .u (.bo 126 .lss (.t 123) (.t 125))]
def f6r24 : List PG := [.u (.mv 127 (.t 26)), .u (.mv 128 (.t 27)), .u (.mv 129 (.t 3)), .u (.mv 130 (.t 27)), .u (.ia 131 1 (.t 129) (.t 130)), .u (.ld 132 1 false (.t 131)), .u (.cv 133 .i64 (.t 132)), .u (.fa 134 0 (.t 16)), .u (.ld 135 1 false (.t 134)), .u (.len 136 (.t 135)), .u (.bo 137 .add (.t 136) (.k (.int .i64 1))), .u (.bo 138 .rem (.t 133) (.t 137)), .u (.ia 139 1 (.t 127) (.t 128)), .u (.st 1 (.t 139) (.t 138))]
abbrev f6p10 : PC := .cond (.t 126) (.regD f6r24 []) (.skip)
abbrev f6p11 : PC := .seq (.reg f6r23) (f6p10)
def f6r25 : List PG := [.u (.bo 140 .add (.t 120) (.k (.int .i64 1))), .u (.mv 120 (.t 140))]
abbrev f6p12 : PC := .seq (.block 1 (.seq (.reg f6r22) (f6p11))) (.reg f6r25)
abbrev f6p13 : PC := .seq (.cond (.t 121) (.skip) (.exit 0)) (f6p12)
abbrev f6p14 : PC := .seq (.reg f6r21) (f6p13)
abbrev f6p15 : PC := .block 0 (.loop (f6p14))
def f6r26 : List PG := [.u (.ld 141 3 true (.t 23)), .u (.mv 142 (.t 19)), .u (.bld 143 [.nl 1, .nl 1, .nl 1, .nl 1] [((0, 3), .t 141), ((3, 1), .t 142)]), .u (.ld 144 3 true (.t 16)), .u (.mv 145 (.t 19)), .u (.bld 146 [.nl 1, .nl 1, .nl 1, .nl 1] [((0, 3), .t 144), ((3, 1), .t 145)]), .u (.ld 147 3 true (.t 16)), .u (.mv 148 (.t 26)), .u (.bld 149 [.nl 1, .nl 1, .nl 1, .nl 1] [((0, 3), .t 147), ((3, 1), .t 148)]), .u (.ld 150 3 true (.t 21)), .u (.mv 151 (.t 26)), .u (.bld 152 [.nl 1, .nl 1, .nl 1, .nl 1] [((0, 3), .t 150), ((3, 1), .t 151)]), .u (.bsl 153 93 4 [.t 143, .t 146, .t 149, .t 152]), .u (.len 154 (.t 153)), .u (.mv 155 (.k (.int .i64 0)))]
def f6r27 : List PG := [.u (.bo 156 .lss (.t 155) (.t 154))]
def f6r28 : List PG := [.u (.ia 157 4 (.t 153) (.t 155)), .u (.ld 158 4 true (.t 157)), .u (.al 29 [.nl 1, .nl 1, .nl 1, .nl 1]), .u (.st 4 (.t 29) (.t 158))]
def f6r29 : List PG := [.u (.ld 159 3 true (.t 13)), .u (.fa 160 0 (.t 29)), .u (.ld 161 3 true (.t 160)), .u (.fa 162 3 (.t 29)), .u (.ld 163 1 false (.t 162)), .uc 164 35 [.t 159, .t 161, .t 163], .uc 165 34 [.t 164], .u (.ld 166 3 true (.t 13)), .u (.fa 167 0 (.t 29)), .u (.ld 168 3 true (.t 167)), .u (.fa 169 3 (.t 29)), .u (.ld 170 1 false (.t 169)), .uc 171 36 [.t 166, .t 168, .t 170], .u (.beq 172 true false (.t 165) (.t 171))]
def f6r30 : List PG := [.u (.mv 12 (.k (.bool false)))]
abbrev f6p16 : PC := .seq (.reg f6r30) (.ret)
abbrev f6p17 : PC := .cond (.t 172) (f6p16) (.skip)
abbrev f6p18 : PC := .seq (.regD f6r29 []) (f6p17)
def f6r31 : List PG := [.u (.bo 173 .add (.t 155) (.k (.int .i64 1))), .u (.mv 155 (.t 173))]
abbrev f6p19 : PC := .seq (.block 3 (.seq (.reg f6r28) (f6p18))) (.reg f6r31)
abbrev f6p20 : PC := .seq (.cond (.t 156) (.skip) (.exit 2)) (f6p19)
abbrev f6p21 : PC := .seq (.reg f6r27) (f6p20)
abbrev f6p22 : PC := .block 2 (.loop (f6p21))
def f6r32 : List PG := [.u (.mv 12 (.k (.bool true)))]
abbrev f6p23 : PC := .seq (.reg f6r32) (.ret)
abbrev f6p24 : PC := .seq (.seq (.reg f6r26) (f6p22)) (f6p23)
abbrev f6p25 : PC := .seq (.seq (.reg f6r20) (f6p15)) (f6p24)
abbrev f6p26 : PC := .seq (.reg f6r19) (f6p25)
abbrev f6p27 : PC := .seq (.seq (.reg f6r14) (f6p9)) (f6p26)
abbrev f6p28 : PC := .seq (.reg f6r13) (f6p27)
abbrev f6p29 : PC := .seq (.reg f6r12) (f6p28)
abbrev f6p30 : PC := .seq (.reg f6r11) (f6p29)
abbrev f6p31 : PC := .seq (.seq (.reg f6r9) (f6p5)) (f6p30)
abbrev f6p32 : PC := .seq (.reg f6r8) (f6p31)
abbrev f6p33 : PC := .seq (.reg f6r7) (f6p32)
abbrev f6p34 : PC := .seq (.seq (.reg f6r5) (f6p3)) (f6p33)
abbrev f6p35 : PC := .seq (.reg f6r4) (f6p34)
abbrev f6p36 : PC := .seq (.reg f6r3) (f6p35)
abbrev f6p37 : PC := .seq (.seq (.reg f6r1) (f6p1)) (f6p36)
abbrev f6pc : PC := .seq (.reg f6r0) (f6p37)
def f6k : List Nat := [0, 1, 2, 3, 4, 5, 6, 8, 10, 12, 13, 15, 16, 18, 19, 20, 21, 22, 23, 24, 25, 26, 27, 29, 31, 51, 68, 86, 119, 120, 121, 126, 153, 154, 155, 156, 172]
theorem f6c : Tryz.f6.body.bind (cC te Tryz.f6.ntmps) = some f6pc := by kernel_rfl
set_option maxRecDepth 20000
set_option maxHeartbeats 4000000


def othV (raw : List Int) (M i : Nat) : Int := if i < raw.length then (raw.getD i 0).tmod M else 0
def othL (raw : List Int) (M N k : Nat) : List Int := (List.range N).map fun j => if j < k then othV raw M j else 0
theorem othL_len (raw : List Int) (M N k : Nat) : (othL raw M N k).length = N := by simp [othL]
theorem oth_zero (raw : List Int) (M N : Nat) : List.replicate N [D.v (.int .i64 0)] = (othL raw M N 0).map iD := by
  apply List.ext_getElem?
  intro k
  simp only [othL, List.getElem?_map, List.getElem?_replicate]
  by_cases h : k < N <;> simp [h]
theorem oth_set {raw : List Int} {M N k : Nat} (h : k < N) : (othL raw M N k).set k (othV raw M k) = othL raw M N (k + 1) := by
  apply List.ext_getElem?
  intro i
  by_cases hi : i = k
  · subst hi; simp [othL, h]
  · rw [List.getElem?_set_ne (Ne.symm hi)]
    simp only [othL, List.getElem?_map]
    by_cases h2 : i < N
    · simp only [List.getElem?_range h2, Option.map_some]
      by_cases h3 : i < k
      · rw [if_pos h3, if_pos (by omega)]
      · rw [if_neg h3, if_neg (by omega)]
    · simp [h2]
theorem oth_skip {raw : List Int} {M N k : Nat} (h : ¬ k < raw.length) : othL raw M N k = othL raw M N (k + 1) := by
  unfold othL
  refine List.map_congr_left fun j _ => ?_
  by_cases h1 : j < k
  · rw [if_pos h1, if_pos (by omega)]
  · rw [if_neg h1]
    by_cases h2 : j < k + 1
    · have : j = k := by omega
      subst this
      rw [if_pos h2]; unfold othV; rw [if_neg h]
    · rw [if_neg h2]
theorem oth_put {e s g : Nat} {raw : List Int} {M N k : Nat} (h : k < N) (hr : k < raw.length) : AO.row e s g (((othL raw M N k).map iD).set k [.v (.int .i64 ((raw.getD k 0).tmod M))]) = AO.row e s g ((othL raw M N (k + 1)).map iD) := by
  have : (raw.getD k 0).tmod M = othV raw M k := by unfold othV; rw [if_pos hr]
  rw [this, show [D.v (.int .i64 (othV raw M k))] = iD (othV raw M k) from rfl, ← List.map_set, oth_set h]
abbrev ppD (p : Net × List Int) : List D := [.sl 1 (p.1.origin.map bD), .sl 1 (p.1.static.map iD), .sl 1 (p.1.edges.map esD), .sl 1 (p.2.map iD)]
/-- The network that has one edge turned. -/
abbrev turnE (x : Net) (kk : Nat) (es : List Arc) (z : Arc) : List (List Arc) := x.edges.set kk (es.set 0 z)
theorem turn_row (x : Net) (kk : Nat) (es : List Arc) (z : Arc) : (x.edges.map esD).set kk [.sl 4 ((es.map Arc.row).set 0 z.row)] = (turnE x kk es z).map esD := by
  unfold turnE
  rw [List.map_set]
  simp only [esD, List.map_set]
theorem ps_turn {e s g : Nat} {x m : Net} {b o : List Int} {kk : Nat} {es : List Arc} {z : Arc} {ys : List (List Arc)} {Ps : List (Net × List Int)} (hys : ys = turnE x kk es z) (hPs : Ps = [(⟨x.origin, x.static, ys⟩, b), (m, b), (m, o), (x, o)]) :
    AO.row e s g [[.sl 1 (x.origin.map bD), .sl 1 (x.static.map iD), .sl 1 ((x.edges.map esD).set kk [.sl 4 ((es.map Arc.row).set 0 z.row)]), .sl 1 (b.map iD)], [.sl 1 (m.origin.map bD), .sl 1 (m.static.map iD), .sl 1 (m.edges.map esD), .sl 1 (b.map iD)],
      [.sl 1 (m.origin.map bD), .sl 1 (m.static.map iD), .sl 1 (m.edges.map esD), .sl 1 (o.map iD)], [.sl 1 (x.origin.map bD), .sl 1 (x.static.map iD), .sl 1 (x.edges.map esD), .sl 1 (o.map iD)]] = AO.row e s g (Ps.map ppD) := by
  subst hys
  subst hPs
  have h := turn_row x kk es z
  exact congrArg (fun q => AO.row e s g [[.sl 1 (x.origin.map bD), .sl 1 (x.static.map iD), .sl 1 q, .sl 1 (b.map iD)], [.sl 1 (m.origin.map bD), .sl 1 (m.static.map iD), .sl 1 (m.edges.map esD), .sl 1 (b.map iD)],
      [.sl 1 (m.origin.map bD), .sl 1 (m.static.map iD), .sl 1 (m.edges.map esD), .sl 1 (o.map iD)], [.sl 1 (x.origin.map bD), .sl 1 (x.static.map iD), .sl 1 (x.edges.map esD), .sl 1 (o.map iD)]]) h
theorem arc_ok (w : Wire) : w.arc.ok := by
  have hm : maxLen = 9223372036854775807 := rfl
  exact ⟨by have := plainL_len w.exp; simp only [Wire.arc]; omega, by have := plainL_len w.imp; simp only [Wire.arc]; omega⟩
theorem turn_ok {x : Net} (hx : x.ok) {kk : Nat} {es : List Arc} {z : Arc} (hes : x.edges[kk]? = some es) (hz : z.ok) : (⟨x.origin, x.static, turnE x kk es z⟩ : Net).ok := by
  refine ⟨hx.origin, hx.static, by simp only [turnE, List.length_set]; exact hx.edges, fun r hr => ?_, fun r hr e he => ?_⟩
  · rcases List.mem_or_eq_of_mem_set hr with q | q
    · exact hx.row r q
    · subst q; rw [List.length_set]; exact hx.row es (List.mem_of_getElem? hes)
  · rcases List.mem_or_eq_of_mem_set hr with q | q
    · exact hx.edge r q e he
    · subst q
      rcases List.mem_or_eq_of_mem_set he with q | q
      · exact hx.edge es (List.mem_of_getElem? hes) e q
      · subst q; exact hz
structure QQ (p : Net × List Int) : Prop where
  ok : p.1.ok
  len : p.2.length ≤ maxLen
theorem errV_v (c : Int) : ∃ v, errV c = .d (.v v) := by unfold errV; split <;> exact ⟨_, rfl⟩
structure WireOk (w : Wire) : Prop where
  exp : w.exp.length ≤ maxLen
  imp : w.imp.length ≤ maxLen
  expR : ∀ q ∈ w.exp, 0 ≤ q.to ∧ q.to ≤ 255
  impR : ∀ q ∈ w.imp, 0 ≤ q.to ∧ q.to ≤ 255
theorem wire_row {n : Nat} {x : List D} (h : dT te (n + 4) 81 x) : ∃ w : Wire, x = w.row ∧ WireOk w := by
  rw [dT] at h
  simp only [te81, dFs, te5, te79] at h
  obtain ⟨_, _, rfl, _, h1, _, _, rfl, _, h2, _, _, rfl, _, h3, _, _, rfl, _, h4, rfl⟩ := h
  simp only [dT, te5] at h1 h2
  obtain ⟨a, rfl, _⟩ := h1
  obtain ⟨b, rfl, _⟩ := h2
  obtain ⟨e, rfl, e1, e2⟩ := rules_row h3
  obtain ⟨i, rfl, i1, i2⟩ := rules_row h4
  exact ⟨⟨a, b, e, i⟩, rfl, e1, i1, e2, i2⟩
theorem auditTurned_n1 (s1 : Shape) (h1 : s1.ok) (w : Int) (hw : 0 ≤ w ∧ w ≤ 255) (s2 : Shape) (h2 : s2.ok) (raw : List Int) (hraw : B8 raw) (wi : Wire) (hwi : WireOk wi) (at_ : Int) (hat : 0 ≤ at_ ∧ at_ ≤ 255) (hx : s1.netV w = none) (hy : s2.netV w = none) : FnS Tryz.prog 6 [s1.av, .d (.v (.int .u8 w)), s2.av, .d (.sl 1 (raw.map uD)), .ag wi.box, .d (.v (.int .u8 at_))] (.d (.v (.bool true))) := by
  have hN := netOfF_fn s1 h1 w hw
  have hN2 := netOfF_fn s2 h2 w hw
  rw [hx] at hN
  rw [hy] at hN2
  simp only [netA] at hN hN2
  refine fn_of teok Tryz.func6 (by kernel_rfl) f6c f6k [.tmp 12] rfl (by show 6 ≤ 174; omega) ?_
  repeat' first
|(exact absurd hc (by decide))
|(with_reducible first | refine awp_seq ?_ | refine awp_block ?_ | refine awp_reg ?_ | refine awp_regD ?_ | refine awp_ret ?_ | refine awp_skip ?_ | refine awp_exit ?_ | refine normQ_of ?_ | refine wkE_of ?_ | refine runD_nil ?_ | refine runD_cons ?_ | refine runF_cons ?_ | refine runF_nil ?_ | refine KF_of ?_ | refine chkQ_of rfl ?_)
|with_reducible refine awp_cond (by simp only [evX, lget, Option.getD_some, reduceIte, Nat.reduceEqDiff]; rfl) (fun hc => ?_) (fun hc => ?_)
|with_reducible refine CallU_of (f := 29) (awake19_fn) (by first | exact Or.inr (Or.inl rfl) | exact Or.inl rfl) ?_
|with_reducible refine CallU_of (f := 30) (hN) (by first | exact Or.inr (Or.inl rfl) | exact Or.inl rfl) ?_
|with_reducible refine CallU_of (f := 30) (hN2) (by first | exact Or.inr (Or.inl rfl) | exact Or.inl rfl) ?_
|(with_reducible assumption)
|with_reducible refine fun (hG : okL _) => ?_
|(with_reducible refine fun (hT : (_ : Bool) = _) => ?_)
|(with_reducible first | exact hG.2 | exact hG.2.2 | exact hG.2.2.2 | exact hG.2.2.2.2)
|with_reducible refine okL_mk ?_ ?_
|with_reducible refine And.intro ?_ ?_
|simp only [f6r0, f6r1, f6r2, f6r3, f6r4, f6r5, f6r6, f6r7, f6r8, f6r9, f6r10, f6r11, f6r12, f6r13, f6r14, f6r15, f6r16, f6r17, f6r18, f6r19, f6r20, f6r21, f6r22, f6r23, f6r24, f6r25, f6r26, f6r27, f6r28, f6r29, f6r30, f6r31, f6r32, f6k, te32, te35, te25, List.getElem?_cons_zero, List.getElem?_cons_succ, runG_nil, runG_u, runG_g, runG_ucS, stp, avL, avS, evs, evX, lget, lput, strip, putO, PO.dst, updO, okR, cells, splice, AV.cell, toD, toDs, binV, sameK, pickV, guardOf, okL_nil, sides, argsOf, rawOf, dv, dvL, owns, ownsL, flat, flatL, lkeep, seqQ, blockQ, initS, List.drop_succ_cons, List.drop_zero, List.take_succ_cons, List.take_zero, List.getD_cons_zero, List.getD_cons_succ, List.length_cons, List.length_nil, List.set_cons_zero, List.set_cons_succ, List.map_cons, List.map_nil, List.all_cons, List.all_nil, List.elem_cons, List.elem_nil, Option.getD_some, Option.getD_none, Option.bind_some, Option.isNone_none, reduceIte, reduceCtorEq, Nat.reduceEqDiff, Nat.reduceAdd, Nat.reduceLeDiff, Nat.zero_add, Nat.add_zero, Nat.reduceBEq, Bool.and_self, Bool.and_true, Bool.true_and, Bool.or_self, Bool.or_false, Bool.false_or, Bool.or_true, Bool.true_or, true_and, and_true, and_self, implies_true, forall_const, Bool.false_eq_true, id_eq, retQ, resOf, resV, Option.some.injEq, exists_eq_left', AV.d.injEq, D.v.injEq, Value.bool.injEq, imp_self, bldF, bldS, toVals, eqLs, Option.map_some, imp_false, not_true_eq_false, not_false_eq_true, foot, wrs, nm, nmL, PG.reads, PG.dst, PO.reads, X.sl, sls, slB, List.append_nil, List.cons_append, List.nil_append, Option.toList_some, Option.toList_none, loopQ_exit, loopQ_ret, subS, subO, Bool.bne_false, Bool.bne_true, elemsOf, bslD, bslS, lputs, List.headD_cons, sealS, sealO, sealV, sealL, sealsS, sealsO, Bool.true_bne, Bool.false_bne, bne_self_eq_false, Int.reduceToNat, oSl, resR, argsN, dvN]
  all_goals first
    | rfl
    | decide
    | trace_state
theorem auditTurned_n2 (s1 : Shape) (h1 : s1.ok) (w : Int) (hw : 0 ≤ w ∧ w ≤ 255) (s2 : Shape) (h2 : s2.ok) (raw : List Int) (hraw : B8 raw) (wi : Wire) (hwi : WireOk wi) (at_ : Int) (hat : 0 ≤ at_ ∧ at_ ≤ 255) (n : Net) (p : Int × Int) (hx : s1.netV w = some (n, p)) (hy : s2.netV w = none) : FnS Tryz.prog 6 [s1.av, .d (.v (.int .u8 w)), s2.av, .d (.sl 1 (raw.map uD)), .ag wi.box, .d (.v (.int .u8 at_))] (.d (.v (.bool true))) := by
  have hN := netOfF_fn s1 h1 w hw
  have hN2 := netOfF_fn s2 h2 w hw
  rw [hx] at hN
  rw [hy] at hN2
  simp only [netA] at hN hN2
  refine fn_of teok Tryz.func6 (by kernel_rfl) f6c f6k [.tmp 12] rfl (by show 6 ≤ 174; omega) ?_
  repeat' first
|(exact absurd hc (by decide))
|(with_reducible first | refine awp_seq ?_ | refine awp_block ?_ | refine awp_reg ?_ | refine awp_regD ?_ | refine awp_ret ?_ | refine awp_skip ?_ | refine awp_exit ?_ | refine normQ_of ?_ | refine wkE_of ?_ | refine runD_nil ?_ | refine runD_cons ?_ | refine runF_cons ?_ | refine runF_nil ?_ | refine KF_of ?_ | refine chkQ_of rfl ?_)
|with_reducible refine awp_cond (by simp only [evX, lget, Option.getD_some, reduceIte, Nat.reduceEqDiff]; rfl) (fun hc => ?_) (fun hc => ?_)
|with_reducible refine CallU_of (f := 29) (awake19_fn) (by first | exact Or.inr (Or.inl rfl) | exact Or.inl rfl) ?_
|with_reducible refine CallU_of (f := 30) (hN) (by first | exact Or.inr (Or.inl rfl) | exact Or.inl rfl) ?_
|with_reducible refine CallU_of (f := 30) (hN2) (by first | exact Or.inr (Or.inl rfl) | exact Or.inl rfl) ?_
|(with_reducible assumption)
|with_reducible refine fun (hG : okL _) => ?_
|(with_reducible refine fun (hT : (_ : Bool) = _) => ?_)
|(with_reducible first | exact hG.2 | exact hG.2.2 | exact hG.2.2.2 | exact hG.2.2.2.2)
|with_reducible refine okL_mk ?_ ?_
|with_reducible refine And.intro ?_ ?_
|simp only [f6r0, f6r1, f6r2, f6r3, f6r4, f6r5, f6r6, f6r7, f6r8, f6r9, f6r10, f6r11, f6r12, f6r13, f6r14, f6r15, f6r16, f6r17, f6r18, f6r19, f6r20, f6r21, f6r22, f6r23, f6r24, f6r25, f6r26, f6r27, f6r28, f6r29, f6r30, f6r31, f6r32, f6k, te32, te35, te25, List.getElem?_cons_zero, List.getElem?_cons_succ, runG_nil, runG_u, runG_g, runG_ucS, stp, avL, avS, evs, evX, lget, lput, strip, putO, PO.dst, updO, okR, cells, splice, AV.cell, toD, toDs, binV, sameK, pickV, guardOf, okL_nil, sides, argsOf, rawOf, dv, dvL, owns, ownsL, flat, flatL, lkeep, seqQ, blockQ, initS, List.drop_succ_cons, List.drop_zero, List.take_succ_cons, List.take_zero, List.getD_cons_zero, List.getD_cons_succ, List.length_cons, List.length_nil, List.set_cons_zero, List.set_cons_succ, List.map_cons, List.map_nil, List.all_cons, List.all_nil, List.elem_cons, List.elem_nil, Option.getD_some, Option.getD_none, Option.bind_some, Option.isNone_none, reduceIte, reduceCtorEq, Nat.reduceEqDiff, Nat.reduceAdd, Nat.reduceLeDiff, Nat.zero_add, Nat.add_zero, Nat.reduceBEq, Bool.and_self, Bool.and_true, Bool.true_and, Bool.or_self, Bool.or_false, Bool.false_or, Bool.or_true, Bool.true_or, true_and, and_true, and_self, implies_true, forall_const, Bool.false_eq_true, id_eq, retQ, resOf, resV, Option.some.injEq, exists_eq_left', AV.d.injEq, D.v.injEq, Value.bool.injEq, imp_self, bldF, bldS, toVals, eqLs, Option.map_some, imp_false, not_true_eq_false, not_false_eq_true, foot, wrs, nm, nmL, PG.reads, PG.dst, PO.reads, X.sl, sls, slB, List.append_nil, List.cons_append, List.nil_append, Option.toList_some, Option.toList_none, loopQ_exit, loopQ_ret, subS, subO, Bool.bne_false, Bool.bne_true, elemsOf, bslD, bslS, lputs, List.headD_cons, sealS, sealO, sealV, sealL, sealsS, sealsO, Bool.true_bne, Bool.false_bne, bne_self_eq_false, Int.reduceToNat, oSl, resR, argsN, dvN]
  all_goals first
    | rfl
    | decide
    | trace_state
theorem auditTurned_n3 (s1 : Shape) (h1 : s1.ok) (w : Int) (hw : 0 ≤ w ∧ w ≤ 255) (s2 : Shape) (h2 : s2.ok) (raw : List Int) (hraw : B8 raw) (wi : Wire) (hwi : WireOk wi) (at_ : Int) (hat : 0 ≤ at_ ∧ at_ ≤ 255) (m : Net) (p : Int × Int) (hx : s1.netV w = none) (hy : s2.netV w = some (m, p)) : FnS Tryz.prog 6 [s1.av, .d (.v (.int .u8 w)), s2.av, .d (.sl 1 (raw.map uD)), .ag wi.box, .d (.v (.int .u8 at_))] (.d (.v (.bool true))) := by
  have hN := netOfF_fn s1 h1 w hw
  have hN2 := netOfF_fn s2 h2 w hw
  rw [hx] at hN
  rw [hy] at hN2
  simp only [netA] at hN hN2
  refine fn_of teok Tryz.func6 (by kernel_rfl) f6c f6k [.tmp 12] rfl (by show 6 ≤ 174; omega) ?_
  repeat' first
|(exact absurd hc (by decide))
|(with_reducible first | refine awp_seq ?_ | refine awp_block ?_ | refine awp_reg ?_ | refine awp_regD ?_ | refine awp_ret ?_ | refine awp_skip ?_ | refine awp_exit ?_ | refine normQ_of ?_ | refine wkE_of ?_ | refine runD_nil ?_ | refine runD_cons ?_ | refine runF_cons ?_ | refine runF_nil ?_ | refine KF_of ?_ | refine chkQ_of rfl ?_)
|with_reducible refine awp_cond (by simp only [evX, lget, Option.getD_some, reduceIte, Nat.reduceEqDiff]; rfl) (fun hc => ?_) (fun hc => ?_)
|with_reducible refine CallU_of (f := 29) (awake19_fn) (by first | exact Or.inr (Or.inl rfl) | exact Or.inl rfl) ?_
|with_reducible refine CallU_of (f := 30) (hN) (by first | exact Or.inr (Or.inl rfl) | exact Or.inl rfl) ?_
|with_reducible refine CallU_of (f := 30) (hN2) (by first | exact Or.inr (Or.inl rfl) | exact Or.inl rfl) ?_
|(with_reducible assumption)
|with_reducible refine fun (hG : okL _) => ?_
|(with_reducible refine fun (hT : (_ : Bool) = _) => ?_)
|(with_reducible first | exact hG.2 | exact hG.2.2 | exact hG.2.2.2 | exact hG.2.2.2.2)
|with_reducible refine okL_mk ?_ ?_
|with_reducible refine And.intro ?_ ?_
|simp only [f6r0, f6r1, f6r2, f6r3, f6r4, f6r5, f6r6, f6r7, f6r8, f6r9, f6r10, f6r11, f6r12, f6r13, f6r14, f6r15, f6r16, f6r17, f6r18, f6r19, f6r20, f6r21, f6r22, f6r23, f6r24, f6r25, f6r26, f6r27, f6r28, f6r29, f6r30, f6r31, f6r32, f6k, te32, te35, te25, List.getElem?_cons_zero, List.getElem?_cons_succ, runG_nil, runG_u, runG_g, runG_ucS, stp, avL, avS, evs, evX, lget, lput, strip, putO, PO.dst, updO, okR, cells, splice, AV.cell, toD, toDs, binV, sameK, pickV, guardOf, okL_nil, sides, argsOf, rawOf, dv, dvL, owns, ownsL, flat, flatL, lkeep, seqQ, blockQ, initS, List.drop_succ_cons, List.drop_zero, List.take_succ_cons, List.take_zero, List.getD_cons_zero, List.getD_cons_succ, List.length_cons, List.length_nil, List.set_cons_zero, List.set_cons_succ, List.map_cons, List.map_nil, List.all_cons, List.all_nil, List.elem_cons, List.elem_nil, Option.getD_some, Option.getD_none, Option.bind_some, Option.isNone_none, reduceIte, reduceCtorEq, Nat.reduceEqDiff, Nat.reduceAdd, Nat.reduceLeDiff, Nat.zero_add, Nat.add_zero, Nat.reduceBEq, Bool.and_self, Bool.and_true, Bool.true_and, Bool.or_self, Bool.or_false, Bool.false_or, Bool.or_true, Bool.true_or, true_and, and_true, and_self, implies_true, forall_const, Bool.false_eq_true, id_eq, retQ, resOf, resV, Option.some.injEq, exists_eq_left', AV.d.injEq, D.v.injEq, Value.bool.injEq, imp_self, bldF, bldS, toVals, eqLs, Option.map_some, imp_false, not_true_eq_false, not_false_eq_true, foot, wrs, nm, nmL, PG.reads, PG.dst, PO.reads, X.sl, sls, slB, List.append_nil, List.cons_append, List.nil_append, Option.toList_some, Option.toList_none, loopQ_exit, loopQ_ret, subS, subO, Bool.bne_false, Bool.bne_true, elemsOf, bslD, bslS, lputs, List.headD_cons, sealS, sealO, sealV, sealL, sealsS, sealsO, Bool.true_bne, Bool.false_bne, bne_self_eq_false, Int.reduceToNat, oSl, resR, argsN, dvN]
  all_goals first
    | rfl
    | decide
    | trace_state
theorem auditTurned_go (s1 : Shape) (h1 : s1.ok) (w : Int) (hw : 0 ≤ w ∧ w ≤ 255) (s2 : Shape) (h2 : s2.ok) (raw : List Int) (hraw : B8 raw) (wi : Wire) (hwi : WireOk wi) (at_ : Int) (hat : 0 ≤ at_ ∧ at_ ≤ 255) (n : Net) (p : Int × Int) (hx : s1.netV w = some (n, p)) (m : Net) (p2 : Int × Int) (hy : s2.netV w = some (m, p2)) : FnS Tryz.prog 6 [s1.av, .d (.v (.int .u8 w)), s2.av, .d (.sl 1 (raw.map uD)), .ag wi.box, .d (.v (.int .u8 at_))] (.d (.v (.bool true))) := by
  have hm : maxLen = 9223372036854775807 := rfl
  have hN := netOfF_fn s1 h1 w hw
  have hN2 := netOfF_fn s2 h2 w hw
  rw [hx] at hN
  rw [hy] at hN2
  simp only [netA] at hN hN2
  obtain ⟨hsm, hmay, nm, hnl, hn0⟩ := net_facts hx
  obtain ⟨hsm2, hmay2, mm, hnl2, hn02⟩ := net_facts hy
  simp only at hsm hmay nm hnl hn0 hsm2 hmay2 mm hnl2 hn02
  have hR := rof_yes n hsm hmay
  have hfs := find_spec nm
  have hbf := find_bf hmay
  obtain ⟨x, hqx, hqf⟩ := find_quot hmay
  have hl := hfs.1.len
  have hQ := quot_fn n hsm.ok (findV n) (by omega)
  rw [hqx] at hQ
  replace hQ : FnS Tryz.prog 32 [n.av, .d (.sl 1 ((findV n).map iD))] (.tp [x.av, .d (.v .nilIface)]) := hQ
  have hxs := qf_small_ok hsm hbf hqf
  have hxm := Net.may_spec (qf_may hbf hqf)
  have hn64 := nm.most
  have hm64 := mm.most
  have hx64 := hxm.most
  have hxe := hxm.edges
  have hcq := hqf.cnt
  have hx0 := find_count hmay hn0
  have hE := arc_fn wi hwi.exp hwi.imp hwi.expR hwi.impR
  have g0 : IntKind.i64.wrap at_ = at_ := wrapI64 _ (by omega) (by omega)
  have g9 : IntKind.i64.wrap ((m.origin.length : Int) + 1) = ((m.origin.length + 1 : Nat) : Int) := by rw [wrapI64 _ (by omega) (by omega)]; rfl
  have hk : 0 ≤ at_.tmod x.edges.length ∧ at_.tmod x.edges.length < x.edges.length := by
    rw [Int.tmod_eq_emod_of_nonneg hat.1]
    exact ⟨Int.emod_nonneg _ (by omega), Int.emod_lt_of_pos _ (by omega)⟩
  have hxn : x.edges.length ≠ 0 := by omega
  obtain ⟨kk, hkk⟩ := Int.eq_ofNat_of_zero_le hk.1
  obtain ⟨es, hes⟩ : ∃ es, x.edges[kk]? = some es := ⟨_, List.getElem?_eq_getElem (by omega)⟩
  have g1 : List.getD (List.map esD x.edges) kk [] = esD es := by simp [List.getD, hes]
  have hel := hxm.row es (List.mem_of_getElem? hes)
  generalize findV n = b at hR hl hQ
  refine fn_of teok Tryz.func6 (by kernel_rfl) f6c f6k [.tmp 12] rfl (by show 6 ≤ 174; omega) ?_
  first | (have _q := @g0; clear _q) | have g0 : Nat.pred 77 = 76 := rfl
  first | (have _q := @g1; clear _q) | have g1 : Nat.pred 77 = 76 := rfl
  first | (have _q := @g2; clear _q) | have g2 : Nat.pred 77 = 76 := rfl
  first | (have _q := @g3; clear _q) | have g3 : Nat.pred 77 = 76 := rfl
  first | (have _q := @g4; clear _q) | have g4 : Nat.pred 77 = 76 := rfl
  first | (have _q := @g5; clear _q) | have g5 : Nat.pred 77 = 76 := rfl
  first | (have _q := @g6; clear _q) | have g6 : Nat.pred 77 = 76 := rfl
  first | (have _q := @g9; clear _q) | have g9 : Nat.pred 77 = 76 := rfl
  repeat' first
|(exact absurd hc (by decide))
|(with_reducible refine awp_exit_seal (i := 0) [95, 72, 117] ?_)
|(with_reducible first | refine awp_seq ?_ | refine awp_block ?_ | refine awp_reg ?_ | refine awp_regD ?_ | refine awp_ret ?_ | refine awp_skip ?_ | refine awp_exit ?_ | refine normQ_of ?_ | refine wkE_of ?_ | refine runD_nil ?_ | refine runD_cons ?_ | refine runF_cons ?_ | refine runF_nil ?_ | refine KF_of ?_ | refine chkQ_of rfl ?_)
|with_reducible refine awp_cond (by simp only [evX, lget, Option.getD_some, reduceIte, Nat.reduceEqDiff]; rfl) (fun hc => ?_) (fun hc => ?_)
|with_reducible refine CallU_of (f := 29) (awake19_fn) (by first | exact Or.inr (Or.inl rfl) | exact Or.inl rfl) ?_
|with_reducible refine CallU_of (f := 30) (hN) (by first | exact Or.inr (Or.inl rfl) | exact Or.inl rfl) ?_
|with_reducible refine CallU_of (f := 30) (hN2) (by first | exact Or.inr (Or.inl rfl) | exact Or.inl rfl) ?_
|with_reducible refine CallU_of (f := 31) (hR) (by first | exact Or.inr (Or.inl rfl) | exact Or.inl rfl) ?_
|with_reducible refine CallU_of (f := 32) (hQ) (by first | exact Or.inr (Or.inl rfl) | exact Or.inl rfl) ?_
|with_reducible refine CallU_of (f := 33) (hE) (by first | exact Or.inr (Or.inl rfl) | exact Or.inl rfl) ?_
|with_reducible refine CallU_of (f := 35) (hI) (by first | exact Or.inr (Or.inl rfl) | exact Or.inl rfl) ?_
|with_reducible refine CallU_of (f := 34) (hNm) (by first | exact Or.inr (Or.inl rfl) | exact Or.inl rfl) ?_
|with_reducible refine CallU_of (f := 36) (hF) (by first | exact Or.inr (Or.inl rfl) | exact Or.inl rfl) ?_
|(with_reducible assumption)
|with_reducible refine fun (hG : okL _) => ?_
|(with_reducible refine fun (hT : (_ : Bool) = _) => ?_)
|(with_reducible first | exact hG.2 | exact hG.2.2 | exact hG.2.2.2 | exact hG.2.2.2.2)
|with_reducible refine okL_mk ?_ ?_
|with_reducible refine And.intro ?_ ?_
|(with_reducible refine loopQ_next ((x1.1 + 1, ())) ?_ ?_ (Wk_sub rfl rfl ?_ ?_))
|(with_reducible refine loopQ_next ((z.1 + 1, (), ())) ?_ ?_ (Wk_sub rfl rfl ?_ ?_))
|(have hpos : 0 < es.length := (by have := of_decide_eq_true (show decide ((0 : Int) < (es.length : Int)) = true from hc); omega); refine Exists.elim (⟨_, List.getElem?_eq_getElem hpos⟩ : ∃ e0, es[0]? = some e0) (fun e0 he0 => ?_); have g2 : List.getD (List.map Arc.row es) 0 [] = Arc.row e0 := (by simp [List.getD, he0]); refine Exists.elim (⟨_, rfl⟩ : ∃ ys, ys = turnE x kk es { wi.arc with src := e0.src }) (fun ys hys => ?_); have hyok : (⟨x.origin, x.static, ys⟩ : Net).ok := (by rw [hys]; exact turn_ok hxs.ok hes ⟨(arc_ok wi).exp, (arc_ok wi).imp⟩); replace hc : True := trivial)
|(have hpos : ¬ 0 < es.length := (by have := of_decide_eq_false (show decide ((0 : Int) < (es.length : Int)) = false from hc); omega); refine Exists.elim (⟨_, rfl⟩ : ∃ ys, ys = x.edges) (fun ys hys => ?_); have hyok : (⟨x.origin, x.static, ys⟩ : Net).ok := (by rw [hys]; exact hxs.ok); replace hc : True := trivial)
|(with_reducible refine awp_loopU (b := f6p14) (fun x1 : Nat × Unit => x1.1 ≤ b.length) (fun x1 => b.length - x1.1) (fun x1 => [(120, .d (.v (.int .i64 x1.1)))]) (fun x1 => [(117, .row 3 1 0 ((othL raw (m.origin.length + 1) b.length x1.1).map iD))]) ((0, ())) (Nat.zero_le _) (Wk.refl _ _) (Wk_sub rfl rfl ?_ ?_) (fun x1 hx1 => ?_))
|(have hlt : x1.1 < b.length := Int.ofNat_lt.1 (of_decide_eq_true (show decide ((x1.1 : Int) < (b.length : Int)) = true from hc)); replace hc : True := trivial)
|(refine Exists.elim (at_drop uD raw x1.1 (Int.ofNat_lt.1 (of_decide_eq_true (show decide ((x1.1 : Int) < raw.length) = true from hc)))) (fun v hv => ?_); have g3 := hv.2.1; simp only [Int.toNat_natCast] at g3; have hvr := hraw.2 v (List.mem_of_getElem? hv.2.2.1); have g4 : IntKind.i64.wrap v = v := wrapI64 _ (by omega) (by omega); have hrl := hv.2.2.2; have hve : raw.getD x1.1 0 = v := gD_some hv.2.2.1; refine Exists.elim (at_drop iD (othL raw (m.origin.length + 1) b.length x1.1) x1.1 (by rw [othL_len]; exact hlt)) (fun o ho => ?_); have g5 := ho.2.1; simp only [Int.toNat_natCast] at g5; replace hc : True := trivial)
|(have hrn : ¬ x1.1 < raw.length := (by have := of_decide_eq_false (show decide ((x1.1 : Int) < raw.length) = false from hc); omega); replace hc : True := trivial)
|(have hend : x1.1 = b.length := (by have := of_decide_eq_false (show decide ((x1.1 : Int) < (b.length : Int)) = false from hc); omega); refine Exists.elim (⟨_, rfl⟩ : ∃ Ps : List (Net × List Int), Ps = [(⟨x.origin, x.static, ys⟩, b), (m, b), (m, othL raw (m.origin.length + 1) b.length x1.1), (x, othL raw (m.origin.length + 1) b.length x1.1)]) (fun Ps hPs => ?_); have hPl : Ps.length = 4 := (by rw [hPs]; rfl); have hPP : ∀ q ∈ Ps, QQ q := (by intro q hq; rw [hPs] at hq; simp only [List.mem_cons, List.not_mem_nil, or_false] at hq; rcases hq with rfl | rfl | rfl | rfl; exact ⟨hyok, by show b.length ≤ _; omega⟩; exact ⟨hsm2.ok, by show b.length ≤ _; omega⟩; exact ⟨hsm2.ok, by rw [othL_len]; omega⟩; exact ⟨hxs.ok, by rw [othL_len]; omega⟩); replace hc : True := trivial)
|(with_reducible refine awp_loopU (b := f6p21) (fun z : Nat × Unit × Unit => z.1 ≤ 4) (fun z => 4 - z.1) (fun z => [(155, .d (.v (.int .i64 z.1)))]) (fun z => [(153, .row 93 4 0 (Ps.map ppD))]) ((0, (), ())) (Nat.zero_le _) (Wk.refl _ _) (Wk_sub rfl rfl ?_ ?_) (fun z hz => ?_))
|(have hz3 : z.1 < 4 := (by have := of_decide_eq_true (show decide ((z.1 : Int) < 4) = true from hc); omega); refine Exists.elim (at_drop ppD Ps z.1 (by omega)) (fun q hq => ?_); have hP := hPP q (List.mem_of_getElem? hq.2.2.1); have g6 := hq.2.1; simp only [Int.toNat_natCast] at g6; have hI := is_fn n q.1 hsm.ok hP.ok q.2 hP.len; have hF := fits_fn n q.1 hsm.ok hP.ok q.2 hP.len; refine Exists.elim (⟨_, rfl⟩ : ∃ c, isCode n q.1 q.2 = c) (fun c hcc => ?_); rw [hcc] at hI hF; have hNm := errno_fn c; refine Exists.elim (errV_v c) (fun ev hev => ?_); rw [hev] at hI hNm; replace hc : True := trivial)
|simp only [f6r0, f6r1, f6r2, f6r3, f6r4, f6r5, f6r6, f6r7, f6r8, f6r9, f6r10, f6r11, f6r12, f6r13, f6r14, f6r15, f6r16, f6r17, f6r18, f6r19, f6r20, f6r21, f6r22, f6r23, f6r24, f6r25, f6r26, f6r27, f6r28, f6r29, f6r30, f6r31, f6r32, g0, g1, g2, g3, g4, g5, g6, g9, hkk, f6k, te32, te35, te25, rovO, List.length_map, List.length_replicate, othL_len, Int.toNat_natCast, beq_self_eq_true, List.getElem?_cons_zero, List.getElem?_cons_succ, runG_nil, runG_u, runG_g, runG_ucS, stp, avL, avS, evs, evX, lget, lput, strip, putO, PO.dst, updO, okR, cells, splice, AV.cell, toD, toDs, binV, sameK, pickV, guardOf, okL_nil, sides, argsOf, rawOf, dv, dvL, owns, ownsL, flat, flatL, lkeep, seqQ, blockQ, initS, List.drop_succ_cons, List.drop_zero, List.take_succ_cons, List.take_zero, List.getD_cons_zero, List.getD_cons_succ, List.length_cons, List.length_nil, List.set_cons_zero, List.set_cons_succ, List.map_cons, List.map_nil, List.all_cons, List.all_nil, List.elem_cons, List.elem_nil, Option.getD_some, Option.getD_none, Option.bind_some, Option.isNone_none, reduceIte, reduceCtorEq, Nat.reduceEqDiff, Nat.reduceAdd, Nat.reduceLeDiff, Nat.zero_add, Nat.add_zero, Nat.reduceBEq, Bool.and_self, Bool.and_true, Bool.true_and, Bool.or_self, Bool.or_false, Bool.false_or, Bool.or_true, Bool.true_or, true_and, and_true, and_self, implies_true, forall_const, Bool.false_eq_true, id_eq, retQ, resOf, resV, Option.some.injEq, exists_eq_left', AV.d.injEq, D.v.injEq, Value.bool.injEq, imp_self, bldF, bldS, toVals, eqLs, Option.map_some, imp_false, not_true_eq_false, not_false_eq_true, foot, wrs, nm, nmL, PG.reads, PG.dst, PO.reads, X.sl, sls, slB, List.append_nil, List.cons_append, List.nil_append, Option.toList_some, Option.toList_none, loopQ_exit, loopQ_ret, subS, subO, Bool.bne_false, Bool.bne_true, elemsOf, bslD, bslS, lputs, List.headD_cons, sealS, sealO, sealV, sealL, sealsS, sealsO, Bool.true_bne, Bool.false_bne, bne_self_eq_false, Int.reduceToNat, oSl, resR, argsN, dvN]
|simp only [f6r0, f6r1, f6r2, f6r3, f6r4, f6r5, f6r6, f6r7, f6r8, f6r9, f6r10, f6r11, f6r12, f6r13, f6r14, f6r15, f6r16, f6r17, f6r18, f6r19, f6r20, f6r21, f6r22, f6r23, f6r24, f6r25, f6r26, f6r27, f6r28, f6r29, f6r30, f6r31, f6r32, f6k, te32, te35, te25, rovO, List.length_map, List.length_replicate, othL_len, Int.toNat_natCast, beq_self_eq_true, List.getElem?_cons_zero, List.getElem?_cons_succ, runG_nil, runG_u, runG_g, runG_ucS, stp, avL, avS, evs, evX, lget, lput, strip, putO, PO.dst, updO, okR, cells, splice, AV.cell, toD, toDs, binV, sameK, pickV, guardOf, okL_nil, sides, argsOf, rawOf, dv, dvL, owns, ownsL, flat, flatL, lkeep, seqQ, blockQ, initS, List.drop_succ_cons, List.drop_zero, List.take_succ_cons, List.take_zero, List.getD_cons_zero, List.getD_cons_succ, List.length_cons, List.length_nil, List.set_cons_zero, List.set_cons_succ, List.map_cons, List.map_nil, List.all_cons, List.all_nil, List.elem_cons, List.elem_nil, Option.getD_some, Option.getD_none, Option.bind_some, Option.isNone_none, reduceIte, reduceCtorEq, Nat.reduceEqDiff, Nat.reduceAdd, Nat.reduceLeDiff, Nat.zero_add, Nat.add_zero, Nat.reduceBEq, Bool.and_self, Bool.and_true, Bool.true_and, Bool.or_self, Bool.or_false, Bool.false_or, Bool.or_true, Bool.true_or, true_and, and_true, and_self, implies_true, forall_const, Bool.false_eq_true, id_eq, retQ, resOf, resV, Option.some.injEq, exists_eq_left', AV.d.injEq, D.v.injEq, Value.bool.injEq, imp_self, bldF, bldS, toVals, eqLs, Option.map_some, imp_false, not_true_eq_false, not_false_eq_true, foot, wrs, nm, nmL, PG.reads, PG.dst, PO.reads, X.sl, sls, slB, List.append_nil, List.cons_append, List.nil_append, Option.toList_some, Option.toList_none, loopQ_exit, loopQ_ret, subS, subO, Bool.bne_false, Bool.bne_true, elemsOf, bslD, bslS, lputs, List.headD_cons, sealS, sealO, sealV, sealL, sealsS, sealsO, Bool.true_bne, Bool.false_bne, bne_self_eq_false, Int.reduceToNat, oSl, resR, argsN, dvN]
  all_goals try first
|omega
|(with_reducible rfl)
|(show Value.int _ 0 = _; rfl)
|exact count64 hlt (by omega)
|exact count64 (n := 4) (by omega) (by omega)
|(rw [← hve]; exact oth_put hlt hrl)
|(rw [oth_skip hrn]; done)
|(rw [← oth_zero]; done)
|exact ps_turn hys hPs
|(rw [hPs, hys]; rfl)
|(simp at hc; done)
  all_goals trace_state
theorem auditTurned_as (av : List AV) (h : dArgs te 8 [25, 5, 25, 22, 81, 5] av) : FnS Tryz.prog 6 av (.d (.v (.bool true))) := by
  obtain ⟨x, _, rfl, hx, y, _, rfl, hy, z, _, rfl, hz, u, _, rfl, hu, v, _, rfl, hv, a, _, rfl, ha, rfl⟩ := h
  obtain ⟨s1, rfl, h1⟩ := shape_of (n := 3) hx
  obtain ⟨w, rfl, hw⟩ := u8_row (n := 7) hy
  obtain ⟨s2, rfl, h2⟩ := shape_of (n := 3) hz
  obtain ⟨raw, rfl, hraw⟩ := u8s_of (n := 6) hu
  obtain ⟨wi, rfl, hwi⟩ := wire_row (n := 4) hv
  obtain ⟨at_, rfl, hat⟩ := u8_row (n := 7) ha
  cases hx : s1.netV w with
  | none =>
    cases hy : s2.netV w with
    | none => exact auditTurned_n1 s1 h1 w hw s2 h2 raw hraw wi hwi at_ hat hx hy
    | some y =>
      obtain ⟨m, p2⟩ := y
      exact auditTurned_n3 s1 h1 w hw s2 h2 raw hraw wi hwi at_ hat m p2 hx hy
  | some x =>
    obtain ⟨n, p⟩ := x
    cases hy : s2.netV w with
    | none => exact auditTurned_n2 s1 h1 w hw s2 h2 raw hraw wi hwi at_ hat n p hx hy
    | some y =>
      obtain ⟨m, p2⟩ := y
      exact auditTurned_go s1 h1 w hw s2 h2 raw hraw wi hwi at_ hat n p hx m p2 hy
end Go.Proofs.YtgkkaimcchlnaaaGreatDoor
