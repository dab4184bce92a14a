/- The law AuditRoutes: whatever the input, it returns true and changes nothing; where errors.errorType holds what the program's text lays it to. Printed by a program of this project (wip/mq). -/
import Derived.Test.YtokfackbnnkbnaaGreatDoorNetF
import Derived.Test.YtokfackbnnkbnaaGreatDoorArgsS
import Derived.Test.YtokfackbnnkbnaaGreatDoorOf
import Derived.Test.YtokfackbnnkbnaaGreatDoorAwk19
import Derived.Test.YtokfackbnnkbnaaGreatDoorMqPl
import Derived.Test.YtokfackbnnkbnaaGreatDoorCard
import Derived.Test.YtokfackbnnkbnaaGreatDoorStable
import Derived.Test.YtokfackbnnkbnaaGreatDoorSome
import Derived.Test.YtokfackbnnkbnaaGreatDoorQ18
set_option linter.unusedVariables false
set_option linter.unusedSimpArgs false

namespace Go.Proofs.YtokfackbnnkbnaaGreatDoor
open Go Mq Go.ChangeShapes Go.WideShapes Go.ChangeAt Go.RowKit
/-! maquette/maquettelaw19.AuditRoutes -/
def f3r0 : List PG := [.u (.bx 5 (.t 0)), .u (.bx 7 (.t 2)), .u (.mv 10 (.k (.bool false)))]
def f3r1 : List PG := [.uc 28 4 [], .u (.no 29 (.t 28))]
def f3r2 : List PG := [.u (.mv 10 (.k (.bool false)))]
abbrev f3p0 : PC := .seq (.reg f3r2) (.ret)
abbrev f3p1 : PC := .cond (.t 29) (f3p0) (.skip)
def f3r3 : List PG := [.u (.ld 31 6 true (.t 5)), .u (.mv 32 (.t 1)), .uc 33 5 [.t 31, .t 32], .u (.mv 30 (.t 33)), .u (.ext 34 (.t 30) 0), .u (.ext 35 (.t 30) 1), .u (.ext 36 (.t 30) 2), .u (.al 11 [.nl 1, .nl 1, .nl 1]), .u (.al 12 [.d (.v (.int .u32 0)), .d (.v (.int .i64 0))]), .u (.st 3 (.t 11) (.t 34)), .u (.st 2 (.t 12) (.t 35)), .u (.mv 13 (.t 36))]
def f3r4 : List PG := [.u (.ld 38 6 true (.t 7)), .u (.mv 39 (.t 1)), .uc 40 5 [.t 38, .t 39], .u (.mv 37 (.t 40)), .u (.ext 41 (.t 37) 0), .u (.ext 42 (.t 37) 1), .u (.ext 43 (.t 37) 2), .u (.al 14 [.nl 1, .nl 1, .nl 1]), .u (.al 15 [.d (.v (.int .u32 0)), .d (.v (.int .i64 0))]), .u (.st 3 (.t 14) (.t 41)), .u (.st 2 (.t 15) (.t 42)), .u (.mv 16 (.t 43))]
def f3r5 : List PG := [.u (.mv 44 (.t 13)), .u (.no 45 (.t 44)), .u (.mv 46 (.t 45)), .g 46 false (.mv 47 (.t 16)), .g 46 false (.no 48 (.t 47)), .u (.pick 49 (.t 46) (.k (.bool true)) (.t 48))]
def f3r6 : List PG := [.u (.mv 10 (.k (.bool true)))]
abbrev f3p2 : PC := .seq (.reg f3r6) (.ret)
abbrev f3p3 : PC := .cond (.t 49) (f3p2) (.skip)
def f3r7 : List PG := [.u (.ld 51 3 true (.t 11)), .uc 52 6 [.t 51], .u (.mv 50 (.t 52)), .u (.ext 53 (.t 50) 0), .u (.ext 54 (.t 50) 1), .u (.mv 17 (.t 53)), .u (.mv 18 (.t 54))]
def f3r8 : List PG := [.u (.ld 56 3 true (.t 11)), .u (.mv 57 (.t 17)), .uc 58 7 [.t 56, .t 57], .u (.mv 55 (.t 58)), .u (.ext 59 (.t 55) 0), .u (.ext 60 (.t 55) 1), .u (.al 19 [.nl 1, .nl 1, .nl 1]), .u (.st 3 (.t 19) (.t 59)), .u (.mv 20 (.t 60))]
def f3r9 : List PG := [.u (.mv 61 (.t 18)), .u (.beqn 62 true (.t 61)), .u (.mv 63 (.t 62)), .g 63 false (.mv 64 (.t 20)), .g 63 false (.beqn 65 true (.t 64)), .u (.pick 66 (.t 63) (.k (.bool true)) (.t 65))]
def f3r10 : List PG := [.u (.mv 10 (.k (.bool false)))]
abbrev f3p4 : PC := .seq (.reg f3r10) (.ret)
abbrev f3p5 : PC := .cond (.t 66) (f3p4) (.skip)
def f3r11 : List PG := [.u (.mv 67 (.t 17)), .u (.len 68 (.t 67)), .u (.mks 69 3 1 8 [.d (.v (.int .i64 0))] (.t 68)), .u (.mv 21 (.t 69))]
def f3r12 : List PG := [.u (.mv 70 (.t 21)), .u (.len 71 (.t 70)), .u (.mv 72 (.k (.int .i64 0)))]
def f3r13 : List PG := [.u (.bo 73 .lss (.t 72) (.t 71))]
def f3r14 : List PG := [.u (.mv 74 (.t 72)), .u (.mv 22 (.t 74))]
def f3r15 : List PG := [.u (.mv 75 (.t 22)), .u (.mv 76 (.t 3)), .u (.len 77 (.t 76)), .u (.bo 78 .lss (.t 75) (.t 77))]
def f3r16 : List PG := [.u (.mv 79 (.t 21)), .u (.mv 80 (.t 22)), .u (.mv 81 (.t 3)), .u (.mv 82 (.t 22)), .u (.ia 83 1 (.t 81) (.t 82)), .u (.ld 84 1 false (.t 83)), .u (.cv 85 .i64 (.t 84)), .u (.fa 86 0 (.t 14)), .u (.ld 87 1 false (.t 86)), .u (.len 88 (.t 87)), .u (.bo 89 .rem (.t 85) (.t 88)), .u (.ia 90 1 (.t 79) (.t 80)), .u (.st 1 (.t 90) (.t 89))]
abbrev f3p6 : PC := .cond (.t 78) (.regD f3r16 []) (.skip)
abbrev f3p7 : PC := .seq (.reg f3r15) (f3p6)
def f3r17 : List PG := [.u (.bo 91 .add (.t 72) (.k (.int .i64 1))), .u (.mv 72 (.t 91))]
abbrev f3p8 : PC := .seq (.block 1 (.seq (.reg f3r14) (f3p7))) (.reg f3r17)
abbrev f3p9 : PC := .seq (.cond (.t 73) (.skip) (.exit 0)) (f3p8)
abbrev f3p10 : PC := .seq (.reg f3r13) (f3p9)
abbrev f3p11 : PC := .block 0 (.loop (f3p10))
def f3r18 : List PG := [.u (.ld 92 3 true (.t 19)), .u (.mv 93 (.t 17)), .u (.bld 94 [.nl 1, .nl 1, .nl 1, .nl 1] [((0, 3), .t 92), ((3, 1), .t 93)]), .u (.ld 95 3 true (.t 14)), .u (.mv 96 (.t 21)), .u (.bld 97 [.nl 1, .nl 1, .nl 1, .nl 1] [((0, 3), .t 95), ((3, 1), .t 96)]), .u (.ld 98 3 true (.t 11)), .u (.mv 99 (.t 21)), .u (.bld 100 [.nl 1, .nl 1, .nl 1, .nl 1] [((0, 3), .t 98), ((3, 1), .t 99)]), .u (.bsl 101 45 4 [.t 94, .t 97, .t 100]), .u (.len 102 (.t 101)), .u (.mv 103 (.k (.int .i64 0)))]
def f3r19 : List PG := [.u (.bo 104 .lss (.t 103) (.t 102))]
def f3r20 : List PG := [.u (.ia 105 4 (.t 101) (.t 103)), .u (.ld 106 4 true (.t 105)), .u (.al 24 [.nl 1, .nl 1, .nl 1, .nl 1]), .u (.st 4 (.t 24) (.t 106))]
def f3r21 : List PG := [.u (.mv 107 (.t 4)), .u (.fa 108 0 (.t 24)), .u (.fa 109 0 (.t 108)), .u (.ld 110 1 false (.t 109)), .u (.len 111 (.t 110)), .uc 112 8 [.t 107, .t 111], .u (.mv 25 (.t 112))]
def f3r22 : List PG := [.u (.mv 26 (.k (.int .i64 0)))]
def f3r23 : List PG := [.u (.mv 113 (.t 26)), .u (.bo 114 .lss (.t 113) (.k (.int .i64 12))), .u (.mv 115 (.t 114)), .g 115 true (.fa 116 0 (.t 24)), .g 115 true (.ld 117 3 true (.t 116)), .g 115 true (.mv 118 (.t 25)), .gc 115 true 119 9 [.t 117, .t 118], .g 115 true (.no 120 (.t 119)), .u (.pick 121 (.t 115) (.t 120) (.k (.bool false)))]
abbrev f3p12 : PC := .cond (.t 121) (.skip) (.exit 4)
def f3r24 : List PG := [.u (.mv 124 (.t 25)), .u (.len 125 (.t 124)), .u (.mv 126 (.k (.int .i64 0)))]
def f3r25 : List PG := [.u (.bo 127 .lss (.t 126) (.t 125))]
def f3r26 : List PG := [.u (.mv 128 (.t 126)), .u (.mv 27 (.t 128))]
def f3r27 : List PG := [.u (.mv 129 (.t 25)), .u (.mv 130 (.t 27)), .u (.fa 131 0 (.t 24)), .u (.ld 132 3 true (.t 131)), .u (.mv 133 (.t 25)), .u (.mv 134 (.t 27)), .uc 135 10 [.t 132, .t 133, .t 134], .u (.ia 136 4 (.t 129) (.t 130)), .u (.st 4 (.t 136) (.t 135))]
def f3r28 : List PG := [.u (.bo 137 .add (.t 126) (.k (.int .i64 1))), .u (.mv 126 (.t 137))]
abbrev f3p13 : PC := .seq (.block 7 (.seq (.reg f3r26) (.reg f3r27))) (.reg f3r28)
abbrev f3p14 : PC := .seq (.cond (.t 127) (.skip) (.exit 6)) (f3p13)
abbrev f3p15 : PC := .seq (.reg f3r25) (f3p14)
abbrev f3p16 : PC := .block 6 (.loop (f3p15))
def f3r29 : List PG := [.u (.mv 122 (.t 26)), .u (.bo 123 .add (.t 122) (.k (.int .i64 1))), .u (.mv 26 (.t 123))]
abbrev f3p17 : PC := .seq (.block 5 (.seq (.reg f3r24) (f3p16))) (.reg f3r29)
abbrev f3p18 : PC := .seq (.seq (.reg f3r23) (f3p12)) (f3p17)
abbrev f3p19 : PC := .block 4 (.loop (f3p18))
def f3r30 : List PG := [.u (.fa 138 0 (.t 24)), .u (.ld 139 3 true (.t 138)), .u (.mv 140 (.t 25)), .uc 141 9 [.t 139, .t 140], .u (.mv 142 (.t 141)), .g 142 true (.ld 143 3 true (.t 11)), .g 142 true (.fa 144 0 (.t 24)), .g 142 true (.ld 145 3 true (.t 144)), .g 142 true (.fa 146 3 (.t 24)), .g 142 true (.ld 147 1 false (.t 146)), .gc 142 true 148 11 [.t 143, .t 145, .t 147], .g 142 true (.beqn 149 false (.t 148)), .u (.pick 150 (.t 142) (.t 149) (.k (.bool false))), .u (.mv 151 (.t 150)), .g 151 true (.ld 152 3 true (.t 11)), .g 151 true (.fa 153 3 (.t 24)), .g 151 true (.ld 154 1 false (.t 153)), .g 151 true (.mv 155 (.t 25)), .gc 151 true 156 12 [.t 154, .t 155], .gc 151 true 157 9 [.t 152, .t 156], .g 151 true (.no 158 (.t 157)), .u (.pick 159 (.t 151) (.t 158) (.k (.bool false)))]
def f3r31 : List PG := [.u (.mv 10 (.k (.bool false)))]
abbrev f3p20 : PC := .seq (.reg f3r31) (.ret)
abbrev f3p21 : PC := .cond (.t 159) (f3p20) (.skip)
abbrev f3p22 : PC := .seq (.regD f3r30 []) (f3p21)
abbrev f3p23 : PC := .seq (.seq (.reg f3r22) (f3p19)) (f3p22)
abbrev f3p24 : PC := .seq (.reg f3r21) (f3p23)
def f3r32 : List PG := [.u (.bo 160 .add (.t 103) (.k (.int .i64 1))), .u (.mv 103 (.t 160))]
abbrev f3p25 : PC := .seq (.block 3 (.seq (.reg f3r20) (f3p24))) (.reg f3r32)
abbrev f3p26 : PC := .seq (.cond (.t 104) (.skip) (.exit 2)) (f3p25)
abbrev f3p27 : PC := .seq (.reg f3r19) (f3p26)
abbrev f3p28 : PC := .block 2 (.loop (f3p27))
def f3r33 : List PG := [.u (.mv 10 (.k (.bool true)))]
abbrev f3p29 : PC := .seq (.reg f3r33) (.ret)
abbrev f3p30 : PC := .seq (.seq (.reg f3r18) (f3p28)) (f3p29)
abbrev f3p31 : PC := .seq (.seq (.reg f3r12) (f3p11)) (f3p30)
abbrev f3p32 : PC := .seq (.reg f3r11) (f3p31)
abbrev f3p33 : PC := .seq (.seq (.reg f3r9) (f3p5)) (f3p32)
abbrev f3p34 : PC := .seq (.reg f3r8) (f3p33)
abbrev f3p35 : PC := .seq (.reg f3r7) (f3p34)
abbrev f3p36 : PC := .seq (.seq (.reg f3r5) (f3p3)) (f3p35)
abbrev f3p37 : PC := .seq (.reg f3r4) (f3p36)
abbrev f3p38 : PC := .seq (.reg f3r3) (f3p37)
abbrev f3p39 : PC := .seq (.seq (.reg f3r1) (f3p1)) (f3p38)
abbrev f3pc : PC := .seq (.reg f3r0) (f3p39)
def f3k : List Nat := [0, 1, 2, 3, 4, 5, 7, 10, 11, 13, 14, 16, 17, 18, 19, 20, 21, 22, 24, 25, 26, 27, 29, 49, 66, 71, 72, 73, 78, 101, 102, 103, 104, 121, 125, 126, 127, 159]
theorem f3c : Tryz.f3.body.bind (cC te Tryz.f3.ntmps) = some f3pc := by kernel_rfl
set_option maxRecDepth 20000
set_option maxHeartbeats 4000000
set_option linter.unusedSimpArgs false
set_option linter.unusedVariables false

def othV (raw : List Int) (M i : Nat) : Int := if i < raw.length then (raw.getD i 0).tmod M else 0
def othL (raw : List Int) (M N k : Nat) : List Int := (List.range N).map fun j => if j < k then othV raw M j else 0
theorem othL_len (raw : List Int) (M N k : Nat) : (othL raw M N k).length = N := by simp [othL]
theorem oth_zero (raw : List Int) (M N : Nat) : List.replicate N [D.v (.int .i64 0)] = (othL raw M N 0).map iD := by
  apply List.ext_getElem?
  intro k
  simp only [othL, List.getElem?_map, List.getElem?_replicate]
  by_cases h : k < N <;> simp [h]
theorem oth_set {raw : List Int} {M N k : Nat} (h : k < N) : (othL raw M N k).set k (othV raw M k) = othL raw M N (k + 1) := by
  apply List.ext_getElem?
  intro i
  by_cases hi : i = k
  · subst hi; simp [othL, h]
  · rw [List.getElem?_set_ne (Ne.symm hi)]
    simp only [othL, List.getElem?_map]
    by_cases h2 : i < N
    · simp only [List.getElem?_range h2, Option.map_some]
      by_cases h3 : i < k
      · rw [if_pos h3, if_pos (by omega)]
      · rw [if_neg h3, if_neg (by omega)]
    · simp [h2]
theorem oth_skip {raw : List Int} {M N k : Nat} (h : ¬ k < raw.length) : othL raw M N k = othL raw M N (k + 1) := by
  unfold othL
  refine List.map_congr_left fun j _ => ?_
  by_cases h1 : j < k
  · rw [if_pos h1, if_pos (by omega)]
  · rw [if_neg h1]
    by_cases h2 : j < k + 1
    · have : j = k := by omega
      subst this
      rw [if_pos h2]; unfold othV; rw [if_neg h]
    · rw [if_neg h2]
theorem oth_put {e s g : Nat} {raw : List Int} {M N k : Nat} (h : k < N) (hr : k < raw.length) : AO.row e s g (((othL raw M N k).map iD).set k [.v (.int .i64 ((raw.getD k 0).tmod M))]) = AO.row e s g ((othL raw M N (k + 1)).map iD) := by
  have : (raw.getD k 0).tmod M = othV raw M k := by unfold othV; rw [if_pos hr]
  rw [this, show [D.v (.int .i64 (othV raw M k))] = iD (othV raw M k) from rfl, ← List.map_set, oth_set h]
theorem oth_rng {raw : List Int} (hr : ∀ x ∈ raw, 0 ≤ x ∧ x ≤ 255) {M N k : Nat} (hM : 0 < M) : ∀ v ∈ othL raw M N k, 0 ≤ v ∧ v < M := by
  intro v hv
  simp only [othL, List.mem_map] at hv
  obtain ⟨j, _, rfl⟩ := hv
  split
  · unfold othV
    split
    · rename_i h2
      have := hr _ (List.mem_of_getElem? (some_getD 0 h2))
      rw [Int.tmod_eq_emod_of_nonneg this.1]
      exact ⟨Int.emod_nonneg _ (by omega), Int.emod_lt_of_pos _ (by omega)⟩
    · omega
  · omega

theorem rt12 {k : Nat} {c : Bool} (h : (if decide ((k : Int) < 12) = true then c else false) = true) : k < 12 := by
  by_cases q : (k : Int) < 12
  · omega
  · rw [decide_eq_false q] at h; simp at h
theorem fin1 {a c : Bool} (h : (if (if a = true then true else false) = true then !c else false) = true) : a = true ∧ c = false := by cases a <;> cases c <;> simp_all
abbrev ppD (p : Net × List Int) : List D := [.sl 1 (p.1.origin.map bD), .sl 1 (p.1.static.map iD), .sl 1 (p.1.edges.map esD), .sl 1 (p.2.map iD)]
/-- What one may ask of the networks of the examples. -/
structure PP (n : Net) (p : Net × List Int) : Prop where
  small : p.1.small
  most : p.1.origin.length ≤ 64
  may : p.1.May
  len : p.2.length ≤ 64
theorem err_cases (c : Int) : (c = 0 ∧ errV c = .d (.v .nilIface)) ∨ (c ≠ 0 ∧ errV c = .d (.v (.iface 60 (.int .i64 c)))) := by
  unfold errV
  by_cases h : c = 0
  · rw [if_pos h]; exact .inl ⟨h, rfl⟩
  · rw [if_neg h]; exact .inr ⟨h, rfl⟩
theorem set_row {f : Attr → List D} {e s g : Nat} (L : List Attr) (k : Nat) (a : Attr) (hf : f = Attr.row) : AO.row e s g ((L.map f).set k [.v (.bool a.ok), .v (.int .i64 a.pref), .v (.int .i64 a.cost), .v (.int .u8 a.tags)]) = AO.row e s g ((L.set k a).map f) := by subst hf; exact some_set L k a

theorem auditRoutes_n1 (s1 : Shape) (h1 : s1.ok) (w : Int) (hw : 0 ≤ w ∧ w ≤ 255) (s2 : Shape) (h2 : s2.ok) (raw ns : List Int) (hraw : B8 raw) (hns : B16 ns) (hx : s1.netV w = none) (hy : s2.netV w = none) : FnS Tryz.prog 3 [s1.av, .d (.v (.int .u8 w)), s2.av, .d (.sl 1 (raw.map uD)), .d (.sl 1 (ns.map wD))] (.d (.v (.bool true))) := by
  have hN := netOfF_fn s1 h1 w hw
  have hN2 := netOfF_fn s2 h2 w hw
  rw [hx] at hN
  rw [hy] at hN2
  simp only [netA] at hN hN2
  refine fn_of teok Tryz.func3 (by kernel_rfl) f3c f3k [.tmp 10] rfl (by show 5 ≤ 161; omega) ?_
  repeat' first
  | (exact absurd hc (by decide))
  | (with_reducible first | refine awp_seq ?_ | refine awp_block ?_ | refine awp_reg ?_ | refine awp_regD ?_ | refine awp_ret ?_ | refine awp_skip ?_ | refine awp_exit ?_ | refine normQ_of ?_ | refine wkE_of ?_ | refine runD_nil ?_ | refine runD_cons ?_ | refine runF_cons ?_ | refine runF_nil ?_ | refine KF_of ?_ | refine chkQ_of rfl ?_)
  | with_reducible refine awp_cond (by simp only [evX, lget, Option.getD_some, reduceIte, Nat.reduceEqDiff]; rfl) (fun hc => ?_) (fun hc => ?_)
  | with_reducible refine CallU_of (f := 4) (awake19_fn) (by first | exact Or.inr (Or.inl rfl) | exact Or.inl rfl) ?_
  | with_reducible refine CallU_of (f := 5) (hN) (by first | exact Or.inr (Or.inl rfl) | exact Or.inl rfl) ?_
  | with_reducible refine CallU_of (f := 5) (hN2) (by first | exact Or.inr (Or.inl rfl) | exact Or.inl rfl) ?_
  | (with_reducible assumption)
  | with_reducible refine fun (hG : okL _) => ?_
  | (with_reducible refine fun (hT : (_ : Bool) = _) => ?_)
  | (with_reducible first | exact hG.2 | exact hG.2.2 | exact hG.2.2.2 | exact hG.2.2.2.2)
  | with_reducible refine okL_mk ?_ ?_
  | with_reducible refine And.intro ?_ ?_
  | simp only [f3r0, f3r1, f3r2, f3r3, f3r4, f3r5, f3r6, f3r7, f3r8, f3r9, f3r10, f3r11, f3r12, f3r13, f3r14, f3r15, f3r16, f3r17, f3r18, f3r19, f3r20, f3r21, f3r22, f3r23, f3r24, f3r25, f3r26, f3r27, f3r28, f3r29, f3r30, f3r31, f3r32, f3r33, f3k, te32, te35, te25, List.getElem?_cons_zero, List.getElem?_cons_succ, runG_nil, runG_u, runG_g, runG_ucS, runG_gcS, stp, avL, avS, evs, evX, lget, lput, strip, putO, PO.dst, updO, okR, cells, splice, AV.cell, toD, toDs, binV, sameK, pickV, guardOf, okL_nil, sides, argsOf, rawOf, dv, dvL, owns, ownsL, flat, flatL, lkeep, seqQ, blockQ, initS, List.drop_succ_cons, List.drop_zero, List.take_succ_cons, List.take_zero, List.getD_cons_zero, List.getD_cons_succ, List.length_cons, List.length_nil, List.set_cons_zero, List.set_cons_succ, List.map_cons, List.map_nil, List.all_cons, List.all_nil, List.elem_cons, List.elem_nil, Option.getD_some, Option.getD_none, Option.bind_some, Option.isNone_none, reduceIte, reduceCtorEq, Nat.reduceEqDiff, Nat.reduceAdd, Nat.reduceLeDiff, Nat.zero_add, Nat.add_zero, Nat.reduceBEq, Bool.and_self, Bool.and_true, Bool.true_and, Bool.or_self, Bool.or_false, Bool.false_or, Bool.or_true, Bool.true_or, true_and, and_true, and_self, implies_true, forall_const, Bool.false_eq_true, id_eq, retQ, resOf, resV, Option.some.injEq, exists_eq_left', AV.d.injEq, D.v.injEq, Value.bool.injEq, imp_self, bldF, bldS, toVals, eqLs, Option.map_some, imp_false, not_true_eq_false, not_false_eq_true, foot, wrs, nm, nmL, PG.reads, PG.dst, PO.reads, X.sl, sls, slB, List.append_nil, List.cons_append, List.nil_append, Option.toList_some, Option.toList_none, loopQ_exit, loopQ_ret, subS, subO, Bool.bne_false, Bool.bne_true, elemsOf, bslD, bslS, lputs, List.headD_cons, sealS, sealO, sealV, sealL, sealsS, sealsO, Bool.true_bne, Bool.false_bne, bne_self_eq_false, Int.reduceToNat, oSl, resR, argsN, dvN]
  all_goals first
    | rfl
    | decide
    | trace_state

theorem auditRoutes_n2 (s1 : Shape) (h1 : s1.ok) (w : Int) (hw : 0 ≤ w ∧ w ≤ 255) (s2 : Shape) (h2 : s2.ok) (raw ns : List Int) (hraw : B8 raw) (hns : B16 ns) (n : Net) (p : Int × Int) (hx : s1.netV w = some (n, p)) (hy : s2.netV w = none) : FnS Tryz.prog 3 [s1.av, .d (.v (.int .u8 w)), s2.av, .d (.sl 1 (raw.map uD)), .d (.sl 1 (ns.map wD))] (.d (.v (.bool true))) := by
  have hN := netOfF_fn s1 h1 w hw
  have hN2 := netOfF_fn s2 h2 w hw
  rw [hx] at hN
  rw [hy] at hN2
  simp only [netA] at hN hN2
  refine fn_of teok Tryz.func3 (by kernel_rfl) f3c f3k [.tmp 10] rfl (by show 5 ≤ 161; omega) ?_
  repeat' first
  | (exact absurd hc (by decide))
  | (with_reducible first | refine awp_seq ?_ | refine awp_block ?_ | refine awp_reg ?_ | refine awp_regD ?_ | refine awp_ret ?_ | refine awp_skip ?_ | refine awp_exit ?_ | refine normQ_of ?_ | refine wkE_of ?_ | refine runD_nil ?_ | refine runD_cons ?_ | refine runF_cons ?_ | refine runF_nil ?_ | refine KF_of ?_ | refine chkQ_of rfl ?_)
  | with_reducible refine awp_cond (by simp only [evX, lget, Option.getD_some, reduceIte, Nat.reduceEqDiff]; rfl) (fun hc => ?_) (fun hc => ?_)
  | with_reducible refine CallU_of (f := 4) (awake19_fn) (by first | exact Or.inr (Or.inl rfl) | exact Or.inl rfl) ?_
  | with_reducible refine CallU_of (f := 5) (hN) (by first | exact Or.inr (Or.inl rfl) | exact Or.inl rfl) ?_
  | with_reducible refine CallU_of (f := 5) (hN2) (by first | exact Or.inr (Or.inl rfl) | exact Or.inl rfl) ?_
  | (with_reducible assumption)
  | with_reducible refine fun (hG : okL _) => ?_
  | (with_reducible refine fun (hT : (_ : Bool) = _) => ?_)
  | (with_reducible first | exact hG.2 | exact hG.2.2 | exact hG.2.2.2 | exact hG.2.2.2.2)
  | with_reducible refine okL_mk ?_ ?_
  | with_reducible refine And.intro ?_ ?_
  | simp only [f3r0, f3r1, f3r2, f3r3, f3r4, f3r5, f3r6, f3r7, f3r8, f3r9, f3r10, f3r11, f3r12, f3r13, f3r14, f3r15, f3r16, f3r17, f3r18, f3r19, f3r20, f3r21, f3r22, f3r23, f3r24, f3r25, f3r26, f3r27, f3r28, f3r29, f3r30, f3r31, f3r32, f3r33, f3k, te32, te35, te25, List.getElem?_cons_zero, List.getElem?_cons_succ, runG_nil, runG_u, runG_g, runG_ucS, runG_gcS, stp, avL, avS, evs, evX, lget, lput, strip, putO, PO.dst, updO, okR, cells, splice, AV.cell, toD, toDs, binV, sameK, pickV, guardOf, okL_nil, sides, argsOf, rawOf, dv, dvL, owns, ownsL, flat, flatL, lkeep, seqQ, blockQ, initS, List.drop_succ_cons, List.drop_zero, List.take_succ_cons, List.take_zero, List.getD_cons_zero, List.getD_cons_succ, List.length_cons, List.length_nil, List.set_cons_zero, List.set_cons_succ, List.map_cons, List.map_nil, List.all_cons, List.all_nil, List.elem_cons, List.elem_nil, Option.getD_some, Option.getD_none, Option.bind_some, Option.isNone_none, reduceIte, reduceCtorEq, Nat.reduceEqDiff, Nat.reduceAdd, Nat.reduceLeDiff, Nat.zero_add, Nat.add_zero, Nat.reduceBEq, Bool.and_self, Bool.and_true, Bool.true_and, Bool.or_self, Bool.or_false, Bool.false_or, Bool.or_true, Bool.true_or, true_and, and_true, and_self, implies_true, forall_const, Bool.false_eq_true, id_eq, retQ, resOf, resV, Option.some.injEq, exists_eq_left', AV.d.injEq, D.v.injEq, Value.bool.injEq, imp_self, bldF, bldS, toVals, eqLs, Option.map_some, imp_false, not_true_eq_false, not_false_eq_true, foot, wrs, nm, nmL, PG.reads, PG.dst, PO.reads, X.sl, sls, slB, List.append_nil, List.cons_append, List.nil_append, Option.toList_some, Option.toList_none, loopQ_exit, loopQ_ret, subS, subO, Bool.bne_false, Bool.bne_true, elemsOf, bslD, bslS, lputs, List.headD_cons, sealS, sealO, sealV, sealL, sealsS, sealsO, Bool.true_bne, Bool.false_bne, bne_self_eq_false, Int.reduceToNat, oSl, resR, argsN, dvN]
  all_goals first
    | rfl
    | decide
    | trace_state

theorem auditRoutes_n3 (s1 : Shape) (h1 : s1.ok) (w : Int) (hw : 0 ≤ w ∧ w ≤ 255) (s2 : Shape) (h2 : s2.ok) (raw ns : List Int) (hraw : B8 raw) (hns : B16 ns) (m : Net) (p : Int × Int) (hx : s1.netV w = none) (hy : s2.netV w = some (m, p)) : FnS Tryz.prog 3 [s1.av, .d (.v (.int .u8 w)), s2.av, .d (.sl 1 (raw.map uD)), .d (.sl 1 (ns.map wD))] (.d (.v (.bool true))) := by
  have hN := netOfF_fn s1 h1 w hw
  have hN2 := netOfF_fn s2 h2 w hw
  rw [hx] at hN
  rw [hy] at hN2
  simp only [netA] at hN hN2
  refine fn_of teok Tryz.func3 (by kernel_rfl) f3c f3k [.tmp 10] rfl (by show 5 ≤ 161; omega) ?_
  repeat' first
  | (exact absurd hc (by decide))
  | (with_reducible first | refine awp_seq ?_ | refine awp_block ?_ | refine awp_reg ?_ | refine awp_regD ?_ | refine awp_ret ?_ | refine awp_skip ?_ | refine awp_exit ?_ | refine normQ_of ?_ | refine wkE_of ?_ | refine runD_nil ?_ | refine runD_cons ?_ | refine runF_cons ?_ | refine runF_nil ?_ | refine KF_of ?_ | refine chkQ_of rfl ?_)
  | with_reducible refine awp_cond (by simp only [evX, lget, Option.getD_some, reduceIte, Nat.reduceEqDiff]; rfl) (fun hc => ?_) (fun hc => ?_)
  | with_reducible refine CallU_of (f := 4) (awake19_fn) (by first | exact Or.inr (Or.inl rfl) | exact Or.inl rfl) ?_
  | with_reducible refine CallU_of (f := 5) (hN) (by first | exact Or.inr (Or.inl rfl) | exact Or.inl rfl) ?_
  | with_reducible refine CallU_of (f := 5) (hN2) (by first | exact Or.inr (Or.inl rfl) | exact Or.inl rfl) ?_
  | (with_reducible assumption)
  | with_reducible refine fun (hG : okL _) => ?_
  | (with_reducible refine fun (hT : (_ : Bool) = _) => ?_)
  | (with_reducible first | exact hG.2 | exact hG.2.2 | exact hG.2.2.2 | exact hG.2.2.2.2)
  | with_reducible refine okL_mk ?_ ?_
  | with_reducible refine And.intro ?_ ?_
  | simp only [f3r0, f3r1, f3r2, f3r3, f3r4, f3r5, f3r6, f3r7, f3r8, f3r9, f3r10, f3r11, f3r12, f3r13, f3r14, f3r15, f3r16, f3r17, f3r18, f3r19, f3r20, f3r21, f3r22, f3r23, f3r24, f3r25, f3r26, f3r27, f3r28, f3r29, f3r30, f3r31, f3r32, f3r33, f3k, te32, te35, te25, List.getElem?_cons_zero, List.getElem?_cons_succ, runG_nil, runG_u, runG_g, runG_ucS, runG_gcS, stp, avL, avS, evs, evX, lget, lput, strip, putO, PO.dst, updO, okR, cells, splice, AV.cell, toD, toDs, binV, sameK, pickV, guardOf, okL_nil, sides, argsOf, rawOf, dv, dvL, owns, ownsL, flat, flatL, lkeep, seqQ, blockQ, initS, List.drop_succ_cons, List.drop_zero, List.take_succ_cons, List.take_zero, List.getD_cons_zero, List.getD_cons_succ, List.length_cons, List.length_nil, List.set_cons_zero, List.set_cons_succ, List.map_cons, List.map_nil, List.all_cons, List.all_nil, List.elem_cons, List.elem_nil, Option.getD_some, Option.getD_none, Option.bind_some, Option.isNone_none, reduceIte, reduceCtorEq, Nat.reduceEqDiff, Nat.reduceAdd, Nat.reduceLeDiff, Nat.zero_add, Nat.add_zero, Nat.reduceBEq, Bool.and_self, Bool.and_true, Bool.true_and, Bool.or_self, Bool.or_false, Bool.false_or, Bool.or_true, Bool.true_or, true_and, and_true, and_self, implies_true, forall_const, Bool.false_eq_true, id_eq, retQ, resOf, resV, Option.some.injEq, exists_eq_left', AV.d.injEq, D.v.injEq, Value.bool.injEq, imp_self, bldF, bldS, toVals, eqLs, Option.map_some, imp_false, not_true_eq_false, not_false_eq_true, foot, wrs, nm, nmL, PG.reads, PG.dst, PO.reads, X.sl, sls, slB, List.append_nil, List.cons_append, List.nil_append, Option.toList_some, Option.toList_none, loopQ_exit, loopQ_ret, subS, subO, Bool.bne_false, Bool.bne_true, elemsOf, bslD, bslS, lputs, List.headD_cons, sealS, sealO, sealV, sealL, sealsS, sealsO, Bool.true_bne, Bool.false_bne, bne_self_eq_false, Int.reduceToNat, oSl, resR, argsN, dvN]
  all_goals first
    | rfl
    | decide
    | trace_state

theorem auditRoutes_go (s1 : Shape) (h1 : s1.ok) (w : Int) (hw : 0 ≤ w ∧ w ≤ 255) (s2 : Shape) (h2 : s2.ok) (raw ns : List Int) (hraw : B8 raw) (hns : B16 ns) (n : Net) (p : Int × Int) (hx : s1.netV w = some (n, p)) (m : Net) (p2 : Int × Int) (hy : s2.netV w = some (m, p2)) : FnS Tryz.prog 3 [s1.av, .d (.v (.int .u8 w)), s2.av, .d (.sl 1 (raw.map uD)), .d (.sl 1 (ns.map wD))] (.d (.v (.bool true))) := by
  have hm : maxLen = 9223372036854775807 := rfl
  have hN := netOfF_fn s1 h1 w hw
  have hN2 := netOfF_fn s2 h2 w hw
  rw [hx] at hN
  rw [hy] at hN2
  simp only [netA] at hN hN2
  obtain ⟨hsm, hmay, nm, hnl, hn0⟩ := net_facts hx
  obtain ⟨hsm2, hmay2, mm, hnl2, hn02⟩ := net_facts hy
  simp only at hsm hmay nm hnl hn0 hsm2 hmay2 mm hnl2 hn02
  have hR := rof_yes n hsm hmay
  have hfs := find_spec nm
  have hbf := find_bf hmay
  obtain ⟨x, hqx, hqf⟩ := find_quot hmay
  have hl := hfs.1.len
  have hQ := quot_fn n hsm.ok (findV n) (by omega)
  rw [hqx] at hQ
  replace hQ : FnS Tryz.prog 7 [n.av, .d (.sl 1 ((findV n).map iD))] (.tp [x.av, .d (.v .nilIface)]) := hQ
  have hxs := qf_small_ok hsm hbf hqf
  have hxm := Net.may_spec (qf_may hbf hqf)
  have hn64 := nm.most
  have hm64 := mm.most
  have hx64 := hxm.most
  generalize findV n = b at hR hl hQ
  obtain ⟨Ps, hPs⟩ : ∃ Ps : List (Net × List Int), Ps = [(x, b), (m, othL raw m.origin.length b.length b.length), (n, othL raw m.origin.length b.length b.length)] := ⟨_, rfl⟩
  have hPl : Ps.length = 3 := by rw [hPs]; rfl
  have hPP : ∀ q ∈ Ps, PP n q := by
    intro q hq
    rw [hPs] at hq
    simp only [List.mem_cons, List.not_mem_nil, or_false] at hq
    rcases hq with rfl | rfl | rfl
    · exact ⟨hxs, hx64, hxm, by show b.length ≤ 64; omega⟩
    · exact ⟨hsm2, hm64, mm, by rw [othL_len]; omega⟩
    · exact ⟨hsm, hn64, nm, by rw [othL_len]; omega⟩
  refine fn_of teok Tryz.func3 (by kernel_rfl) f3c f3k [.tmp 10] rfl (by show 5 ≤ 161; omega) ?_
  first | (have _q := @g1; clear _q) | have g1 : Nat.pred 77 = 76 := rfl
  first | (have _q := @g2; clear _q) | have g2 : Nat.pred 77 = 76 := rfl
  first | (have _q := @g3; clear _q) | have g3 : Nat.pred 77 = 76 := rfl
  first | (have _q := @g4; clear _q) | have g4 : Nat.pred 77 = 76 := rfl
  repeat' first
  | (exact absurd hc (by decide))
  | (with_reducible refine awp_sc (l := f3r21) [(5, .gc [] [] [(8, 8112)])] ?_; unfold f3r21)
  | (with_reducible refine awp_exit_seal (i := 0) [69] ?_)
  | (with_reducible refine awp_exit_seal (i := 4) [8112] ?_)
  | (with_reducible first | refine awp_seq ?_ | refine awp_block ?_ | refine awp_reg ?_ | refine awp_regD ?_ | refine awp_ret ?_ | refine awp_skip ?_ | refine awp_exit ?_ | refine normQ_of ?_ | refine wkE_of ?_ | refine runD_nil ?_ | refine runD_cons ?_ | refine runF_cons ?_ | refine runF_nil ?_ | refine KF_of ?_ | refine chkQ_of rfl ?_)
  | with_reducible refine awp_cond (by simp only [evX, lget, Option.getD_some, reduceIte, Nat.reduceEqDiff]; rfl) (fun hc => ?_) (fun hc => ?_)
  | with_reducible refine gc_of (f := 8) (some_fnG ns hns q.1.origin.length (by omega)) ?_ rfl rfl rfl rfl (Or.inl rfl) ?_
  | with_reducible refine CallU_of (f := 4) (awake19_fn) (by first | exact Or.inr (Or.inl rfl) | exact Or.inl rfl) ?_
  | with_reducible refine CallU_of (f := 5) (hN) (by first | exact Or.inr (Or.inl rfl) | exact Or.inl rfl) ?_
  | with_reducible refine CallU_of (f := 5) (hN2) (by first | exact Or.inr (Or.inl rfl) | exact Or.inl rfl) ?_
  | with_reducible refine CallU_of (f := 6) (hR) (by first | exact Or.inr (Or.inl rfl) | exact Or.inl rfl) ?_
  | with_reducible refine CallU_of (f := 7) (hQ) (by first | exact Or.inr (Or.inl rfl) | exact Or.inl rfl) ?_
  | with_reducible refine CallU_of (f := 9) (sis_fn q.1 hP.small u.2.1 (by omega)) (by first | exact Or.inr (Or.inl rfl) | exact Or.inl rfl) ?_
  | with_reducible refine CallC_of (f := 9) (fun _ => sis_fn q.1 hP.small u.2.1 (by omega)) (by first | exact Or.inr (Or.inl rfl) | exact Or.inl rfl) ?_
  | with_reducible refine CallU_of (f := 10) (choice_fn q.1 hP.small v.2.1 (by omega) v.1) (by first | exact Or.inr (Or.inl rfl) | exact Or.inl rfl) ?_
  | with_reducible refine CallC_of (f := 11) (fun _ => hA) (by first | exact Or.inr (Or.inl rfl) | exact Or.inl rfl) ?_
  | with_reducible refine CallC_of (f := 12) (fun _ => down_fn q.2 (by omega) u.2.1 (by omega)) (by first | exact Or.inr (Or.inl rfl) | exact Or.inl rfl) ?_
  | with_reducible refine CallU_of (f := 9) (sis_fn n hsm (downL q.2 u.2.1) (by unfold downL; rw [List.length_map]; omega)) (by first | exact Or.inr (Or.inl rfl) | exact Or.inl rfl) ?_
  | with_reducible refine CallC_of (f := 9) (fun _ => sis_fn n hsm (downL q.2 u.2.1) (by unfold downL; rw [List.length_map]; omega)) (by first | exact Or.inr (Or.inl rfl) | exact Or.inl rfl) ?_
  | (with_reducible assumption)
  | with_reducible refine fun (hG : okL _) => ?_
  | (with_reducible refine fun (hT : (_ : Bool) = _) => ?_)
  | (with_reducible first | exact hG.2 | exact hG.2.2 | exact hG.2.2.2 | exact hG.2.2.2.2)
  | with_reducible refine okL_mk ?_ ?_
  | with_reducible refine And.intro ?_ ?_
  | (with_reducible refine loopQ_next ((x1.1 + 1, ())) ?_ ?_ (Wk_sub rfl rfl ?_ ?_))
  | (with_reducible refine awp_loopU (b := f3p10) (fun x1 : Nat × Unit => x1.1 ≤ b.length) (fun x1 => b.length - x1.1) (fun x1 => [(72, .d (.v (.int .i64 x1.1)))]) (fun x1 => [(69, .row 3 1 0 ((othL raw m.origin.length b.length x1.1).map iD))]) ((0, ())) (Nat.zero_le _) (Wk.refl _ _) (Wk_sub rfl rfl ?_ ?_) (fun x1 hx1 => ?_))
  | (have hlt : x1.1 < b.length := Int.ofNat_lt.1 (of_decide_eq_true (show decide ((x1.1 : Int) < (b.length : Int)) = true from hc)); replace hc : True := trivial)
  | (refine Exists.elim (at_drop uD raw x1.1 (Int.ofNat_lt.1 (of_decide_eq_true (show decide ((x1.1 : Int) < raw.length) = true from hc)))) (fun v hv => ?_); have g1 := hv.2.1; simp only [Int.toNat_natCast] at g1; have hvr := hraw.2 v (List.mem_of_getElem? hv.2.2.1); have g2 : IntKind.i64.wrap v = v := wrapI64 _ (by omega) (by omega); have hrl := hv.2.2.2; have hve : raw.getD x1.1 0 = v := gD_some hv.2.2.1; refine Exists.elim (at_drop iD (othL raw m.origin.length b.length x1.1) x1.1 (by rw [othL_len]; exact hlt)) (fun o ho => ?_); have g3 := ho.2.1; simp only [Int.toNat_natCast] at g3; replace hc : True := trivial)
  | (have hrn : ¬ x1.1 < raw.length := (by have := of_decide_eq_false (show decide ((x1.1 : Int) < raw.length) = false from hc); omega); replace hc : True := trivial)
  | (have hend : x1.1 = b.length := (by have := of_decide_eq_false (show decide ((x1.1 : Int) < (b.length : Int)) = false from hc); omega); replace hc : True := trivial)
  | (with_reducible refine loopQ_next ((z.1 + 1, (), ())) ?_ ?_ (Wk_sub rfl rfl ?_ ?_))
  | (with_reducible refine loopQ_next ((v.1 + 1, v.2.1.set v.1 (q.1.choice v.2.1 v.1), (), ())) ?_ ?_ (Wk_sub rfl rfl ?_ ?_))
  | (have _q : v.1 = q.1.origin.length := hve; with_reducible refine loopQ_next (u.1 + 1, v.2.1, ()) ?_ ?_ (Wk_sub rfl rfl ?_ ?_))
  | (with_reducible refine awp_loopU (b := f3p27) (fun z : Nat × Unit × Unit => z.1 ≤ 3) (fun z => 3 - z.1) (fun z => [(103, .d (.v (.int .i64 z.1)))]) (fun z => [(101, .row 45 4 0 (Ps.map ppD))]) ((0, (), ())) (Nat.zero_le _) (Wk.refl _ _) (Wk_sub rfl rfl ?_ ?_) (fun z hz => ?_))
  | (have hz3 : z.1 < 3 := (by have := of_decide_eq_true (show decide ((z.1 : Int) < 3) = true from hc); omega); refine Exists.elim (at_drop ppD Ps z.1 (by omega)) (fun q hq => ?_); have hP := hPP q (List.mem_of_getElem? hq.2.2.1); have g1 := hq.2.1; simp only [Int.toNat_natCast] at g1; have q1 := hP.most; have q2 := hP.len; replace hc : True := trivial)
  | (with_reducible refine awp_loopU (b := f3p18) (fun u : Nat × List Attr × Unit => u.1 ≤ 12 ∧ u.2.1.length = q.1.origin.length ∧ ∀ a ∈ u.2.1, a.ok = true → Rt (15 + 65920 * (u.1 : Int)) a) (fun u => 12 - u.1) (fun u => [(26, .d (.v (.int .i64 u.1)))]) (fun u => [(8112, .row 51 4 0 (u.2.1.map Attr.row))]) ((0, someV ns q.1.origin.length, ())) (⟨Nat.zero_le _, someV_len _ _, fun a ha ho => rt_le (some_num ns hns _ a ha ho) (by first | omega | (simp only; omega))⟩) (Wk.refl _ _) (Wk_sub rfl rfl ?_ ?_) (fun u hu => ?_))
  | (have hgo : u.1 < 12 := rt12 (show (if decide ((u.1 : Int) < 12) = true then _ else false) = true from hc); replace hc : True := trivial)
  | (have _q : (if decide ((u.1 : Int) < 12) = true then _ else false) = false := hc; have hA := is_fn n q.1 hsm.ok hP.small.ok q.2 (by omega); replace hc : True := trivial; rcases err_cases (isCode n q.1 q.2) with ⟨hcode, hA0⟩ | ⟨hcode, hA0⟩ <;> rw [hA0] at hA)
  | (with_reducible refine awp_loopU (b := f3p15) (fun v : Nat × List Attr × Unit × Unit => v.1 ≤ q.1.origin.length ∧ v.2.1.length = q.1.origin.length ∧ ∀ a ∈ v.2.1, a.ok = true → Rt (15 + 65920 * (u.1 : Int) + 1030 * (v.1 : Int)) a) (fun v => q.1.origin.length - v.1) (fun v => [(126, .d (.v (.int .i64 v.1)))]) (fun v => [(8112, .row 51 4 0 (v.2.1.map Attr.row))]) ((0, u.2.1, (), ())) (⟨Nat.zero_le _, hu.2.1, fun a ha ho => rt_le (hu.2.2 a ha ho) (by first | omega | (simp only; omega))⟩) (Wk.refl _ _) (Wk_sub rfl rfl ?_ ?_) (fun v hv => ?_))
  | (have hlv : v.1 < q.1.origin.length := (by have := of_decide_eq_true (show decide ((v.1 : Int) < (u.2.1.length : Int)) = true from hc); have := hu.2.1; omega); have hvl := hv.2.1; have hnum := set_num hP.may hv.2.1 (B := 15 + 65920 * (u.1 : Int) + 1030 * (v.1 : Int)) (by omega) (by omega) hv.2.2 v.1 v.1; have g2 : List.getD (List.map Attr.row v.2.1) v.1 [] = Attr.row (v.2.1.getD v.1 default) := (by simp [List.getD, hvl, hlv]); replace hc : True := trivial)
  | (have hve : v.1 = q.1.origin.length := (by have := of_decide_eq_false (show decide ((v.1 : Int) < (u.2.1.length : Int)) = false from hc); have := hu.2.1; have := hv.1; omega); replace hc : True := trivial)
  | simp only [f3r0, f3r1, f3r2, f3r3, f3r4, f3r5, f3r6, f3r7, f3r8, f3r9, f3r10, f3r11, f3r12, f3r13, f3r14, f3r15, f3r16, f3r17, f3r18, f3r19, f3r20, f3r22, f3r23, f3r24, f3r25, f3r26, f3r27, f3r28, f3r29, f3r30, f3r31, f3r32, f3r33, g1, g2, g3, g4, f3k, te32, te35, te25, List.length_map, List.length_replicate, othL_len, Int.toNat_natCast, List.getElem?_cons_zero, List.getElem?_cons_succ, runG_nil, runG_u, runG_g, runG_ucS, runG_gcS, stp, avL, avS, evs, evX, lget, lput, strip, putO, PO.dst, updO, okR, cells, splice, AV.cell, toD, toDs, binV, sameK, pickV, guardOf, okL_nil, sides, argsOf, rawOf, dv, dvL, owns, ownsL, flat, flatL, lkeep, seqQ, blockQ, initS, List.drop_succ_cons, List.drop_zero, List.take_succ_cons, List.take_zero, List.getD_cons_zero, List.getD_cons_succ, List.length_cons, List.length_nil, List.set_cons_zero, List.set_cons_succ, List.map_cons, List.map_nil, List.all_cons, List.all_nil, List.elem_cons, List.elem_nil, Option.getD_some, Option.getD_none, Option.bind_some, Option.isNone_none, reduceIte, reduceCtorEq, Nat.reduceEqDiff, Nat.reduceAdd, Nat.reduceLeDiff, Nat.zero_add, Nat.add_zero, Nat.reduceBEq, Bool.and_self, Bool.and_true, Bool.true_and, Bool.or_self, Bool.or_false, Bool.false_or, Bool.or_true, Bool.true_or, true_and, and_true, and_self, implies_true, forall_const, Bool.false_eq_true, id_eq, retQ, resOf, resV, Option.some.injEq, exists_eq_left', AV.d.injEq, D.v.injEq, Value.bool.injEq, imp_self, bldF, bldS, toVals, eqLs, Option.map_some, imp_false, not_true_eq_false, not_false_eq_true, foot, wrs, nm, nmL, PG.reads, PG.dst, PO.reads, X.sl, sls, slB, List.append_nil, List.cons_append, List.nil_append, Option.toList_some, Option.toList_none, loopQ_exit, loopQ_ret, subS, subO, Bool.bne_false, Bool.bne_true, elemsOf, bslD, bslS, lputs, List.headD_cons, sealS, sealO, sealV, sealL, sealsS, sealsO, Bool.true_bne, Bool.false_bne, bne_self_eq_false, Int.reduceToNat, oSl, resR, runS_nil, runS_gc, ren, renL, renO, sg, gBack, argsN, dvN]
  all_goals try first
    | omega
    | (with_reducible rfl)
    | (show Value.int _ 0 = _; rfl)
    | exact count64 hlt (by omega)
    | exact count64 (n := q.1.origin.length) (by omega) (by omega)
    | exact count64 (n := 12) (by omega) (by omega)
    | exact count64 (n := 3) (by omega) (by omega)
    | (rw [← hve]; exact oth_put hlt hrl)
    | (rw [oth_skip hrn]; done)
    | (rw [← oth_zero]; done)
    | (rw [hPs]; simp only [hend]; rfl)
    | exact some_set _ _ _
    | (have := hu.2.1; omega)
    | (have := hv.2.1; omega)
    | (rw [List.length_set]; exact hv.2.1)
    | (intro a ha ho; exact rt_le (hnum a ha ho) (by first | omega | (simp only; omega)))
    | (intro a ha ho; exact rt_le (hv.2.2 a ha ho) (by first | omega | (simp only; omega)))
    | (have h8 := fin1 hc; have h9 := audit_routes (B := 15 + 65920 * (u.1 : Int)) (by have := hu.1; omega) hcode h8.1 hu.2.2; rw [h9] at h8; exact absurd h8.2 (by decide))
    | (simp at hc; done)
  all_goals trace_state

theorem auditRoutes_as (av : List AV) (h : dArgs te 8 [25, 5, 25, 22, 26] av) : FnS Tryz.prog 3 av (.d (.v (.bool true))) := by
  obtain ⟨x, _, rfl, hx, y, _, rfl, hy, z, _, rfl, hz, u, _, rfl, hu, v, _, rfl, hv, rfl⟩ := h
  obtain ⟨s1, rfl, h1⟩ := shape_of (n := 3) hx
  obtain ⟨w, rfl, hw⟩ := u8_row (n := 7) hy
  obtain ⟨s2, rfl, h2⟩ := shape_of (n := 3) hz
  obtain ⟨raw, rfl, hraw⟩ := u8s_of (n := 6) hu
  obtain ⟨ns, rfl, hns⟩ := u16s_of (n := 6) hv
  cases hx : s1.netV w with
  | none =>
    cases hy : s2.netV w with
    | none => exact auditRoutes_n1 s1 h1 w hw s2 h2 raw ns hraw hns hx hy
    | some y =>
      obtain ⟨m, p2⟩ := y
      exact auditRoutes_n3 s1 h1 w hw s2 h2 raw ns hraw hns m p2 hx hy
  | some x =>
    obtain ⟨n, p⟩ := x
    cases hy : s2.netV w with
    | none => exact auditRoutes_n2 s1 h1 w hw s2 h2 raw ns hraw hns n p hx hy
    | some y =>
      obtain ⟨m, p2⟩ := y
      exact auditRoutes_go s1 h1 w hw s2 h2 raw ns hraw hns n p hx m p2 hy

set_option maxRecDepth 100000 in
theorem auditRoutes_lifted (os : Os) (started : os.Started) (H : Type) (enc : TypeId × Value → H) :
    ReturnsInHanded {} Tryz.checked os 3 .any (fun w args => (Rows.auditRoutesSpec.pre enc Tryz.prog Tryz.f3 Rows.auditRoutesRow.domain false w args ∧ laidMetH Tryz.prog [("errors.errorType", Rows.laid_errors_errorType)] w) ∧ sizedMet enc Tryz.prog Tryz.f3 (OpenSpec.ofChange Rows.auditRoutesSpec) false w args) (Rows.auditRoutesSpec.post enc Tryz.prog Tryz.f3 false true false false) := by
  refine returnsInHanded_of_change_and (C := Tryz.checked) (X := fun w _ => laidMetH Tryz.prog [("errors.errorType", Rows.laid_errors_errorType)] w) (fun _ _ _ hh h => h.of_heap hh) own started (by kernel_rfl) Tryz.func3
    (ChangeSpec.witness_at (enc := enc) (C := Tryz.checked) (os := os) (X := fun w _ => laidMetH Tryz.prog [("errors.errorType", Rows.laid_errors_errorType)] w) false (laidWorld os) #[.agg #[.int .u8 0, .slice none 0 0, .slice none 0 0, .slice none 0 0, .slice none 0 0, .slice none 0 0], .int .u8 0, .agg #[.int .u8 0, .slice none 0 0, .slice none 0 0, .slice none 0 0, .slice none 0 0, .slice none 0 0], .slice none 0 0, .slice none 0 0] 8 rfl (by kernel_rfl) (by kernel_rfl) (by kernel_rfl) (by kernel_rfl) (by kernel_rfl) (laidWorld_met os _)) ?_
  intro W base args ds gs before hval hW hcnd _ hL _
  have hp : Tryz.f3.params.toList = [25, 5, 25, 22, 26] := by kernel_rfl
  refine law_calls (n := 8) (b := 4) laidOut (by rw [hp]; exact List.forall_mem_cons.2 ⟨⟨by kernel_rfl, of_decide_eq_true (by kernel_rfl)⟩, List.forall_mem_cons.2 ⟨⟨by kernel_rfl, of_decide_eq_true (by kernel_rfl)⟩, List.forall_mem_cons.2 ⟨⟨by kernel_rfl, of_decide_eq_true (by kernel_rfl)⟩, List.forall_mem_cons.2 ⟨⟨by kernel_rfl, of_decide_eq_true (by kernel_rfl)⟩, List.forall_mem_cons.2 ⟨⟨by kernel_rfl, of_decide_eq_true (by kernel_rfl)⟩, (by simp)⟩⟩⟩⟩⟩) (by rw [hp]; exact List.forall_mem_cons.2 ⟨by kernel_rfl, List.forall_mem_cons.2 ⟨by kernel_rfl, List.forall_mem_cons.2 ⟨by kernel_rfl, List.forall_mem_cons.2 ⟨by kernel_rfl, List.forall_mem_cons.2 ⟨by kernel_rfl, (by simp)⟩⟩⟩⟩⟩) rfl (by kernel_rfl) (by kernel_rfl) (fun ds hd => ?_) hval hW (gx_of_cell (handle_of_laid hL)) (fun av h => auditRoutes_as av (argsT_d teok _ _ _ (by rw [hp]; exact List.forall_mem_cons.2 ⟨rfl, List.forall_mem_cons.2 ⟨rfl, List.forall_mem_cons.2 ⟨rfl, List.forall_mem_cons.2 ⟨rfl, List.forall_mem_cons.2 ⟨rfl, (by simp)⟩⟩⟩⟩⟩) h |> (hp ▸ ·)))
  have hd : ds.length = 5 := hd
  match ds, hd with
  | [_, _, _, _, _], _ => rfl
theorem auditRoutes_said : Rows.AuditRoutesSaid :=
  OpenClaim.holds_of_wide 3 Tryz.f3 rfl rfl rfl rfl rfl rfl rfl ⟨rfl, rfl, rfl, rfl, rfl⟩ rfl rfl rfl rfl rfl (by kernel_rfl) Tryz.func3 (by kernel_rfl)
    (of_decide_eq_true (by kernel_rfl)) (by unfold Func.isWrapper; first | (rw [if_pos (by decide +kernel)]; kernel_rfl) | (rw [if_neg (by decide +kernel)]; exact ⟨rfl, rfl⟩))
    (fun os started H enc _ => auditRoutes_lifted os started H enc)
theorem auditRoutes_holds : Rows.AuditRoutesCardSaid :=
  holds_tied_goes [.handle] true (true, "fbcfc76bc857cae51a43183d5d572aa8afcd596af6cb971b0e555aa7e417a569") true false
    auditRoutes_said (by kernel_rfl) auditRoutes_row_tie rfl ⟨rfl, rfl⟩ (by kernel_rfl) rfl
    (fun f fn hf hfn => by
      obtain rfl : f = 3 := (Option.some.inj ((show Tryz.prog.funcNamed Rows.auditRoutesRow.func = some 3 by kernel_rfl).symm.trans hf)).symm
      obtain rfl : fn = Tryz.f3 := (Option.some.inj (Tryz.func3.symm.trans hfn)).symm
      exact ⟨by kernel_rfl, fun j t ht => by
        have hp : Tryz.f3.params.toList = [25, 5, 25, 22, 26] := by kernel_rfl
        have hm : t ∈ Tryz.f3.params.toList := by rw [Array.mem_toList_iff]; exact Array.mem_of_getElem? ht
        rw [hp] at hm
        have hall : ∀ t ∈ [25, 5, 25, 22, 26], Tryz.prog.wantsStandIn t = false := List.forall_mem_cons.2 ⟨by kernel_rfl, List.forall_mem_cons.2 ⟨by kernel_rfl, List.forall_mem_cons.2 ⟨by kernel_rfl, List.forall_mem_cons.2 ⟨by kernel_rfl, List.forall_mem_cons.2 ⟨by kernel_rfl, (by simp)⟩⟩⟩⟩⟩
        exact hall t hm⟩)
    (by kernel_rfl)
end Go.Proofs.YtokfackbnnkbnaaGreatDoor

