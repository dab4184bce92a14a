/- What maquettelaw17.taken comes to. Printed by a program of this project (wip/mq). -/
import Derived.Test.YtokfackbnnkbnaaNm17
set_option linter.unusedVariables false
set_option linter.unusedSimpArgs false

namespace Go.Proofs.Ytokfackbnnkbnaa
open Go Mq Go.ChangeShapes Go.WideShapes Go.ChangeAt Go.RowKit
/-! maquette/maquettelaw17.taken -/
def f36r0 : List PG := [.u (.bx 2 (.t 0)), .u (.mv 4 (.nl 1)), .u (.mv 5 (.k (.bool false)))]
def f36r1 : List PG := [.u (.fa 15 2 (.t 2)), .u (.ld 16 1 false (.t 15)), .u (.len 17 (.t 16)), .u (.mv 18 (.k (.int .i64 0)))]
def f36r2 : List PG := [.u (.bo 19 .lss (.t 18) (.t 17))]
def f36r3 : List PG := [.u (.mv 20 (.t 18)), .u (.ia 21 1 (.t 16) (.t 18)), .u (.ld 22 1 false (.t 21)), .u (.mv 6 (.t 20)), .u (.mv 7 (.t 22))]
def f36r4 : List PG := [.u (.mv 23 (.t 7)), .u (.len 24 (.t 23)), .u (.mv 25 (.k (.int .i64 0)))]
def f36r5 : List PG := [.u (.bo 26 .lss (.t 25) (.t 24))]
def f36r6 : List PG := [.u (.mv 27 (.t 25)), .u (.ia 28 4 (.t 23) (.t 25)), .u (.ld 29 4 true (.t 28)), .u (.al 9 [.d (.v (.int .i64 0)), .d (.v (.int .i64 0)), .nl 10, .nl 10]), .u (.mv 8 (.t 27)), .u (.st 4 (.t 9) (.t 29))]
def f36r7 : List PG := [.u (.mv 10 (.k (.int .i64 (-1))))]
def f36r8 : List PG := [.u (.mv 11 (.k (.int .i64 0)))]
def f36r9 : List PG := [.u (.mv 30 (.t 11)), .u (.mv 31 (.t 8)), .u (.bo 32 .lss (.t 30) (.t 31))]
abbrev f36p0 : PC := .cond (.t 32) (.skip) (.exit 4)
def f36r10 : List PG := [.u (.mv 35 (.t 1)), .u (.mv 36 (.t 7)), .u (.mv 37 (.t 11)), .u (.ia 38 4 (.t 36) (.t 37)), .u (.fa 39 0 (.t 38)), .u (.ld 40 1 false (.t 39)), .u (.ia 41 1 (.t 35) (.t 40)), .u (.ld 42 1 false (.t 41)), .u (.mv 43 (.t 1)), .u (.fa 44 0 (.t 9)), .u (.ld 45 1 false (.t 44)), .u (.ia 46 1 (.t 43) (.t 45)), .u (.ld 47 1 false (.t 46)), .u (.beq 48 false false (.t 42) (.t 47)), .u (.mv 49 (.t 48)), .g 49 true (.mv 50 (.t 10)), .g 49 true (.bo 51 .lss (.t 50) (.k (.int .i64 0))), .u (.pick 52 (.t 49) (.t 51) (.k (.bool false)))]
def f36r11 : List PG := [.u (.mv 53 (.t 11)), .u (.mv 10 (.t 53))]
abbrev f36p1 : PC := .cond (.t 52) (.reg f36r11) (.skip)
def f36r12 : List PG := [.u (.mv 33 (.t 11)), .u (.bo 34 .add (.t 33) (.k (.int .i64 1))), .u (.mv 11 (.t 34))]
abbrev f36p2 : PC := .seq (.block 5 (.seq (.regD f36r10 []) (f36p1))) (.reg f36r12)
abbrev f36p3 : PC := .seq (.seq (.reg f36r9) (f36p0)) (f36p2)
abbrev f36p4 : PC := .block 4 (.loop (f36p3))
def f36r13 : List PG := [.u (.mv 54 (.t 10)), .u (.bo 55 .lss (.t 54) (.k (.int .i64 0))), .u (.mv 56 (.t 55)), .g 56 false (.mv 57 (.t 1)), .g 56 false (.fa 58 0 (.t 9)), .g 56 false (.ld 59 1 false (.t 58)), .g 56 false (.ia 60 1 (.t 57) (.t 59)), .g 56 false (.ld 61 1 false (.t 60)), .g 56 false (.mv 62 (.t 1)), .g 56 false (.mv 63 (.t 6)), .g 56 false (.ia 64 1 (.t 62) (.t 63)), .g 56 false (.ld 65 1 false (.t 64)), .g 56 false (.beq 66 false false (.t 61) (.t 65)), .u (.pick 67 (.t 56) (.k (.bool true)) (.t 66)), .u (.mv 68 (.t 67)), .g 68 false (.mv 69 (.t 7)), .g 68 false (.mv 70 (.t 10)), .g 68 false (.ia 71 4 (.t 69) (.t 70)), .g 68 false (.ld 72 4 true (.t 71)), .g 68 false (.ld 73 4 true (.t 9)), .gc 68 false 74 19 [.t 72, .t 73], .u (.pick 75 (.t 68) (.k (.bool true)) (.t 74))]
abbrev f36p5 : PC := .cond (.t 75) (.exit 3) (.skip)
def f36r14 : List PG := [.u (.mv 76 (.t 1)), .u (.app 77 3 1 8 (.nl 1) (.t 76)), .u (.mv 12 (.t 77))]
def f36r15 : List PG := [.u (.mv 78 (.t 7)), .u (.len 79 (.t 78)), .u (.mv 80 (.k (.int .i64 0)))]
def f36r16 : List PG := [.u (.bo 81 .lss (.t 80) (.t 79))]
def f36r17 : List PG := [.u (.ia 82 4 (.t 78) (.t 80)), .u (.ld 83 4 true (.t 82)), .u (.al 14 [.d (.v (.int .i64 0)), .d (.v (.int .i64 0)), .nl 10, .nl 10]), .u (.st 4 (.t 14) (.t 83))]
def f36r18 : List PG := [.u (.mv 84 (.t 1)), .u (.fa 85 0 (.t 14)), .u (.ld 86 1 false (.t 85)), .u (.ia 87 1 (.t 84) (.t 86)), .u (.ld 88 1 false (.t 87)), .u (.mv 89 (.t 1)), .u (.fa 90 0 (.t 9)), .u (.ld 91 1 false (.t 90)), .u (.ia 92 1 (.t 89) (.t 91)), .u (.ld 93 1 false (.t 92)), .u (.beq 94 false false (.t 88) (.t 93)), .u (.mv 95 (.t 94)), .g 95 true (.mv 96 (.t 7)), .g 95 true (.mv 97 (.t 10)), .g 95 true (.ia 98 4 (.t 96) (.t 97)), .g 95 true (.ld 99 4 true (.t 98)), .g 95 true (.ld 100 4 true (.t 14)), .gc 95 true 101 19 [.t 99, .t 100], .g 95 true (.no 102 (.t 101)), .u (.pick 103 (.t 95) (.t 102) (.k (.bool false)))]
def f36r19 : List PG := [.u (.mv 104 (.t 12)), .u (.fa 105 0 (.t 14)), .u (.ld 106 1 false (.t 105)), .u (.mv 107 (.t 1)), .u (.len 108 (.t 107)), .u (.bo 109 .add (.t 108) (.k (.int .i64 1))), .u (.ia 110 1 (.t 104) (.t 106)), .u (.st 1 (.t 110) (.t 109))]
abbrev f36p6 : PC := .cond (.t 103) (.reg f36r19) (.skip)
abbrev f36p7 : PC := .seq (.regD f36r18 []) (f36p6)
def f36r20 : List PG := [.u (.bo 111 .add (.t 80) (.k (.int .i64 1))), .u (.mv 80 (.t 111))]
abbrev f36p8 : PC := .seq (.block 7 (.seq (.reg f36r17) (f36p7))) (.reg f36r20)
abbrev f36p9 : PC := .seq (.cond (.t 81) (.skip) (.exit 6)) (f36p8)
abbrev f36p10 : PC := .seq (.reg f36r16) (f36p9)
abbrev f36p11 : PC := .block 6 (.loop (f36p10))
def f36r21 : List PG := [.u (.mv 112 (.t 12)), .uc 113 16 [.t 112], .u (.mv 4 (.t 113)), .u (.mv 5 (.k (.bool true)))]
abbrev f36p12 : PC := .seq (.reg f36r21) (.ret)
abbrev f36p13 : PC := .seq (.seq (.reg f36r15) (f36p11)) (f36p12)
abbrev f36p14 : PC := .seq (.reg f36r14) (f36p13)
abbrev f36p15 : PC := .seq (.seq (.regD f36r13 []) (f36p5)) (f36p14)
abbrev f36p16 : PC := .seq (.seq (.reg f36r8) (f36p4)) (f36p15)
abbrev f36p17 : PC := .seq (.reg f36r7) (f36p16)
def f36r22 : List PG := [.u (.bo 114 .add (.t 25) (.k (.int .i64 1))), .u (.mv 25 (.t 114))]
abbrev f36p18 : PC := .seq (.block 3 (.seq (.reg f36r6) (f36p17))) (.reg f36r22)
abbrev f36p19 : PC := .seq (.cond (.t 26) (.skip) (.exit 2)) (f36p18)
abbrev f36p20 : PC := .seq (.reg f36r5) (f36p19)
abbrev f36p21 : PC := .block 2 (.loop (f36p20))
abbrev f36p22 : PC := .seq (.reg f36r4) (f36p21)
def f36r23 : List PG := [.u (.bo 115 .add (.t 18) (.k (.int .i64 1))), .u (.mv 18 (.t 115))]
abbrev f36p23 : PC := .seq (.block 1 (.seq (.reg f36r3) (f36p22))) (.reg f36r23)
abbrev f36p24 : PC := .seq (.cond (.t 19) (.skip) (.exit 0)) (f36p23)
abbrev f36p25 : PC := .seq (.reg f36r2) (f36p24)
abbrev f36p26 : PC := .block 0 (.loop (f36p25))
def f36r24 : List PG := [.u (.mv 4 (.nl 1)), .u (.mv 5 (.k (.bool false)))]
abbrev f36p27 : PC := .seq (.reg f36r24) (.ret)
abbrev f36p28 : PC := .seq (.seq (.reg f36r1) (f36p26)) (f36p27)
abbrev f36pc : PC := .seq (.reg f36r0) (f36p28)
def f36k : List Nat := [0, 1, 2, 4, 5, 6, 7, 8, 9, 10, 11, 12, 14, 16, 17, 18, 19, 23, 24, 25, 26, 32, 52, 75, 78, 79, 80, 81, 103]
theorem f36c : Try.f36.body.bind (cC te Try.f36.ntmps) = some f36pc := by kernel_rfl
set_option maxRecDepth 20000
set_option maxHeartbeats 4000000
set_option linter.unusedSimpArgs false
set_option linter.unusedVariables false

theorem outR_skip {N k : Nat} {out : List Int} (hk : out.length = k) (h : k < N) : outR N out = outR N (out ++ [0]) := by
  subst hk
  unfold outR
  rw [show N - out.length = (N - (out.length + 1)) + 1 by omega, List.replicate_succ, List.length_append, List.length_singleton, List.append_assoc]
  rfl
theorem tk_or {b : List Int} {bk v : Int} {es : List Arc} {e g : Arc} (h : (b.getD e.src.toNat 0 == bk || sameE g e) = true) (hg : es[v.toNat]? = some g) : b.getD e.src.toNat 0 = bk ∨ ∃ g, es[v.toNat]? = some g ∧ sameE g e = true := by
  rw [Bool.or_eq_true] at h
  rcases h with h | h
  · exact .inl (by simpa using h)
  · exact .inr ⟨g, hg, h⟩
theorem tk_c1 {a c : Bool} (h : (if a = true then true else c) = true) : (a || c) = true := by rw [← h]; cases a <;> rfl
theorem tk_c2 {a c : Bool} (h : (if a = true then true else c) = false) : (a || c) = false := by rw [← h]; cases a <;> rfl
theorem tk_ne {c : Bool} (h : c = false) : ¬ c = true := by rw [h]; decide
theorem tk_n1 {x bk : Int} {c : Bool} (h : (x == bk || c) = false) : x ≠ bk := by rintro rfl; simp at h
theorem tk_n2 {x bk : Int} {c : Bool} (h : (x == bk || c) = false) : c = false := by
  rw [Bool.or_eq_false_iff] at h; exact h.2
theorem ifa (a c : Bool) : (if a = true then c else false) = (a && c) := by cases a <;> rfl
theorem ifn (a c : Bool) : (if a = true then !c else false) = (a && !c) := by cases a <;> rfl

def tkR : Option (List Int) → AV
  | some c => .tp [.d (.sl 1 (c.map iD)), .d (.v (.bool true))]
  | none => .tp [.d (.sl 1 []), .d (.v (.bool false))]
theorem tk_some {o : Option (List Int)} {c : List Int} (h : o = some c) : AV.tp [.d (.sl 1 (c.map iD)), .d (.v (.bool true))] = tkR o := by rw [h]; rfl
theorem tk_none {o : Option (List Int)} (h : o = none) : AV.tp [.d (.sl 1 []), .d (.v (.bool false))] = tkR o := by rw [h]; rfl
theorem taken_fn (n : Net) (hn : n.small) (m : n.May) (b : List Int) (hb : b.length = n.origin.length) : FnS Try.prog 36 [n.av, .d (.sl 1 (b.map iD))] (tkR (takenV n b)) := by
  have hm : maxLen = 9223372036854775807 := rfl
  have m2 := m.edges
  have m3 := m.most
  have g0 := wrapI64 ((b.length : Int) + 1) (by omega) (by omega)
  refine fn_of teok Try.func36 (by kernel_rfl) f36c f36k [.tmp 4, .tmp 5] rfl (by show 2 ≤ 116; omega) ?_
  first | (have _q := @g0; clear _q) | have g0 : Nat.pred 77 = 76 := rfl
  first | (have _q := @g1; clear _q) | have g1 : Nat.pred 77 = 76 := rfl
  first | (have _q := @g2; clear _q) | have g2 : Nat.pred 77 = 76 := rfl
  first | (have _q := @g3; clear _q) | have g3 : Nat.pred 77 = 76 := rfl
  first | (have _q := @g4; clear _q) | have g4 : Nat.pred 77 = 76 := rfl
  first | (have _q := @g5; clear _q) | have g5 : Nat.pred 77 = 76 := rfl
  first | (have _q := @g6; clear _q) | have g6 : Nat.pred 77 = 76 := rfl
  first | (have _q := @g7; clear _q) | have g7 : Nat.pred 77 = 76 := rfl
  repeat' first
  | (exact absurd hc (by decide))
  | (with_reducible refine awp_exit_seal (i := 6) [77] ?_)
  | with_reducible refine awp_seq ?_
  | with_reducible refine awp_block ?_
  | with_reducible refine awp_scope ?_
  | with_reducible refine awp_reg ?_
  | with_reducible refine awp_regD ?_
  | with_reducible refine awp_ret ?_
  | with_reducible refine awp_skip ?_
  | with_reducible refine awp_exit ?_
  | with_reducible refine normQ_of ?_
  | with_reducible refine wkE_of ?_
  | with_reducible refine midQ_of (Wk_sub rfl rfl ?_ ?_)
  | with_reducible refine runD_nil ?_
  | with_reducible refine runD_cons ?_
  | with_reducible refine runF_cons ?_
  | with_reducible refine runF_nil ?_
  | with_reducible refine KF_of ?_
  | with_reducible refine chkQ_of rfl ?_
  | with_reducible refine awp_cond (by simp only [evX, lget, Option.getD_some, reduceIte, Nat.reduceEqDiff]; rfl) (fun hc => ?_) (fun hc => ?_)
  | with_reducible refine CallU_of (f := 19) (esame_fn g (hn.ok.edge _ (List.mem_of_getElem? he.2.2.1) g (List.mem_of_getElem? hg1)) e (hn.ok.edge _ (List.mem_of_getElem? he.2.2.1) e (List.mem_of_getElem? hee.2.2.1))) (by first | exact Or.inr (Or.inl rfl) | exact Or.inl rfl) ?_
  | with_reducible refine CallC_of (f := 19) (fun _ => esame_fn g (hn.ok.edge _ (List.mem_of_getElem? he.2.2.1) g (List.mem_of_getElem? hg1)) e (hn.ok.edge _ (List.mem_of_getElem? he.2.2.1) e (List.mem_of_getElem? hee.2.2.1))) (by first | exact Or.inr (Or.inl rfl) | exact Or.inl rfl) ?_
  | with_reducible refine CallU_of (f := 19) (esame_fn g (hn.ok.edge _ (List.mem_of_getElem? he.2.2.1) g (List.mem_of_getElem? hg1)) f (hn.ok.edge _ (List.mem_of_getElem? he.2.2.1) f (List.mem_of_getElem? hf.2.2.1))) (by first | exact Or.inr (Or.inl rfl) | exact Or.inl rfl) ?_
  | with_reducible refine CallC_of (f := 19) (fun _ => esame_fn g (hn.ok.edge _ (List.mem_of_getElem? he.2.2.1) g (List.mem_of_getElem? hg1)) f (hn.ok.edge _ (List.mem_of_getElem? he.2.2.1) f (List.mem_of_getElem? hf.2.2.1))) (by first | exact Or.inr (Or.inl rfl) | exact Or.inl rfl) ?_
  | with_reducible refine CallU_of (f := 16) (num17_fn u.2 (by have := hu.2.1; omega)) (by first | exact Or.inr (Or.inl rfl) | exact Or.inl rfl) ?_
  | with_reducible refine CallC_of (f := 16) (fun _ => num17_fn u.2 (by have := hu.2.1; omega)) (by first | exact Or.inr (Or.inl rfl) | exact Or.inl rfl) ?_
  | (with_reducible assumption)
  | with_reducible refine fun (hG : okL _) => ?_
  | (with_reducible refine fun (hT : (_ : Bool) = _) => ?_)
  | (with_reducible first | exact hG.2 | exact hG.2.2 | exact hG.2.2.2 | exact hG.2.2.2.2)
  | with_reducible refine okL_mk ?_ ?_
  | with_reducible refine And.intro ?_ ?_
  | (have _q : (_ : Bool) = true := hc; with_reducible refine loopQ_next ((z.1 + 1, (z.1 : Int), ())) ?_ ?_ (Wk_sub rfl rfl ?_ ?_))
  | (have _q : (_ : Bool) = false := hc; with_reducible refine loopQ_next ((z.1 + 1, z.2.1, ())) ?_ ?_ (Wk_sub rfl rfl ?_ ?_))
  | (have _q : True := hng; with_reducible refine loopQ_next (y.1 + 1, (), ()) ?_ ?_ (Wk_sub rfl rfl ?_ ?_))
  | (have _q : (_ : Bool) = true := hc; with_reducible refine loopQ_next ((u.1 + 1, u.2.set f.src.toNat ((b.length : Int) + 1))) ?_ ?_ (Wk_sub rfl rfl ?_ ?_))
  | (have _q : (_ : Bool) = false := hc; with_reducible refine loopQ_next ((u.1 + 1, u.2)) ?_ ?_ (Wk_sub rfl rfl ?_ ?_))
  | (have _q := hye; with_reducible refine loopQ_next (x.1 + 1, ()) ?_ ?_ (Wk_sub rfl rfl ?_ ?_))
  | (with_reducible refine awp_loopU (b := f36p25) (fun x : Nat × Unit => x.1 ≤ n.edges.length ∧ takenGo b (n.edges.drop x.1) x.1 = takenV n b) (fun x => n.edges.length - x.1) (fun x => [(18, .d (.v (.int .i64 x.1)))]) (fun x => []) ((0, ())) (⟨Nat.zero_le _, rfl⟩) (Wk.refl _ _) (Wk_sub rfl rfl ?_ ?_) (fun x hx => ?_))
  | (refine Exists.elim (at_drop esD n.edges x.1 (Int.ofNat_lt.1 (of_decide_eq_true (show decide ((x.1 : Int) < n.edges.length) = true from hc)))) (fun es he => ?_); refine Exists.elim (at_drop iD b x.1 (by have := he.2.2.2; omega)) (fun bk hbk => ?_); have g1 := he.2.1; have g2 := hbk.2.1; simp only [Int.toNat_natCast] at g1 g2; have hel := m.row es (List.mem_of_getElem? he.2.2.1); have hsr := m.src x.1 es he.2.2.1; have hkx := he.2.2.2; replace hc : True := trivial)
  | (with_reducible refine awp_loopU (b := f36p20) (fun y : Nat × Unit × Unit => y.1 ≤ es.length ∧ takenE b bk (es.drop y.1) (es.take y.1) = takenE b bk es []) (fun y => es.length - y.1) (fun y => [(25, .d (.v (.int .i64 y.1)))]) (fun y => []) ((0, (), ())) (⟨Nat.zero_le _, rfl⟩) (Wk.refl _ _) (Wk_sub rfl rfl ?_ ?_) (fun y hy => ?_))
  | (refine Exists.elim (at_drop Arc.row es y.1 (Int.ofNat_lt.1 (of_decide_eq_true (show decide ((y.1 : Int) < es.length) = true from hc)))) (fun e hee => ?_); have g3 := hee.2.1; simp only [Int.toNat_natCast] at g3; have hs := hsr e (List.mem_of_getElem? hee.2.2.1); have g4 := at_int iD b 0 hs.1 (by omega); replace hc : True := trivial)
  | (have hye : y.1 = es.length := (by have := of_decide_eq_false (show decide ((y.1 : Int) < es.length) = false from hc); omega); replace hc : True := trivial)
  | (with_reducible refine awp_loopU (b := f36p3) (fun z : Nat × Int × Unit => z.1 ≤ y.1 ∧ FstOk b es e z.1 z.2.1) (fun z => y.1 - z.1) (fun z => [(11, .d (.v (.int .i64 z.1))), (10, .d (.v (.int .i64 z.2.1)))]) (fun z => []) ((0, -1, ())) (⟨Nat.zero_le _, FstOk.zero b es e⟩) (Wk.refl _ _) (Wk_sub rfl rfl ?_ ?_) (fun z hz => ?_))
  | (refine Exists.elim (at_drop Arc.row es z.1 (by have := of_decide_eq_true (show decide ((z.1 : Int) < (y.1 : Int)) = true from hc); have := hee.2.2.2; omega)) (fun f hf => ?_); have hzy : z.1 < y.1 := (by have := of_decide_eq_true (show decide ((z.1 : Int) < (y.1 : Int)) = true from hc); omega); have g5 := hf.2.1; simp only [Int.toNat_natCast] at g5; have hs2 := hsr f (List.mem_of_getElem? hf.2.2.1); have g6 := at_int iD b 0 hs2.1 (by omega); replace hc : True := trivial)
  | (have hzz : z.1 = y.1 := (by have := of_decide_eq_false (show decide ((z.1 : Int) < (y.1 : Int)) = false from hc); omega); have hfo : FstOk b es e y.1 z.2.1 := hzz ▸ hz.2; replace hc : True := trivial; rcases Classical.em (z.2.1 < 0) with hneg | hneg)
  | (have hneg2 : z.2.1 < 0 := hneg; have g5 : decide (z.2.1 < 0) = true := decide_eq_true hneg2; have hng : True := trivial; refine Exists.elim (⟨_, List.getElem?_eq_getElem (show z.2.1.toNat < es.length by have := hee.2.2.2; omega)⟩ : ∃ g, es[z.2.1.toNat]? = some g) (fun g hg1 => ?_); have g6 : List.getD (List.map Arc.row es) z.2.1.toNat [] = Arc.row g := (by simp [List.getD, hg1]); clear hneg)
  | (have hneg3 : ¬ z.2.1 < 0 := hneg; have g5 : decide (z.2.1 < 0) = false := decide_eq_false hneg3; obtain ⟨g, hg1, hg2, hg3⟩ := fst_at hfo hneg3; have g6 : List.getD (List.map Arc.row es) z.2.1.toNat [] = Arc.row g := (by simp [List.getD, hg1]); clear hneg)
  | (have hng : True := trivial; have hcont : (b.getD e.src.toNat 0 == bk || sameE g e) = true := tk_c1 hc; replace hc : True := trivial)
  | (have hgo : (b.getD e.src.toNat 0 == bk || sameE g e) = false := tk_c2 hc; replace hc : True := trivial)
  | (with_reducible refine awp_loopU (b := f36p10) (fun u : Nat × List Int => u.1 ≤ es.length ∧ u.2.length = b.length ∧ takeOut b (b.getD e.src.toNat 0) g ((b.length : Int) + 1) (es.drop u.1) u.2 = takeOut b (b.getD e.src.toNat 0) g ((b.length : Int) + 1) es b) (fun u => es.length - u.1) (fun u => [(80, .d (.v (.int .i64 u.1)))]) (fun u => [(77, .row 3 1 0 (u.2.map iD))]) ((0, b)) (⟨Nat.zero_le _, rfl, rfl⟩) (Wk.refl _ _) (Wk_sub rfl rfl ?_ ?_) (fun u hu => ?_))
  | (refine Exists.elim (at_drop Arc.row es u.1 (Int.ofNat_lt.1 (of_decide_eq_true (show decide ((u.1 : Int) < es.length) = true from hc)))) (fun f hf => ?_); have g5 := hf.2.1; simp only [Int.toNat_natCast] at g5; have hs2 := hsr f (List.mem_of_getElem? hf.2.2.1); have g7 := at_int iD b 0 hs2.1 (by omega); replace hc : True := trivial)
  | simp only [f36r0, f36r1, f36r2, f36r3, f36r4, f36r5, f36r6, f36r7, f36r8, f36r9, f36r10, f36r11, f36r12, f36r13, f36r14, f36r15, f36r16, f36r17, f36r18, f36r19, f36r20, f36r21, f36r22, f36r23, f36r24, g0, g1, g2, g3, g4, g5, g6, g7, f36k, te33, List.length_map, Int.toNat_natCast, List.getElem?_cons_zero, List.getElem?_cons_succ, runG_nil, runG_u, runG_g, runG_ucS, runG_gcS, runG_uvS, stp, avL, avS, evs, evX, lget, lput, strip, putO, PO.dst, updO, okR, cells, splice, AV.cell, toD, toDs, binV, sameK, pickV, guardOf, okL_nil, sides, argsOf, rawOf, dv, dvL, owns, ownsL, flat, flatL, lkeep, seqQ, blockQ, initS, List.drop_succ_cons, List.drop_zero, List.take_succ_cons, List.take_zero, List.getD_cons_zero, List.getD_cons_succ, List.length_cons, List.length_nil, List.set_cons_zero, List.set_cons_succ, List.map_cons, List.map_nil, List.all_cons, List.all_nil, List.elem_cons, List.elem_nil, Option.getD_some, Option.getD_none, Option.bind_some, Option.isNone_none, reduceIte, reduceCtorEq, Nat.reduceEqDiff, Nat.reduceAdd, Nat.reduceLeDiff, Nat.zero_add, Nat.add_zero, Nat.reduceBEq, Bool.and_self, Bool.and_true, Bool.true_and, Bool.or_self, Bool.or_false, Bool.false_or, Bool.or_true, Bool.true_or, true_and, and_true, and_self, implies_true, forall_const, Bool.false_eq_true, id_eq, retQ, resOf, resV, Option.some.injEq, exists_eq_left', AV.d.injEq, D.v.injEq, Value.bool.injEq, imp_self, bldF, bldS, toVals, eqLs, Option.map_some, imp_false, not_true_eq_false, not_false_eq_true, foot, wrs, nm, nmL, PG.reads, PG.dst, PO.reads, X.sl, sls, slB, List.append_nil, List.cons_append, List.nil_append, Option.toList_some, Option.toList_none, loopQ_exit, loopQ_ret, subS, subO, Bool.bne_false, Bool.bne_true, elemsOf, bslD, bslS, mentries, isAgV, asA, lputs, mgetD_set, mcmp_set, mput_set, List.headD_cons, sealS, sealO, sealV, sealL, mput_nil, mcmp_nil, midQ_ret, midQ_exit, sealsS, sealsO, runW_nil, runW_cons, Bool.true_bne, Bool.false_bne, bne_self_eq_false, Int.reduceToNat, bndV, oSl, resR, runS_nil, runS_gc, ren, renL, renO, sg, gBack, scopeQ_normal, scopeQ_ret, scopeQ_exit, lenB, argsN, dvN]
  all_goals try first
    | omega
    | (with_reducible rfl)
    | (show Value.int _ 0 = _; rfl)
    | exact fun q => q.elim
    | (exfalso; revert hG; simp [okL]; done)
    | exact count64 hkx (by omega)
    | exact count64 hzy (by omega)
    | exact count64 hee.2.2.2 (by omega)
    | exact count64 hf.2.2.2 (by omega)
    | exact hz.2.hit hf.2.2.1 (by rw [← ifa]; exact hc)
    | exact hz.2.miss hf.2.2.1 (by rw [← ifa]; exact hc)
    | exact takenE_no hy.2 hee.2.2.1 hfo (.inl hneg2)
    | exact takenE_no hy.2 hee.2.2.1 hfo (.inr (tk_or hcont hg1))
    | (refine takenGo_no hx.2 he.1 ?_; rw [gD_some hbk.2.2.1]; have h1 := hy.2; rw [hye, List.drop_length, takenE_end] at h1; exact h1.symm)
    | (rw [List.length_set]; exact hu.2.1)
    | exact int_put (by omega) _
    | (have h1 := takeOut_step hu.2.2 hf.1; rw [if_pos (by rw [← ifn]; exact hc)] at h1; exact h1)
    | (have h1 := takeOut_step hu.2.2 hf.1; rw [if_neg (tk_ne (by rw [← ifn]; exact hc))] at h1; exact h1)
    | exact tk_none (by have h0 := of_decide_eq_false (show decide ((x.1 : Int) < n.edges.length) = false from hc); have h1 := hx.2; rw [List.drop_eq_nil_of_le (by omega), takenGo] at h1; exact h1.symm)
    | exact tk_some (by have h0 := of_decide_eq_false (show decide ((u.1 : Int) < es.length) = false by assumption); have h1 := hu.2.2; rw [List.drop_eq_nil_of_le (by omega), takeOut] at h1; have h2 := takenGo_yes hx.2 he.1 (by rw [gD_some hbk.2.2.1]; exact takenE_yes hy.2 hee.2.2.1 hfo hg1 hneg3 (tk_n1 hgo) (tk_n2 hgo)); rw [← h1] at h2; exact h2)
  all_goals trace_state
end Go.Proofs.Ytokfackbnnkbnaa

