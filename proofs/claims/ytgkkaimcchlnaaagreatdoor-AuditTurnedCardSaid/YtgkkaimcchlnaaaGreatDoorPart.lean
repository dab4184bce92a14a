/- What refine.part comes to. Printed by a program of this project (wip/mq). -/
import Derived.Test.YtgkkaimcchlnaaaGreatDoorOut
set_option linter.unusedVariables false
set_option linter.unusedSimpArgs false

namespace Go.Proofs.YtgkkaimcchlnaaaGreatDoor
open Go Mq Go.ChangeShapes Go.WideShapes Go.ChangeAt Go.RowKit
/-! maquette/refine.part -/
def f55r0 : List PG := [.u (.bx 3 (.t 0)), .u (.mv 6 (.nl 1)), .u (.mv 7 (.k (.bool false)))]
def f55r1 : List PG := [.u (.fa 16 2 (.t 3)), .u (.ld 17 1 false (.t 16)), .u (.len 18 (.t 17)), .u (.mv 19 (.k (.int .i64 0)))]
def f55r2 : List PG := [.u (.bo 20 .lss (.t 19) (.t 18))]
def f55r3 : List PG := [.u (.mv 21 (.t 19)), .u (.ia 22 1 (.t 17) (.t 19)), .u (.ld 23 1 false (.t 22)), .u (.mv 8 (.t 21)), .u (.mv 9 (.t 23))]
def f55r4 : List PG := [.u (.mkm 24 false true), .u (.mv 10 (.t 24))]
def f55r5 : List PG := [.u (.mv 25 (.t 9)), .u (.len 26 (.t 25)), .u (.mv 27 (.k (.int .i64 0)))]
def f55r6 : List PG := [.u (.bo 28 .lss (.t 27) (.t 26))]
def f55r7 : List PG := [.u (.mv 29 (.t 27)), .u (.ia 30 4 (.t 25) (.t 27)), .u (.ld 31 4 true (.t 30)), .u (.al 12 [.d (.v (.int .i64 0)), .d (.v (.int .i64 0)), .nl 10, .nl 10]), .u (.mv 11 (.t 29)), .u (.st 4 (.t 12) (.t 31))]
def f55r8 : List PG := [.u (.mv 32 (.t 2)), .u (.fa 33 0 (.t 12)), .u (.ld 34 1 false (.t 33)), .u (.ia 35 1 (.t 32) (.t 34)), .u (.ld 36 1 false (.t 35)), .u (.mv 13 (.t 36))]
def f55r9 : List PG := [.u (.mv 38 (.t 10)), .u (.mv 39 (.t 13)), .u (.lkp 40 false true [.i] [.d (.v (.int .i64 0)), .d (.v (.int .i64 0)), .d (.v (.int .i64 0)), .d (.v (.int .i64 0)), .d (.v (.int .i64 0)), .d (.v (.int .i64 0)), .d (.v (.int .i64 0)), .d (.v (.int .i64 0)), .d (.v (.int .i64 0)), .d (.v (.int .i64 0)), .d (.v (.int .i64 0)), .d (.v (.int .i64 0)), .d (.v (.int .i64 0)), .d (.v (.int .i64 0)), .d (.v (.int .i64 0)), .d (.v (.int .i64 0)), .d (.v (.int .i64 0)), .d (.v (.int .i64 0)), .d (.v (.int .i64 0)), .d (.v (.int .i64 0)), .d (.v (.int .i64 0)), .d (.v (.int .i64 0)), .d (.v (.int .i64 0)), .d (.v (.int .i64 0))] true (.t 38) (.t 39)), .u (.mv 37 (.t 40)), .u (.ext 41 (.t 37) 0), .u (.ext 42 (.t 37) 1), .u (.al 14 [.d (.v (.int .i64 0)), .d (.v (.int .i64 0)), .d (.v (.int .i64 0)), .d (.v (.int .i64 0)), .d (.v (.int .i64 0)), .d (.v (.int .i64 0)), .d (.v (.int .i64 0)), .d (.v (.int .i64 0)), .d (.v (.int .i64 0)), .d (.v (.int .i64 0)), .d (.v (.int .i64 0)), .d (.v (.int .i64 0)), .d (.v (.int .i64 0)), .d (.v (.int .i64 0)), .d (.v (.int .i64 0)), .d (.v (.int .i64 0)), .d (.v (.int .i64 0)), .d (.v (.int .i64 0)), .d (.v (.int .i64 0)), .d (.v (.int .i64 0)), .d (.v (.int .i64 0)), .d (.v (.int .i64 0)), .d (.v (.int .i64 0)), .d (.v (.int .i64 0))]), .u (.st 24 (.t 14) (.t 41)), .u (.mv 15 (.t 42))]
def f55r10 : List PG := [.u (.mv 43 (.t 15)), .u (.no 44 (.t 43))]
def f55r11 : List PG := [.u (.mv 45 (.t 10)), .u (.mv 46 (.t 13)), .u (.mv 47 (.t 1)), .u (.mv 48 (.t 8)), .u (.ia 49 1 (.t 47) (.t 48)), .u (.ld 50 1 false (.t 49)), .u (.mv 51 (.t 11)), .u (.ia 52 24 (.t 50) (.t 51)), .u (.ld 53 24 true (.t 52)), .u (.mup false true [.i] 24 (.t 45) (.t 46) (.t 53))]
abbrev f55p0 : PC := .cond (.t 44) (.reg f55r11) (.skip)
def f55r12 : List PG := [.u (.mv 54 (.t 15)), .u (.mv 55 (.t 54)), .g 55 true (.ld 56 24 true (.t 14)), .g 55 true (.mv 57 (.t 1)), .g 55 true (.mv 58 (.t 8)), .g 55 true (.ia 59 1 (.t 57) (.t 58)), .g 55 true (.ld 60 1 false (.t 59)), .g 55 true (.mv 61 (.t 11)), .g 55 true (.ia 62 24 (.t 60) (.t 61)), .g 55 true (.ld 63 24 true (.t 62)), .g 55 true (.beqs 64 true [.i, .i, .i, .i, .i, .i, .i, .i, .i, .i, .i, .i, .i, .i, .i, .i, .i, .i, .i, .i, .i, .i, .i, .i] (.t 56) (.t 63)), .u (.pick 65 (.t 55) (.t 64) (.k (.bool false))), .u (.mv 66 (.t 65)), .g 66 true (.mv 67 (.t 13)), .g 66 true (.mv 68 (.t 2)), .g 66 true (.mv 69 (.t 8)), .g 66 true (.ia 70 1 (.t 68) (.t 69)), .g 66 true (.ld 71 1 false (.t 70)), .g 66 true (.beq 72 true false (.t 67) (.t 71)), .u (.pick 73 (.t 66) (.t 72) (.k (.bool false)))]
def f55r13 : List PG := [.u (.ld 74 3 true (.t 3)), .u (.mv 75 (.t 1)), .u (.mv 76 (.t 2)), .u (.mv 77 (.t 8)), .u (.mv 78 (.t 13)), .u (.ld 79 24 true (.t 14)), .uc 80 92 [.t 74, .t 75, .t 76, .t 77, .t 78, .t 79], .u (.mv 6 (.t 80)), .u (.mv 7 (.k (.bool true)))]
abbrev f55p1 : PC := .seq (.reg f55r13) (.ret)
abbrev f55p2 : PC := .cond (.t 73) (f55p1) (.skip)
abbrev f55p3 : PC := .seq (.regD f55r12 []) (f55p2)
abbrev f55p4 : PC := .seq (.seq (.reg f55r10) (f55p0)) (f55p3)
abbrev f55p5 : PC := .seq (.reg f55r9) (f55p4)
abbrev f55p6 : PC := .seq (.reg f55r8) (f55p5)
def f55r14 : List PG := [.u (.bo 81 .add (.t 27) (.k (.int .i64 1))), .u (.mv 27 (.t 81))]
abbrev f55p7 : PC := .seq (.block 3 (.seq (.reg f55r7) (f55p6))) (.reg f55r14)
abbrev f55p8 : PC := .seq (.cond (.t 28) (.skip) (.exit 2)) (f55p7)
abbrev f55p9 : PC := .seq (.reg f55r6) (f55p8)
abbrev f55p10 : PC := .block 2 (.loop (f55p9))
abbrev f55p11 : PC := .seq (.reg f55r5) (f55p10)
abbrev f55p12 : PC := .seq (.reg f55r4) (f55p11)
def f55r15 : List PG := [.u (.bo 82 .add (.t 19) (.k (.int .i64 1))), .u (.mv 19 (.t 82))]
abbrev f55p13 : PC := .seq (.block 1 (.seq (.reg f55r3) (f55p12))) (.reg f55r15)
abbrev f55p14 : PC := .seq (.cond (.t 20) (.skip) (.exit 0)) (f55p13)
abbrev f55p15 : PC := .seq (.reg f55r2) (f55p14)
abbrev f55p16 : PC := .block 0 (.loop (f55p15))
def f55r16 : List PG := [.u (.mv 6 (.nl 1)), .u (.mv 7 (.k (.bool false)))]
abbrev f55p17 : PC := .seq (.reg f55r16) (.ret)
abbrev f55p18 : PC := .seq (.seq (.reg f55r1) (f55p16)) (f55p17)
abbrev f55pc : PC := .seq (.reg f55r0) (f55p18)
def f55k : List Nat := [0, 1, 2, 3, 6, 7, 8, 9, 10, 11, 12, 13, 14, 15, 17, 18, 19, 20, 25, 26, 27, 28, 44, 73]
theorem f55c : Tryz.f55.body.bind (cC te Tryz.f55.ntmps) = some f55pc := by kernel_rfl
set_option maxRecDepth 20000
set_option maxHeartbeats 4000000


def fml (fm : List (Int × List Int)) : ML := fm.map fun x => ([.int .i64 x.1], polD x.2)
theorem mcmp_fml (x : Int) : ∀ (fm : List (Int × List Int)), mcmp [.i] [.int .i64 x] (fml fm) = true
  | [] => rfl
  | f :: r => by
    simp only [fml, List.map_cons, mcmp]
    rw [eq1]
    have := mcmp_fml x r
    unfold fml at this
    cases x == f.1 <;> simp [this]
theorem mget_fml (x : Int) : ∀ (fm : List (Int × List Int)), mget [.i] [.int .i64 x] (fml fm) = (fget x fm).map polD
  | [] => rfl
  | (y, p) :: r => by
    have ih := mget_fml x r
    unfold fml at ih ⊢
    simp only [List.map_cons, mget, fget]
    rw [eq1, ih]
    by_cases h : x = y
    · subst h; simp
    · have h' : (x == y) = false := by simpa using h
      rw [h', if_neg h, if_neg (by decide)]
theorem mput_fml (x : Int) (p : List Int) : ∀ (fm : List (Int × List Int)), fget x fm = none → mput [.i] [.int .i64 x] (polD p) (fml fm) = fml (fm ++ [(x, p)])
  | [], _ => rfl
  | (y, q) :: r, h => by
    simp only [fget] at h
    split at h
    · cases h
    · rename_i hf
      have ih := mput_fml x p r h
      have h' : (x == y) = false := by simpa using hf
      unfold fml at ih ⊢
      simp only [List.map_cons, List.cons_append, mput]
      rw [eq1, h', if_neg (by decide), ih]
theorem fget_mem {x : Int} {q : List Int} : ∀ {fm : List (Int × List Int)}, fget x fm = some q → ∃ y, (y, q) ∈ fm
  | (y, p) :: r, h => by
    simp only [fget] at h
    split at h
    · cases h; exact ⟨y, by simp⟩
    · obtain ⟨z, hz⟩ := fget_mem h; exact ⟨z, by simp [hz]⟩
theorem dvL_pol (go : Nat → Option AO) : ∀ (p : List Int), dvL go (polA p) = polA p
  | [] => rfl
  | x :: p => by
    have ih := dvL_pol go p
    simp only [polA, List.map_cons] at ih ⊢
    simp only [dvL, dv, ih]
theorem ownsL_pol : ∀ (p : List Int), ownsL (polA p) = false
  | [] => rfl
  | x :: p => by
    have ih := ownsL_pol p
    simp only [polA, List.map_cons] at ih ⊢
    simp only [ownsL, owns, ih, Bool.or_self]
theorem ne_none {α : Type} {o : Option α} {q : α} (h : o = some q) : ¬ o = none := by rw [h]; simp
theorem eqz {p : List Int} (h : p.length = 24) : eqLs [.i, .i, .i, .i, .i, .i, .i, .i, .i, .i, .i, .i, .i, .i, .i, .i, .i, .i, .i, .i, .i, .i, .i, .i] (List.replicate 24 (Value.int .i64 0)) (p.map (Value.int .i64)) = some (List.replicate 24 0 == p) := by
  have := eq_pol (p := List.replicate 24 0) (by simp) h
  simpa using this
def partR : Option (List Int) → AV
  | some c => .tp [.d (.sl 1 (c.map iD)), .d (.v (.bool true))]
  | none => .tp [.d (.sl 1 []), .d (.v (.bool false))]
theorem pe_new {b : List Int} {bk v : Int} {es : List Arc} {ps : List (List Int)} {fm : List (Int × List Int)} {k : Nat} {e : Arc} {p : List Int} {T : Option (Int × List Int)} (h : partE b bk (es.drop k) (ps.drop k) fm = T) (h1 : es.drop k = e :: es.drop (k + 1)) (h2 : ps.drop k = p :: ps.drop (k + 1)) (hv : b.getD e.src.toNat 0 = v) (hf : fget v fm = none) : partE b bk (es.drop (k + 1)) (ps.drop (k + 1)) (fm ++ [(v, p)]) = T := by rw [h1, h2, partE, hv, hf] at h; exact h
theorem pe_old {b : List Int} {bk v : Int} {es : List Arc} {ps : List (List Int)} {fm : List (Int × List Int)} {k : Nat} {e : Arc} {p q : List Int} {T : Option (Int × List Int)} (h : partE b bk (es.drop k) (ps.drop k) fm = T) (h1 : es.drop k = e :: es.drop (k + 1)) (h2 : ps.drop k = p :: ps.drop (k + 1)) (hv : b.getD e.src.toNat 0 = v) (hf : fget v fm = some q) (hc : (if (!(q == p)) = true then !(v == bk) else false) = false) : partE b bk (es.drop (k + 1)) (ps.drop (k + 1)) fm = T := by
  have hn : ¬ (q ≠ p ∧ v ≠ bk) := by
    rintro ⟨a, c⟩
    have a' : (q == p) = false := by simpa using a
    have c' : (v == bk) = false := by simpa using c
    rw [a', c'] at hc; exact absurd hc (by decide)
  rw [h1, h2, partE, hv, hf] at h
  simp only [if_neg hn] at h
  exact h
theorem pe_hit {b : List Int} {bk v : Int} {es : List Arc} {ps : List (List Int)} {fm : List (Int × List Int)} {k : Nat} {e : Arc} {p q : List Int} {T : Option (Int × List Int)} (h : partE b bk (es.drop k) (ps.drop k) fm = T) (h1 : es.drop k = e :: es.drop (k + 1)) (h2 : ps.drop k = p :: ps.drop (k + 1)) (hv : b.getD e.src.toNat 0 = v) (hf : fget v fm = some q) (hc : (if (!(q == p)) = true then !(v == bk) else false) = true) : T = some (v, q) := by
  have hn : q ≠ p ∧ v ≠ bk := by
    constructor
    · rintro rfl; simp at hc
    · rintro rfl; simp at hc
  rw [h1, h2, partE, hv, hf] at h
  simp only [if_pos hn] at h
  exact h.symm
theorem pe_nil (b : List Int) (bk : Int) (ps : List (List Int)) (fm : List (Int × List Int)) : partE b bk [] ps fm = none := by cases ps <;> rfl
theorem pg_none {b : List Int} {pss : List (List (List Int))} {es : List Arc} {l : List (List Arc)} {k : Nat} {T : Option (List Int)} (h : partGo b pss (l.drop k) k = T) (hd : l.drop k = es :: l.drop (k + 1)) (hp : partE b (b.getD k 0) es (pss.getD k []) [] = none) : partGo b pss (l.drop (k + 1)) (k + 1) = T := by rw [hd, partGo, hp] at h; exact h
theorem pg_some {b : List Int} {pss : List (List (List Int))} {es : List Arc} {l : List (List Arc)} {k : Nat} {v : Int} {q : List Int} {T : Option (List Int)} (h : partGo b pss (l.drop k) k = T) (hd : l.drop k = es :: l.drop (k + 1)) (hp : partE b (b.getD k 0) es (pss.getD k []) [] = some (v, q)) : T = some (nmbV (outGo b v q b.length es (pss.getD k []) b)) := by rw [hd, partGo, hp] at h; exact h.symm
theorem part_fn (n : Net) (hn : n.small) (m : n.May) (pss : List (List (List Int))) (hP : PssOk n pss) (b : List Int) (hb : b.length = n.origin.length) :
    FnS Tryz.prog 55 [n.av, .d (.sl 1 (pss.map pssD)), .d (.sl 1 (b.map iD))] (partR (partV n pss b)) := by
  have hm : maxLen = 9223372036854775807 := rfl
  have m2 := m.edges
  have m3 := m.most
  have hpl := hP.len
  refine fn_of teok Tryz.func55 (by kernel_rfl) f55c f55k [.tmp 6, .tmp 7] rfl (by show 3 ≤ 83; omega) ?_
  first | (have _q := @g1; clear _q) | have g1 : Nat.pred 77 = 76 := rfl
  first | (have _q := @g2; clear _q) | have g2 : Nat.pred 77 = 76 := rfl
  first | (have _q := @g3; clear _q) | have g3 : Nat.pred 77 = 76 := rfl
  first | (have _q := @g4; clear _q) | have g4 : Nat.pred 77 = 76 := rfl
  first | (have _q := @g5; clear _q) | have g5 : Nat.pred 77 = 76 := rfl
  first | (have _q := @g6; clear _q) | have g6 : Nat.pred 77 = 76 := rfl
  first | (have _q := @g7; clear _q) | have g7 : Nat.pred 77 = 76 := rfl
  first | (have _q := @g8; clear _q) | have g8 : Nat.pred 77 = 76 := rfl
  first | (have _q := @g9; clear _q) | have g9 : Nat.pred 77 = 76 := rfl
  first | (have _q := @g10; clear _q) | have g10 : Nat.pred 77 = 76 := rfl
  first | (have _q := @g11; clear _q) | have g11 : Nat.pred 77 = 76 := rfl
  first | (have _q := @g12; clear _q) | have g12 : Nat.pred 77 = 76 := rfl
  first | (have _q := @g13; clear _q) | have g13 : Nat.pred 77 = 76 := rfl
  first | (have _q := @g14; clear _q) | have g14 : Nat.pred 77 = 76 := rfl
  first | (have _q := @g15; clear _q) | have g15 : Nat.pred 77 = 76 := rfl
  repeat' first
|(exact absurd hc (by decide))
|(have hf2 : fget v y.2 = none := hff; clear hff; have g10 : mget [.i] [.int .i64 v] (fml y.2) = none := (by rw [mget_fml, hf2]; rfl); have g11 := mput_fml v p y.2 hf2; have g12 := eqz h24; simp only [List.replicate] at g12)
|(have hf2 : fget v y.2 = some q := hff; clear hff; obtain ⟨y0, hqm⟩ := fget_mem hf2; have hq24 : q.length = 24 := hy.2.1 _ hqm; have g10 : mget [.i] [.int .i64 v] (fml y.2) = some (polD q) := (by rw [mget_fml, hf2]; rfl); have g11 := splice_pol hq24; have g12 := eq_pol hq24 h24; have g13 := polA_24 hq24; have g14 : (polA q).take 24 = polA q := List.take_of_length_le (by omega); have g15 := polD_24 hq24)
|(with_reducible first | refine awp_seq ?_ | refine awp_block ?_ | refine awp_reg ?_ | refine awp_regD ?_ | refine awp_ret ?_ | refine awp_skip ?_ | refine awp_exit ?_ | refine normQ_of ?_ | refine wkE_of ?_ | refine runD_nil ?_ | refine runD_cons ?_ | refine runF_cons ?_ | refine runF_nil ?_ | refine KF_of ?_ | refine chkQ_of rfl ?_)
|with_reducible refine awp_cond (by simp only [evX, lget, Option.getD_some, reduceIte, Nat.reduceEqDiff]; rfl) (fun hc => ?_) (fun hc => ?_)
|with_reducible refine CallU_of (f := 92) (out_fn n hn m pss hP b hb x.1 (by omega) v q hq24) (by first | exact Or.inr (Or.inl rfl) | exact Or.inl rfl) ?_
|(with_reducible assumption)
|with_reducible refine fun (hG : okL _) => ?_
|(with_reducible refine fun (hT : (_ : Bool) = _) => ?_)
|(with_reducible first | exact hG.2 | exact hG.2.2 | exact hG.2.2.2 | exact hG.2.2.2.2)
|with_reducible refine okL_mk ?_ ?_
|with_reducible refine And.intro ?_ ?_
|(with_reducible refine loopQ_next ((y.1 + 1, if fget v y.2 = none then y.2 ++ [(v, p)] else y.2)) ?_ ?_ (Wk_sub (by first | rfl | (simp [closedA, closedO, keepH, retC, hasK, nmO, nm, nmL, nmL_box, nmL_pol, nmL_ia, nmL_d, nmL_app, nmL_rep, lget, lput, lputs]; done)) (by first | rfl | (simp [closedA, closedO, keepH, retC, hasK, nmO, nm, nmL, nmL_box, nmL_pol, nmL_ia, nmL_d, nmL_app, nmL_rep, lget, lput, lputs]; done)) ?_ ?_))
|(with_reducible refine loopQ_next ((x.1 + 1, ())) ?_ ?_ (Wk_sub rfl rfl ?_ ?_))
|(with_reducible refine awp_loopU (b := f55p15) (fun x : Nat × Unit => x.1 ≤ n.edges.length ∧ partGo b pss (n.edges.drop x.1) x.1 = partV n pss b) (fun x => n.edges.length - x.1) (fun x => [(19, .d (.v (.int .i64 x.1)))]) (fun x => []) ((0, ())) (⟨Nat.zero_le _, rfl⟩) (Wk.refl _ _) (Wk_sub rfl rfl ?_ ?_) (fun x hx => ?_))
|(refine Exists.elim (at_drop esD n.edges x.1 (Int.ofNat_lt.1 (of_decide_eq_true (show decide ((x.1 : Int) < n.edges.length) = true from hc)))) (fun es he => ?_); refine Exists.elim (at_drop pssD pss x.1 (by have := he.2.2.2; omega)) (fun ps hq => ?_); refine Exists.elim (at_drop iD b x.1 (by have := he.2.2.2; omega)) (fun bk hbk => ?_); have g1 := he.2.1; have g2 := hq.2.1; have g3 := hbk.2.1; simp only [Int.toNat_natCast] at g1 g2 g3; have hrow := hP.row x.1 es ps he.2.2.1 hq.2.2.1; have hpol := hP.pol ps (List.mem_of_getElem? hq.2.2.1); have hel := m.row es (List.mem_of_getElem? he.2.2.1); have hsr := m.src x.1 es he.2.2.1; have hkx := he.2.2.2; replace hc : True := trivial)
|(with_reducible refine awp_loopU (b := f55p9) (fun y : Nat × List (Int × List Int) => y.1 ≤ es.length ∧ (∀ f ∈ y.2, f.2.length = 24) ∧ partE b bk (es.drop y.1) (ps.drop y.1) y.2 = partE b bk es ps []) (fun y => es.length - y.1) (fun y => [(27, .d (.v (.int .i64 y.1)))]) (fun y => [(24, .map false true (fml y.2))]) ((0, [])) (⟨Nat.zero_le _, by simp, rfl⟩) (Wk.refl _ _) (Wk_sub rfl rfl ?_ ?_) (fun y hy => ?_))
|(refine Exists.elim (at_drop Arc.row es y.1 (Int.ofNat_lt.1 (of_decide_eq_true (show decide ((y.1 : Int) < es.length) = true from hc)))) (fun e hee => ?_); refine Exists.elim (at_drop polD ps y.1 (by have := hee.2.2.2; omega)) (fun p hp => ?_); have g4 := hee.2.1; have g5 := hp.2.1; simp only [Int.toNat_natCast] at g4 g5; have hs := hsr e (List.mem_of_getElem? hee.2.2.1); have g6' := at_int iD b 0 hs.1 (by omega); obtain ⟨v, hv⟩ : ∃ v, b.getD e.src.toNat 0 = v := ⟨_, rfl⟩; rw [hv] at g6'; have g6 := g6'; have h24 := hpol p (List.mem_of_getElem? hp.2.2.1); have g7 := take_polD h24; have g8 := polD_24 h24; have g9 := mcmp_fml v y.2; replace hc : True := trivial; rcases hff : fget v y.2 with _ | q)
|simp only [f55r0, f55r1, f55r2, f55r3, f55r4, f55r5, f55r6, f55r7, f55r8, f55r9, f55r10, f55r11, f55r12, f55r13, f55r14, f55r15, f55r16, g1, g2, g3, g4, g5, g6, g7, g8, g9, g10, g11, g12, g13, g14, g15, f55k, te91, toDs_pol, dvL_pol, ownsL_pol, List.length_map, Int.toNat_natCast, polA_d, polA_len, toVals_pol, Option.isSome_some, Option.isSome_none, Option.getD_none, Option.getD_some, List.getElem?_cons_zero, List.getElem?_cons_succ, runG_nil, runG_u, runG_g, runG_ucS, stp, avL, avS, evs, evX, lget, lput, strip, putO, PO.dst, updO, okR, cells, splice, AV.cell, toD, toDs, binV, sameK, pickV, guardOf, okL_nil, sides, argsOf, rawOf, dv, dvL, owns, ownsL, flat, flatL, lkeep, seqQ, blockQ, initS, List.drop_succ_cons, List.drop_zero, List.take_succ_cons, List.take_zero, List.getD_cons_zero, List.getD_cons_succ, List.length_cons, List.length_nil, List.set_cons_zero, List.set_cons_succ, List.map_cons, List.map_nil, List.all_cons, List.all_nil, List.elem_cons, List.elem_nil, Option.getD_some, Option.getD_none, Option.bind_some, Option.isNone_none, reduceIte, reduceCtorEq, Nat.reduceEqDiff, Nat.reduceAdd, Nat.reduceLeDiff, Nat.zero_add, Nat.add_zero, Nat.reduceBEq, Bool.and_self, Bool.and_true, Bool.true_and, Bool.or_self, Bool.or_false, Bool.false_or, Bool.or_true, Bool.true_or, true_and, and_true, and_self, implies_true, forall_const, Bool.false_eq_true, id_eq, retQ, resOf, resV, Option.some.injEq, exists_eq_left', AV.d.injEq, D.v.injEq, Value.bool.injEq, imp_self, bldF, bldS, toVals, eqLs, Option.map_some, imp_false, not_true_eq_false, not_false_eq_true, foot, wrs, nm, nmL, PG.reads, PG.dst, PO.reads, X.sl, sls, slB, List.append_nil, List.cons_append, List.nil_append, Option.toList_some, Option.toList_none, loopQ_exit, loopQ_ret, subS, subO, Bool.bne_false, Bool.bne_true, elemsOf, bslD, bslS, mentries, isAgV, asA, lputs, mgetD_set, mcmp_set, mput_set, List.headD_cons, sealS, sealO, sealV, sealL, mput_nil, mcmp_nil, sealsS, sealsO, Bool.true_bne, Bool.false_bne, bne_self_eq_false, Int.reduceToNat, oSl, resR, lenB, argsN, dvN]
  all_goals try first
|omega
|(with_reducible rfl)
|exact polA_cell _
|(show Value.int _ 0 = _; rfl)
|exact count64 hee.2.2.2 (by omega)
|exact count64 hkx (by omega)
|(show AO.map _ _ [] = AO.map _ _ _; rfl)
|exact fun q => q.elim
|(rw [if_neg (ne_none hf2)]; exact hy.2.1)
|(rw [if_neg (ne_none hf2)]; exact pe_old hy.2.2 hee.1 hp.1 hv hf2 hc)
|(rw [if_neg (ne_none hf2)]; done)
|(rw [if_pos hf2]; intro f hf; rcases List.mem_append.1 hf with q | q; exact hy.2.1 f q; (simp only [List.mem_singleton] at q; subst q; exact h24))
|(rw [if_pos hf2]; exact pe_new hy.2.2 hee.1 hp.1 hv hf2)
|(rw [if_pos hf2]; done)
|(have h1 := pe_hit hy.2.2 hee.1 hp.1 hv hf2 hc; rw [pg_some hx.2 he.1 (by rw [gD_some hbk.2.2.1, gD_some hq.2.2.1]; exact h1)]; rw [gD_some he.2.2.1]; rfl)
|(have h0 := of_decide_eq_false (show decide ((y.1 : Int) < es.length) = false from hc); have h1 := hy.2.2; rw [List.drop_eq_nil_of_le (by omega), pe_nil] at h1; exact pg_none hx.2 he.1 (by rw [gD_some hbk.2.2.1, gD_some hq.2.2.1]; exact h1.symm))
|(have h0 := of_decide_eq_false (show decide ((x.1 : Int) < n.edges.length) = false from hc); have h1 := hx.2; rw [List.drop_eq_nil_of_le (by omega), partGo] at h1; rw [← h1]; rfl)
  all_goals trace_state
end Go.Proofs.YtgkkaimcchlnaaaGreatDoor
