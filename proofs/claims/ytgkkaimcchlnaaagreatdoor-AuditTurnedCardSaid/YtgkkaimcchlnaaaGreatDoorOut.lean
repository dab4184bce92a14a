/- What refine.out comes to. Printed by a program of this project (wip/mq). -/
import Derived.Test.YtgkkaimcchlnaaaGreatDoorSplit
set_option linter.unusedVariables false
set_option linter.unusedSimpArgs false

namespace Go.Proofs.YtgkkaimcchlnaaaGreatDoor
open Go Mq Go.ChangeShapes Go.WideShapes Go.ChangeAt Go.RowKit
/-! maquette/refine.out -/
def f92r0 : List PG := [.u (.bx 6 (.t 0)), .u (.bx 11 (.t 5)), .u (.mv 12 (.nl 1))]
def f92r1 : List PG := [.u (.mv 21 (.t 2)), .u (.app 22 3 1 8 (.nl 1) (.t 21)), .u (.mv 13 (.t 22))]
def f92r2 : List PG := [.u (.fa 23 2 (.t 6)), .u (.ld 24 1 false (.t 23)), .u (.mv 25 (.t 3)), .u (.ia 26 1 (.t 24) (.t 25)), .u (.ld 27 1 false (.t 26)), .u (.len 28 (.t 27)), .u (.mv 29 (.k (.int .i64 0)))]
def f92r3 : List PG := [.u (.bo 30 .lss (.t 29) (.t 28))]
def f92r4 : List PG := [.u (.mv 31 (.t 29)), .u (.ia 32 4 (.t 27) (.t 29)), .u (.ld 33 4 true (.t 32)), .u (.al 15 [.d (.v (.int .i64 0)), .d (.v (.int .i64 0)), .nl 10, .nl 10]), .u (.mv 14 (.t 31)), .u (.st 4 (.t 15) (.t 33))]
def f92r5 : List PG := [.u (.mv 34 (.t 2)), .u (.fa 35 0 (.t 15)), .u (.ld 36 1 false (.t 35)), .u (.ia 37 1 (.t 34) (.t 36)), .u (.ld 38 1 false (.t 37)), .u (.mv 39 (.t 4)), .u (.beq 40 false false (.t 38) (.t 39)), .u (.mv 41 (.t 40)), .g 41 true (.mv 42 (.t 1)), .g 41 true (.mv 43 (.t 3)), .g 41 true (.ia 44 1 (.t 42) (.t 43)), .g 41 true (.ld 45 1 false (.t 44)), .g 41 true (.mv 46 (.t 14)), .g 41 true (.ia 47 24 (.t 45) (.t 46)), .g 41 true (.ld 48 24 true (.t 47)), .g 41 true (.ld 49 24 true (.t 11)), .g 41 true (.beqs 50 true [.i, .i, .i, .i, .i, .i, .i, .i, .i, .i, .i, .i, .i, .i, .i, .i, .i, .i, .i, .i, .i, .i, .i, .i] (.t 48) (.t 49)), .u (.pick 51 (.t 41) (.t 50) (.k (.bool false)))]
def f92r6 : List PG := [.u (.mv 52 (.t 13)), .u (.fa 53 0 (.t 15)), .u (.ld 54 1 false (.t 53)), .u (.mv 55 (.t 2)), .u (.len 56 (.t 55)), .u (.ia 57 1 (.t 52) (.t 54)), .u (.st 1 (.t 57) (.t 56))]
abbrev f92p0 : PC := .cond (.t 51) (.reg f92r6) (.skip)
abbrev f92p1 : PC := .seq (.regD f92r5 []) (f92p0)
def f92r7 : List PG := [.u (.bo 58 .add (.t 29) (.k (.int .i64 1))), .u (.mv 29 (.t 58))]
abbrev f92p2 : PC := .seq (.block 1 (.seq (.reg f92r4) (f92p1))) (.reg f92r7)
abbrev f92p3 : PC := .seq (.cond (.t 30) (.skip) (.exit 0)) (f92p2)
abbrev f92p4 : PC := .seq (.reg f92r3) (f92p3)
abbrev f92p5 : PC := .block 0 (.loop (f92p4))
def f92r8 : List PG := [.u (.mkm 59 false false), .u (.mv 16 (.t 59))]
def f92r9 : List PG := [.u (.mv 60 (.t 13)), .u (.len 61 (.t 60)), .u (.mv 62 (.k (.int .i64 0)))]
def f92r10 : List PG := [.u (.bo 63 .lss (.t 62) (.t 61))]
def f92r11 : List PG := [.u (.mv 64 (.t 62)), .u (.ia 65 1 (.t 60) (.t 62)), .u (.ld 66 1 false (.t 65)), .u (.mv 17 (.t 64)), .u (.mv 18 (.t 66))]
def f92r12 : List PG := [.u (.mv 68 (.t 16)), .u (.mv 69 (.t 18)), .u (.lkp 70 false false [.i] [.d (.v (.int .i64 0))] true (.t 68) (.t 69)), .u (.mv 67 (.t 70)), .u (.ext 71 (.t 67) 0), .u (.ext 72 (.t 67) 1), .u (.mv 19 (.t 71)), .u (.mv 20 (.t 72))]
def f92r13 : List PG := [.u (.mv 73 (.t 20)), .u (.no 74 (.t 73))]
def f92r14 : List PG := [.u (.mv 75 (.t 16)), .u (.mv 76 (.t 18)), .u (.mv 77 (.t 16)), .u (.mln 78 false false (.t 77)), .u (.mup false false [.i] 1 (.t 75) (.t 76) (.t 78))]
abbrev f92p6 : PC := .cond (.t 74) (.reg f92r14) (.skip)
abbrev f92p7 : PC := .seq (.reg f92r13) (f92p6)
def f92r15 : List PG := [.u (.mv 79 (.t 13)), .u (.mv 80 (.t 17)), .u (.mv 81 (.t 16)), .u (.mv 82 (.t 18)), .u (.lkp 83 false false [.i] [.d (.v (.int .i64 0))] false (.t 81) (.t 82)), .u (.ia 84 1 (.t 79) (.t 80)), .u (.st 1 (.t 84) (.t 83))]
abbrev f92p8 : PC := .seq (.seq (.reg f92r12) (f92p7)) (.reg f92r15)
def f92r16 : List PG := [.u (.bo 85 .add (.t 62) (.k (.int .i64 1))), .u (.mv 62 (.t 85))]
abbrev f92p9 : PC := .seq (.block 3 (.seq (.reg f92r11) (f92p8))) (.reg f92r16)
abbrev f92p10 : PC := .seq (.cond (.t 63) (.skip) (.exit 2)) (f92p9)
abbrev f92p11 : PC := .seq (.reg f92r10) (f92p10)
abbrev f92p12 : PC := .block 2 (.loop (f92p11))
def f92r17 : List PG := [.u (.mv 86 (.t 13)), .u (.mv 12 (.t 86))]
abbrev f92p13 : PC := .seq (.reg f92r17) (.ret)
abbrev f92p14 : PC := .seq (.seq (.reg f92r9) (f92p12)) (f92p13)
abbrev f92p15 : PC := .seq (.reg f92r8) (f92p14)
abbrev f92p16 : PC := .seq (.seq (.reg f92r2) (f92p5)) (f92p15)
abbrev f92p17 : PC := .seq (.reg f92r1) (f92p16)
abbrev f92pc : PC := .seq (.reg f92r0) (f92p17)
def f92k : List Nat := [0, 1, 2, 3, 4, 5, 6, 11, 12, 13, 14, 15, 16, 17, 18, 20, 27, 28, 29, 30, 51, 60, 61, 62, 63, 74]
theorem f92c : Tryz.f92.body.bind (cC te Tryz.f92.ntmps) = some f92pc := by kernel_rfl
set_option maxRecDepth 20000
set_option maxHeartbeats 4000000


def nml : List Int → Nat → ML
  | [], _ => []
  | f :: r, i => ([.int .i64 f], [.v (.int .i64 (i : Int))]) :: nml r (i + 1)
theorem nml_len : ∀ (l : List Int) (i : Nat), (nml l i).length = l.length
  | [], _ => rfl
  | f :: r, i => by simp [nml, nml_len r (i + 1)]
theorem eq1 (x f : Int) : eqLs [.i] [.int .i64 x] [.int .i64 f] = some (x == f) := by
  have := eqIs [x] [f] rfl
  simp only [List.length_singleton, List.replicate_one, List.map_cons, List.map_nil] at this
  rw [this]; simp
theorem mcmp_nml (x : Int) : ∀ (l : List Int) (i : Nat), mcmp [.i] [.int .i64 x] (nml l i) = true
  | [], _ => rfl
  | f :: r, i => by
    simp only [nml, mcmp]
    rw [eq1]
    have := mcmp_nml x r (i + 1)
    cases x == f <;> simp [this]
theorem mget_nml (x : Int) : ∀ (l : List Int) (i : Nat), mget [.i] [.int .i64 x] (nml l i) = (ixOf x l i).map fun j : Nat => [D.v (.int .i64 (j : Int))]
  | [], _ => rfl
  | f :: r, i => by
    simp only [nml, mget, ixOf]
    rw [eq1, mget_nml x r (i + 1)]
    by_cases h : f = x
    · subst h; simp
    · have h' : (x == f) = false := by simpa using fun q => h q.symm
      rw [h', if_neg h, if_neg (by decide)]
theorem mput_nml (x : Int) : ∀ (l : List Int) (i : Nat), ixOf x l i = none → mput [.i] [.int .i64 x] [.v (.int .i64 ((i + l.length : Nat) : Int))] (nml l i) = nml (l ++ [x]) i
  | [], _, _ => rfl
  | f :: r, i, h => by
    simp only [ixOf] at h
    split at h
    · cases h
    · rename_i hf
      have ih := mput_nml x r (i + 1) h
      have h' : (x == f) = false := by simpa using fun q => hf q.symm
      simp only [nml, mput, List.cons_append]
      rw [eq1, h', if_neg (by decide), ← ih, List.length_cons, show i + (r.length + 1) = i + 1 + r.length by omega]
theorem mput_nml0 {x : Int} {l : List Int} (h : ixOf x l 0 = none) : mput [.i] [.int .i64 x] [.v (.int .i64 ((l.length : Nat) : Int))] (nml l 0) = nml (l ++ [x]) 0 := by
  have := mput_nml x l 0 h
  rwa [Nat.zero_add] at this
theorem ixOf_snoc {x : Int} : ∀ (l : List Int) (i : Nat), ixOf x l i = none → ixOf x (l ++ [x]) i = some (i + l.length)
  | [], i, _ => by simp [ixOf]
  | f :: r, i, h => by
    simp only [ixOf] at h
    split at h
    · cases h
    · rename_i hf
      simp only [List.cons_append, ixOf, if_neg hf]
      rw [ixOf_snoc r (i + 1) h, List.length_cons]
      congr 1; omega
def rowN (c out : List Int) : List Int := out ++ c.drop out.length
theorem rowN_len {c out : List Int} (h : out.length ≤ c.length) : (rowN c out).length = c.length := by simp [rowN]; omega
theorem rowN_get {c out : List Int} {k : Nat} (hk : out.length = k) (h : k < c.length) : (rowN c out)[k]? = c[k]? := by
  subst hk
  rw [rowN, List.getElem?_append_right (Nat.le_refl _), Nat.sub_self, List.getElem?_drop, Nat.add_zero]
theorem rowN_set {c out : List Int} {k : Nat} (hk : out.length = k) (h : k < c.length) (v : Int) : (rowN c out).set k v = rowN c (out ++ [v]) := by
  subst hk
  rw [rowN, List.set_append_right _ _ (Nat.le_refl _), Nat.sub_self, List.drop_eq_getElem_cons h, List.set_cons_zero, rowN, List.length_append, List.length_singleton, List.append_assoc]
  rfl
theorem rowN_zero (c : List Int) : rowN c [] = c := by simp [rowN]
theorem rowN_end {c out : List Int} (h : c.length ≤ out.length) : rowN c out = out := by simp [rowN, List.drop_eq_nil_of_le h]
theorem rowN_put {e s g : Nat} {c out : List Int} {k : Nat} (hk : out.length = k) (h : k < c.length) (v : Int) : AO.row e s g (((rowN c out).map iD).set k ((((rowN c out).map iD).getD k []).set 0 (.v (.int .i64 v)))) = AO.row e s g ((rowN c (out ++ [v])).map iD) := by
  have : ((rowN c out).map iD).getD k [] = iD ((rowN c out).getD k 0) := by
    have hl : k < (rowN c out).length := by rw [rowN_len (by omega)]; exact h
    simp [List.getD, hl]
  rw [this, ← rowN_set hk h v]
  show AO.row e s g (((rowN c out).map iD).set k (iD v)) = _
  rw [List.map_set]
theorem rowN_put2 {e s g : Nat} {c out : List Int} {k : Nat} (hk : out.length = k) (h : k < c.length) (v : Int) : AO.row e s g (((rowN c out).map iD).set k [.v (.int .i64 v)]) = AO.row e s g ((rowN c (out ++ [v])).map iD) := by
  rw [← rowN_set hk h v]
  show AO.row e s g (((rowN c out).map iD).set k (iD v)) = _
  rw [List.map_set]
theorem out_nil (b : List Int) (x : Int) (q : List Int) (v : Int) (ps : List (List Int)) (c : List Int) : outGo b x q v [] ps c = c := by cases ps <;> rfl
theorem out_fin {b : List Int} {x v : Int} {q : List Int} {es : List Arc} {ps : List (List Int)} {k z : Nat} {c fs out T : List Int} (h : outGo b x q v (es.drop k) (ps.drop k) c = T) (hk : es.length ≤ k) (h2 : numGo (c.drop z) fs out = nmbV c) (hz : c.length ≤ z) (ho : out.length = z) : rowN c out = nmbV T := by
  rw [List.drop_eq_nil_of_le hk, out_nil] at h
  subst h
  rw [List.drop_eq_nil_of_le hz, numGo] at h2
  rw [rowN_end (by omega), h2]
theorem int_put {e s g : Nat} {c : List Int} {k : Nat} (h : k < c.length) (v : Int) : AO.row e s g ((c.map iD).set k (((c.map iD).getD k []).set 0 (.v (.int .i64 v)))) = AO.row e s g ((c.set k v).map iD) := by
  have : (c.map iD).getD k [] = iD (c.getD k 0) := by simp [List.getD, h]
  rw [this]
  show AO.row e s g ((c.map iD).set k (iD v)) = _
  rw [List.map_set]
theorem nmb_hit {c fs out : List Int} {k i : Nat} {x : Int} {T : List Int} (h : numGo (c.drop k) fs out = T) (hd : c.drop k = x :: c.drop (k + 1)) (hx : ixOf x fs 0 = some i) : numGo (c.drop (k + 1)) fs (out ++ [(i : Int)]) = T := by rw [hd, numGo, hx] at h; exact h
theorem num_new {c fs out : List Int} {k : Nat} {x : Int} {T : List Int} (h : numGo (c.drop k) fs out = T) (hd : c.drop k = x :: c.drop (k + 1)) (hx : ixOf x fs 0 = none) : numGo (c.drop (k + 1)) (fs ++ [x]) (out ++ [(fs.length : Int)]) = T := by rw [hd, numGo, hx] at h; exact h
theorem cnd {a c v : Bool} (h : (if a = true then (!c) else false) = v) : (a && !c) = v := by rw [← h]; cases a <;> rfl
theorem outv_step {b : List Int} {x v : Int} {q : List Int} {es : List Arc} {ps : List (List Int)} {k : Nat} {e : Arc} {p : List Int} {c T : List Int} (h : outGo b x q v (es.drop k) (ps.drop k) c = T) (h1 : es.drop k = e :: es.drop (k + 1)) (h2 : ps.drop k = p :: ps.drop (k + 1)) : outGo b x q v (es.drop (k + 1)) (ps.drop (k + 1)) (if b.getD e.src.toNat 0 == x && !(p == q) then c.set e.src.toNat v else c) = T := by rw [h1, h2, outGo] at h; exact h
theorem out_fn (n : Net) (hn : n.small) (m : n.May) (pss : List (List (List Int))) (hP : PssOk n pss) (b : List Int) (hb : b.length = n.origin.length) (k : Nat) (hk : k < n.origin.length) (x : Int) (q : List Int) (hq24 : q.length = 24) :
    FnS Tryz.prog 92 [n.av, .d (.sl 1 (pss.map pssD)), .d (.sl 1 (b.map iD)), .d (.v (.int .i64 k)), .d (.v (.int .i64 x)), .ag (polA q)] (.d (.sl 1 ((nmbV (outGo b x q b.length (n.edges.getD k []) (pss.getD k []) b)).map iD))) := by
  have hm : maxLen = 9223372036854775807 := rfl
  have m2 := m.edges
  have m3 := m.most
  have hpl := hP.len
  obtain ⟨es, hes⟩ : ∃ es, n.edges[k]? = some es := ⟨_, List.getElem?_eq_getElem (by omega)⟩
  obtain ⟨ps, hps⟩ : ∃ ps, pss[k]? = some ps := ⟨_, List.getElem?_eq_getElem (by omega)⟩
  have hrow := hP.row k es ps hes hps
  have hpol := hP.pol ps (List.mem_of_getElem? hps)
  have hel := m.row es (List.mem_of_getElem? hes)
  have hsr := m.src k es hes
  have g1 : List.getD (List.map esD n.edges) k [] = esD es := by simp [List.getD, hes]
  have g2 : List.getD (List.map pssD pss) k [] = pssD ps := by simp [List.getD, hps]
  have g3 := polA_24 hq24
  have g4 : (polA q).take 24 = polA q := List.take_of_length_le (by omega)
  have g5 := toVals_pol q
  rw [gD_some hes, gD_some hps]
  refine fn_of teok Tryz.func92 (by kernel_rfl) f92c f92k [.tmp 12] rfl (by show 6 ≤ 87; omega) ?_
  first | (have _q := @g1; clear _q) | have g1 : Nat.pred 77 = 76 := rfl
  first | (have _q := @g2; clear _q) | have g2 : Nat.pred 77 = 76 := rfl
  first | (have _q := @g3; clear _q) | have g3 : Nat.pred 77 = 76 := rfl
  first | (have _q := @g4; clear _q) | have g4 : Nat.pred 77 = 76 := rfl
  first | (have _q := @g5; clear _q) | have g5 : Nat.pred 77 = 76 := rfl
  first | (have _q := @g6; clear _q) | have g6 : Nat.pred 77 = 76 := rfl
  first | (have _q := @g7; clear _q) | have g7 : Nat.pred 77 = 76 := rfl
  first | (have _q := @g8; clear _q) | have g8 : Nat.pred 77 = 76 := rfl
  first | (have _q := @g9; clear _q) | have g9 : Nat.pred 77 = 76 := rfl
  first | (have _q := @g10; clear _q) | have g10 : Nat.pred 77 = 76 := rfl
  first | (have _q := @g11; clear _q) | have g11 : Nat.pred 77 = 76 := rfl
  repeat' first
|(exact absurd hc (by decide))
|(have hix2 : ixOf v z.2.1 0 = none := hix; clear hix; have g7 : mget [.i] [.int .i64 v] (nml z.2.1 0) = none := (by rw [mget_nml, hix2]; rfl); have g9 := mput_nml0 hix2; have g10 : mget [.i] [.int .i64 v] (nml (z.2.1 ++ [v]) 0) = some [.v (.int .i64 ((z.2.1.length : Nat) : Int))] := (by rw [mget_nml, ixOf_snoc _ _ hix2, Nat.zero_add]; rfl); have g11 := mcmp_nml v (z.2.1 ++ [v]) 0)
|(have hix2 : ixOf v z.2.1 0 = some i := hix; clear hix; have g7 : mget [.i] [.int .i64 v] (nml z.2.1 0) = some [.v (.int .i64 (i : Int))] := (by rw [mget_nml, hix2]; rfl))
|(with_reducible first | refine awp_seq ?_ | refine awp_block ?_ | refine awp_reg ?_ | refine awp_regD ?_ | refine awp_ret ?_ | refine awp_skip ?_ | refine awp_exit ?_ | refine normQ_of ?_ | refine wkE_of ?_ | refine runD_nil ?_ | refine runD_cons ?_ | refine runF_cons ?_ | refine runF_nil ?_ | refine KF_of ?_ | refine chkQ_of rfl ?_)
|with_reducible refine awp_cond (by simp only [evX, lget, Option.getD_some, reduceIte, Nat.reduceEqDiff]; rfl) (fun hc => ?_) (fun hc => ?_)
|(with_reducible assumption)
|with_reducible refine fun (hG : okL _) => ?_
|(with_reducible refine fun (hT : (_ : Bool) = _) => ?_)
|(with_reducible first | exact hG.2 | exact hG.2.2 | exact hG.2.2.2 | exact hG.2.2.2.2)
|with_reducible refine okL_mk ?_ ?_
|with_reducible refine And.intro ?_ ?_
|(with_reducible refine awp_loopU (b := f92p4) (fun y : Nat × List Int => y.1 ≤ es.length ∧ y.2.length = b.length ∧ outGo b x q b.length (es.drop y.1) (ps.drop y.1) y.2 = outGo b x q b.length es ps b) (fun y => es.length - y.1) (fun y => [(29, .d (.v (.int .i64 y.1)))]) (fun y => [(22, .row 3 1 0 (y.2.map iD))]) ((0, b)) (⟨Nat.zero_le _, rfl, rfl⟩) (Wk.refl _ _) (Wk_sub (by first | rfl | (simp [closedA, closedO, keepH, retC, hasK, nmO, nm, nmL, nmL_box, nmL_pol, nmL_ia, nmL_d, nmL_app, nmL_rep, lget, lput, lputs]; done)) (by first | rfl | (simp [closedA, closedO, keepH, retC, hasK, nmO, nm, nmL, nmL_box, nmL_pol, nmL_ia, nmL_d, nmL_app, nmL_rep, lget, lput, lputs]; done)) ?_ ?_) (fun y hy => ?_))
|(refine Exists.elim (at_drop Arc.row es y.1 (Int.ofNat_lt.1 (of_decide_eq_true (show decide ((y.1 : Int) < es.length) = true from hc)))) (fun e he => ?_); refine Exists.elim (at_drop polD ps y.1 (by have := he.2.2.2; omega)) (fun p hp => ?_); have g6 := he.2.1; have g7 := hp.2.1; simp only [Int.toNat_natCast] at g6 g7; have hs := hsr e (List.mem_of_getElem? he.2.2.1); have g8 := at_int iD b 0 hs.1 (by omega); have h24 := hpol p (List.mem_of_getElem? hp.2.2.1); have g9 := take_polD h24; have g10 := eq_pol h24 hq24; have g11 := polD_24 h24; replace hc : True := trivial)
|(refine Exists.elim (at_drop iD (rowN y.2 z.2.2) z.1 (by have h0 := Int.ofNat_lt.1 (of_decide_eq_true (show decide ((z.1 : Int) < _) = true from hc)); have := hz.2.1; first | (rw [rowN_len (by omega)] at h0 ⊢; exact h0) | (rw [rowN_len (by omega)]; omega))) (fun v hv => ?_); have hlt : z.1 < y.2.length := (by have := hv.2.2.2; rw [rowN_len (by have := hz.2.1; omega)] at this; exact this); have hyv : y.2[z.1]? = some v := (by rw [← rowN_get hz.2.1 hlt]; exact hv.2.2.1); have hd := drop_getD hyv; have g6 := hv.2.1; simp only [Int.toNat_natCast] at g6; have g8 := mcmp_nml v z.2.1 0; replace hc : True := trivial; rcases hix : ixOf v z.2.1 0 with _ | i)
|(with_reducible refine loopQ_next ((z.1 + 1, z.2.1, z.2.2 ++ [(i : Int)])) ?_ ?_ (Wk_sub (by first | rfl | (simp [closedA, closedO, keepH, retC, hasK, nmO, nm, nmL, nmL_box, nmL_pol, nmL_ia, nmL_d, nmL_app, nmL_rep, lget, lput, lputs]; done)) (by first | rfl | (simp [closedA, closedO, keepH, retC, hasK, nmO, nm, nmL, nmL_box, nmL_pol, nmL_ia, nmL_d, nmL_app, nmL_rep, lget, lput, lputs]; done)) ?_ ?_))
|(with_reducible refine loopQ_next ((z.1 + 1, z.2.1 ++ [v], z.2.2 ++ [(z.2.1.length : Int)])) ?_ ?_ (Wk_sub (by first | rfl | (simp [closedA, closedO, keepH, retC, hasK, nmO, nm, nmL, nmL_box, nmL_pol, nmL_ia, nmL_d, nmL_app, nmL_rep, lget, lput, lputs]; done)) (by first | rfl | (simp [closedA, closedO, keepH, retC, hasK, nmO, nm, nmL, nmL_box, nmL_pol, nmL_ia, nmL_d, nmL_app, nmL_rep, lget, lput, lputs]; done)) ?_ ?_))
|(have _q : (_ : Bool) = true := hc; with_reducible refine loopQ_next ((y.1 + 1, y.2.set e.src.toNat (b.length : Int))) ?_ ?_ (Wk_sub (by first | rfl | (simp [closedA, closedO, keepH, retC, hasK, nmO, nm, nmL, nmL_box, nmL_pol, nmL_ia, nmL_d, nmL_app, nmL_rep, lget, lput, lputs]; done)) (by first | rfl | (simp [closedA, closedO, keepH, retC, hasK, nmO, nm, nmL, nmL_box, nmL_pol, nmL_ia, nmL_d, nmL_app, nmL_rep, lget, lput, lputs]; done)) ?_ ?_))
|(have _q : (_ : Bool) = false := hc; with_reducible refine loopQ_next ((y.1 + 1, y.2)) ?_ ?_ (Wk_sub (by first | rfl | (simp [closedA, closedO, keepH, retC, hasK, nmO, nm, nmL, nmL_box, nmL_pol, nmL_ia, nmL_d, nmL_app, nmL_rep, lget, lput, lputs]; done)) (by first | rfl | (simp [closedA, closedO, keepH, retC, hasK, nmO, nm, nmL, nmL_box, nmL_pol, nmL_ia, nmL_d, nmL_app, nmL_rep, lget, lput, lputs]; done)) ?_ ?_))
|(with_reducible refine awp_loopU (b := f92p11) (fun z : Nat × List Int × List Int => z.1 ≤ y.2.length ∧ z.2.2.length = z.1 ∧ z.2.1.length ≤ z.1 ∧ numGo (y.2.drop z.1) z.2.1 z.2.2 = nmbV y.2) (fun z => y.2.length - z.1) (fun z => [(62, .d (.v (.int .i64 z.1)))]) (fun z => [(22, .row 3 1 0 ((rowN y.2 z.2.2).map iD)), (59, .map false false (nml z.2.1 0))]) ((0, [], [])) (⟨Nat.zero_le _, rfl, Nat.le_refl _, rfl⟩) (Wk.refl _ _) (Wk_sub (by first | rfl | (simp [closedA, closedO, keepH, retC, hasK, nmO, nm, nmL, nmL_box, nmL_pol, nmL_ia, nmL_d, nmL_app, nmL_rep, lget, lput, lputs]; done)) (by first | rfl | (simp [closedA, closedO, keepH, retC, hasK, nmO, nm, nmL, nmL_box, nmL_pol, nmL_ia, nmL_d, nmL_app, nmL_rep, lget, lput, lputs]; done)) ?_ ?_) (fun z hz => ?_))
|simp only [f92r0, f92r1, f92r2, f92r3, f92r4, f92r5, f92r6, f92r7, f92r8, f92r9, f92r10, f92r11, f92r12, f92r13, f92r14, f92r15, f92r16, f92r17, g1, g2, g3, g4, g5, g6, g7, g8, g9, g10, g11, f92k, te91, List.length_map, Int.toNat_natCast, polA_d, polA_len, toVals_pol, nml_len, Option.isSome_some, Option.isSome_none, Option.getD_none, List.getElem?_cons_zero, List.getElem?_cons_succ, runG_nil, runG_u, runG_g, runG_ucS, stp, avL, avS, evs, evX, lget, lput, strip, putO, PO.dst, updO, okR, cells, splice, AV.cell, toD, toDs, binV, sameK, pickV, guardOf, okL_nil, sides, argsOf, rawOf, dv, dvL, owns, ownsL, flat, flatL, lkeep, seqQ, blockQ, initS, List.drop_succ_cons, List.drop_zero, List.take_succ_cons, List.take_zero, List.getD_cons_zero, List.getD_cons_succ, List.length_cons, List.length_nil, List.set_cons_zero, List.set_cons_succ, List.map_cons, List.map_nil, List.all_cons, List.all_nil, List.elem_cons, List.elem_nil, Option.getD_some, Option.getD_none, Option.bind_some, Option.isNone_none, reduceIte, reduceCtorEq, Nat.reduceEqDiff, Nat.reduceAdd, Nat.reduceLeDiff, Nat.zero_add, Nat.add_zero, Nat.reduceBEq, Bool.and_self, Bool.and_true, Bool.true_and, Bool.or_self, Bool.or_false, Bool.false_or, Bool.or_true, Bool.true_or, true_and, and_true, and_self, implies_true, forall_const, Bool.false_eq_true, id_eq, retQ, resOf, resV, Option.some.injEq, exists_eq_left', AV.d.injEq, D.v.injEq, Value.bool.injEq, imp_self, bldF, bldS, toVals, eqLs, Option.map_some, imp_false, not_true_eq_false, not_false_eq_true, foot, wrs, nm, nmL, PG.reads, PG.dst, PO.reads, X.sl, sls, slB, List.append_nil, List.cons_append, List.nil_append, Option.toList_some, Option.toList_none, loopQ_exit, loopQ_ret, subS, subO, Bool.bne_false, Bool.bne_true, elemsOf, bslD, bslS, mentries, isAgV, asA, lputs, mgetD_set, mcmp_set, mput_set, List.headD_cons, sealS, sealO, sealV, sealL, mput_nil, mcmp_nil, sealsS, sealsO, Bool.true_bne, Bool.false_bne, bne_self_eq_false, Int.reduceToNat, oSl, resR, lenB, argsN, dvN]
  all_goals try first
|omega
|(with_reducible rfl)
|exact polA_cell _
|(rw [List.length_set]; exact hy.2.1)
|exact count64 he.2.2.2 (by omega)
|exact rowN_put2 hz.2.1 hlt _
|(have h0 := of_decide_eq_false (show decide ((z.1 : Int) < y.2.length) = false from hc); have h2 := of_decide_eq_false (show decide ((y.1 : Int) < es.length) = false by assumption); rw [out_fin hy.2.2 (by omega) hz.2.2.2 (by omega) hz.2.1]; done)
|(show Value.int _ 0 = _; rfl)
|exact count64 he.2.2.2 hel
|exact count64 hlt (by omega)
|(rw [rowN_zero]; done)
|(show AO.map _ _ [] = AO.map _ _ _; rfl)
|exact int_put (by omega) _
|exact rowN_put hz.2.1 hlt _
|(have h1 := outv_step hy.2.2 he.1 hp.1; rw [if_pos (cnd hc)] at h1; exact h1)
|(have h1 := outv_step hy.2.2 he.1 hp.1; rw [if_neg (by rw [cnd hc]; decide)] at h1; exact h1)
|exact nmb_hit hz.2.2.2 hd hix2
|exact num_new hz.2.2.2 hd hix2
|(have := hz.2.1; simp only [List.length_append, List.length_singleton, List.length_set]; omega)
|(rw [rowN_len (by have := hz.2.1; omega)]; omega)
|(rw [rowN_len (by have := hz.2.1; omega)]; exact hlt)
  all_goals trace_state
end Go.Proofs.YtgkkaimcchlnaaaGreatDoor
