/- What compile.Of comes to. Printed by a program of this project (wip/mq). -/
import Derived.Test.YtgkkaimcchlnaaaGreatDoorBit
import Derived.Test.YtgkkaimcchlnaaaGreatDoorLikes
set_option linter.unusedVariables false
set_option linter.unusedSimpArgs false

namespace Go.Proofs.YtgkkaimcchlnaaaGreatDoor
open Go Mq Go.ChangeShapes Go.WideShapes Go.ChangeAt Go.RowKit
/-! maquette/compile.Of -/
def f88r0 : List PG := [.u (.bx 3 (.t 1)), .u (.al 4 [.d (.v (.int .i64 0)), .d (.v (.int .i64 0)), .d (.v (.int .i64 0)), .d (.v (.int .i64 0)), .d (.v (.int .i64 0)), .d (.v (.int .i64 0)), .d (.v (.int .i64 0)), .d (.v (.int .i64 0)), .d (.v (.int .i64 0)), .d (.v (.int .i64 0)), .d (.v (.int .i64 0)), .d (.v (.int .i64 0)), .d (.v (.int .i64 0)), .d (.v (.int .i64 0)), .d (.v (.int .i64 0)), .d (.v (.int .i64 0)), .d (.v (.int .i64 0)), .d (.v (.int .i64 0)), .d (.v (.int .i64 0)), .d (.v (.int .i64 0)), .d (.v (.int .i64 0)), .d (.v (.int .i64 0)), .d (.v (.int .i64 0)), .d (.v (.int .i64 0))]), .u (.mv 5 (.k (.nilIface)))]
def f88r1 : List PG := [.u (.al 6 [.d (.v (.int .i64 0)), .d (.v (.int .i64 0)), .d (.v (.int .i64 0)), .d (.v (.int .i64 0)), .d (.v (.int .i64 0)), .d (.v (.int .i64 0)), .d (.v (.int .i64 0)), .d (.v (.int .i64 0)), .d (.v (.int .i64 0)), .d (.v (.int .i64 0)), .d (.v (.int .i64 0)), .d (.v (.int .i64 0)), .d (.v (.int .i64 0)), .d (.v (.int .i64 0)), .d (.v (.int .i64 0)), .d (.v (.int .i64 0)), .d (.v (.int .i64 0)), .d (.v (.int .i64 0)), .d (.v (.int .i64 0)), .d (.v (.int .i64 0)), .d (.v (.int .i64 0)), .d (.v (.int .i64 0)), .d (.v (.int .i64 0)), .d (.v (.int .i64 0))])]
def f88r2 : List PG := [.u (.al 7 [.d (.v (.bool false)), .d (.v (.int .i64 0)), .d (.v (.int .i64 0)), .d (.v (.int .u8 0)), .d (.v (.bool false)), .d (.v (.int .i64 0)), .d (.v (.int .i64 0)), .d (.v (.int .u8 0)), .d (.v (.bool false)), .d (.v (.int .i64 0)), .d (.v (.int .i64 0)), .d (.v (.int .u8 0)), .d (.v (.bool false)), .d (.v (.int .i64 0)), .d (.v (.int .i64 0)), .d (.v (.int .u8 0)), .d (.v (.bool false)), .d (.v (.int .i64 0)), .d (.v (.int .i64 0)), .d (.v (.int .u8 0)), .d (.v (.bool false)), .d (.v (.int .i64 0)), .d (.v (.int .i64 0)), .d (.v (.int .u8 0)), .d (.v (.bool false)), .d (.v (.int .i64 0)), .d (.v (.int .i64 0)), .d (.v (.int .u8 0)), .d (.v (.bool false)), .d (.v (.int .i64 0)), .d (.v (.int .i64 0)), .d (.v (.int .u8 0)), .d (.v (.bool false)), .d (.v (.int .i64 0)), .d (.v (.int .i64 0)), .d (.v (.int .u8 0)), .d (.v (.bool false)), .d (.v (.int .i64 0)), .d (.v (.int .i64 0)), .d (.v (.int .u8 0)), .d (.v (.bool false)), .d (.v (.int .i64 0)), .d (.v (.int .i64 0)), .d (.v (.int .u8 0)), .d (.v (.bool false)), .d (.v (.int .i64 0)), .d (.v (.int .i64 0)), .d (.v (.int .u8 0)), .d (.v (.bool false)), .d (.v (.int .i64 0)), .d (.v (.int .i64 0)), .d (.v (.int .u8 0)), .d (.v (.bool false)), .d (.v (.int .i64 0)), .d (.v (.int .i64 0)), .d (.v (.int .u8 0)), .d (.v (.bool false)), .d (.v (.int .i64 0)), .d (.v (.int .i64 0)), .d (.v (.int .u8 0)), .d (.v (.bool false)), .d (.v (.int .i64 0)), .d (.v (.int .i64 0)), .d (.v (.int .u8 0))])]
def f88r3 : List PG := [.u (.mv 15 (.k (.int .i64 0)))]
def f88r4 : List PG := [.u (.bo 16 .lss (.t 15) (.k (.int .i64 16)))]
def f88r5 : List PG := [.u (.mv 17 (.t 15)), .u (.mv 8 (.t 17))]
def f88r6 : List PG := [.u (.mv 19 (.t 8)), .u (.ld 20 4 true (.t 3)), .u (.mv 21 (.t 8)), .u (.cv 22 .u8 (.t 21)), .uc 23 84 [.t 20, .t 22], .u (.mv 18 (.t 23)), .u (.ext 24 (.t 18) 0), .u (.ext 25 (.t 18) 1), .u (.iap 26 16 4 (.t 7) (.t 19)), .u (.st 4 (.t 26) (.t 24))]
def f88r7 : List PG := [.u (.bo 27 .add (.t 15) (.k (.int .i64 1))), .u (.mv 15 (.t 27))]
abbrev f88p0 : PC := .seq (.block 1 (.seq (.reg f88r5) (.reg f88r6))) (.reg f88r7)
abbrev f88p1 : PC := .seq (.cond (.t 16) (.skip) (.exit 0)) (f88p0)
abbrev f88p2 : PC := .seq (.reg f88r4) (f88p1)
abbrev f88p3 : PC := .block 0 (.loop (f88p2))
def f88r8 : List PG := [.u (.mv 28 (.k (.int .i64 0)))]
def f88r9 : List PG := [.u (.bo 29 .lss (.t 28) (.k (.int .i64 24)))]
def f88r10 : List PG := [.u (.mv 30 (.t 28)), .u (.mv 9 (.t 30))]
def f88r11 : List PG := [.u (.mks 31 4 1 1 [.d (.v (.bool false))] (.k (.int .i64 16))), .u (.mv 10 (.t 31))]
def f88r12 : List PG := [.u (.ld 32 64 true (.t 7)), .u (.mv 33 (.k (.int .i64 0)))]
def f88r13 : List PG := [.u (.bo 34 .lss (.t 33) (.k (.int .i64 16)))]
def f88r14 : List PG := [.u (.mv 35 (.t 33)), .u (.idx 36 16 4 true (.t 32) (.t 33)), .u (.al 12 [.d (.v (.bool false)), .d (.v (.int .i64 0)), .d (.v (.int .i64 0)), .d (.v (.int .u8 0))]), .u (.mv 11 (.t 35)), .u (.st 4 (.t 12) (.t 36))]
def f88r15 : List PG := [.u (.mv 37 (.t 10)), .u (.mv 38 (.t 11)), .u (.ld 39 4 true (.t 12)), .u (.mv 40 (.t 9)), .uc 41 137 [.t 39, .t 40], .u (.ia 42 1 (.t 37) (.t 38)), .u (.st 1 (.t 42) (.t 41))]
def f88r16 : List PG := [.u (.bo 43 .add (.t 33) (.k (.int .i64 1))), .u (.mv 33 (.t 43))]
abbrev f88p4 : PC := .seq (.block 5 (.seq (.reg f88r14) (.reg f88r15))) (.reg f88r16)
abbrev f88p5 : PC := .seq (.cond (.t 34) (.skip) (.exit 4)) (f88p4)
abbrev f88p6 : PC := .seq (.reg f88r13) (f88p5)
abbrev f88p7 : PC := .block 4 (.loop (f88p6))
def f88r17 : List PG := [.u (.mv 45 (.t 0)), .u (.mv 46 (.t 10)), .uc 47 138 [.t 45, .k (.int .i64 4), .t 46], .u (.mv 44 (.t 47)), .u (.ext 48 (.t 44) 0), .u (.ext 49 (.t 44) 1), .u (.mv 13 (.t 48)), .u (.mv 14 (.t 49))]
def f88r18 : List PG := [.u (.mv 50 (.t 14)), .u (.beqn 51 true (.t 50))]
def f88r19 : List PG := [.u (.bld 52 [.d (.v (.int .i64 0)), .d (.v (.int .i64 0)), .d (.v (.int .i64 0)), .d (.v (.int .i64 0)), .d (.v (.int .i64 0)), .d (.v (.int .i64 0)), .d (.v (.int .i64 0)), .d (.v (.int .i64 0)), .d (.v (.int .i64 0)), .d (.v (.int .i64 0)), .d (.v (.int .i64 0)), .d (.v (.int .i64 0)), .d (.v (.int .i64 0)), .d (.v (.int .i64 0)), .d (.v (.int .i64 0)), .d (.v (.int .i64 0)), .d (.v (.int .i64 0)), .d (.v (.int .i64 0)), .d (.v (.int .i64 0)), .d (.v (.int .i64 0)), .d (.v (.int .i64 0)), .d (.v (.int .i64 0)), .d (.v (.int .i64 0)), .d (.v (.int .i64 0))] []), .u (.mv 53 (.t 14)), .u (.st 24 (.t 4) (.t 52)), .u (.mv 5 (.t 53))]
abbrev f88p8 : PC := .seq (.reg f88r19) (.ret)
abbrev f88p9 : PC := .cond (.t 51) (f88p8) (.skip)
def f88r20 : List PG := [.u (.mv 54 (.t 9)), .u (.mv 55 (.t 13)), .u (.iap 56 24 1 (.t 6) (.t 54)), .u (.st 1 (.t 56) (.t 55))]
abbrev f88p10 : PC := .seq (.seq (.reg f88r18) (f88p9)) (.reg f88r20)
abbrev f88p11 : PC := .seq (.reg f88r17) (f88p10)
abbrev f88p12 : PC := .seq (.seq (.reg f88r12) (f88p7)) (f88p11)
abbrev f88p13 : PC := .seq (.reg f88r11) (f88p12)
def f88r21 : List PG := [.u (.bo 57 .add (.t 28) (.k (.int .i64 1))), .u (.mv 28 (.t 57))]
abbrev f88p14 : PC := .seq (.block 3 (.seq (.reg f88r10) (f88p13))) (.reg f88r21)
abbrev f88p15 : PC := .seq (.cond (.t 29) (.skip) (.exit 2)) (f88p14)
abbrev f88p16 : PC := .seq (.reg f88r9) (f88p15)
abbrev f88p17 : PC := .block 2 (.loop (f88p16))
def f88r22 : List PG := [.u (.ld 58 24 true (.t 6)), .u (.st 24 (.t 4) (.t 58)), .u (.mv 5 (.k (.nilIface)))]
abbrev f88p18 : PC := .seq (.reg f88r22) (.ret)
abbrev f88p19 : PC := .seq (.seq (.reg f88r8) (f88p17)) (f88p18)
abbrev f88p20 : PC := .seq (.seq (.reg f88r3) (f88p3)) (f88p19)
abbrev f88p21 : PC := .seq (.reg f88r2) (f88p20)
abbrev f88p22 : PC := .seq (.reg f88r1) (f88p21)
abbrev f88pc : PC := .seq (.reg f88r0) (f88p22)
def f88k : List Nat := [0, 1, 3, 4, 5, 6, 7, 8, 9, 10, 11, 12, 13, 14, 15, 16, 28, 29, 32, 33, 34, 51]
theorem f88c : Tryz.f88.body.bind (cC te Tryz.f88.ntmps) = some f88pc := by kernel_rfl
set_option maxRecDepth 20000
set_option maxHeartbeats 4000000


abbrev iA (n : Int) : AV := .d (.v (.int .i64 n))
def boxes (L : List Attr) : List AV := L.flatMap Attr.box
theorem boxes_len : ∀ (L : List Attr), (boxes L).length = L.length * 4
  | [] => rfl
  | a :: L => by
    have := boxes_len L
    simp only [boxes, List.flatMap_cons, List.length_append, List.length_cons, List.length_nil] at this ⊢
    omega
theorem boxes_cons (a : Attr) (L : List Attr) : boxes (a :: L) = a.box ++ boxes L := by simp [boxes]
theorem set4 (L : List Attr) (a : Attr) : ∀ (i : Nat), i < L.length → ((((boxes L).set (i * 4) (.d (.v (.bool a.ok)))).set (i * 4 + 1) (.d (.v (.int .i64 a.pref)))).set (i * 4 + 1 + 1) (.d (.v (.int .i64 a.cost)))).set (i * 4 + 1 + 1 + 1) (.d (.v (.int .u8 a.tags))) = boxes (L.set i a) := by
  induction L with
  | nil => intro i h; simp at h
  | cons b L ih =>
    intro i h
    cases i with
    | zero => simp [boxes_cons]
    | succ i =>
      have := ih i (by simpa using h)
      rw [List.set_cons_succ, boxes_cons, boxes_cons, ← this]
      have e : (i + 1) * 4 = i * 4 + 1 + 1 + 1 + 1 := by omega
      simp [e]
theorem part4 (L : List Attr) : ∀ (i : Nat), i < L.length → ((boxes L).drop (i * 4)).take 4 = (L.getD i attr0).box := by
  induction L with
  | nil => intro i h; simp at h
  | cons b L ih =>
    intro i h
    cases i with
    | zero => simp [boxes_cons]
    | succ i =>
      have := ih i (by simpa using h)
      have e : (i + 1) * 4 = i * 4 + 1 + 1 + 1 + 1 := by omega
      rw [boxes_cons, e]
      simpa using this
/-- A list, done up to somewhere. -/
def upto {α : Type} (l : List α) (z : α) (k : Nat) : List α := l.take k ++ List.replicate (l.length - k) z
theorem upto_len {α : Type} (l : List α) (z : α) {k : Nat} (h : k ≤ l.length) : (upto l z k).length = l.length := by simp [upto]; omega
theorem upto_set {α : Type} (l : List α) (z : α) {k : Nat} {x : α} (h : l[k]? = some x) : (upto l z k).set k x = upto l z (k + 1) := by
  have hk := (List.getElem?_eq_some_iff.1 h).1
  unfold upto
  apply List.ext_getElem?
  intro i
  rw [List.getElem?_set]
  by_cases hi : k = i
  · subst hi
    rw [if_pos rfl, if_pos (by simp; omega), List.getElem?_append_left (by simp; omega), List.getElem?_take, if_pos (by omega), h]
  · rw [if_neg hi]
    by_cases h1 : i < k
    · rw [List.getElem?_append_left (by simp; omega), List.getElem?_append_left (by simp; omega), List.getElem?_take, List.getElem?_take, if_pos h1, if_pos (by omega)]
    · rw [List.getElem?_append_right (by simp; omega), List.getElem?_append_right (by simp; omega)]
      simp only [List.getElem?_replicate, List.length_take]
      congr 1
      simp only [eq_iff_iff]
      omega
theorem upto_all {α : Type} (l : List α) (z : α) : upto l z l.length = l := by simp [upto]
theorem splice_end {α : Type} : ∀ (l a z : List α), l.length = z.length → splice (a ++ z) a.length l = a ++ l
  | [], a, z, h => by
    have : z = [] := List.eq_nil_of_length_eq_zero h.symm
    subst this; simp [splice]
  | x :: l, a, y :: z, h => by
    simp only [splice]
    have e : (a ++ y :: z).set a.length x = (a ++ [x]) ++ z := by simp
    have := splice_end l (a ++ [x]) z (by simpa using h)
    rw [e]
    simpa using this
  | x :: l, a, [], h => by simp at h
theorem splice_whole {α : Type} {l z : List α} (h : l.length = z.length) : splice z 0 l = l := splice_end l [] z h
theorem splice_tail {α : Type} {l z : List α} (x : α) (h : l.length = z.length) : splice (x :: z) 1 l = x :: l := splice_end l [x] z h
theorem cell_all2 (l : List Int) : (l.map iA).all AV.cell = true := by simp [AV.cell]
theorem nmL_ia : ∀ (l : List Int), nmL (l.map iA) = []
  | [] => rfl
  | x :: l => by simp only [List.map_cons, nmL, nm, nmL_ia l, List.append_nil]
theorem nmL_d : ∀ (l : List D), nmL (l.map AV.d) = []
  | [] => rfl
  | x :: l => by simp only [List.map_cons, nmL, nm, nmL_d l, List.append_nil]
theorem nmL_app : ∀ (a b : List AV), nmL (a ++ b) = nmL a ++ nmL b
  | [], _ => rfl
  | x :: a, b => by simp only [List.cons_append, nmL, nmL_app a b, List.append_assoc]
theorem nmL_rep (z : Int) : ∀ (k : Nat), nmL (List.replicate k (iA z)) = []
  | 0 => rfl
  | k + 1 => by simp only [List.replicate_succ, nmL, nm, nmL_rep z k, List.append_nil]
theorem nmL_box : ∀ (L : List Attr), nmL (boxes L) = []
  | [] => rfl
  | x :: l => by simp only [boxes_cons, List.cons_append, List.nil_append, nmL, nm, nmL_box l]
/-- A policy, in memory. -/
def polD (p : List Int) : List D := p.map fun n => .v (.int .i64 n)
def polA (p : List Int) : List AV := p.map iA
theorem nmL_pol (p : List Int) : nmL (polA p) = [] := nmL_ia p
theorem polA_d (p : List Int) : (polD p).map AV.d = polA p := by simp [polD, polA]
theorem polA_len (p : List Int) : (polA p).length = p.length := by simp [polA]
theorem polD_len (p : List Int) : (polD p).length = p.length := by simp [polD]
theorem polA_cell (p : List Int) : (polA p).all AV.cell = true := cell_all2 p
theorem rowsOf_len (e : Arc) : (rowsOf e).length = 16 := by simp [rowsOf]
theorem tableOf_len (e : Arc) (k : Nat) : (tableOf e k).length = 16 := by simp [tableOf, rowsOf_len]
theorem upto_rows (e : Arc) : upto (rowsOf e) attr0 16 = rowsOf e := by have := upto_all (rowsOf e) attr0; rwa [rowsOf_len] at this
theorem upto_rows0 (e : Arc) : upto (rowsOf e) attr0 0 = List.replicate 16 attr0 := by simp [upto, rowsOf_len]
theorem upto_table0 (e : Arc) (k : Nat) : upto (tableOf e k) false 0 = List.replicate 16 false := by simp [upto, tableOf_len]
theorem take_rows (e : Arc) : List.take 64 (boxes (rowsOf e)) = boxes (rowsOf e) := List.take_of_length_le (by rw [boxes_len, rowsOf_len]; decide)
theorem upto_table (e : Arc) (k : Nat) : upto (tableOf e k) false 16 = tableOf e k := by have := upto_all (tableOf e k) false; rwa [tableOf_len] at this
theorem rowsOf_get (e : Arc) (t : Nat) (h : t < 16) : (rowsOf e)[t]? = some (rowV e (t : Int)) := by simp [rowsOf, h]
theorem tableOf_get (e : Arc) (k t : Nat) (h : t < 16) : (tableOf e k)[t]? = some (bitA (rowV e (t : Int)) k) := by simp [tableOf, rowsOf_get e t h]
theorem u8_small {i : Nat} (h : i < 16) : IntKind.u8.wrap (i : Int) = i := by rw [IntKind.wrap_u8]; omega
theorem row_part (e : Arc) {u : Nat} (h : u < 16) : List.take 4 (List.drop (u * 4) (boxes (rowsOf e))) = (rowV e (u : Int)).box := by
  rw [part4 _ _ (by rw [rowsOf_len]; exact h)]
  have := rowsOf_get e u h
  simp [List.getD, this]
theorem rows_step (e : Arc) {i : Nat} (h : i < 16) : ((((boxes (upto (rowsOf e) attr0 i)).set (i * 4) (.d (.v (.bool (rowV e (i : Int)).ok)))).set (i * 4 + 1) (.d (.v (.int .i64 (rowV e (i : Int)).pref)))).set (i * 4 + 1 + 1) (.d (.v (.int .i64 (rowV e (i : Int)).cost)))).set (i * 4 + 1 + 1 + 1) (.d (.v (.int .u8 (rowV e (i : Int)).tags))) = boxes (upto (rowsOf e) attr0 (i + 1)) := by
  rw [set4 _ _ _ (by rw [upto_len _ _ (by rw [rowsOf_len]; omega), rowsOf_len]; exact h), upto_set _ _ (rowsOf_get e i h)]
theorem tab_row (e : Arc) (k : Nat) {u : Nat} (h : u < 16) : List.getD (List.map bD (upto (tableOf e k) false u)) u [] = bD ((upto (tableOf e k) false u).getD u false) := by
  have hl : u < (upto (tableOf e k) false u).length := by rw [upto_len _ _ (by rw [tableOf_len]; omega), tableOf_len]; exact h
  simp [List.getD, hl]
theorem tab_step (e : Arc) (k : Nat) {u : Nat} (h : u < 16) : (List.map bD (upto (tableOf e k) false u)).set u [.v (.bool (bitA (rowV e (u : Int)) k))] = List.map bD (upto (tableOf e k) false (u + 1)) := by
  rw [← upto_set _ _ (tableOf_get e k u h), show [D.v (.bool (bitA (rowV e (u : Int)) k))] = bD (bitA (rowV e (u : Int)) k) from rfl, List.map_set]
theorem out_step (out : List Int) (f : Int) (h : out.length < 24) : (List.map iA (out ++ List.replicate (24 - out.length) 0)).set out.length (iA f) = List.map iA ((out ++ [f]) ++ List.replicate (24 - (out.length + 1)) 0) := by
  rw [show 24 - out.length = (24 - (out.length + 1)) + 1 by omega, List.replicate_succ]
  simp [List.set_append]
/-- Where the diagrams of some bits are made. -/
def CofI (e : Arc) (ns : List Nd) (x : Nat × List Nd × List Int) : Prop := x.1 ≤ 24 ∧ ArOk x.2.1 ∧ x.2.2.length = x.1 ∧ polGo e (24 - x.1) x.1 x.2.1 x.2.2 = polV ns e
theorem CofI.ar {e : Arc} {ns : List Nd} {x : Nat × List Nd × List Int} (h : CofI e ns x) : ArOk x.2.1 := h.2.1
theorem CofI.len {e : Arc} {ns : List Nd} {x : Nat × List Nd × List Int} (h : CofI e ns x) : x.2.2.length = x.1 := h.2.2.1
theorem CofI.zero (e : Arc) {ns : List Nd} (h : ArOk ns) : CofI e ns (0, ns, []) := ⟨Nat.zero_le _, h, rfl, rfl⟩
theorem CofI.next {e : Arc} {ns : List Nd} {x : Nat × List Nd × List Int} (h : CofI e ns x) (hl : x.1 < 24) : CofI e ns (x.1 + 1, (bld 4 x.2.1 0 (tableOf e x.1)).1, x.2.2 ++ [(bld 4 x.2.1 0 (tableOf e x.1)).2]) := by
  obtain ⟨h1, h2, h3, h4⟩ := h
  refine ⟨hl, (bld_spec 4 x.2.1 0 (tableOf e x.1) h2 (by simp [tableOf, rowsOf]) (by decide) (by decide)).1, by simp [h3], ?_⟩
  rw [← h4, show 24 - x.1 = (24 - (x.1 + 1)) + 1 by omega]
  rfl
theorem CofI.done {e : Arc} {ns : List Nd} {x : Nat × List Nd × List Int} (h : CofI e ns x) (hl : ¬ x.1 < 24) : x.2 = polV ns e ∧ x.2.2.length = 24 := by
  obtain ⟨h1, h2, h3, h4⟩ := h
  have : x.1 = 24 := by omega
  refine ⟨?_, by omega⟩
  rw [← h4, this]
  rfl
theorem CofI.end_ {e : Arc} {ns : List Nd} {x : Nat × List Nd × List Int} (h : CofI e ns x) (hl : ¬ x.1 < 24) : List.map iA (x.2.2 ++ List.replicate (24 - x.1) 0) = polA (polV ns e).2 ∧ x.2.1 = (polV ns e).1 ∧ (polA (polV ns e).2).length = 24 := by
  obtain ⟨h1, h2⟩ := h.done hl
  have : 24 - x.1 = 0 := by omega
  rw [this, List.replicate_zero, List.append_nil, ← h1]
  exact ⟨rfl, rfl, by rw [polA_len, h2]⟩
theorem cof_fn {ns : List Nd} (h : ArOk ns) (e : Arc) (he : e.ok) : FnG Tryz.prog 88 [.ptr 100000 0, .ag e.box] (arO ns) (.tp [.ag (polA (polV ns e).2), .d (.v .nilIface)]) (arO (polV ns e).1) := by
  have hm : maxLen = 9223372036854775807 := rfl
  refine fnG_of teok Tryz.func88 (by kernel_rfl) f88c f88k [.cell 4 191, .tmp 5] rfl (by show 2 ≤ 59; omega) ?_
  first | (have _q := @g1; clear _q) | have g1 : Nat.pred 77 = 76 := rfl
  first | (have _q := @g2; clear _q) | have g2 : Nat.pred 77 = 76 := rfl
  first | (have _q := @g3; clear _q) | have g3 : Nat.pred 77 = 76 := rfl
  first | (have _q := @g4; clear _q) | have g4 : Nat.pred 77 = 76 := rfl
  first | (have _q := @g5; clear _q) | have g5 : Nat.pred 77 = 76 := rfl
  repeat' first
|with_reducible refine retG_ret (by first | rfl | (simp [closedA, closedO, keepH, retC, hasK, nmO, nm, nmL, nmL_box, nmL_pol, nmL_ia, nmL_d, nmL_app, nmL_rep, lget, lput, lputs]; done)) ?_ ?_
|(exact absurd hc (by decide))
|(with_reducible refine awp_sc (l := f88r17) [(2, .gc [100000, 100001, 100002] [] [])] ?_; unfold f88r17)
|(with_reducible first | refine awp_seq ?_ | refine awp_block ?_ | refine awp_reg ?_ | refine awp_ret ?_ | refine awp_skip ?_ | refine awp_exit ?_ | refine normQ_of ?_ | refine wkE_of ?_)
|with_reducible refine retG_ret rfl ?_ ?_
|with_reducible refine retG_nrm rfl ?_ ?_
|with_reducible refine awp_cond (by simp only [evX, lget, Option.getD_some, reduceIte, Nat.reduceEqDiff]; rfl) (fun hc => ?_) (fun hc => ?_)
|with_reducible refine gc_of (f := 138) (tbuild_fn hx.ar (tableOf e x.1) (tableOf_len e x.1)) ?_ rfl rfl rfl rfl (Or.inr ⟨rfl, flat_ar _⟩) ?_
|with_reducible refine CallU_of (f := 84) (row_fn e he _) (by first | exact Or.inr (Or.inl rfl) | exact Or.inl rfl) ?_
|with_reducible refine CallU_of (f := 137) (bit_fn (rowV e (u : Int)) (row_atB e u (by omega)) x.1 (by omega)) (by first | exact Or.inr (Or.inl rfl) | exact Or.inl rfl) ?_
|(with_reducible assumption)
|(with_reducible refine fun (hT : (_ : Bool) = _) => ?_)
|with_reducible refine And.intro ?_ ?_
|(have hlt : i < 16 := (by have := of_decide_eq_true (show decide ((i : Int) < 16) = true from hc); omega); have g1 := u8_small hlt; replace hc : True := trivial)
|(have hie : i = 16 := (by have := of_decide_eq_false (show decide ((i : Int) < 16) = false from hc); omega); subst hie; have g1 := upto_rows e; have g2 := take_rows e; replace hc : True := trivial)
|(have hxl : x.1 < 24 := (by have := of_decide_eq_true (show decide ((x.1 : Int) < 24) = true from hc); omega); replace hc : True := trivial)
|(have hxl : ¬ x.1 < 24 := (by have := of_decide_eq_false (show decide ((x.1 : Int) < 24) = false from hc); omega); have hxe := hx.end_ hxl; have g1 := hxe.1; have g2 := hxe.2.1; have g3 : List.take 24 (polA (polV ns e).2) = polA (polV ns e).2 := List.take_of_length_le (by omega); have g5 := hxe.2.2; have g4 : splice [.d (.v (.int .i64 0)), .d (.v (.int .i64 0)), .d (.v (.int .i64 0)), .d (.v (.int .i64 0)), .d (.v (.int .i64 0)), .d (.v (.int .i64 0)), .d (.v (.int .i64 0)), .d (.v (.int .i64 0)), .d (.v (.int .i64 0)), .d (.v (.int .i64 0)), .d (.v (.int .i64 0)), .d (.v (.int .i64 0)), .d (.v (.int .i64 0)), .d (.v (.int .i64 0)), .d (.v (.int .i64 0)), .d (.v (.int .i64 0)), .d (.v (.int .i64 0)), .d (.v (.int .i64 0)), .d (.v (.int .i64 0)), .d (.v (.int .i64 0)), .d (.v (.int .i64 0)), .d (.v (.int .i64 0)), .d (.v (.int .i64 0)), .d (.v (.int .i64 0))] 0 (polA (polV ns e).2) = polA (polV ns e).2 := splice_whole hxe.2.2; replace hc : True := trivial)
|(have hul : u < 16 := (by have := of_decide_eq_true (show decide ((u : Int) < 16) = true from hc); omega); have g3 := row_part e hul; have g4 := tab_row e x.1 hul; replace hc : True := trivial)
|(have hue : u = 16 := (by have := of_decide_eq_false (show decide ((u : Int) < 16) = false from hc); omega); subst hue; have g3 := upto_table e x.1; replace hc : True := trivial)
|(with_reducible refine awp_loopU (b := f88p2) (fun i : Nat => i ≤ 16) (fun i => 16 - i) (fun i => [(15, .d (.v (.int .i64 i)))]) (fun i => [(7, .box (boxes (upto (rowsOf e) attr0 i)))]) (0) (Nat.zero_le _) (Wk.refl _ _) (Wk_sub (by first | rfl | (simp [closedA, closedO, keepH, retC, hasK, nmO, nm, nmL, nmL_box, nmL_pol, nmL_ia, nmL_d, nmL_app, nmL_rep, lget, lput, lputs]; done)) (by first | rfl | (simp [closedA, closedO, keepH, retC, hasK, nmO, nm, nmL, nmL_box, nmL_pol, nmL_ia, nmL_d, nmL_app, nmL_rep, lget, lput, lputs]; done)) ?_ ?_) (fun i hi => ?_))
|(with_reducible refine loopQ_next (i + 1) ?_ ?_ (Wk_sub (by first | rfl | (simp [closedA, closedO, keepH, retC, hasK, nmO, nm, nmL, nmL_box, nmL_pol, nmL_ia, nmL_d, nmL_app, nmL_rep, lget, lput, lputs]; done)) (by first | rfl | (simp [closedA, closedO, keepH, retC, hasK, nmO, nm, nmL, nmL_box, nmL_pol, nmL_ia, nmL_d, nmL_app, nmL_rep, lget, lput, lputs]; done)) ?_ ?_))
|(with_reducible refine awp_loopU (b := f88p16) (fun x : Nat × List Nd × List Int => CofI e ns x) (fun x => 24 - x.1) (fun x => [(28, .d (.v (.int .i64 x.1)))]) (fun x => [(6, .box ((x.2.2 ++ List.replicate (24 - x.1) 0).map iA)), (100000, .box [.own 100001 (x.2.1.length - 2), .mp 100002, .d (.v (.int .i64 131072))]), (100001, .row 269 3 (x.2.1.length - 2) (x.2.1.map ndD)), (100002, .map true false (seenL x.2.1))]) ((0, ns, [])) (CofI.zero e h) (Wk.refl _ _) (Wk_sub (by first | rfl | (simp [closedA, closedO, keepH, retC, hasK, nmO, nm, nmL, nmL_box, nmL_pol, nmL_ia, nmL_d, nmL_app, nmL_rep, lget, lput, lputs]; done)) (by first | rfl | (simp [closedA, closedO, keepH, retC, hasK, nmO, nm, nmL, nmL_box, nmL_pol, nmL_ia, nmL_d, nmL_app, nmL_rep, lget, lput, lputs]; done)) ?_ ?_) (fun x hx => ?_))
|(with_reducible refine awp_loopU (b := f88p6) (fun u : Nat => u ≤ 16) (fun u => 16 - u) (fun u => [(33, .d (.v (.int .i64 u)))]) (fun u => [(31, .row 4 1 0 ((upto (tableOf e x.1) false u).map bD))]) (0) (Nat.zero_le _) (Wk.refl _ _) (Wk_sub (by first | rfl | (simp [closedA, closedO, keepH, retC, hasK, nmO, nm, nmL, nmL_box, nmL_pol, nmL_ia, nmL_d, nmL_app, nmL_rep, lget, lput, lputs]; done)) (by first | rfl | (simp [closedA, closedO, keepH, retC, hasK, nmO, nm, nmL, nmL_box, nmL_pol, nmL_ia, nmL_d, nmL_app, nmL_rep, lget, lput, lputs]; done)) ?_ ?_) (fun u hu => ?_))
|(with_reducible refine loopQ_next (u + 1) ?_ ?_ (Wk_sub (by first | rfl | (simp [closedA, closedO, keepH, retC, hasK, nmO, nm, nmL, nmL_box, nmL_pol, nmL_ia, nmL_d, nmL_app, nmL_rep, lget, lput, lputs]; done)) (by first | rfl | (simp [closedA, closedO, keepH, retC, hasK, nmO, nm, nmL, nmL_box, nmL_pol, nmL_ia, nmL_d, nmL_app, nmL_rep, lget, lput, lputs]; done)) ?_ ?_))
|(with_reducible refine loopQ_next ((x.1 + 1, (bld 4 x.2.1 0 (tableOf e x.1)).1, x.2.2 ++ [(bld 4 x.2.1 0 (tableOf e x.1)).2])) ?_ ?_ (Wk_sub (by first | rfl | (simp [closedA, closedO, keepH, retC, hasK, nmO, nm, nmL, nmL_box, nmL_pol, nmL_ia, nmL_d, nmL_app, nmL_rep, lget, lput, lputs]; done)) (by first | rfl | (simp [closedA, closedO, keepH, retC, hasK, nmO, nm, nmL, nmL_box, nmL_pol, nmL_ia, nmL_d, nmL_app, nmL_rep, lget, lput, lputs]; done)) ?_ ?_))
|simp only [f88r0, f88r1, f88r2, f88r3, f88r4, f88r5, f88r6, f88r7, f88r8, f88r9, f88r10, f88r11, f88r12, f88r13, f88r14, f88r15, f88r16, f88r18, f88r19, f88r20, f88r21, f88r22, g1, g2, g3, g4, g5, f88k, te191, List.getElem?_cons_zero, List.getElem?_cons_succ, List.length_map, Int.toNat_natCast, boxes_len, rowsOf_len, Nat.mul_one, runG_nil, runG_u, runG_ucS, stp, avL, avS, evs, evX, lget, lput, strip, putO, PO.dst, updO, okR, cells, splice, AV.cell, toD, toDs, binV, sameK, pickV, guardOf, okL_nil, sides, argsOf, rawOf, dv, dvL, owns, ownsL, flat, flatL, lkeep, seqQ, blockQ, initS, List.drop_succ_cons, List.drop_zero, List.take_succ_cons, List.take_zero, List.getD_cons_zero, List.getD_cons_succ, List.length_cons, List.length_nil, List.set_cons_zero, List.set_cons_succ, List.map_cons, List.map_nil, List.all_cons, List.all_nil, List.elem_cons, List.elem_nil, Option.getD_some, Option.getD_none, Option.bind_some, Option.isNone_none, reduceIte, reduceCtorEq, Nat.reduceEqDiff, Nat.reduceAdd, Nat.reduceLeDiff, Nat.zero_add, Nat.add_zero, Nat.reduceBEq, Bool.and_self, Bool.and_true, Bool.true_and, Bool.or_self, Bool.or_false, Bool.false_or, Bool.or_true, Bool.true_or, true_and, and_true, and_self, implies_true, forall_const, Bool.false_eq_true, id_eq, retQ, resOf, resV, Option.some.injEq, exists_eq_left', AV.d.injEq, D.v.injEq, Value.bool.injEq, imp_self, bldF, bldS, toVals, eqLs, Option.map_some, imp_false, not_true_eq_false, not_false_eq_true, List.append_nil, List.cons_append, List.nil_append, Option.toList_some, Option.toList_none, loopQ_exit, loopQ_ret, subS, subO, Bool.bne_false, Bool.bne_true, elemsOf, bslD, bslS, lputs, List.headD_cons, sealS, sealO, sealV, sealL, sealsS, sealsO, Bool.true_bne, Bool.false_bne, bne_self_eq_false, Int.reduceToNat, oSl, resR, runS_nil, runS_gc, ren, renL, renO, sg, gBack, argsN, dvN]
  all_goals try first
|omega
|(with_reducible rfl)
|exact polA_cell _
|exact count64 (n := 16) hlt (by omega)
|exact count64 (n := 16) hul (by omega)
|exact count64 (n := 24) hxl (by omega)
|with_reducible exact hx.next hxl
|(rw [rows_step e hlt]; done)
|(rw [tab_step e x.1 hul]; done)
|(have h0 := hx.len; have h1 := out_step x.2.2 (bld 4 x.2.1 0 (tableOf e x.1)).2 (by omega); rw [h0] at h1; rw [h1]; done)
|(rw [upto_len _ _ (by rw [rowsOf_len]; omega), rowsOf_len]; omega)
|(rw [upto_len _ _ (by rw [tableOf_len]; omega), tableOf_len]; omega)
|(rw [List.length_append, List.length_replicate, hx.len]; omega)
|(rw [upto_rows0]; rfl)
|(rw [upto_table0]; rfl)
|(show Value.int _ 0 = _; rfl)
|(show AO.box _ = AO.box (List.map iA (List.replicate 24 0)); rfl)
end Go.Proofs.YtgkkaimcchlnaaaGreatDoor
