/- What layer 16 does, in plain words, and why the greedy list is stable. Part of a verified reader of code, common to this project's claims. -/
import Derived.Test.YtipekfhpcjcabaaDoorMqPl3
set_option linter.unusedVariables false
set_option linter.unusedSimpArgs false
namespace Mq
open Go
set_option linter.unusedVariables false
set_option linter.unusedSimpArgs false
/-! edges: how routes are liked -/
def rowV (e : Arc) (t : Int) : Attr := takeV e ⟨true, 100, 0, bitV .and .u8 t 15⟩
def likesGo (e : Arc) : Nat → Nat → Bool
  | 0, _ => false
  | f + 1, t => if (rowV e t).ok = true ∧ (rowV e t).pref ≠ 100 then true else likesGo e f (t + 1)
def likesE (e : Arc) : Bool := likesGo e 16 0
def likesN (n : Net) : Bool := n.edges.any fun es => es.any likesE
theorem likesGo_spec {e : Arc} : ∀ (f t : Nat), likesGo e f t = false → ∀ i, t ≤ i → i < t + f → (rowV e i).ok = true → (rowV e i).pref = 100
  | 0, t, _, i, h1, h2, _ => by omega
  | f + 1, t, h, i, h1, h2, h3 => by
    simp only [likesGo] at h
    split at h
    · cases h
    · rename_i hn
      by_cases hi : i = t
      · subst hi
        by_cases hp : (rowV e i).pref = 100
        · exact hp
        · exact absurd ⟨h3, hp⟩ hn
      · exact likesGo_spec f (t + 1) h i (by omega) (by omega) h3
theorem u8_and15 (x : Int) : 0 ≤ bitV .and .u8 x 15 ∧ bitV .and .u8 x 15 ≤ 15 := by
  have h : (BitVec.ofInt 8 x &&& BitVec.ofInt 8 15).toNat ≤ 15 := by
    rw [BitVec.toNat_and]
    have : (BitVec.ofInt 8 15).toNat = 15 := by decide
    rw [this]
    exact Nat.and_le_right
  show 0 ≤ IntKind.u8.wrap ((BitVec.ofInt 8 x &&& BitVec.ofInt 8 15).toNat : Int) ∧ IntKind.u8.wrap ((BitVec.ofInt 8 x &&& BitVec.ofInt 8 15).toNat : Int) ≤ 15
  generalize (BitVec.ofInt 8 x &&& BitVec.ofInt 8 15).toNat = m at h
  rw [IntKind.wrap_u8]
  omega
theorem u8_id15 (t : Nat) (h : t < 16) : bitV .and .u8 (t : Int) 15 = t := by
  match t, h with
  | 0, _ => decide
  | 1, _ => decide
  | 2, _ => decide
  | 3, _ => decide
  | 4, _ => decide
  | 5, _ => decide
  | 6, _ => decide
  | 7, _ => decide
  | 8, _ => decide
  | 9, _ => decide
  | 10, _ => decide
  | 11, _ => decide
  | 12, _ => decide
  | 13, _ => decide
  | 14, _ => decide
  | 15, _ => decide
  | t + 16, h => omega
/-! what a map does to a route hangs on its tags -/
theorem doGo_sim {a b : Int} {x y : Attr} (ho : x.ok = y.ok) (ht : x.tags = y.tags) : ∀ (cs : List Clause), (doGo a b x cs).ok = (doGo a b y cs).ok ∧ (doGo a b x cs).tags = (doGo a b y cs).tags ∧ (x.pref = y.pref → (doGo a b x cs).pref = (doGo a b y cs).pref)
  | [] => ⟨ho, ht, id⟩
  | c :: r => by
    simp only [doGo, ht]
    split
    · split
      · exact ⟨rfl, rfl, fun _ => rfl⟩
      · refine ⟨ho, by simp [clauseV, ht], fun hp => by simp [clauseV, hp]⟩
    · exact doGo_sim ho ht r
theorem doV_sim {a b : Int} {x y : Attr} (ho : x.ok = y.ok) (ht : x.tags = y.tags) (cs : List Clause) : (doV cs a b x).ok = (doV cs a b y).ok ∧ (doV cs a b x).tags = (doV cs a b y).tags ∧ (x.pref = y.pref → (doV cs a b x).pref = (doV cs a b y).pref) := by
  simp only [doV, ho]
  split
  · exact doGo_sim ho ht cs
  · exact ⟨rfl, rfl, fun _ => rfl⟩
theorem wrap_small {x : Int} (h1 : 0 ≤ x) (h2 : x ≤ 2000000000) : IntKind.i64.wrap x = x := wrapI64 x (by omega) (by omega)
theorem mn_mx (m : Int) : 0 ≤ mx 0 (mn m 15) ∧ mx 0 (mn m 15) ≤ 15 := by unfold mx mn; constructor <;> (repeat' split) <;> omega
theorem mn_mx2 (m : Int) : 1 ≤ mx 1 (mn m 1000) ∧ mx 1 (mn m 1000) ≤ 1000 := by unfold mx mn; constructor <;> (repeat' split) <;> omega
theorem doGo_num {a b : Int} {x : Attr} (h1 : 0 ≤ x.cost) (h2 : x.cost ≤ 1000000000) (h3 : 0 ≤ x.tags ∧ x.tags ≤ 15) : ∀ (cs : List Clause), (doGo a b x cs).ok = true →
    x.cost ≤ (doGo a b x cs).cost ∧ (doGo a b x cs).cost ≤ x.cost + 15 ∧ 0 ≤ (doGo a b x cs).tags ∧ (doGo a b x cs).tags ≤ 15
  | [], _ => ⟨by simp [doGo], by simp only [doGo]; omega, h3⟩
  | c :: r, h => by
    simp only [doGo] at h ⊢
    split
    · rename_i hm
      rw [if_pos hm] at h
      split
      · rename_i hd; rw [if_pos hd] at h; cases h
      · have hb := mn_mx c.more
        have ht := u8_and15 (bitV .andNot .u8 (bitV .or .u8 x.tags c.set) c.clear)
        simp only [clauseV]
        rw [wrap_small (by omega) (by omega)]
        exact ⟨by omega, by omega, ht⟩
    · rename_i hm
      rw [if_neg hm] at h
      exact doGo_num h1 h2 h3 r h
/-- A route that a greedy list may have. -/
structure Fine (B : Int) (a : Attr) : Prop where
  ok : a.ok = true
  pref : a.pref = 100
  tags : 0 ≤ a.tags ∧ a.tags ≤ 15
  lo : 0 ≤ a.cost
  hi : a.cost ≤ B
theorem take_none (e : Arc) {a : Attr} (h : a.ok = false) : takeV e a = attr0 := by simp [takeV, doV, h, attr0]
theorem doV_ok {cs : List Clause} {a b : Int} {x : Attr} (h : (doV cs a b x).ok = true) : x.ok = true ∧ doV cs a b x = doGo a b x cs := by
  unfold doV at h ⊢
  split at h
  · rename_i hx; exact ⟨hx, by rw [if_pos hx]⟩
  · cases h
theorem take_spec {e : Arc} (he : likesE e = false) {B : Int} (hB : B ≤ 900000000) {a : Attr} (ha : Fine B a) : (takeV e a).ok = false ∧ takeV e a = attr0 ∨ Fine (B + 1030) (takeV e a) ∧ a.cost < (takeV e a).cost := by
  by_cases h1 : (doV e.exp 0 0 a).ok = true
  · have ht : takeV e a = doV e.imp 0 0 ⟨(doV e.exp 0 0 a).ok, 100, IntKind.i64.wrap ((doV e.exp 0 0 a).cost + mx 1 (mn e.cost 1000)), (doV e.exp 0 0 a).tags⟩ := if_pos h1
    obtain ⟨_, hd⟩ := doV_ok h1
    have hn := doGo_num (a := 0) (b := 0) ha.lo (by have := ha.hi; omega) ha.tags e.exp (by rw [← hd]; exact h1)
    rw [← hd] at hn
    have hm := mn_mx2 e.cost
    have hhi := ha.hi
    have hlo := ha.lo
    have hw := wrap_small (x := (doV e.exp 0 0 a).cost + mx 1 (mn e.cost 1000)) (by omega) (by omega)
    by_cases h2 : (takeV e a).ok = true
    · refine .inr ?_
      rw [ht, hw] at h2
      obtain ⟨_, hd2⟩ := doV_ok h2
      have hn2 := doGo_num (a := 0) (b := 0) (x := ⟨(doV e.exp 0 0 a).ok, 100, (doV e.exp 0 0 a).cost + mx 1 (mn e.cost 1000), (doV e.exp 0 0 a).tags⟩) (show 0 ≤ (doV e.exp 0 0 a).cost + mx 1 (mn e.cost 1000) by omega) (show (doV e.exp 0 0 a).cost + mx 1 (mn e.cost 1000) ≤ 1000000000 by omega) ⟨hn.2.2.1, hn.2.2.2⟩ e.imp (by rw [← hd2]; exact h2)
      rw [← hd2] at hn2
      have hp : (takeV e a).pref = 100 := by
        obtain ⟨t, ht0⟩ := Int.eq_ofNat_of_zero_le ha.tags.1
        have htl : t < 16 := by have := ha.tags.2; omega
        have hr := likesGo_spec 16 0 he t (Nat.zero_le _) (by omega)
        have hrow : rowV e (t : Int) = takeV e ⟨true, 100, 0, t⟩ := by rw [rowV, u8_id15 t htl]
        rw [hrow] at hr
        have s1 := doV_sim (a := 0) (b := 0) (x := a) (y := ⟨true, 100, 0, t⟩) ha.ok ht0 e.exp
        have hok' : (doV e.exp 0 0 ⟨true, 100, 0, t⟩).ok = true := by rw [← s1.1]; exact h1
        have ht' : takeV e ⟨true, 100, 0, t⟩ = doV e.imp 0 0 ⟨(doV e.exp 0 0 ⟨true, 100, 0, t⟩).ok, 100, IntKind.i64.wrap ((doV e.exp 0 0 ⟨true, 100, 0, t⟩).cost + mx 1 (mn e.cost 1000)), (doV e.exp 0 0 ⟨true, 100, 0, t⟩).tags⟩ := if_pos hok'
        have s2 := doV_sim (a := 0) (b := 0) (x := ⟨(doV e.exp 0 0 a).ok, 100, IntKind.i64.wrap ((doV e.exp 0 0 a).cost + mx 1 (mn e.cost 1000)), (doV e.exp 0 0 a).tags⟩) (y := ⟨(doV e.exp 0 0 ⟨true, 100, 0, t⟩).ok, 100, IntKind.i64.wrap ((doV e.exp 0 0 ⟨true, 100, 0, t⟩).cost + mx 1 (mn e.cost 1000)), (doV e.exp 0 0 ⟨true, 100, 0, t⟩).tags⟩) s1.1 s1.2.1 e.imp
        rw [← ht, ← ht'] at s2
        rw [s2.2.2 rfl]
        refine hr ?_
        rw [← s2.1, ht, hw]
        exact h2
      rw [ht, hw] at hp ⊢
      exact ⟨⟨h2, hp, ⟨hn2.2.2.1, hn2.2.2.2⟩, by have := hn2.1; simp only at this; omega, by have := hn2.2.1; simp only at this; omega⟩, by have := hn2.1; simp only at this; omega⟩
    · have h3 : (takeV e a).ok = false := by simpa using h2
      refine .inl ⟨h3, ?_⟩
      rw [ht] at h3 ⊢
      generalize hx : (⟨(doV e.exp 0 0 a).ok, 100, IntKind.i64.wrap ((doV e.exp 0 0 a).cost + mx 1 (mn e.cost 1000)), (doV e.exp 0 0 a).tags⟩ : Attr) = x at h3 ⊢
      have hxo : x.ok = true := by rw [← hx]; exact h1
      have key : ∀ cs : List Clause, (doGo 0 0 x cs).ok = false → doGo 0 0 x cs = attr0 := by
        intro cs
        induction cs with
        | nil => intro h; simp [doGo, hxo] at h
        | cons c r ih =>
          intro h
          simp only [doGo] at h ⊢
          split
          · rename_i hm
            rw [if_pos hm] at h
            split
            · rfl
            · rename_i hd; rw [if_neg hd] at h; simp [clauseV, hxo] at h
          · rename_i hm; rw [if_neg hm] at h; exact ih h
      unfold doV at h3 ⊢
      rw [if_pos hxo] at h3 ⊢
      exact key _ h3
  · have h2 : takeV e a = attr0 := if_neg h1
    exact .inl ⟨by rw [h2]; rfl, h2⟩
/-! the best of some -/
theorem better_weak {x y z : Attr} (h1 : better x y = false) (h2 : better y z = false) : better x z = false := by grind [better]
theorem better_trans {a b c : Attr} (h1 : better a b = true) (h2 : better b c = true) : better a c = true := by grind [better]
theorem better_irr (a : Attr) : better a a = false := by grind [better]
theorem bestGo_spec : ∀ (l : List Attr) (b : Attr), (∀ x ∈ l, better x (bestGo b l) = false) ∧ better b (bestGo b l) = false ∧ (bestGo b l = b ∨ (bestGo b l ∈ l ∧ (bestGo b l).ok = true))
  | [], b => by simp [bestGo, better_irr]
  | a :: l, b => by
    obtain ⟨h1, h2, h3⟩ := bestGo_spec l (if better a b then a else b)
    simp only [bestGo]
    cases c : better a b with
    | true =>
      rw [c] at h1 h2 h3
      simp only [if_true] at h1 h2 h3 ⊢
      refine ⟨fun x hx => ?_, ?_, ?_⟩
      · rcases List.mem_cons.1 hx with rfl | hx
        · exact h2
        · exact h1 x hx
      · cases hb : better b (bestGo a l) with
        | false => rfl
        | true => rw [better_trans c hb] at h2; cases h2
      · rcases h3 with h3 | h3
        · rw [h3]; exact .inr ⟨by simp, by grind [better]⟩
        · exact .inr ⟨by simp [h3.1], h3.2⟩
    | false =>
      rw [c] at h1 h2 h3
      simp only [Bool.false_eq_true, if_false] at h1 h2 h3 ⊢
      refine ⟨fun x hx => ?_, h2, ?_⟩
      · rcases List.mem_cons.1 hx with rfl | hx
        · exact better_weak c h2
        · exact h1 x hx
      · rcases h3 with h3 | h3
        · exact .inl h3
        · exact .inr ⟨by simp [h3.1], h3.2⟩
theorem best_ge (l : List Attr) {x : Attr} (h : x ∈ l) : better x (bestV l) = false := (bestGo_spec l attr0).1 x h
theorem best_ge0 (l : List Attr) : better attr0 (bestV l) = false := (bestGo_spec l attr0).2.1
theorem best_wf (l : List Attr) : bestV l = attr0 ∨ (bestV l ∈ l ∧ (bestV l).ok = true) := (bestGo_spec l attr0).2.2
theorem same_best {l : List Attr} {m : Attr} (hm : m ∈ l) (ho : m.ok = true) (h : ∀ x ∈ l, better x m = false) : sameA m (bestV l) = true := by
  have h1 := best_ge l hm
  rcases best_wf l with h2 | ⟨h2, h3⟩
  · rw [h2] at h1; simp [better, ho, attr0] at h1
  · have h4 := h _ h2
    generalize bestV l = b at h1 h3 h4
    grind [better, sameA]
theorem same_none {l : List Attr} {m : Attr} (hm : m.ok = false) (h : better (bestV l) attr0 = false) : sameA m (bestV l) = true := by
  have : (bestV l).ok = false := by
    cases hb : (bestV l).ok with
    | false => rfl
    | true => simp [better, hb, attr0] at h
  simp [sameA, hm, this]
/-! the greedy list -/
def initL (n : Net) (i : Nat) : List Attr := (List.range n.origin.length).map fun k => if k < i ∧ n.fixed k = true then origA else attr0
def initD (n : Net) (i : Nat) : List Bool := (List.range n.origin.length).map fun k => decide (k < i) && n.fixed k
def pickGo (n : Net) (l : List Attr) : List Bool → Nat → Attr → Int → Attr × Int
  | [], _, b, at' => (b, at')
  | d :: r, k, b, at' => if d then pickGo n l r (k + 1) b at' else if better (n.choice l k) b then pickGo n l r (k + 1) (n.choice l k) k else pickGo n l r (k + 1) b at'
def greedyGo (n : Net) : Nat → List Attr → List Bool → List Attr
  | 0, l, _ => l
  | f + 1, l, done => if (pickGo n l done 0 attr0 (-1)).2 < 0 then l else
      greedyGo n f (l.set (pickGo n l done 0 attr0 (-1)).2.toNat (pickGo n l done 0 attr0 (-1)).1) (done.set (pickGo n l done 0 attr0 (-1)).2.toNat true)
def Net.greedy (n : Net) : Option (List Attr) := if !n.may || likesN n then none else some (greedyGo n (n.origin.length + 1) (initL n n.origin.length) (initD n n.origin.length))
theorem pick_spec (n : Net) (l : List Attr) : ∀ (r : List Bool) (k : Nat) (b : Attr) (t : Int),
    ((pickGo n l r k b t) = (b, t) ∨ ∃ j, r[j]? = some false ∧ pickGo n l r k b t = (n.choice l ((k + j : Nat) : Int), ((k + j : Nat) : Int)) ∧ (n.choice l ((k + j : Nat) : Int)).ok = true) ∧
    better b (pickGo n l r k b t).1 = false ∧ ∀ j, r[j]? = some false → better (n.choice l ((k + j : Nat) : Int)) (pickGo n l r k b t).1 = false
  | [], k, b, t => by simp [pickGo, better_irr]
  | d :: r, k, b, t => by
    have shift : ∀ {b' t'} , (((pickGo n l r (k + 1) b' t') = (b', t') ∨ ∃ j, r[j]? = some false ∧ pickGo n l r (k + 1) b' t' = (n.choice l ((k + 1 + j : Nat) : Int), ((k + 1 + j : Nat) : Int)) ∧ (n.choice l ((k + 1 + j : Nat) : Int)).ok = true)) →
        ((pickGo n l r (k + 1) b' t') = (b', t') ∨ ∃ j, (d :: r)[j]? = some false ∧ pickGo n l r (k + 1) b' t' = (n.choice l ((k + j : Nat) : Int), ((k + j : Nat) : Int)) ∧ (n.choice l ((k + j : Nat) : Int)).ok = true) := by
      rintro b' t' (h | ⟨j, h1, h2⟩)
      · exact .inl h
      · exact .inr ⟨j + 1, by simpa using h1, by rw [show k + (j + 1) = k + 1 + j by omega]; exact h2⟩
    have rest : ∀ {b' t'}, (∀ j, r[j]? = some false → better (n.choice l ((k + 1 + j : Nat) : Int)) (pickGo n l r (k + 1) b' t').1 = false) → ∀ j, (d :: r)[j + 1]? = some false → better (n.choice l ((k + (j + 1) : Nat) : Int)) (pickGo n l r (k + 1) b' t').1 = false := by
      intro b' t' h j hj
      have := h j (by simpa using hj)
      rwa [show k + 1 + j = k + (j + 1) by omega] at this
    simp only [pickGo]
    cases d with
    | true =>
      simp only [if_true]
      obtain ⟨h1, h2, h3⟩ := pick_spec n l r (k + 1) b t
      refine ⟨shift h1, h2, fun j hj => ?_⟩
      cases j with
      | zero => simp at hj
      | succ j => exact rest h3 j hj
    | false =>
      simp only [Bool.false_eq_true, if_false]
      split
      · rename_i hb
        obtain ⟨h1, h2, h3⟩ := pick_spec n l r (k + 1) (n.choice l k) k
        refine ⟨?_, ?_, fun j hj => ?_⟩
        · rcases shift h1 with h | h
          · exact .inr ⟨0, rfl, by simpa using h, by simp; cases ho : (n.choice l k).ok with
              | true => rfl
              | false => simp [better, ho] at hb⟩
          · exact .inr h
        · cases hq : better b (pickGo n l r (k + 1) (n.choice l k) k).1 with
          | false => rfl
          | true => rw [better_trans hb hq] at h2; cases h2
        · cases j with
          | zero => simpa using h2
          | succ j => exact rest h3 j hj
      · rename_i hb
        obtain ⟨h1, h2, h3⟩ := pick_spec n l r (k + 1) b t
        refine ⟨shift h1, h2, fun j hj => ?_⟩
        cases j with
        | zero => simpa using better_weak (by simpa using hb) h2
        | succ j => exact rest h3 j hj
structure GInv (n : Net) (l : List Attr) (done : List Bool) (B : Int) : Prop where
  len : l.length = n.origin.length
  lenD : done.length = n.origin.length
  no : ∀ k : Nat, done[k]? = some false → l[k]? = some attr0
  yes : ∀ k : Nat, done[k]? = some true → ∃ a, l[k]? = some a ∧ Fine B a
  fix : ∀ k : Nat, k < n.origin.length → n.fixed k = true → done[k]? = some true ∧ l[k]? = some origA
  max : ∀ k : Nat, done[k]? = some true → n.fixed k = false → ∀ a, l[k]? = some a → a ∈ n.offers l k ∧ ∀ x ∈ n.offers l k, better x a = false
  mono : ∀ j k : Nat, done[j]? = some true → done[k]? = some false → ∀ a, l[j]? = some a → ∀ x ∈ n.offers l k, better x a = false
theorem fine_le {B C : Int} {a : Attr} (h : Fine B a) (hBC : B ≤ C) : Fine C a := ⟨h.ok, h.pref, h.tags, h.lo, by have := h.hi; omega⟩
theorem getD_some {α : Type} {l : List α} {k : Nat} {a d : α} (h : l[k]? = some a) : l.getD k d = a := by simp [List.getD, h]
theorem offers_mem {n : Net} (m : n.May) {l : List Attr} (hl : l.length = n.origin.length) {k : Nat} {x : Attr} : x ∈ n.offers l k ↔ ∃ es, n.edges[k]? = some es ∧ ∃ e ∈ es, ∃ (j : Nat) (a : Attr), e.src = j ∧ j ≠ k ∧ l[j]? = some a ∧ x = takeV e a := by
  unfold Net.offers
  have he := m.edges
  constructor
  · intro h
    split at h
    · cases h
    · rename_i hk
      have hlt : k < n.edges.length := by omega
      have hg : n.edges.getD (k : Int).toNat [] = n.edges[k] := by simp [List.getD, hlt]
      rw [hg] at h
      obtain ⟨e, hem, rfl⟩ := List.mem_map.1 h
      have hs := m.src k _ (List.getElem?_eq_getElem hlt) e hem
      obtain ⟨j, hj⟩ := Int.eq_ofNat_of_zero_le hs.1
      have hjl : j < l.length := by omega
      refine ⟨_, List.getElem?_eq_getElem hlt, e, hem, j, l[j], hj, by omega, List.getElem?_eq_getElem hjl, ?_⟩
      rw [offerV, if_pos (by omega), hj]
      simp [List.getD, hjl]
  · rintro ⟨es, hes, e, hem, j, a, hj, _, ha, rfl⟩
    have hlt := (List.getElem?_eq_some_iff.1 hes).1
    rw [if_neg (by omega)]
    have hg : n.edges.getD (k : Int).toNat [] = es := by simp [List.getD, hes]
    rw [hg]
    have hjl := (List.getElem?_eq_some_iff.1 ha).1
    refine List.mem_map.2 ⟨e, hem, ?_⟩
    rw [offerV, if_pos (by omega), hj]
    simp [List.getD, ha]
theorem likesN_spec {n : Net} (h : likesN n = false) {k : Nat} {es : List Arc} (hk : n.edges[k]? = some es) {e : Arc} (he : e ∈ es) : likesE e = false := by
  unfold likesN at h
  rw [List.any_eq_false] at h
  have := h es (List.mem_of_getElem? hk)
  rw [Bool.not_eq_true, List.any_eq_false] at this
  simpa using this e he
theorem cheaper {x a : Attr} {B C : Int} (hx : Fine B x) (ha : Fine C a) (h : a.cost < x.cost) : better x a = false := by
  simp [better, hx.ok, ha.ok, hx.pref, ha.pref]
  split <;> omega
theorem not_dearer {x a : Attr} {B C : Int} (hx : Fine B x) (ha : Fine C a) (h : better x a = false) : a.cost ≤ x.cost := by
  simp [better, hx.ok, ha.ok, hx.pref, ha.pref] at h
  split at h <;> omega
theorem none_better {a : Attr} (h : a.ok = true) : better attr0 a = false := by simp [better, attr0]
theorem greedy_step {n : Net} (m : n.May) (hk : likesN n = false) {l : List Attr} {done : List Bool} {B : Int} (h : GInv n l done B) (hB : B ≤ 800000000) {t : Nat} (ht : done[t]? = some false) {b : Attr}
    (hb : b = n.choice l t) (hbo : b.ok = true) (hmax : ∀ k : Nat, done[k]? = some false → better (n.choice l k) b = false) : GInv n (l.set t b) (done.set t true) (B + 1030) := by
  have htl : t < done.length := (List.getElem?_eq_some_iff.1 ht).1
  have hlen := h.len
  have hlenD := h.lenD
  have nofix : ∀ k : Nat, done[k]? = some false → n.fixed k = false := by
    intro k hd
    cases hf : n.fixed k with
    | false => rfl
    | true =>
      have := (h.fix k (by have := (List.getElem?_eq_some_iff.1 hd).1; omega) hf).1
      rw [hd] at this; cases this
  have choose : ∀ k : Nat, done[k]? = some false → n.choice l k = bestV (n.offers l k) := by
    intro k hd
    rw [Net.choice, nofix k hd]
    rfl
  have hbm : b ∈ n.offers l t := by
    rw [choose t ht] at hb
    rcases best_wf (n.offers l t) with h1 | ⟨h1, _⟩
    · rw [hb, h1] at hbo; cases hbo
    · rw [hb]; exact h1
  have taken : ∀ {k : Nat} {x : Attr}, x ∈ n.offers l k → x.ok = true → ∃ es, n.edges[k]? = some es ∧ ∃ e ∈ es, ∃ (j : Nat) (a : Attr), e.src = j ∧ done[j]? = some true ∧ l[j]? = some a ∧ x = takeV e a ∧ Fine (B + 1030) x ∧ Fine B a := by
    intro k x hx ho
    obtain ⟨es, hes, e, he, j, a, hj, _, ha, rfl⟩ := (offers_mem m hlen).1 hx
    have hjl : j < done.length := by have := (List.getElem?_eq_some_iff.1 ha).1; omega
    cases hd : done[j]? with
    | none => rw [List.getElem?_eq_none_iff] at hd; omega
    | some d =>
      cases d with
      | false =>
        rw [h.no j hd] at ha
        cases ha
        rw [take_none e rfl] at ho; cases ho
      | true =>
        obtain ⟨a', ha', hf⟩ := h.yes j hd
        rw [ha] at ha'; cases ha'
        rcases take_spec (likesN_spec hk hes he) (by omega) hf with ⟨q, _⟩ | ⟨q, _⟩
        · rw [q] at ho; cases ho
        · exact ⟨es, hes, e, he, j, a, hj, hd, ha, rfl, q, hf⟩
  obtain ⟨_, _, _, _, _, _, _, _, _, _, hbF, _⟩ := taken hbm hbo
  have hbmax : ∀ k : Nat, done[k]? = some false → ∀ x ∈ n.offers l k, better x b = false := by
    intro k hd x hx
    have h1 := hmax k hd
    rw [choose k hd] at h1
    exact better_weak (best_ge _ hx) h1
  have hset : ∀ j : Nat, (l.set t b)[j]? = if j = t then some b else l[j]? := by
    intro j
    by_cases hj : j = t
    · subst hj; simp [show j < l.length by omega]
    · simp [hj, Ne.symm hj]
  have hsetD : ∀ j : Nat, (done.set t true)[j]? = if j = t then some true else done[j]? := by
    intro j
    by_cases hj : j = t
    · subst hj; simp [htl]
    · simp [hj, Ne.symm hj]
  -- what is offered now
  have offers' : ∀ {k : Nat} {x : Attr}, x ∈ n.offers (l.set t b) k → x ∈ n.offers l k ∨ (k ≠ t ∧ (x = attr0 ∨ Fine (B + 1030 + 1030) x ∧ b.cost < x.cost)) := by
    intro k x hx
    obtain ⟨es, hes, e, he, j, a, hj, hjk, ha, rfl⟩ := (offers_mem m (by simp [hlen])).1 hx
    rw [hset] at ha
    by_cases hjt : j = t
    · subst hjt
      simp at ha
      subst ha
      refine .inr ⟨fun q => hjk q.symm, ?_⟩
      rcases take_spec (likesN_spec hk hes he) (by omega) hbF with ⟨_, q⟩ | q
      · exact .inl q
      · exact .inr q
    · rw [if_neg hjt] at ha
      exact .inl ((offers_mem m hlen).2 ⟨es, hes, e, he, j, a, hj, hjk, ha, rfl⟩)
  have keep : ∀ {k : Nat} {x : Attr}, x ∈ n.offers l k → x.ok = true → x ∈ n.offers (l.set t b) k := by
    intro k x hx ho
    obtain ⟨es, hes, e, he, j, a, hj, hd, ha, rfl, _, _⟩ := taken hx ho
    refine (offers_mem m (by simp [hlen])).2 ⟨es, hes, e, he, j, a, hj, ?_, ?_, rfl⟩
    · have := (m.src k es hes e he).2.2; omega
    · rw [hset, if_neg (by rintro rfl; rw [ht] at hd; cases hd)]; exact ha
  have done' : ∀ j : Nat, (done.set t true)[j]? = some true → ∀ a, (l.set t b)[j]? = some a → Fine (B + 1030) a ∧ (j = t ∧ a = b ∨ j ≠ t ∧ done[j]? = some true ∧ l[j]? = some a ∧ a.cost ≤ b.cost) := by
    intro j hd a ha
    rw [hsetD] at hd
    rw [hset] at ha
    by_cases hjt : j = t
    · subst hjt
      simp at ha
      subst ha
      exact ⟨hbF, .inl ⟨rfl, rfl⟩⟩
    · rw [if_neg hjt] at hd ha
      obtain ⟨a', ha', hf⟩ := h.yes j hd
      rw [ha] at ha'; cases ha'
      exact ⟨fine_le hf (by omega), .inr ⟨hjt, hd, ha, not_dearer hbF hf (h.mono j t hd ht a ha b hbm)⟩⟩
  refine ⟨by simp [hlen], by simp [hlenD], fun k hd => ?_, fun k hd => ?_, fun k hkl hf => ?_, fun k hd hf a ha => ?_, fun j k hdj hdk a ha x hx => ?_⟩
  · rw [hsetD] at hd
    by_cases hkt : k = t
    · rw [if_pos hkt] at hd; cases hd
    · rw [if_neg hkt] at hd
      rw [hset, if_neg hkt]; exact h.no k hd
  · have hkl : k < (l.set t b).length := by have := (List.getElem?_eq_some_iff.1 hd).1; simp at this ⊢; omega
    exact ⟨_, List.getElem?_eq_getElem hkl, (done' k hd _ (List.getElem?_eq_getElem hkl)).1⟩
  · obtain ⟨h1, h2⟩ := h.fix k hkl hf
    have hkt : k ≠ t := by rintro rfl; rw [ht] at h1; cases h1
    rw [hsetD, hset, if_neg hkt, if_neg hkt]
    exact ⟨h1, h2⟩
  · obtain ⟨hfa, hq⟩ := done' k hd a ha
    rcases hq with ⟨rfl, rfl⟩ | ⟨hkt, hdk, hak, hcost⟩
    · refine ⟨keep hbm hbo, fun x hx => ?_⟩
      rcases offers' hx with q | ⟨q, _⟩
      · exact hbmax k ht x q
      · exact absurd rfl q
    · obtain ⟨h1, h2⟩ := h.max k hdk hf a hak
      refine ⟨keep h1 hfa.ok, fun x hx => ?_⟩
      rcases offers' hx with q | ⟨_, rfl | ⟨q, q2⟩⟩
      · exact h2 x q
      · exact none_better hfa.ok
      · exact cheaper q hfa (by omega)
  · obtain ⟨hfa, hq⟩ := done' j hdj a ha
    rw [hsetD] at hdk
    have hkt : k ≠ t := by rintro rfl; simp at hdk
    rw [if_neg hkt] at hdk
    rcases offers' hx with q | ⟨_, rfl | ⟨q, q2⟩⟩
    · rcases hq with ⟨_, rfl⟩ | ⟨_, hd2, ha2, _⟩
      · exact hbmax k hdk x q
      · exact h.mono j k hd2 hdk a ha2 x q
    · exact none_better hfa.ok
    · rcases hq with ⟨_, rfl⟩ | ⟨_, _, _, hcost⟩
      · exact cheaper q hfa q2
      · exact cheaper q hfa (by omega)
theorem isGo_of {n : Net} {l : List Attr} : ∀ (r : List Attr) (k : Nat), (∀ (j : Nat) a, r[j]? = some a → sameA a (n.choice l ((k + j : Nat) : Int)) = true) → isGo n l r k = true
  | [], _, _ => rfl
  | a :: r, k, h => by
    simp only [isGo]
    rw [if_pos (by simpa using h 0 a rfl)]
    have := isGo_of r (k + 1) (fun j b hb => by
      have := h (j + 1) b (by simpa using hb)
      rwa [show k + (j + 1) = k + 1 + j by omega] at this)
    simpa using this
theorem greedy_end {n : Net} (m : n.May) {l : List Attr} {done : List Bool} {B : Int} (h : GInv n l done B) (hno : ∀ k : Nat, done[k]? = some false → better (n.choice l k) attr0 = false) : n.isV l = true := by
  unfold Net.isV
  rw [if_neg (by simpa using h.len)]
  have := isGo_of (n := n) (l := l) l 0 (fun j a ha => by
    rw [Nat.zero_add]
    have hj := (List.getElem?_eq_some_iff.1 ha).1
    have h1 := h.len
    have h2 := h.lenD
    by_cases hf : n.fixed j = true
    · have := (h.fix j (by omega) hf).2
      rw [ha] at this; cases this
      rw [Net.choice, if_pos hf]
      exact sameA_refl _
    · have hf : n.fixed j = false := by simpa using hf
      cases hd : done[j]? with
      | none => rw [List.getElem?_eq_none_iff] at hd; omega
      | some d =>
        cases d with
        | true =>
          obtain ⟨q1, q2⟩ := h.max j hd hf a ha
          obtain ⟨a', ha', hfa⟩ := h.yes j hd
          rw [ha] at ha'; cases ha'
          rw [Net.choice, hf]
          exact same_best q1 hfa.ok q2
        | false =>
          have h3 := hno j hd
          have h4 := h.no j hd
          rw [ha] at h4; cases h4
          rw [Net.choice, hf] at h3 ⊢
          exact same_none rfl h3)
  simpa using this
def undone (d : List Bool) : Nat := (d.filter (!·)).length
theorem undone_set : ∀ (d : List Bool) (t : Nat), d[t]? = some false → undone (d.set t true) + 1 = undone d
  | [], t, h => by simp at h
  | b :: d, 0, h => by simp at h; subst h; simp [undone]
  | b :: d, t + 1, h => by
    have := undone_set d t (by simpa using h)
    cases b <;> simp [undone] at this ⊢ <;> omega
theorem greedyGo_good {n : Net} (m : n.May) (hk : likesN n = false) : ∀ (f : Nat) (l : List Attr) (done : List Bool) (B : Int), GInv n l done B → undone done < f → B + 1030 * f ≤ 800000000 → 
    n.isV (greedyGo n f l done) = true
  | 0, _, _, _, _, h, _ => by omega
  | f + 1, l, done, B, h, hu, hB => by
    simp only [greedyGo]
    obtain ⟨h1, h2, h3⟩ := pick_spec n l done 0 attr0 (-1)
    simp only [Nat.zero_add] at h1 h3
    rcases h1 with h1 | ⟨t, ht, h1, hok⟩
    · rw [h1] at h2 h3 ⊢
      simp only [show ((-1 : Int) < 0) by decide, if_true]
      exact greedy_end m h h3
    · rw [h1] at h2 h3 ⊢
      have hn : ¬ ((t : Int) < 0) := by omega
      simp only [hn, if_false, Int.toNat_natCast]
      have := undone_set done t ht
      exact greedyGo_good m hk f _ _ (B + 1030) (greedy_step m hk h (by omega) ht rfl hok h3) (by omega) (by omega)
theorem filt_len (d : List Bool) : undone d ≤ d.length := List.length_filter_le _ _
theorem init_inv {n : Net} (m : n.May) (hk : likesN n = false) : GInv n (initL n n.origin.length) (initD n n.origin.length) 0 := by
  have hl : ∀ k : Nat, (initL n n.origin.length)[k]? = if k < n.origin.length then some (if n.fixed k = true then origA else attr0) else none := by
    intro k
    simp only [initL, List.getElem?_map]
    by_cases h : k < n.origin.length
    · simp [h]
    · simp [h, show ¬ k < n.origin.length from h]
  have hd : ∀ k : Nat, (initD n n.origin.length)[k]? = if k < n.origin.length then some (n.fixed k) else none := by
    intro k
    simp only [initD, List.getElem?_map]
    by_cases h : k < n.origin.length
    · simp [h]
    · simp [h]
  have hfo : Fine 0 origA := ⟨rfl, rfl, by decide, by decide, by decide⟩
  have hdd : ∀ (k : Nat) (c : Bool), (initD n n.origin.length)[k]? = some c → k < n.origin.length ∧ n.fixed k = c := by
    intro k c h
    rw [hd] at h
    split at h
    · rename_i hk; cases h; exact ⟨hk, rfl⟩
    · cases h
  have hlen : (initL n n.origin.length).length = n.origin.length := by simp [initL]
  refine ⟨hlen, by simp [initD], fun k h => ?_, fun k h => ?_, fun k h hf => ?_, fun k h hf a ha => ?_, fun j k h1 h2 a ha x hx => ?_⟩
  · obtain ⟨h1, h2⟩ := hdd k _ h
    rw [hl, if_pos h1, h2]; rfl
  · obtain ⟨h1, h2⟩ := hdd k _ h
    exact ⟨origA, by rw [hl, if_pos h1, if_pos h2], hfo⟩
  · exact ⟨by rw [hd, if_pos h, hf], by rw [hl, if_pos h, if_pos hf]⟩
  · obtain ⟨_, h2⟩ := hdd k _ h
    rw [hf] at h2; cases h2
  · obtain ⟨q1, q2⟩ := hdd j _ h1
    rw [hl, if_pos q1, if_pos q2] at ha
    cases ha
    obtain ⟨es, hes, e, he, i, b, hi, _, hb, rfl⟩ := (offers_mem m hlen).1 hx
    rw [hl] at hb
    split at hb
    · simp at hb
      split at hb
      · subst hb
        rcases take_spec (likesN_spec hk hes he) (by decide) hfo with ⟨_, q⟩ | ⟨q, q'⟩
        · rw [q]; rfl
        · exact cheaper q hfo q'
      · subst hb
        rw [take_none e rfl]; rfl
    · cases hb
theorem greedy_stable {n : Net} {l : List Attr} (h : n.greedy = some l) : n.isV l = true := by
  unfold Net.greedy at h
  split at h
  · cases h
  · rename_i hc
    simp at hc
    cases h
    have m := Net.may_spec hc.1
    have h1 := filt_len (initD n n.origin.length)
    have h2 : (initD n n.origin.length).length = n.origin.length := by simp [initD]
    have h3 := m.most
    exact greedyGo_good m hc.2 _ _ _ 0 (init_inv m hc.2) (by omega) (by omega)
/-! sweeps -/
def sweepGo (n : Net) : Nat → Nat → List Attr → List Attr
  | 0, _, out => out
  | f + 1, k, out => sweepGo n f (k + 1) (out.set k (n.choice out k))
def Net.sweep (n : Net) (l : List Attr) : List Attr := sweepGo n l.length 0 l
def Net.settle (n : Net) : Nat → List Attr → List Attr
  | 0, l => l
  | m + 1, l => if n.isV l then l else n.settle m (n.sweep l)
theorem sweepGo_len (n : Net) : ∀ (f k : Nat) (l : List Attr), (sweepGo n f k l).length = l.length
  | 0, _, _ => rfl
  | f + 1, k, l => by simp [sweepGo, sweepGo_len n f]
theorem sweep_len (n : Net) (l : List Attr) : (n.sweep l).length = l.length := sweepGo_len n _ _ _
theorem settle_len (n : Net) : ∀ (m : Nat) (l : List Attr), (n.settle m l).length = l.length
  | 0, _ => rfl
  | m + 1, l => by
    simp only [Net.settle]
    split
    · rfl
    · rw [settle_len n m, sweep_len]

/-! for the walks -/
theorem rep_len {α : Type} (N : Nat) (x : α) : (List.replicate (Int.toNat (N : Int)) x).length = N := by simp
theorem initL_len (n : Net) (i : Nat) : (initL n i).length = n.origin.length := by simp [initL]
theorem initD_len (n : Net) (i : Nat) : (initD n i).length = n.origin.length := by simp [initD]
theorem initL_zero (n : Net) : List.replicate (Int.toNat (n.origin.length : Int)) attr0.row = (initL n 0).map Attr.row := by
  apply List.ext_getElem? 
  intro k
  simp only [initL, List.getElem?_map, Int.toNat_natCast, List.getElem?_replicate]
  by_cases h : k < n.origin.length <;> simp [h]
theorem initD_zero (n : Net) : List.replicate (Int.toNat (n.origin.length : Int)) (bD false) = (initD n 0).map bD := by
  apply List.ext_getElem?
  intro k
  simp only [initD, List.getElem?_map, Int.toNat_natCast, List.getElem?_replicate]
  by_cases h : k < n.origin.length <;> simp [h]
theorem initL_yes {n : Net} {i : Nat} (h : i < n.origin.length) (hf : n.fixed i = true) : (initL n i).set i origA = initL n (i + 1) := by
  apply List.ext_getElem?
  intro k
  by_cases hk : k = i
  · subst hk
    simp [initL, h, hf]
  · rw [List.getElem?_set_ne (Ne.symm hk)]
    simp only [initL, List.getElem?_map]
    have : (k < i + 1) = (k < i) := by apply propext; omega
    by_cases h2 : k < n.origin.length <;> simp [h2, this]
theorem initL_no {n : Net} {i : Nat} (hf : n.fixed i = false) : initL n i = initL n (i + 1) := by
  unfold initL
  refine List.map_congr_left fun k _ => ?_
  by_cases hk : k = i
  · subst hk; simp [hf]
  · have : (k < i + 1) = (k < i) := by apply propext; omega
    simp only [this]
theorem initD_yes {n : Net} {i : Nat} (h : i < n.origin.length) (hf : n.fixed i = true) : (initD n i).set i true = initD n (i + 1) := by
  apply List.ext_getElem?
  intro k
  by_cases hk : k = i
  · subst hk
    simp [initD, h, hf]
  · rw [List.getElem?_set_ne (Ne.symm hk)]
    simp only [initD, List.getElem?_map]
    have : (k < i + 1) = (k < i) := by apply propext; omega
    by_cases h2 : k < n.origin.length <;> simp [h2, this]
theorem initD_no {n : Net} {i : Nat} (hf : n.fixed i = false) : initD n i = initD n (i + 1) := by
  unfold initD
  refine List.map_congr_left fun k _ => ?_
  by_cases hk : k = i
  · subst hk; simp [hf]
  · have : (k < i + 1) = (k < i) := by apply propext; omega
    simp only [this]
theorem row_set {α : Type} (f : α → List D) (L : List α) (k : Nat) (a : α) : (L.map f).set k (f a) = (L.set k a).map f := by simp
theorem pick_at {n : Net} {l : List Attr} {done : List Bool} {b : Attr} {t : Int} (h : pickGo n l done 0 attr0 (-1) = (b, t)) (h0 : ¬ t < 0) : 0 ≤ t ∧ t < done.length ∧ done[t.toNat]? = some false := by
  obtain ⟨h1, _, _⟩ := pick_spec n l done 0 attr0 (-1)
  rcases h1 with h1 | ⟨j, h1, h2, _⟩
  · rw [h] at h1; cases h1; omega
  · rw [h] at h2
    simp only [Nat.zero_add, Prod.mk.injEq] at h2
    obtain ⟨_, rfl⟩ := h2
    have := (List.getElem?_eq_some_iff.1 h1).1
    exact ⟨by omega, by omega, by simpa using h1⟩
theorem pick_done {n : Net} {l : List Attr} {done : List Bool} {k : Nat} {b : Attr} {t : Int} (h : pickGo n l (done.drop k) k b t = pickGo n l done 0 attr0 (-1)) (hk : done.length ≤ k) : pickGo n l done 0 attr0 (-1) = (b, t) := by
  rw [List.drop_eq_nil_of_le hk] at h
  exact h.symm
theorem greedy_next {n : Net} {f : Nat} {l : List Attr} {done : List Bool} {b : Attr} {t : Int} (hf : 0 < f) (h : pickGo n l done 0 attr0 (-1) = (b, t)) (h0 : ¬ t < 0) :
    greedyGo n f l done = greedyGo n (f - 1) (l.set t.toNat b) (done.set t.toNat true) := by
  obtain ⟨g, rfl⟩ : ∃ g, f = g + 1 := ⟨f - 1, by omega⟩
  simp only [greedyGo, h, if_neg h0, Nat.add_sub_cancel]
theorem greedy_stop {n : Net} {f : Nat} {l : List Attr} {done : List Bool} {b : Attr} {t : Int} (h : pickGo n l done 0 attr0 (-1) = (b, t)) (h0 : t < 0) : greedyGo n f l done = l := by
  cases f with
  | zero => rfl
  | succ f => simp only [greedyGo, h, if_pos h0]
theorem count8 {i : Nat} (h : i < 16) : Value.int .u8 (IntKind.u8.wrap ((i : Int) + 1)) = Value.int .u8 ((i + 1 : Nat) : Int) := by
  rw [IntKind.wrap_u8, Int.emod_eq_of_lt (by omega) (by omega)]
  rfl
end Mq
