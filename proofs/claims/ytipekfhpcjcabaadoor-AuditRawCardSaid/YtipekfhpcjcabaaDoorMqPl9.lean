/- Why stable lists are alike where no edge sets how routes are liked, and why sweeps come to them. Part of a verified reader of code, common to this project's claims. -/
import Derived.Test.YtipekfhpcjcabaaDoorMqPl8
set_option linter.unusedVariables false
set_option linter.unusedSimpArgs false
namespace Mq
open Go
set_option linter.unusedVariables false
set_option linter.unusedSimpArgs false
/-- A route of which the numbers are known: some cost, tags. -/
structure Rt (B : Int) (a : Attr) : Prop where
  tags : 0 ≤ a.tags ∧ a.tags ≤ 15
  lo : 0 ≤ a.cost
  hi : a.cost ≤ B
theorem doGo_num2 {a b : Int} {x : Attr} (h1 : 0 ≤ x.cost) (h2 : x.cost ≤ 1000000000000000000) (h3 : 0 ≤ x.tags ∧ x.tags ≤ 15) : ∀ (cs : List Clause), (doGo a b x cs).ok = true →
    x.cost ≤ (doGo a b x cs).cost ∧ (doGo a b x cs).cost ≤ x.cost + 15 ∧ 0 ≤ (doGo a b x cs).tags ∧ (doGo a b x cs).tags ≤ 15
  | [], _ => ⟨by simp [doGo], by simp only [doGo]; omega, h3⟩
  | c :: r, h => by
    simp only [doGo] at h ⊢
    split
    · rename_i hm
      rw [if_pos hm] at h
      split
      · rename_i hd; rw [if_pos hd] at h; cases h
      · have hb := mn_mx c.more
        have ht := u8_and15 (bitV .andNot .u8 (bitV .or .u8 x.tags c.set) c.clear)
        simp only [clauseV]
        rw [wrapI64 _ (by omega) (by omega)]
        exact ⟨by omega, by omega, ht⟩
    · rename_i hm
      rw [if_neg hm] at h
      exact doGo_num2 h1 h2 h3 r h
theorem doGo_none {a b : Int} {x : Attr} (hx : x.ok = true) : ∀ cs : List Clause, (doGo a b x cs).ok = false → doGo a b x cs = attr0
  | [], h => by simp [doGo, hx] at h
  | c :: r, h => by
    simp only [doGo] at h ⊢
    split
    · rename_i hm
      rw [if_pos hm] at h
      split
      · rfl
      · rename_i hd; rw [if_neg hd] at h; simp [clauseV, hx] at h
    · rename_i hm; rw [if_neg hm] at h; exact doGo_none hx r h
/-- What a node learns over an edge: nothing, or a dearer route. -/
theorem take_num {e : Arc} {B : Int} (hB : B ≤ 100000000000000000) {a : Attr} (ha : Rt B a) : ((takeV e a).ok = false ∧ takeV e a = attr0) ∨ ((takeV e a).ok = true ∧ a.ok = true ∧ Rt (B + 1030) (takeV e a) ∧ a.cost < (takeV e a).cost) := by
  by_cases h1 : (doV e.exp 0 0 a).ok = true
  · have ht : takeV e a = doV e.imp 0 0 ⟨(doV e.exp 0 0 a).ok, 100, IntKind.i64.wrap ((doV e.exp 0 0 a).cost + mx 1 (mn e.cost 1000)), (doV e.exp 0 0 a).tags⟩ := if_pos h1
    obtain ⟨hao, hd⟩ := doV_ok h1
    have hn := doGo_num2 (a := 0) (b := 0) ha.lo (by have := ha.hi; omega) ha.tags e.exp (by rw [← hd]; exact h1)
    rw [← hd] at hn
    have hm := mn_mx2 e.cost
    have hhi := ha.hi
    have hlo := ha.lo
    have hw : IntKind.i64.wrap ((doV e.exp 0 0 a).cost + mx 1 (mn e.cost 1000)) = (doV e.exp 0 0 a).cost + mx 1 (mn e.cost 1000) := wrapI64 _ (by omega) (by omega)
    by_cases h2 : (takeV e a).ok = true
    · refine .inr ⟨h2, hao, ?_⟩
      rw [ht, hw] at h2
      obtain ⟨_, hd2⟩ := doV_ok h2
      have hn2 := doGo_num2 (a := 0) (b := 0) (x := ⟨(doV e.exp 0 0 a).ok, 100, (doV e.exp 0 0 a).cost + mx 1 (mn e.cost 1000), (doV e.exp 0 0 a).tags⟩) (show 0 ≤ (doV e.exp 0 0 a).cost + mx 1 (mn e.cost 1000) by omega) (show (doV e.exp 0 0 a).cost + mx 1 (mn e.cost 1000) ≤ 1000000000000000000 by omega) ⟨hn.2.2.1, hn.2.2.2⟩ e.imp (by rw [← hd2]; exact h2)
      rw [← hd2] at hn2
      rw [ht, hw]
      exact ⟨⟨⟨hn2.2.2.1, hn2.2.2.2⟩, by have := hn2.1; simp only at this; omega, by have := hn2.2.1; simp only at this; omega⟩, by have := hn2.1; simp only at this; omega⟩
    · have h3 : (takeV e a).ok = false := by simpa using h2
      refine .inl ⟨h3, ?_⟩
      rw [ht] at h3 ⊢
      generalize hx : (⟨(doV e.exp 0 0 a).ok, 100, IntKind.i64.wrap ((doV e.exp 0 0 a).cost + mx 1 (mn e.cost 1000)), (doV e.exp 0 0 a).tags⟩ : Attr) = x at h3 ⊢
      have hxo : x.ok = true := by rw [← hx]; exact h1
      unfold doV at h3 ⊢
      rw [if_pos hxo] at h3 ⊢
      exact doGo_none hxo _ h3
  · have h2 : takeV e a = attr0 := if_neg h1
    exact .inl ⟨by rw [h2]; rfl, h2⟩
/-- Without edges that set how routes are liked all that is learned is liked alike. -/
theorem take_pref {e : Arc} (he : likesE e = false) {a : Attr} (ht : 0 ≤ a.tags ∧ a.tags ≤ 15) (h2 : (takeV e a).ok = true) : (takeV e a).pref = 100 := by
  by_cases h1 : (doV e.exp 0 0 a).ok = true
  · obtain ⟨hao, _⟩ := doV_ok h1
    have htk : takeV e a = doV e.imp 0 0 ⟨(doV e.exp 0 0 a).ok, 100, IntKind.i64.wrap ((doV e.exp 0 0 a).cost + mx 1 (mn e.cost 1000)), (doV e.exp 0 0 a).tags⟩ := if_pos h1
    obtain ⟨t, ht0⟩ := Int.eq_ofNat_of_zero_le ht.1
    have htl : t < 16 := by have := ht.2; omega
    have hr := likesGo_spec 16 0 he t (Nat.zero_le _) (by omega)
    have hrow : rowV e (t : Int) = takeV e ⟨true, 100, 0, t⟩ := by rw [rowV, u8_id15 t htl]
    rw [hrow] at hr
    have s1 := doV_sim (a := 0) (b := 0) (x := a) (y := ⟨true, 100, 0, t⟩) hao ht0 e.exp
    have hok' : (doV e.exp 0 0 ⟨true, 100, 0, t⟩).ok = true := by rw [← s1.1]; exact h1
    have ht' : takeV e ⟨true, 100, 0, t⟩ = doV e.imp 0 0 ⟨(doV e.exp 0 0 ⟨true, 100, 0, t⟩).ok, 100, IntKind.i64.wrap ((doV e.exp 0 0 ⟨true, 100, 0, t⟩).cost + mx 1 (mn e.cost 1000)), (doV e.exp 0 0 ⟨true, 100, 0, t⟩).tags⟩ := if_pos hok'
    have s2 := doV_sim (a := 0) (b := 0) (x := ⟨(doV e.exp 0 0 a).ok, 100, IntKind.i64.wrap ((doV e.exp 0 0 a).cost + mx 1 (mn e.cost 1000)), (doV e.exp 0 0 a).tags⟩) (y := ⟨(doV e.exp 0 0 ⟨true, 100, 0, t⟩).ok, 100, IntKind.i64.wrap ((doV e.exp 0 0 ⟨true, 100, 0, t⟩).cost + mx 1 (mn e.cost 1000)), (doV e.exp 0 0 ⟨true, 100, 0, t⟩).tags⟩) s1.1 s1.2.1 e.imp
    rw [← htk, ← ht'] at s2
    rw [s2.2.2 rfl]
    exact hr (by rw [← s2.1]; exact h2)
  · have h3 : takeV e a = attr0 := if_neg h1
    rw [h3] at h2; cases h2
/-! stable lists -/
theorem isGo_at {n : Net} {l : List Attr} : ∀ (r : List Attr) (k : Nat), isGo n l r k = true → ∀ (j : Nat) a, r[j]? = some a → sameA a (n.choice l ((k + j : Nat) : Int)) = true
  | [], _, _, j, a, h => by simp at h
  | b :: r, k, h, j, a, hj => by
    simp only [isGo] at h
    split at h
    · rename_i hs
      cases j with
      | zero => simp at hj; subst hj; simpa using hs
      | succ j =>
        have := isGo_at r (k + 1) (by simpa using h) j a (by simpa using hj)
        rwa [show k + 1 + j = k + (j + 1) by omega] at this
    · cases h
theorem isV_iff {n : Net} {l : List Attr} : n.isV l = true ↔ l.length = n.origin.length ∧ ∀ (k : Nat) a, l[k]? = some a → sameA a (n.choice l k) = true := by
  unfold Net.isV
  constructor
  · intro h
    split at h
    · cases h
    · rename_i hl
      refine ⟨by omega, fun k a hk => ?_⟩
      have := isGo_at l 0 h k a hk
      simpa using this
  · rintro ⟨h1, h2⟩
    rw [if_neg (by omega)]
    have := isGo_of (n := n) (l := l) l 0 (fun j a hj => by rw [Nat.zero_add]; exact h2 j a hj)
    simpa using this
theorem sameA_ok {a b : Attr} (h : sameA a b = true) (ho : a.ok = true ∨ b.ok = true) : a = b := by
  unfold sameA at h
  apply Attr.ext' <;> grind
theorem sameA_no {a b : Attr} (h : sameA a b = true) : a.ok = b.ok := by unfold sameA at h; grind
theorem sameA_of_no {a b : Attr} (ha : a.ok = false) (hb : b.ok = false) : sameA a b = true := by simp [sameA, ha, hb]
theorem sameA_symm {a b : Attr} (h : sameA a b = true) : sameA b a = true := by unfold sameA at h ⊢; grind
theorem take_same {e : Arc} {a b : Attr} (h : sameA a b = true) : takeV e a = takeV e b := by
  by_cases ho : a.ok = true
  · rw [sameA_ok h (.inl ho)]
  · have ho : a.ok = false := by simpa using ho
    have hb : b.ok = false := by rw [← sameA_no h]; exact ho
    rw [take_none e ho, take_none e hb]
/-- What a node of its own choice has in a stable list is nothing, or was learned. -/
theorem stable_at {n : Net} (m : n.May) {l : List Attr} (h : n.isV l = true) {k : Nat} {a : Attr} (hk : l[k]? = some a) (hf : n.fixed k = false) (ho : a.ok = true) :
    a = bestV (n.offers l k) ∧ ∃ es, n.edges[k]? = some es ∧ ∃ e ∈ es, ∃ (j : Nat) (b : Attr), e.src = j ∧ j ≠ k ∧ l[j]? = some b ∧ a = takeV e b := by
  obtain ⟨hl, hs⟩ := isV_iff.1 h
  have h1 := hs k a hk
  rw [Net.choice, hf] at h1
  simp only [Bool.false_eq_true, if_false] at h1
  have h2 := sameA_ok h1 (.inl ho)
  refine ⟨h2, ?_⟩
  rcases best_wf (n.offers l k) with q | ⟨q, _⟩
  · rw [q] at h2; rw [h2] at ho; cases ho
  · rw [← h2] at q
    exact (offers_mem m hl).1 q
theorem eq_of_not_better {a b : Attr} (ha : a.ok = true) (hb : b.ok = true) (h1 : better a b = false) (h2 : better b a = false) : a = b := by
  unfold better at h1 h2
  apply Attr.ext' <;> grind
/-- The cheaper routes of two stable lists are the same. -/
theorem stable_uniq {n : Net} (m : n.May) (hk : likesN n = false) {l l' : List Attr} {B : Int} (hB : B ≤ 100000000000000000) (h : n.isV l = true) (h' : n.isV l' = true)
    (hl : ∀ a ∈ l, a.ok = true → Rt B a) (hl' : ∀ a ∈ l', a.ok = true → Rt B a) : ∀ (c : Nat) (k : Nat) (a b : Attr), l[k]? = some a → l'[k]? = some b → (a.ok = true ∧ a.cost ≤ c ∨ b.ok = true ∧ b.cost ≤ c) → a = b := by
  intro c
  induction c using Nat.strongRecOn with
  | _ c ih =>
    have half : ∀ {l l' : List Attr}, n.isV l = true → n.isV l' = true → (∀ a ∈ l, a.ok = true → Rt B a) → (∀ a ∈ l', a.ok = true → Rt B a) →
        (∀ c' < c, ∀ (k : Nat) (a b : Attr), l[k]? = some a → l'[k]? = some b → (a.ok = true ∧ a.cost ≤ (c' : Int) ∨ b.ok = true ∧ b.cost ≤ c') → a = b) →
        ∀ (k : Nat) (a b : Attr), l[k]? = some a → l'[k]? = some b → a.ok = true → a.cost ≤ c → better a b = false ∧ b.ok = true ∧ (n.fixed k = false → a.pref = 100) := by
      intro l l' h h' hl hl' ih k a b ha hb ho hc
      by_cases hf : n.fixed k = true
      · have h1 := (isV_iff.1 h).2 k a ha
        have h2 := (isV_iff.1 h').2 k b hb
        rw [Net.choice, if_pos hf] at h1 h2
        have e1 := sameA_ok h1 (.inr rfl)
        have e2 := sameA_ok h2 (.inr rfl)
        rw [e1, e2]
        exact ⟨better_irr _, rfl, fun q => by rw [hf] at q; cases q⟩
      · have hf : n.fixed k = false := by simpa using hf
        obtain ⟨_, es, hes, e, he, j, x, hj, hjk, hx, hax⟩ := stable_at m h ha hf ho
        have hxo : x.ok = true := by
          cases hq : x.ok with
          | true => rfl
          | false => rw [hax, take_none e hq] at ho; cases ho
        have hxr := hl x (List.mem_of_getElem? hx) hxo
        have hll := (isV_iff.1 h).1
        have hll' := (isV_iff.1 h').1
        rcases take_num (e := e) hB hxr with ⟨q, _⟩ | ⟨_, _, q3, q4⟩
        · rw [← hax, ho] at q; cases q
        · rw [← hax] at q4
          have hjl : j < l'.length := by have := (List.getElem?_eq_some_iff.1 hx).1; omega
          have hlo := hxr.lo
          obtain ⟨cx, hcx⟩ := Int.eq_ofNat_of_zero_le hlo
          have hy := ih cx (by omega) j x l'[j] hx (List.getElem?_eq_getElem hjl) (.inl ⟨hxo, by omega⟩)
          have hoff : a ∈ n.offers l' k := (offers_mem m hll').2 ⟨es, hes, e, he, j, l'[j], hj, hjk, List.getElem?_eq_getElem hjl, by rw [← hy]; exact hax⟩
          have hch := (isV_iff.1 h').2 k b hb
          rw [Net.choice, hf] at hch
          simp only [Bool.false_eq_true, if_false] at hch
          have hge := best_ge _ hoff
          have hbo : b.ok = true := by
            rw [sameA_no hch]
            cases hq : (bestV (n.offers l' k)).ok with
            | true => rfl
            | false => simp [better, ho, hq] at hge
          rw [← sameA_ok hch (.inl hbo)] at hge
          exact ⟨hge, hbo, fun _ => by rw [hax] at ho ⊢; exact take_pref (likesN_spec hk hes he) hxr.tags ho⟩
    intro k a b ha hb hor
    have main : ∀ {l l' : List Attr}, n.isV l = true → n.isV l' = true → (∀ a ∈ l, a.ok = true → Rt B a) → (∀ a ∈ l', a.ok = true → Rt B a) →
        (∀ c' < c, ∀ (k : Nat) (a b : Attr), l[k]? = some a → l'[k]? = some b → (a.ok = true ∧ a.cost ≤ (c' : Int) ∨ b.ok = true ∧ b.cost ≤ c') → a = b) →
        ∀ (k : Nat) (a b : Attr), l[k]? = some a → l'[k]? = some b → a.ok = true → a.cost ≤ c → a = b := by
      intro l l' h h' hl hl' ih k a b ha hb ho hc
      obtain ⟨g1, g2, g3⟩ := half h h' hl hl' ih k a b ha hb ho hc
      by_cases hf : n.fixed k = true
      · have h1 := (isV_iff.1 h).2 k a ha
        have h2 := (isV_iff.1 h').2 k b hb
        rw [Net.choice, if_pos hf] at h1 h2
        rw [sameA_ok h1 (.inr rfl), sameA_ok h2 (.inr rfl)]
      · have hf : n.fixed k = false := by simpa using hf
        have hap := g3 hf
        have hbp : b.pref = 100 := by
          obtain ⟨_, es, hes, e, he, j, x, hj, hjk, hx, hbx⟩ := stable_at m h' hb hf g2
          have hxo : x.ok = true := by
            cases hq : x.ok with
            | true => rfl
            | false => rw [hbx, take_none e hq] at g2; cases g2
          rw [hbx] at g2 ⊢
          exact take_pref (likesN_spec hk hes he) (hl' x (List.mem_of_getElem? hx) hxo).tags g2
        have hbc : b.cost ≤ a.cost := by
          simp [better, ho, g2, hap, hbp] at g1
          split at g1 <;> omega
        obtain ⟨g4, _, _⟩ := half h' h hl' hl (fun c' hc' k a b ha hb hor => (ih c' hc' k b a hb ha hor.symm).symm) k b a hb ha g2 (by omega)
        exact eq_of_not_better ho g2 g1 g4
    rcases hor with ⟨ho, hc⟩ | ⟨ho, hc⟩
    · exact main h h' hl hl' (fun c' hc' k a b ha hb hor => ih c' hc' k a b ha hb hor) k a b ha hb ho hc
    · exact (main h' h hl' hl (fun c' hc' k a b ha hb hor => (ih c' hc' k b a hb ha hor.symm).symm) k b a hb ha ho hc).symm
theorem sameGo_of : ∀ {a b : List Attr}, (∀ (k : Nat) x y, a[k]? = some x → b[k]? = some y → sameA x y = true) → sameGo a b = true
  | [], _, _ => by simp [sameGo]
  | _ :: _, [], _ => by simp [sameGo]
  | x :: a, y :: b, h => by
    simp only [sameGo, Bool.and_eq_true]
    exact ⟨h 0 x y rfl rfl, sameGo_of fun k u v hu hv => h (k + 1) u v (by simpa using hu) (by simpa using hv)⟩
theorem sameGo_at : ∀ {a b : List Attr}, sameGo a b = true → ∀ (k : Nat) x y, a[k]? = some x → b[k]? = some y → sameA x y = true
  | [], _, _, k, x, y, hx, _ => by simp at hx
  | _ :: _, [], _, k, x, y, _, hy => by simp at hy
  | x :: a, y :: b, h, k, u, v, hu, hv => by
    simp only [sameGo, Bool.and_eq_true] at h
    cases k with
    | zero => simp at hu hv; subst hu; subst hv; exact h.1
    | succ k => exact sameGo_at h.2 k u v (by simpa using hu) (by simpa using hv)
theorem sameL_of {a b : List Attr} (hl : a.length = b.length) (h : ∀ (k : Nat) x y, a[k]? = some x → b[k]? = some y → sameA x y = true) : sameL a b = true := by
  rw [sameL, if_neg (by omega)]; exact sameGo_of h
theorem stable_same {n : Net} (m : n.May) (hk : likesN n = false) {l l' : List Attr} {B : Int} (hB : B ≤ 100000000000000000) (h : n.isV l = true) (h' : n.isV l' = true)
    (hl : ∀ a ∈ l, a.ok = true → Rt B a) (hl' : ∀ a ∈ l', a.ok = true → Rt B a) : sameL l l' = true := by
  have h1 := (isV_iff.1 h).1
  have h2 := (isV_iff.1 h').1
  refine sameL_of (by omega) (fun k a b ha hb => ?_)
  by_cases ho : a.ok = true
  · rw [stable_uniq m hk hB h h' hl hl' a.cost.toNat k a b ha hb (.inl ⟨ho, by omega⟩)]
    exact sameA_refl _
  · by_cases hb' : b.ok = true
    · rw [stable_uniq m hk hB h h' hl hl' b.cost.toNat k a b ha hb (.inr ⟨hb', by omega⟩)]
      exact sameA_refl _
    · exact sameA_of_no (by simpa using ho) (by simpa using hb')
/-- Routes that are alike have nodes choose alike. -/
theorem choice_same {n : Net} {l l' : List Attr} (hl : l.length = l'.length) (h : ∀ (k : Nat) x y, l[k]? = some x → l'[k]? = some y → sameA x y = true) (k : Int) : n.choice l k = n.choice l' k := by
  have : n.offers l k = n.offers l' k := by
    unfold Net.offers
    split
    · rfl
    · refine List.map_congr_left fun e _ => ?_
      unfold offerV
      rw [hl]
      split
      · rename_i hc
        have h1 : e.src.toNat < l'.length := by omega
        have h2 : e.src.toNat < l.length := by omega
        rw [List.getD_eq_getElem?_getD, List.getD_eq_getElem?_getD, List.getElem?_eq_getElem h1, List.getElem?_eq_getElem h2]
        exact take_same (h _ _ _ (List.getElem?_eq_getElem h2) (List.getElem?_eq_getElem h1))
      · rfl
  unfold Net.choice
  rw [this]
/-- The numbers of what a node chooses. -/
theorem choice_num {n : Net} (m : n.May) {l : List Attr} (hl : l.length = n.origin.length) {B : Int} (hB0 : 0 ≤ B) (hB : B ≤ 100000000000000000) (h : ∀ a ∈ l, a.ok = true → Rt B a) (k : Nat) (ho : (n.choice l k).ok = true) : Rt (B + 1030) (n.choice l k) := by
  unfold Net.choice at ho ⊢
  split
  · exact ⟨by decide, by decide, by show (0 : Int) ≤ _; omega⟩
  · rename_i hf
    rw [if_neg hf] at ho
    rcases best_wf (n.offers l k) with q | ⟨q, _⟩
    · rw [q] at ho; cases ho
    · obtain ⟨es, hes, e, he, j, x, hj, hjk, hx, hq⟩ := (offers_mem m hl).1 q
      have hxo : x.ok = true := by
        cases hc : x.ok with
        | true => rfl
        | false => rw [hq, take_none e hc] at ho; cases ho
      rcases take_num (e := e) hB (h x (List.mem_of_getElem? hx) hxo) with ⟨q1, _⟩ | ⟨_, _, q3, _⟩
      · rw [← hq, ho] at q1; cases q1
      · rw [hq]; exact q3
theorem rt_le {B C : Int} {a : Attr} (h : Rt B a) (hBC : B ≤ C) : Rt C a := ⟨h.tags, h.lo, by have := h.hi; omega⟩
theorem set_num {n : Net} (m : n.May) {l : List Attr} (hl : l.length = n.origin.length) {B : Int} (hB0 : 0 ≤ B) (hB : B ≤ 100000000000000000) (h : ∀ a ∈ l, a.ok = true → Rt B a) (k i : Nat) : ∀ a ∈ l.set i (n.choice l k), a.ok = true → Rt (B + 1030) a := by
  intro a ha ho
  rcases List.mem_or_eq_of_mem_set ha with q | q
  · exact rt_le (h a q ho) (by omega)
  · subst q; exact choice_num m hl hB0 hB h k ho
theorem sweepGo_num {n : Net} (m : n.May) : ∀ (f k : Nat) (l : List Attr) (B : Int), l.length = n.origin.length → 0 ≤ B → B + 1030 * f ≤ 100000000000000000 → (∀ a ∈ l, a.ok = true → Rt B a) → ∀ a ∈ sweepGo n f k l, a.ok = true → Rt (B + 1030 * f) a
  | 0, _, l, B, _, _, _, h => fun a ha ho => rt_le (h a ha ho) (by omega)
  | f + 1, k, l, B, hl, h0, hB, h => fun a ha ho => by
    have := sweepGo_num m f (k + 1) (l.set k (n.choice l k)) (B + 1030) (by simpa using hl) (by omega) (by omega) (set_num m hl h0 (by omega) h k k) a ha ho
    exact rt_le this (by omega)
theorem settle_num {n : Net} (m : n.May) : ∀ (t : Nat) (l : List Attr) (B : Int), l.length = n.origin.length → 0 ≤ B → B + 65920 * t ≤ 100000000000000000 → (∀ a ∈ l, a.ok = true → Rt B a) → ∀ a ∈ n.settle t l, a.ok = true → Rt (B + 65920 * t) a
  | 0, l, B, _, _, _, h => fun a ha ho => rt_le (h a ha ho) (by omega)
  | t + 1, l, B, hl, h0, hB, h => fun a ha ho => by
    simp only [Net.settle] at ha
    have hN := m.most
    split at ha
    · exact rt_le (h a ha ho) (by omega)
    · have := settle_num m t (n.sweep l) (B + 65920) (by rw [sweep_len]; exact hl) (by omega) (by omega) (fun a ha ho => by
        have := sweepGo_num m l.length 0 l B hl h0 (by omega) h a ha ho
        exact rt_le this (by omega)) a ha ho
      exact rt_le this (by omega)
theorem settle_isV {n : Net} : ∀ (t : Nat) (l : List Attr), n.isV l = true → n.settle t l = l := fun t l h => by
  cases t with
  | zero => rfl
  | succ t => rw [Net.settle, h]; rfl
/-! what the greedy list bears -/
theorem greedyGo_fine {n : Net} (m : n.May) (hk : likesN n = false) : ∀ (f : Nat) (l : List Attr) (done : List Bool) (B : Int), GInv n l done B → B + 1030 * f ≤ 800000000 → 
    (greedyGo n f l done).length = n.origin.length ∧ ∀ a ∈ greedyGo n f l done, a.ok = true → Rt (B + 1030 * f) a
  | 0, l, done, B, h, _ => ⟨h.len, fun a ha ho => by
      obtain ⟨k, hkk⟩ := List.getElem?_of_mem ha
      have hkl := (List.getElem?_eq_some_iff.1 hkk).1
      have h1 := h.len
      have h2 := h.lenD
      cases hd : done[k]? with
      | none => rw [List.getElem?_eq_none_iff] at hd; simp only [greedyGo] at hkl; omega
      | some d =>
        cases d with
        | true =>
          obtain ⟨a', ha', hf⟩ := h.yes k hd
          simp only [greedyGo] at hkk
          rw [hkk] at ha'; cases ha'
          exact ⟨hf.tags, hf.lo, by have := hf.hi; omega⟩
        | false =>
          have := h.no k hd
          simp only [greedyGo] at hkk
          rw [hkk] at this; cases this; cases ho⟩
  | f + 1, l, done, B, h, hB => by
    simp only [greedyGo]
    obtain ⟨h1, h2, h3⟩ := pick_spec n l done 0 attr0 (-1)
    simp only [Nat.zero_add] at h1 h3
    rcases h1 with h1 | ⟨t, ht, h1, hok⟩
    · rw [h1]
      simp only [show ((-1 : Int) < 0) by decide, if_true]
      have := greedyGo_fine m hk 0 l done B h (by omega)
      exact ⟨this.1, fun a ha ho => rt_le (this.2 a ha ho) (by omega)⟩
    · rw [h1] at h2 h3 ⊢
      have hn : ¬ ((t : Int) < 0) := by omega
      simp only [hn, if_false, Int.toNat_natCast]
      have := greedyGo_fine m hk f _ _ (B + 1030) (greedy_step m hk h (by omega) ht rfl hok h3) (by omega)
      exact ⟨this.1, fun a ha ho => rt_le (this.2 a ha ho) (by omega)⟩
theorem greedy_num {n : Net} {l : List Attr} (h : n.greedy = some l) : l.length = n.origin.length ∧ ∀ a ∈ l, a.ok = true → Rt 100000 a := by
  unfold Net.greedy at h
  split at h
  · cases h
  · rename_i hc
    simp at hc
    cases h
    have m := Net.may_spec hc.1
    have h3 := m.most
    obtain ⟨g1, g2⟩ := greedyGo_fine m hc.2 (n.origin.length + 1) _ _ 0 (init_inv m hc.2) (by omega)
    exact ⟨g1, fun a ha ho => rt_le (g2 a ha ho) (by omega)⟩
theorem greedy_some {n : Net} (h1 : n.may = true) (h2 : likesN n = false) : ∃ l, n.greedy = some l := by
  unfold Net.greedy
  rw [if_neg (by simp [h1, h2])]
  exact ⟨_, rfl⟩
theorem greedy_likes {n : Net} (h1 : n.may = true) (h2 : likesN n = true) : n.greedy = none := by
  unfold Net.greedy
  rw [if_pos (by simp [h2])]
end Mq
namespace Mq
open Go
/-! layer 16's statements -/
/-- A list that has a node's neighbours' routes has it choose the same. -/
theorem choice_near {n : Net} {l l' : List Attr} {k : Nat} (hl : l.length = l'.length) (h : ∀ es, n.edges[k]? = some es → ∀ e ∈ es, ∀ j : Nat, e.src = j → l[j]? = l'[j]?) : n.choice l k = n.choice l' k := by
  have : n.offers l k = n.offers l' k := by
    unfold Net.offers
    split
    · rfl
    · rename_i hk
      have hlt : k < n.edges.length := by omega
      refine List.map_congr_left fun e he => ?_
      have hes : n.edges[k]? = some (n.edges.getD (k : Int).toNat []) := by simp [List.getD, hlt]
      unfold offerV
      rw [hl]
      split
      · rename_i hc
        have h1 := h _ hes e he e.src.toNat (by omega)
        rw [List.getD_eq_getElem?_getD, List.getD_eq_getElem?_getD, h1]
      · rfl
  unfold Net.choice
  rw [this]
/-- Node by node: what each has is what it should. -/
def isW (n : Net) (l : List Attr) : Nat → Bool
  | 0 => true
  | k + 1 => isW n l k && sameA (l.getD k default) (n.choice l k)
theorem isW_spec {n : Net} {l : List Attr} : ∀ k, k ≤ l.length → (isW n l k = true ↔ ∀ (j : Nat) a, j < k → l[j]? = some a → sameA a (n.choice l j) = true)
  | 0, _ => by simp [isW]
  | k + 1, hk => by
    have ih := isW_spec (n := n) (l := l) k (by omega)
    simp only [isW, Bool.and_eq_true, ih]
    have hg : l.getD k default = l[k] := by simp [List.getD, show k < l.length by omega]
    constructor
    · rintro ⟨h1, h2⟩ j a hj ha
      by_cases q : j = k
      · subst q
        rw [hg] at h2
        rw [List.getElem?_eq_getElem (by omega)] at ha
        cases ha
        exact h2
      · exact h1 j a (by omega) ha
    · intro h
      exact ⟨fun j a hj ha => h j a (by omega) ha, by rw [hg]; exact h k l[k] (by omega) (List.getElem?_eq_getElem (by omega))⟩
theorem isW_isV {n : Net} {l : List Attr} (hl : l.length = n.origin.length) : isW n l l.length = n.isV l := by
  have h1 := isW_spec (n := n) (l := l) l.length (Nat.le_refl _)
  have h2 := isV_iff (n := n) (l := l)
  cases hw : isW n l l.length with
  | true => exact (h2.2 ⟨hl, fun k a hk => (h1.1 hw) k a (List.getElem?_eq_some_iff.1 hk).1 hk⟩).symm
  | false =>
    cases hv : n.isV l with
    | false => rfl
    | true =>
      have := h1.2 (fun j a _ ha => (h2.1 hv).2 j a ha)
      rw [hw] at this; cases this
theorem isV_longer {n : Net} {l : List Attr} (hl : l.length = n.origin.length) (a : Attr) : n.isV (l ++ [a]) = false := by
  unfold Net.isV
  rw [if_pos (by simp; omega)]
/-- What the statement SolveOrder asks of a node, by its offers. -/
def learnGo (c : Attr) : List (Attr × Int) → Bool → Bool
  | [], b => b
  | x :: r, b => learnGo c r (b || (sameA x.1 c && decide (x.2 < c.cost)))
theorem learnGo_true {c : Attr} : ∀ (r : List (Attr × Int)), learnGo c r true = true
  | [] => rfl
  | x :: r => by simp only [learnGo, Bool.true_or]; exact learnGo_true r
theorem learnGo_mem {c : Attr} : ∀ (r : List (Attr × Int)) (b : Bool), (b = true ∨ ∃ x ∈ r, sameA x.1 c = true ∧ x.2 < c.cost) → learnGo c r b = true
  | [], b, h => by
    rcases h with h | ⟨x, hx, _⟩
    · exact h
    · cases hx
  | x :: r, b, h => by
    simp only [learnGo]
    rcases h with h | ⟨y, hy, h1, h2⟩
    · subst h; rw [Bool.true_or]; exact learnGo_true r
    · rcases List.mem_cons.1 hy with rfl | hy
      · rw [h1, decide_eq_true h2]; simp [learnGo_true]
      · exact learnGo_mem r _ (.inr ⟨y, hy, h1, h2⟩)
end Mq
namespace Mq
open Go
/-- In a stable list what is learned is dearer than what it was learned of. -/
theorem stable_up {n : Net} (m : n.May) {l : List Attr} {B : Int} (hB : B ≤ 100000000000000000) (h : n.isV l = true) (hl : ∀ a ∈ l, a.ok = true → Rt B a) {k : Nat} {a : Attr} (hk : l[k]? = some a) (hf : n.fixed k = false) (ho : a.ok = true) :
    ∃ es, n.edges[k]? = some es ∧ ∃ e ∈ es, ∃ (j : Nat) (b : Attr), e.src = j ∧ j ≠ k ∧ l[j]? = some b ∧ a = takeV e b ∧ b.ok = true ∧ b.cost < a.cost := by
  obtain ⟨_, es, hes, e, he, j, x, hj, hjk, hx, hax⟩ := stable_at m h hk hf ho
  have hxo : x.ok = true := by
    cases hq : x.ok with
    | true => rfl
    | false => rw [hax, take_none e hq] at ho; cases ho
  rcases take_num (e := e) hB (hl x (List.mem_of_getElem? hx) hxo) with ⟨q, _⟩ | ⟨_, _, _, q4⟩
  · rw [← hax, ho] at q; cases q
  · rw [← hax] at q4
    exact ⟨es, hes, e, he, j, x, hj, hjk, hx, hax, hxo, q4⟩
/-- Without a route of its own nobody has one. -/
theorem stable_nothing {n : Net} (m : n.May) {l : List Attr} {B : Int} (hB : B ≤ 100000000000000000) (h : n.isV l = true) (hl : ∀ a ∈ l, a.ok = true → Rt B a) (hf : ∀ k : Nat, n.fixed k = false) : ∀ (c : Nat) (k : Nat) (a : Attr), l[k]? = some a → a.ok = true → a.cost ≤ c → False := by
  intro c
  induction c using Nat.strongRecOn with
  | _ c ih =>
    intro k a hk ho hc
    obtain ⟨es, hes, e, he, j, b, hj, hjk, hb, hab, hbo, hlt⟩ := stable_up m hB h hl hk (hf k) ho
    have hr := hl b (List.mem_of_getElem? hb) hbo
    have := hr.lo
    exact ih b.cost.toNat (by omega) j b hb hbo (by omega)
theorem stable_none_all {n : Net} (m : n.May) {l : List Attr} {B : Int} (hB : B ≤ 100000000000000000) (h : n.isV l = true) (hl : ∀ a ∈ l, a.ok = true → Rt B a) (hf : ∀ k : Nat, n.fixed k = false) : ∀ a ∈ l, a.ok = false := by
  intro a ha
  obtain ⟨k, hk⟩ := List.getElem?_of_mem ha
  cases ho : a.ok with
  | false => rfl
  | true =>
    have hr := hl a ha ho
    have := hr.lo
    exact (stable_nothing m hB h hl hf a.cost.toNat k a hk ho (by omega)).elim
/-! edges without maps -/
def Net.bare (n : Net) : Prop := ∀ es ∈ n.edges, ∀ e ∈ es, e.exp = [] ∧ e.imp = []
theorem take_bare {e : Arc} (h : e.exp = [] ∧ e.imp = []) (a : Attr) : takeV e a = if a.ok then ⟨true, 100, IntKind.i64.wrap (a.cost + mx 1 (mn e.cost 1000)), a.tags⟩ else attr0 := by
  unfold takeV
  rw [h.1, h.2]
  cases ho : a.ok with
  | true => simp [doV, doGo, ho]
  | false => simp [doV, ho, attr0]
theorem likes_bare {e : Arc} (h : e.exp = [] ∧ e.imp = []) : likesE e = false := by
  have : ∀ f t, likesGo e f t = false := by
    intro f
    induction f with
    | zero => intro t; rfl
    | succ f ih =>
      intro t
      rw [likesGo, if_neg, ih]
      rintro ⟨_, q⟩
      rw [rowV, take_bare h] at q
      exact q rfl
  exact this 16 0
theorem bare_likes {n : Net} (h : n.bare) : likesN n = false := by
  unfold likesN
  rw [List.any_eq_false]
  intro es hes
  rw [Bool.not_eq_true, List.any_eq_false]
  intro e he
  rw [likes_bare (h es hes e he)]
  simp
def rk (l : List Attr) (c : Int) : Nat := (l.filter fun a => a.ok && decide (a.cost < c)).length
theorem rk_lt {l : List Attr} {a b : Attr} (ha : a ∈ l) (ho : a.ok = true) (h : a.cost < b.cost) : rk l a.cost < rk l b.cost := by
  refine filt_lt (fun x hx => ?_) (x := a) ?_ ?_ l ha
  · simp only [Bool.and_eq_true, decide_eq_true_eq] at hx ⊢
    exact ⟨hx.1, by omega⟩
  · simp [ho, h]
  · simp
theorem rk_len {l : List Attr} {a : Attr} (ha : a ∈ l) : rk l a.cost < l.length := by
  have := filt_lt (p := fun _ : Attr => true) (q := fun x => x.ok && decide (x.cost < a.cost)) (fun x _ => rfl) (x := a) rfl (by simp) l ha
  rw [show l.filter (fun _ => true) = l from List.filter_eq_self.2 (fun _ _ => rfl)] at this
  exact this
/-- What may be had on the way to a stable list, without maps. -/
structure BInv (n : Net) (ls cur : List Attr) (B : Int) : Prop where
  len : cur.length = n.origin.length
  num : ∀ a ∈ cur, a.ok = true → Rt B a
  pt : ∀ a ∈ cur, a.ok = true → a.pref = 100 ∧ a.tags = 0
  low : ∀ (k : Nat) a b, cur[k]? = some a → ls[k]? = some b → better a b = false
structure BLs (n : Net) (ls : List Attr) : Prop where
  may : n.May
  bare : n.bare
  isV : n.isV ls = true
  num : ∀ a ∈ ls, a.ok = true → Rt 100000 a
theorem BLs.pt {n : Net} {ls : List Attr} (h : BLs n ls) : ∀ (c : Nat) (k : Nat) (a : Attr), ls[k]? = some a → a.ok = true → a.cost ≤ c → a.pref = 100 ∧ a.tags = 0 := by
  intro c
  induction c using Nat.strongRecOn with
  | _ c ih =>
    intro k a hk ho hc
    by_cases hf : n.fixed k = true
    · have := (isV_iff.1 h.isV).2 k a hk
      rw [Net.choice, if_pos hf] at this
      rw [sameA_ok this (.inl ho)]
      exact ⟨rfl, rfl⟩
    · obtain ⟨es, hes, e, he, j, b, hj, hjk, hb, hab, hbo, hlt⟩ := stable_up h.may (by decide) h.isV h.num hk (by simpa using hf) ho
      have hr := h.num b (List.mem_of_getElem? hb) hbo
      have := hr.lo
      obtain ⟨_, q⟩ := ih b.cost.toNat (by omega) j b hb hbo (by omega)
      rw [hab, take_bare (h.bare es (List.mem_of_getElem? hes) e he), if_pos hbo]
      exact ⟨rfl, q⟩
/-- What a node chooses on the way: never better than what it should have in the end, and that, if the one it learns from has it. -/
theorem bare_choice {n : Net} {ls cur : List Attr} {B : Int} (h : BLs n ls) (c : BInv n ls cur B) (hB : B ≤ 100000000000000000) {k : Nat} {b : Attr} (hk : ls[k]? = some b) :
    better (n.choice cur k) b = false ∧ ((n.choice cur k).ok = true → (n.choice cur k).pref = 100 ∧ (n.choice cur k).tags = 0) ∧
    (b.ok = true → (n.fixed k = false → ∀ (j : Nat) x, ls[j]? = some x → x.ok = true → x.cost < b.cost → cur[j]? = some x) → n.choice cur k = b) := by
  have hs := (isV_iff.1 h.isV).2 k b hk
  have hll := (isV_iff.1 h.isV).1
  by_cases hf : n.fixed k = true
  · rw [Net.choice, if_pos hf] at hs ⊢
    have := sameA_ok hs (.inr rfl)
    rw [this]
    exact ⟨better_irr _, fun _ => ⟨rfl, rfl⟩, fun _ _ => rfl⟩
  · have hf' : n.fixed k = false := by simpa using hf
    rw [Net.choice, if_neg hf] at hs ⊢
    have hoff : ∀ x ∈ n.offers cur k, better x b = false ∧ (x.ok = true → x.pref = 100 ∧ x.tags = 0) := by
      intro x hx
      obtain ⟨es, hes, e, he, j, a, hj, hjk, ha, rfl⟩ := (offers_mem h.may c.len).1 hx
      have hjl : j < ls.length := by have := (List.getElem?_eq_some_iff.1 ha).1; have := c.len; omega
      have hbr := h.bare es (List.mem_of_getElem? hes) e he
      have hy : takeV e ls[j] ∈ n.offers ls k := (offers_mem h.may hll).2 ⟨es, hes, e, he, j, ls[j], hj, hjk, List.getElem?_eq_getElem hjl, rfl⟩
      have h1 : better (takeV e ls[j]) b = false := by
        have h2 := best_ge _ hy
        by_cases hbo : b.ok = true
        · rw [sameA_ok hs (.inl hbo)]; exact h2
        · have hbo' : b.ok = false := by simpa using hbo
          have hno := sameA_no hs
          rw [hbo'] at hno
          cases hq : (takeV e ls[j]).ok with
          | true => simp [better, hq, ← hno] at h2
          | false => simp [better, hq]
      by_cases hao : a.ok = true
      · have hlow := c.low j a ls[j] ha (List.getElem?_eq_getElem hjl)
        have hlo : (ls[j]).ok = true := by
          cases hq : (ls[j]).ok with
          | true => rfl
          | false => simp [better, hao, hq] at hlow
        obtain ⟨p1, p2⟩ := c.pt a (List.mem_of_getElem? ha) hao
        have hr := h.num _ (List.getElem_mem hjl) hlo
        obtain ⟨q1, q2⟩ := h.pt (ls[j]).cost.toNat j _ (List.getElem?_eq_getElem hjl) hlo (by have := hr.lo; omega)
        have hra := c.num a (List.mem_of_getElem? ha) hao
        have hcost : (ls[j]).cost ≤ a.cost := by
          simp [better, hao, hlo, p1, q1] at hlow
          split at hlow <;> omega
        have m2 := mn_mx2 e.cost
        have := hr.lo
        have := hr.hi
        have := hra.lo
        have := hra.hi
        refine ⟨better_weak ?_ h1, fun _ => ?_⟩
        · rw [take_bare hbr, take_bare hbr, if_pos hao, if_pos hlo, wrapI64 _ (by omega) (by omega), wrapI64 _ (by omega) (by omega)]
          simp only [better, Bool.not_true, Bool.or_self, Bool.false_eq_true, if_false, ne_eq, not_true_eq_false]
          split
          · rw [decide_eq_false_iff_not]; omega
          · rw [decide_eq_false_iff_not]; omega
        · rw [take_bare hbr, if_pos hao]; exact ⟨rfl, p2⟩
      · have hao' : a.ok = false := by simpa using hao
        rw [take_none e hao']
        exact ⟨by simp [better, attr0], fun q => by cases q⟩
    refine ⟨?_, fun ho => ?_, fun hbo hpar => ?_⟩
    · rcases best_wf (n.offers cur k) with q | ⟨q, _⟩
      · rw [q]; simp [better, attr0]
      · exact (hoff _ q).1
    · rcases best_wf (n.offers cur k) with q | ⟨q, _⟩
      · rw [q] at ho; cases ho
      · exact (hoff _ q).2 ho
    · obtain ⟨es, hes, e, he, j, x, hj, hjk, hx, hax, hxo, hlt⟩ := stable_up h.may (by decide) h.isV h.num hk hf' hbo
      have hcj := hpar hf' j x hx hxo hlt
      have hb : b ∈ n.offers cur k := (offers_mem h.may c.len).2 ⟨es, hes, e, he, j, x, hj, hjk, hcj, hax⟩
      have g1 := best_ge _ hb
      rcases best_wf (n.offers cur k) with q | ⟨q, q2⟩
      · rw [q] at g1; simp [better, hbo, attr0] at g1
      · exact eq_of_not_better q2 hbo (hoff _ q).1 g1
theorem bare_set {n : Net} {ls cur : List Attr} {B : Int} (h : BLs n ls) (c : BInv n ls cur B) (hB0 : 0 ≤ B) (hB : B ≤ 100000000000000000) (k : Nat) : BInv n ls (cur.set k (n.choice cur k)) (B + 1030) := by
  have hll := (isV_iff.1 h.isV).1
  have hl := c.len
  refine ⟨by simpa using hl, set_num h.may hl hB0 hB c.num k k, fun a ha ho => ?_, fun j a b ha hb => ?_⟩
  · rcases List.mem_or_eq_of_mem_set ha with q | q
    · exact c.pt a q ho
    · by_cases hk : k < ls.length
      · subst q
        exact (bare_choice h c hB (List.getElem?_eq_getElem hk)).2.1 ho
      · have : cur.set k (n.choice cur k) = cur := List.set_eq_of_length_le (by omega)
        rw [this] at ha
        exact c.pt a ha ho
  · by_cases hjk : j = k
    · subst hjk
      have hlt : j < cur.length := by have := (List.getElem?_eq_some_iff.1 ha).1; simpa using this
      rw [List.getElem?_set_self hlt] at ha
      cases ha
      exact (bare_choice h c hB hb).1
    · rw [List.getElem?_set_ne (Ne.symm hjk)] at ha
      exact c.low j a b ha hb
/-- The nodes of a rank have what they should. -/
def RkOk (ls cur : List Attr) (i : Nat) (k : Nat) : Prop := ∀ b, ls[k]? = some b → b.ok = true → rk ls b.cost < i → cur[k]? = some b
theorem bare_rank {n : Net} {ls cur : List Attr} {B : Int} (h : BLs n ls) (c : BInv n ls cur B) (hB : B ≤ 100000000000000000) {i : Nat} (hr : ∀ k, RkOk ls cur i k) (t : Nat) : (∀ k, RkOk ls (cur.set t (n.choice cur t)) i k) ∧ RkOk ls (cur.set t (n.choice cur t)) (i + 1) t := by
  have hll := (isV_iff.1 h.isV).1
  have key : RkOk ls (cur.set t (n.choice cur t)) (i + 1) t := by
    intro b hb hbo hrk
    have hlt : t < cur.length := by have := (List.getElem?_eq_some_iff.1 hb).1; have := c.len; omega
    rw [List.getElem?_set_self hlt]
    rw [(bare_choice h c hB hb).2.2 hbo (fun _ j x hx hxo hxc => hr j x hx hxo ?_)]
    have := rk_lt (List.mem_of_getElem? hx) hxo hxc
    omega
  refine ⟨fun k => ?_, key⟩
  by_cases hkt : k = t
  · subst hkt
    intro b hb hbo hrk
    exact key b hb hbo (by omega)
  · intro b hb hbo hrk
    rw [List.getElem?_set_ne (Ne.symm hkt)]
    exact hr k b hb hbo hrk
theorem bare_sweepGo {n : Net} {ls : List Attr} (h : BLs n ls) (i : Nat) : ∀ (f t : Nat) (cur : List Attr) (B : Int), BInv n ls cur B → 0 ≤ B → B + 1030 * f ≤ 100000000000000000 → t + f = cur.length → (∀ k, RkOk ls cur i k) → (∀ k, k < t → RkOk ls cur (i + 1) k) →
    BInv n ls (sweepGo n f t cur) (B + 1030 * f) ∧ ∀ k, RkOk ls (sweepGo n f t cur) (i + 1) k
  | 0, t, cur, B, c, h0, hB, hl, h1, h2 => by
    have hll := (isV_iff.1 h.isV).1
    refine ⟨⟨c.len, fun a ha ho => rt_le (c.num a ha ho) (by omega), c.pt, c.low⟩, fun k b hb hbo hrk => ?_⟩
    have hk := (List.getElem?_eq_some_iff.1 hb).1
    exact h2 k (by have := c.len; omega) b hb hbo hrk
  | f + 1, t, cur, B, c, h0, hB, hl, h1, h2 => by
    obtain ⟨g1, g2⟩ := bare_rank h c (by omega) h1 t
    have := bare_sweepGo h i f (t + 1) (cur.set t (n.choice cur t)) (B + 1030) (bare_set h c h0 (by omega) t) (by omega) (by omega) (by simp; omega) g1 (fun k hk => by
      by_cases hkt : k = t
      · subst hkt; exact g2
      · intro b hb hbo hrk
        rw [List.getElem?_set_ne (Ne.symm hkt)]
        exact h2 k (by omega) b hb hbo hrk)
    refine ⟨⟨this.1.len, fun a ha ho => rt_le (this.1.num a ha ho) (by omega), this.1.pt, this.1.low⟩, this.2⟩
theorem bare_sweep {n : Net} {ls cur : List Attr} {B : Int} (h : BLs n ls) (c : BInv n ls cur B) (h0 : 0 ≤ B) (hB : B + 65920 ≤ 100000000000000000) {i : Nat} (hr : ∀ k, RkOk ls cur i k) : BInv n ls (n.sweep cur) (B + 65920) ∧ ∀ k, RkOk ls (n.sweep cur) (i + 1) k := by
  have hN := h.may.most
  have hl := c.len
  have := bare_sweepGo h i cur.length 0 cur B c h0 (by omega) (by omega) hr (fun k hk => by omega)
  exact ⟨⟨this.1.len, fun a ha ho => rt_le (this.1.num a ha ho) (by omega), this.1.pt, this.1.low⟩, this.2⟩
/-- Where all ranks have what they should all is stable. -/
theorem bare_done {n : Net} {ls cur : List Attr} {B : Int} (h : BLs n ls) (c : BInv n ls cur B) (hr : ∀ k, RkOk ls cur n.origin.length k) : n.isV cur = true := by
  have hll := (isV_iff.1 h.isV).1
  have hs : ∀ (k : Nat) x y, cur[k]? = some x → ls[k]? = some y → sameA x y = true := by
    intro k x y hx hy
    by_cases hyo : y.ok = true
    · have := hr k y hy hyo (by rw [← hll]; exact rk_len (List.mem_of_getElem? hy))
      rw [hx] at this; cases this; exact sameA_refl _
    · have hyo : y.ok = false := by simpa using hyo
      have := c.low k x y hx hy
      refine sameA_of_no ?_ hyo
      cases hxo : x.ok with
      | false => rfl
      | true => simp [better, hxo, hyo] at this
  refine isV_iff.2 ⟨c.len, fun k a ha => ?_⟩
  have hk : k < ls.length := by have := (List.getElem?_eq_some_iff.1 ha).1; have := c.len; omega
  have h1 := hs k a _ ha (List.getElem?_eq_getElem hk)
  have h2 := (isV_iff.1 h.isV).2 k _ (List.getElem?_eq_getElem hk)
  rw [choice_same (by have := c.len; omega) hs]
  unfold sameA at h1 h2 ⊢
  grind
theorem bare_settle {n : Net} {ls : List Attr} (h : BLs n ls) : ∀ (f i : Nat) (cur : List Attr) (B : Int), BInv n ls cur B → 0 ≤ B → B + 65920 * f ≤ 100000000000000000 → n.origin.length ≤ i + f → (∀ k, RkOk ls cur i k) → n.isV (n.settle f cur) = true ∧ ∀ a ∈ n.settle f cur, a.ok = true → Rt (B + 65920 * f) a
  | 0, i, cur, B, c, h0, hB, hi, hr => ⟨bare_done h c (fun k b hb hbo hrk => hr k b hb hbo (by omega)), fun a ha ho => rt_le (c.num a ha ho) (by omega)⟩
  | f + 1, i, cur, B, c, h0, hB, hi, hr => by
    rw [Net.settle]
    split
    · rename_i hv
      exact ⟨hv, fun a ha ho => rt_le (c.num a ha ho) (by omega)⟩
    · obtain ⟨g1, g2⟩ := bare_sweep h c h0 (by omega) hr
      have := bare_settle h f (i + 1) (n.sweep cur) (B + 65920) g1 (by omega) (by omega) (by omega) g2
      exact ⟨this.1, fun a ha ho => rt_le (this.2 a ha ho) (by omega)⟩
theorem bare_zero {n : Net} {ls : List Attr} (h : BLs n ls) : BInv n ls (List.replicate n.origin.length attr0) 0 ∧ ∀ k, RkOk ls (List.replicate n.origin.length attr0) 0 k := by
  refine ⟨⟨by simp, fun a ha ho => ?_, fun a ha ho => ?_, fun k a b ha _ => ?_⟩, fun k b hb hbo hrk => by omega⟩
  · rw [List.eq_of_mem_replicate ha] at ho; cases ho
  · rw [List.eq_of_mem_replicate ha] at ho; cases ho
  · rw [List.eq_of_mem_replicate (List.mem_of_getElem? ha)]; simp [better, attr0]
end Mq
namespace Mq
open Go
/-! what a shape's network is, for layer 16's statements -/
theorem bare_net {s : Shape} {w : Int} {x : Net × Int × Int} (h : s.bare.netV w = some x) : x.1.bare := by
  obtain ⟨hx, _⟩ := Shape.netV_n h
  rw [hx]
  intro es hes e he
  obtain ⟨k, hk⟩ := List.getElem?_of_mem hes
  obtain ⟨_, rfl⟩ := Shape.net_get hk
  obtain ⟨l, _, rfl⟩ := List.mem_map.1 he
  exact ⟨rfl, rfl⟩
theorem bare_BLs {n : Net} {l : List Attr} (h1 : n.bare) (h : n.greedy = some l) (hm : n.may = true) : BLs n l := ⟨Net.may_spec hm, h1, greedy_stable h, (greedy_num h).2⟩
/-- A network whose nodes have no routes of their own. -/
def Net.noone (n : Net) : Net := ⟨List.replicate n.origin.length false, List.replicate n.origin.length (-1), n.edges⟩
theorem noone_fixed (n : Net) (k : Int) : n.noone.fixed k = false := by
  unfold Net.fixed Net.noone
  simp only [List.length_replicate]
  by_cases h : 0 ≤ k ∧ k < n.origin.length
  · have h1 : k.toNat < n.origin.length := by omega
    simp [List.getD, List.getElem?_replicate, h1]
  · by_cases h0 : 0 ≤ k
    · have : ¬ k < n.origin.length := fun q => h ⟨h0, q⟩
      simp [this]
    · simp [h0]
theorem noone_may {n : Net} (m : n.May) : n.noone.may = true := by
  have h1 := m.edges
  refine Net.may_of (by simp [Net.noone]) (by simp [Net.noone, h1]) (by simpa [Net.noone] using m.most) (fun k es st he hs => ⟨?_, m.nodup es (List.mem_of_getElem? he), .inl ?_⟩)
  · have := m.src k es he
    simpa [Net.noone] using this
  · have := List.eq_of_mem_replicate (List.mem_of_getElem? hs)
    omega
theorem noone_small {n : Net} (h : n.small) : n.noone.small := ⟨by simpa [Net.noone] using h.origin, by simpa [Net.noone] using h.origin, h.edges, h.row, h.exp, h.imp⟩
theorem noone_likes (n : Net) : likesN n.noone = likesN n := rfl
/-! shapes without what sets how routes are liked -/
def noPref (cs : List Clause) : Prop := ∀ c ∈ cs, c.pref = 0
theorem plain_c4 (r : Rule) : r.plain.c4.pref = 0 := by
  have : r.plain.c3.pref = 0 := by
    show (if r.plain.pref < 200 then 0 else r.plain.c2.pref) = 0
    exact if_pos (by show (0 : Int) < 200; decide)
  exact this
theorem clsGo_noPref : ∀ (rs : List Rule) (i : Nat) (out : List Clause), noPref out → noPref (clsGo (rs.map Rule.plain) i out)
  | [], _, out, h => h
  | r :: rs, i, out, h => by
    simp only [List.map_cons, clsGo]
    refine clsGo_noPref rs (i + 1) _ ?_
    split
    · intro c hc
      rcases List.mem_append.1 hc with q | q
      · exact h c q
      · simp at q; subst q; exact plain_c4 r
    · exact h
theorem mpsGo_noPref : ∀ (l : List (List Rule)) (k : Nat) (out : List Mp), (∀ m ∈ out, noPref m.cls) → ∀ m ∈ mpsGo (l.map (·.map Rule.plain)) k out, noPref m.cls
  | [], _, out, h => h
  | rs :: l, k, out, h => by
    simp only [List.map_cons, mpsGo]
    refine mpsGo_noPref l (k + 1) _ ?_
    split
    · intro m hm
      rcases List.mem_append.1 hm with q | q
      · exact h m q
      · simp at q; subst q; exact clsGo_noPref rs 0 [] (fun c hc => by cases hc)
    · exact h
theorem forGo_noPref (a b : Int) : ∀ (cs out : List Clause), noPref cs → noPref out → noPref (forGo a b cs out)
  | [], out, _, h => h
  | c :: r, out, hc, h => by
    have hr : noPref r := fun x hx => hc x (by simp [hx])
    have hf : noPref (out ++ [c.free]) := by
      intro x hx
      rcases List.mem_append.1 hx with q | q
      · exact h x q
      · simp at q; subst q; exact hc c (by simp)
    simp only [forGo]
    split
    · exact forGo_noPref a b r out hr h
    · split
      · exact hf
      · exact forGo_noPref a b r _ hr hf
theorem clausesV_noPref {ms : List Mp} (h : ∀ m ∈ ms, noPref m.cls) (name : ByteArray) (a b : Int) : noPref (clausesV ms name a b) := by
  unfold clausesV
  split
  · rename_i m hm
    exact forGo_noPref a b m.cls [] (h m (List.mem_of_find?_eq_some hm)) (fun c hc => by cases hc)
  · intro c hc; cases hc
theorem doGo_noPref {a b : Int} {x : Attr} : ∀ (cs : List Clause), noPref cs → (doGo a b x cs).ok = true → (doGo a b x cs).pref = x.pref
  | [], _, _ => rfl
  | c :: r, h, ho => by
    simp only [doGo] at ho ⊢
    split
    · rename_i hm
      rw [if_pos hm] at ho
      split
      · rename_i hd; rw [if_pos hd] at ho; cases ho
      · simp [clauseV, h c (by simp)]
    · rename_i hm
      rw [if_neg hm] at ho
      exact doGo_noPref r (fun y hy => h y (by simp [hy])) ho
theorem likes_noPref {e : Arc} (h : noPref e.imp) : likesE e = false := by
  have : ∀ f t, likesGo e f t = false := by
    intro f
    induction f with
    | zero => intro t; rfl
    | succ f ih =>
      intro t
      rw [likesGo, if_neg, ih]
      rintro ⟨q1, q2⟩
      rw [rowV] at q1 q2
      generalize (⟨true, 100, 0, bitV .and .u8 t 15⟩ : Attr) = a at q1 q2
      unfold takeV at q1 q2
      split at q1
      · rename_i hx
        rw [if_pos hx] at q2
        obtain ⟨g1, g2⟩ := doV_ok q1
        rw [g2] at q1 q2
        exact q2 (doGo_noPref _ h q1)
      · cases q1
  exact this 16 0
theorem plain_likes {s : Shape} {w : Int} {x : Net × Int × Int} (h : s.plain.netV w = some x) : likesN x.1 = false := by
  obtain ⟨hx, _⟩ := Shape.netV_n h
  rw [hx]
  unfold likesN
  rw [List.any_eq_false]
  intro es hes
  rw [Bool.not_eq_true, List.any_eq_false]
  intro e he
  obtain ⟨k, hk⟩ := List.getElem?_of_mem hes
  obtain ⟨_, rfl⟩ := Shape.net_get hk
  obtain ⟨l, _, rfl⟩ := List.mem_map.1 he
  rw [likes_noPref (clausesV_noPref (mpsGo_noPref s.maps 0 [] (fun m hm => by cases hm)) _ _ _)]
  simp
end Mq
