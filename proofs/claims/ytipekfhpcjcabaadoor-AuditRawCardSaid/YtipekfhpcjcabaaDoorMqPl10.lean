/- What the statements of layers 15 and 16 ask of greedy lists, and of lists that nodes turn. Part of a verified reader of code, common to this project's claims. -/
import Derived.Test.YtipekfhpcjcabaaDoorMqPl9
set_option linter.unusedVariables false
set_option linter.unusedSimpArgs false
namespace Mq
open Go
set_option linter.unusedVariables false
set_option linter.unusedSimpArgs false
theorem offers_es {n : Net} {l : List Attr} {k : Nat} {es : List Arc} (hes : n.edges[k]? = some es) : n.offers l k = es.map (offerV l) := by
  have hlt := (List.getElem?_eq_some_iff.1 hes).1
  unfold Net.offers
  rw [if_neg (by omega)]
  simp [List.getD, hes]
theorem offer_at {n : Net} (m : n.May) {l : List Attr} (hl : l.length = n.origin.length) {k : Nat} {es : List Arc} (hes : n.edges[k]? = some es) {e : Arc} (he : e ∈ es) : 0 ≤ e.src ∧ e.src < l.length ∧ offerV l e = takeV e (l.getD e.src.toNat default) := by
  have hs := m.src k es hes e he
  exact ⟨hs.1, by omega, by rw [offerV, if_pos (by omega)]⟩
theorem order_facts {n : Net} (m : n.May) {l : List Attr} {B : Int} (hB : B ≤ 100000000000000000) (h : n.isV l = true) (hl : ∀ a ∈ l, a.ok = true → Rt B a) {k : Nat} {a : Attr} {es : List Arc} (hk : l[k]? = some a) (hf : n.fixed k = false) (hes : n.edges[k]? = some es) :
    (a.ok = false → ∀ e ∈ es, (offerV l e).ok = false) ∧ learnGo a (es.map fun e => (offerV l e, (l.getD e.src.toNat default).cost)) (!a.ok) = true := by
  have hll := (isV_iff.1 h).1
  refine ⟨fun ho e he => ?_, ?_⟩
  · have h1 := (isV_iff.1 h).2 k a hk
    rw [Net.choice, hf] at h1
    simp only [Bool.false_eq_true, if_false] at h1
    have h2 := sameA_no h1
    rw [ho] at h2
    have h3 := best_ge (n.offers l k) (x := offerV l e) (by rw [offers_es hes]; exact List.mem_map_of_mem he)
    cases hq : (offerV l e).ok with
    | false => rfl
    | true => simp [better, hq, ← h2] at h3
  · cases ho : a.ok with
    | false => exact learnGo_true _
    | true =>
      obtain ⟨es', hes', e, he, j, b, hj, hjk, hb, hab, hbo, hlt⟩ := stable_up m hB h hl hk hf ho
      rw [hes] at hes'
      cases hes'
      refine learnGo_mem _ _ (.inr ⟨_, List.mem_map_of_mem he, ?_, ?_⟩)
      · obtain ⟨_, _, q⟩ := offer_at m hll hes he
        have : l.getD e.src.toNat default = b := by rw [hj]; simp [List.getD, hb]
        simp only
        rw [q, this, ← hab]
        exact sameA_refl _
      · have : l.getD e.src.toNat default = b := by rw [hj]; simp [List.getD, hb]
        simp only
        rw [this]; exact hlt
theorem learnGo_step {c : Attr} {x : Attr × Int} {r : List (Attr × Int)} {b : Bool} : learnGo c (x :: r) b = learnGo c r (if b = true then true else if sameA x.1 c = true then decide (x.2 < c.cost) else false) := by
  simp only [learnGo]
  congr 1
  cases b <;> cases sameA x.1 c <;> simp
/-! layer 15: routes over edges -/
/-- The statement StableFixed's list: some routes, and a node's neighbours' of others. -/
def nearGo (l : List Attr) : List Arc → List Attr → List Attr
  | [], x => x
  | e :: r, x => nearGo l r (x.set e.src.toNat (l.getD e.src.toNat default))
theorem nearGo_len (l : List Attr) : ∀ (es : List Arc) (x : List Attr), (nearGo l es x).length = x.length
  | [], _ => rfl
  | e :: r, x => by simp [nearGo, nearGo_len l r]
theorem nearGo_old (l : List Attr) : ∀ (es : List Arc) (x : List Attr) (j : Nat), l.length = x.length → x[j]? = l[j]? → (nearGo l es x)[j]? = l[j]?
  | [], _, _, _, h => h
  | e :: r, x, j, hl, h => by
    simp only [nearGo]
    refine nearGo_old l r _ j (by simpa using hl) ?_
    by_cases hj : j = e.src.toNat
    · subst hj
      by_cases hlt : e.src.toNat < x.length
      · rw [List.getElem?_set_self hlt]
        simp [List.getD, show e.src.toNat < l.length by omega]
      · rw [List.getElem?_eq_none (by simp; omega), List.getElem?_eq_none (by omega)]
    · rw [List.getElem?_set_ne (Ne.symm hj)]; exact h
theorem nearGo_at (l : List Attr) : ∀ (es : List Arc) (x : List Attr), l.length = x.length → ∀ e ∈ es, (nearGo l es x)[e.src.toNat]? = l[e.src.toNat]?
  | [], _, _, e, h => by cases h
  | e0 :: r, x, hl, e, h => by
    simp only [nearGo]
    rcases List.mem_cons.1 h with rfl | h
    · refine nearGo_old l r _ _ (by simpa using hl) ?_
      by_cases hlt : e.src.toNat < x.length
      · rw [List.getElem?_set_self hlt]
        simp [List.getD, show e.src.toNat < l.length by omega]
      · rw [List.getElem?_eq_none (by simp; omega), List.getElem?_eq_none (by omega)]
    · exact nearGo_at l r _ (by simpa using hl) e h
theorem near_choice {n : Net} (m : n.May) {l x : List Attr} (hl : l.length = x.length) {k : Nat} {es : List Arc} (hes : n.edges[k]? = some es) : n.choice (nearGo l es x) k = n.choice l k := by
  refine choice_near (by rw [nearGo_len, hl]) (fun es' hes' e he j hj => ?_)
  rw [hes] at hes'
  cases hes'
  have := nearGo_at l es x hl e he
  rw [hj] at this
  simpa using this
/-- The statement StableOrigin's: is a node's route an origin's, or was it learned? -/
def origGo (f : Bool) (l : List Attr) (a : Attr) : List Arc → Bool → Bool
  | [], b => b
  | e :: r, b => origGo f l a r (if b = true then true else if f = true then false else sameA (takeV e (l.getD e.src.toNat default)) a)
theorem origGo_true {f : Bool} {l : List Attr} {a : Attr} : ∀ es, origGo f l a es true = true
  | [] => rfl
  | e :: r => by simp only [origGo, if_true]; exact origGo_true r
theorem origGo_mem {l : List Attr} {a : Attr} : ∀ (es : List Arc) (b : Bool), (∃ e ∈ es, sameA (takeV e (l.getD e.src.toNat default)) a = true) → origGo false l a es b = true
  | [], b, ⟨e, he, _⟩ => by cases he
  | e :: r, b, ⟨e', he, hs⟩ => by
    simp only [origGo]
    rcases List.mem_cons.1 he with rfl | he
    · rw [hs]
      simp only [Bool.false_eq_true, if_false, ite_self]
      cases b <;> simp [origGo_true]
    · exact origGo_mem r _ ⟨e', he, hs⟩
theorem orig_facts {n : Net} (m : n.May) {l : List Attr} (h : n.isV l = true) {k : Nat} {a : Attr} {es : List Arc} (hk : l[k]? = some a) (ho : a.ok = true) (hes : n.edges[k]? = some es) :
    (n.fixed k = true → a = origA) ∧ (n.fixed k = false → origGo false l a es false = true) := by
  refine ⟨fun hf => ?_, fun hf => ?_⟩
  · have h1 := (isV_iff.1 h).2 k a hk
    rw [Net.choice, if_pos hf] at h1
    exact sameA_ok h1 (.inl ho)
  · obtain ⟨_, es', hes', e, he, j, b, hj, hjk, hb, hab⟩ := stable_at m h hk hf ho
    rw [hes] at hes'
    cases hes'
    refine origGo_mem _ _ ⟨e, he, ?_⟩
    have : l.getD e.src.toNat default = b := by rw [hj]; simp [List.getD, hb]
    rw [this, ← hab]
    exact sameA_refl _
end Mq
namespace Mq
open Go
theorem some_num (ns : List Int) (h : B16 ns) (many : Nat) : ∀ a ∈ someV ns many, a.ok = true → Rt 15 a := by
  intro a ha ho
  obtain ⟨k, _, rfl⟩ := List.mem_map.1 ha
  unfold someA at ho ⊢
  split
  · rename_i hk
    have hr := h.rng (ns.getD k 0) (by rw [List.getD_eq_getElem?_getD, List.getElem?_eq_getElem hk.1]; exact List.getElem_mem hk.1)
    have hn := num16 hr
    exact ⟨⟨hn.2.2.2.2.2.2.2.2.2.1, by have := hn.2.2.2.2.2.2.2.2.2.2; show (_ : Int) ≤ 15; simp only [someAt]; omega⟩, hn.2.2.2.2.2.2.2.2.1.1, by have := hn.2.2.2.2.2.2.2.2.1.2; simp only [someAt]; omega⟩
  · rename_i hk
    rw [if_neg hk] at ho
    cases ho
theorem tmod_at {v : Int} {N : Nat} (h0 : 0 ≤ v) (hN : 0 < N) : 0 ≤ v.tmod N ∧ v.tmod N < N := by
  rw [Int.tmod_eq_emod_of_nonneg h0]
  exact ⟨Int.emod_nonneg _ (by omega), Int.emod_lt_of_pos _ (by omega)⟩
theorem isW_succ (n : Net) (l : List Attr) (k : Nat) (a : Attr) (h : l[k]? = some a) : isW n l (k + 1) = (if isW n l k = true then sameA a (n.choice l k) else false) := by
  have : l.getD k default = a := by simp [List.getD, h]
  simp only [isW, this]
  cases isW n l k <;> simp
end Mq
namespace Mq
open Go
theorem sameL_refl (l : List Attr) : sameL l l = true := sameL_of rfl (fun k x y hx hy => by rw [hx] at hy; cases hy; exact sameA_refl _)
end Mq
