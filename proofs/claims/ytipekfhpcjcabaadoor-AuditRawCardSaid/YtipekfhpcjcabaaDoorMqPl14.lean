/- Layer 17 in plain words: blocks, numbered as their first nodes rise; two texts that part nodes into blocks come to the same. Part of a verified reader of code, common to this project's claims. -/
import Derived.Test.YtipekfhpcjcabaaDoorMqPl13
set_option linter.unusedVariables false
set_option linter.unusedSimpArgs false
namespace Mq
open Go
set_option linter.unusedVariables false
set_option linter.unusedSimpArgs false
theorem mx_eq (a b : Int) : mx a b = if b > a then b else a := rfl
def countV (b : List Int) : Int := b.foldl (fun n k => mx n (k + 1)) 0
theorem countV_app (b : List Int) (x : Int) : countV (b ++ [x]) = mx (countV b) (x + 1) := by simp [countV]
theorem countV_take {b : List Int} {k : Nat} {x : Int} (h : b[k]? = some x) : countV (b.take (k + 1)) = mx (countV (b.take k)) (x + 1) := by
  rw [List.take_add_one, h]; simp [countV_app]
/-- Where a number stands first. -/
def ixOf (x : Int) : List Int → Nat → Option Nat
  | [], _ => none
  | f :: r, i => if f = x then some i else ixOf x r (i + 1)
theorem ixOf_some {x : Int} : ∀ (l : List Int) (i j : Nat), ixOf x l i = some j → i ≤ j ∧ l[j - i]? = some x
  | [], _, _, h => by simp [ixOf] at h
  | f :: r, i, j, h => by
    simp only [ixOf] at h
    split at h
    · rename_i hf; cases h; subst hf; simp
    · obtain ⟨h1, h2⟩ := ixOf_some r (i + 1) j h
      exact ⟨by omega, by rw [show j - i = (j - (i + 1)) + 1 by omega]; simpa using h2⟩
theorem ixOf_none {x : Int} : ∀ (l : List Int) (i : Nat), ixOf x l i = none → x ∉ l
  | [], _, _ => by simp
  | f :: r, i, h => by
    simp only [ixOf] at h
    split at h
    · cases h
    · rename_i hf
      have := ixOf_none r (i + 1) h
      simp only [List.mem_cons, not_or]
      exact ⟨fun q => hf q.symm, this⟩
theorem ixOf_at {x : Int} : ∀ (l : List Int) (i j : Nat), l.Nodup → l[j]? = some x → ixOf x l i = some (i + j)
  | [], _, _, _, h => by simp at h
  | f :: r, i, j, hn, h => by
    rw [List.nodup_cons] at hn
    simp only [ixOf]
    cases j with
    | zero => simp at h; rw [if_pos h]; rfl
    | succ j =>
      have h : r[j]? = some x := by simpa using h
      have : f ≠ x := fun q => hn.1 (q ▸ List.mem_of_getElem? h)
      rw [if_neg this, ixOf_at r (i + 1) j hn.2 h]
      congr 1; omega
/-- Numbers, so that each one's first rises. -/
def numGo : List Int → List Int → List Int → List Int
  | [], _, out => out
  | x :: r, fs, out => match ixOf x fs 0 with
    | some i => numGo r fs (out ++ [(i : Int)])
    | none => numGo r (fs ++ [x]) (out ++ [(fs.length : Int)])
def nmbV (b : List Int) : List Int := numGo b [] []
/-- What stands first of some numbers. -/
def firGo : List Int → List Int → List Int
  | [], fs => fs
  | x :: r, fs => match ixOf x fs 0 with
    | some _ => firGo r fs
    | none => firGo r (fs ++ [x])
theorem firGo_app : ∀ (b c fs : List Int), firGo (b ++ c) fs = firGo c (firGo b fs)
  | [], _, _ => rfl
  | x :: r, c, fs => by
    simp only [List.cons_append, firGo]
    split <;> exact firGo_app r c _
theorem numGo_app : ∀ (b c fs out : List Int), numGo (b ++ c) fs out = numGo c (firGo b fs) (numGo b fs out)
  | [], _, _, _ => rfl
  | x :: r, c, fs, out => by
    simp only [List.cons_append, numGo, firGo]
    split <;> exact numGo_app r c _ _
theorem firGo_nodup : ∀ (b fs : List Int), fs.Nodup → (firGo b fs).Nodup
  | [], _, h => h
  | x :: r, fs, h => by
    simp only [firGo]
    split
    · exact firGo_nodup r fs h
    · rename_i hx
      have := ixOf_none _ _ hx
      refine firGo_nodup r _ (List.nodup_append.2 ⟨h, by simp, ?_⟩)
      intro a ha b hb
      simp only [List.mem_singleton] at hb
      subst hb
      exact fun q => this (q ▸ ha)
theorem nmbV_len (b : List Int) : (nmbV b).length = b.length := by
  have : ∀ (b fs out : List Int), (numGo b fs out).length = out.length + b.length := by
    intro b
    induction b with
    | nil => intro fs out; simp [numGo]
    | cons x r ih =>
      intro fs out
      simp only [numGo]
      split <;> rw [ih] <;> simp <;> omega
  simpa [nmbV] using this b [] []
/-- Blocks that are numbered so. -/
structure Can (b : List Int) : Prop where
  le : ∀ (k : Nat) x, b[k]? = some x → 0 ≤ x ∧ x ≤ countV (b.take k)
theorem Can.pre {b : List Int} {x : Int} (h : Can (b ++ [x])) : Can b := ⟨fun k y hk => by
  have hl := (List.getElem?_eq_some_iff.1 hk).1
  have := h.le k y (by rw [List.getElem?_append_left hl]; exact hk)
  rwa [List.take_append_of_le_length (by omega)] at this⟩
theorem can_snoc {b : List Int} (h : Can b) {x : Int} (h0 : 0 ≤ x) (h1 : x ≤ countV b) : Can (b ++ [x]) := ⟨fun k y hk => by
  by_cases hl : k < b.length
  · rw [List.getElem?_append_left hl] at hk
    rw [List.take_append_of_le_length (by omega)]
    exact h.le k y hk
  · have hk' : k = b.length := by have := (List.getElem?_eq_some_iff.1 hk).1; simp at this; omega
    subst hk'
    simp at hk
    subst hk
    rw [List.take_append_of_le_length (by omega), List.take_length]
    exact ⟨h0, h1⟩⟩
theorem can_nil : Can [] := ⟨fun k x h => by simp at h⟩
theorem count_nonneg (b : List Int) : 0 ≤ countV b := by
  have : ∀ (b : List Int) (m : Int), 0 ≤ m → 0 ≤ b.foldl (fun n k => mx n (k + 1)) m := by
    intro b
    induction b with
    | nil => intro m h; exact h
    | cons x r ih => intro m h; exact ih _ (by show 0 ≤ mx m (x + 1); rw [mx_eq]; split <;> omega)
  exact this b 0 (by omega)
theorem Can.old {b : List Int} (h : Can b) : ∀ (k : Nat) (v : Int), k ≤ b.length → 0 ≤ v → v < countV (b.take k) → ∃ j, j < k ∧ b[j]? = some v
  | 0, v, _, h0, h1 => by simp [countV] at h1; omega
  | k + 1, v, hk, h0, h1 => by
    have hk' : b[k]? = some b[k] := List.getElem?_eq_getElem (by omega)
    rw [countV_take hk', mx_eq] at h1
    have hle := h.le k _ hk'
    by_cases hv : v < countV (b.take k)
    · obtain ⟨j, hj, hjv⟩ := h.old k v (by omega) h0 hv
      exact ⟨j, by omega, hjv⟩
    · refine ⟨k, by omega, ?_⟩
      rw [hk']
      split at h1
      · congr 1; omega
      · omega
theorem count_take_le (b : List Int) : ∀ (j k : Nat), j ≤ k → countV (b.take j) ≤ countV (b.take k) := by
  intro j k hjk
  induction k with
  | zero => rw [show j = 0 by omega]; exact Int.le_refl _
  | succ k ih =>
    by_cases hj : j ≤ k
    · refine Int.le_trans (ih hj) ?_
      cases hk : b[k]? with
      | none => rw [List.take_add_one, hk]; simp
      | some x => rw [countV_take hk, mx_eq]; split <;> omega
    · rw [show j = k + 1 by omega]; exact Int.le_refl _
theorem count_gt {b : List Int} {k : Nat} {x : Int} (h : b[k]? = some x) : x < countV b := by
  have h1 := countV_take h
  have h2 := count_take_le b (k + 1) (max b.length (k + 1)) (by omega)
  rw [List.take_of_length_le (l := b) (i := max b.length (k + 1)) (by omega), h1, mx_eq] at h2
  split at h2 <;> omega
theorem Can.count_le {b : List Int} (h : Can b) : countV b ≤ b.length := by
  have : ∀ k, k ≤ b.length → countV (b.take k) ≤ k := by
    intro k
    induction k with
    | zero => intro _; simp [countV]
    | succ k ih =>
      intro hk
      have hk' : b[k]? = some b[k] := List.getElem?_eq_getElem (by omega)
      have := h.le k _ hk'
      have := ih (by omega)
      rw [countV_take hk', mx_eq]
      split <;> omega
  have := this b.length (Nat.le_refl _)
  rwa [List.take_length] at this
/-- Blocks that are parted further are as many only if they are the same. -/
theorem can_same {b c : List Int} (hb : Can b) (hc : Can c) (hl : b.length = c.length) (hr : ∀ (i j : Nat) x, c[i]? = some x → c[j]? = some x → b[i]? = b[j]?) : countV b ≤ countV c ∧ (countV b = countV c → b = c) := by
  have key : ∀ k, k ≤ b.length → countV (b.take k) ≤ countV (c.take k) ∧ (countV (b.take k) = countV (c.take k) → b.take k = c.take k) := by
    intro k
    induction k with
    | zero => intro _; simp [countV]
    | succ k ih =>
      intro hk
      obtain ⟨ih1, ih2⟩ := ih (by omega)
      have hbk : b[k]? = some b[k] := List.getElem?_eq_getElem (by omega)
      have hck : c[k]? = some (c[k]'(by omega)) := List.getElem?_eq_getElem (by omega)
      have b1 := hb.le k _ hbk
      have c1 := hc.le k _ hck
      have hnew : countV (b.take k) ≤ b[k] → countV (c.take k) ≤ c[k]'(by omega) := by
        intro hn
        apply Int.le_of_not_gt
        intro hlt
        obtain ⟨j, hj, hjv⟩ := hc.old k _ (by omega) c1.1 hlt
        have e := hr j k _ hjv hck
        rw [hbk] at e
        have h1 := countV_take e
        have h2 := count_take_le b (j + 1) k (by omega)
        rw [h1, mx_eq] at h2
        split at h2 <;> omega
      rw [countV_take hbk, countV_take hck, mx_eq, mx_eq]
      refine ⟨by split <;> split <;> omega, fun he => ?_⟩
      have he2 : countV (b.take k) = countV (c.take k) := by split at he <;> split at he <;> omega
      have e := ih2 he2
      rw [List.take_add_one, List.take_add_one, hbk, hck, e]
      congr 2
      by_cases hn : countV (b.take k) ≤ b[k]
      · have := hnew hn; congr 1; omega
      · have hlt : c[k]'(by omega) < countV (c.take k) := by
          rw [if_neg (by omega)] at he
          split at he <;> omega
        obtain ⟨j, hj, hjv⟩ := hc.old k _ (by omega) c1.1 hlt
        have e1 := hr j k _ hjv hck
        have e2 : b[j]? = c[j]? := by
          have := congrArg (fun l => l[j]?) e
          simpa [List.getElem?_take, hj] using this
        rw [hbk, e2, hjv] at e1
        exact e1.symm
  have := key b.length (Nat.le_refl _)
  rw [List.take_length, hl, List.take_length] at this
  exact this
/-- What 'nmbV' comes to. -/
structure NumOk (b fs out : List Int) : Prop where
  len : out.length = b.length
  can : Can out
  cnt : countV out = fs.length
  nodup : fs.Nodup
  at_ : ∀ (k : Nat) x, out[k]? = some x → 0 ≤ x ∧ fs[x.toNat]? = b[k]?
theorem num_ok (b : List Int) : NumOk b (firGo b []) (numGo b [] []) := by
  have key : ∀ k, k ≤ b.length → NumOk (b.take k) (firGo (b.take k) []) (numGo (b.take k) [] []) := by
    intro k
    induction k with
    | zero => intro _; exact ⟨rfl, can_nil, rfl, by simp [firGo], fun k x h => by simp [numGo] at h⟩
    | succ k ih =>
      intro hk
      have h := ih (by omega)
      have hbk : b[k]? = some b[k] := List.getElem?_eq_getElem (by omega)
      rw [List.take_add_one, hbk, Option.toList_some, numGo_app, firGo_app]
      generalize numGo (b.take k) [] [] = out at h
      generalize firGo (b.take k) [] = fs at h
      have hlen : out.length = k := by rw [h.len, List.length_take]; omega
      simp only [numGo, firGo]
      split
      · rename_i i hi
        obtain ⟨_, h2⟩ := ixOf_some _ _ _ hi
        simp only [Nat.sub_zero] at h2
        have hil := (List.getElem?_eq_some_iff.1 h2).1
        refine ⟨by simp [hlen]; omega, can_snoc h.can (by omega) (by rw [h.cnt]; omega), ?_, h.nodup, fun j x hj => ?_⟩
        · rw [countV_app, h.cnt, mx_eq, if_neg (by omega)]
        · by_cases hjl : j < out.length
          · rw [List.getElem?_append_left hjl] at hj
            have := h.at_ j x hj
            rw [List.getElem?_append_left (by rw [List.length_take]; omega)]
            exact this
          · have hj' : j = out.length := by have := (List.getElem?_eq_some_iff.1 hj).1; simp at this; omega
            subst hj'
            simp at hj
            subst hj
            rw [Int.toNat_natCast, h2, List.getElem?_append_right (by rw [h.len]; exact Nat.le_refl _), h.len]
            simp
      · rename_i hi
        have hx := ixOf_none _ _ hi
        refine ⟨by simp [hlen]; omega, can_snoc h.can (by omega) (by rw [h.cnt]; omega), ?_, ?_, fun j x hj => ?_⟩
        · rw [countV_app, h.cnt, mx_eq, if_pos (by omega)]; simp
        · refine List.nodup_append.2 ⟨h.nodup, by simp, ?_⟩
          intro a ha b hb
          simp only [List.mem_singleton] at hb
          subst hb
          exact fun q => hx (q ▸ ha)
        · by_cases hjl : j < out.length
          · rw [List.getElem?_append_left hjl] at hj
            have h3 := h.at_ j x hj
            have : (b.take k)[j]? = some ((b.take k)[j]'(by rw [List.length_take]; omega)) := List.getElem?_eq_getElem (by rw [List.length_take]; omega)
            have hxl : x.toNat < fs.length := by have := h3.2; rw [‹(b.take k)[j]? = _›] at this; exact (List.getElem?_eq_some_iff.1 this).1
            rw [List.getElem?_append_left (l₁ := b.take k) (by rw [List.length_take]; omega), List.getElem?_append_left (l₁ := fs) hxl]
            exact h3
          · have hj' : j = out.length := by have := (List.getElem?_eq_some_iff.1 hj).1; simp at this; omega
            subst hj'
            simp at hj
            subst hj
            refine ⟨by omega, ?_⟩
            rw [Int.toNat_natCast, List.getElem?_append_right (Nat.le_refl _), List.getElem?_append_right (by rw [h.len]; exact Nat.le_refl _), h.len]
            simp
  have := key b.length (Nat.le_refl _)
  rwa [List.take_length] at this
theorem nmbV_can (b : List Int) : Can (nmbV b) := (num_ok b).can
/-- Two numbers are renamed alike just if they are the same. -/
theorem nmbV_iff {b : List Int} {i j : Nat} {x y : Int} (hi : (nmbV b)[i]? = some x) (hj : (nmbV b)[j]? = some y) : x = y ↔ b[i]? = b[j]? := by
  have h := num_ok b
  have h1 := h.at_ i x hi
  have h2 := h.at_ j y hj
  constructor
  · rintro rfl; rw [← h1.2, ← h2.2]
  · intro e
    rw [← h1.2, ← h2.2] at e
    have hil : i < b.length := by rw [← h.len]; exact (List.getElem?_eq_some_iff.1 hi).1
    have hx : x.toNat < (firGo b []).length := by
      have := h1.2; rw [List.getElem?_eq_getElem hil] at this; exact (List.getElem?_eq_some_iff.1 this).1
    have hy : y.toNat < (firGo b []).length := by
      rw [List.getElem?_eq_getElem hx] at e
      exact (List.getElem?_eq_some_iff.1 e.symm).1
    rw [List.getElem?_eq_getElem hx, List.getElem?_eq_getElem hy] at e
    have := (List.getElem_inj h.nodup).1 (Option.some.inj e)
    omega
/-- Lists of which the same are the same are numbered alike. -/
theorem nmbV_congr {b c : List Int} (hl : b.length = c.length) (h : ∀ i j : Nat, i < b.length → j < b.length → (b[i]? = b[j]? ↔ c[i]? = c[j]?)) : nmbV b = nmbV c := by
  have hb := nmbV_len b
  have hc := nmbV_len c
  have e : ∀ {i j : Nat} {x : Int}, (nmbV c)[i]? = some x → (nmbV c)[j]? = some x → (nmbV b)[i]? = (nmbV b)[j]? := by
    intro i j x h1 h2
    have hi : i < b.length := by have := (List.getElem?_eq_some_iff.1 h1).1; omega
    have hj : j < b.length := by have := (List.getElem?_eq_some_iff.1 h2).1; omega
    have := (h i j hi hj).2 ((nmbV_iff h1 h2).1 rfl)
    have e1 : (nmbV b)[i]? = some ((nmbV b)[i]'(by omega)) := List.getElem?_eq_getElem (by omega)
    have e2 : (nmbV b)[j]? = some ((nmbV b)[j]'(by omega)) := List.getElem?_eq_getElem (by omega)
    rw [e1, e2, (nmbV_iff e1 e2).2 this]
  have e' : ∀ {i j : Nat} {x : Int}, (nmbV b)[i]? = some x → (nmbV b)[j]? = some x → (nmbV c)[i]? = (nmbV c)[j]? := by
    intro i j x h1 h2
    have hi : i < b.length := by have := (List.getElem?_eq_some_iff.1 h1).1; omega
    have hj : j < b.length := by have := (List.getElem?_eq_some_iff.1 h2).1; omega
    have := (h i j hi hj).1 ((nmbV_iff h1 h2).1 rfl)
    have e1 : (nmbV c)[i]? = some ((nmbV c)[i]'(by omega)) := List.getElem?_eq_getElem (by omega)
    have e2 : (nmbV c)[j]? = some ((nmbV c)[j]'(by omega)) := List.getElem?_eq_getElem (by omega)
    rw [e1, e2, (nmbV_iff e1 e2).2 this]
  obtain ⟨a1, a2⟩ := can_same (nmbV_can b) (nmbV_can c) (by omega) (fun i j x h1 h2 => e h1 h2)
  obtain ⟨b1, _⟩ := can_same (nmbV_can c) (nmbV_can b) (by omega) (fun i j x h1 h2 => e' h1 h2)
  exact a2 (by omega)
theorem can_num {b : List Int} (h : Can b) : nmbV b = b := by
  have hl := nmbV_len b
  have e1 := can_same (nmbV_can b) h (by omega) (fun i j x hi hj => by
    have hil := (List.getElem?_eq_some_iff.1 hi).1
    have hjl := (List.getElem?_eq_some_iff.1 hj).1
    have q1 : (nmbV b)[i]? = some ((nmbV b)[i]'(by omega)) := List.getElem?_eq_getElem (by omega)
    have q2 : (nmbV b)[j]? = some ((nmbV b)[j]'(by omega)) := List.getElem?_eq_getElem (by omega)
    rw [q1, q2, (nmbV_iff q1 q2).2 (by rw [hi, hj])])
  have e2 := can_same h (nmbV_can b) (by omega) (fun i j x hi hj => (nmbV_iff hi hj).1 rfl)
  exact e1.2 (by omega)
end Mq
