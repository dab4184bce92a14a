/- Lists without repeats; how many nodes an arena of four variables has at most. Part of a verified reader of code, common to this project's claims. -/
import Derived.Test.YtipekfhpcjcabaaDoorMqPl12
set_option linter.unusedVariables false
set_option linter.unusedSimpArgs false
namespace Mq
open Go
set_option linter.unusedVariables false
set_option linter.unusedSimpArgs false
/-! Lists without repeats. -/
theorem nodup_le {α : Type} [DecidableEq α] : ∀ {s t : List α}, s.Nodup → (∀ x ∈ s, x ∈ t) → s.length ≤ t.length
  | [], _, _, _ => Nat.zero_le _
  | x :: s, t, hn, hs => by
    rw [List.nodup_cons] at hn
    have h := nodup_le (s := s) (t := t.erase x) hn.2 (fun y hy => by
      have hne : y ≠ x := fun q => hn.1 (q ▸ hy)
      exact (List.mem_erase_of_ne hne).2 (hs y (by simp [hy])))
    have hx := hs x (by simp)
    have := List.length_erase_of_mem hx
    have : 0 < t.length := List.length_pos_of_mem hx
    simp only [List.length_cons]
    omega
theorem nodup_sub {α : Type} [DecidableEq α] {s t : List α} (hs : s.Nodup) (hst : ∀ x ∈ s, x ∈ t) (hl : t.length ≤ s.length) : ∀ x ∈ t, x ∈ s := by
  intro x hx
  apply Classical.byContradiction
  intro hn
  have := nodup_le (s := s) (t := t.erase x) hs (fun y hy => (List.mem_erase_of_ne (fun q => by subst q; exact hn hy)).2 (hst y hy))
  have h1 := List.length_erase_of_mem hx
  have : 0 < t.length := List.length_pos_of_mem hx
  omega
/-- Sums of bits. -/
def bitsN : List Bool → Nat
  | [] => 0
  | b :: r => (if b then 1 else 0) + 2 * bitsN r
theorem bitsN_lt : ∀ l : List Bool, bitsN l < 2 ^ l.length
  | [] => by simp [bitsN]
  | b :: r => by
    have := bitsN_lt r
    simp only [bitsN, List.length_cons, Nat.pow_succ]
    cases b <;> simp <;> omega
theorem bitsN_inj : ∀ {a b : List Bool}, a.length = b.length → bitsN a = bitsN b → a = b
  | [], [], _, _ => rfl
  | x :: a, y :: b, hl, h => by
    simp only [bitsN] at h
    have : x = y ∧ bitsN a = bitsN b := by cases x <;> cases y <;> simp at h ⊢ <;> omega
    rw [this.1, bitsN_inj (by simpa using hl) this.2]
  | [], _ :: _, hl, _ => by simp at hl
  | _ :: _, [], hl, _ => by simp at hl
/-- An arena of four variables has no more nodes than there are tables. -/
theorem ArOk.few {ns : List Nd} (h : ArOk ns) : ns.length ≤ 65536 := by
  let code : Nat → Nat := fun i => bitsN (tab ns 4 0 (i : Int))
  have hn : ((List.range ns.length).map code).Nodup := by
    rw [List.Nodup, List.pairwise_map]
    refine List.Pairwise.imp_of_mem (fun {i j} hi hj hij => ?_) (List.nodup_range (n := ns.length))
    intro q
    have hi := List.mem_range.1 hi
    have hj := List.mem_range.1 hj
    have e := bitsN_inj (by rw [tab_len, tab_len]) q
    have := tab_uniq h 4 0 (i : Int) (j : Int) (by decide) (by decide) (by omega) (by omega) (by omega) (by omega) (h.ge (by omega) (by omega)) (h.ge (by omega) (by omega)) e
    omega
  have := nodup_le (t := List.range 65536) hn (fun x hx => by
    obtain ⟨i, _, rfl⟩ := List.mem_map.1 hx
    rw [List.mem_range]
    have := bitsN_lt (tab ns 4 0 (i : Int))
    rw [tab_len] at this
    exact this)
  simpa using this
end Mq
