/- What layer 13 makes of a configuration, and that it is a network. Part of a verified reader of code, common to this project's claims. -/
import Derived.Test.YtipekfhpcjcabaaDoorMqPl5
set_option linter.unusedVariables false
set_option linter.unusedSimpArgs false
namespace Mq
set_option linter.unusedVariables false
set_option linter.unusedSimpArgs false
open Go
set_option linter.unusedVariables false
set_option linter.unusedSimpArgs false
/-! names' places, as a map tells them -/
def atM (n : Nat) : ML := (List.range n).map fun k => ([.string (rname k)], [.v (.int .i64 k)])
def beqS (a b : ByteArray) : Bool := a.toList == b.toList
theorem eqS (a b : ByteArray) : eqLs [.s] [.string a] [.string b] = some (beqS a b) := by simp [eqLs, beqS]
theorem beqS_rname : ∀ i, i < 8 → ∀ j, j < 8 → beqS (rname i) (rname j) = decide (i = j) := by decide +kernel
theorem beqS_nil : ∀ i, i < 8 → beqS ⟨#[]⟩ (rname i) = false := by decide +kernel
def putS (a : ByteArray) (v : List D) (l : List (ByteArray × List D)) : ML := mput [.s] [.string a] v (l.map fun p => ([.string p.1], p.2))
theorem mcmp_s (a : ByteArray) : ∀ (l : List (ByteArray × List D)), mcmp [.s] [.string a] (l.map fun p => ([.string p.1], p.2)) = true
  | [] => rfl
  | p :: l => by
    have := mcmp_s a l
    simp only [List.map_cons, mcmp, eqS]
    cases beqS a p.1 <;> simp [this]
theorem mget_s (a : ByteArray) : ∀ (l : List (ByteArray × List D)), mget [.s] [.string a] (l.map fun p => ([.string p.1], p.2)) = (l.find? fun p => beqS a p.1).map (·.2)
  | [] => rfl
  | p :: l => by
    have := mget_s a l
    simp only [List.map_cons, mget, eqS, List.find?_cons]
    cases h : beqS a p.1
    · simp [this]
    · simp
theorem mput_s (a : ByteArray) (v : List D) : ∀ (l : List (ByteArray × List D)), (∀ p ∈ l, beqS a p.1 = false) → mput [.s] [.string a] v (l.map fun p => ([.string p.1], p.2)) = (l ++ [(a, v)]).map fun p => ([.string p.1], p.2)
  | [], _ => rfl
  | p :: l, h => by
    have := mput_s a v l (fun q hq => h q (List.mem_cons_of_mem _ hq))
    have h2 : beqS a p.1 = false := h p (by simp)
    simp only [List.map_cons, mput, eqS, List.cons_append]
    simp [h2, this]
def atL (n : Nat) : List (ByteArray × List D) := (List.range n).map fun k => (rname k, [.v (.int .i64 k)])
theorem atM_L (n : Nat) : atM n = (atL n).map fun p => ([.string p.1], p.2) := by simp [atM, atL]
theorem mcmp_at (n : Nat) (a : ByteArray) : mcmp [.s] [.string a] (atM n) = true := by rw [atM_L]; exact mcmp_s a _
theorem mput_at {n : Nat} (h : n < 8) : mput [.s] [.string (rname n)] [.v (.int .i64 n)] (atM n) = atM (n + 1) := by
  rw [atM_L, mput_s, atM_L]
  · simp [atL, List.range_succ]
  · intro p hp
    simp only [atL, List.mem_map, List.mem_range] at hp
    obtain ⟨k, hk, rfl⟩ := hp
    rw [beqS_rname n h k (by omega), decide_eq_false_iff_not]
    omega
theorem findAt {n j : Nat} (hn : n ≤ 8) (hj : j < n) : (atL n).find? (fun p => beqS (rname j) p.1) = some (rname j, [.v (.int .i64 j)]) := by
  induction n with
  | zero => omega
  | succ n ih =>
    have h1 : atL (n + 1) = atL n ++ [(rname n, [.v (.int .i64 n)])] := by simp [atL, List.range_succ]
    rw [h1, List.find?_append]
    by_cases h : j < n
    · rw [ih (by omega) h]; rfl
    · have : j = n := by omega
      subst this
      have h2 : (atL j).find? (fun p => beqS (rname j) p.1) = none := by
        rw [List.find?_eq_none]
        intro p hp
        simp only [atL, List.mem_map, List.mem_range] at hp
        obtain ⟨k, hk, rfl⟩ := hp
        rw [beqS_rname j (by omega) k (by omega)]
        simp; omega
      rw [h2]
      simp [beqS_rname j (by omega) j (by omega)]
theorem mget_at {n j : Nat} (hn : n ≤ 8) (hj : j < n) : mget [.s] [.string (rname j)] (atM n) = some [.v (.int .i64 j)] := by rw [atM_L, mget_s, findAt hn hj]; rfl
theorem mget_no {n : Nat} (hn : n ≤ 8) : mget [.s] [.string ⟨#[]⟩] (atM n) = none := by
  rw [atM_L, mget_s, List.find?_eq_none.2]
  · rfl
  · intro p hp
    simp only [atL, List.mem_map, List.mem_range] at hp
    obtain ⟨k, hk, rfl⟩ := hp
    rw [beqS_nil k (by omega)]
    decide
theorem mget_o {n : Nat} (hn : n ≤ 8) (v : Option Nat) (hv : ∀ k, v = some k → k < n) : mget [.s] [.string (oname v)] (atM n) = v.map fun k => [.v (.int .i64 k)] := by
  cases v with
  | none => exact mget_no hn
  | some k => exact mget_at hn (hv k rfl)

/-! layer 13: Classes -/
def pless (x y : Int × Int) : Bool := decide (x.1 < y.1) || (decide (x.1 = y.1) && decide (x.2 < y.2))
def sortP (l : List (Int × Int)) : List (Int × Int) := l.mergeSort fun x y => !pless y x
theorem sortP_len (l : List (Int × Int)) : (sortP l).length = l.length := List.length_mergeSort l
theorem sortP_nil : sortP [] = [] := by simp [sortP]

def collR : List (Int × Int) → List (Int × Int) → List (Int × Int)
  | [], out => out
  | p :: r, out => collR r (if out.elem p then out else out ++ [p])
def collGo : List Ro → List (Int × Int) → List (Int × Int)
  | [], out => out
  | r :: rs, out => collGo rs (collR r.nets out)
def Conf.cls (c : Conf) : List (Int × Int) := sortP (collGo c.ros [])
theorem collR_len : ∀ (l out : List (Int × Int)), out.length ≤ (collR l out).length ∧ (collR l out).length ≤ out.length + l.length
  | [], out => by simp [collR]
  | p :: l, out => by
    have h := collR_len l (if out.elem p then out else out ++ [p])
    simp only [collR]
    split at h <;> simp_all <;> omega

/-! What is known of a configuration that a shape makes. -/
structure Conf.good (c : Conf) : Prop where
  n : c.ros.length ≤ 7
  k : ∀ (k : Nat) (r : Ro), c.ros[k]? = some r → r.k = k
  nets : ∀ r ∈ c.ros, r.nets.length ≤ 1
  links : ∀ r ∈ c.ros, r.links.length ≤ 7
  sts : ∀ r ∈ c.ros, r.sts.length ≤ 1
  peer : ∀ r ∈ c.ros, ∀ l ∈ r.links, l.peer < c.ros.length
  via : ∀ r ∈ c.ros, ∀ w ∈ r.sts, w.via < c.ros.length
  back : ∀ r ∈ c.ros, ∀ l ∈ r.links, ∃ m, peerV (c.ros.getD l.peer default).links r.k = some m
  maps : c.maps.length ≤ 4
  cls : ∀ m ∈ c.maps, m.cls.length ≤ 5
theorem statGo_via {a b : Int} {n : Nat} : ∀ (l : List Way) (x : Option Nat × Int), (∀ w ∈ l, w.via < n) → (∀ k, x.1 = some k → k < n) → ∀ k, (statGo a b l x).1 = some k → k < n
  | [], x, _, hx => hx
  | w :: l, x, hw, hx => by
    simp only [statGo]
    refine statGo_via l _ (fun v hv => hw v (List.mem_cons_of_mem _ hv)) ?_
    split
    · intro k hk
      simp at hk
      have := hw w (by simp)
      omega
    · exact hx
theorem statGo_bits {a b : Int} : ∀ (l : List Way) (x : Option Nat × Int), (x.1 = none → x.2 = -1) → (x.1 ≠ none → 0 ≤ x.2) → -1 ≤ x.2 → ((statGo a b l x).1 = none → (statGo a b l x).2 = -1) ∧ ((statGo a b l x).1 ≠ none → 0 ≤ (statGo a b l x).2)
  | [], x, h1, h2, _ => ⟨h1, h2⟩
  | w :: l, x, h1, h2, h3 => by
    simp only [statGo]
    split
    · rename_i hc
      simp at hc
      exact statGo_bits l _ (by simp) (by simp; omega) (by simp; omega)
    · exact statGo_bits l _ h1 h2 h3
end Mq
namespace Mq
set_option linter.unusedVariables false
set_option linter.unusedSimpArgs false
open Go
theorem take_map_succ {α β : Type} (f : α → β) {l : List α} {k : Nat} {x : α} (h : l[k]? = some x) : (l.map f).take (k + 1) = (l.map f).take k ++ [f x] := by
  have hk : k < l.length := (List.getElem?_eq_some_iff.1 h).1
  rw [List.take_add_one, List.getElem?_map, h]
  rfl
theorem net_take {c : Conf} {k : Nat} {r : Ro} (h : c.ros[k]? = some r) (hk : r.k = k) (a b : Int) : (c.net a b).origin.take (k + 1) = (c.net a b).origin.take k ++ [r.nets.elem (a, b)] ∧ (c.net a b).static.take (k + 1) = (c.net a b).static.take k ++ [viaV r a b] ∧
    (c.net a b).edges.take (k + 1) = (c.net a b).edges.take k ++ [r.links.map (c.arc a b k)] := by
  refine ⟨take_map_succ _ h, take_map_succ _ h, ?_⟩
  have := take_map_succ (fun r => r.links.map (c.arc a b r.k)) h
  rw [hk] at this
  exact this
theorem via_of {n : Nat} (hn : n ≤ 7) {r : Ro} {a b : Int} (hv : ∀ w ∈ r.sts, w.via < n) : ∀ k, (statGo a b r.sts (none, -1)).1 = some k → k < n := statGo_via r.sts _ hv (by simp)
theorem viaV_eq {r : Ro} {a b : Int} : (if decide (0 ≤ (statGo a b r.sts (none, -1)).2) = true then ((statGo a b r.sts (none, -1)).1.map fun k => [D.v (.int .i64 (k : Nat))]).isSome else false) = (statGo a b r.sts (none, -1)).1.isSome := by
  have h := statGo_bits (a := a) (b := b) r.sts (none, -1) (by simp) (by simp) (by simp)
  cases hs : (statGo a b r.sts (none, -1)).1 with
  | none => simp
  | some k => have := h.2 (by simp [hs]); simp [this]
end Mq
namespace Mq
set_option linter.unusedVariables false
set_option linter.unusedSimpArgs false
open Go
theorem net_len {c : Conf} {k : Nat} (h : k ≤ c.ros.length) (a b : Int) : ((c.net a b).origin.take k).length = k ∧ ((c.net a b).static.take k).length = k ∧ ((c.net a b).edges.take k).length = k := by
  refine ⟨?_, ?_, ?_⟩ <;> simp [Conf.net] <;> omega
end Mq
namespace Mq
set_option linter.unusedVariables false
set_option linter.unusedSimpArgs false
open Go
theorem via_yes {r : Ro} {a b : Int} (hc : (if decide (0 ≤ (statGo a b r.sts (none, -1)).2) = true then ((statGo a b r.sts (none, -1)).1.map fun k => [D.v (.int .i64 (k : Nat))]).isSome else false) = true) :
    (((statGo a b r.sts (none, -1)).1.map fun k => [D.v (.int .i64 (k : Nat))]).getD [D.v (.int .i64 0)]).headD (.v undef) = .v (.int .i64 (viaV r a b)) := by
  rw [viaV_eq] at hc
  unfold viaV
  cases h : (statGo a b r.sts (none, -1)).1 with
  | none => rw [h] at hc; cases hc
  | some k => rfl
theorem via_no {r : Ro} {a b : Int} (hc : (if decide (0 ≤ (statGo a b r.sts (none, -1)).2) = true then ((statGo a b r.sts (none, -1)).1.map fun k => [D.v (.int .i64 (k : Nat))]).isSome else false) = false) : viaV r a b = -1 := by
  rw [viaV_eq] at hc
  unfold viaV
  cases h : (statGo a b r.sts (none, -1)).1 with
  | none => rfl
  | some k => rw [h] at hc; cases hc
end Mq
