/- What layers 5, 10, 11, 12 and 15 do, in plain words. Part of a verified reader of code, common to this project's claims. -/
import Derived.Test.YtipekfhpcjcabaaDoorMqNet
set_option linter.unusedVariables false
set_option linter.unusedSimpArgs false
namespace Mq
open Go
set_option linter.unusedVariables false
set_option linter.unusedSimpArgs false
/-! layer 5: prefix -/
def mn (a b : Int) : Int := if b < a then b else a
def mx (a b : Int) : Int := if b > a then b else a
def maskV (bits : Int) : Int := if bits ≤ 0 then 0 else IntKind.u32.wrap (4294967295 * 2 ^ (min (IntKind.i64.wrap (32 - mn bits 32)).toNat IntKind.u32.bits))
def pMay (addr bits : Int) : Bool := decide (0 ≤ bits) && decide (bits ≤ 32) && (bitV .andNot .u32 addr (maskV bits) == 0)
def covers (a b a' b' : Int) : Bool := pMay a b && pMay a' b' && decide (b ≤ b') && (bitV .and .u32 a' (maskV b) == a)
theorem mask_ok {bits : Int} (h : ¬ bits ≤ 0) : 0 ≤ IntKind.i64.wrap (32 - mn bits 32) := by
  have : 0 < mn bits 32 ∧ mn bits 32 ≤ 32 := by unfold mn; split <;> omega
  rw [wrapI64 _ (by omega) (by omega)]
  omega
/-! layer 11: clause -/
def matchesV (c : Clause) (addr bits tags : Int) : Bool := (c.any || covers c.addr c.bits addr bits) && (bitV .and .u8 tags c.wit == c.wit) && (bitV .and .u8 tags c.out == 0)
def clauseV (c : Clause) (a : Attr) : Attr :=
  ⟨a.ok, if 0 < c.pref ∧ c.pref ≤ 255 then c.pref else a.pref, IntKind.i64.wrap (a.cost + mx 0 (mn c.more 15)), bitV .and .u8 (bitV .andNot .u8 (bitV .or .u8 a.tags c.set) c.clear) 15⟩
def doGo (addr bits : Int) (a : Attr) : List Clause → Attr
  | [] => a
  | c :: r => if matchesV c addr bits a.tags then (if c.drop then attr0 else clauseV c a) else doGo addr bits a r
def doV (cs : List Clause) (addr bits : Int) (a : Attr) : Attr := if a.ok then doGo addr bits a cs else attr0
/-! layer 12: edge -/
def takeV (e : Arc) (a : Attr) : Attr :=
  if (doV e.exp 0 0 a).ok then doV e.imp 0 0 ⟨(doV e.exp 0 0 a).ok, 100, IntKind.i64.wrap ((doV e.exp 0 0 a).cost + mx 1 (mn e.cost 1000)), (doV e.exp 0 0 a).tags⟩ else attr0
/-! layer 10: attr -/
def better (a b : Attr) : Bool := if !a.ok || !b.ok then a.ok && !b.ok else if a.pref ≠ b.pref then decide (b.pref < a.pref) else if a.cost ≠ b.cost then decide (a.cost < b.cost) else decide (a.tags < b.tags)
def sameA (a b : Attr) : Bool := (!a.ok && !b.ok) || (a.ok == b.ok && (a.pref == b.pref && (a.cost == b.cost && a.tags == b.tags)))
def origA : Attr := ⟨true, 100, 0, 0⟩
def bestGo (b : Attr) : List Attr → Attr
  | [] => b
  | a :: r => bestGo (if better a b then a else b) r
def bestV (l : List Attr) : Attr := bestGo attr0 l
/-! layer 15: stable -/
def offerV (l : List Attr) (e : Arc) : Attr := if 0 ≤ e.src ∧ e.src < l.length then takeV e (l.getD e.src.toNat default) else attr0
def Net.offers (n : Net) (l : List Attr) (k : Int) : List Attr := if k < 0 ∨ n.edges.length ≤ k then [] else (n.edges.getD k.toNat []).map (offerV l)
def Net.fixed (n : Net) (k : Int) : Bool := decide (0 ≤ k) && decide (k < n.origin.length) && (n.origin.getD k.toNat false || (decide (k < n.static.length) && decide (0 ≤ n.static.getD k.toNat 0)))
def Net.choice (n : Net) (l : List Attr) (k : Int) : Attr := if n.fixed k then origA else bestV (n.offers l k)
def isGo (n : Net) (l : List Attr) : List Attr → Int → Bool
  | [], _ => true
  | a :: r, k => if sameA a (n.choice l k) then isGo n l r (k + 1) else false
def Net.isV (n : Net) (l : List Attr) : Bool := if l.length ≠ n.origin.length then false else isGo n l l 0
theorem sameA_refl (a : Attr) : sameA a a = true := by simp [sameA]
theorem offer_row {l : List Attr} {e : Arc} (hc : (if decide (0 ≤ e.src) = true then decide (e.src < l.length) else false) = true) :
    (l.map Attr.row).getD e.src.toNat [] = (l.getD e.src.toNat default).row ∧ 0 ≤ e.src ∧ e.src < l.length ∧ offerV l e = takeV e (l.getD e.src.toNat default) := by
  have h : 0 ≤ e.src ∧ e.src < l.length := by simpa using hc
  exact ⟨at_int Attr.row l default h.1 h.2, h.1, h.2, by rw [offerV, if_pos h]⟩
theorem offer_none {l : List Attr} {e : Arc} (hc : (if decide (0 ≤ e.src) = true then decide (e.src < l.length) else false) = false) : offerV l e = attr0 := by
  have h : ¬ (0 ≤ e.src ∧ e.src < l.length) := by simpa using hc
  rw [offerV, if_neg h]

/-! sizes -/
structure Net.small (n : Net) : Prop where
  origin : n.origin.length ≤ 1048576
  static : n.static.length ≤ 1048576
  edges : n.edges.length ≤ 1048576
  row : ∀ es ∈ n.edges, es.length ≤ 1048576
  exp : ∀ es ∈ n.edges, ∀ e ∈ es, e.exp.length ≤ 1048576
  imp : ∀ es ∈ n.edges, ∀ e ∈ es, e.imp.length ≤ 1048576
theorem Net.small.ok {n : Net} (h : n.small) : n.ok := by
  have hm : maxLen = 9223372036854775807 := rfl
  exact ⟨by have := h.origin; omega, by have := h.static; omega, by have := h.edges; omega, fun es he => by have := h.row es he; omega, fun es he e hm => ⟨by have := h.exp es he e hm; omega, by have := h.imp es he e hm; omega⟩⟩
theorem szLL_mem {x : List D} : ∀ {l : List (List D)}, x ∈ l → szDs x ≤ szLL l
  | y :: r, h => by
    rcases List.mem_cons.1 h with rfl | h
    · simp [szLL]
    · have := szLL_mem h; simp [szLL]; omega
theorem szLL_map {α : Type} (f : α → List D) (hf : ∀ a, 1 ≤ (f a).length) (l : List α) : l.length ≤ szLL (l.map f) := by
  have := szLL_len (l.map f) (fun x hx => by obtain ⟨a, _, rfl⟩ := List.mem_map.1 hx; exact hf a)
  simpa using this
theorem Net.small_of {n : Net} (h : szAV n.av ≤ 1048576) : n.small := by
  simp only [szAV, szAV.szA, szD] at h
  have h1 := szLL_map bD (fun _ => Nat.le_refl _) n.origin
  have h2 := szLL_map iD (fun _ => Nat.le_refl _) n.static
  have h3 := szLL_map esD (fun _ => Nat.le_refl _) n.edges
  have hes : ∀ es ∈ n.edges, szLL (es.map Arc.row) + 1 ≤ 1048576 := by
    intro es he
    have := szLL_mem (List.mem_map_of_mem (f := esD) he)
    simp only [szDs, szD] at this
    omega
  have he : ∀ es ∈ n.edges, ∀ e ∈ es, szLL (e.exp.map Clause.row) + szLL (e.imp.map Clause.row) ≤ 1048576 := by
    intro es h4 e h5
    have := szLL_mem (List.mem_map_of_mem (f := Arc.row) h5)
    have h6 := hes es h4
    simp only [szDs, szD] at this
    omega
  have hc : ∀ c : Clause, 1 ≤ c.row.length := fun c => by simp
  refine ⟨by omega, by omega, by omega, fun es h4 => ?_, fun es h4 e h5 => ?_, fun es h4 e h5 => ?_⟩
  · have := szLL_map Arc.row (fun e => by simp) es
    have := hes es h4
    omega
  · have := szLL_map Clause.row hc e.exp
    have := he es h4 e h5
    omega
  · have := szLL_map Clause.row hc e.imp
    have := he es h4 e h5
    omega
theorem Net.offers_len {n : Net} (h : n.small) (l : List Attr) (k : Int) : (n.offers l k).length ≤ 1048576 := by
  unfold Net.offers
  split
  · simp
  · rename_i hk
    have : 0 ≤ k ∧ k < n.edges.length := by omega
    rw [List.length_map]
    exact h.row _ (List.mem_of_getElem? (getD_mem n.edges [] this.1 this.2))
theorem fix_rng {k : Int} {m : Nat} (hc : (if decide (k < 0) = true then true else decide ((m : Int) ≤ k)) = false) : 0 ≤ k ∧ k < m := by simp at hc; omega
theorem fix_out {k : Int} {m : Nat} (hc : (if decide (k < 0) = true then true else decide ((m : Int) ≤ k)) = true) : k < 0 ∨ (m : Int) ≤ k := by
  by_cases h : k < 0
  · exact .inl h
  · simp [h] at hc; exact .inr hc
theorem law_lt {b : Bool} {i m : Nat} (hc : (if b = true then decide ((i : Int) < m) else false) = true) : b = true ∧ i < m := by cases b <;> simp_all
end Mq
