/- What the statements of layers 15 and 16 make of their numbers. Part of a verified reader of code, common to this project's claims. -/
import Derived.Test.YtipekfhpcjcabaaDoorMqPl7
import Derived.Test.YtipekfhpcjcabaaDoorMqOwn
set_option linter.unusedVariables false
set_option linter.unusedSimpArgs false
namespace Mq
open Go
set_option linter.unusedVariables false
set_option linter.unusedSimpArgs false
abbrev wD (n : Int) : List D := [.v (.int .u16 n)]
structure B16 (l : List Int) : Prop where
  len : l.length ≤ maxLen
  rng : ∀ x ∈ l, 0 ≤ x ∧ x ≤ 65535
def someAt (v : Int) : Attr := ⟨true, 100 + (v.tmod 4).tdiv 3, (v.tdiv 64).tmod 16, (v.tdiv 4).tmod 16⟩
def someA (ns : List Int) (k : Nat) : Attr := if k < ns.length ∧ 0 < (ns.getD k 0).tmod 4 then someAt (ns.getD k 0) else attr0
def someV (ns : List Int) (many : Nat) : List Attr := (List.range many).map (someA ns)
def someG (ns : List Int) (many i : Nat) : List Attr := (List.range many).map fun j => if j < i then someA ns j else attr0
theorem someV_len (ns : List Int) (many : Nat) : (someV ns many).length = many := by simp [someV]
theorem someG_len (ns : List Int) (many i : Nat) : (someG ns many i).length = many := by simp [someG]
theorem someG_zero (ns : List Int) (many : Nat) : List.replicate (Int.toNat (many : Int)) attr0.row = (someG ns many 0).map Attr.row := by
  apply List.ext_getElem?
  intro k
  simp only [someG, List.getElem?_map, Int.toNat_natCast, List.getElem?_replicate]
  by_cases h : k < many <;> simp [h]
theorem someG_end (ns : List Int) (many : Nat) : someG ns many many = someV ns many := by
  unfold someG someV
  refine List.map_congr_left fun k hk => ?_
  rw [if_pos (List.mem_range.1 hk)]
theorem someG_set {ns : List Int} {many i : Nat} (h : i < many) : (someG ns many i).set i (someA ns i) = someG ns many (i + 1) := by
  apply List.ext_getElem?
  intro k
  by_cases hk : k = i
  · subst hk
    simp [someG, h]
  · rw [List.getElem?_set_ne (Ne.symm hk)]
    simp only [someG, List.getElem?_map]
    have : (k < i + 1) = (k < i) := by apply propext; omega
    by_cases h2 : k < many <;> simp [h2, this]
theorem someG_no {ns : List Int} {many i : Nat} (h : someA ns i = attr0) : someG ns many i = someG ns many (i + 1) := by
  unfold someG
  refine List.map_congr_left fun k _ => ?_
  by_cases hk : k = i
  · subst hk; simp [h]
  · have : (k < i + 1) = (k < i) := by apply propext; omega
    simp only [this]
theorem num16 {v : Int} (h : 0 ≤ v ∧ v ≤ 65535) : IntKind.i64.wrap (v.tmod 4) = v.tmod 4 ∧ IntKind.i64.wrap ((v.tmod 4).tdiv 3) = (v.tmod 4).tdiv 3 ∧ IntKind.i64.wrap (100 + (v.tmod 4).tdiv 3) = 100 + (v.tmod 4).tdiv 3 ∧
    IntKind.u16.wrap (v.tdiv 64) = v.tdiv 64 ∧ IntKind.i64.wrap ((v.tdiv 64).tmod 16) = (v.tdiv 64).tmod 16 ∧ IntKind.u16.wrap (v.tdiv 4) = v.tdiv 4 ∧ IntKind.u8.wrap ((v.tdiv 4).tmod 16) = (v.tdiv 4).tmod 16 ∧
    (0 ≤ v.tmod 4 ∧ v.tmod 4 < 4) ∧ (0 ≤ (v.tdiv 64).tmod 16 ∧ (v.tdiv 64).tmod 16 < 16) ∧ (0 ≤ (v.tdiv 4).tmod 16 ∧ (v.tdiv 4).tmod 16 < 16) := by
  have a1 : v.tmod 4 = v % 4 := Int.tmod_eq_emod_of_nonneg h.1
  have a2 : v.tdiv 64 = v / 64 := Int.tdiv_eq_ediv_of_nonneg h.1
  have a3 : v.tdiv 4 = v / 4 := Int.tdiv_eq_ediv_of_nonneg h.1
  have a4 : (v % 4).tdiv 3 = (v % 4) / 3 := Int.tdiv_eq_ediv_of_nonneg (by omega)
  have a5 : (v / 64).tmod 16 = (v / 64) % 16 := Int.tmod_eq_emod_of_nonneg (by omega)
  have a6 : (v / 4).tmod 16 = (v / 4) % 16 := Int.tmod_eq_emod_of_nonneg (by omega)
  rw [a1, a2, a3, a4, a5, a6]
  have w16 : ∀ n : Int, 0 ≤ n → n ≤ 65535 → IntKind.u16.wrap n = n := fun n h1 h2 => by
    have h3 : IntKind.u16.wrap n = n % 65536 := by simp [IntKind.wrap, IntKind.bits, IntKind.signed]
    rw [h3]; omega
  refine ⟨wrapI64 _ (by omega) (by omega), wrapI64 _ (by omega) (by omega), wrapI64 _ (by omega) (by omega), w16 _ (by omega) (by omega), wrapI64 _ (by omega) (by omega), w16 _ (by omega) (by omega), wrapU8 _ (by omega) (by omega), by omega, by omega, by omega⟩
/-! routes one by one -/
def sameGo : List Attr → List Attr → Bool
  | a :: r, b :: s => sameA a b && sameGo r s
  | _, _ => true
def sameL (a b : List Attr) : Bool := if a.length ≠ b.length then false else sameGo a b
/-! layer 16's shapes -/
def Rule.plain (r : Rule) : Rule := { r with pref := 0 }
def Shape.plain (s : Shape) : Shape := { s with maps := s.maps.map (·.map Rule.plain) }
def Shape.bare (s : Shape) : Shape := { s with maps := [] }
theorem Shape.ok.plain {s : Shape} (h : s.ok) : s.plain.ok := by
  refine ⟨h.routers, h.links, h.names, h.nets, h.ways, by simpa [Shape.plain] using h.maps, fun rs hr => ?_, fun rs hr r hm => ?_⟩
  · obtain ⟨rs0, h0, rfl⟩ := List.mem_map.1 hr
    simpa using h.row rs0 h0
  · obtain ⟨rs0, h0, rfl⟩ := List.mem_map.1 hr
    obtain ⟨r0, h1, rfl⟩ := List.mem_map.1 hm
    exact h.rule rs0 h0 r0 h1
theorem Shape.ok.bare {s : Shape} (h : s.ok) : s.bare.ok := ⟨h.routers, h.links, h.names, h.nets, h.ways, by simp [Shape.bare], (fun rs hr => by cases hr), fun rs hr => by cases hr⟩
end Mq
