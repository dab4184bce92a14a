/- What the numbers of a shape make: configurations; and what layer 13 makes of them: networks. Part of a verified reader of code, common to this project's claims. -/
import Derived.Test.YtipekfhpcjcabaaDoorMqPl4
set_option linter.unusedVariables false
set_option linter.unusedSimpArgs false
namespace Mq
open Go
set_option linter.unusedVariables false
set_option linter.unusedSimpArgs false
abbrev uD (n : Int) : List D := [.v (.int .u8 n)]
abbrev pD (p : Int × Int) : List D := [.v (.int .u32 p.1), .v (.int .i64 p.2)]
/-! layer 7: Shape -/
structure Shape where
  routers : Int
  links : List Int
  maps : List (List Rule)
  names : List Int
  nets : List Int
  ways : List Int
abbrev rsD (rs : List Rule) : List D := [.sl 6 (rs.map Rule.row)]
abbrev Shape.box (s : Shape) : List AV := [.d (.v (.int .u8 s.routers)), .d (.sl 1 (s.links.map uD)), .d (.sl 1 (s.maps.map rsD)), .d (.sl 1 (s.names.map uD)), .d (.sl 1 (s.nets.map uD)), .d (.sl 1 (s.ways.map uD))]
abbrev Shape.av (s : Shape) : AV := .ag s.box
structure B8 (l : List Int) : Prop where
  len : l.length ≤ maxLen
  rng : ∀ x ∈ l, 0 ≤ x ∧ x ≤ 255
structure Shape.ok (s : Shape) : Prop where
  routers : 0 ≤ s.routers ∧ s.routers ≤ 255
  links : B8 s.links
  names : B8 s.names
  nets : B8 s.nets
  ways : B8 s.ways
  maps : s.maps.length ≤ maxLen
  row : ∀ rs ∈ s.maps, rs.length ≤ maxLen
  rule : ∀ rs ∈ s.maps, ∀ r ∈ rs, 0 ≤ r.to ∧ r.to ≤ 255
def numV (l : List Int) (k : Nat) : Int := if l.length = 0 then 0 else l.getD (k % l.length) 0
theorem numV_rng {l : List Int} (h : B8 l) (k : Nat) : 0 ≤ numV l k ∧ numV l k ≤ 255 := by
  unfold numV
  split
  · decide
  · rename_i h0
    have h1 : k % l.length < l.length := Nat.mod_lt _ (Nat.pos_of_ne_zero h0)
    rw [List.getD_eq_getElem?_getD, List.getElem?_eq_getElem h1]
    exact h.rng _ (List.getElem_mem h1)
def chr (k : Int) : ByteArray := Utf8.encode (97 + k)
def rname (k : Nat) : ByteArray := ⟨#[114]⟩ ++ chr k
def mname (k : Int) : ByteArray := ⟨#[109]⟩ ++ chr k
theorem chr_size (k : Int) : (chr k).size ≤ 4 := by
  unfold chr Utf8.encode
  simp only
  repeat' split
  all_goals simp [ByteArray.size]
theorem wrapI32 (n : Int) (h1 : -2147483648 ≤ n) (h2 : n ≤ 2147483647) : IntKind.i32.wrap n = n := by rw [IntKind.wrap_i32]; omega
theorem wrapU8 (n : Int) (h1 : 0 ≤ n) (h2 : n ≤ 255) : IntKind.u8.wrap n = n := by rw [IntKind.wrap_u8]; omega
theorem num_row {l : List Int} (h0 : l.length ≠ 0) (k : Nat) : (l.map uD).getD (Int.tmod (k : Int) (l.length : Int)).toNat [] = uD (numV l k) ∧ 0 ≤ Int.tmod (k : Int) (l.length : Int) ∧ Int.tmod (k : Int) (l.length : Int) < l.length := by
  have h1 : Int.tmod (k : Int) (l.length : Int) = ((k % l.length : Nat) : Int) := by rw [Int.tmod_eq_emod_of_nonneg (by omega)]; rfl
  have h2 : k % l.length < l.length := Nat.mod_lt _ (Nat.pos_of_ne_zero h0)
  rw [h1]
  refine ⟨?_, by omega, by omega⟩
  rw [Int.toNat_natCast, List.getD_eq_getElem?_getD, List.getElem?_map, List.getElem?_eq_getElem h2, numV, if_neg h0, List.getD_eq_getElem?_getD, List.getElem?_eq_getElem h2]
  rfl
theorem chr_of (k : Int) (h : 0 ≤ k) (h2 : k ≤ 2000000000) : Utf8.encode (IntKind.i32.wrap (IntKind.i64.wrap (97 + k))) = chr k := by
  rw [wrapI64 _ (by omega) (by omega), wrapI32 _ (by omega) (by omega)]; rfl
theorem chr_fit (c : UInt8) (k : Int) : (⟨#[c]⟩ : ByteArray).size + (chr k).size ≤ maxLen := by
  have h1 := chr_size k
  have h2 : (⟨#[c]⟩ : ByteArray).size = 1 := rfl
  have h3 : maxLen = 9223372036854775807 := rfl
  omega
def mapV (m : Nat) (n : Int) : ByteArray := if m = 0 ∨ 0 < n.tmod 3 then ⟨#[]⟩ else mname ((n.tdiv 3).tmod m)
structure Lk where
  peer : Nat
  cost : Int
  imp : ByteArray
  exp : ByteArray
structure Way where
  a : Int
  b : Int
  via : Nat
structure Ro where
  k : Nat
  nets : List (Int × Int)
  links : List Lk
  sts : List Way
structure Mp where
  name : ByteArray
  cls : List Clause
structure Conf where
  maps : List Mp
  ros : List Ro
abbrev Lk.row (l : Lk) : List D := [.v (.string (rname l.peer)), .v (.int .i64 l.cost), .v (.string l.imp), .v (.string l.exp), .v (.int .i64 0)]
abbrev Lk.box (l : Lk) : List AV := [.d (.v (.string (rname l.peer))), .d (.v (.int .i64 l.cost)), .d (.v (.string l.imp)), .d (.v (.string l.exp)), .d (.v (.int .i64 0))]
abbrev Way.row (l : Way) : List D := [.v (.int .u32 l.a), .v (.int .i64 l.b), .v (.string (rname l.via)), .v (.int .i64 0)]
abbrev Way.box (l : Way) : List AV := [.d (.v (.int .u32 l.a)), .d (.v (.int .i64 l.b)), .d (.v (.string (rname l.via))), .d (.v (.int .i64 0))]
abbrev Ro.row (r : Ro) : List D := [.v (.string (rname r.k)), .sl 2 (r.nets.map pD), .sl 5 (r.links.map Lk.row), .sl 4 (r.sts.map Way.row), .v (.int .i64 0)]
abbrev Ro.box (r : Ro) : List AV := [.d (.v (.string (rname r.k))), .d (.sl 2 (r.nets.map pD)), .d (.sl 5 (r.links.map Lk.row)), .d (.sl 4 (r.sts.map Way.row)), .d (.v (.int .i64 0))]
abbrev Mp.row (m : Mp) : List D := [.v (.string m.name), .sl 10 (m.cls.map Clause.row), .v (.int .i64 0)]
abbrev Mp.box (m : Mp) : List AV := [.d (.v (.string m.name)), .d (.sl 10 (m.cls.map Clause.row)), .d (.v (.int .i64 0))]
abbrev Conf.box (c : Conf) : List AV := [.d (.sl 3 (c.maps.map Mp.row)), .d (.sl 5 (c.ros.map Ro.row))]
abbrev Conf.av (c : Conf) : AV := .ag c.box
instance : Inhabited Lk := ⟨⟨0, 0, ⟨#[]⟩, ⟨#[]⟩⟩⟩
instance : Inhabited Ro := ⟨⟨0, [], [], []⟩⟩

/-! layer 7: Config -/
def Shape.n (s : Shape) : Nat := (s.routers.tmod 8).toNat
def Shape.m (s : Shape) : Nat := min s.maps.length 4
def Shape.li (s : Shape) (k j : Nat) : Int := numV s.links (min j k * s.n + max j k)
def Shape.nm (s : Shape) (k j : Nat) : Int := numV s.names (k * s.n + j)
def Shape.has (s : Shape) (k j : Nat) : Bool := decide (j ≠ k) && (decide (0 < (s.li k j).tmod 3) || decide (j = k + 1) || decide (k = j + 1))
def Shape.lk (s : Shape) (k j : Nat) : Lk := ⟨j, 1 + ((s.li k j).tdiv 3).tmod 3, mapV s.m (s.nm k j), mapV s.m ((s.nm k j).tdiv 12)⟩
def Shape.lks (s : Shape) (k x : Nat) : List Lk := ((List.range x).filter (s.has k)).map (s.lk k)
def Shape.netsV (s : Shape) (k : Nat) : List (Int × Int) := if k = 0 ∨ (numV s.nets k).tmod 4 = 0 then [(mkAddr (numV s.nets k), mkBits (numV s.nets k))] else []
def Shape.stsV (s : Shape) (k : Nat) : List Way :=
  if (numV s.ways k).tmod 5 = 4 ∧ 0 < (s.lks k s.n).length then [⟨mkAddr (numV s.ways k), mkBits (numV s.ways k), ((s.lks k s.n).getD (((numV s.ways k).tdiv 8).tmod (s.lks k s.n).length).toNat default).peer⟩] else []
def Shape.ro (s : Shape) (k : Nat) : Ro := ⟨k, s.netsV k, s.lks k s.n, s.stsV k⟩
def mpsGo : List (List Rule) → Nat → List Mp → List Mp
  | [], _, out => out
  | rs :: r, k, out => mpsGo r (k + 1) (if k < 4 then out ++ [⟨mname k, clausesL rs⟩] else out)
def Shape.conf (s : Shape) : Conf := ⟨mpsGo s.maps 0 [], (List.range s.n).map s.ro⟩
theorem lks_succ (s : Shape) (k x : Nat) : s.lks k (x + 1) = if s.has k x then s.lks k x ++ [s.lk k x] else s.lks k x := by
  unfold Shape.lks
  rw [List.range_succ, List.filter_append]
  by_cases h : s.has k x <;> simp [h]
theorem Shape.n_le (s : Shape) : s.n ≤ 7 := by
  unfold Shape.n
  have := Int.tmod_lt_of_pos s.routers (show (0 : Int) < 8 by decide)
  omega

def ixGo (p : Int × Int) : List (Int × Int) → Nat → Int
  | [], _ => -1
  | x :: r, k => if p = x then k else ixGo p r (k + 1)
theorem ixGo_rng (p : Int × Int) : ∀ (l : List (Int × Int)) (k : Nat), (l.elem p = true → 0 ≤ ixGo p l k) ∧ (l.elem p = false → ixGo p l k = -1)
  | [], k => by simp [ixGo]
  | x :: r, k => by
    have h := ixGo_rng p r (k + 1)
    simp only [ixGo]
    by_cases hx : p = x
    · subst hx; simp
    · have hb : (p == x) = false := by simpa using hx
      simp only [List.elem_cons, hb, if_neg hx]
      exact h
theorem ix_elem (p : Int × Int) (l : List (Int × Int)) : decide (0 ≤ ixGo p l 0) = l.elem p := by
  have h := ixGo_rng p l 0
  cases he : l.elem p
  · rw [h.2 he]; rfl
  · have := h.1 he; simp [this]
/-! layer 13: lower -/
theorem rname_inj : ∀ i, i < 8 → ∀ j, j < 8 → (rname i = rname j ↔ i = j) := by decide
theorem rname_ne : ∀ i, i < 8 → rname i ≠ ⟨#[]⟩ := by decide
def statGo (a b : Int) : List Way → Option Nat × Int → Option Nat × Int
  | [], x => x
  | s :: r, x => statGo a b r (if covers s.a s.b a b && decide (x.2 < s.b) then (some s.via, s.b) else x)
def oname : Option Nat → ByteArray
  | none => ⟨#[]⟩
  | some k => rname k
def peerV (ls : List Lk) (k : Nat) : Option Lk := ls.find? fun l => l.peer == k
def clausesV (ms : List Mp) (name : ByteArray) (a b : Int) : List Clause := match ms.find? fun m => decide (m.name = name) with
  | some m => forL m.cls a b
  | none => []
def Conf.arc (c : Conf) (a b : Int) (k : Nat) (l : Lk) : Arc := ⟨l.peer, l.cost, clausesV c.maps ((peerV (c.ros.getD l.peer default).links k).getD default).exp a b, clausesV c.maps l.imp a b⟩
def viaV (r : Ro) (a b : Int) : Int := match (statGo a b r.sts (none, -1)).1 with
  | some v => v
  | none => -1
def Conf.net (c : Conf) (a b : Int) : Net := ⟨c.ros.map fun r => r.nets.elem (a, b), c.ros.map fun r => viaV r a b, c.ros.map fun r => r.links.map (c.arc a b r.k)⟩
end Mq
namespace Mq
open Go
theorem quo64 {v : Int} (hv : 0 ≤ v ∧ v ≤ 255) (d : Int) (hd : 1 ≤ d) : IntKind.i64.wrap (v.tdiv d) = v.tdiv d ∧ 0 ≤ v.tdiv d ∧ v.tdiv d ≤ 255 := by
  have h1 : v.tdiv d = v / d := Int.tdiv_eq_ediv_of_nonneg hv.1
  have h2 : 0 ≤ v / d := Int.ediv_nonneg hv.1 (by omega)
  have h3 : v / d ≤ v := Int.ediv_le_self d hv.1
  rw [h1]
  exact ⟨wrapI64 _ (by omega) (by omega), h2, by omega⟩
theorem cost64 {v : Int} (hv : 0 ≤ v ∧ v ≤ 255) : IntKind.i64.wrap (1 + (v.tdiv 3).tmod 3) = 1 + (v.tdiv 3).tmod 3 := by
  have h1 := quo64 hv 3 (by decide)
  have h2 : (v.tdiv 3).tmod 3 < 3 := Int.tmod_lt_of_pos _ (by decide)
  have h3 : 0 ≤ (v.tdiv 3).tmod 3 := Int.tmod_nonneg _ h1.2.1
  exact wrapI64 _ (by omega) (by omega)
theorem ix64 {n j k : Nat} (hn : n ≤ 7) (hj : j ≤ 7) (hk : k ≤ 7) : IntKind.i64.wrap (IntKind.i64.wrap ((if (k : Int) < j then (k : Int) else j) * n) + (if (k : Int) > j then (k : Int) else j)) = ((min j k * n + max j k : Nat) : Int) := by
  have h1 : (if (k : Int) < j then (k : Int) else j) = ((min j k : Nat) : Int) := by split <;> omega
  have h2 : (if (k : Int) > j then (k : Int) else j) = ((max j k : Nat) : Int) := by split <;> omega
  have h3 : min j k * n ≤ 7 * 7 := Nat.mul_le_mul (by omega) hn
  rw [h1, h2, ← Int.natCast_mul, wrapI64 ((min j k * n : Nat) : Int) (by omega) (by omega), wrapI64 _ (by omega) (by omega)]
  omega
theorem nm64 {n j k : Nat} (hn : n ≤ 7) (hj : j ≤ 7) (hk : k ≤ 7) : IntKind.i64.wrap (IntKind.i64.wrap ((k : Int) * n) + j) = ((k * n + j : Nat) : Int) := by
  have h3 : k * n ≤ 7 * 7 := Nat.mul_le_mul hk hn
  rw [← Int.natCast_mul, wrapI64 ((k * n : Nat) : Int) (by omega) (by omega), wrapI64 _ (by omega) (by omega)]
  omega
theorem has_of {s : Shape} {k j : Nat} (hk : k ≤ 7) (hj : j ≤ 7) : (if (!(j : Int) == (k : Int)) = true then if (if decide (0 < (numV s.links (min j k * s.n + max j k)).tmod 3) = true then true else (j : Int) == IntKind.i64.wrap ((k : Int) + 1)) = true then true else (k : Int) == IntKind.i64.wrap ((j : Int) + 1) else false) = s.has k j := by
  rw [wrapI64 ((k : Int) + 1) (by omega) (by omega), wrapI64 ((j : Int) + 1) (by omega) (by omega)]
  unfold Shape.has Shape.li
  have h1 : ((j : Int) == (k : Int)) = decide (j = k) := by rw [Bool.eq_iff_iff]; simp; omega
  have h2 : ((j : Int) == (k : Int) + 1) = decide (j = k + 1) := by rw [Bool.eq_iff_iff]; simp; omega
  have h3 : ((k : Int) == (j : Int) + 1) = decide (k = j + 1) := by rw [Bool.eq_iff_iff]; simp; omega
  rw [h1, h2, h3]
  by_cases h : j = k <;> simp [h]
theorem sts_yes {s : Shape} {k : Nat} (hw : 0 ≤ numV s.ways k ∧ numV s.ways k ≤ 255) (hc : (if ((numV s.ways k).tmod 5 == 4) = true then decide (0 < ((s.lks k s.n).length : Int)) else false) = true) :
    0 < (s.lks k s.n).length ∧ 0 ≤ ((numV s.ways k).tdiv 8).tmod (s.lks k s.n).length ∧ ((numV s.ways k).tdiv 8).tmod (s.lks k s.n).length < (s.lks k s.n).length ∧
    ((s.lks k s.n).map Lk.row).getD (((numV s.ways k).tdiv 8).tmod (s.lks k s.n).length).toNat [] = Lk.row ((s.lks k s.n).getD (((numV s.ways k).tdiv 8).tmod (s.lks k s.n).length).toNat default) ∧
    s.stsV k = [⟨mkAddr (numV s.ways k), mkBits (numV s.ways k), ((s.lks k s.n).getD (((numV s.ways k).tdiv 8).tmod (s.lks k s.n).length).toNat default).peer⟩] := by
  have h0 : (numV s.ways k).tmod 5 = 4 ∧ 0 < (s.lks k s.n).length := by simpa using hc
  have h1 := (quo64 hw 8 (by decide)).2.1
  have h2 : 0 ≤ ((numV s.ways k).tdiv 8).tmod (s.lks k s.n).length := Int.tmod_nonneg _ h1
  have h3 : ((numV s.ways k).tdiv 8).tmod (s.lks k s.n).length < (s.lks k s.n).length := Int.tmod_lt_of_pos _ (by omega)
  exact ⟨h0.2, h2, h3, at_int Lk.row _ default h2 h3, by rw [Shape.stsV, if_pos h0]⟩
theorem sts_no {s : Shape} {k : Nat} (hc : (if ((numV s.ways k).tmod 5 == 4) = true then decide (0 < ((s.lks k s.n).length : Int)) else false) = false) : s.stsV k = [] := by
  rw [Shape.stsV, if_neg]
  rintro ⟨q1, q2⟩
  rw [show ((numV s.ways k).tmod 5 == 4) = true by simp [q1], if_pos rfl] at hc
  have := of_decide_eq_false hc
  omega
theorem nets_yes {s : Shape} {k : Nat} (hc : (if ((k : Int) == 0) = true then true else (numV s.nets k).tmod 4 == 0) = true) : s.netsV k = [(mkAddr (numV s.nets k), mkBits (numV s.nets k))] := by
  unfold Shape.netsV
  by_cases h : k = 0
  · simp [h]
  · rw [if_pos]; right; simpa [h] using hc
theorem nets_no {s : Shape} {k : Nat} (hc : (if ((k : Int) == 0) = true then true else (numV s.nets k).tmod 4 == 0) = false) : s.netsV k = [] := by
  unfold Shape.netsV
  by_cases h : k = 0
  · simp [h] at hc
  · rw [if_neg]; rintro (q | q) <;> simp_all
theorem lks_len (s : Shape) (k x : Nat) : (s.lks k x).length ≤ x := by
  unfold Shape.lks
  rw [List.length_map]
  exact Nat.le_trans (List.length_filter_le _ _) (by simp)
end Mq
