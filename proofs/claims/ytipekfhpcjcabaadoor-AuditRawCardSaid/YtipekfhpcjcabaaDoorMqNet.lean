/- The data of this program as it is told, and what layers 15 and 18 do with it in plain words. Part of a verified reader of code, common to this project's claims. -/
import Derived.Test.YtipekfhpcjcabaaDoorMqLaw
set_option linter.unusedVariables false
set_option linter.unusedSimpArgs false
namespace Mq
open Go
set_option linter.unusedVariables false
set_option linter.unusedSimpArgs false
/-! The program's data, as it is told, and in plain words. -/
structure Attr where
  ok : Bool
  pref : Int
  cost : Int
  tags : Int
structure Clause where
  any : Bool
  addr : Int
  bits : Int
  wit : Int
  out : Int
  drop : Bool
  set : Int
  clear : Int
  more : Int
  pref : Int
structure Arc where
  src : Int
  cost : Int
  exp : List Clause
  imp : List Clause
structure Net where
  origin : List Bool
  static : List Int
  edges : List (List Arc)
abbrev bD (b : Bool) : List D := [.v (.bool b)]
abbrev iD (n : Int) : List D := [.v (.int .i64 n)]
abbrev Attr.row (x : Attr) : List D := [.v (.bool x.ok), .v (.int .i64 x.pref), .v (.int .i64 x.cost), .v (.int .u8 x.tags)]
abbrev Attr.box (x : Attr) : List AV := [.d (.v (.bool x.ok)), .d (.v (.int .i64 x.pref)), .d (.v (.int .i64 x.cost)), .d (.v (.int .u8 x.tags))]
abbrev Attr.av (x : Attr) : AV := .ag x.box
abbrev Clause.row (c : Clause) : List D := [.v (.bool c.any), .v (.int .u32 c.addr), .v (.int .i64 c.bits), .v (.int .u8 c.wit), .v (.int .u8 c.out), .v (.bool c.drop), .v (.int .u8 c.set), .v (.int .u8 c.clear), .v (.int .i64 c.more), .v (.int .i64 c.pref)]
abbrev Clause.box (c : Clause) : List AV := [.d (.v (.bool c.any)), .d (.v (.int .u32 c.addr)), .d (.v (.int .i64 c.bits)), .d (.v (.int .u8 c.wit)), .d (.v (.int .u8 c.out)), .d (.v (.bool c.drop)), .d (.v (.int .u8 c.set)), .d (.v (.int .u8 c.clear)), .d (.v (.int .i64 c.more)), .d (.v (.int .i64 c.pref))]
abbrev Arc.row (e : Arc) : List D := [.v (.int .i64 e.src), .v (.int .i64 e.cost), .sl 10 (e.exp.map Clause.row), .sl 10 (e.imp.map Clause.row)]
abbrev Arc.box (e : Arc) : List AV := [.d (.v (.int .i64 e.src)), .d (.v (.int .i64 e.cost)), .d (.sl 10 (e.exp.map Clause.row)), .d (.sl 10 (e.imp.map Clause.row))]
abbrev esD (es : List Arc) : List D := [.sl 4 (es.map Arc.row)]
abbrev Net.box (n : Net) : List AV := [.d (.sl 1 (n.origin.map bD)), .d (.sl 1 (n.static.map iD)), .d (.sl 1 (n.edges.map esD))]
abbrev Net.av (n : Net) : AV := .ag n.box
structure Arc.ok (e : Arc) : Prop where
  exp : e.exp.length ≤ maxLen
  imp : e.imp.length ≤ maxLen
structure Net.ok (n : Net) : Prop where
  origin : n.origin.length ≤ maxLen
  static : n.static.length ≤ maxLen
  edges : n.edges.length ≤ maxLen
  row : ∀ es ∈ n.edges, es.length ≤ maxLen
  edge : ∀ es ∈ n.edges, ∀ e ∈ es, e.ok
def attr0 : Attr := ⟨false, 0, 0, 0⟩
instance : Inhabited Attr := ⟨attr0⟩
instance : Inhabited Clause := ⟨⟨false, 0, 0, 0, 0, false, 0, 0, 0, 0⟩⟩
instance : Inhabited Arc := ⟨⟨0, 0, [], []⟩⟩

/-! layer 15: stable -/
def goE (N k st : Int) : List Arc → List Int → Bool → Bool
  | [], _, via => via
  | e :: r, seen, via => if decide (e.src < 0) || decide (N ≤ e.src) || e.src == k || seen.elem e.src then false else goE N k st r (sadd seen e.src) (via || e.src == st)
def goN (N : Int) : List (List Arc) → List Int → Int → Bool
  | es :: r, st :: sr, k => goE N k st es [] (decide (st < 0)) && goN N r sr (k + 1)
  | _, _, _ => true
def Net.may (n : Net) : Bool := if n.static.length ≠ n.origin.length ∨ n.edges.length ≠ n.origin.length ∨ 64 < n.origin.length then false else goN n.origin.length n.edges n.static 0

theorem mem_sadd {s : List Int} {x y : Int} : y ∈ sadd s x ↔ y ∈ s ∨ y = x := by
  unfold sadd
  by_cases h : x ∈ s
  · simp only [List.elem_eq_mem, h, decide_true, if_true]; constructor
    · exact .inl
    · rintro (q | rfl)
      · exact q
      · exact h
  · simp [h]
theorem goE_spec {N k st : Int} : ∀ (es : List Arc) (seen : List Int) (via : Bool), goE N k st es seen via = true →
    (∀ e ∈ es, 0 ≤ e.src ∧ e.src < N ∧ e.src ≠ k) ∧ (via = true ∨ ∃ e ∈ es, e.src = st) ∧ (es.map (·.src)).Nodup ∧ ∀ e ∈ es, e.src ∉ seen
  | [], seen, via, h => by simp [goE] at h; simp [h]
  | e :: r, seen, via, h => by
    simp only [goE] at h
    split at h
    · cases h
    · rename_i hc
      simp at hc
      obtain ⟨⟨⟨c1, c2⟩, c3⟩, c4⟩ := hc
      obtain ⟨h1, h2, h3, h4⟩ := goE_spec r _ _ h
      refine ⟨fun x hx => ?_, ?_, ?_, fun x hx => ?_⟩
      · rcases List.mem_cons.1 hx with rfl | hx
        · exact ⟨c1, c2, c3⟩
        · exact h1 x hx
      · rcases h2 with h2 | ⟨x, hx, hxs⟩
        · simp at h2
          rcases h2 with h2 | h2
          · exact .inl h2
          · exact .inr ⟨e, by simp, h2⟩
        · exact .inr ⟨x, by simp [hx], hxs⟩
      · rw [List.map_cons, List.nodup_cons]
        refine ⟨fun hm => ?_, h3⟩
        obtain ⟨x, hx, hxs⟩ := List.mem_map.1 hm
        exact h4 x hx (mem_sadd.2 (.inr hxs))
      · rcases List.mem_cons.1 hx with rfl | hx
        · exact c4
        · exact fun q => h4 x hx (mem_sadd.2 (.inl q))
theorem goN_spec {N : Int} : ∀ (E : List (List Arc)) (S : List Int) (k : Int), goN N E S k = true → ∀ (i : Nat) es st, E[i]? = some es → S[i]? = some st → goE N (k + i) st es [] (decide (st < 0)) = true
  | [], _, _, _, i, es, st, h, _ => by simp at h
  | _ :: _, [], _, _, i, es, st, _, h => by simp at h
  | e :: E, s :: S, k, h, i, es, st, h1, h2 => by
    simp only [goN, Bool.and_eq_true] at h
    cases i with
    | zero => simp at h1 h2; subst h1; subst h2; simpa using h.1
    | succ i =>
      have := goN_spec E S (k + 1) h.2 i es st (by simpa using h1) (by simpa using h2)
      rw [show k + ((i + 1 : Nat) : Int) = k + 1 + i by omega]
      exact this
/-- Numbers from 0 on, each once, are no more than there are. -/
theorem nodup_len : ∀ (N : Nat) (l : List Int), l.Nodup → (∀ x ∈ l, 0 ≤ x ∧ x < N) → l.length ≤ N
  | 0, l, _, h => by
    cases l with
    | nil => simp
    | cons x r => have := h x (by simp); omega
  | N + 1, l, hn, h => by
    by_cases hm : (N : Int) ∈ l
    · have h1 := nodup_len N (l.erase (N : Int)) (hn.erase _) (fun x hx => by
        have hx2 := List.mem_of_mem_erase hx
        have hne : x ≠ (N : Int) := fun q => by subst q; exact (List.Nodup.not_mem_erase hn) hx
        have := h x hx2
        omega)
      have h2 := List.length_erase_of_mem hm
      have h3 : 0 < l.length := List.length_pos_of_mem hm
      omega
    · have := nodup_len N l hn (fun x hx => by
        have hne : x ≠ (N : Int) := fun q => hm (q ▸ hx)
        have := h x hx
        omega)
      omega

structure Net.May (n : Net) : Prop where
  static : n.static.length = n.origin.length
  edges : n.edges.length = n.origin.length
  most : n.origin.length ≤ 64
  src : ∀ (k : Nat) es, n.edges[k]? = some es → ∀ e ∈ es, 0 ≤ e.src ∧ e.src < n.origin.length ∧ e.src ≠ k
  row : ∀ es ∈ n.edges, es.length ≤ n.origin.length
  nodup : ∀ es ∈ n.edges, (es.map (·.src)).Nodup
  via : ∀ (k : Nat) st, n.static[k]? = some st → 0 ≤ st → ∃ es, n.edges[k]? = some es ∧ ∃ e ∈ es, e.src = st
theorem Net.may_spec {n : Net} (h : n.may = true) : n.May := by
  unfold Net.may at h
  split at h
  · cases h
  · rename_i hc
    have h1 : n.static.length = n.origin.length := by omega
    have h2 : n.edges.length = n.origin.length := by omega
    have key : ∀ (k : Nat) es, n.edges[k]? = some es → ∃ st, n.static[k]? = some st ∧ goE n.origin.length k st es [] (decide (st < 0)) = true := by
      intro k es hk
      have hlt : k < n.static.length := by have := (List.getElem?_eq_some_iff.1 hk).1; omega
      refine ⟨n.static[k], List.getElem?_eq_getElem hlt, ?_⟩
      have := goN_spec _ _ _ h k es _ hk (List.getElem?_eq_getElem hlt)
      simpa using this
    refine ⟨h1, h2, by omega, fun k es hk => ?_, fun es hes => ?_, fun es hes => ?_, fun k st hk h0 => ?_⟩
    · obtain ⟨st, _, hg⟩ := key k es hk
      exact (goE_spec _ _ _ hg).1
    · obtain ⟨k, hk⟩ := List.getElem?_of_mem hes
      obtain ⟨st, _, hg⟩ := key k es hk
      obtain ⟨g1, _, g3, _⟩ := goE_spec _ _ _ hg
      have := nodup_len n.origin.length _ g3 (fun x hx => by
        obtain ⟨e, he, rfl⟩ := List.mem_map.1 hx
        exact ⟨(g1 e he).1, (g1 e he).2.1⟩)
      simpa using this
    · obtain ⟨k, hk⟩ := List.getElem?_of_mem hes
      obtain ⟨st, _, hg⟩ := key k es hk
      exact (goE_spec _ _ _ hg).2.2.1
    · have hlt : k < n.edges.length := by have := (List.getElem?_eq_some_iff.1 hk).1; omega
      obtain ⟨st', hs, hg⟩ := key k _ (List.getElem?_eq_getElem hlt)
      rw [hk] at hs
      cases hs
      refine ⟨_, List.getElem?_eq_getElem hlt, ?_⟩
      rcases (goE_spec _ _ _ hg).2.1 with q | q
      · simp at q; omega
      · exact q

/-! layer 18: quotient -/
def firstsGo : List Int → Int → List Int → Option (List Int)
  | [], _, out => some out
  | x :: r, k, out => if decide (x < 0) || decide ((out.length : Int) < x) then none else if x == out.length then firstsGo r (k + 1) (out ++ [k]) else firstsGo r (k + 1) out
def Net.firsts (n : Net) (b : List Int) : Option (List Int) := if !n.may || b.length != n.origin.length then none else firstsGo b 0 []
def quotEs (b : List Int) : List Arc → List Int → List Arc → List Arc
  | [], _, out => out
  | e :: r, seen, out => if seen.elem (b.getD e.src.toNat 0) then quotEs b r seen out else quotEs b r (sadd seen (b.getD e.src.toNat 0)) (out ++ [{ e with src := b.getD e.src.toNat 0 }])
def Net.via (n : Net) (b : List Int) (f : Int) : Int := let v := if n.static.getD f.toNat 0 > -1 then n.static.getD f.toNat 0 else -1; if 0 ≤ v then b.getD v.toNat 0 else v
def quotGo (n : Net) (b : List Int) : List Int → Int → Net → Option Net
  | [], _, out => some out
  | f :: r, k, out => if n.via b f == k then none else quotGo n b r (k + 1) ⟨out.origin ++ [n.origin.getD f.toNat false], out.static ++ [n.via b f], out.edges ++ [quotEs b (n.edges.getD f.toNat []) [k] []]⟩
def Net.quot (n : Net) (b : List Int) : Option Net := match n.firsts b with
  | none => none
  | some fs => quotGo n b fs 0 ⟨[], [], []⟩

theorem at_int {α : Type} (f : α → List D) (l : List α) (d : α) {k : Int} (h0 : 0 ≤ k) (h1 : k < l.length) : (l.map f).getD k.toNat [] = f (l.getD k.toNat d) := by
  have : k.toNat < l.length := by omega
  simp [List.getD, this]
theorem getD_mem {α : Type} (l : List α) (d : α) {k : Int} (h0 : 0 ≤ k) (h1 : k < l.length) : l[k.toNat]? = some (l.getD k.toNat d) := by
  have : k.toNat < l.length := by omega
  simp [List.getD, this]
theorem mput_nil (ks : List LK) (k : List Value) (v : List D) : mput ks k v [] = [(k, v)] := rfl
theorem Net.May.st_lt {n : Net} (m : n.May) {k : Nat} {st : Int} (h : n.static[k]? = some st) : st < n.origin.length := by
  by_cases h0 : 0 ≤ st
  · obtain ⟨es, hes, e, he, rfl⟩ := m.via k st h h0
    exact (m.src k es hes e he).2.1
  · omega
theorem firstsGo_spec : ∀ (b : List Int) (k : Int) (out fs : List Int), firstsGo b k out = some fs → fs.length ≤ out.length + b.length ∧ ∀ f ∈ fs, f ∈ out ∨ (k ≤ f ∧ f < k + b.length)
  | [], k, out, fs, h => by simp only [firstsGo, Option.some.injEq] at h; subst h; exact ⟨by simp, fun f hf => .inl hf⟩
  | x :: r, k, out, fs, h => by
    simp only [firstsGo] at h
    split at h
    · cases h
    · split at h
      · obtain ⟨h1, h2⟩ := firstsGo_spec r _ _ _ h
        refine ⟨by simp at h1 ⊢; omega, fun f hf => ?_⟩
        rcases h2 f hf with q | q
        · rcases List.mem_append.1 q with q | q
          · exact .inl q
          · simp at q; subst q; exact .inr ⟨by omega, by simp; omega⟩
        · exact .inr ⟨by omega, by simp; omega⟩
      · obtain ⟨h1, h2⟩ := firstsGo_spec r _ _ _ h
        refine ⟨by simp at h1 ⊢; omega, fun f hf => ?_⟩
        rcases h2 f hf with q | q
        · exact .inl q
        · exact .inr ⟨by omega, by simp; omega⟩
theorem Net.firsts_spec {n : Net} {b fs : List Int} (h : n.firsts b = some fs) : n.May ∧ b.length = n.origin.length ∧ fs.length ≤ b.length ∧ ∀ f ∈ fs, 0 ≤ f ∧ f < b.length := by
  unfold Net.firsts at h
  split at h
  · cases h
  · rename_i hc
    simp at hc
    obtain ⟨h1, h2⟩ := firstsGo_spec _ _ _ _ h
    refine ⟨Net.may_spec hc.1, hc.2, by simpa using h1, fun f hf => ?_⟩
    rcases h2 f hf with q | q
    · cases q
    · omega

theorem via_row {n : Net} {b : List Int} {f : Int} (hm : n.May) (hbl : b.length = n.origin.length) (hf : 0 ≤ f ∧ f < b.length) (hc : decide (0 ≤ if n.static.getD f.toNat 0 > -1 then n.static.getD f.toNat 0 else -1) = true) :
    (b.map iD).getD (if n.static.getD f.toNat 0 > -1 then n.static.getD f.toNat 0 else -1).toNat [] = iD (b.getD (if n.static.getD f.toNat 0 > -1 then n.static.getD f.toNat 0 else -1).toNat 0) ∧
    (if n.static.getD f.toNat 0 > -1 then n.static.getD f.toNat 0 else -1) < b.length ∧ 0 ≤ (if n.static.getD f.toNat 0 > -1 then n.static.getD f.toNat 0 else -1) := by
  have h0 := of_decide_eq_true hc
  have m1 := hm.static
  have h1 := hm.st_lt (getD_mem n.static 0 hf.1 (by omega))
  have h2 : (if n.static.getD f.toNat 0 > -1 then n.static.getD f.toNat 0 else -1) < (b.length : Int) := by
    generalize n.static.getD f.toNat 0 = st at h0 h1
    split at h0 <;> split <;> omega
  exact ⟨at_int iD b 0 h0 h2, h2, h0⟩

def upGo : List Int → List Attr → List Attr → List Attr
  | x :: r, a :: s, out => if x == out.length then upGo r s (out ++ [a]) else upGo r s out
  | _, _, out => out
def upL (b : List Int) (l : List Attr) : List Attr := if b.length ≠ l.length then [] else upGo b l []
def dnA (l : List Attr) (x : Int) : Attr := if 0 ≤ x ∧ x < l.length then l.getD x.toNat default else attr0
def downL (b : List Int) (l : List Attr) : List Attr := b.map (dnA l)
theorem Attr.ext' {a b : Attr} (h1 : a.ok = b.ok) (h2 : a.pref = b.pref) (h3 : a.cost = b.cost) (h4 : a.tags = b.tags) : a = b := by cases a; cases b; simp_all

theorem dn_row {l : List Attr} {v : Int} (hc : (if decide (0 ≤ v) = true then decide (v < l.length) else false) = true) : (l.map Attr.row).getD v.toNat [] = (dnA l v).row ∧ 0 ≤ v ∧ v < l.length := by
  have h : 0 ≤ v ∧ v < l.length := by simpa using hc
  refine ⟨?_, h⟩
  have := at_int Attr.row l default h.1 h.2
  rw [this, dnA, if_pos h]
theorem dn_none {l : List Attr} {v : Int} (hc : (if decide (0 ≤ v) = true then decide (v < l.length) else false) = false) : dnA l v = attr0 := by
  have h : ¬ (0 ≤ v ∧ v < l.length) := by simpa using hc
  rw [dnA, if_neg h]

theorem down_at (c : List Int) (l : List Attr) (j : Nat) (h : j < c.length) : ∃ v, (c.map iD).getD (Int.toNat (j : Int)) [] = iD v ∧ ((downL c l).map Attr.row).getD (Int.toNat (j : Int)) [] = (dnA l v).row ∧ j < c.length :=
  ⟨c[j], by simp [List.getD, h], by simp [List.getD, h, downL], h⟩
theorem downL_len (c : List Int) (l : List Attr) : (downL c l).length = c.length := by simp [downL]
end Mq
