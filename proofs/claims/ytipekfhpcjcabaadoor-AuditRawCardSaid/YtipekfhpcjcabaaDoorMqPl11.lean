/- Decision diagrams: nodes, each once; two diagrams are the same just if their tables are. Part of a verified reader of code, common to this project's claims. -/
import Derived.Test.YtipekfhpcjcabaaDoorMqPl10
set_option linter.unusedVariables false
set_option linter.unusedSimpArgs false
namespace Mq
open Go
set_option linter.unusedVariables false
set_option linter.unusedSimpArgs false
abbrev Nd := Int × Int × Int
def nd (ns : List Nd) (f : Int) : Nd := ns.getD f.toNat (1024, 0, 0)
/-- Nodes: no and yes; all others ask one of four variables, ahead of those that they lead to, and are there once. -/
structure ArOk (ns : List Nd) : Prop where
  no : ns[0]? = some (1024, 0, 0)
  yes : ns[1]? = some (1024, 1, 1)
  node : ∀ (i : Nat) x, 2 ≤ i → ns[i]? = some x → 0 ≤ x.1 ∧ x.1 < 4 ∧ 0 ≤ x.2.1 ∧ x.2.1 < i ∧ 0 ≤ x.2.2 ∧ x.2.2 < i ∧ x.2.1 ≠ x.2.2 ∧ x.1 < (nd ns x.2.1).1 ∧ x.1 < (nd ns x.2.2).1
  once : ∀ (i j : Nat) x, 2 ≤ i → 2 ≤ j → ns[i]? = some x → ns[j]? = some x → i = j
theorem ArOk.len {ns : List Nd} (h : ArOk ns) : 2 ≤ ns.length := (List.getElem?_eq_some_iff.1 h.yes).1
theorem nd_at {ns : List Nd} {f : Int} (h0 : 0 ≤ f) (h1 : f < ns.length) : ns[f.toNat]? = some (nd ns f) := by
  have : f.toNat < ns.length := by omega
  simp [nd, List.getD, this]
theorem nd_app {ns t : List Nd} {f : Int} (h0 : 0 ≤ f) (h1 : f < ns.length) : nd (ns ++ t) f = nd ns f := by
  have : f.toNat < ns.length := by omega
  simp [nd, List.getD, List.getElem?_append_left this]
theorem ArOk.zero {ns : List Nd} (h : ArOk ns) : nd ns 0 = (1024, 0, 0) := by
  have := nd_at (ns := ns) (f := 0) (by decide) (by have := h.len; omega)
  rw [show (0 : Int).toNat = 0 from rfl, h.no] at this
  exact (Option.some.inj this).symm
theorem ArOk.one {ns : List Nd} (h : ArOk ns) : nd ns 1 = (1024, 1, 1) := by
  have := nd_at (ns := ns) (f := 1) (by decide) (by have := h.len; omega)
  rw [show (1 : Int).toNat = 1 from rfl, h.yes] at this
  exact (Option.some.inj this).symm
theorem ArOk.big {ns : List Nd} (h : ArOk ns) {f : Int} (h2 : 2 ≤ f) (h1 : f < ns.length) :
    0 ≤ (nd ns f).1 ∧ (nd ns f).1 < 4 ∧ 0 ≤ (nd ns f).2.1 ∧ (nd ns f).2.1 < f ∧ 0 ≤ (nd ns f).2.2 ∧ (nd ns f).2.2 < f ∧ (nd ns f).2.1 ≠ (nd ns f).2.2 ∧ (nd ns f).1 < (nd ns (nd ns f).2.1).1 ∧ (nd ns f).1 < (nd ns (nd ns f).2.2).1 := by
  have := h.node f.toNat _ (by omega) (nd_at (by omega) h1)
  rw [show ((f.toNat : Nat) : Int) = f by omega] at this
  exact this
theorem ArOk.var {ns : List Nd} (h : ArOk ns) {f : Int} (h0 : 0 ≤ f) (h1 : f < ns.length) : (f ≤ 1 ∧ (nd ns f).1 = 1024) ∨ (2 ≤ f ∧ 0 ≤ (nd ns f).1 ∧ (nd ns f).1 < 4) := by
  by_cases h2 : 2 ≤ f
  · have := h.big h2 h1; exact .inr ⟨h2, this.1, this.2.1⟩
  · have : f = 0 ∨ f = 1 := by omega
    rcases this with rfl | rfl
    · exact .inl ⟨by decide, by rw [h.zero]⟩
    · exact .inl ⟨by decide, by rw [h.one]⟩
/-- A diagram's table, of the variables from one on. -/
def tab (ns : List Nd) : Nat → Int → Int → List Bool
  | 0, _, f => [f == 1]
  | m + 1, v, f => if (nd ns f).1 = v then tab ns m (v + 1) (nd ns f).2.1 ++ tab ns m (v + 1) (nd ns f).2.2 else tab ns m (v + 1) f ++ tab ns m (v + 1) f
theorem tab_len (ns : List Nd) : ∀ (m : Nat) (v f : Int), (tab ns m v f).length = 2 ^ m
  | 0, _, _ => rfl
  | m + 1, v, f => by
    simp only [tab]
    split <;> simp only [List.length_append, tab_len ns m] <;> rw [Nat.pow_succ] <;> omega
theorem tab_app {ns t : List Nd} (h : ArOk ns) : ∀ (m : Nat) (v f : Int), 0 ≤ v → v + m ≤ 4 → 0 ≤ f → f < ns.length → tab (ns ++ t) m v f = tab ns m v f
  | 0, _, _, _, _, _, _ => rfl
  | m + 1, v, f, hv, hm, h0, h1 => by
    simp only [tab, nd_app h0 h1]
    split
    · rename_i hvf
      have hb : 2 ≤ f := by
        rcases h.var h0 h1 with ⟨_, q⟩ | ⟨q, _⟩
        · omega
        · exact q
      have := h.big hb h1
      rw [tab_app h m _ _ (by omega) (by omega) (by omega) (by omega), tab_app h m _ _ (by omega) (by omega) (by omega) (by omega)]
    · rw [tab_app h m _ _ (by omega) (by omega) h0 h1]
theorem tab_uniq {ns : List Nd} (h : ArOk ns) : ∀ (m : Nat) (v f g : Int), 0 ≤ v → v + m = 4 → 0 ≤ f → f < ns.length → 0 ≤ g → g < ns.length → v ≤ (nd ns f).1 → v ≤ (nd ns g).1 → tab ns m v f = tab ns m v g → f = g
  | 0, v, f, g, hv, hm, f0, f1, g0, g1, hf, hg, he => by
    simp only [tab, List.cons.injEq, and_true] at he
    have a : f ≤ 1 := by rcases h.var f0 f1 with ⟨q, _⟩ | ⟨_, _, q⟩ <;> omega
    have b : g ≤ 1 := by rcases h.var g0 g1 with ⟨q, _⟩ | ⟨_, _, q⟩ <;> omega
    have : f = 0 ∨ f = 1 := by omega
    have : g = 0 ∨ g = 1 := by omega
    rcases ‹f = 0 ∨ f = 1› with rfl | rfl <;> rcases ‹g = 0 ∨ g = 1› with rfl | rfl <;> simp_all
  | m + 1, v, f, g, hv, hm, f0, f1, g0, g1, hf, hg, he => by
    have hm' : v + m = 3 := by omega
    have two : ∀ {f : Int}, 0 ≤ f → f < ns.length → (nd ns f).1 = v → 2 ≤ f := by
      intro f f0 f1 hfv
      rcases h.var f0 f1 with ⟨_, q⟩ | ⟨q, _⟩
      · omega
      · exact q
    have mixed : ∀ {f g : Int}, 0 ≤ f → f < ns.length → 0 ≤ g → g < ns.length → (nd ns f).1 = v → v < (nd ns g).1 → tab ns m (v + 1) (nd ns f).2.1 ++ tab ns m (v + 1) (nd ns f).2.2 = tab ns m (v + 1) g ++ tab ns m (v + 1) g → False := by
      intro f g f0 f1 g0 g1 hfv hgv he
      have hb := h.big (two f0 f1 hfv) f1
      obtain ⟨e1, e2⟩ := List.append_inj he (by rw [tab_len, tab_len])
      have a := tab_uniq h m (v + 1) _ _ (by omega) (by omega) (by omega) (by omega) g0 g1 (by omega) (by omega) e1
      have b := tab_uniq h m (v + 1) _ _ (by omega) (by omega) (by omega) (by omega) g0 g1 (by omega) (by omega) e2
      exact hb.2.2.2.2.2.2.1 (by rw [a, b])
    simp only [tab] at he
    by_cases hfv : (nd ns f).1 = v
    · by_cases hgv : (nd ns g).1 = v
      · rw [if_pos hfv, if_pos hgv] at he
        have hb := h.big (two f0 f1 hfv) f1
        have hc := h.big (two g0 g1 hgv) g1
        obtain ⟨e1, e2⟩ := List.append_inj he (by rw [tab_len, tab_len])
        have a := tab_uniq h m (v + 1) _ _ (by omega) (by omega) (by omega) (by omega) (by omega) (by omega) (by omega) (by omega) e1
        have b := tab_uniq h m (v + 1) _ _ (by omega) (by omega) (by omega) (by omega) (by omega) (by omega) (by omega) (by omega) e2
        have hn : nd ns f = nd ns g := Prod.ext (by rw [hfv, hgv]) (Prod.ext a b)
        have := h.once f.toNat g.toNat (nd ns f) (by have := two f0 f1 hfv; omega) (by have := two g0 g1 hgv; omega) (nd_at f0 f1) (by rw [hn]; exact nd_at g0 g1)
        omega
      · rw [if_pos hfv, if_neg hgv] at he
        exact (mixed f0 f1 g0 g1 hfv (by omega) he).elim
    · by_cases hgv : (nd ns g).1 = v
      · rw [if_neg hfv, if_pos hgv] at he
        exact (mixed g0 g1 f0 f1 hgv (by omega) he.symm).elim
      · rw [if_neg hfv, if_neg hgv] at he
        obtain ⟨e1, _⟩ := List.append_inj he (by rw [tab_len, tab_len])
        exact tab_uniq h m (v + 1) f g (by omega) (by omega) f0 f1 g0 g1 (by omega) (by omega) e1
/-! layer 1: Mk -/
/-- Where a node stands, of those behind no and yes. -/
def atGo (x : Nd) : List Nd → Nat → Option Nat
  | [], _ => none
  | y :: r, i => if x = y then some i else atGo x r (i + 1)
theorem atGo_some {x : Nd} : ∀ (l : List Nd) (i j : Nat), atGo x l i = some j → i ≤ j ∧ l[j - i]? = some x
  | [], _, _, h => by simp [atGo] at h
  | y :: r, i, j, h => by
    simp only [atGo] at h
    split at h
    · rename_i hxy; cases h; subst hxy; simp
    · obtain ⟨h1, h2⟩ := atGo_some r (i + 1) j h
      refine ⟨by omega, ?_⟩
      rw [show j - i = (j - (i + 1)) + 1 by omega]
      simpa using h2
theorem atGo_none {x : Nd} : ∀ (l : List Nd) (i : Nat), atGo x l i = none → x ∉ l
  | [], _, _ => by simp
  | y :: r, i, h => by
    simp only [atGo] at h
    split at h
    · cases h
    · rename_i hxy
      have := atGo_none r (i + 1) h
      simp only [List.mem_cons, not_or]
      exact ⟨hxy, this⟩
def mkV (ns : List Nd) (x : Nd) : List Nd × Int := if x.2.1 = x.2.2 then (ns, x.2.1) else match atGo x (ns.drop 2) 2 with
  | some i => (ns, i)
  | none => (ns ++ [x], ns.length)
theorem mkV_spec {ns : List Nd} (h : ArOk ns) {x : Nd} {m : Nat} (hv : 0 ≤ x.1) (hm : x.1 + m = 3) (l0 : 0 ≤ x.2.1) (l1 : x.2.1 < ns.length) (r0 : 0 ≤ x.2.2) (r1 : x.2.2 < ns.length) (hl : x.1 < (nd ns x.2.1).1) (hr : x.1 < (nd ns x.2.2).1) :
    ArOk (mkV ns x).1 ∧ (∃ t, (mkV ns x).1 = ns ++ t ∧ t.length ≤ 1) ∧ 0 ≤ (mkV ns x).2 ∧ (mkV ns x).2 < (mkV ns x).1.length ∧ x.1 ≤ (nd (mkV ns x).1 (mkV ns x).2).1 ∧
      tab (mkV ns x).1 (m + 1) x.1 (mkV ns x).2 = tab ns m (x.1 + 1) x.2.1 ++ tab ns m (x.1 + 1) x.2.2 := by
  unfold mkV
  split
  · rename_i he
    refine ⟨h, ⟨[], by simp⟩, l0, l1, by simp only; omega, ?_⟩
    simp only [tab]
    rw [if_neg (by omega), ← he]
  · rename_i hne
    split
    · rename_i i hi
      obtain ⟨h1, h2⟩ := atGo_some _ _ _ hi
      rw [List.getElem?_drop, show 2 + (i - 2) = i by omega] at h2
      have hil := (List.getElem?_eq_some_iff.1 h2).1
      have hnd : nd ns (i : Int) = x := by
        have := nd_at (ns := ns) (f := (i : Int)) (by omega) (by omega)
        rw [Int.toNat_natCast, h2] at this
        exact (Option.some.inj this).symm
      refine ⟨h, ⟨[], by simp⟩, by omega, by simp only; omega, by simp only [hnd]; omega, ?_⟩
      simp only [tab, hnd, if_true]
    · rename_i hi
      have hx := atGo_none _ _ hi
      have hlen := h.len
      have hnew : nd (ns ++ [x]) (ns.length : Int) = x := by simp [nd, List.getD]
      have hok : ArOk (ns ++ [x]) := by
        refine ⟨by rw [List.getElem?_append_left (by omega)]; exact h.no, by rw [List.getElem?_append_left (by omega)]; exact h.yes, fun i y hi hy => ?_, fun i j y hi hj hyi hyj => ?_⟩
        · by_cases hlt : i < ns.length
          · rw [List.getElem?_append_left hlt] at hy
            obtain ⟨a1, a2, a3, a4, a5, a6, a7, a8, a9⟩ := h.node i y hi hy
            refine ⟨a1, a2, a3, a4, a5, a6, a7, ?_, ?_⟩
            · rw [nd_app a3 (by omega)]; exact a8
            · rw [nd_app a5 (by omega)]; exact a9
          · have hil := (List.getElem?_eq_some_iff.1 hy).1
            have hi' : i = ns.length := by simp at hil; omega
            subst hi'
            simp at hy
            subst hy
            refine ⟨hv, by omega, l0, l1, r0, r1, hne, ?_, ?_⟩
            · rw [nd_app l0 l1]; exact hl
            · rw [nd_app r0 r1]; exact hr
        · have hmem : ∀ k, 2 ≤ k → k < ns.length → ns[k]? = some x → False := by
            intro k hk hkl hkx
            apply hx
            have : (ns.drop 2)[k - 2]? = some x := by rw [List.getElem?_drop, show 2 + (k - 2) = k by omega]; exact hkx
            exact List.mem_of_getElem? this
          have hil := (List.getElem?_eq_some_iff.1 hyi).1
          have hjl := (List.getElem?_eq_some_iff.1 hyj).1
          simp at hil hjl
          by_cases c1 : i < ns.length
          · rw [List.getElem?_append_left c1] at hyi
            by_cases c2 : j < ns.length
            · rw [List.getElem?_append_left c2] at hyj
              exact h.once i j y hi hj hyi hyj
            · have : j = ns.length := by omega
              subst this
              simp at hyj
              subst hyj
              exact (hmem i hi c1 hyi).elim
          · have hi' : i = ns.length := by omega
            subst hi'
            simp at hyi
            subst hyi
            by_cases c2 : j < ns.length
            · rw [List.getElem?_append_left c2] at hyj
              exact (hmem j hj c2 hyj).elim
            · omega
      refine ⟨hok, ⟨[x], rfl, Nat.le_refl _⟩, by omega, by simp only [List.length_append, List.length_cons, List.length_nil]; omega, by simp only [hnew]; omega, ?_⟩
      simp only [tab, hnew, if_true]
      rw [tab_app h m _ _ (by omega) (by omega) l0 l1, tab_app h m _ _ (by omega) (by omega) r0 r1]
/-! layer 4: build -/
def bld : Nat → List Nd → Int → List Bool → List Nd × Int
  | 0, ns, _, rows => (ns, if rows.headD false = true then 1 else 0)
  | m + 1, ns, v, rows => mkV (bld m (bld m ns (v + 1) (rows.take (2 ^ m))).1 (v + 1) (rows.drop (2 ^ m))).1 (v, (bld m ns (v + 1) (rows.take (2 ^ m))).2, (bld m (bld m ns (v + 1) (rows.take (2 ^ m))).1 (v + 1) (rows.drop (2 ^ m))).2)
theorem bld_spec : ∀ (m : Nat) (ns : List Nd) (v : Int) (rows : List Bool), ArOk ns → rows.length = 2 ^ m → 0 ≤ v → v + m = 4 →
    ArOk (bld m ns v rows).1 ∧ (∃ t, (bld m ns v rows).1 = ns ++ t ∧ t.length + 1 ≤ 2 ^ m) ∧ 0 ≤ (bld m ns v rows).2 ∧ (bld m ns v rows).2 < (bld m ns v rows).1.length ∧ v ≤ (nd (bld m ns v rows).1 (bld m ns v rows).2).1 ∧ tab (bld m ns v rows).1 m v (bld m ns v rows).2 = rows
  | 0, ns, v, rows, h, hl, hv, hm => by
    have hlen := h.len
    match rows, hl with
    | [b], _ =>
      cases b with
      | true => refine ⟨h, ⟨[], by simp [bld]⟩, by simp [bld], by simp [bld]; omega, ?_, by simp [bld, tab]⟩
                simp only [bld, List.headD_cons, if_true]; rw [h.one]; simp only; omega
      | false => refine ⟨h, ⟨[], by simp [bld]⟩, by simp [bld], by simp [bld]; omega, ?_, by simp [bld, tab]⟩
                 simp only [bld, List.headD_cons, Bool.false_eq_true, if_false]; rw [h.zero]; simp only; omega
  | m + 1, ns, v, rows, h, hl, hv, hm => by
    have hp : 2 ^ (m + 1) = 2 ^ m + 2 ^ m := by rw [Nat.pow_succ]; omega
    obtain ⟨a1, ⟨t1, a2, a2'⟩, a3, a4, a5, a6⟩ := bld_spec m ns (v + 1) (rows.take (2 ^ m)) h (by rw [List.length_take]; omega) (by omega) (by omega)
    obtain ⟨b1, ⟨t2, b2, b2'⟩, b3, b4, b5, b6⟩ := bld_spec m (bld m ns (v + 1) (rows.take (2 ^ m))).1 (v + 1) (rows.drop (2 ^ m)) a1 (by rw [List.length_drop]; omega) (by omega) (by omega)
    have c4 : (bld m ns (v + 1) (rows.take (2 ^ m))).2 < (bld m (bld m ns (v + 1) (rows.take (2 ^ m))).1 (v + 1) (rows.drop (2 ^ m))).1.length := by rw [b2, List.length_append]; omega
    have c5 : v + 1 ≤ (nd (bld m (bld m ns (v + 1) (rows.take (2 ^ m))).1 (v + 1) (rows.drop (2 ^ m))).1 (bld m ns (v + 1) (rows.take (2 ^ m))).2).1 := by rw [b2, nd_app a3 a4]; exact a5
    have c6 : tab (bld m (bld m ns (v + 1) (rows.take (2 ^ m))).1 (v + 1) (rows.drop (2 ^ m))).1 m (v + 1) (bld m ns (v + 1) (rows.take (2 ^ m))).2 = rows.take (2 ^ m) := by
      rw [b2, tab_app a1 m _ _ (by omega) (by omega) a3 a4]; exact a6
    obtain ⟨d1, ⟨t3, d2, d2'⟩, d3, d4, d5, d6⟩ := mkV_spec (m := m) b1 (x := (v, (bld m ns (v + 1) (rows.take (2 ^ m))).2, (bld m (bld m ns (v + 1) (rows.take (2 ^ m))).1 (v + 1) (rows.drop (2 ^ m))).2)) hv (by simp only; omega) a3 c4 b3 b4 (by simp only; omega) (by simp only; omega)
    refine ⟨d1, ⟨t1 ++ t2 ++ t3, ?_, ?_⟩, d3, d4, d5, ?_⟩
    · simp only [bld]; rw [d2, b2, a2]; simp
    · simp only [List.length_append]; omega
    · simp only [bld]
      rw [d6]
      simp only [c6, b6]
      exact List.take_append_drop _ _
end Mq
namespace Mq
open Go
set_option linter.unusedVariables false
set_option linter.unusedSimpArgs false
/-! layer 14: an edge's policy -/
/-- One of the bits of what an edge does. -/
def bitA (a : Attr) (k : Nat) : Bool := if k = 0 ∨ a.ok = false then a.ok else if k ≤ 4 then a.tags.toNat.testBit (k - 1) else if k ≤ 12 then a.pref.toNat.testBit (k - 5) else a.cost.toNat.testBit (k - 13)
def rowsOf (e : Arc) : List Attr := (List.range 16).map fun t : Nat => rowV e (t : Int)
def tableOf (e : Arc) (k : Nat) : List Bool := (rowsOf e).map fun r => bitA r k
/-- The diagrams of some bits, one behind the other. -/
def polGo (e : Arc) : Nat → Nat → List Nd → List Int → List Nd × List Int
  | 0, _, ns, out => (ns, out)
  | f + 1, k, ns, out => polGo e f (k + 1) (bld 4 ns 0 (tableOf e k)).1 (out ++ [(bld 4 ns 0 (tableOf e k)).2])
def polV (ns : List Nd) (e : Arc) : List Nd × List Int := polGo e 24 0 ns []
/-- A diagram of a table. -/
def IsTab (ns : List Nd) (f : Int) (rows : List Bool) : Prop := 0 ≤ f ∧ f < ns.length ∧ tab ns 4 0 f = rows
theorem IsTab.app {ns t : List Nd} (h : ArOk ns) {f : Int} {rows : List Bool} (q : IsTab ns f rows) : IsTab (ns ++ t) f rows := by
  obtain ⟨a, b, c⟩ := q
  refine ⟨a, by rw [List.length_append]; omega, ?_⟩
  rw [tab_app h 4 0 f (by decide) (by decide) a b]; exact c
theorem ArOk.ge {ns : List Nd} (h : ArOk ns) {f : Int} (h0 : 0 ≤ f) (h1 : f < ns.length) : 0 ≤ (nd ns f).1 := by
  rcases h.var h0 h1 with ⟨_, q⟩ | ⟨_, q, _⟩ <;> omega
theorem IsTab.eq {ns : List Nd} (h : ArOk ns) {f g : Int} {r s : List Bool} (hf : IsTab ns f r) (hg : IsTab ns g s) : f = g ↔ r = s := by
  constructor
  · rintro rfl; rw [← hf.2.2, hg.2.2]
  · intro q
    exact tab_uniq h 4 0 f g (by decide) (by decide) hf.1 hf.2.1 hg.1 hg.2.1 (h.ge hf.1 hf.2.1) (h.ge hg.1 hg.2.1) (by rw [hf.2.2, hg.2.2, q])
/-- An edge's policy, in an arena. -/
structure IsPol (ns : List Nd) (e : Arc) (p : List Int) : Prop where
  len : p.length = 24
  tabs : ∀ (k : Nat) f, p[k]? = some f → IsTab ns f (tableOf e k)
theorem IsPol.app {ns t : List Nd} (h : ArOk ns) {e : Arc} {p : List Int} (q : IsPol ns e p) : IsPol (ns ++ t) e p := ⟨q.len, fun k f hk => (q.tabs k f hk).app h⟩
theorem polGo_spec (e : Arc) : ∀ (f k : Nat) (ns : List Nd) (out : List Int), ArOk ns → out.length = k → (∀ (j : Nat) x, out[j]? = some x → IsTab ns x (tableOf e j)) →
    ArOk (polGo e f k ns out).1 ∧ (∃ t, (polGo e f k ns out).1 = ns ++ t ∧ t.length ≤ 15 * f) ∧ (polGo e f k ns out).2.length = k + f ∧ ∀ (j : Nat) x, (polGo e f k ns out).2[j]? = some x → IsTab (polGo e f k ns out).1 x (tableOf e j)
  | 0, k, ns, out, h, hl, ht => ⟨h, ⟨[], by simp [polGo]⟩, by simpa [polGo] using hl, ht⟩
  | f + 1, k, ns, out, h, hl, ht => by
    obtain ⟨b1, ⟨t, b2, b2'⟩, b3, b4, b5, b6⟩ := bld_spec 4 ns 0 (tableOf e k) h (by simp [tableOf, rowsOf]) (by decide) (by decide)
    obtain ⟨c1, ⟨t2, c2, c2'⟩, c3, c4⟩ := polGo_spec e f (k + 1) (bld 4 ns 0 (tableOf e k)).1 (out ++ [(bld 4 ns 0 (tableOf e k)).2]) b1 (by simp [hl]) (fun j x hj => by
      by_cases hjl : j < out.length
      · rw [List.getElem?_append_left hjl] at hj
        rw [b2]; exact (ht j x hj).app h
      · have := (List.getElem?_eq_some_iff.1 hj).1
        have hj' : j = out.length := by simp at this; omega
        subst hj'
        simp at hj
        subst hj
        rw [hl]
        exact ⟨b3, b4, b6⟩)
    refine ⟨c1, ⟨t ++ t2, ?_, ?_⟩, by simp only [polGo]; omega, c4⟩
    · simp only [polGo]; rw [c2, b2]; simp
    · simp only [List.length_append]; omega
theorem polV_spec {ns : List Nd} (h : ArOk ns) (e : Arc) : ArOk (polV ns e).1 ∧ (∃ t, (polV ns e).1 = ns ++ t ∧ t.length ≤ 360) ∧ IsPol (polV ns e).1 e (polV ns e).2 := by
  obtain ⟨a, b, c, d⟩ := polGo_spec e 24 0 ns [] h rfl (by simp)
  exact ⟨a, b, c, d⟩
def eqA (a b : Attr) : Bool := a.ok == b.ok && (a.pref == b.pref && (a.cost == b.cost && a.tags == b.tags))
theorem eqA_iff {a b : Attr} : eqA a b = true ↔ a = b := by
  unfold eqA
  constructor
  · intro h; apply Attr.ext' <;> grind
  · rintro rfl; simp
/-- Do two edges the same? -/
def sameE (x y : Arc) : Bool := (List.range 16).all fun t : Nat => eqA (rowV x (t : Int)) (rowV y (t : Int))
theorem sameE_iff {x y : Arc} : sameE x y = true ↔ rowsOf x = rowsOf y := by
  unfold sameE rowsOf
  rw [List.all_eq_true]
  constructor
  · intro h; exact List.map_congr_left fun t ht => eqA_iff.1 (h t ht)
  · intro h t ht
    rw [eqA_iff]
    have ht := List.mem_range.1 ht
    have := congrArg (fun l => l[t]?) h
    simpa [ht] using this
theorem doGo_pref {a b : Int} {x : Attr} (h : 0 ≤ x.pref ∧ x.pref ≤ 255) : ∀ cs : List Clause, (doGo a b x cs).ok = true → 0 ≤ (doGo a b x cs).pref ∧ (doGo a b x cs).pref ≤ 255
  | [], _ => h
  | c :: r, ho => by
    simp only [doGo] at ho ⊢
    split
    · rename_i hm
      rw [if_pos hm] at ho
      split
      · rename_i hd; rw [if_pos hd] at ho; cases ho
      · simp only [clauseV]; split <;> omega
    · rename_i hm
      rw [if_neg hm] at ho
      exact doGo_pref h r ho
theorem take_pref255 {e : Arc} {a : Attr} (ho : (takeV e a).ok = true) : 0 ≤ (takeV e a).pref ∧ (takeV e a).pref ≤ 255 := by
  unfold takeV at ho ⊢
  split at ho
  · rename_i hx
    rw [if_pos hx]
    obtain ⟨g1, g2⟩ := doV_ok ho
    rw [g2] at ho ⊢
    exact doGo_pref ⟨show (0 : Int) ≤ 100 by decide, show (100 : Int) ≤ 255 by decide⟩ _ ho
  · cases ho
/-- The numbers of a row. -/
theorem row_num (e : Arc) (t : Nat) (ht : t < 16) : (rowV e (t : Int) = attr0) ∨ ((rowV e (t : Int)).ok = true ∧ (0 ≤ (rowV e (t : Int)).pref ∧ (rowV e (t : Int)).pref ≤ 255) ∧ (0 ≤ (rowV e (t : Int)).tags ∧ (rowV e (t : Int)).tags ≤ 15) ∧ (0 ≤ (rowV e (t : Int)).cost ∧ (rowV e (t : Int)).cost ≤ 1030)) := by
  have h15 := u8_and15 (t : Int)
  rcases take_num (e := e) (B := 0) (by decide) (a := ⟨true, 100, 0, bitV .and .u8 (t : Int) 15⟩) ⟨h15, Int.le_refl _, Int.le_refl _⟩ with ⟨_, q⟩ | ⟨q1, _, q3, _⟩
  · exact .inl q
  · exact .inr ⟨q1, take_pref255 q1, q3.tags, q3.lo, by have := q3.hi; show (takeV _ _).cost ≤ 1030; omega⟩
theorem bits_eq {x y : Int} {n : Nat} (hx : 0 ≤ x) (hx2 : x < 2 ^ n) (hy : 0 ≤ y) (hy2 : y < 2 ^ n) (h : ∀ i, i < n → x.toNat.testBit i = y.toNat.testBit i) : x = y := by
  have : x.toNat = y.toNat := by
    apply Nat.eq_of_testBit_eq
    intro i
    by_cases hi : i < n
    · exact h i hi
    · have hle : 2 ^ n ≤ 2 ^ i := Nat.pow_le_pow_right (by decide) (by omega)
      have a : x.toNat < 2 ^ n := by have : ((2 ^ n : Nat) : Int) = 2 ^ n := by push_cast; rfl
                                     omega
      have b : y.toNat < 2 ^ n := by have : ((2 ^ n : Nat) : Int) = 2 ^ n := by push_cast; rfl
                                     omega
      rw [Nat.testBit_lt_two_pow (by omega), Nat.testBit_lt_two_pow (by omega)]
  omega
theorem bits_row {a b : Attr} (ha : a = attr0 ∨ (a.ok = true ∧ (0 ≤ a.pref ∧ a.pref ≤ 255) ∧ (0 ≤ a.tags ∧ a.tags ≤ 15) ∧ (0 ≤ a.cost ∧ a.cost ≤ 1030))) (hb : b = attr0 ∨ (b.ok = true ∧ (0 ≤ b.pref ∧ b.pref ≤ 255) ∧ (0 ≤ b.tags ∧ b.tags ≤ 15) ∧ (0 ≤ b.cost ∧ b.cost ≤ 1030)))
    (h : ∀ k, k < 24 → bitA a k = bitA b k) : a = b := by
  have h0 := h 0 (by decide)
  simp only [bitA, true_or, if_true] at h0
  rcases ha with rfl | ⟨ao, ap, at', ac⟩
  · rcases hb with rfl | ⟨bo, _⟩
    · rfl
    · rw [bo] at h0; cases h0
  · rcases hb with rfl | ⟨bo, bp, bt, bc⟩
    · rw [ao] at h0; cases h0
    · refine Attr.ext' h0 (bits_eq (n := 8) ap.1 (by omega) bp.1 (by omega) (fun i hi => ?_)) (bits_eq (n := 11) ac.1 (by omega) bc.1 (by omega) (fun i hi => ?_)) (bits_eq (n := 4) at'.1 (by omega) bt.1 (by omega) (fun i hi => ?_))
      · have := h (i + 5) (by omega)
        simpa [bitA, ao, bo, show ¬ i + 5 ≤ 4 by omega, show i + 5 ≤ 12 by omega, show i + 5 - 5 = i by omega] using this
      · have := h (i + 13) (by omega)
        simpa [bitA, ao, bo, show ¬ i + 13 ≤ 4 by omega, show ¬ i + 13 ≤ 12 by omega, show i + 13 - 13 = i by omega] using this
      · have := h (i + 1) (by omega)
        simpa [bitA, ao, bo, show i + 1 ≤ 4 by omega, show i + 1 - 1 = i by omega] using this
/-- Two policies are the same just if the edges do the same. -/
theorem pol_eq {ns : List Nd} (h : ArOk ns) {x y : Arc} {p q : List Int} (hp : IsPol ns x p) (hq : IsPol ns y q) : p = q ↔ sameE x y = true := by
  rw [sameE_iff]
  constructor
  · intro he
    subst he
    unfold rowsOf
    refine List.map_congr_left fun t ht => ?_
    have ht := List.mem_range.1 ht
    refine bits_row (row_num x t ht) (row_num y t ht) (fun k hk => ?_)
    have hkl : k < p.length := by rw [hp.len]; exact hk
    have a := hp.tabs k _ (List.getElem?_eq_getElem hkl)
    have b := hq.tabs k _ (List.getElem?_eq_getElem hkl)
    have := (IsTab.eq h a b).1 rfl
    have := congrArg (fun l => l[t]?) this
    simpa [tableOf, rowsOf, ht] using this
  · intro he
    apply List.ext_getElem?
    intro k
    by_cases hk : k < 24
    · have hkp : k < p.length := by rw [hp.len]; exact hk
      have hkq : k < q.length := by rw [hq.len]; exact hk
      rw [List.getElem?_eq_getElem hkp, List.getElem?_eq_getElem hkq]
      congr 1
      exact (IsTab.eq h (hp.tabs k _ (List.getElem?_eq_getElem hkp)) (hq.tabs k _ (List.getElem?_eq_getElem hkq))).2 (by unfold tableOf; rw [he])
    · rw [List.getElem?_eq_none (by rw [hp.len]; omega), List.getElem?_eq_none (by rw [hq.len]; omega)]
end Mq
