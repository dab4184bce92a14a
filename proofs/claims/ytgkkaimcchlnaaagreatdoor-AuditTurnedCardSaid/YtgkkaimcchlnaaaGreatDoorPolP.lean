/- What edges do, one behind the other, in plain words. Printed by a program of this project (wip/mq). -/
import Derived.Test.YtgkkaimcchlnaaaGreatDoorCmp
import Derived.Test.YtgkkaimcchlnaaaGreatDoorMqPl
set_option linter.unusedVariables false
set_option linter.unusedSimpArgs false

namespace Go.Proofs.YtgkkaimcchlnaaaGreatDoor
open Go Mq Go.ChangeShapes Go.WideShapes Go.ChangeAt Go.RowKit
set_option maxRecDepth 20000
set_option maxHeartbeats 4000000


/-! What the edges of a network do, one behind the other, in one arena. -/
def polRow : List Nd → List Arc → List (List Int) → List Nd × List (List Int)
  | ns, [], row => (ns, row)
  | ns, e :: r, row => polRow (polV ns e).1 r (row ++ [(polV ns e).2])
def polAll : List Nd → List (List Arc) → List (List (List Int)) → List Nd × List (List (List Int))
  | ns, [], out => (ns, out)
  | ns, es :: r, out => polAll (polRow ns es []).1 r (out ++ [(polRow ns es []).2])
def polsV (n : Net) : List Nd × List (List (List Int)) := polAll ns0 n.edges []
theorem polRow_spec : ∀ (es : List Arc) (ns : List Nd) (pre : List Arc) (row : List (List Int)), ArOk ns → row.length = pre.length → (∀ (i : Nat) e p, pre[i]? = some e → row[i]? = some p → IsPol ns e p) →
    ArOk (polRow ns es row).1 ∧ (∃ t, (polRow ns es row).1 = ns ++ t) ∧ (polRow ns es row).2.length = pre.length + es.length ∧ ∀ (i : Nat) e p, (pre ++ es)[i]? = some e → (polRow ns es row).2[i]? = some p → IsPol (polRow ns es row).1 e p
  | [], ns, pre, row, h, hl, hp => ⟨h, ⟨[], by simp [polRow]⟩, by simpa [polRow] using hl, by simpa [polRow] using hp⟩
  | e :: r, ns, pre, row, h, hl, hp => by
    obtain ⟨a1, ⟨t, a2, _⟩, a3⟩ := polV_spec h e
    obtain ⟨b1, ⟨t2, b2⟩, b3, b4⟩ := polRow_spec r (polV ns e).1 (pre ++ [e]) (row ++ [(polV ns e).2]) a1 (by simp [hl]) (fun i f p hi hq => by
      by_cases hil : i < pre.length
      · rw [List.getElem?_append_left hil] at hi
        rw [List.getElem?_append_left (by omega)] at hq
        have := (hp i f p hi hq).app (t := t) h
        rwa [← a2] at this
      · have : i = pre.length := by have := (List.getElem?_eq_some_iff.1 hi).1; simp at this; omega
        subst this
        simp at hi
        subst hi
        rw [← hl] at hq
        simp at hq
        subst hq
        exact a3)
    refine ⟨b1, ⟨t ++ t2, ?_⟩, by simp only [polRow]; rw [b3]; simp; omega, ?_⟩
    · simp only [polRow]; rw [b2, a2]; simp
    · intro i f p hi hq
      simp only [polRow] at hq
      exact b4 i f p (by simpa using hi) hq
theorem polAll_spec : ∀ (ess : List (List Arc)) (ns : List Nd) (pre : List (List Arc)) (out : List (List (List Int))), ArOk ns → out.length = pre.length →
    (∀ (k : Nat) es ps, pre[k]? = some es → out[k]? = some ps → ps.length = es.length ∧ ∀ (i : Nat) e p, es[i]? = some e → ps[i]? = some p → IsPol ns e p) →
    ArOk (polAll ns ess out).1 ∧ (polAll ns ess out).2.length = pre.length + ess.length ∧ ∀ (k : Nat) es ps, (pre ++ ess)[k]? = some es → (polAll ns ess out).2[k]? = some ps → ps.length = es.length ∧ ∀ (i : Nat) e p, es[i]? = some e → ps[i]? = some p → IsPol (polAll ns ess out).1 e p
  | [], ns, pre, out, h, hl, hp => ⟨h, by simpa [polAll] using hl, by simpa [polAll] using hp⟩
  | es :: r, ns, pre, out, h, hl, hp => by
    obtain ⟨a1, ⟨t, a2⟩, a3, a4⟩ := polRow_spec es ns [] [] h rfl (fun i e p hi _ => by simp at hi)
    obtain ⟨b1, b2, b3⟩ := polAll_spec r (polRow ns es []).1 (pre ++ [es]) (out ++ [(polRow ns es []).2]) a1 (by simp [hl]) (fun k fs ps hk hq => by
      by_cases hkl : k < pre.length
      · rw [List.getElem?_append_left hkl] at hk
        rw [List.getElem?_append_left (by omega)] at hq
        obtain ⟨c1, c2⟩ := hp k fs ps hk hq
        exact ⟨c1, fun i e p h1 h2 => by have := (c2 i e p h1 h2).app (t := t) h; rwa [← a2] at this⟩
      · have : k = pre.length := by have := (List.getElem?_eq_some_iff.1 hk).1; simp at this; omega
        subst this
        simp at hk
        subst hk
        rw [← hl] at hq
        simp at hq
        subst hq
        exact ⟨by simpa using a3, fun i e p h1 h2 => a4 i e p (by simpa using h1) h2⟩)
    refine ⟨b1, by simp only [polAll]; rw [b2]; simp; omega, ?_⟩
    intro k fs ps hk hq
    simp only [polAll] at hq
    exact b3 k fs ps (by simpa using hk) hq
theorem pols_spec (n : Net) : Pols (polsV n).1 n (polsV n).2 ∧ (polsV n).2.length = n.edges.length ∧ ∀ ps ∈ (polsV n).2, ∀ p ∈ ps, p.length = 24 := by
  obtain ⟨a, b, c⟩ := polAll_spec n.edges ns0 [] [] ns0_ok rfl (fun k es ps hk _ => by simp at hk)
  have hb : (polsV n).2.length = n.edges.length := by simpa [polsV] using b
  have hc : ∀ (k : Nat) es ps, n.edges[k]? = some es → (polsV n).2[k]? = some ps → ps.length = es.length ∧ ∀ (i : Nat) e p, es[i]? = some e → ps[i]? = some p → IsPol (polsV n).1 e p := fun k es ps h1 h2 => c k es ps (by simpa using h1) h2
  refine ⟨⟨a, fun k => ?_, fun k i e p h1 h2 => ?_⟩, hb, fun ps hps p hp => ?_⟩
  · by_cases hk : k < n.edges.length
    · have e1 : n.edges[k]? = some _ := List.getElem?_eq_getElem hk
      have e2 : (polsV n).2[k]? = some _ := List.getElem?_eq_getElem (by omega)
      rw [gD_some e1, gD_some e2]
      exact (hc k _ _ e1 e2).1
    · rw [List.getD_eq_getElem?_getD, List.getD_eq_getElem?_getD, List.getElem?_eq_none (l := n.edges) (i := k) (by omega), List.getElem?_eq_none (l := (polsV n).2) (i := k) (by omega)]
      rfl
  · by_cases hk : k < n.edges.length
    · have e1 : n.edges[k]? = some _ := List.getElem?_eq_getElem hk
      have e2 : (polsV n).2[k]? = some _ := List.getElem?_eq_getElem (by omega)
      rw [gD_some e1] at h1
      rw [gD_some e2] at h2
      exact (hc k _ _ e1 e2).2 i e p h1 h2
    · rw [List.getD_eq_getElem?_getD, List.getElem?_eq_none (l := n.edges) (i := k) (by omega)] at h1
      simp at h1
  · obtain ⟨k, hk⟩ := List.mem_iff_getElem?.1 hps
    obtain ⟨i, hi⟩ := List.mem_iff_getElem?.1 hp
    have hkl := (List.getElem?_eq_some_iff.1 hk).1
    obtain ⟨es, e1⟩ : ∃ es, n.edges[k]? = some es := ⟨_, List.getElem?_eq_getElem (by omega)⟩
    obtain ⟨c1, c2⟩ := hc k _ _ e1 hk
    have hil := (List.getElem?_eq_some_iff.1 hi).1
    have e2 : es[i]? = some _ := List.getElem?_eq_getElem (by omega)
    exact (c2 i _ p e2 hi).len
abbrev pssD (ps : List (List Int)) : List D := [.sl 24 (ps.map polD)]
theorem toDs_pol : ∀ (p : List Int), toDs (polA p) = some (polD p)
  | [] => rfl
  | x :: p => by
    have := toDs_pol p
    simp only [polA, polD] at this
    simp only [polA, polD, List.map_cons, toDs, toD, this]
theorem nm_pol (p : List Int) : nm (.tp [.ag (polA p), .d (.v .nilIface)]) = [] := by simp only [nm, nmL, nmL_pol, List.append_nil]
theorem gOk2_nm {os osF : Mq.Os} {H : List Nat} {τ σ : List (Nat × Nat)} {rv : AV} (h : nm rv = []) (h2 : gOk2 os H τ σ .un osF = true) : gOk2 os H τ σ rv osF = true := by
  unfold gOk2 at h2 ⊢
  rw [h]; exact h2
theorem renL_pol (σ : Nat → Nat) : ∀ (p : List Int), renL σ (polA p) = polA p
  | [] => rfl
  | x :: p => by
    have := renL_pol σ p
    simp only [polA] at this
    simp only [polA, List.map_cons, renL, ren, this]
theorem toVals_pol : ∀ (p : List Int), toVals (polA p) = some (p.map (Value.int .i64))
  | [] => rfl
  | x :: p => by
    have := toVals_pol p
    simp only [polA] at this
    simp only [polA, List.map_cons, toVals, this]
theorem take_polA {p : List Int} (h : p.length = 24) : List.take 24 (polA p) = polA p := List.take_of_length_le (by rw [polA_len, h]; decide)
theorem take_polD {p : List Int} (h : p.length = 24) : List.take 24 (polD p) = polD p := List.take_of_length_le (by rw [polD_len, h]; decide)
theorem polA_24 {p : List Int} (h : p.length = 24) : (polA p).length = 24 := by rw [polA_len, h]
theorem polD_24 {p : List Int} (h : p.length = 24) : (polD p).length = 24 := by rw [polD_len, h]
theorem splice_pol {p : List Int} (h : p.length = 24) : splice [.d (.v (.int .i64 0)), .d (.v (.int .i64 0)), .d (.v (.int .i64 0)), .d (.v (.int .i64 0)), .d (.v (.int .i64 0)), .d (.v (.int .i64 0)), .d (.v (.int .i64 0)), .d (.v (.int .i64 0)), .d (.v (.int .i64 0)), .d (.v (.int .i64 0)), .d (.v (.int .i64 0)), .d (.v (.int .i64 0)), .d (.v (.int .i64 0)), .d (.v (.int .i64 0)), .d (.v (.int .i64 0)), .d (.v (.int .i64 0)), .d (.v (.int .i64 0)), .d (.v (.int .i64 0)), .d (.v (.int .i64 0)), .d (.v (.int .i64 0)), .d (.v (.int .i64 0)), .d (.v (.int .i64 0)), .d (.v (.int .i64 0)), .d (.v (.int .i64 0))] 0 (polA p) = polA p := splice_whole (by rw [polA_len, h]; rfl)
theorem polV_24 {ns : List Nd} (h : ArOk ns) (e : Arc) : (polV ns e).2.length = 24 := (polV_spec h e).2.2.len
theorem polRow_ok {ns : List Nd} (h : ArOk ns) (es : List Arc) : ArOk (polRow ns es []).1 := (polRow_spec es ns [] [] h rfl (fun i e p hi _ => by simp at hi)).1
/-- Within the policies of a network. -/
def PolI (n : Net) (x : Nat × List Nd × List (List (List Int))) : Prop := x.1 ≤ n.edges.length ∧ ArOk x.2.1 ∧ x.2.2.length = x.1 ∧ polAll x.2.1 (n.edges.drop x.1) x.2.2 = polsV n
theorem PolI.zero (n : Net) : PolI n (0, ns0, []) := ⟨Nat.zero_le _, ns0_ok, rfl, rfl⟩
theorem PolI.ar {n : Net} {x : Nat × List Nd × List (List (List Int))} (h : PolI n x) : ArOk x.2.1 := h.2.1
theorem PolI.len {n : Net} {x : Nat × List Nd × List (List (List Int))} (h : PolI n x) : x.2.2.length = x.1 := h.2.2.1
theorem PolI.next {n : Net} {x : Nat × List Nd × List (List (List Int))} (h : PolI n x) {es : List Arc} (hk : n.edges[x.1]? = some es) {r : List Nd × List (List Int)} (hr : r = polRow x.2.1 es []) : PolI n (x.1 + 1, r.1, x.2.2 ++ [r.2]) := by
  obtain ⟨h1, h2, h3, h4⟩ := h
  have hlt := (List.getElem?_eq_some_iff.1 hk).1
  subst hr
  refine ⟨hlt, polRow_ok h2 es, by simp [h3], ?_⟩
  rw [← h4, List.drop_eq_getElem_cons hlt]
  have : n.edges[x.1] = es := by rw [List.getElem?_eq_getElem hlt] at hk; exact Option.some.inj hk
  rw [this]
  rfl
theorem PolI.done {n : Net} {x : Nat × List Nd × List (List (List Int))} (h : PolI n x) (hl : ¬ x.1 < n.edges.length) : x.2.2 = (polsV n).2 := by
  obtain ⟨h1, h2, h3, h4⟩ := h
  rw [← h4, List.drop_eq_nil_of_le (by omega)]
  rfl
/-- Within those of a node. -/
def PolR (es : List Arc) (ns : List Nd) (y : Nat × List Nd × List (List Int)) : Prop := y.1 ≤ es.length ∧ ArOk y.2.1 ∧ y.2.2.length = y.1 ∧ polRow y.2.1 (es.drop y.1) y.2.2 = polRow ns es []
theorem PolR.zero (es : List Arc) {ns : List Nd} (h : ArOk ns) : PolR es ns (0, ns, []) := ⟨Nat.zero_le _, h, rfl, rfl⟩
theorem PolR.ar {es : List Arc} {ns : List Nd} {y : Nat × List Nd × List (List Int)} (h : PolR es ns y) : ArOk y.2.1 := h.2.1
theorem PolR.len {es : List Arc} {ns : List Nd} {y : Nat × List Nd × List (List Int)} (h : PolR es ns y) : y.2.2.length = y.1 := h.2.2.1
theorem PolR.next {es : List Arc} {ns : List Nd} {y : Nat × List Nd × List (List Int)} (h : PolR es ns y) {e : Arc} (hk : es[y.1]? = some e) {r : List Nd × List Int} (hr : polV y.2.1 e = r) : PolR es ns (y.1 + 1, r.1, y.2.2 ++ [r.2]) := by
  subst hr
  obtain ⟨h1, h2, h3, h4⟩ := h
  have hlt := (List.getElem?_eq_some_iff.1 hk).1
  refine ⟨hlt, (polV_spec h2 e).1, by simp [h3], ?_⟩
  rw [← h4, List.drop_eq_getElem_cons hlt]
  have : es[y.1] = e := by rw [List.getElem?_eq_getElem hlt] at hk; exact Option.some.inj hk
  rw [this]
  rfl
theorem PolR.done {es : List Arc} {ns : List Nd} {y : Nat × List Nd × List (List Int)} (h : PolR es ns y) (hl : ¬ y.1 < es.length) : y.2 = polRow ns es [] := by
  obtain ⟨h1, h2, h3, h4⟩ := h
  rw [← h4, List.drop_eq_nil_of_le (by omega)]
  rfl
end Go.Proofs.YtgkkaimcchlnaaaGreatDoor
