/- What layer 19 does with networks and blocks, in plain words; each network stands for itself, each node for itself; it is its own quotient. Part of a verified reader of code, common to this project's claims. -/
import Derived.Test.YtipekfhpcjcabaaDoorMqPl11
set_option linter.unusedVariables false
set_option linter.unusedSimpArgs false
namespace Mq
open Go
set_option linter.unusedVariables false
set_option linter.unusedSimpArgs false
/-! layer 19: audit -/
def overV (m : Net) (x y : Int) (e : Arc) : Bool := (m.edges.getD x.toNat []).any fun f => f.src == y && sameE f e
def fromV (n : Net) (b : List Int) (k : Int) (x : Int) (e : Arc) : Bool := (n.edges.getD k.toNat []).any fun f => b.getD f.src.toNat 0 == x && sameE f e
def aloneV (n : Net) (k : Int) : Bool := n.fixed k || (decide (0 ≤ k) && (decide (k < n.edges.length) && (n.edges.getD k.toNat []).any likesE))
def aVia (n : Net) (b : List Int) (k : Int) : Int := if 0 ≤ n.static.getD k.toNat 0 then b.getD (n.static.getD k.toNat 0).toNat 0 else -1
def nodeV (n m : Net) (b : List Int) (k : Int) (sev : Bool) : Bool :=
  if n.origin.getD k.toNat false != m.origin.getD (b.getD k.toNat 0).toNat false || (aVia n b k != m.static.getD (b.getD k.toNat 0).toNat 0 || (sev && aloneV n k)) then false
  else (n.edges.getD k.toNat []).all (fun e => b.getD e.src.toNat 0 == b.getD k.toNat 0 || overV m (b.getD k.toNat 0) (b.getD e.src.toNat 0) e) &&
    (m.edges.getD (b.getD k.toNat 0).toNat []).all (fun e => fromV n b k e.src e)
def cntGo (N : Int) : List Int → List Int → Option (List Int)
  | [], m => some m
  | x :: r, m => if decide (x < 0) || decide (N ≤ x) then none else cntGo N r (m.set x.toNat (m.getD x.toNat 0 + 1))
def nodesGo (n m : Net) (b c : List Int) : List Int → Nat → Bool
  | [], _ => true
  | x :: r, k => nodeV n m b k (decide (1 < c.getD x.toNat 0)) && nodesGo n m b c r (k + 1)
def isCode (n m : Net) (b : List Int) : Int :=
  if !n.may || (!m.may || b.length != n.origin.length) then 10
  else match cntGo m.origin.length b (List.replicate m.origin.length 0) with
    | none => 10
    | some c => if c.any (· == 0) then 10 else if nodesGo n m b c b 0 then 0 else 9
theorem sameE_refl (e : Arc) : sameE e e = true := sameE_iff.2 rfl
def idL (N : Nat) : List Int := (List.range N).map fun k : Nat => (k : Int)
theorem idL_len (N : Nat) : (idL N).length = N := by simp [idL]
theorem idL_get {N : Nat} {x : Int} (h0 : 0 ≤ x) (h1 : x < N) : (idL N).getD x.toNat 0 = x := by
  have : x.toNat < N := by omega
  simp [idL, List.getD, this]; omega
theorem idL_drop {N k : Nat} (h : k < N) : (idL N).drop k = (k : Int) :: (idL N).drop (k + 1) := by
  rw [List.drop_eq_getElem_cons (by simpa [idL] using h)]
  simp [idL]
theorem idL_succ (N : Nat) : idL (N + 1) = idL N ++ [(N : Int)] := by simp [idL, List.range_succ]
theorem cnt_id (N : Nat) : ∀ (j k : Nat), j + k = N → cntGo N ((idL N).drop k) (List.replicate k 1 ++ List.replicate j 0) = some (List.replicate N 1)
  | 0, k, h => by
    have : k = N := by omega
    subst this
    rw [List.drop_eq_nil_of_le (by simp [idL])]
    simp [cntGo]
  | j + 1, k, h => by
    rw [idL_drop (by omega), cntGo, if_neg (by simp; omega), ← cnt_id N j (k + 1) (by omega)]
    congr 1
    apply List.ext_getElem?
    intro i
    have e1 : ((List.replicate k (1 : Int) ++ List.replicate (j + 1) 0).getD k 0) = 0 := by simp [List.getD, List.getElem?_append]
    rw [Int.toNat_natCast, e1, List.getElem?_set]
    by_cases hi : k = i
    · subst hi
      simp [List.getElem?_append, List.getElem?_replicate]
    · rw [if_neg hi]
      simp only [List.getElem?_append, List.length_replicate, List.getElem?_replicate]
      by_cases h1 : i < k
      · simp [h1, show i < k + 1 by omega]
      · by_cases h2 : i - k < j + 1
        · have : i - (k + 1) < j := by omega
          simp [h1, show ¬ i < k + 1 by omega, h2, this]
        · have : ¬ i - (k + 1) < j := by omega
          simp [h1, show ¬ i < k + 1 by omega, h2, this]
theorem node_id {n : Net} (m : n.May) (hs : ∀ st ∈ n.static, -1 ≤ st) {k : Nat} (hk : k < n.origin.length) : nodeV n n (idL n.origin.length) k false = true := by
  have m1 := m.static
  have m2 := m.edges
  have hb : (idL n.origin.length).getD (k : Int).toNat 0 = (k : Int) := idL_get (by omega) (by omega)
  have hst : n.static[k]? = some n.static[k] := List.getElem?_eq_getElem (by omega)
  have hes : n.edges[k]? = some n.edges[k] := List.getElem?_eq_getElem (by omega)
  have hv : aVia n (idL n.origin.length) k = n.static.getD (k : Int).toNat 0 := by
    unfold aVia
    have hge : n.static.getD (k : Int).toNat 0 = n.static[k] := by simp [List.getD, hst]
    rw [hge]
    have := hs _ (List.mem_of_getElem? hst)
    by_cases h0 : 0 ≤ n.static[k]
    · rw [if_pos h0]
      exact idL_get h0 (m.st_lt hst)
    · rw [if_neg h0]; omega
  unfold nodeV
  rw [hb, hv, if_neg (by simp)]
  have hee : n.edges.getD (k : Int).toNat [] = n.edges[k] := by simp [List.getD, hes]
  rw [Bool.and_eq_true, List.all_eq_true, List.all_eq_true]
  refine ⟨fun e he => ?_, fun e he => ?_⟩
  · have hsrc := m.src k _ hes e (hee ▸ he)
    rw [idL_get hsrc.1 hsrc.2.1, Bool.or_eq_true]
    right
    unfold overV
    rw [List.any_eq_true]
    exact ⟨e, he, by simp [sameE_refl]⟩
  · have hsrc := m.src k _ hes e (hee ▸ he)
    unfold fromV
    rw [List.any_eq_true]
    exact ⟨e, he, by rw [idL_get hsrc.1 hsrc.2.1]; simp [sameE_refl]⟩
/-- Each network stands for itself, each node for itself. -/
theorem is_id {n : Net} (hm : n.may = true) (hs : ∀ st ∈ n.static, -1 ≤ st) : isCode n n (idL n.origin.length) = 0 := by
  have m := Net.may_spec hm
  unfold isCode
  rw [if_neg (by simp [hm, idL_len])]
  have h1 := cnt_id n.origin.length n.origin.length 0 (by omega)
  simp only [List.drop_zero, List.replicate_zero, List.nil_append] at h1
  rw [h1]
  simp only
  rw [if_neg (by simp)]
  have : ∀ (f k : Nat), k + f = n.origin.length → nodesGo n n (idL n.origin.length) (List.replicate n.origin.length 1) ((idL n.origin.length).drop k) k = true := by
    intro f
    induction f with
    | zero => intro k h; rw [List.drop_eq_nil_of_le (by rw [idL_len]; omega)]; rfl
    | succ f ih =>
      intro k h
      rw [idL_drop (by omega), nodesGo]
      have hc : decide ((1 : Int) < (List.replicate n.origin.length (1 : Int)).getD (k : Int).toNat 0) = false := by
        simp only [decide_eq_false_iff_not, List.getD, List.getElem?_replicate, Int.toNat_natCast]
        rw [if_pos (by omega)]; simp
      rw [hc, node_id m hs (by omega), ih (k + 1) (by omega)]; rfl
  have h2 := this n.origin.length 0 (by omega)
  simp only [List.drop_zero] at h2
  rw [h2, if_pos rfl]
/-! layer 18, of blocks that are nodes -/
theorem firsts_id (N : Nat) : ∀ (j k : Nat), j + k = N → firstsGo ((idL N).drop k) k (idL k) = some (idL N)
  | 0, k, h => by
    have : k = N := by omega
    subst this
    rw [List.drop_eq_nil_of_le (by simp [idL])]
    rfl
  | j + 1, k, h => by
    rw [idL_drop (by omega), firstsGo, if_neg (by simp [idL_len]), if_pos (by simp [idL_len])]
    have := firsts_id N j (k + 1) (by omega)
    rw [idL_succ] at this
    exact this
theorem quotEs_id {N : Nat} : ∀ (es : List Arc) (seen : List Int) (out : List Arc), (∀ e ∈ es, 0 ≤ e.src ∧ e.src < N ∧ e.src ∉ seen) → (es.map (·.src)).Nodup → quotEs (idL N) es seen out = out ++ es
  | [], _, _, _, _ => by simp [quotEs]
  | e :: r, seen, out, h, hn => by
    have h1 := h e (by simp)
    have e1 : (idL N).getD e.src.toNat 0 = e.src := idL_get h1.1 h1.2.1
    rw [List.map_cons, List.nodup_cons] at hn
    simp only [quotEs, e1]
    rw [if_neg (by simpa using h1.2.2), quotEs_id r _ _ (fun x hx => ⟨(h x (by simp [hx])).1, (h x (by simp [hx])).2.1, fun q => ?_⟩) hn.2]
    · simp
    · rcases mem_sadd.1 q with q | q
      · exact (h x (by simp [hx])).2.2 q
      · exact hn.1 (q ▸ List.mem_map_of_mem hx)
/-- A network is the quotient of itself by its nodes. -/
theorem quot_id {n : Net} (hm : n.may = true) (hs : ∀ st ∈ n.static, -1 ≤ st) : n.quot (idL n.origin.length) = some n := by
  have m := Net.may_spec hm
  have m1 := m.static
  have m2 := m.edges
  have hf : n.firsts (idL n.origin.length) = some (idL n.origin.length) := by
    unfold Net.firsts
    rw [if_neg (by simp [hm, idL_len])]
    have := firsts_id n.origin.length n.origin.length 0 (by omega)
    simpa [idL] using this
  unfold Net.quot
  rw [hf]
  have : ∀ (f k : Nat), f + k = n.origin.length → quotGo n (idL n.origin.length) ((idL n.origin.length).drop k) k ⟨n.origin.take k, n.static.take k, n.edges.take k⟩ = some n := by
    intro f
    induction f with
    | zero =>
      intro k h
      rw [List.drop_eq_nil_of_le (by rw [idL_len]; omega), List.take_of_length_le (by omega), List.take_of_length_le (by omega), List.take_of_length_le (by omega)]
      rfl
    | succ f ih =>
      intro k h
      have hst : n.static[k]? = some n.static[k] := List.getElem?_eq_getElem (by omega)
      have hes : n.edges[k]? = some n.edges[k] := List.getElem?_eq_getElem (by omega)
      have hor : n.origin[k]? = some n.origin[k] := List.getElem?_eq_getElem (by omega)
      have hge : n.static.getD (k : Int).toNat 0 = n.static[k] := by simp [List.getD, hst]
      have h1 := hs _ (List.mem_of_getElem? hst)
      have hv : n.via (idL n.origin.length) k = n.static[k] := by
        simp only [Net.via, hge]
        by_cases h0 : 0 ≤ n.static[k]
        · have h2 : (if n.static[k] > -1 then n.static[k] else -1) = n.static[k] := if_pos (by omega)
          rw [h2, if_pos h0]
          exact idL_get h0 (m.st_lt hst)
        · have h2 : (if n.static[k] > -1 then n.static[k] else -1) = n.static[k] := by rw [if_neg (by omega)]; omega
          rw [h2, if_neg h0]
      have hne : ¬ (n.static[k] == (k : Int)) = true := by
        intro q
        have q : n.static[k] = (k : Int) := by simpa using q
        obtain ⟨es, he, e, hm, hsr⟩ := m.via k _ hst (by omega)
        exact (m.src k es he e hm).2.2 (by omega)
      rw [idL_drop (by omega), quotGo, hv, if_neg hne]
      have hq : quotEs (idL n.origin.length) (n.edges.getD (k : Int).toNat []) [(k : Int)] [] = n.edges[k] := by
        have hee : n.edges.getD (k : Int).toNat [] = n.edges[k] := by simp [List.getD, hes]
        rw [hee, quotEs_id]
        · simp
        · intro e he
          have := m.src k _ hes e he
          exact ⟨this.1, this.2.1, by simpa using this.2.2⟩
        · exact m.nodup _ (List.mem_of_getElem? hes)
      rw [hq]
      have := ih (k + 1) (by omega)
      rw [List.take_add_one, List.take_add_one, List.take_add_one, hst, hes, hor] at this
      simp only [Option.toList_some] at this
      rw [show ((k : Int) + 1) = ((k + 1 : Nat) : Int) by omega]
      simpa [List.getD, hor] using this
  simpa using this n.origin.length 0 (by omega)
end Mq
