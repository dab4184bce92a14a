/- The networks that numbers make are networks. Part of a verified reader of code, common to this project's claims. -/
import Derived.Test.YtipekfhpcjcabaaDoorMqPl6
set_option linter.unusedVariables false
set_option linter.unusedSimpArgs false
namespace Mq
open Go
set_option linter.unusedVariables false
set_option linter.unusedSimpArgs false
theorem goE_true {N k st : Int} : ∀ (es : List Arc) (seen : List Int) (via : Bool), (∀ e ∈ es, 0 ≤ e.src ∧ e.src < N ∧ e.src ≠ k) → (es.map (·.src)).Nodup → (∀ e ∈ es, e.src ∉ seen) → (via = true ∨ ∃ e ∈ es, e.src = st) → goE N k st es seen via = true
  | [], seen, via, _, _, _, h => by simpa [goE] using h
  | e :: r, seen, via, h1, h2, h3, h4 => by
    have he := h1 e (by simp)
    have hs := h3 e (by simp)
    rw [List.map_cons, List.nodup_cons] at h2
    have hc : (decide (e.src < 0) || decide (N ≤ e.src) || e.src == k || seen.elem e.src) = false := by
      simp only [Bool.or_eq_false_iff, decide_eq_false_iff_not, beq_eq_false_iff_ne, List.elem_eq_mem]
      exact ⟨⟨⟨by omega, by omega⟩, he.2.2⟩, hs⟩
    simp only [goE, hc, Bool.false_eq_true, if_false]
    refine goE_true r _ _ (fun x hx => h1 x (List.mem_cons_of_mem _ hx)) h2.2 (fun x hx hm => ?_) ?_
    · rcases mem_sadd.1 hm with hm | hm
      · exact h3 x (List.mem_cons_of_mem _ hx) hm
      · exact h2.1 (List.mem_map.2 ⟨x, hx, hm⟩)
    · rcases h4 with h4 | ⟨x, hx, hxs⟩
      · exact .inl (by simp [h4])
      · rcases List.mem_cons.1 hx with rfl | hx
        · exact .inl (by simp [hxs])
        · exact .inr ⟨x, hx, hxs⟩
theorem goN_true {N : Int} : ∀ (E : List (List Arc)) (S : List Int) (k : Int), (∀ (i : Nat) es st, E[i]? = some es → S[i]? = some st → goE N (k + i) st es [] (decide (st < 0)) = true) → goN N E S k = true
  | [], _, _, _ => by simp [goN]
  | _ :: _, [], _, _ => by simp [goN]
  | e :: E, s :: S, k, h => by
    simp only [goN, Bool.and_eq_true]
    refine ⟨by simpa using h 0 e s rfl rfl, goN_true E S (k + 1) (fun i es st h1 h2 => ?_)⟩
    have := h (i + 1) es st h1 h2
    rw [show k + 1 + (i : Int) = k + ((i + 1 : Nat) : Int) by omega]
    exact this
theorem Net.may_of {n : Net} (h1 : n.static.length = n.origin.length) (h2 : n.edges.length = n.origin.length) (h3 : n.origin.length ≤ 64)
    (h4 : ∀ (k : Nat) es st, n.edges[k]? = some es → n.static[k]? = some st → (∀ e ∈ es, 0 ≤ e.src ∧ e.src < n.origin.length ∧ e.src ≠ k) ∧ (es.map (·.src)).Nodup ∧ (st < 0 ∨ ∃ e ∈ es, e.src = st)) : n.may = true := by
  unfold Net.may
  rw [if_neg (by omega)]
  refine goN_true _ _ _ (fun i es st he hs => ?_)
  obtain ⟨q1, q2, q3⟩ := h4 i es st he hs
  refine goE_true es [] _ (fun e hm => by have := q1 e hm; omega) q2 (by simp) ?_
  rcases q3 with q3 | q3
  · exact .inl (by simpa using q3)
  · exact .inr q3

/-! what a shape makes is good -/
theorem Shape.has_sym (s : Shape) (k j : Nat) : s.has k j = s.has j k := by
  unfold Shape.has Shape.li
  rw [Nat.min_comm, Nat.max_comm]
  rw [Bool.eq_iff_iff]
  simp only [Bool.and_eq_true, Bool.or_eq_true, decide_eq_true_eq]
  omega
theorem mem_lks {s : Shape} {k x : Nat} {l : Lk} : l ∈ s.lks k x ↔ ∃ j, j < x ∧ s.has k j = true ∧ l = s.lk k j := by
  unfold Shape.lks
  simp only [List.mem_map, List.mem_filter, List.mem_range]
  constructor
  · rintro ⟨j, ⟨h1, h2⟩, rfl⟩; exact ⟨j, h1, h2, rfl⟩
  · rintro ⟨j, h1, h2, rfl⟩; exact ⟨j, ⟨h1, h2⟩, rfl⟩
theorem has_ne {s : Shape} {k j : Nat} (h : s.has k j = true) : j ≠ k := by
  unfold Shape.has at h
  simp only [Bool.and_eq_true, decide_eq_true_eq] at h
  exact h.1
theorem lks_peers (s : Shape) (k x : Nat) : ((s.lks k x).map (·.peer)).Nodup := by
  have h : (s.lks k x).map (·.peer) = (List.range x).filter (s.has k) := by
    unfold Shape.lks
    rw [List.map_map]
    exact List.map_id _
  rw [h]
  exact List.Pairwise.filter _ List.nodup_range
theorem ros_get {s : Shape} {k : Nat} : s.conf.ros[k]? = if k < s.n then some (s.ro k) else none := by
  unfold Shape.conf
  simp only [List.getElem?_map]
  by_cases h : k < s.n
  · simp [h]
  · simp [h]
theorem ros_mem {s : Shape} {r : Ro} (h : r ∈ s.conf.ros) : ∃ k, k < s.n ∧ r = s.ro k := by
  unfold Shape.conf at h
  simp only [List.mem_map, List.mem_range] at h
  obtain ⟨k, hk, rfl⟩ := h
  exact ⟨k, hk, rfl⟩
theorem ros_len (s : Shape) : s.conf.ros.length = s.n := by simp [Shape.conf]
theorem ros_getD {s : Shape} {k : Nat} (h : k < s.n) : s.conf.ros.getD k default = s.ro k := by
  rw [List.getD_eq_getElem?_getD, ros_get, if_pos h]; rfl
theorem netsV_len (s : Shape) (k : Nat) : (s.netsV k).length ≤ 1 := by unfold Shape.netsV; split <;> simp
theorem stsV_mem {s : Shape} {k : Nat} {w : Way} (h : w ∈ s.stsV k) : ∃ l ∈ s.lks k s.n, w.via = l.peer := by
  unfold Shape.stsV at h
  split at h
  · rename_i hc
    simp only [List.mem_cons, List.not_mem_nil, or_false] at h
    subst h
    generalize hi : (((numV s.ways k).tdiv 8).tmod (s.lks k s.n).length).toNat = i
    by_cases hl : i < (s.lks k s.n).length
    · refine ⟨(s.lks k s.n)[i], List.getElem_mem hl, ?_⟩
      simp [List.getD, hl]
    · exfalso
      have h3 : ((numV s.ways k).tdiv 8).tmod (s.lks k s.n).length < (s.lks k s.n).length := Int.tmod_lt_of_pos _ (by omega)
      omega
  · cases h
theorem mps_len : ∀ (l : List (List Rule)) (k : Nat) (out : List Mp), out.length ≤ 4 → (k < 4 → out.length ≤ k) → (mpsGo l k out).length ≤ 4
  | [], _, _, h, _ => h
  | rs :: r, k, out, h, h2 => by
    simp only [mpsGo]
    refine mps_len r _ _ ?_ ?_
    · split
      · have := h2 ‹_›; simp; omega
      · exact h
    · intro hk
      split
      · have := h2 ‹_›; simp; omega
      · omega
theorem mps_cls : ∀ (l : List (List Rule)) (k : Nat) (out : List Mp), (∀ m ∈ out, m.cls.length ≤ 5) → ∀ m ∈ mpsGo l k out, m.cls.length ≤ 5
  | [], _, _, h => h
  | rs :: r, k, out, h => by
    simp only [mpsGo]
    refine mps_cls r _ _ ?_
    split
    · intro m hm
      rcases List.mem_append.1 hm with hm | hm
      · exact h m hm
      · simp only [List.mem_cons, List.not_mem_nil, or_false] at hm
        subst hm
        exact clausesL_len rs
    · exact h
theorem Shape.good (s : Shape) : s.conf.good where
  n := by rw [ros_len]; exact s.n_le
  k k r h := by
    rw [ros_get] at h
    split at h
    · cases h; rfl
    · cases h
  nets r h := by obtain ⟨k, hk, rfl⟩ := ros_mem h; exact netsV_len s k
  links r h := by obtain ⟨k, hk, rfl⟩ := ros_mem h; exact Nat.le_trans (lks_len s k s.n) s.n_le
  sts r h := by obtain ⟨k, hk, rfl⟩ := ros_mem h; show (s.stsV k).length ≤ 1; unfold Shape.stsV; split <;> simp
  peer r h l hl := by
    obtain ⟨k, hk, rfl⟩ := ros_mem h
    obtain ⟨j, hj, _, rfl⟩ := mem_lks.1 (show l ∈ s.lks k s.n from hl)
    rw [ros_len]; exact hj
  via r h w hw := by
    obtain ⟨k, hk, rfl⟩ := ros_mem h
    obtain ⟨l, hl, hv⟩ := stsV_mem (show w ∈ s.stsV k from hw)
    obtain ⟨j, hj, _, rfl⟩ := mem_lks.1 hl
    rw [ros_len, hv]; exact hj
  back r h l hl := by
    obtain ⟨k, hk, rfl⟩ := ros_mem h
    obtain ⟨j, hj, hh, rfl⟩ := mem_lks.1 (show l ∈ s.lks k s.n from hl)
    show ∃ m, peerV (s.conf.ros.getD j default).links k = some m
    rw [ros_getD hj]
    have hm : s.lk j k ∈ (s.ro j).links := mem_lks.2 ⟨k, hk, by rw [← s.has_sym]; exact hh, rfl⟩
    cases hf : peerV (s.ro j).links k with
    | some m => exact ⟨m, rfl⟩
    | none =>
      have := List.find?_eq_none.1 hf _ hm
      simp [Shape.lk] at this
  maps := mps_len _ _ _ (by simp) (by simp)
  cls := mps_cls _ _ _ (by simp)

/-! the network of a shape, for one of its nets -/
def Shape.netV (s : Shape) (w : Int) : Option (Net × Int × Int) :=
  if s.conf.cls = [] then none else
    some (s.conf.net (s.conf.cls.getD (w.tmod s.conf.cls.length).toNat (0, 0)).1 (s.conf.cls.getD (w.tmod s.conf.cls.length).toNat (0, 0)).2, s.conf.cls.getD (w.tmod s.conf.cls.length).toNat (0, 0))
theorem netV_ix (s : Shape) {w : Int} (hw : 0 ≤ w ∧ w ≤ 255) (h : s.conf.cls ≠ []) : 0 ≤ w.tmod s.conf.cls.length ∧ w.tmod s.conf.cls.length < s.conf.cls.length ∧
    (s.conf.cls.map pD).getD (w.tmod s.conf.cls.length).toNat [] = pD (s.conf.cls.getD (w.tmod s.conf.cls.length).toNat (0, 0)) := by
  have h0 : 0 < s.conf.cls.length := List.length_pos_iff.2 h
  have h1 : 0 ≤ w.tmod s.conf.cls.length := Int.tmod_nonneg _ hw.1
  have h2 : w.tmod s.conf.cls.length < s.conf.cls.length := Int.tmod_lt_of_pos _ (by omega)
  exact ⟨h1, h2, at_int pD _ (0, 0) h1 h2⟩

theorem via_mem {s : Shape} {k : Nat} {a b : Int} (h : 0 ≤ viaV (s.ro k) a b) : ∃ l ∈ s.lks k s.n, (l.peer : Int) = viaV (s.ro k) a b := by
  unfold viaV at h ⊢
  have hv := statGo_via (a := a) (b := b) (n := s.n) (s.stsV k) (none, -1)
  cases hs : (statGo a b (s.ro k).sts (none, -1)).1 with
  | none => rw [hs] at h; simp at h
  | some v =>
    have h2 : ∀ (l : List Way) (x : Option Nat × Int), (∀ w ∈ l, ∃ q ∈ s.lks k s.n, w.via = q.peer) → (∀ v, x.1 = some v → ∃ q ∈ s.lks k s.n, v = q.peer) → ∀ v, (statGo a b l x).1 = some v → ∃ q ∈ s.lks k s.n, v = q.peer := by
      intro l
      induction l with
      | nil => intro x _ hx; exact hx
      | cons w l ih =>
        intro x hw hx
        simp only [statGo]
        refine ih _ (fun w' hw' => hw w' (List.mem_cons_of_mem _ hw')) ?_
        split
        · intro v hv; simp at hv; subst hv; exact hw w (by simp)
        · exact hx
    obtain ⟨q, hq, hqv⟩ := h2 (s.ro k).sts (none, -1) (fun w hw => stsV_mem hw) (by simp) v hs
    exact ⟨q, hq, by simp [hqv]⟩
theorem Shape.net_get {s : Shape} {a b : Int} {k : Nat} {es : List Arc} (h : (s.conf.net a b).edges[k]? = some es) : k < s.n ∧ es = (s.lks k s.n).map (s.conf.arc a b k) := by
  unfold Conf.net at h
  simp only [List.getElem?_map, ros_get] at h
  split at h
  · simp only [Option.map_some, Option.some.injEq] at h
    exact ⟨‹_›, h.symm⟩
  · cases h
theorem Shape.net_st {s : Shape} {a b : Int} {k : Nat} {st : Int} (h : (s.conf.net a b).static[k]? = some st) : k < s.n ∧ st = viaV (s.ro k) a b := by
  unfold Conf.net at h
  simp only [List.getElem?_map, ros_get] at h
  split at h
  · simp only [Option.map_some, Option.some.injEq] at h
    exact ⟨‹_›, h.symm⟩
  · cases h
theorem Shape.net_lens (s : Shape) (a b : Int) : (s.conf.net a b).origin.length = s.n ∧ (s.conf.net a b).static.length = s.n ∧ (s.conf.net a b).edges.length = s.n := by
  simp [Conf.net, ros_len]
theorem Shape.net_may (s : Shape) (a b : Int) : (s.conf.net a b).may = true := by
  obtain ⟨l1, l2, l3⟩ := s.net_lens a b
  have hn := s.n_le
  refine Net.may_of (by omega) (by omega) (by omega) (fun k es st he hs => ?_)
  obtain ⟨hk, rfl⟩ := Shape.net_get he
  obtain ⟨_, rfl⟩ := Shape.net_st hs
  refine ⟨fun e hm => ?_, ?_, ?_⟩
  · obtain ⟨l, hl, rfl⟩ := List.mem_map.1 hm
    obtain ⟨j, hj, hh, rfl⟩ := mem_lks.1 hl
    have hne := has_ne hh
    show 0 ≤ ((s.lk k j).peer : Int) ∧ _ ∧ _
    refine ⟨by omega, ?_, ?_⟩
    · rw [l1]; show (j : Int) < s.n; omega
    · show (j : Int) ≠ k; omega
  · have h1 := lks_peers s k s.n
    have h2 : ((s.lks k s.n).map (s.conf.arc a b k)).map (·.src) = ((s.lks k s.n).map (·.peer)).map (fun p : Nat => (p : Int)) := by
      rw [List.map_map, List.map_map]; rfl
    rw [h2]
    exact List.Pairwise.map _ (fun x y hxy => by omega) h1
  · by_cases hv : viaV (s.ro k) a b < 0
    · exact .inl hv
    · obtain ⟨l, hl, hq⟩ := via_mem (s := s) (k := k) (a := a) (b := b) (by omega)
      exact .inr ⟨_, List.mem_map.2 ⟨l, hl, rfl⟩, hq⟩
theorem clausesV_len {ms : List Mp} (h : ∀ m ∈ ms, m.cls.length ≤ 5) (name : ByteArray) (a b : Int) : (clausesV ms name a b).length ≤ 5 := by
  unfold clausesV
  split
  · rename_i m hm
    exact Nat.le_trans (forL_len _ _ _) (h m (List.mem_of_find?_eq_some hm))
  · simp
theorem Shape.net_small (s : Shape) (a b : Int) : (s.conf.net a b).small := by
  obtain ⟨l1, l2, l3⟩ := s.net_lens a b
  have hn := s.n_le
  have hc := s.good.cls
  refine ⟨by omega, by omega, by omega, fun es he => ?_, fun es he e hm => ?_, fun es he e hm => ?_⟩
  all_goals
    obtain ⟨k, hk⟩ := List.mem_iff_getElem?.1 he
    obtain ⟨_, rfl⟩ := Shape.net_get hk
  · rw [List.length_map]; have := lks_len s k s.n; omega
  · obtain ⟨l, _, rfl⟩ := List.mem_map.1 hm
    have := clausesV_len hc ((peerV (s.conf.ros.getD l.peer default).links k).getD default).exp a b
    show (clausesV _ _ _ _).length ≤ _
    omega
  · obtain ⟨l, _, rfl⟩ := List.mem_map.1 hm
    have := clausesV_len hc l.imp a b
    show (clausesV _ _ _ _).length ≤ _
    omega
theorem Shape.netV_n {s : Shape} {w : Int} {x : Net × Int × Int} (h : s.netV w = some x) : x.1 = s.conf.net x.2.1 x.2.2 ∧ 0 < s.n := by
  unfold Shape.netV at h
  split at h
  · cases h
  · rename_i hc
    cases h
    refine ⟨rfl, ?_⟩
    rcases Nat.eq_zero_or_pos s.n with h0 | h0
    · exfalso
      apply hc
      have : s.conf.ros = [] := List.eq_nil_of_length_eq_zero (by rw [ros_len]; exact h0)
      rw [Conf.cls, this]
      exact sortP_nil
    · exact h0
end Mq
