/- A law's arguments told, and a law's row out of its contract. Part of a verified reader of code, common to this project's claims. -/
import Derived.Test.YtgkkaimcchlnaaaGreatDoorMqLoop
import Derived.Handed
import Derived.ChangeShapes
import Derived.Carry
import Derived.ProofKit
set_option linter.unusedVariables false
set_option linter.unusedSimpArgs false
namespace Mq
open Go Go.RowKit Go.ChangeShapes Go.WideShapes Go.ChangeAt
set_option linter.unusedSectionVars false
variable [Glob]
section
variable {H : Type} {enc : TypeId × Value → H} {P : Program} {w : World} {base : Nat} {held : Bool}
def IsFs (P : Program) (g : Nat → List D → DataW H → Prop) : List Field → List D → List (DataW H) → Prop
  | [], ds, dl => ds = [] ∧ dl = []
  | f :: r, ds, dl => ∃ d1 d2 x xs, ds = d1 ++ d2 ∧ dl = x :: xs ∧ d1.length = P.cellsOf f.type ∧ g f.type d1 x ∧ IsFs P g r d2 xs
/-- What is told of the cells of a value that reads as some datum. -/
def IsT (P : Program) : Nat → Nat → List D → DataW H → Prop
  | 0, _, _, _ => False
  | n + 1, t, ds, d => match P.underlying t with
    | some .bool => ∃ b, ds = [.v (.bool b)] ∧ d = .lit (.bool b)
    | some (.int k) => ∃ m, ds = [.v (.int k m)] ∧ d = .lit (.int k m) ∧ (Lit.int k m).wf = true
    | some .string => ∃ s, ds = [.v (.string s)] ∧ d = .lit (.string s.data.toList) ∧ s.size ≤ maxLen
    | some (.slice e) => ∃ l, ds = [.sl (P.cellsOf e) l] ∧ ((l = [] ∧ d = .nil) ∨ ∃ dl sp, d = .slice dl sp ∧ l.length = dl.length ∧ l.length ≤ maxLen ∧ ∀ (i : Nat) (x : List D) (y : DataW H), l[i]? = some x → dl[i]? = some y → x.length = P.cellsOf e ∧ IsT P n e x y)
    | some (.struct fs) => ∃ dl, d = .agg dl ∧ IsFs P (IsT P n) fs.toList ds dl
    | _ => False
def layB (P : Program) : List Field → Nat → Option Nat
  | [], off => some off
  | f :: r, off => if f.offset = off then layB P r (off + P.cellsOf f.type) else none
def suppT (P : Program) : Nat → Nat → Bool
  | 0, _ => false
  | n + 1, t => match P.underlying t with
    | some .bool | some (.int _) | some .string => true
    | some (.slice e) => decide (0 < P.cellsOf e) && suppT P n e
    | some (.struct fs) => layB P fs.toList 0 == some (P.cellsOf t) && fs.toList.all fun f => suppT P n f.type
    | _ => false
theorem mapM_some {α β : Type} {g : α → Option β} : ∀ {l : List α} {ys : List β}, l.mapM g = some ys → ys.length = l.length ∧ ∀ (i : Nat) (x : α), l[i]? = some x → ∃ y, ys[i]? = some y ∧ g x = some y
  | [], ys, h => by simp at h; subst h; simp
  | a :: l, ys, h => by
    rw [List.mapM_cons] at h
    cases ha : g a with
    | none => simp [ha] at h
    | some b =>
      cases hl : l.mapM g with
      | none => simp [ha, hl] at h
      | some bs =>
        simp [ha, hl] at h
        subst h
        obtain ⟨h1, h2⟩ := mapM_some hl
        refine ⟨by simp [h1], fun i x hi => ?_⟩
        cases i with
        | zero => simp at hi; subst hi; exact ⟨b, by simp, ha⟩
        | succ i => simpa using h2 i x (by simpa using hi)
abbrev Full (w : World) : Hp := fun b => w.heap[b]?
theorem layB_le {P : Program} : ∀ (fs : List Field) (off n : Nat), layB P fs off = some n → off ≤ n
  | [], off, n, h => by simp [layB] at h; omega
  | f :: r, off, n, h => by
    simp only [layB] at h
    split at h
    · have := layB_le r _ _ h; omega
    · cases h
theorem list_choice {α : Type} {p : Nat → α → Prop} : ∀ (n : Nat), (∀ i, i < n → ∃ x, p i x) → ∃ l : List α, l.length = n ∧ ∀ (i : Nat) (x : α), l[i]? = some x → p i x
  | 0, _ => ⟨[], rfl, by simp⟩
  | n + 1, h => by
    obtain ⟨l, h1, h2⟩ := list_choice n (fun i hi => h i (by omega))
    obtain ⟨x, hx⟩ := h n (by omega)
    refine ⟨l ++ [x], by simp [h1], fun i y hi => ?_⟩
    by_cases c : i < n
    · rw [List.getElem?_append_left (by omega)] at hi; exact h2 i y hi
    · rw [List.getElem?_append_right (by omega)] at hi
      have : i = n := by
        have := (List.getElem?_eq_some_iff.1 hi).1
        simp at this; omega
      subst this
      simp [h1] at hi
      subst hi; exact hx
theorem cells_some {a : Addr} {m : Nat} {l : List Value} (h : w.cells? base a m = some l) : l.length = m ∧ ∀ (j : Nat), j < m → ∃ v, l[j]? = some v ∧ w.cell? (a.add j) = some v := by
  unfold World.cells? at h
  split at h
  · obtain ⟨h1, h2⟩ := mapM_some h
    refine ⟨by simpa using h1, fun j hj => ?_⟩
    exact h2 j j (by simp [hj])
  · cases h
theorem trod_rep (sp : Nat → Bool) : ∀ (n m t : Nat) (cs : List Value) (d : DataW H) (ps : List MemPlace), suppT P n t = true → DataW.trod enc P w base sp held m t cs = some (d, ps) →
    ∃ ds, IsT P n t ds d ∧ ds.length = cs.length ∧ ∀ (j : Nat) (x : D), ds[j]? = some x → Rep (Full w) (cs.getD j undef) x
  | 0, m, t, cs, d, ps, hs, h => by simp [suppT] at hs
  | n + 1, 0, t, cs, d, ps, hs, h => by simp [DataW.trod] at h
  | n + 1, m + 1, t, cs, d, ps, hs, h => by
    simp only [suppT] at hs
    cases hu : P.underlying t with
    | none => simp [hu] at hs
    | some dd =>
      rw [hu] at hs
      cases dd with
      | bool =>
        match cs, h with
        | [], h => simp [DataW.trod, hu] at h
        | [c], h =>
          cases c <;> simp [DataW.trod, hu] at h
          obtain ⟨rfl, _⟩ := h
          exact ⟨[.v (.bool _)], by simp only [IsT, hu]; exact ⟨_, rfl, rfl⟩, rfl, fun j x hj => by cases j <;> simp at hj; subst hj; exact .v _ rfl⟩
        | _ :: _ :: _, h => simp [DataW.trod, hu] at h
      | int k =>
        match cs, h with
        | [], h => simp [DataW.trod, hu] at h
        | [c], h =>
          cases c <;> simp [DataW.trod, hu] at h
          obtain ⟨⟨rfl, hw⟩, rfl, _⟩ := h
          exact ⟨[.v (.int _ _)], by simp only [IsT, hu]; exact ⟨_, rfl, rfl, hw⟩, rfl, fun j x hj => by cases j <;> simp at hj; subst hj; exact .v _ rfl⟩
        | _ :: _ :: _, h => simp [DataW.trod, hu] at h
      | string =>
        match cs, h with
        | [], h => simp [DataW.trod, hu] at h
        | [c], h =>
          cases c <;> simp [DataW.trod, hu] at h
          obtain ⟨hw, rfl, _⟩ := h
          exact ⟨[.v (.string _)], by simp only [IsT, hu]; exact ⟨_, rfl, rfl, hw⟩, rfl, fun j x hj => by cases j <;> simp at hj; subst hj; exact .v _ rfl⟩
        | _ :: _ :: _, h => simp [DataW.trod, hu] at h
      | slice e =>
        simp only [Bool.and_eq_true, decide_eq_true_eq] at hs
        obtain ⟨hpos, hse⟩ := hs
        match cs, h with
        | [], h => simp [DataW.trod, hu] at h
        | [c], h =>
          cases c <;> try (simp [DataW.trod, hu] at h; done)
          rename_i ad len cap
          cases ad with
          | none =>
            cases len with
            | succ k => simp [DataW.trod, hu] at h
            | zero =>
              cases cap with
              | succ k => simp [DataW.trod, hu] at h
              | zero =>
                simp [DataW.trod, hu] at h
                obtain ⟨rfl, _⟩ := h
                exact ⟨[.sl (P.cellsOf e) []], by simp only [IsT, hu]; exact ⟨[], rfl, .inl (by simp)⟩, rfl, fun j x hj => by cases j <;> simp at hj; subst hj; exact .nil _ _ _⟩
          | some a =>
            simp only [DataW.trod, hu] at h
            split at h
            · rename_i hb
              cases hm : (List.range len).mapM fun i => (w.cells? base (a.add (i * P.cellsOf e)) (P.cellsOf e)).bind (DataW.trod enc P w base sp held m e) with
              | none => simp [hm] at h
              | some elems =>
                simp only [hm, Option.bind_some, Option.map_eq_some_iff] at h
                obtain ⟨rest, hrest, hd⟩ := h
                simp only [Prod.mk.injEq] at hd
                obtain ⟨rfl, _⟩ := hd
                obtain ⟨hel, hei⟩ := mapM_some hm
                simp at hel
                have hone : ∀ i, i < len → ∃ x : List D, ∃ el ci, elems[i]? = some el ∧ w.cells? base (a.add (i * P.cellsOf e)) (P.cellsOf e) = some ci ∧ IsT P n e x el.1 ∧ x.length = P.cellsOf e ∧ ∀ (j : Nat) (z : D), x[j]? = some z → Rep (Full w) (ci.getD j undef) z := by
                  intro i hi
                  obtain ⟨el, h1, h2⟩ := hei i i (by simp [hi])
                  cases hc : w.cells? base (a.add (i * P.cellsOf e)) (P.cellsOf e) with
                  | none => simp [hc] at h2
                  | some ci =>
                    simp only [hc, Option.bind_some] at h2
                    obtain ⟨ds, g1, g2, g3⟩ := trod_rep sp n m e ci el.1 el.2 hse h2
                    exact ⟨ds, el, ci, h1, rfl, g1, by rw [g2, (cells_some hc).1], g3⟩
                obtain ⟨l, hl, hli⟩ := list_choice len hone
                refine ⟨[.sl (P.cellsOf e) l], ?_, rfl, fun j x hj => ?_⟩
                · simp only [IsT, hu]
                  refine ⟨l, rfl, .inr ⟨_, _, rfl, by simp [hl, hel], by omega, fun i x y hx hy => ?_⟩⟩
                  obtain ⟨el, ci, h1, h2, h3, h4, _⟩ := hli i x hx
                  simp [h1] at hy
                  subst hy
                  exact ⟨h4, h3⟩
                · cases j <;> simp at hj
                  subst hj
                  by_cases h0 : len = 0
                  · subst h0
                    have : l = [] := List.eq_nil_of_length_eq_zero hl
                    subst this
                    exact .nil _ _ _
                  · obtain ⟨x0, el0, ci0, _, hc0, _⟩ := hone 0 (by omega)
                    obtain ⟨v0, _, hv0⟩ := (cells_some hc0).2 0 hpos
                    simp only [Nat.zero_mul] at hv0
                    have ha0 : (a.add 0).add 0 = a := by simp [Addr.add]
                    rw [ha0] at hv0
                    obtain ⟨b, off, spot⟩ := a
                    have hblk : ∃ cur t fr, w.heap[b]? = some (.cells cur t fr) ∧ spot = none := by
                      unfold World.cell? at hv0
                      split at hv0
                      · rename_i c t fr hh
                        refine ⟨c, t, fr, hh, ?_⟩
                        cases spot with
                        | none => rfl
                        | some k => simp at hv0
                      · cases hv0
                    obtain ⟨cur, tt, fr, hheap, rfl⟩ := hblk
                    have hcell : ∀ i x ci, i < len → w.cells? base ((⟨b, off, none⟩ : Addr).add (i * P.cellsOf e)) (P.cellsOf e) = some ci → ∀ j, j < P.cellsOf e → off + i * P.cellsOf e + j < cur.size ∧ ci.getD j x = cur.getD (off + i * P.cellsOf e + j) x := by
                      intro i x ci hi hc j hj
                      obtain ⟨v, g1, g2⟩ := (cells_some hc).2 j hj
                      rw [add_none, add_none, cell_at hheap] at g2
                      have hlt := (Array.getElem?_eq_some_iff.1 g2).1
                      refine ⟨hlt, ?_⟩
                      simp [List.getD, g1, Array.getD_eq_getD_getElem?, g2]
                    rw [← hl]
                    refine .sl (P.cellsOf e) l b off cap cur tt fr hheap ?_ (fun i es hi => (hli i es hi).choose_spec.choose_spec.2.2.2.1) (fun i es j z hi hz => ?_) (by rw [hl]; omega)
                    · obtain ⟨x1, el1, ci1, _, hc1, _⟩ := hone (len - 1) (by omega)
                      have := (hcell (len - 1) undef ci1 (by omega) hc1 (P.cellsOf e - 1) (by omega)).1
                      rw [hl]
                      have hm : (len - 1 + 1) * P.cellsOf e = len * P.cellsOf e := by rw [Nat.sub_add_cancel (by omega)]
                      rw [Nat.add_mul] at hm
                      omega
                    · obtain ⟨el, ci, h1, h2, h3, h4, h5⟩ := hli i es hi
                      have hil : i < len := by rw [← hl]; exact (List.getElem?_eq_some_iff.1 hi).1
                      have hjl : j < P.cellsOf e := by rw [← h4]; exact (List.getElem?_eq_some_iff.1 hz).1
                      rw [← (hcell i undef ci hil h2 j hjl).2]
                      exact h5 j z hz
            · cases h
        | _ :: _ :: _, h => simp [DataW.trod, hu] at h
      | struct fs =>
        simp only [Bool.and_eq_true, beq_iff_eq, List.all_eq_true] at hs
        obtain ⟨hlay, hall⟩ := hs
        simp only [DataW.trod, hu] at h
        split at h
        · rename_i hlen
          cases hm : fs.toList.mapM fun f => DataW.trod enc P w base sp held m f.type ((cs.drop f.offset).take (P.cellsOf f.type)) with
          | none => simp [hm] at h
          | some xs =>
            simp only [hm, Option.map_some, Option.some.injEq, Prod.mk.injEq] at h
            obtain ⟨rfl, _⟩ := h
            have key : ∀ (l : List Field) (off : Nat) (xs : List (DataW H × List MemPlace)), layB P l off = some (P.cellsOf t) → (∀ f ∈ l, suppT P n f.type = true) →
                (l.mapM fun f => DataW.trod enc P w base sp held m f.type ((cs.drop f.offset).take (P.cellsOf f.type))) = some xs →
                ∃ ds, IsFs P (IsT P n) l ds (xs.map (·.1)) ∧ off + ds.length = P.cellsOf t ∧ ∀ (j : Nat) (x : D), ds[j]? = some x → Rep (Full w) (cs.getD (off + j) undef) x := by
              intro l
              induction l with
              | nil =>
                intro off xs h1 _ h2
                simp at h2
                subst h2
                simp [layB] at h1
                exact ⟨[], ⟨rfl, rfl⟩, by simpa using h1, by simp⟩
              | cons f l ih =>
                intro off xs h1 hsu h2
                have hle := layB_le _ _ _ h1
                simp only [layB] at h1
                split at h1
                · rename_i hoff
                  have hle2 := layB_le _ _ _ h1
                  rw [List.mapM_cons] at h2
                  cases hf : DataW.trod enc P w base sp held m f.type ((cs.drop f.offset).take (P.cellsOf f.type)) with
                  | none => simp [hf] at h2
                  | some y =>
                    cases hr : (l.mapM fun f => DataW.trod enc P w base sp held m f.type ((cs.drop f.offset).take (P.cellsOf f.type))) with
                    | none => simp [hf, hr] at h2
                    | some ys =>
                      simp [hf, hr] at h2
                      subst h2
                      obtain ⟨d1, g1, g2, g3⟩ := trod_rep sp n m f.type _ y.1 y.2 (hsu f (by simp)) hf
                      obtain ⟨d2, k1, k2, k3⟩ := ih (off + P.cellsOf f.type) ys h1 (fun f hf => hsu f (by simp [hf])) hr
                      have hd1 : d1.length = P.cellsOf f.type := by rw [g2]; simp; omega
                      refine ⟨d1 ++ d2, ⟨d1, d2, y.1, _, rfl, by simp, hd1, g1, k1⟩, by simp; omega, fun j x hj => ?_⟩
                      by_cases c : j < d1.length
                      · rw [List.getElem?_append_left c] at hj
                        have := g3 j x hj
                        rw [list_take_getD _ _ _ _ _ (by omega), hoff] at this
                        exact this
                      · rw [List.getElem?_append_right (by omega)] at hj
                        have := k3 _ x hj
                        rw [show off + P.cellsOf f.type + (j - d1.length) = off + j by omega] at this
                        exact this
                · cases h1
            obtain ⟨ds, k1, k2, k3⟩ := key fs.toList 0 xs hlay hall hm
            refine ⟨ds, ?_, by omega, fun j x hj => by simpa using k3 j x hj⟩
            simp only [IsT, hu]
            exact ⟨_, rfl, k1⟩
        · cases h
      | _ => simp at hs
/-- What is told of an argument. -/
def argA (P : Program) (t : Nat) (ds : List D) : AV :=
  match P.underlying t with
  | some (.struct _) => .ag (ds.map .d)
  | _ => .d (ds.headD (.v undef))
def ArgsT (P : Program) (n : Nat) : List Nat → List (DataW H) → List AV → Prop
  | [], [], as => as = []
  | t :: ts, d :: ds, as => ∃ x r, as = argA P t x :: r ∧ IsT P n t x d ∧ ArgsT P n ts ds r
  | _, _, _ => False
theorem cell_one {t : Nat} {v : Value} {n : Nat} (hs : suppT P n t = true) (hv : Value.okWide P w .any base t v) :
    (∃ fs cs, P.underlying t = some (.struct fs) ∧ v = .agg cs) ∨ ((∀ fs, P.underlying t ≠ some (.struct fs)) ∧ v.cells = #[v] ∧ v.oneCell' = true) := by
  cases n with
  | zero => simp [suppT] at hs
  | succ n =>
    simp only [suppT] at hs
    cases hu : P.underlying t with
    | none => simp [hu] at hs
    | some dd =>
      cases dd <;> simp only [hu] at hs <;> try (cases hs; done)
      case struct fs =>
        simp only [Value.okWide, hu] at hv
        obtain ⟨cs, rfl, _⟩ := hv
        exact .inl ⟨fs, cs, rfl, rfl⟩
      all_goals
        refine .inr ⟨by simp, ?_⟩
        simp only [Value.okWide, hu, Cell.okWide] at hv
        cases v <;> first | exact ⟨rfl, rfl⟩ | (exfalso; simp [Cell.ok, hu] at hv)
theorem args_rep_law {n : Nat} : ∀ (ts : List Nat) (vs : List Value) (ds : List (DataW H)) (ps : List MemPlace), (∀ t ∈ ts, suppT P n t = true) →
    (∀ (j : Nat) t v, ts[j]? = some t → vs[j]? = some v → Value.okWide P w .any base t v) → DataW.TrodAll enc P w 0 (fun _ => true) true ts vs ds ps →
    ∃ as, ArgsT P n ts ds as ∧ as.length = vs.length ∧ ∀ (j : Nat) (x : AV), as[j]? = some x → VRep (Full w) noE (vs.getD j undef) x
  | [], [], [], ps, _, _, _ => ⟨[], rfl, rfl, by simp⟩
  | t :: ts, v :: vs, d :: ds, ps, hs, hv, hA => by
    obtain ⟨p, q, ⟨m, htr⟩, hr, rfl⟩ := hA
    obtain ⟨as, h1, h2, h3⟩ := args_rep_law ts vs ds q (fun t ht => hs t (by simp [ht])) (fun j t v h1 h2 => hv (j + 1) t v (by simpa using h1) (by simpa using h2)) hr
    obtain ⟨x, g1, g2, g3⟩ := trod_rep _ n m t _ d p (hs t (by simp)) htr
    refine ⟨argA P t x :: as, ⟨x, as, rfl, g1, h1⟩, by simp [h2], fun j y hj => ?_⟩
    cases j with
    | succ j => simpa using h3 j y (by simpa using hj)
    | zero =>
      simp at hj
      subst hj
      rcases cell_one (hs t (by simp)) (hv 0 t v (by simp) (by simp)) with ⟨fs, cs, hu, rfl⟩ | ⟨hu, hc, h1⟩
      · simp only [argA, hu, List.getD_cons_zero]
        simp only [Value.cells] at g2 g3
        refine .ag cs _ (by simp [g2]) (fun j a hj => ?_) (fun j hj => ?_)
        · simp only [List.getElem?_map, Option.map_eq_some_iff] at hj
          obtain ⟨z, hz, rfl⟩ := hj
          have := g3 j z hz
          exact .d _ _ (by simpa [List.getD, Array.getD_eq_getD_getElem?] using this)
        · have hlt : j < x.length := by rw [g2]; simpa using hj
          have := (g3 j _ (List.getElem?_eq_getElem hlt)).one
          simpa [List.getD, Array.getD_eq_getD_getElem?] using this
      · rw [hc] at g2 g3
        simp at g2
        match x, g2 with
        | [z], _ =>
          have := g3 0 z (by simp)
          have harg : argA P t [z] = .d z := by
            unfold argA
            cases hu' : P.underlying t with
            | none => rfl
            | some dd => cases dd <;> first | rfl | exact absurd hu' (hu _)
          rw [harg]
          exact .d _ _ (by simpa using this)
  | [], _ :: _, _, _, _, _, hA => by simp [DataW.TrodAll] at hA
  | [], [], _ :: _, _, _, _, hA => by simp [DataW.TrodAll] at hA
  | _ :: _, [], _, _, _, _, hA => by simp [DataW.TrodAll] at hA
  | _ :: _, _ :: _, [], _, _, _, hA => by simp [DataW.TrodAll] at hA
theorem args_stay {W W' : World} (hl : laidOutB P = true) (hb : Below W.heap.size W W') : ∀ (ts : List Nat) (vs : List Value) (ds : List (DataW H)) (ps : List MemPlace), (∀ t ∈ ts, P.readableRec t = true ∧ t < P.types.size) →
    DataW.TrodAll enc P W 0 (fun _ => true) true ts vs ds ps → (∀ p ∈ ps, p.block < W.heap.size) → ∀ sp : Nat → Bool, (∀ p ∈ ps, sp p.block = true) → DataW.TrodAll enc P W' 0 sp true ts vs ds ps
  | [], [], [], ps, _, h, _, sp, _ => h
  | t :: ts, v :: vs, d :: ds, ps, hr, h, hlt, sp, hsp => by
    obtain ⟨p, q, h1, h2, rfl⟩ := h
    exact ⟨p, q, WideElems.Trod_stays hl (hr t (by simp)).1 (hr t (by simp)).2 h1 (fun x hx => hb.same (hlt x (by simp [hx]))) (fun x hx => hsp x (by simp [hx])),
      args_stay hl hb ts vs ds q (fun t ht => hr t (by simp [ht])) h2 (fun p hp => hlt p (by simp [hp])) sp (fun p hp => hsp p (by simp [hp])), rfl⟩
  | [], _ :: _, _, _, _, hA, _, _, _ => by simp [DataW.TrodAll] at hA
  | [], [], _ :: _, _, _, hA, _, _, _ => by simp [DataW.TrodAll] at hA
  | _ :: _, [], _, _, _, hA, _, _, _ => by simp [DataW.TrodAll] at hA
  | _ :: _, _ :: _, [], _, _, hA, _, _, _ => by simp [DataW.TrodAll] at hA
/-- What a law's row asks behind the call, where the call left what was there as it was and came to 'true'. -/
theorem law_post {f : Func} {s : ChangeSpec} {apart fresh handsOn again : Bool} {W W' : World} {args : Array Value} {ds gs : List (DataW H)} {before : List MemPlace} {b : Nat}
    (hl : laidOutB P = true) (hr : ∀ t ∈ f.params.toList, P.readableRec t = true ∧ t < P.types.size) (hvars : s.vars = []) (hfn : s.fn H ds = { results := [.lit (.bool true)], args := ds })
    (hres : f.resultTypes = #[b]) (hbool : P.underlying b = some .bool)
    (hW : DataW.Whole enc P f.params.toList s.vars apart W args.toList ds gs before) (hb : Below W.heap.size W W') : s.post enc P f apart fresh handsOn again W args (.bool true) W' := by
  have hlt : ∀ p ∈ before, p.block < W.heap.size := fun p hp => hW.lt p hp
  have hW0 := hW
  obtain ⟨pa, q, hA, hV, hps, hz, hn⟩ := hW
  rw [hvars] at hV
  obtain ⟨rfl, rfl⟩ := trodVars_none hV
  simp only [List.append_nil] at hps
  subst hps
  have hstay := args_stay hl hb f.params.toList args.toList ds before hr hA hlt
  have hresT : ∀ (b0 : Nat) (sp : Nat → Bool) (hd : Bool), DataW.TrodAll enc P W' b0 sp hd f.resultTypes.toList ((Value.bool true).resultList f.resultTypes.size) [.lit (.bool true)] [] := by
    intro b0 sp hd
    rw [hres]
    exact ⟨[], [], ⟨1, by simp [DataW.trod, Value.cells, hbool]⟩, rfl, rfl⟩
  have hvT : ∀ sp : Nat → Bool, DataW.TrodVars enc P W' sp s.vars (s.fn H (ds ++ [])).vars [] := by
    intro sp
    rw [List.append_nil, hfn, hvars]
    rfl
  have hold : ∀ p ∈ before, (fun b => decide (b < W.heap.size)) p.block = true := fun p hp => by simpa using hlt p hp
  refine ⟨ds, [], before, [], before, [], hW0, by rw [List.append_nil, hfn]; exact hresT _ _ _, by rw [List.append_nil, hfn]; exact hstay _ hold, hvT _, World.keptBut_mono (fun p hp => ⟨hp, .inr (.inl hp)⟩) (hb.frame (· ∈ before)), fun _ => ?_⟩
  refine ⟨ok_one hres rfl ?_, _, _, before, ⟨[] ++ before, [], trodAll_append (hstay _ (fun _ _ => rfl)) (hresT _ _ _), hvT _, by simp, ?_, fun ha => hn ha⟩, fun p hp _ => hp⟩
  · simp [Value.okWide, hbool, Cell.okWide, Cell.ok]
  · intro c off hp
    rw [hb.frozen (hlt _ hp)]
    exact hz c off hp
theorem trodAll_len {W : World} {sp : Nat → Bool} : ∀ (ts : List Nat) (vs : List Value) (ds : List (DataW H)) (ps : List MemPlace), DataW.TrodAll enc P W base sp held ts vs ds ps → ds.length = ts.length
  | [], [], [], _, _ => rfl
  | t :: ts, v :: vs, d :: ds, ps, h => by obtain ⟨p, q, _, h2, _⟩ := h; simp [trodAll_len ts vs ds q h2]
  | [], _ :: _, _, _, hA => by simp [DataW.TrodAll] at hA
  | [], [], _ :: _, _, hA => by simp [DataW.TrodAll] at hA
  | _ :: _, [], _, _, hA => by simp [DataW.TrodAll] at hA
  | _ :: _, _ :: _, [], _, hA => by simp [DataW.TrodAll] at hA
/-- A law's contract, as its row asks it. -/
theorem law_calls {f : Nat} {fn : Func} {s : ChangeSpec} {apart fresh handsOn again : Bool} {n b : Nat} (hl : laidOutB P = true) (hr : ∀ t ∈ fn.params.toList, P.readableRec t = true ∧ t < P.types.size)
    (hsu : ∀ t ∈ fn.params.toList, suppT P n t = true) (hvars : s.vars = []) (hres : fn.resultTypes = #[b]) (hbool : P.underlying b = some .bool)
    {W : World} {args : Array Value} {ds gs : List (DataW H)} {before : List MemPlace} (hfn : ∀ ds : List (DataW H), ds.length = fn.params.size → s.fn H ds = { results := [.lit (.bool true)], args := ds })
    (hval : ∀ (j : Nat) t v, fn.params[j]? = some t → args[j]? = some v → Value.okWide P W .any base t v) (hW : DataW.Whole enc P fn.params.toList s.vars apart W args.toList ds gs before)
    (hX : GX (Full W)) (hlaw : ∀ as, ArgsT P n fn.params.toList ds as → FnS P f as (.d (.v (.bool true)))) :
    Calls P f args W fun e W' => ∃ v, e = .returned v ∧ s.post enc P fn apart fresh handsOn again W args v W' := by
  obtain ⟨p, q, hA, _⟩ := id hW
  obtain ⟨as, h1, h2, h3⟩ := args_rep_law fn.params.toList args.toList ds p hsu (fun j t v ht hv => hval j t v (by simpa using ht) (by simpa using hv)) hA
  refine ((hlaw as h1).2 W (Full W) args hX (fun b o ho => ho) (by simpa using h2.symm) (fun j x hj => by simpa [List.getD, Array.getD_eq_getD_getElem?] using h3 j x hj)).mono ?_
  rintro e W' ⟨v, h', rfl, hv, _, _, _, hb⟩
  cases hv with
  | d _ _ hv => cases hv with
    | v _ _ => exact ⟨_, rfl, law_post hl hr hvars (hfn ds (by simpa using trodAll_len _ _ _ _ hA)) hres hbool hW hb⟩
/-! What is told of an argument's cells, by the told types. -/
def dFs (te : TE) (g : Nat → List D → Prop) : List (Nat × Nat) → List D → Prop
  | [], ds => ds = []
  | (_, t) :: r, ds => ∃ d1 d2, ds = d1 ++ d2 ∧ (match te t with | some i => d1.length = i.size | none => False) ∧ g t d1 ∧ dFs te g r d2
def dT (te : TE) : Nat → Nat → List D → Prop
  | 0, _, _ => False
  | n + 1, t, ds => match te t with
    | none => False
    | some i => match i.kind with
      | .bool => ∃ b, ds = [.v (.bool b)]
      | .int k => ∃ m, ds = [.v (.int k m)] ∧ k.min ≤ m ∧ m ≤ k.max
      | .str => ∃ s, ds = [.v (.string s)] ∧ s.size ≤ maxLen
      | .sl e => match te e with
        | none => False
        | some j => ∃ l, ds = [.sl j.size l] ∧ l.length ≤ maxLen ∧ ∀ x ∈ l, x.length = j.size ∧ dT te n e x
      | .st fs => dFs te (dT te n) fs ds
      | _ => False
def supD (te : TE) : Nat → Nat → Bool
  | 0, _ => false
  | n + 1, t => match te t with
    | none => false
    | some i => match i.kind with
      | .bool | .int _ | .str => true
      | .sl e => (te e).isSome && supD te n e
      | .st fs => fs.all fun f => (te f.2).isSome && supD te n f.2
      | _ => false
theorem cells_of {te : TE} (h : TEok P te) {t : Nat} {i : TI} (hi : te t = some i) : P.cellsOf t = i.size := by
  obtain ⟨q, h1, h2, _⟩ := (h t i hi).info
  simp [Program.cellsOf, h1, h2]
theorem isFs_dFs {te : TE} (h : TEok P te) {n : Nat} (ih : ∀ t ds (d : DataW H), supD te n t = true → IsT P n t ds d → dT te n t ds) :
    ∀ (fs : List Field) (ds : List D) (dl : List (DataW H)), (∀ f ∈ fs.map (fun f => (f.offset, f.type)), (te f.2).isSome && supD te n f.2) → IsFs P (IsT P n) fs ds dl → dFs te (dT te n) (fs.map (fun f => (f.offset, f.type))) ds
  | [], _, _, _, ⟨h1, _⟩ => h1
  | f :: r, ds, dl, hs, ⟨d1, d2, x, xs, h1, h2, h3, h4, h5⟩ => by
    have hf := hs (f.offset, f.type) (by simp)
    simp only [Bool.and_eq_true, Option.isSome_iff_exists] at hf
    obtain ⟨⟨i, hi⟩, hsu⟩ := hf
    refine ⟨d1, d2, h1, ?_, ih _ _ _ hsu h4, isFs_dFs h ih r d2 xs (fun g hg => hs g (by simp [hg])) h5⟩
    rw [hi]
    exact h3.trans (cells_of h hi)
theorem isT_dT {te : TE} (h : TEok P te) : ∀ (n t : Nat) (ds : List D) (d : DataW H), supD te n t = true → IsT P n t ds d → dT te n t ds
  | 0, _, _, _, hs, _ => by simp [supD] at hs
  | n + 1, t, ds, d, hs, hI => by
    cases hi : te t with
    | none => simp [supD, hi] at hs
    | some i =>
      obtain ⟨dd, hu, _, hk⟩ := (h t i hi).und
      simp only [supD, hi] at hs
      simp only [IsT, hu] at hI
      simp only [dT, hi]
      revert hs hk
      cases i.kind <;> intro hk hs <;> first | exact absurd hs (by decide) | skip
      all_goals first | exact False.elim (Bool.false_ne_true hs) | (cases dd <;> first | exact False.elim hk | skip)
      · obtain ⟨m, h1, _, h3⟩ := hI
        cases hk
        simp only [Lit.wf, Bool.and_eq_true, decide_eq_true_eq] at h3
        exact ⟨m, h1, h3⟩
      · obtain ⟨b, h1, _⟩ := hI; exact ⟨b, h1⟩
      · obtain ⟨b, h1, _, h3⟩ := hI; exact ⟨b, h1, h3⟩
      · cases hk
        simp only [Bool.and_eq_true, Option.isSome_iff_exists] at hs
        obtain ⟨⟨j, hj⟩, hsu⟩ := hs
        obtain ⟨l, h1, h2⟩ := hI
        simp only [hj]
        rw [cells_of h hj] at h1 h2
        refine ⟨l, h1, ?_, ?_⟩
        · rcases h2 with ⟨rfl, _⟩ | ⟨dl, sp, _, _, h5, _⟩
          · simp
          · exact h5
        · rcases h2 with ⟨rfl, _⟩ | ⟨dl, sp, _, h4, _, h6⟩
          · simp
          · intro x hx
            obtain ⟨k, hk⟩ := List.getElem?_of_mem hx
            have : k < dl.length := h4 ▸ (List.getElem?_eq_some_iff.1 hk).1
            obtain ⟨g1, g2⟩ := h6 k x _ hk (List.getElem?_eq_getElem this)
            exact ⟨g1, isT_dT h n _ _ _ hsu g2⟩
      · obtain ⟨dl, _, h2⟩ := hI
        cases hk
        exact isFs_dFs h (fun t ds d => isT_dT h n t ds d) _ _ _ (List.all_eq_true.1 hs) h2
/-- The typed arguments of a law. -/
def dA (te : TE) (t : Nat) (ds : List D) : AV := match te t with
  | some i => if i.agg then .ag (ds.map .d) else .d (ds.headD (.v undef))
  | none => .un
def dArgs (te : TE) (n : Nat) : List Nat → List AV → Prop
  | [], as => as = []
  | t :: ts, as => ∃ x r, as = dA te t x :: r ∧ dT te n t x ∧ dArgs te n ts r
theorem argA_dA {te : TE} (h : TEok P te) {n t : Nat} {x : List D} {d : DataW H} (hs : supD te n t = true) (hI : IsT P n t x d) : argA P t x = dA te t x := by
  cases n with
  | zero => simp [supD] at hs
  | succ n =>
    cases hi : te t with
    | none => simp [supD, hi] at hs
    | some i =>
      obtain ⟨dd, hu, ha, hk⟩ := (h t i hi).und
      simp only [dA, hi, argA, hu, ← ha]
      simp only [IsT, hu] at hI
      cases dd <;> first | rfl | exact hI.elim | skip
theorem argsT_d {te : TE} (h : TEok P te) {n : Nat} : ∀ (ts : List Nat) (ds : List (DataW H)) (as : List AV), (∀ t ∈ ts, supD te n t = true) → ArgsT P n ts ds as → dArgs te n ts as
  | [], [], _, _, h1 => h1
  | t :: ts, d :: ds, as, hs, h1 => by
    obtain ⟨x, r, rfl, h2, h3⟩ := h1
    exact ⟨x, r, by rw [argA_dA h (hs t (by simp)) h2], isT_dT h n t x d (hs t (by simp)) h2, argsT_d h ts ds r (fun t ht => hs t (by simp [ht])) h3⟩
  | [], _ :: _, _, _, h1 => by simp [ArgsT] at h1
  | _ :: _, [], _, _, h1 => by simp [ArgsT] at h1
/-! How much is told, against how much is read. -/
/-- A measure of what is read. -/
structure Bulk {H : Type} (B : DataW H → Nat) (BA : List (DataW H) → Nat) : Prop where
  lit : ∀ l, 1 ≤ B (.lit l)
  str : ∀ b, b.length + 1 ≤ B (.lit (.string b))
  nil : 1 ≤ B .nil
  slice : ∀ l s, BA l + 1 ≤ B (.slice l s)
  agg : ∀ l, BA l ≤ B (.agg l)
  nilA : BA [] = 0
  cons : ∀ x r, BA (x :: r) = B x + BA r
section
variable {B : DataW H → Nat} {BA : List (DataW H) → Nat}
end
end
end Mq
