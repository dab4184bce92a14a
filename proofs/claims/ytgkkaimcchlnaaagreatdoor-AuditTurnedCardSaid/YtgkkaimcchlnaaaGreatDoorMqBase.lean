/- What is told of values and memory, and when it holds. Part of a verified reader of code, common to this project's claims. -/
import Derived.Calls
import Derived.Below
import Derived.Laws.AppendOwn
import Derived.Laws.OwnMore
import Derived.Laws.MakeOwn
set_option linter.unusedVariables false
set_option linter.unusedSimpArgs false
namespace Mq
open Go Go.RowKit
/-- What is told of a value that no longer turns: a cell as it is; a slice's elements (each some cells); a pointer into cells; a map's entries, in order. -/
inductive D where
  | v (x : Value)
  | sl (s : Nat) (l : List (List D))
  | cp (l : List D) (off : Nat)
  | mp (ka ea : Bool) (l : List (List Value × List D))
  deriving Inhabited
/-- What is told of a value in a frame: that, or a place of the call's own. -/
inductive AV where
  | d (x : D)
  | own (n g : Nat)
  | ptr (n off : Nat)
  | rptr (n g s i off : Nat)
  | mp (n : Nat)
  | ag (l : List AV)
  | tp (l : List AV)
  | gd (l : List (Bool × Bool)) (a : AV)
  | clo (f : Nat) (l : List AV)
  | nl (s : Nat)
  | un
  deriving Inhabited
/-- What the call owns: a variable's cells; a row of elements; a map. -/
inductive AO where
  | box (l : List AV)
  | row (e s g : Nat) (l : List (List D))
  | map (ka ea : Bool) (l : List (List Value × List D))
  | rov (e g : Nat) (l : List (List D)) (i : Nat) (a : AV)
  | pol (e e2 s g : Nat) (l : List (List (List D))) (ov : Option (Nat × AV))
def AO.isPol : AO → Bool
  | .pol .. => true
  | _ => false
/-- Tests, and what they must say. -/
def okL : List (Bool × Bool) → Prop
  | [] => True
  | c :: r => c.1 = c.2 ∧ okL r
theorem okL_nil : okL [] = True := rfl
theorem okL_mk {t w : Bool} {r : List (Bool × Bool)} (h : t = w) (hr : okL r) : okL ((t, w) :: r) := ⟨h, hr⟩
abbrev Sl := List (Nat × AV)
abbrev Os := List (Nat × AO)
def lget {α : Type} (l : List (Nat × α)) (t : Nat) : Option α := match l with
  | [] => none
  | (k, v) :: r => if k = t then some v else lget r t
def lput {α : Type} (l : List (Nat × α)) (t : Nat) (v : α) : List (Nat × α) := match l with
  | [] => [(t, v)]
  | (k, u) :: r => if k = t then (t, v) :: r else (k, u) :: lput r t v
def lkeep {α : Type} (vs : List Nat) (l : List (Nat × α)) : List (Nat × α) := match l with
  | [] => []
  | (k, u) :: r => if vs.elem k then (k, u) :: lkeep vs r else lkeep vs r
theorem get_put_same {α : Type} (l : List (Nat × α)) (t : Nat) (v : α) : lget (lput l t v) t = some v := by
  induction l with
  | nil => simp [lput, lget]
  | cons x r ih => obtain ⟨k, u⟩ := x; by_cases h : k = t <;> simp [lput, lget, h, ih]
theorem get_put_other {α : Type} (l : List (Nat × α)) {t t' : Nat} (v : α) (h : t' ≠ t) : lget (lput l t v) t' = lget l t' := by
  induction l with
  | nil => simp [lput, lget]; intro e; exact absurd e.symm h
  | cons x r ih =>
    obtain ⟨k, u⟩ := x
    by_cases hk : k = t
    · subst hk; simp [lput, lget, Ne.symm h]
    · by_cases hk' : k = t'
      · subst hk'; simp [lput, lget, h]
      · simp [lput, lget, hk, hk', ih]
theorem get_put {α : Type} (l : List (Nat × α)) (t t' : Nat) (v : α) : lget (lput l t v) t' = if t' = t then some v else lget l t' := by
  by_cases h : t' = t
  · subst h; simp [get_put_same]
  · simp [h, get_put_other]
theorem get_keep_eq {α : Type} (vs : List Nat) (l : List (Nat × α)) (t : Nat) : lget (lkeep vs l) t = if t ∈ vs then lget l t else none := by
  induction l with
  | nil => simp [lkeep, lget]
  | cons x r ih =>
    obtain ⟨k, u⟩ := x
    by_cases ht : k = t
    · subst ht
      by_cases hk : k ∈ vs
      · simp [lkeep, hk, lget]
      · simp [lkeep, hk, ih]
    · by_cases hk : k ∈ vs
      · simp [lkeep, hk, lget, ht, ih]
      · simp [lkeep, hk, ih, lget, ht]
theorem get_keep {α : Type} (vs : List Nat) (l : List (Nat × α)) (t : Nat) (v : α) (h : lget (lkeep vs l) t = some v) : lget l t = some v := by
  rw [get_keep_eq] at h
  split at h
  · exact h
  · cases h
abbrev Hp := Nat → Option Obj
/-- A value out of its cells. -/
def asV (agg : Bool) (l : List Value) : Value := if agg then .agg l.toArray else l.headD undef
/-- A map's entries are told apart by when they came. -/
def Stp (es : Array MapEntry) (clock : Nat) : Prop := (∀ x ∈ es.toList, x.born < clock) ∧ (es.toList.map (·.born)).Nodup
/-- A value that reads as it is told, in memory that no longer turns. -/
inductive Rep (h : Hp) : Value → D → Prop where
  | v (x : Value) (h1 : x.oneCell' = true) : Rep h x (.v x)
  | nil (s c : Nat) (a : Option Addr) : Rep h (.slice a 0 c) (.sl s [])
  | sl (s : Nat) (l : List (List D)) (b off cap : Nat) (cs : Array Value) (t : TypeId) (fr : Nat × Nat) (hb : h b = some (.cells cs t fr))
      (hf : off + l.length * s ≤ cs.size) (hs : ∀ (i : Nat) (es : List D), l[i]? = some es → es.length = s)
      (hr : ∀ (i : Nat) (es : List D) (j : Nat) (d : D), l[i]? = some es → es[j]? = some d → Rep h (cs.getD (off + i * s + j) undef) d) (hcap : l.length ≤ cap) : Rep h (.slice (some ⟨b, off, none⟩) l.length cap) (.sl s l)
  | cp (l : List D) (off b o : Nat) (cs : Array Value) (t : TypeId) (fr : Nat × Nat) (hb : h b = some (.cells cs t fr)) (hf : o + l.length ≤ cs.size)
      (hr : ∀ (j : Nat) (d : D), l[j]? = some d → Rep h (cs.getD (o + j) undef) d) : Rep h (.pointer (some ⟨b, o + off, none⟩)) (.cp l off)
  | mpn (ka ea : Bool) : Rep h (.map none) (.mp ka ea [])
  | mp (ka ea : Bool) (l : List (List Value × List D)) (b : Nat) (es : Array MapEntry) (clock : Nat) (f : Nat → List Value) (hb : h b = some (.map es clock)) (hl : es.size = l.length) (hst : Stp es clock)
      (hk : ∀ (i : Nat) (en : MapEntry) (p : List Value × List D), es[i]? = some en → l[i]? = some p → en.key = asV ka p.1 ∧ (ka = false → p.1.length = 1) ∧ en.val = asV ea (f i) ∧ (f i).length = p.2.length ∧ (ea = false → p.2.length = 1))
      (hr : ∀ (i : Nat) (p : List Value × List D) (j : Nat) (d : D), l[i]? = some p → p.2[j]? = some d → Rep h ((f i).getD j undef) d) : Rep h (.map (some b)) (.mp ka ea l)
/-- What a name stands for: a value, how often it has turned, and of which other blocks it has the rest. -/
structure Ent where
  val : Value
  gen : Nat
  more : List Nat
def blkOf : Value → Option Nat
  | .pointer (some a) => some a.block
  | .slice (some a) _ _ => some a.block
  | .map (some b) => some b
  | _ => none
def Ent.has (x : Ent) (b : Nat) : Prop := blkOf x.val = some b ∨ b ∈ x.more
instance (x : Ent) (b : Nat) : Decidable (x.has b) := inferInstanceAs (Decidable (_ ∨ _))
theorem Ent.has_lone {x : Ent} {b : Nat} (h : x.more = []) : x.has b ↔ blkOf x.val = some b := by simp [Ent.has, h]
abbrev Env := Nat → Option Ent
def Env.set (e : Env) (n : Nat) (x : Ent) : Env := fun m => if m = n then some x else e m
inductive VRep (h : Hp) (e : Env) : Value → AV → Prop where
  | un (v : Value) : VRep h e v .un
  | d (v : Value) (x : D) (hr : Rep h v x) : VRep h e v (.d x)
  | own (v : Value) (n g : Nat) (x : Ent) (hx : e n = some x) (h1 : v.oneCell' = true) (hg : g ≤ x.gen) (hv : g = x.gen → v = x.val) : VRep h e v (.own n g)
  | ptr (v : Value) (n off : Nat) (x : Ent) (hx : e n = some x) (h1 : v.oneCell' = true) (b : Nat) (hb : x.val = .pointer (some ⟨b, 0, none⟩)) (hv : v = .pointer (some ⟨b, off, none⟩)) : VRep h e v (.ptr n off)
  | rptr (v : Value) (n g s i off : Nat) (x : Ent) (hx : e n = some x) (h1 : v.oneCell' = true) (hg : g ≤ x.gen)
      (hv : g = x.gen → ∃ b len cap, x.val = .slice (some ⟨b, 0, none⟩) len cap ∧ v = .pointer (some ⟨b, i * s + off, none⟩)) : VRep h e v (.rptr n g s i off)
  | mp (v : Value) (n : Nat) (x : Ent) (hx : e n = some x) (h1 : v.oneCell' = true) (b : Nat) (hb : x.val = .map (some b)) (hv : v = x.val) : VRep h e v (.mp n)
  | ag (vs : Array Value) (l : List AV) (hl : vs.size = l.length) (hr : ∀ (j : Nat) (a : AV), l[j]? = some a → VRep h e (vs.getD j undef) a) (h1 : ∀ j, j < vs.size → (vs.getD j undef).oneCell' = true) : VRep h e (.agg vs) (.ag l)
  | tp (vs : Array Value) (l : List AV) (hl : vs.size = l.length) (hr : ∀ (j : Nat) (a : AV), l[j]? = some a → VRep h e (vs.getD j undef) a) : VRep h e (.tuple vs) (.tp l)
  | gd (v : Value) (l : List (Bool × Bool)) (a : AV) (hr : okL l → VRep h e v a) (hn : ¬ okL l → v = undef) : VRep h e v (.gd l a)
  | nl (s : Nat) : VRep h e (.slice none 0 0) (.nl s)
  | clo (f : Nat) (vs : Array Value) (l : List AV) (hl : vs.size = l.length) (hr : ∀ (j : Nat) (a : AV), l[j]? = some a → VRep h e (vs.getD j undef) a) : VRep h e (.func (.func f) #[] vs) (.clo f l)
def Hp.le (h h' : Hp) : Prop := ∀ b o, h b = some o → h' b = some o
def Ent.le (y y' : Ent) : Prop := y.gen ≤ y'.gen ∧ (y'.gen = y.gen → y'.val = y.val) ∧ (y'.gen ≠ y.gen → ∃ a l c, y.val = .slice a l c)
def Env.le (e e' : Env) : Prop := ∀ m y, e m = some y → ∃ y', e' m = some y' ∧ y.le y'
theorem Hp.le.refl (h : Hp) : h.le h := fun _ _ x => x
theorem Ent.le.refl (y : Ent) : y.le y := ⟨Nat.le_refl _, fun _ => rfl, fun h => absurd rfl h⟩
theorem Env.le.refl (e : Env) : e.le e := fun _ y hy => ⟨y, hy, .refl y⟩
theorem Rep.mono {h h' : Hp} (hh : h.le h') {v : Value} {d : D} (r : Rep h v d) : Rep h' v d := by
  induction r with
  | v x h1 => exact .v x h1
  | nil s c a => exact .nil s c a
  | sl s l b off cap cs t fr hb hf hs _ hcap ih => exact .sl s l b off cap cs t fr (hh _ _ hb) hf hs ih hcap
  | cp l off b o cs t fr hb hf _ ih => exact .cp l off b o cs t fr (hh _ _ hb) hf ih
  | mpn ka ea => exact .mpn ka ea
  | mp ka ea l b es clock f hb hl hst hk _ ih => exact .mp ka ea l b es clock f (hh _ _ hb) hl hst hk ih
theorem VRep.mono {h h' : Hp} {e e' : Env} (hh : h.le h') (he : e.le e') {v : Value} {a : AV} (r : VRep h e v a) : VRep h' e' v a := by
  induction r with
  | un v => exact .un v
  | d v x hr => exact .d v x (hr.mono hh)
  | own v n g x hx h1 hg hv =>
    obtain ⟨y, hy, hle, hval, _⟩ := he _ _ hx
    exact .own v n g y hy h1 (Nat.le_trans hg hle) (fun q => by
      have : g = x.gen := by omega
      rw [hv this, hval (by omega)])
  | ptr v n off x hx h1 b hb hv =>
    obtain ⟨y, hy, hle, hval, hn⟩ := he _ _ hx
    by_cases hg : y.gen = x.gen
    · exact .ptr v n off y hy h1 b (by rw [hval hg, hb]) hv
    · obtain ⟨p, l, c, hs⟩ := hn hg; rw [hb] at hs; cases hs
  | rptr v n g s i off x hx h1 hg hv =>
    obtain ⟨y, hy, hle, hval, _⟩ := he _ _ hx
    refine .rptr v n g s i off y hy h1 (Nat.le_trans hg hle) (fun q => ?_)
    obtain ⟨b, len, cap, hb, hvb⟩ := hv (by omega)
    exact ⟨b, len, cap, by rw [hval (by omega), hb], hvb⟩
  | mp v n x hx h1 b hb hv =>
    obtain ⟨y, hy, hle, hval, hn⟩ := he _ _ hx
    by_cases hg : y.gen = x.gen
    · exact .mp v n y hy h1 b (by rw [hval hg, hb]) (by rw [hval hg, hv])
    · obtain ⟨p, l, c, hs⟩ := hn hg; rw [hb] at hs; cases hs
  | ag vs l hl _ h1 ih => exact .ag vs l hl ih h1
  | tp vs l hl _ ih => exact .tp vs l hl ih
  | gd v l a _ hn ih => exact .gd v l a ih hn
  | nl s => exact .nl s
  | clo f vs l hl _ ih => exact .clo f vs l hl ih
theorem Rep.one {h : Hp} {v : Value} {d : D} (r : Rep h v d) : v.oneCell' = true := by cases r <;> first | assumption | rfl
/-- Does an 'AV' tell of one cell? -/
def AV.cell : AV → Bool
  | .d _ | .own _ _ | .ptr _ _ | .rptr .. | .mp _ | .clo _ _ | .nl _ => true
  | _ => false
theorem VRep.one {h : Hp} {e : Env} {v : Value} {a : AV} (r : VRep h e v a) (hc : a.cell = true) : v.oneCell' = true := by
  cases r <;> first | assumption | rfl | (simp [AV.cell] at hc; done) | (exact Rep.one ‹_›)
/-- A map's entries, as they lie in memory. -/
def MRep (h : Hp) (ka ea : Bool) (es : Array MapEntry) (clock : Nat) (l : List (List Value × List D)) (f : Nat → List Value) : Prop :=
  es.size = l.length ∧ Stp es clock ∧
  (∀ (i : Nat) (en : MapEntry) (p : List Value × List D), es[i]? = some en → l[i]? = some p → en.key = asV ka p.1 ∧ (ka = false → p.1.length = 1) ∧ en.val = asV ea (f i) ∧ (f i).length = p.2.length ∧ (ea = false → p.2.length = 1)) ∧
  ∀ (i : Nat) (p : List Value × List D) (j : Nat) (d : D), l[i]? = some p → p.2[j]? = some d → Rep h ((f i).getD j undef) d
theorem MRep.mono {h h' : Hp} {ka ea : Bool} {es : Array MapEntry} {clock : Nat} {l : List (List Value × List D)} {f : Nat → List Value} (r : MRep h ka ea es clock l f) (hh : h.le h') : MRep h' ka ea es clock l f :=
  ⟨r.1, r.2.1, r.2.2.1, fun i p j d hi hj => (r.2.2.2 i p j d hi hj).mono hh⟩
/-- A row of the call's own, as it lies in memory. -/
@[reducible] def RwRep (h : Hp) (w : World) (x : Ent) (t s g : Nat) (l : List (List D)) : Prop :=
  x.gen = g ∧ 0 < s ∧ ∃ xs, w.ownsRow 0 t s x.val l.length xs ∧ (∀ (i : Nat) (es : List D), l[i]? = some es → es.length = s) ∧
      ∀ (i : Nat) (es : List D) (j : Nat) (d : D), l[i]? = some es → es[j]? = some d → Rep h (xs.getD (i * s + j) undef) d
theorem RwRep.mono {h h' : Hp} {w w' : World} {x : Ent} {t s g : Nat} {l : List (List D)} (r : RwRep h w x t s g l) (hh : h.le h') (hb : ∀ b, blkOf x.val = some b → w'.heap[b]? = w.heap[b]?) : RwRep h' w' x t s g l := by
  obtain ⟨hg, hs, xs, ho, hl, hr⟩ := r
  refine ⟨hg, hs, xs, ⟨ho.1, ?_⟩, hl, fun i es j d hi hj => (hr i es j d hi hj).mono hh⟩
  rcases ho.2 with hn | ⟨b, cap, cur, hv, h1, h2, h3⟩
  · exact .inl hn
  · exact .inr ⟨b, cap, cur, hv, h1, by rw [hb b (by simp [hv, blkOf])]; exact h2, h3⟩
theorem RwRep.lt {h : Hp} {w : World} {x : Ent} {t s g : Nat} {l : List (List D)} (r : RwRep h w x t s g l) {b : Nat} (hb : blkOf x.val = some b) : b < w.heap.size := by
  obtain ⟨hg, hs, xs, ho, hl, hr⟩ := r
  rcases ho.2 with ⟨hn, _⟩ | ⟨b', cap, cur, hv, h1, h2, h3⟩
  · simp [hn, blkOf] at hb
  · simp [hv, blkOf] at hb
    subst hb
    exact (Array.getElem?_eq_some_iff.1 h2).1
/-- A row of rows that are all the call's own, but one that may be told apart: as it lies in memory. -/
def PolRep (h : Hp) (e : Env) (w : World) (x : Ent) (t t2 s g : Nat) (l : List (List (List D))) (ov : Option (Nat × AV)) : Prop :=
  0 < s ∧ ∃ vs : List Value, vs.length = l.length ∧ (∀ v ∈ vs, v.oneCell' = true) ∧ RwRep h w x t 1 g (vs.map fun v => [.v v]) ∧
  (∀ i v, vs[i]? = some v → ∀ a, ov = some (i, a) → VRep h e v a) ∧
  (∀ i v rows, vs[i]? = some v → l[i]? = some rows → (∀ a, ov ≠ some (i, a)) → RwRep h w ⟨v, 0, []⟩ t2 s 0 rows) ∧
  (∀ b, b ∈ x.more ↔ ∃ i v, vs[i]? = some v ∧ (∀ a, ov ≠ some (i, a)) ∧ blkOf v = some b) ∧
  (∀ i i' v v' b, i ≠ i' → vs[i]? = some v → vs[i']? = some v' → (∀ a, ov ≠ some (i, a)) → (∀ a, ov ≠ some (i', a)) → blkOf v = some b → blkOf v' ≠ some b) ∧
  (∀ b, blkOf x.val = some b → b ∉ x.more)
theorem PolRep.mono {h h' : Hp} {e e' : Env} {w w' : World} {x : Ent} {t t2 s g : Nat} {l : List (List (List D))} {ov : Option (Nat × AV)} (r : PolRep h e w x t t2 s g l ov) (hh : h.le h') (he : e.le e') (hb : ∀ b, x.has b → w'.heap[b]? = w.heap[b]?) : PolRep h' e' w' x t t2 s g l ov := by
  obtain ⟨hs, vs, h1, h2, h3, h4, h5, h6, h7, h8⟩ := r
  refine ⟨hs, vs, h1, h2, h3.mono hh (fun b q => hb b (.inl q)), fun i v hi a ha => (h4 i v hi a ha).mono hh he, fun i v rows hi hl hn => (h5 i v rows hi hl hn).mono hh (fun b q => hb b (.inr ((h6 b).2 ⟨i, v, hi, hn, q⟩))), h6, h7, h8⟩
theorem PolRep.own {h : Hp} {e e' : Env} {w : World} {x : Ent} {t t2 s g : Nat} {l : List (List (List D))} {ov : Option (Nat × AV)} (r : PolRep h e w x t t2 s g l ov) (ho : ∀ i a, ov = some (i, a) → ∀ v, VRep h e v a → VRep h e' v a) : PolRep h e' w x t t2 s g l ov := by
  obtain ⟨hs, vs, h1, h2, h3, h4, h5, h6, h7, h8⟩ := r
  exact ⟨hs, vs, h1, h2, h3, fun i v hi a ha => ho i a ha v (h4 i v hi a ha), h5, h6, h7, h8⟩
theorem PolRep.map {h h' : Hp} {e e' : Env} {w : World} {x : Ent} {t t2 s g : Nat} {l : List (List (List D))} {ov : Option (Nat × AV)} {f : AV → AV} (r : PolRep h e w x t t2 s g l ov) (hh : h.le h') (ho : ∀ a v, VRep h e v a → VRep h' e' v (f a)) : PolRep h' e' w x t t2 s g l (ov.map fun p => (p.1, f p.2)) := by
  obtain ⟨hs, vs, h1, h2, h3, h4, h5, h6, h7, h8⟩ := r
  have back : ∀ i, (∀ a, (ov.map fun p => (p.1, f p.2)) ≠ some (i, a)) → ∀ a, ov ≠ some (i, a) := fun i q a c => q (f a) (by rw [c]; rfl)
  have forth : ∀ i, (∀ a, ov ≠ some (i, a)) → ∀ a, (ov.map fun p => (p.1, f p.2)) ≠ some (i, a) := fun i q a c => by
    obtain ⟨p, hp, he⟩ := Option.map_eq_some_iff.1 c
    cases he
    exact q p.2 (by rw [hp])
  refine ⟨hs, vs, h1, h2, h3.mono hh (fun _ _ => rfl), fun i v hi a ha => ?_, fun i v rows hi hl hn => (h5 i v rows hi hl (back i hn)).mono hh (fun _ _ => rfl), fun b => ?_, fun i i' v v' b hne hi hi' hn hn' => h7 i i' v v' b hne hi hi' (back i hn) (back i' hn'), h8⟩
  · obtain ⟨p, hp, he⟩ := Option.map_eq_some_iff.1 ha
    cases he
    exact ho _ _ (h4 _ v hi p.2 (by rw [hp]))
  · rw [h6 b]
    exact ⟨fun ⟨i, v, hi, hn, hb⟩ => ⟨i, v, hi, forth i hn, hb⟩, fun ⟨i, v, hi, hn, hb⟩ => ⟨i, v, hi, back i hn, hb⟩⟩
theorem PolRep.lt {h : Hp} {e : Env} {w : World} {x : Ent} {t t2 s g : Nat} {l : List (List (List D))} {ov : Option (Nat × AV)} (r : PolRep h e w x t t2 s g l ov) {b : Nat} (hb : x.has b) : b < w.heap.size := by
  obtain ⟨hs, vs, h1, h2, h3, h4, h5, h6, h7, h8⟩ := r
  rcases hb with hb | hb
  · exact h3.lt hb
  · obtain ⟨i, v, hi, hn, q⟩ := (h6 b).1 hb
    have hil : i < l.length := by have := (List.getElem?_eq_some_iff.1 hi).1; omega
    exact (h5 i v _ hi (List.getElem?_eq_getElem hil) hn).lt q
/-- What the call owns, as it lies in memory. -/
def ORep (h : Hp) (e : Env) (w : World) (x : Ent) : AO → Prop
  | .box l => x.gen = 0 ∧ ∃ b cs t, x.val = .pointer (some ⟨b, 0, none⟩) ∧ w.heap[b]? = some (.cells cs t (0, 0)) ∧ cs.size = l.length ∧
      (∀ (j : Nat) (a : AV), l[j]? = some a → VRep h e (cs.getD j undef) a) ∧ ∀ j, j < cs.size → (cs.getD j undef).oneCell' = true
  | .row t s g l => x.gen = g ∧ 0 < s ∧ ∃ xs, w.ownsRow 0 t s x.val l.length xs ∧ (∀ (i : Nat) (es : List D), l[i]? = some es → es.length = s) ∧
      ∀ (i : Nat) (es : List D) (j : Nat) (d : D), l[i]? = some es → es[j]? = some d → Rep h (xs.getD (i * s + j) undef) d
  | .map ka ea l => x.gen = 0 ∧ ∃ b es clock f, x.val = .map (some b) ∧ w.heap[b]? = some (.map es clock) ∧ MRep h ka ea es clock l f
  | .pol t t2 s g l ov => PolRep h e w x t t2 s g l ov
  | .rov t g l i a => i < l.length ∧ ∃ v, v.oneCell' = true ∧ VRep h e v a ∧ RwRep h w x t 1 g (l.set i [.v v])
structure St (h : Hp) (e : Env) (os : Os) (w : World) : Prop where
  vis : ∀ b o, h b = some o → w.heap[b]? = some o
  obj : ∀ n o, lget os n = some o → ∃ x, e n = some x ∧ ORep h e w x o
  dom : ∀ n x, e n = some x → ∃ o, lget os n = some o
  sep : ∀ n m x y b, n ≠ m → e n = some x → e m = some y → x.has b → ¬ y.has b
  excl : ∀ n x b, e n = some x → x.has b → h b = none
  lone : ∀ n o x, lget os n = some o → e n = some x → o.isPol = false → x.more = []
theorem Env.le.trans {e e' e2 : Env} (h1 : e.le e') (h2 : e'.le e2) : e.le e2 := by
  intro m y hy
  obtain ⟨y', hy', a1, a2, a3⟩ := h1 m y hy
  obtain ⟨y2, hy2, b1, b2, b3⟩ := h2 m y' hy'
  refine ⟨y2, hy2, Nat.le_trans a1 b1, fun q => ?_, fun q => ?_⟩
  · have h : y'.gen = y.gen := by omega
    rw [b2 (by omega), a2 h]
  · by_cases h : y'.gen = y.gen
    · have := b3 (by omega)
      rwa [a2 h] at this
    · exact a3 h
/-- What package-level variables hold of which calls ask (a seat says which). -/
class Glob where
  l : List (Nat × Value)
/-- None, where a seat says nothing. -/
instance (priority := low) Glob.nil : Glob := ⟨[]⟩
def GX [Glob] (h : Hp) : Prop := ∀ x ∈ Glob.l, ∃ cs t fr, h x.1 = some (.cells cs t fr) ∧ cs[0]? = some x.2
theorem GX.nil (h : Hp) : @GX Glob.nil h := fun x hx => by cases hx
theorem GX.mono [Glob] {h h' : Hp} (g : GX h) (hh : h.le h') : GX h' := fun x hx => by
  obtain ⟨cs, t, fr, h1, h2⟩ := g x hx
  exact ⟨cs, t, fr, hh _ _ h1, h2⟩
theorem GX.lt [Glob] {h : Hp} {w : World} (g : GX h) (hv : ∀ b o, h b = some o → w.heap[b]? = some o) : ∀ x ∈ Glob.l, x.1 < w.heap.size := fun x hx => by
  obtain ⟨cs, t, fr, h1, h2⟩ := g x hx
  exact (Array.getElem?_eq_some_iff.1 (hv _ _ h1)).1
set_option linter.unusedSectionVars false
variable [Glob]
/-- Where a call began: the world, what no longer turns of it, what was handed in to be turned (by names from 100000 on); how many slots the frame has. -/
structure Cx where
  w0 : World
  h0 : Hp
  e0 : Env
  he0 : ∀ n y, e0 n = some y → 100000 ≤ n
  gx : GX h0
  gs : ∀ x ∈ Glob.l, x.1 < w0.heap.size
  nt : Nat
structure Fr (cx : Cx) (h : Hp) (e : Env) (w : World) : Prop where
  os : w.os = cx.w0.os
  tape : w.tape = cx.w0.tape
  output : w.output = cx.w0.output
  size : cx.w0.heap.size ≤ w.heap.size
  old : ∀ b, b < cx.w0.heap.size → (∀ n y, cx.e0 n = some y → ¬ y.has b) → w.heap[b]? = cx.w0.heap[b]?
  hold : ∀ b, b < cx.w0.heap.size → h b = cx.h0 b
  own : ∀ n x b, e n = some x → x.has b → (∃ y, cx.e0 n = some y ∧ y.has b) ∨ cx.w0.heap.size ≤ b
  keep : cx.e0.le e
structure RR (cx : Cx) (h : Hp) (e : Env) (sl : Sl) (os : Os) (a : Act) (w : World) : Prop where
  st : St h e os w
  fr : Fr cx h e w
  slots : ∀ t x, lget sl t = some x → VRep h e (a.tmps.getD t undef) x
  size : a.tmps.size = cx.nt
  defers : a.defers = []
def R (cx : Cx) (sl : Sl) (os : Os) (a : Act) (w : World) : Prop := ∃ h e, RR cx h e sl os a w
theorem RR.gx {cx : Cx} {h : Hp} {e : Env} {sl : Sl} {os : Os} {a : Act} {w : World} (r : RR cx h e sl os a w) : GX h := fun x hx => by
  obtain ⟨cs, t, fr, h1, h2⟩ := cx.gx x hx
  exact ⟨cs, t, fr, by rw [r.fr.hold _ (cx.gs x hx)]; exact h1, h2⟩
theorem RR.slot {cx : Cx} {h : Hp} {e : Env} {sl : Sl} {os : Os} {a : Act} {w : World} (r : RR cx h e sl os a w) {d : Nat} (hd : d < cx.nt) {v : Value} {x : AV} (hv : VRep h e v x) :
    RR cx h e (lput sl d x) os (a.put (some d) v) w := by
  refine ⟨r.st, r.fr, fun t y hy => ?_, by simp [Act.put, r.size], r.defers⟩
  rw [get_put] at hy
  by_cases ht : t = d
  · subst ht
    simp at hy
    subst hy
    have : t < a.tmps.size := by rw [r.size]; exact hd
    simpa [Act.put, Array.getD, this] using hv
  · rw [if_neg ht] at hy
    have hs := r.slots t y hy
    have he : (a.put (some d) v).tmps.getD t undef = a.tmps.getD t undef := by
      simp [Act.put, Ne.symm ht, Array.getD_eq_getD_getElem?]
    rw [he]; exact hs
theorem ORep.mono {h h' : Hp} {e e' : Env} {w w' : World} {x : Ent} {o : AO} (r : ORep h e w x o) (hh : h.le h') (he : e.le e') (hb : ∀ b, x.has b → w'.heap[b]? = w.heap[b]?) : ORep h' e' w' x o := by
  cases o with
  | box l =>
    obtain ⟨h0, b, cs, t, hv, hc, hs, hr, h1⟩ := r
    exact ⟨h0, b, cs, t, hv, by rw [hb b (.inl (by simp [hv, blkOf])), hc], hs, fun j a hj => (hr j a hj).mono hh he, h1⟩
  | row t s g l => exact RwRep.mono r hh (fun b q => hb b (.inl q))
  | map ka ea l =>
    obtain ⟨h0, b, es, clock, f, hv, hc, hm⟩ := r
    exact ⟨h0, b, es, clock, f, hv, by rw [hb b (.inl (by simp [hv, blkOf])), hc], hm.mono hh⟩
  | rov t g l i a =>
    obtain ⟨hi, v, h1, hv, hr⟩ := r
    exact ⟨hi, v, h1, hv.mono hh he, hr.mono hh (fun b q => hb b (.inl q))⟩
  | pol t t2 s g l ov => exact PolRep.mono r hh he hb
theorem ORep.lt {h : Hp} {e : Env} {w : World} {x : Ent} {o : AO} (r : ORep h e w x o) (hl : o.isPol = false → x.more = []) {b : Nat} (hb : x.has b) : b < w.heap.size := by
  have one : o.isPol = false → blkOf x.val = some b := fun q => by
    rcases hb with hb | hb
    · exact hb
    · rw [hl q] at hb; cases hb
  cases o with
  | box l =>
    have hb := one rfl
    obtain ⟨h0, b', cs, t, hv, hc, _⟩ := r
    simp [hv, blkOf] at hb
    subst hb
    exact (Array.getElem?_eq_some_iff.1 hc).1
  | row t s g l => exact RwRep.lt r (one rfl)
  | map ka ea l =>
    have hb := one rfl
    obtain ⟨h0, b', es, clock, f, hv, hc, hm⟩ := r
    simp [hv, blkOf] at hb
    subst hb
    exact (Array.getElem?_eq_some_iff.1 hc).1
  | rov t g l i a =>
    obtain ⟨hi, v, h1, hv, hr⟩ := r
    exact hr.lt (one rfl)
  | pol t t2 s g l ov => exact PolRep.lt r hb
theorem St.lt {h : Hp} {e : Env} {os : Os} {w : World} (s : St h e os w) {n : Nat} {x : Ent} (hx : e n = some x) {b : Nat} (hb : x.has b) : b < w.heap.size := by
  obtain ⟨o, ho⟩ := s.dom n x hx
  obtain ⟨y, hy, hr⟩ := s.obj n o ho
  rw [hx] at hy
  cases hy
  exact hr.lt (s.lone n o x ho hx) hb
theorem Env.le.set {e : Env} {n : Nat} {x : Ent} (hle : ∀ y, e n = some y → y.le x) : e.le (e.set n x) := by
  intro m y hy
  by_cases hm : m = n
  · subst hm
    exact ⟨x, by simp [Env.set], hle y hy⟩
  · exact ⟨y, by simp [Env.set, hm, hy], .refl y⟩
/-- What the call owns under a name turns, or a new one comes; nothing else in memory turns. -/
theorem RR.updG {cx : Cx} {h : Hp} {e : Env} {sl : Sl} {os : Os} {a : Act} {w w' : World} (r : RR cx h e sl os a w) (n : Nat) (x : Ent) (ao : AO) {ob : Option Nat}
    (hg : w.grownBy w' ob) (hob : ∀ b, ob = some b → ∃ y, e n = some y ∧ y.has b)
    (hle : ∀ y, e n = some y → y.le x)
    (hblk : ∀ b, x.has b → (∃ y, e n = some y ∧ y.has b) ∨ w.heap.size ≤ b) (hlo : ao.isPol = false → x.more = [])
    (ho : ORep h (e.set n x) w' x ao) : RR cx h (e.set n x) sl (lput os n ao) a w' := by
  have hE := Env.le.set (e := e) (n := n) (x := x) hle
  have hlt : ∀ b o, h b = some o → b < w.heap.size := fun b o hb => (Array.getElem?_eq_some_iff.1 (r.st.vis b o hb)).1
  have hne : ∀ b, ob = some b → h b = none := fun b hb => by obtain ⟨y, hy, hyb⟩ := hob b hb; exact r.st.excl n y b hy hyb
  have hkeep : ∀ m y b, m ≠ n → e m = some y → y.has b → w'.heap[b]? = w.heap[b]? := by
    intro m y b hm hy hb
    refine hg.block b (r.st.lt hy hb) (fun hc => ?_)
    obtain ⟨z, hz, hzb⟩ := hob b hc.symm
    exact r.st.sep m n y z b hm hy hz hb hzb
  refine ⟨⟨?_, ?_, ?_, ?_, ?_, ?_⟩, ⟨?_, ?_, ?_, ?_, ?_, r.fr.hold, ?_, r.fr.keep.trans hE⟩, fun t y hy => (r.slots t y hy).mono (Hp.le.refl h) hE, r.size, r.defers⟩
  · intro b o hb
    rw [hg.block b (hlt b o hb) (fun hc => by rw [hne b hc.symm] at hb; cases hb)]
    exact r.st.vis b o hb
  · intro m o hm
    rw [get_put] at hm
    by_cases hmn : m = n
    · subst hmn
      simp at hm
      subst hm
      exact ⟨x, by simp [Env.set], ho⟩
    · rw [if_neg hmn] at hm
      obtain ⟨y, hy, hr⟩ := r.st.obj m o hm
      exact ⟨y, by simp [Env.set, hmn, hy], hr.mono (Hp.le.refl h) hE (fun b hb => hkeep m y b hmn hy hb)⟩
  · intro m y hy
    rw [get_put]
    by_cases hmn : m = n
    · simp [hmn]
    · simp [Env.set, hmn] at hy
      simp [hmn]
      exact r.st.dom m y hy
  · intro m1 m2 y1 y2 b hm h1 h2 hb1 hb2
    by_cases c1 : m1 = n
    · subst c1
      simp [Env.set, Ne.symm hm] at h1 h2
      subst h1
      rcases hblk b hb1 with hc | hc
      · obtain ⟨z, hz, hzb⟩ := hc
        exact r.st.sep m1 m2 z y2 b hm hz h2 hzb hb2
      · exact absurd (r.st.lt h2 hb2) (by omega)
    · by_cases c2 : m2 = n
      · subst c2
        simp [Env.set, c1] at h1 h2
        subst h2
        rcases hblk b hb2 with hc | hc
        · obtain ⟨z, hz, hzb⟩ := hc
          exact r.st.sep m1 m2 y1 z b hm h1 hz hb1 hzb
        · exact absurd (r.st.lt h1 hb1) (by omega)
      · simp [Env.set, c1, c2] at h1 h2
        exact r.st.sep m1 m2 y1 y2 b hm h1 h2 hb1 hb2
  · intro m y b hy hb
    by_cases hmn : m = n
    · subst hmn
      simp [Env.set] at hy
      subst hy
      rcases hblk b hb with hc | hc
      · obtain ⟨z, hz, hzb⟩ := hc
        exact r.st.excl m z b hz hzb
      · cases hh : h b with
        | none => rfl
        | some o => exact absurd (hlt b o hh) (by omega)
    · simp [Env.set, hmn] at hy
      exact r.st.excl m y b hy hb
  · intro m o y ho hy hp
    rw [get_put] at ho
    by_cases hmn : m = n
    · subst hmn
      simp at ho
      simp [Env.set] at hy
      subst ho; subst hy
      exact hlo hp
    · rw [if_neg hmn] at ho
      simp [Env.set, hmn] at hy
      exact r.st.lone m o y ho hy hp
  · exact hg.os.trans r.fr.os
  · exact hg.tape.trans r.fr.tape
  · exact hg.output.trans r.fr.output
  · exact Nat.le_trans r.fr.size hg.size
  · intro b hb hx
    rw [hg.block b (Nat.lt_of_lt_of_le hb r.fr.size) (fun hc => ?_)]
    · exact r.fr.old b hb hx
    · obtain ⟨z, hz, hzb⟩ := hob b hc.symm
      rcases r.fr.own n z b hz hzb with hq | hq
      · obtain ⟨y, hy, hyb⟩ := hq; exact absurd hyb (hx _ _ hy)
      · omega
  · intro m y b hy hb
    by_cases hmn : m = n
    · subst hmn
      simp [Env.set] at hy
      subst hy
      rcases hblk b hb with hc | hc
      · obtain ⟨z, hz, hzb⟩ := hc
        exact r.fr.own m z b hz hzb
      · exact .inr (Nat.le_trans r.fr.size hc)
    · simp [Env.set, hmn] at hy
      exact r.fr.own m y b hy hb
theorem RR.upd {cx : Cx} {h : Hp} {e : Env} {sl : Sl} {os : Os} {a : Act} {w w' : World} (r : RR cx h e sl os a w) (n : Nat) (x : Ent) (ao : AO) {ob : Option Nat}
    (hg : w.grownBy w' ob) (hob : ∀ b, ob = some b → ∃ y, e n = some y ∧ y.has b)
    (hle : ∀ y, e n = some y → y.le x)
    (hblk : ∀ b, x.has b → ob = some b ∨ w.heap.size ≤ b)
    (ho : ORep h (e.set n x) w' x ao) (hlo : ao.isPol = false → x.more = [] := by first | exact fun _ => rfl | assumption) : RR cx h (e.set n x) sl (lput os n ao) a w' :=
  r.updG n x ao hg hob hle (fun b hb => (hblk b hb).imp (hob b) id) hlo ho
/-- The world grows, and nothing that was there turns. -/
theorem RR.grown {cx : Cx} {h : Hp} {e : Env} {sl : Sl} {os : Os} {a : Act} {w w' : World} (r : RR cx h e sl os a w) (hg : w.grownBy w' none) : RR cx h e sl os a w' := by
  have hlt : ∀ b o, h b = some o → b < w.heap.size := fun b o hb => (Array.getElem?_eq_some_iff.1 (r.st.vis b o hb)).1
  refine ⟨⟨?_, ?_, r.st.dom, r.st.sep, r.st.excl, r.st.lone⟩, ⟨hg.os.trans r.fr.os, hg.tape.trans r.fr.tape, hg.output.trans r.fr.output, Nat.le_trans r.fr.size hg.size, ?_, r.fr.hold, r.fr.own, r.fr.keep⟩, r.slots, r.size, r.defers⟩
  · intro b o hb
    rw [hg.block b (hlt b o hb) (by simp)]
    exact r.st.vis b o hb
  · intro m o hm
    obtain ⟨y, hy, hr⟩ := r.st.obj m o hm
    exact ⟨y, hy, hr.mono (Hp.le.refl h) (Env.le.refl e) (fun b hb => hg.block b (r.st.lt hy hb) (by simp))⟩
  · intro b hb hx
    rw [hg.block b (Nat.lt_of_lt_of_le hb r.fr.size) (by simp)]
    exact r.fr.old b hb hx
end Mq
