/- Loops, and telling less of a state. Part of a verified reader of code, common to this project's claims. -/
import Derived.Test.YtgkkaimcchlnaaaGreatDoorMqAwp
import Derived.RowKit
set_option linter.unusedVariables false
set_option linter.unusedSimpArgs false
namespace Mq
open Go Go.RowKit
set_option linter.unusedSectionVars false
variable [Glob]
theorem wrapI64 (n : Int) (h1 : -9223372036854775808 ≤ n) (h2 : n ≤ 9223372036854775807) : IntKind.i64.wrap n = n := by rw [IntKind.wrap_i64]; omega
/-- A counter goes on. -/
theorem count64 {i n : Nat} (h : i < n) (hn : n ≤ maxLen) : Value.int .i64 (IntKind.i64.wrap ((i : Int) + 1)) = Value.int .i64 ((i + 1 : Nat) : Int) := by
  have : maxLen = 9223372036854775807 := rfl
  rw [wrapI64 _ (by omega) (by omega)]
  rfl
/-! Loops, and telling less of a state. -/
/-- Less may be told: fewer slots, fewer objects. -/
theorem Wk_sub {sl sl' : Sl} {os os' : Os} (h34 : (closedA os' sl' && keepH os' os) = true) (h4 : closedO os' os' = true) (h1 : subS sl sl') (h2 : subO os os') : Wk sl os sl' os' := by
  rintro cx a w ⟨h, e, rr⟩
  obtain ⟨h3, h5⟩ := Bool.and_eq_true_iff.1 h34
  have hE : ∀ n, hasK os' n = true → (fun n => if hasK os' n then e n else none) n = e n := fun n hn => by simp [hn]
  refine ⟨h, fun n => if hasK os' n then e n else none, ⟨rr.st.vis, fun n o ho => ?_, fun n x hx => ?_, ?_, ?_, fun n o x ho hx hp => rr.st.lone n o x (subO_get h2 n o ho) (by simp only [hasK, ho, Option.isSome_some, if_true] at hx; exact hx) hp⟩, ⟨rr.fr.os, rr.fr.tape, rr.fr.output, rr.fr.size, rr.fr.old, rr.fr.hold, ?_, ?_⟩, fun t x hx => ?_, rr.size, rr.defers⟩
  · obtain ⟨x, hx, hr⟩ := rr.st.obj n o (subO_get h2 n o ho)
    refine ⟨x, by simp only [hasK, ho, Option.isSome_some, if_true]; exact hx, ?_⟩
    cases o with
    | box l =>
      obtain ⟨h0, b, cs, t, hv, hc, hs, hr, ho1⟩ := hr
      refine ⟨h0, b, cs, t, hv, hc, hs, fun j y hj => (hr j y hj).restrict (fun n' hn' => hE n' ?_), ho1⟩
      exact closedO_get h4 n _ ho n' (by simp only [nmO, mem_nmL]; exact ⟨y, List.mem_of_getElem? hj, hn'⟩)
    | row t s g l => exact hr
    | map l => exact hr
    | pol t t2 s g l ov =>
      refine PolRep.own hr (fun i a ha v hv => hv.restrict (fun n' hn' => hE n' (closedO_get h4 n _ ho n' (by simp only [nmO, ha]; exact hn'))))
    | rov t g l i a =>
      obtain ⟨hi, v, h1, hv, hr⟩ := hr
      exact ⟨hi, v, h1, hv.restrict (fun n' hn' => hE n' (closedO_get h4 n _ ho n' (by simpa only [nmO] using hn'))), hr⟩
  · split at hx
    · rename_i c
      simp only [hasK, Option.isSome_iff_exists] at c
      exact c
    · cases hx
  · intro n m x y b hne hx hy
    split at hx
    · split at hy
      · exact rr.st.sep n m x y b hne hx hy
      · cases hy
    · cases hx
  · intro n x b hx
    split at hx
    · exact rr.st.excl n x b hx
    · cases hx
  · intro n x b hx
    split at hx
    · exact rr.fr.own n x b hx
    · cases hx
  · intro n y hy
    obtain ⟨y', hy', hle⟩ := rr.fr.keep n y hy
    obtain ⟨o, ho⟩ := rr.st.dom n y' hy'
    exact ⟨y', by rw [hE n (keepH_get h5 n o ho (cx.he0 n y hy))]; exact hy', hle⟩
  · exact (rr.slots t x (subS_get h1 t x hx)).restrict (fun n hn => hE n (closedA_get h3 t x hx n hn))
/-- A loop, with a relation over some data: what must hold where it begins, and of each round. -/
def LI {α : Type} (p : α → Prop) (m : α → Nat) (fs : α → Sl) (fo : α → Os) (n : Nat) (sl : Sl) (os : Os) : Prop := ∃ x, p x ∧ n = m x ∧ sl = fs x ∧ os = fo x
theorem awp_loopI {α : Type} (p : α → Prop) (m : α → Nat) (fs : α → Sl) (fo : α → Os) {P : Program} {kp : List Nat} {b : PC} {Q : QF} {sl : Sl} {os : Os} (x : α)
    (h0 : p x) (hw : Wk sl os (fs x) (fo x)) (h : ∀ x, p x → awp P kp b (loopQ (LI p m fs fo) (m x) Q) (fs x) (fo x)) : awp P kp (.loop b) Q sl os := by
  refine ⟨LI p m fs fo, ⟨m x, fs x, fo x, hw, x, h0, rfl, rfl, rfl⟩, ?_⟩
  rintro n _ _ ⟨x, hx, rfl, rfl, rfl⟩
  exact h x hx
theorem loopQ_next {α : Type} {p : α → Prop} {m : α → Nat} {fs : α → Sl} {fo : α → Os} {n : Nat} {Q : QF} {sl : Sl} {os : Os} (y : α) (h1 : m y < n) (h2 : p y) (h3 : Wk sl os (fs y) (fo y)) :
    loopQ (LI p m fs fo) n Q .normal sl os := ⟨m y, h1, fs y, fo y, h3, y, h2, rfl, rfl, rfl⟩
theorem loopQ_exit {I : Nat → Sl → Os → Prop} {n i : Nat} {Q : QF} {sl : Sl} {os : Os} : loopQ I n Q (.exit i) sl os = Q (.exit i) sl os := rfl
theorem loopQ_ret {I : Nat → Sl → Os → Prop} {n : Nat} {Q : QF} {sl : Sl} {os : Os} : loopQ I n Q .ret sl os = Q .ret sl os := rfl
/-- A row that is not there yet is a row of nothing. -/
theorem Wk_nl {sl : Sl} {os : Os} (t d el : Nat) {s : Nat} (h : lget sl t = some (.nl s)) (hd : lget os d = none) (hs : 0 < s) : Wk sl os (lput sl t (.own d 0)) (lput os d (.row el s 0 [])) := by
  rintro cx a w ⟨h1, e, rr⟩
  have hen := env_none rr hd
  have r2 := rr.upd d ⟨.slice none 0 0, 0, []⟩ (.row el s 0 []) (ob := none) (w' := w) ⟨rfl, rfl, rfl, Nat.le_refl _, fun _ _ _ => rfl⟩ (fun b hb => by cases hb) (le_of_none hen) (fun b hb => by simp [Ent.has, blkOf] at hb)
    ⟨rfl, hs, [], ⟨by simp, .inl ⟨rfl, rfl⟩⟩, by simp, by simp⟩
  refine ⟨h1, e.set d ⟨.slice none 0 0, 0, []⟩, r2.st, r2.fr, fun t' x hx => ?_, r2.size, r2.defers⟩
  rw [get_put] at hx
  by_cases c : t' = t
  · subst c
    simp at hx
    subst hx
    have := rr.slots t' _ h
    generalize a.tmps.getD t' undef = v at this
    cases this with
    | nl _ => exact .own _ d 0 ⟨.slice none 0 0, 0, []⟩ (by simp [Env.set]) rfl (Nat.le_refl _) (fun _ => rfl)
  · rw [if_neg c] at hx
    exact r2.slots t' x hx
mutual
/-- A value, where a row no longer turns. -/
def sealV (n g s : Nat) (l : List (List D)) : AV → AV
  | .own m g' => if m = n then (if g' = g then .d (.sl s l) else .un) else .own m g'
  | .ptr m o => if m = n then .un else .ptr m o
  | .rptr m g' s' i o => if m = n then .un else .rptr m g' s' i o
  | .mp m => if m = n then .un else .mp m
  | .ag r => .ag (sealL n g s l r)
  | .tp r => .tp (sealL n g s l r)
  | .clo f r => .clo f (sealL n g s l r)
  | .gd c a => .gd c (sealV n g s l a)
  | .d x => .d x
  | .nl z => .nl z
  | .un => .un
def sealL (n g s : Nat) (l : List (List D)) : List AV → List AV
  | [] => []
  | x :: r => sealV n g s l x :: sealL n g s l r
end
theorem sealL_get {n g s : Nat} {l : List (List D)} : ∀ (r : List AV) (j : Nat), (sealL n g s l r)[j]? = (r[j]?).map (sealV n g s l)
  | [], j => by simp [sealL]
  | x :: r, 0 => by simp [sealL]
  | x :: r, j + 1 => by simpa [sealL] using sealL_get r j
theorem sealL_len {n g s : Nat} {l : List (List D)} : ∀ (r : List AV), (sealL n g s l r).length = r.length
  | [] => rfl
  | x :: r => by simp [sealL, sealL_len r]
def sealS (n g s : Nat) (l : List (List D)) : Sl → Sl
  | [] => []
  | (k, v) :: r => (k, sealV n g s l v) :: sealS n g s l r
/-- A row that was told apart in one cell, that does not turn any more. -/
def rovO (t g : Nat) (l : List (List D)) (i : Nat) : AV → AO
  | .d x => .row t 1 g (l.set i [x])
  | a => .rov t g l i a
def sealO (n g s : Nat) (l : List (List D)) : Os → Os
  | [] => []
  | (k, o) :: r => if k = n then sealO n g s l r else (k, match o with | .box c => .box (sealL n g s l c) | .rov t1 g1 l1 i1 a => rovO t1 g1 l1 i1 (sealV n g s l a) | .pol t1 t2 s1 g1 l1 ov => .pol t1 t2 s1 g1 l1 (ov.map fun p => (p.1, sealV n g s l p.2)) | o => o) :: sealO n g s l r
theorem sealS_get {n g s : Nat} {l : List (List D)} (t : Nat) : ∀ (sl : Sl), lget (sealS n g s l sl) t = (lget sl t).map (sealV n g s l)
  | [] => by simp [sealS, lget]
  | (k, v) :: r => by
    simp only [sealS, lget]
    split
    · rfl
    · exact sealS_get t r
theorem sealO_get {n g s : Nat} {l : List (List D)} (t : Nat) : ∀ (os : Os), lget (sealO n g s l os) t = if t = n then none else (lget os t).map fun o => match o with | .box c => .box (sealL n g s l c) | .rov t1 g1 l1 i1 a => rovO t1 g1 l1 i1 (sealV n g s l a) | .pol t1 t2 s1 g1 l1 ov => .pol t1 t2 s1 g1 l1 (ov.map fun p => (p.1, sealV n g s l p.2)) | o => o
  | [] => by simp [sealO, lget]
  | (k, o) :: r => by
    simp only [sealO]
    by_cases c : k = n
    · rw [if_pos c, sealO_get t r]
      by_cases ct : t = n
      · simp [ct]
      · simp only [if_neg ct, lget]
        rw [if_neg (by omega)]
    · rw [if_neg c]
      simp only [lget]
      by_cases ct : k = t
      · subst ct; simp [c]
      · simp only [if_neg ct]
        exact sealO_get t r
theorem sealV_rep {h h' : Hp} {e e' : Env} {n g s : Nat} {l : List (List D)} (hh : h.le h') (he : ∀ m, m ≠ n → e' m = e m) (hn : ∀ v x, e n = some x → g = x.gen → v = x.val → Rep h' v (.sl s l)) {v : Value} {a : AV} (r : VRep h e v a) :
    (∀ x, e n = some x → x.gen = g) → VRep h' e' v (sealV n g s l a) := by
  induction r with
  | un v => intro _; exact .un v
  | d v x hr => intro _; exact .d v x (hr.mono hh)
  | own v m g' x hx h1 hg hv =>
    intro hgen
    simp only [sealV]
    split
    · rename_i c; subst c
      split
      · rename_i c2; subst c2
        have := hgen x hx
        exact .d _ _ (hn v x hx this.symm (hv this.symm))
      · exact .un _
    · rename_i c
      exact .own v m g' x (by rw [he m c]; exact hx) h1 hg hv
  | ptr v m off x hx h1 b hb hv =>
    intro _
    simp only [sealV]
    split
    · exact .un _
    · rename_i c; exact .ptr v m off x (by rw [he m c]; exact hx) h1 b hb hv
  | rptr v m g' s' i off x hx h1 hg hv =>
    intro _
    simp only [sealV]
    split
    · exact .un _
    · rename_i c; exact .rptr v m g' s' i off x (by rw [he m c]; exact hx) h1 hg hv
  | mp v m x hx h1 b hb hv =>
    intro _
    simp only [sealV]
    split
    · exact .un _
    · rename_i c; exact .mp v m x (by rw [he m c]; exact hx) h1 b hb hv
  | ag vs r hl _ h1 ih =>
    intro hg
    simp only [sealV]
    refine .ag vs _ (by rw [sealL_len]; exact hl) (fun j a hj => ?_) h1
    rw [sealL_get, Option.map_eq_some_iff] at hj
    obtain ⟨a0, h0, rfl⟩ := hj
    exact ih j a0 h0 hg
  | tp vs r hl _ ih =>
    intro hg
    simp only [sealV]
    refine .tp vs _ (by rw [sealL_len]; exact hl) (fun j a hj => ?_)
    rw [sealL_get, Option.map_eq_some_iff] at hj
    obtain ⟨a0, h0, rfl⟩ := hj
    exact ih j a0 h0 hg
  | gd v c a _ hn' ih => intro hg; exact .gd v c _ (fun q => ih q hg) hn'
  | nl z => intro _; exact .nl z
  | clo f vs r hl _ ih =>
    intro hg
    simp only [sealV]
    refine .clo f vs _ (by rw [sealL_len]; exact hl) (fun j a hj => ?_)
    rw [sealL_get, Option.map_eq_some_iff] at hj
    obtain ⟨a0, h0, rfl⟩ := hj
    exact ih j a0 h0 hg
theorem RwRep.toD {h : Hp} {w : World} {x : Ent} {t g i : Nat} {l : List (List D)} {v : Value} {d : D} (r : RwRep h w x t 1 g (l.set i [.v v])) (hd : Rep h v d) : RwRep h w x t 1 g (l.set i [d]) := by
  obtain ⟨hg, hs, xs, ho, hl, hr⟩ := r
  rw [List.length_set] at ho
  refine ⟨hg, hs, xs, by rw [List.length_set]; exact ho, fun k es hk => ?_, fun k es j d' hk hj => ?_⟩
  · rw [List.getElem?_set] at hk
    split at hk
    · split at hk
      · cases hk; rfl
      · cases hk
    · rename_i hne; exact hl k es (by rw [List.getElem?_set, if_neg hne]; exact hk)
  · rw [List.getElem?_set] at hk
    split at hk
    · rename_i he
      split at hk
      · rename_i hlt
        cases hk
        cases j with
        | succ j => simp at hj
        | zero =>
          simp at hj
          subst hj; subst he
          have := hr i [.v v] 0 (.v v) (by simp [hlt]) rfl
          rw [this.raw]
          exact hd
      · cases hk
    · rename_i hne; exact hr k es j d' (by rw [List.getElem?_set, if_neg hne]; exact hk) hj
theorem rovO_rep {h : Hp} {e : Env} {w : World} {x : Ent} {t g i : Nat} {l : List (List D)} {a : AV} (r : ORep h e w x (.rov t g l i a)) : ORep h e w x (rovO t g l i a) := by
  cases a with
  | d y =>
    obtain ⟨hi, v, h1, hv, hr⟩ := r
    cases hv with
    | d _ _ hd => exact hr.toD hd
  | _ => exact r
theorem rovO_pol (t g : Nat) (l : List (List D)) (i : Nat) (a : AV) : (rovO t g l i a).isPol = false := by cases a <;> rfl
theorem sealO_pol {n g s : Nat} {l : List (List D)} (o : AO) : AO.isPol (match o with | .box c => .box (sealL n g s l c) | .rov t1 g1 l1 i1 a => rovO t1 g1 l1 i1 (sealV n g s l a) | .pol t1 t2 s1 g1 l1 ov => .pol t1 t2 s1 g1 l1 (ov.map fun p => (p.1, sealV n g s l p.2)) | o => o) = o.isPol := by
  cases o <;> first | rfl | exact rovO_pol _ _ _ _ _
/-- A row of the call's own no longer turns from here on. -/
theorem Wk_seal {sl : Sl} {os : Os} (n : Nat) (hn : n ≤ 99999) {el s g : Nat} {l : List (List D)} (hg : lget os n = some (.row el s g l)) : Wk sl os (sealS n g s l sl) (sealO n g s l os) := by
  rintro cx a w ⟨h, e, rr⟩
  obtain ⟨x, hx, hge, hs0, xs, hown, hls, hrr⟩ := rr.st.obj n _ hg
  let h' : Hp := fun b => if x.has b then w.heap[b]? else h b
  let e' : Env := fun m => if m = n then none else e m
  have hh : h.le h' := by
    intro b o ho
    simp only [h']
    split
    · exact rr.st.vis b o ho
    · exact ho
  have hE : ∀ m, m ≠ n → e' m = e m := fun m hm => by simp [e', hm]
  have hrow : ∀ v y, e n = some y → g = y.gen → v = y.val → Rep h' v (.sl s l) := by
    intro v y hy _ hv
    rw [hx] at hy
    cases hy
    by_cases hl : 0 < l.length
    · obtain ⟨b, cap, cur, hsv, hheap, hlc, hcm, hcs, hr⟩ := row_cells rr hg hx hl
      rw [hv, hsv]
      refine .sl s l b 0 cap cur el (0, 0) ?_ ?_ hls (fun i es j d hi hj => ?_) hlc
      · simp only [h']; rw [if_pos (.inl (by simp [hsv, blkOf]))]; exact hheap
      · have := Nat.mul_le_mul_right s hlc; omega
      · simpa using (hr i es j d hi hj).mono hh
    · have h0 : l = [] := List.eq_nil_of_length_eq_zero (by omega)
      subst h0
      rcases hown.2 with ⟨hq, _⟩ | ⟨b, cap, cur, hq, _⟩
      · rw [hv, hq]; exact .nil _ _ _
      · rw [hv, hq]; exact .nil _ _ _
  have hgen : ∀ y, e n = some y → y.gen = g := fun y hy => by rw [hx] at hy; cases hy; exact hge
  refine ⟨h', e', ⟨fun b o ho => ?_, fun m o ho => ?_, fun m y hy => ?_, fun m1 m2 y1 y2 b hne h1 h2 => ?_, fun m y b hy hb => ?_, fun m o y ho hy hp => ?_⟩, ⟨rr.fr.os, rr.fr.tape, rr.fr.output, rr.fr.size, rr.fr.old, fun b hb => ?_, fun m y b hy => ?_, fun m y hy => ?_⟩, fun t y hy => ?_, rr.size, rr.defers⟩
  · simp only [h'] at ho
    split at ho
    · exact ho
    · exact rr.st.vis b o ho
  · rw [sealO_get] at ho
    split at ho
    · cases ho
    · rename_i c
      obtain ⟨o0, ho0, rfl⟩ := Option.map_eq_some_iff.1 ho
      obtain ⟨y, hy, hr⟩ := rr.st.obj m o0 ho0
      refine ⟨y, by rw [hE m c]; exact hy, ?_⟩
      cases o0 with
      | box c0 =>
        obtain ⟨h0, b, cs, t, hv, hc, hs, hr, h1⟩ := hr
        refine ⟨h0, b, cs, t, hv, hc, by simp only [sealL_len]; exact hs, fun j z hj => ?_, h1⟩
        rw [sealL_get, Option.map_eq_some_iff] at hj
        obtain ⟨z0, hz0, rfl⟩ := hj
        exact sealV_rep hh hE hrow (hr j z0 hz0) hgen
      | row t0 s0 g0 l0 =>
        obtain ⟨hg, hs, xs, ho, hl, hr⟩ := hr
        exact ⟨hg, hs, xs, ho, hl, fun i es j d hi hj => (hr i es j d hi hj).mono hh⟩
      | map ka ea l0 =>
        obtain ⟨h0, b, es, clock, f, hv, hc, hm⟩ := hr
        exact ⟨h0, b, es, clock, f, hv, hc, hm.mono hh⟩
      | rov t1 g1 l1 i1 a1 =>
        obtain ⟨hi, v, h1, hv, hr⟩ := hr
        exact rovO_rep ⟨hi, v, h1, sealV_rep hh hE hrow hv hgen, hr.mono hh (fun _ _ => rfl)⟩
      | pol t1 t2 s1 g1 l1 ov =>
        exact PolRep.map hr hh (fun a v hv => sealV_rep hh hE hrow hv hgen)
  · simp only [e'] at hy
    split at hy
    · cases hy
    · rename_i c
      obtain ⟨o, ho⟩ := rr.st.dom m y hy
      exact ⟨_, by rw [sealO_get, if_neg c, ho]; rfl⟩
  · simp only [e'] at h1 h2
    split at h1
    · cases h1
    · split at h2
      · cases h2
      · exact rr.st.sep m1 m2 y1 y2 b hne h1 h2
  · simp only [e'] at hy
    split at hy
    · cases hy
    · rename_i c
      simp only [h']
      rw [if_neg (fun q => rr.st.sep m n y x b c hy hx hb q)]
      exact rr.st.excl m y b hy hb
  · simp only [e'] at hy
    split at hy
    · cases hy
    · rename_i c
      rw [sealO_get, if_neg c] at ho
      obtain ⟨o0, ho0, rfl⟩ := Option.map_eq_some_iff.1 ho
      exact rr.st.lone m o0 y ho0 hy (by rw [← sealO_pol]; exact hp)
  · simp only [h']
    split
    · rename_i c
      rcases rr.fr.own n x b hx c with q | q
      · obtain ⟨y, hy, _⟩ := q; have := cx.he0 n y hy; omega
      · omega
    · exact rr.fr.hold b hb
  · simp only [e'] at hy
    split at hy
    · cases hy
    · exact rr.fr.own m y b hy
  · obtain ⟨y', hy', hle⟩ := rr.fr.keep m y hy
    exact ⟨y', by rw [hE m (fun q => by have := cx.he0 m y hy; omega)]; exact hy', hle⟩
  · rw [sealS_get, Option.map_eq_some_iff] at hy
    obtain ⟨y0, hy0, rfl⟩ := hy
    exact sealV_rep hh hE hrow (rr.slots t y0 hy0) hgen
theorem RwRep.frozen {h h' : Hp} {w : World} {x : Ent} {t s g : Nat} {l : List (List D)} (r : RwRep h w x t s g l) (hh : h.le h') (hb : ∀ b, blkOf x.val = some b → h' b = w.heap[b]?) : Rep h' x.val (.sl s l) := by
  by_cases hl : 0 < l.length
  · obtain ⟨b, cap, cur, hsv, hheap, hlc, hcm, hcs, hr⟩ := r.cells hl
    rw [hsv]
    refine .sl s l b 0 cap cur t (0, 0) (by rw [hb b (by simp [hsv, blkOf])]; exact hheap) ?_ r.2.2.choose_spec.2.1 (fun i es j d hi hj => ?_) hlc
    · have := Nat.mul_le_mul_right s hlc; omega
    · simpa using (hr i es j d hi hj).mono hh
  · have h0 : l = [] := List.eq_nil_of_length_eq_zero (by omega)
    subst h0
    obtain ⟨_, _, xs, hown, _⟩ := r
    rcases hown.2 with ⟨hq, _⟩ | ⟨b, cap, cur, hq, _⟩
    · rw [hq]; exact .nil _ _ _
    · rw [hq]; exact .nil _ _ _
def polD (s : Nat) (l : List (List (List D))) : List (List D) := l.map fun r => [.sl s r]
/-- A row of rows of the call's own no longer turns from here on. -/
theorem Wk_sealP {sl : Sl} {os : Os} (n : Nat) (hn : n ≤ 99999) {t t2 s g : Nat} {l : List (List (List D))} (hg : lget os n = some (.pol t t2 s g l none)) : Wk sl os (sealS n g 1 (polD s l) sl) (sealO n g 1 (polD s l) os) := by
  rintro cx a w ⟨h, e, rr⟩
  obtain ⟨x, hx, hpol⟩ := rr.st.obj n _ hg
  have hpol2 := hpol
  obtain ⟨hs0, vs, hvl, hv1, hrw, hov, hin, hmo, hdi, hou⟩ := hpol
  let h' : Hp := fun b => if x.has b then w.heap[b]? else h b
  let e' : Env := fun m => if m = n then none else e m
  have hh : h.le h' := by
    intro b o ho
    simp only [h']
    split
    · exact rr.st.vis b o ho
    · exact ho
  have hE : ∀ m, m ≠ n → e' m = e m := fun m hm => by simp [e', hm]
  have nn : ∀ i, ∀ a' : AV, (none : Option (Nat × AV)) ≠ some (i, a') := fun i a' c => by cases c
  have hcell : ∀ (i : Nat) v rows, vs[i]? = some v → l[i]? = some rows → Rep h' v (.sl s rows) := fun i v rows hi hl => by
    refine (hin i v rows hi hl (nn i)).frozen hh (fun b hb => ?_)
    simp only [h']
    rw [if_pos (.inr ((hmo b).2 ⟨i, v, hi, nn i, hb⟩))]
  have hrow : ∀ v y, e n = some y → g = y.gen → v = y.val → Rep h' v (.sl 1 (polD s l)) := by
    intro v y hy _ hv
    rw [hx] at hy
    cases hy
    rw [hv]
    have hr2 : RwRep h' w x t 1 g (polD s l) := by
      obtain ⟨hg0, h1s, xs, ho, hl0, hr0⟩ := hrw
      rw [List.length_map, hvl] at ho
      refine ⟨hg0, h1s, xs, by rw [polD, List.length_map]; exact ho, fun k es hk => ?_, fun k es j d hk hj => ?_⟩
      · rw [polD, List.getElem?_map, Option.map_eq_some_iff] at hk
        obtain ⟨_, _, rfl⟩ := hk
        rfl
      · rw [polD, List.getElem?_map, Option.map_eq_some_iff] at hk
        obtain ⟨rows, hrows, rfl⟩ := hk
        cases j with
        | succ j => simp at hj
        | zero =>
          simp at hj
          subst hj
          have hkl : k < vs.length := by have := (List.getElem?_eq_some_iff.1 hrows).1; omega
          have hkv : vs[k]? = some vs[k] := List.getElem?_eq_getElem hkl
          have := hr0 k [.v vs[k]] 0 (.v vs[k]) (by simp [hkv]) rfl
          rw [this.raw]
          exact hcell k _ rows hkv hrows
    exact hr2.frozen (Hp.le.refl h') (fun b hb => by simp only [h']; rw [if_pos (.inl hb)])
  have hgen : ∀ y, e n = some y → y.gen = g := fun y hy => by rw [hx] at hy; cases hy; exact hrw.1
  refine ⟨h', e', ⟨fun b o ho => ?_, fun m o ho => ?_, fun m y hy => ?_, fun m1 m2 y1 y2 b hne h1 h2 => ?_, fun m y b hy hb => ?_, fun m o y ho hy hp => ?_⟩, ⟨rr.fr.os, rr.fr.tape, rr.fr.output, rr.fr.size, rr.fr.old, fun b hb => ?_, fun m y b hy => ?_, fun m y hy => ?_⟩, fun t y hy => ?_, rr.size, rr.defers⟩
  · simp only [h'] at ho
    split at ho
    · exact ho
    · exact rr.st.vis b o ho
  · rw [sealO_get] at ho
    split at ho
    · cases ho
    · rename_i c
      obtain ⟨o0, ho0, rfl⟩ := Option.map_eq_some_iff.1 ho
      obtain ⟨y, hy, hr⟩ := rr.st.obj m o0 ho0
      refine ⟨y, by rw [hE m c]; exact hy, ?_⟩
      cases o0 with
      | box c0 =>
        obtain ⟨h0, b, cs, t, hv, hc, hs, hr, h1⟩ := hr
        refine ⟨h0, b, cs, t, hv, hc, by simp only [sealL_len]; exact hs, fun j z hj => ?_, h1⟩
        rw [sealL_get, Option.map_eq_some_iff] at hj
        obtain ⟨z0, hz0, rfl⟩ := hj
        exact sealV_rep hh hE hrow (hr j z0 hz0) hgen
      | row t0 s0 g0 l0 =>
        obtain ⟨hg, hs, xs, ho, hl, hr⟩ := hr
        exact ⟨hg, hs, xs, ho, hl, fun i es j d hi hj => (hr i es j d hi hj).mono hh⟩
      | map ka ea l0 =>
        obtain ⟨h0, b, es, clock, f, hv, hc, hm⟩ := hr
        exact ⟨h0, b, es, clock, f, hv, hc, hm.mono hh⟩
      | rov t1 g1 l1 i1 a1 =>
        obtain ⟨hi, v, h1, hv, hr⟩ := hr
        exact rovO_rep ⟨hi, v, h1, sealV_rep hh hE hrow hv hgen, hr.mono hh (fun _ _ => rfl)⟩
      | pol t1 t2 s1 g1 l1 ov =>
        exact PolRep.map hr hh (fun a v hv => sealV_rep hh hE hrow hv hgen)
  · simp only [e'] at hy
    split at hy
    · cases hy
    · rename_i c
      obtain ⟨o, ho⟩ := rr.st.dom m y hy
      exact ⟨_, by rw [sealO_get, if_neg c, ho]; rfl⟩
  · simp only [e'] at h1 h2
    split at h1
    · cases h1
    · split at h2
      · cases h2
      · exact rr.st.sep m1 m2 y1 y2 b hne h1 h2
  · simp only [e'] at hy
    split at hy
    · cases hy
    · rename_i c
      simp only [h']
      rw [if_neg (fun q => rr.st.sep m n y x b c hy hx hb q)]
      exact rr.st.excl m y b hy hb
  · simp only [e'] at hy
    split at hy
    · cases hy
    · rename_i c
      rw [sealO_get, if_neg c] at ho
      obtain ⟨o0, ho0, rfl⟩ := Option.map_eq_some_iff.1 ho
      exact rr.st.lone m o0 y ho0 hy (by rw [← sealO_pol]; exact hp)
  · simp only [h']
    split
    · rename_i c
      rcases rr.fr.own n x b hx c with q | q
      · obtain ⟨y, hy, _⟩ := q; have := cx.he0 n y hy; omega
      · omega
    · exact rr.fr.hold b hb
  · simp only [e'] at hy
    split at hy
    · cases hy
    · exact rr.fr.own m y b hy
  · obtain ⟨y', hy', hle⟩ := rr.fr.keep m y hy
    exact ⟨y', by rw [hE m (fun q => by have := cx.he0 m y hy; omega)]; exact hy', hle⟩
  · rw [sealS_get, Option.map_eq_some_iff] at hy
    obtain ⟨y0, hy0, rfl⟩ := hy
    exact sealV_rep hh hE hrow (rr.slots t y0 hy0) hgen
/-! Loops of which only what turns is told. -/
theorem awp_loopU {α : Type} (p : α → Prop) (m : α → Nat) (us : α → Sl) (uo : α → Os) {P : Program} {kp : List Nat} {b : PC} {Q : QF} {sl sl1 : Sl} {os os1 : Os} (x : α) (h0 : p x)
    (hw : Wk sl os sl1 os1) (hw2 : Wk sl1 os1 (lputs sl1 (us x)) (lputs os1 (uo x)))
    (h : ∀ x, p x → awp P kp b (loopQ (LI p m (fun y => lputs sl1 (us y)) (fun y => lputs os1 (uo y))) (m x) Q) (lputs sl1 (us x)) (lputs os1 (uo x))) : awp P kp (.loop b) Q sl os :=
  awp_loopI p m (fun y => lputs sl1 (us y)) (fun y => lputs os1 (uo y)) x h0 (hw.trans hw2) h
/-- A row in a variable's part that is not there yet is a row of nothing. -/
theorem Wk_nlB {sl : Sl} {os : Os} (n j d el : Nat) {s : Nat} {c : List AV} (h : lget os n = some (.box c)) (hj : c[j]? = some (.nl s)) (hd : lget os d = none) (hs : 0 < s) :
    Wk sl os sl (lput (lput os d (.row el s 0 [])) n (.box (c.set j (.own d 0)))) := by
  rintro cx a w ⟨h1, e, rr⟩
  have hen := env_none rr hd
  have hdn : d ≠ n := by rintro rfl; rw [hd] at h; cases h
  have r2 := rr.upd d ⟨.slice none 0 0, 0, []⟩ (.row el s 0 []) (ob := none) (w' := w) ⟨rfl, rfl, rfl, Nat.le_refl _, fun _ _ _ => rfl⟩ (fun b hb => by cases hb) (le_of_none hen) (fun b hb => by simp [Ent.has, blkOf] at hb)
    ⟨rfl, hs, [], ⟨by simp, .inl ⟨rfl, rfl⟩⟩, by simp, by simp⟩
  have hg2 : lget (lput os d (.row el s 0 [])) n = some (.box c) := by rw [get_put_other _ _ (Ne.symm hdn)]; exact h
  obtain ⟨x, hx, h0, b, cs, t, hv, hc, hsz, hr, ho1⟩ := r2.st.obj n _ hg2
  refine ⟨h1, e.set d ⟨.slice none 0 0, 0, []⟩, ⟨r2.st.vis, fun m o ho => ?_, fun m y hy => ?_, r2.st.sep, r2.st.excl, fun m o y ho hy hp => ?_⟩, r2.fr, r2.slots, r2.size, r2.defers⟩
  · rw [get_put] at ho
    by_cases hm : m = n
    · subst hm
      simp at ho
      subst ho
      refine ⟨x, hx, h0, b, cs, t, hv, hc, by simp [hsz], fun k av hk => ?_, ho1⟩
      by_cases hkj : k = j
      · subst hkj
        have hlt : k < c.length := (List.getElem?_eq_some_iff.1 hj).1
        simp [hlt] at hk
        subst hk
        have := hr k _ hj
        generalize cs.getD k undef = v at this
        cases this with
        | nl _ => exact .own _ d 0 ⟨.slice none 0 0, 0, []⟩ (by simp [Env.set]) rfl (Nat.le_refl _) (fun _ => rfl)
      · exact hr k av (by simpa [Ne.symm hkj] using hk)
    · rw [if_neg hm] at ho
      exact r2.st.obj m o ho
  · rw [get_put]
    by_cases hm : m = n
    · simp [hm]
    · rw [if_neg hm]; exact r2.st.dom m y hy
  · rw [get_put] at ho
    by_cases hm : m = n
    · subst hm
      exact r2.st.lone m _ y hg2 hy rfl
    · rw [if_neg hm] at ho; exact r2.st.lone m o y ho hy hp
theorem at_drop {α : Type} (f : α → List D) (l : List α) (j : Nat) (h : j < l.length) : ∃ e, l.drop j = e :: l.drop (j + 1) ∧ (l.map f).getD (Int.toNat (j : Int)) [] = f e ∧ l[j]? = some e ∧ j < l.length :=
  ⟨l[j], List.drop_eq_getElem_cons h, by simp [List.getD, h], List.getElem?_eq_getElem h, h⟩
/-! A set of numbers, as a map tells it. -/
def mset (s : List Int) : ML := s.map fun x => ([.int .i64 x], [.v (.bool true)])
def sadd (s : List Int) (x : Int) : List Int := if s.elem x then s else s ++ [x]
theorem mcmp_set (x : Int) : ∀ (s : List Int), mcmp [.i] [.int .i64 x] (mset s) = true
  | [] => rfl
  | y :: s => by
    have := mcmp_set x s
    simp only [mset] at this
    simp only [mset, List.map_cons, mcmp, eqLs, if_true, Option.map_some, Bool.and_true]
    split
    · rfl
    · exact this
    · rename_i h; cases h
theorem mget_set (x : Int) : ∀ (s : List Int), mget [.i] [.int .i64 x] (mset s) = if s.elem x then some [.v (.bool true)] else none
  | [] => rfl
  | y :: s => by
    have := mget_set x s
    simp only [mset] at this
    simp only [mset, List.map_cons, mget, eqLs, if_true, Option.map_some, Bool.and_true, Option.some.injEq]
    by_cases h : x = y
    · simp [h]
    · simp [h, this]
theorem mgetD_set (x : Int) (s : List Int) : (mget [.i] [.int .i64 x] (mset s)).getD [.v (.bool false)] = [.v (.bool (s.elem x))] := by
  rw [mget_set]; cases s.elem x <;> rfl
theorem mput_set (x : Int) : ∀ (s : List Int), mput [.i] [.int .i64 x] [.v (.bool true)] (mset s) = mset (sadd s x)
  | [] => rfl
  | y :: s => by
    have := mput_set x s
    simp only [mset] at this
    simp only [mset, List.map_cons, mput, eqLs, if_true, Option.map_some, Bool.and_true, Option.some.injEq]
    by_cases h : x = y
    · simp [h, sadd]
    · by_cases hs : x ∈ s <;> simp [h, this, hs, sadd]
theorem mcmp_nil (ks : List LK) (k : List Value) : mcmp ks k [] = true := rfl
/-- Rows of the call's own, by their names, that no longer turn. -/
def sealsO : List Nat → Os → Os
  | [], os => os
  | n :: r, os => match lget os n with
    | some (.row _ s g l) => if n ≤ 99999 then sealsO r (sealO n g s l os) else sealsO r os
    | some (.pol _ _ s g l none) => if n ≤ 99999 then sealsO r (sealO n g 1 (polD s l) os) else sealsO r os
    | _ => sealsO r os
def sealsS : List Nat → Sl → Os → Sl
  | [], sl, _ => sl
  | n :: r, sl, os => match lget os n with
    | some (.row _ s g l) => if n ≤ 99999 then sealsS r (sealS n g s l sl) (sealO n g s l os) else sealsS r sl os
    | some (.pol _ _ s g l none) => if n ≤ 99999 then sealsS r (sealS n g 1 (polD s l) sl) (sealO n g 1 (polD s l) os) else sealsS r sl os
    | _ => sealsS r sl os
theorem Wk_seals : ∀ (ns : List Nat) {sl : Sl} {os : Os}, Wk sl os (sealsS ns sl os) (sealsO ns os)
  | [], _, _ => Wk.refl _ _
  | n :: r, sl, os => by
    simp only [sealsS, sealsO]
    split
    · rename_i el s g l h
      split
      · rename_i hn
        exact (Wk_seal n hn h).trans (Wk_seals r)
      · exact Wk_seals r
    · rename_i t1 t2 s g l h
      split
      · rename_i hn
        exact (Wk_sealP n hn h).trans (Wk_seals r)
      · exact Wk_seals r
    · exact Wk_seals r
theorem wkE_of {ns : List Nat} {K : Sl → Os → Prop} {sl : Sl} {os : Os} (h : K (sealsS ns sl os) (sealsO ns os)) : wkE ns K sl os := ⟨_, _, Wk_seals ns, h⟩
theorem awp_exit_seal {P : Program} {kp : List Nat} {Q : QF} {sl : Sl} {os : Os} (ns : List Nat) {i : Nat} (h : Q (.exit i) (sealsS ns sl os) (sealsO ns os)) : awp P kp (.exit i) Q sl os := awp_exit_wk (Wk_seals ns) h
theorem runW_nil {P : Program} {l : List PG} {K : Sl → Os → Prop} {sl : Sl} {os : Os} : runW P l [] K sl os = runG P l K sl os := rfl
theorem runW_cons {P : Program} {l : List PG} {n : Nat} {ns : List Nat} {r : List (Nat × List Nat)} {K : Sl → Os → Prop} {sl : Sl} {os : Os} : runW P l ((n, ns) :: r) K sl os = runG P (l.take n) (wkE ns (runW P (l.drop n) r K)) sl os := rfl
/-- What was made only under a test may be told otherwise, if that is the same where the test holds. -/
theorem wkE_gd {ns : List Nat} {K : Sl → Os → Prop} {sl : Sl} {os : Os} (t : Nat) {l : List (Bool × Bool)} {a : AV} (a' : AV) (h : lget sl t = some (.gd l a)) (ha : okL l → a = a') (hk : K (lput sl t (.gd l a')) os) : wkE ns K sl os := by
  refine ⟨_, _, ?_, hk⟩
  rintro cx ac w ⟨h1, e, rr⟩
  refine ⟨h1, e, rr.st, rr.fr, fun t' x hx => ?_, rr.size, rr.defers⟩
  rw [get_put] at hx
  by_cases c : t' = t
  · subst c
    simp at hx
    subst hx
    have := rr.slots t' _ h
    generalize ac.tmps.getD t' undef = v at this
    cases this with
    | gd _ _ _ hr hn => exact .gd _ _ _ (fun q => ha q ▸ hr q) hn
  · rw [if_neg c] at hx
    exact rr.slots t' x hx
/-- A row in a variable's part that is not there reads as a row of nothing. -/
theorem Wk_nlBD {sl : Sl} {os : Os} (n j : Nat) {s : Nat} {c : List AV} (h : lget os n = some (.box c)) (hj : c[j]? = some (.nl s)) : Wk sl os sl (lput os n (.box (c.set j (.d (.sl s []))))) := by
  rintro cx a w ⟨h1, e, r2⟩
  obtain ⟨x, hx, h0, b, cs, t, hv, hc, hsz, hr, ho1⟩ := r2.st.obj n _ h
  refine ⟨h1, e, ⟨r2.st.vis, fun m o ho => ?_, fun m y hy => ?_, r2.st.sep, r2.st.excl, fun m o y ho hy hp => ?_⟩, r2.fr, r2.slots, r2.size, r2.defers⟩
  · rw [get_put] at ho
    by_cases hm : m = n
    · subst hm
      simp at ho
      subst ho
      refine ⟨x, hx, h0, b, cs, t, hv, hc, by simp [hsz], fun k av hk => ?_, ho1⟩
      by_cases hkj : k = j
      · subst hkj
        have hlt : k < c.length := (List.getElem?_eq_some_iff.1 hj).1
        simp [hlt] at hk
        subst hk
        have := hr k _ hj
        generalize cs.getD k undef = v at this
        cases this with
        | nl _ => exact .d _ _ (.nil _ _ _)
      · exact hr k av (by simpa [Ne.symm hkj] using hk)
    · rw [if_neg hm] at ho
      exact r2.st.obj m o ho
  · rw [get_put]
    by_cases hm : m = n
    · simp [hm]
    · rw [if_neg hm]; exact r2.st.dom m y hy
  · rw [get_put] at ho
    by_cases hm : m = n
    · subst hm
      exact r2.st.lone m _ y h hy rfl
    · rw [if_neg hm] at ho; exact r2.st.lone m o y ho hy hp
end Mq
