/- A variable that no longer turns. Part of a verified reader of code, common to this project's claims. -/
import Derived.Test.YtokfackbnnkbnaaMqOwn
set_option linter.unusedVariables false
set_option linter.unusedSimpArgs false

namespace Mq
open Go Go.RowKit
set_option linter.unusedSectionVars false
variable [Glob]
set_option linter.unusedVariables false
mutual
def sealBV (n : Nat) (ds : List D) : AV → AV
  | .own m g' => if m = n then .un else .own m g'
  | .ptr m o => if m = n then .d (.cp ds o) else .ptr m o
  | .rptr m g' s' i o => if m = n then .un else .rptr m g' s' i o
  | .mp m => if m = n then .un else .mp m
  | .ag r => .ag (sealBL n ds r)
  | .tp r => .tp (sealBL n ds r)
  | .clo f r => .clo f (sealBL n ds r)
  | .gd c a => .gd c (sealBV n ds a)
  | .d x => .d x
  | .nl z => .nl z
  | .un => .un
def sealBL (n : Nat) (ds : List D) : List AV → List AV
  | [] => []
  | x :: r => sealBV n ds x :: sealBL n ds r
end
theorem sealBL_get {n : Nat} {ds : List D} : ∀ (r : List AV) (j : Nat), (sealBL n ds r)[j]? = (r[j]?).map (sealBV n ds)
  | [], j => by simp [sealBL]
  | x :: r, 0 => by simp [sealBL]
  | x :: r, j + 1 => by simpa [sealBL] using sealBL_get r j
theorem sealBL_len {n : Nat} {ds : List D} : ∀ (r : List AV), (sealBL n ds r).length = r.length
  | [] => rfl
  | x :: r => by simp [sealBL, sealBL_len r]
def sealBS (n : Nat) (ds : List D) : Sl → Sl
  | [] => []
  | (k, v) :: r => (k, sealBV n ds v) :: sealBS n ds r
def sealBO (n : Nat) (ds : List D) : Os → Os
  | [] => []
  | (k, o) :: r => if k = n then sealBO n ds r else (k, match o with | .box c => .box (sealBL n ds c) | .rov t1 g1 l1 i1 a => rovO t1 g1 l1 i1 (sealBV n ds a) | o => o) :: sealBO n ds r
theorem sealBS_get {n : Nat} {ds : List D} (t : Nat) : ∀ (sl : Sl), lget (sealBS n ds sl) t = (lget sl t).map (sealBV n ds)
  | [] => by simp [sealBS, lget]
  | (k, v) :: r => by
    simp only [sealBS, lget]
    split
    · rfl
    · exact sealBS_get t r
theorem sealBO_get {n : Nat} {ds : List D} (t : Nat) : ∀ (os : Os), lget (sealBO n ds os) t = if t = n then none else (lget os t).map fun o => match o with | .box c => .box (sealBL n ds c) | .rov t1 g1 l1 i1 a => rovO t1 g1 l1 i1 (sealBV n ds a) | o => o
  | [] => by simp [sealBO, lget]
  | (k, o) :: r => by
    have ih := sealBO_get (n := n) (ds := ds) t r
    simp only [sealBO, lget]
    by_cases hk : k = n
    · rw [if_pos hk, ih]
      by_cases ht : t = n
      · simp [ht]
      · rw [if_neg ht, if_neg ht, if_neg (by omega)]
    · rw [if_neg hk]
      simp only [lget]
      by_cases hkt : k = t
      · rw [if_pos hkt, if_neg (by omega), if_pos hkt]; rfl
      · rw [if_neg hkt, ih, if_neg hkt]
theorem sealBV_rep {h h' : Hp} {e e' : Env} {n : Nat} {ds : List D} (hh : h.le h') (he : ∀ m, m ≠ n → e' m = e m) (hn : ∀ x b o, e n = some x → x.val = .pointer (some ⟨b, 0, none⟩) → Rep h' (.pointer (some ⟨b, o, none⟩)) (.cp ds o)) {v : Value} {a : AV} (r : VRep h e v a) :
    VRep h' e' v (sealBV n ds a) := by
  induction r with
  | un v => exact .un v
  | d v x hr => exact .d v x (hr.mono hh)
  | own v m g' x hx h1 hg hv =>
    simp only [sealBV]
    split
    · exact .un _
    · rename_i c; exact .own v m g' x (by rw [he m c]; exact hx) h1 hg hv
  | ptr v m off x hx h1 b hb hv =>
    simp only [sealBV]
    split
    · rename_i c; subst c; rw [hv]; exact .d _ _ (hn x b off hx hb)
    · rename_i c; exact .ptr v m off x (by rw [he m c]; exact hx) h1 b hb hv
  | rptr v m g' s' i off x hx h1 hg hv =>
    simp only [sealBV]
    split
    · exact .un _
    · rename_i c; exact .rptr v m g' s' i off x (by rw [he m c]; exact hx) h1 hg hv
  | mp v m x hx h1 b hb hv =>
    simp only [sealBV]
    split
    · exact .un _
    · rename_i c; exact .mp v m x (by rw [he m c]; exact hx) h1 b hb hv
  | ag vs r hl _ h1 ih =>
    simp only [sealBV]
    refine .ag vs _ (by rw [sealBL_len]; exact hl) (fun j a hj => ?_) h1
    rw [sealBL_get, Option.map_eq_some_iff] at hj
    obtain ⟨a0, h0, rfl⟩ := hj
    exact ih j a0 h0
  | tp vs r hl _ ih =>
    simp only [sealBV]
    refine .tp vs _ (by rw [sealBL_len]; exact hl) (fun j a hj => ?_)
    rw [sealBL_get, Option.map_eq_some_iff] at hj
    obtain ⟨a0, h0, rfl⟩ := hj
    exact ih j a0 h0
  | gd v c a _ hn' ih => exact .gd v c _ (fun q => ih q) hn'
  | nl z => exact .nl z
  | clo f vs r hl _ ih =>
    simp only [sealBV]
    refine .clo f vs _ (by rw [sealBL_len]; exact hl) (fun j a hj => ?_)
    rw [sealBL_get, Option.map_eq_some_iff] at hj
    obtain ⟨a0, h0, rfl⟩ := hj
    exact ih j a0 h0
/-- A variable of the call's own no longer turns from here on. -/
theorem Wk_sealB {sl : Sl} {os : Os} (n : Nat) (hn : n ≤ 99999) {l : List AV} {ds : List D} (hg : lget os n = some (.box l)) (hd : toDs l = some ds) : Wk sl os (sealBS n ds sl) (sealBO n ds os) := by
  rintro cx a w ⟨h, e, rr⟩
  obtain ⟨x, hx, h0, b0, cs, t, hv0, hc, hsz, hr, hone⟩ := rr.st.obj n _ hg
  obtain ⟨d1, d2, d3⟩ := toDs_map (h := h) (e := e) l ds hd
  have hxb : x.blk = some b0 := by simp [Ent.blk, hv0, blkOf]
  let h' : Hp := fun b => if b = b0 then w.heap[b]? else h b
  let e' : Env := fun m => if m = n then none else e m
  have hh : h.le h' := by
    intro b o ho
    simp only [h']
    split
    · exact rr.st.vis b o ho
    · exact ho
  have hE : ∀ m, m ≠ n → e' m = e m := fun m hm => by simp [e', hm]
  have hbox : ∀ y b o, e n = some y → y.val = .pointer (some ⟨b, 0, none⟩) → Rep h' (.pointer (some ⟨b, o, none⟩)) (.cp ds o) := by
    intro y b o hy hb
    rw [hx] at hy
    cases hy
    rw [hv0] at hb
    cases hb
    have := Rep.cp (h := h') ds o b0 0 cs t (0, 0) (by simp only [h', if_true]; exact hc) (by omega) (fun j d hj => by
      have hjl : j < l.length := by have := (List.getElem?_eq_some_iff.1 hj).1; omega
      simpa using (d3 _ j _ d (List.getElem?_eq_getElem hjl) hj (hr j _ (List.getElem?_eq_getElem hjl))).mono hh)
    simpa using this
  refine ⟨h', e', ⟨fun b o ho => ?_, fun m o ho => ?_, fun m y hy => ?_, fun m1 m2 y1 y2 b hne h1 h2 => ?_, fun m y b hy hb => ?_⟩, ⟨rr.fr.os, rr.fr.tape, rr.fr.output, rr.fr.size, rr.fr.old, fun b hb => ?_, fun m y b hy => ?_, fun m y hy => ?_⟩, fun t y hy => ?_, rr.size, rr.defers⟩
  · simp only [h'] at ho
    split at ho
    · exact ho
    · exact rr.st.vis b o ho
  · rw [sealBO_get] at ho
    split at ho
    · cases ho
    · rename_i c
      obtain ⟨o0, ho0, rfl⟩ := Option.map_eq_some_iff.1 ho
      obtain ⟨y, hy, hr⟩ := rr.st.obj m o0 ho0
      refine ⟨y, by rw [hE m c]; exact hy, ?_⟩
      cases o0 with
      | box c0 =>
        obtain ⟨h0, b, cs, t, hv, hc, hs, hr, h1⟩ := hr
        refine ⟨h0, b, cs, t, hv, hc, by simp only [sealBL_len]; exact hs, fun j z hj => ?_, h1⟩
        rw [sealBL_get, Option.map_eq_some_iff] at hj
        obtain ⟨z0, hz0, rfl⟩ := hj
        exact sealBV_rep hh hE hbox (hr j z0 hz0)
      | row t0 s0 g0 l0 =>
        obtain ⟨hg, hs, xs, ho, hl, hr⟩ := hr
        exact ⟨hg, hs, xs, ho, hl, fun i es j d hi hj => (hr i es j d hi hj).mono hh⟩
      | map ka ea l0 =>
        obtain ⟨h0, b, es, clock, f, hv, hc, hm⟩ := hr
        exact ⟨h0, b, es, clock, f, hv, hc, hm.mono hh⟩
      | rov t1 g1 l1 i1 a1 =>
        obtain ⟨hi, v, h1, hv, hr⟩ := hr
        exact rovO_rep ⟨hi, v, h1, sealBV_rep hh hE hbox hv, hr.mono hh (fun _ _ => rfl)⟩
  · simp only [e'] at hy
    split at hy
    · cases hy
    · rename_i c
      obtain ⟨o, ho⟩ := rr.st.dom m y hy
      exact ⟨_, by rw [sealBO_get, if_neg c, ho]; rfl⟩
  · simp only [e'] at h1 h2
    split at h1
    · cases h1
    · split at h2
      · cases h2
      · exact rr.st.sep m1 m2 y1 y2 b hne h1 h2
  · simp only [e'] at hy
    split at hy
    · cases hy
    · rename_i c
      simp only [h']
      rw [if_neg (fun q => rr.st.sep m n y x b c hy hx hb (by rw [q]; exact hxb))]
      exact rr.st.excl m y b hy hb
  · simp only [h']
    split
    · rename_i c
      rcases rr.fr.own n x b hx (by rw [c]; exact hxb) with q | q
      · obtain ⟨y, hy, _⟩ := q; have := cx.he0 n y hy; omega
      · omega
    · exact rr.fr.hold b hb
  · simp only [e'] at hy
    split at hy
    · cases hy
    · exact rr.fr.own m y b hy
  · obtain ⟨y', hy', hle⟩ := rr.fr.keep m y hy
    exact ⟨y', by rw [hE m (fun q => by have := cx.he0 m y hy; omega)]; exact hy', hle⟩
  · rw [sealBS_get, Option.map_eq_some_iff] at hy
    obtain ⟨y0, hy0, rfl⟩ := hy
    exact sealBV_rep hh hE hbox (rr.slots t y0 hy0)
theorem wkE_box {ns : List Nat} {K : Sl → Os → Prop} {sl : Sl} {os : Os} (n : Nat) (hn : n ≤ 99999) {l : List AV} {ds : List D} (hg : lget os n = some (.box l)) (hd : toDs l = some ds) (hk : K (sealBS n ds sl) (sealBO n ds os)) : wkE ns K sl os := ⟨_, _, Wk_sealB n hn hg hd, hk⟩
end Mq

