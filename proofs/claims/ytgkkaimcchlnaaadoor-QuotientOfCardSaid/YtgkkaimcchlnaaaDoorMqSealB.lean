/- A variable that no longer turns. Part of a verified reader of code, common to this project's claims. -/
import Derived.Test.YtgkkaimcchlnaaaDoorMqOwn
set_option linter.unusedVariables false
set_option linter.unusedSimpArgs false

namespace Mq
open Go Go.RowKit
set_option linter.unusedSectionVars false
variable [Glob]
set_option linter.unusedVariables false
mutual
def sealBV (n : Nat) (ds : List D) : AV → AV
  | .own m g' => if m = n then .un else .own m g'
  | .ptr m o => if m = n then .d (.cp ds o) else .ptr m o
  | .rptr m g' s' i o => if m = n then .un else .rptr m g' s' i o
  | .mp m => if m = n then .un else .mp m
  | .ag r => .ag (sealBL n ds r)
  | .tp r => .tp (sealBL n ds r)
  | .clo f r => .clo f (sealBL n ds r)
  | .gd c a => .gd c (sealBV n ds a)
  | .d x => .d x
  | .nl z => .nl z
  | .un => .un
def sealBL (n : Nat) (ds : List D) : List AV → List AV
  | [] => []
  | x :: r => sealBV n ds x :: sealBL n ds r
end
theorem sealBL_get {n : Nat} {ds : List D} : ∀ (r : List AV) (j : Nat), (sealBL n ds r)[j]? = (r[j]?).map (sealBV n ds)
  | [], j => by simp [sealBL]
  | x :: r, 0 => by simp [sealBL]
  | x :: r, j + 1 => by simpa [sealBL] using sealBL_get r j
theorem sealBL_len {n : Nat} {ds : List D} : ∀ (r : List AV), (sealBL n ds r).length = r.length
  | [] => rfl
  | x :: r => by simp [sealBL, sealBL_len r]
def sealBS (n : Nat) (ds : List D) : Sl → Sl
  | [] => []
  | (k, v) :: r => (k, sealBV n ds v) :: sealBS n ds r
def sealBO (n : Nat) (ds : List D) : Os → Os
  | [] => []
  | (k, o) :: r => if k = n then sealBO n ds r else (k, match o with | .box c => .box (sealBL n ds c) | .rov t1 g1 l1 i1 a => rovO t1 g1 l1 i1 (sealBV n ds a) | .pol t1 t2 s1 g1 l1 ov => .pol t1 t2 s1 g1 l1 (ov.map fun p => (p.1, sealBV n ds p.2)) | o => o) :: sealBO n ds r
theorem sealBS_get {n : Nat} {ds : List D} (t : Nat) : ∀ (sl : Sl), lget (sealBS n ds sl) t = (lget sl t).map (sealBV n ds)
  | [] => by simp [sealBS, lget]
  | (k, v) :: r => by
    simp only [sealBS, lget]
    split
    · rfl
    · exact sealBS_get t r
theorem sealBO_get {n : Nat} {ds : List D} (t : Nat) : ∀ (os : Os), lget (sealBO n ds os) t = if t = n then none else (lget os t).map fun o => match o with | .box c => .box (sealBL n ds c) | .rov t1 g1 l1 i1 a => rovO t1 g1 l1 i1 (sealBV n ds a) | .pol t1 t2 s1 g1 l1 ov => .pol t1 t2 s1 g1 l1 (ov.map fun p => (p.1, sealBV n ds p.2)) | o => o
  | [] => by simp [sealBO, lget]
  | (k, o) :: r => by
    have ih := sealBO_get (n := n) (ds := ds) t r
    simp only [sealBO, lget]
    by_cases hk : k = n
    · rw [if_pos hk, ih]
      by_cases ht : t = n
      · simp [ht]
      · rw [if_neg ht, if_neg ht, if_neg (by omega)]
    · rw [if_neg hk]
      simp only [lget]
      by_cases hkt : k = t
      · rw [if_pos hkt, if_neg (by omega), if_pos hkt]; rfl
      · rw [if_neg hkt, ih, if_neg hkt]
theorem sealBV_rep {h h' : Hp} {e e' : Env} {n : Nat} {ds : List D} (hh : h.le h') (he : ∀ m, m ≠ n → e' m = e m) (hn : ∀ x b o, e n = some x → x.val = .pointer (some ⟨b, 0, none⟩) → Rep h' (.pointer (some ⟨b, o, none⟩)) (.cp ds o)) {v : Value} {a : AV} (r : VRep h e v a) :
    VRep h' e' v (sealBV n ds a) := by
  induction r with
  | un v => exact .un v
  | d v x hr => exact .d v x (hr.mono hh)
  | own v m g' x hx h1 hg hv =>
    simp only [sealBV]
    split
    · exact .un _
    · rename_i c; exact .own v m g' x (by rw [he m c]; exact hx) h1 hg hv
  | ptr v m off x hx h1 b hb hv =>
    simp only [sealBV]
    split
    · rename_i c; subst c; rw [hv]; exact .d _ _ (hn x b off hx hb)
    · rename_i c; exact .ptr v m off x (by rw [he m c]; exact hx) h1 b hb hv
  | rptr v m g' s' i off x hx h1 hg hv =>
    simp only [sealBV]
    split
    · exact .un _
    · rename_i c; exact .rptr v m g' s' i off x (by rw [he m c]; exact hx) h1 hg hv
  | mp v m x hx h1 b hb hv =>
    simp only [sealBV]
    split
    · exact .un _
    · rename_i c; exact .mp v m x (by rw [he m c]; exact hx) h1 b hb hv
  | ag vs r hl _ h1 ih =>
    simp only [sealBV]
    refine .ag vs _ (by rw [sealBL_len]; exact hl) (fun j a hj => ?_) h1
    rw [sealBL_get, Option.map_eq_some_iff] at hj
    obtain ⟨a0, h0, rfl⟩ := hj
    exact ih j a0 h0
  | tp vs r hl _ ih =>
    simp only [sealBV]
    refine .tp vs _ (by rw [sealBL_len]; exact hl) (fun j a hj => ?_)
    rw [sealBL_get, Option.map_eq_some_iff] at hj
    obtain ⟨a0, h0, rfl⟩ := hj
    exact ih j a0 h0
  | gd v c a _ hn' ih => exact .gd v c _ (fun q => ih q) hn'
  | nl z => exact .nl z
  | clo f vs r hl _ ih =>
    simp only [sealBV]
    refine .clo f vs _ (by rw [sealBL_len]; exact hl) (fun j a hj => ?_)
    rw [sealBL_get, Option.map_eq_some_iff] at hj
    obtain ⟨a0, h0, rfl⟩ := hj
    exact ih j a0 h0
end Mq

