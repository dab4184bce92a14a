/- Loops, and telling less of a state. Part of a verified reader of code, common to this project's claims. -/
import Derived.Test.YtdnpmfkicgooaaaMqAwp
import Derived.RowKit
namespace Mq
open Go Go.RowKit

theorem wrapI64 (n : Int) (h1 : -9223372036854775808 ≤ n) (h2 : n ≤ 9223372036854775807) : IntKind.i64.wrap n = n := by rw [IntKind.wrap_i64]; omega
/-- A counter goes on. -/
theorem count64 {i n : Nat} (h : i < n) (hn : n ≤ maxLen) : Value.int .i64 (IntKind.i64.wrap ((i : Int) + 1)) = Value.int .i64 ((i + 1 : Nat) : Int) := by
  have : maxLen = 9223372036854775807 := rfl
  rw [wrapI64 _ (by omega) (by omega)]
  rfl
/-! Loops, and telling less of a state. -/
theorem VRep.restrict {h : Hp} {e e' : Env} {v : Value} {a : AV} (r : VRep h e v a) : (∀ n ∈ nm a, e' n = e n) → VRep h e' v a := by
  induction r with
  | un v => intro _; exact .un v
  | d v x hr => intro _; exact .d v x hr
  | own v n g x hx h1 hg hv => intro hn; exact .own v n g x (by rw [hn n (by simp [nm])]; exact hx) h1 hg hv
  | ptr v n off x hx h1 b hb hv => intro hn; exact .ptr v n off x (by rw [hn n (by simp [nm])]; exact hx) h1 b hb hv
  | rptr v n g s i off x hx h1 hg hv => intro hn; exact .rptr v n g s i off x (by rw [hn n (by simp [nm])]; exact hx) h1 hg hv
  | mp v n x hx h1 b hb hv => intro hn; exact .mp v n x (by rw [hn n (by simp [nm])]; exact hx) h1 b hb hv
  | ag vs l hl _ h1 ih => intro hn; exact .ag vs l hl (fun j a hj => ih j a hj (fun n hna => hn n (by simp only [nm, mem_nmL]; exact ⟨a, List.mem_of_getElem? hj, hna⟩))) h1
  | tp vs l hl _ ih => intro hn; exact .tp vs l hl (fun j a hj => ih j a hj (fun n hna => hn n (by simp only [nm, mem_nmL]; exact ⟨a, List.mem_of_getElem? hj, hna⟩)))
  | gd v l a _ hn' ih => intro hn; exact .gd v l a (fun c => ih c (by simpa [nm] using hn)) hn'
  | nl s => intro _; exact .nl s
  | clo f vs l hl _ ih => intro hn; exact .clo f vs l hl (fun j a hj => ih j a hj (fun n hna => hn n (by simp only [nm, mem_nmL]; exact ⟨a, List.mem_of_getElem? hj, hna⟩)))

def hasK {α : Type} (l : List (Nat × α)) (n : Nat) : Bool := (lget l n).isSome
def nmO : AO → List Nat
  | .box l => nmL l
  | _ => []
/-- Every name that the slots and the variables lead to is there. -/
def closedA (os' : Os) : Sl → Bool
  | [] => true
  | (_, v) :: r => (nm v).all (hasK os') && closedA os' r
def closedO (os' : Os) : Os → Bool
  | [] => true
  | (_, o) :: r => (nmO o).all (hasK os') && closedO os' r
def subS (sl : Sl) : Sl → Prop
  | [] => True
  | (k, v) :: r => lget sl k = some v ∧ subS sl r
def subO (os : Os) : Os → Prop
  | [] => True
  | (k, v) :: r => lget os k = some v ∧ subO os r
theorem subS_get {sl : Sl} : ∀ {sl' : Sl}, subS sl sl' → ∀ t x, lget sl' t = some x → lget sl t = some x
  | (k, v) :: r, h, t, x, hx => by
    simp only [lget] at hx
    split at hx
    · rename_i c; subst c; cases hx; exact h.1
    · exact subS_get h.2 t x hx
  | [], _, _, _, hx => by simp [lget] at hx
theorem subO_get {sl : Os} : ∀ {sl' : Os}, subO sl sl' → ∀ t x, lget sl' t = some x → lget sl t = some x
  | (k, v) :: r, h, t, x, hx => by
    simp only [lget] at hx
    split at hx
    · rename_i c; subst c; cases hx; exact h.1
    · exact subO_get h.2 t x hx
  | [], _, _, _, hx => by simp [lget] at hx
theorem closedA_get {os' : Os} : ∀ {sl : Sl}, closedA os' sl = true → ∀ t x, lget sl t = some x → ∀ n ∈ nm x, hasK os' n = true
  | (k, v) :: r, h, t, x, hx, n, hn => by
    simp only [closedA, Bool.and_eq_true] at h
    simp only [lget] at hx
    split at hx
    · cases hx; exact List.all_eq_true.1 h.1 n hn
    · exact closedA_get h.2 t x hx n hn
  | [], _, _, _, hx, _, _ => by simp [lget] at hx
theorem closedO_get {os' : Os} : ∀ {sl : Os}, closedO os' sl = true → ∀ t x, lget sl t = some x → ∀ n ∈ nmO x, hasK os' n = true
  | (k, v) :: r, h, t, x, hx, n, hn => by
    simp only [closedO, Bool.and_eq_true] at h
    simp only [lget] at hx
    split at hx
    · cases hx; exact List.all_eq_true.1 h.1 n hn
    · exact closedO_get h.2 t x hx n hn
  | [], _, _, _, hx, _, _ => by simp [lget] at hx

/-- Less may be told: fewer slots, fewer objects. -/
theorem Wk_sub {sl sl' : Sl} {os os' : Os} (h3 : closedA os' sl' = true) (h4 : closedO os' os' = true) (h1 : subS sl sl') (h2 : subO os os') : Wk sl os sl' os' := by
  rintro cx a w _ ⟨h, e, rr⟩
  have hE : ∀ n, hasK os' n = true → (fun n => if hasK os' n then e n else none) n = e n := fun n hn => by simp [hn]
  refine ⟨h, fun n => if hasK os' n then e n else none, ⟨rr.st.vis, fun n o ho => ?_, fun n x hx => ?_, ?_, ?_⟩, ⟨rr.fr.os, rr.fr.tape, rr.fr.output, rr.fr.size, rr.fr.old, rr.fr.hold, ?_⟩, fun t x hx => ?_, rr.size, rr.defers⟩
  · obtain ⟨x, hx, hr⟩ := rr.st.obj n o (subO_get h2 n o ho)
    refine ⟨x, by simp only [hasK, ho, Option.isSome_some, if_true]; exact hx, ?_⟩
    cases o with
    | box l =>
      obtain ⟨h0, b, cs, t, hv, hc, hs, hr, ho1⟩ := hr
      refine ⟨h0, b, cs, t, hv, hc, hs, fun j y hj => (hr j y hj).restrict (fun n' hn' => hE n' ?_), ho1⟩
      exact closedO_get h4 n _ ho n' (by simp only [nmO, mem_nmL]; exact ⟨y, List.mem_of_getElem? hj, hn'⟩)
    | row t s g l => exact hr
    | map l => exact hr
  · split at hx
    · rename_i c
      simp only [hasK, Option.isSome_iff_exists] at c
      exact c
    · cases hx
  · intro n m x y b hne hx hy
    split at hx
    · split at hy
      · exact rr.st.sep n m x y b hne hx hy
      · cases hy
    · cases hx
  · intro n x b hx
    split at hx
    · exact rr.st.excl n x b hx
    · cases hx
  · intro n x b hx
    split at hx
    · exact rr.fr.own n x b hx
    · cases hx
  · exact (rr.slots t x (subS_get h1 t x hx)).restrict (fun n hn => hE n (closedA_get h3 t x hx n hn))

/-- A loop, with a relation over some data: what must hold where it begins, and of each round. -/
def LI {α : Type} (p : α → Prop) (m : α → Nat) (fs : α → Sl) (fo : α → Os) (n : Nat) (sl : Sl) (os : Os) : Prop := ∃ x, p x ∧ n = m x ∧ sl = fs x ∧ os = fo x
theorem awp_loopI {α : Type} (p : α → Prop) (m : α → Nat) (fs : α → Sl) (fo : α → Os) {P : Program} {kp : List Nat} {b : PC} {Q : QF} {sl : Sl} {os : Os} (x : α)
    (h0 : p x) (hw : Wk sl os (fs x) (fo x)) (h : ∀ x, p x → awp P kp b (loopQ (LI p m fs fo) (m x) Q) (fs x) (fo x)) : awp P kp (.loop b) Q sl os := by
  refine ⟨LI p m fs fo, ⟨m x, fs x, fo x, hw, x, h0, rfl, rfl, rfl⟩, ?_⟩
  rintro n _ _ ⟨x, hx, rfl, rfl, rfl⟩
  exact h x hx
theorem loopQ_next {α : Type} {p : α → Prop} {m : α → Nat} {fs : α → Sl} {fo : α → Os} {n : Nat} {Q : QF} {sl : Sl} {os : Os} (y : α) (h1 : m y < n) (h2 : p y) (h3 : Wk sl os (fs y) (fo y)) :
    loopQ (LI p m fs fo) n Q .normal sl os := ⟨m y, h1, fs y, fo y, h3, y, h2, rfl, rfl, rfl⟩
theorem loopQ_exit {I : Nat → Sl → Os → Prop} {n i : Nat} {Q : QF} {sl : Sl} {os : Os} : loopQ I n Q (.exit i) sl os = Q (.exit i) sl os := rfl
theorem loopQ_ret {I : Nat → Sl → Os → Prop} {n : Nat} {Q : QF} {sl : Sl} {os : Os} : loopQ I n Q .ret sl os = Q .ret sl os := rfl
end Mq
