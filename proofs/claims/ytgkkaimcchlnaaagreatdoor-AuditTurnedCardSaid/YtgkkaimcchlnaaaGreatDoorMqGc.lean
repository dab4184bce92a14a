/- Calls that hand over, or hand back, what is owned. Part of a verified reader of code, common to this project's claims. -/
import Derived.Test.YtgkkaimcchlnaaaGreatDoorMqDraw
import Derived.Test.YtgkkaimcchlnaaaGreatDoorMqTurn
set_option linter.unusedVariables false
set_option linter.unusedSimpArgs false
namespace Mq
open Go Go.RowKit
set_option linter.unusedSectionVars false
variable [Glob]
/-! Functions that are handed what the caller owns, to turn it, or that hand back what the caller owns from then on. -/
def hasK {α : Type} (l : List (Nat × α)) (n : Nat) : Bool := (lget l n).isSome
def nmO : AO → List Nat
  | .box l => nmL l
  | .rov _ _ _ _ a => nm a
  | .pol _ _ _ _ _ (some (_, a)) => nm a
  | _ => []
/-- Every name that the slots and the variables lead to is there. -/
def closedA (os' : Os) : Sl → Bool
  | [] => true
  | (_, v) :: r => (nm v).all (hasK os') && closedA os' r
def closedO (os' : Os) : Os → Bool
  | [] => true
  | (_, o) :: r => (nmO o).all (hasK os') && closedO os' r
def subS (sl : Sl) : Sl → Prop
  | [] => True
  | (k, v) :: r => lget sl k = some v ∧ subS sl r
def subO (os : Os) : Os → Prop
  | [] => True
  | (k, v) :: r => lget os k = some v ∧ subO os r
theorem subS_get {sl : Sl} : ∀ {sl' : Sl}, subS sl sl' → ∀ t x, lget sl' t = some x → lget sl t = some x
  | (k, v) :: r, h, t, x, hx => by
    simp only [lget] at hx
    split at hx
    · rename_i c; subst c; cases hx; exact h.1
    · exact subS_get h.2 t x hx
  | [], _, _, _, hx => by simp [lget] at hx
theorem subO_get {sl : Os} : ∀ {sl' : Os}, subO sl sl' → ∀ t x, lget sl' t = some x → lget sl t = some x
  | (k, v) :: r, h, t, x, hx => by
    simp only [lget] at hx
    split at hx
    · rename_i c; subst c; cases hx; exact h.1
    · exact subO_get h.2 t x hx
  | [], _, _, _, hx => by simp [lget] at hx
theorem closedA_get {os' : Os} : ∀ {sl : Sl}, closedA os' sl = true → ∀ t x, lget sl t = some x → ∀ n ∈ nm x, hasK os' n = true
  | (k, v) :: r, h, t, x, hx, n, hn => by
    simp only [closedA, Bool.and_eq_true] at h
    simp only [lget] at hx
    split at hx
    · cases hx; exact List.all_eq_true.1 h.1 n hn
    · exact closedA_get h.2 t x hx n hn
  | [], _, _, _, hx, _, _ => by simp [lget] at hx
theorem closedO_get {os' : Os} : ∀ {sl : Os}, closedO os' sl = true → ∀ t x, lget sl t = some x → ∀ n ∈ nmO x, hasK os' n = true
  | (k, v) :: r, h, t, x, hx, n, hn => by
    simp only [closedO, Bool.and_eq_true] at h
    simp only [lget] at hx
    split at hx
    · cases hx; exact List.all_eq_true.1 h.1 n hn
    · exact closedO_get h.2 t x hx n hn
  | [], _, _, _, hx, _, _ => by simp [lget] at hx
/-- What was handed in to be turned stays told. -/
def keepH (os' : Os) : Os → Bool
  | [] => true
  | (k, _) :: r => (Nat.ble k 99999 || hasK os' k) && keepH os' r
theorem keepH_get {os' : Os} : ∀ {os : Os}, keepH os' os = true → ∀ n o, lget os n = some o → 100000 ≤ n → hasK os' n = true
  | (k, v) :: r, h, n, o, ho, hn => by
    simp only [keepH, Bool.and_eq_true, Bool.or_eq_true] at h
    simp only [lget] at ho
    split at ho
    · rename_i c
      subst c
      rcases h.1 with q | q
      · have := Nat.le_of_ble_eq_true q; omega
      · exact q
    · exact keepH_get h.2 n o ho hn
  | [], _, _, _, ho, _ => by simp [lget] at ho
theorem VRep.restrict {h : Hp} {e e' : Env} {v : Value} {a : AV} (r : VRep h e v a) : (∀ n ∈ nm a, e' n = e n) → VRep h e' v a := by
  induction r with
  | un v => intro _; exact .un v
  | d v x hr => intro _; exact .d v x hr
  | own v n g x hx h1 hg hv => intro hn; exact .own v n g x (by rw [hn n (by simp [nm])]; exact hx) h1 hg hv
  | ptr v n off x hx h1 b hb hv => intro hn; exact .ptr v n off x (by rw [hn n (by simp [nm])]; exact hx) h1 b hb hv
  | rptr v n g s i off x hx h1 hg hv => intro hn; exact .rptr v n g s i off x (by rw [hn n (by simp [nm])]; exact hx) h1 hg hv
  | mp v n x hx h1 b hb hv => intro hn; exact .mp v n x (by rw [hn n (by simp [nm])]; exact hx) h1 b hb hv
  | ag vs l hl _ h1 ih => intro hn; exact .ag vs l hl (fun j a hj => ih j a hj (fun n hna => hn n (by simp only [nm, mem_nmL]; exact ⟨a, List.mem_of_getElem? hj, hna⟩))) h1
  | tp vs l hl _ ih => intro hn; exact .tp vs l hl (fun j a hj => ih j a hj (fun n hna => hn n (by simp only [nm, mem_nmL]; exact ⟨a, List.mem_of_getElem? hj, hna⟩)))
  | gd v l a _ hn' ih => intro hn; exact .gd v l a (fun c => ih c (by simpa [nm] using hn)) hn'
  | nl s => intro _; exact .nl s
  | clo f vs l hl _ ih => intro hn; exact .clo f vs l hl (fun j a hj => ih j a hj (fun n hna => hn n (by simp only [nm, mem_nmL]; exact ⟨a, List.mem_of_getElem? hj, hna⟩)))
mutual
/-- Other names. -/
def ren (σ : Nat → Nat) : AV → AV
  | .own n g => .own (σ n) g
  | .ptr n o => .ptr (σ n) o
  | .rptr n g s i o => .rptr (σ n) g s i o
  | .mp n => .mp (σ n)
  | .ag l => .ag (renL σ l)
  | .tp l => .tp (renL σ l)
  | .gd l a => .gd l (ren σ a)
  | .clo f l => .clo f (renL σ l)
  | .d x => .d x
  | .nl s => .nl s
  | .un => .un
def renL (σ : Nat → Nat) : List AV → List AV
  | [] => []
  | x :: r => ren σ x :: renL σ r
end
def renO (σ : Nat → Nat) : AO → AO
  | .box l => .box (renL σ l)
  | .row t s g l => .row t s g l
  | .map ka ea l => .map ka ea l
  | .rov t g l i a => .rov t g l i (ren σ a)
  | .pol t t2 s g l ov => .pol t t2 s g l (ov.map fun p => (p.1, ren σ p.2))
theorem renO_pol {σ : Nat → Nat} (o : AO) : (renO σ o).isPol = o.isPol := by cases o <;> rfl
theorem renL_get {σ : Nat → Nat} : ∀ (l : List AV) (j : Nat), (renL σ l)[j]? = (l[j]?).map (ren σ)
  | [], j => by simp [renL]
  | x :: r, 0 => by simp [renL]
  | x :: r, j + 1 => by simpa [renL] using renL_get r j
theorem renL_len {σ : Nat → Nat} : ∀ (l : List AV), (renL σ l).length = l.length
  | [] => rfl
  | x :: r => by simp [renL, renL_len r]
theorem VRep.ren {h : Hp} {e e' : Env} {σ : Nat → Nat} {v : Value} {a : AV} (r : VRep h e v a) : (∀ n ∈ nm a, e' (σ n) = e n) → VRep h e' v (Mq.ren σ a) := by
  induction r with
  | un v => intro _; exact .un v
  | d v x hr => intro _; exact .d v x hr
  | own v n g x hx h1 hg hv => intro hn; exact .own v _ g x (by rw [hn n (by simp [nm])]; exact hx) h1 hg hv
  | ptr v n off x hx h1 b hb hv => intro hn; exact .ptr v _ off x (by rw [hn n (by simp [nm])]; exact hx) h1 b hb hv
  | rptr v n g s i off x hx h1 hg hv => intro hn; exact .rptr v _ g s i off x (by rw [hn n (by simp [nm])]; exact hx) h1 hg hv
  | mp v n x hx h1 b hb hv => intro hn; exact .mp v _ x (by rw [hn n (by simp [nm])]; exact hx) h1 b hb hv
  | ag vs l hl _ h1 ih =>
    intro hn
    refine .ag vs _ (by rw [renL_len]; exact hl) (fun j a hj => ?_) h1
    rw [renL_get, Option.map_eq_some_iff] at hj
    obtain ⟨a0, h0, rfl⟩ := hj
    exact ih j a0 h0 (fun n hna => hn n (by simp only [nm, mem_nmL]; exact ⟨a0, List.mem_of_getElem? h0, hna⟩))
  | tp vs l hl _ ih =>
    intro hn
    refine .tp vs _ (by rw [renL_len]; exact hl) (fun j a hj => ?_)
    rw [renL_get, Option.map_eq_some_iff] at hj
    obtain ⟨a0, h0, rfl⟩ := hj
    exact ih j a0 h0 (fun n hna => hn n (by simp only [nm, mem_nmL]; exact ⟨a0, List.mem_of_getElem? h0, hna⟩))
  | gd v l a _ hn' ih => intro hn; exact .gd v l _ (fun c => ih c (by simpa [nm] using hn)) hn'
  | nl s => intro _; exact .nl s
  | clo f vs l hl _ ih =>
    intro hn
    refine .clo f vs _ (by rw [renL_len]; exact hl) (fun j a hj => ?_)
    rw [renL_get, Option.map_eq_some_iff] at hj
    obtain ⟨a0, h0, rfl⟩ := hj
    exact ih j a0 h0 (fun n hna => hn n (by simp only [nm, mem_nmL]; exact ⟨a0, List.mem_of_getElem? h0, hna⟩))
theorem ORep.ren {h : Hp} {e e' : Env} {σ : Nat → Nat} {w : World} {x : Ent} {o : AO} (r : ORep h e w x o) (hn : ∀ n ∈ nmO o, e' (σ n) = e n) : ORep h e' w x (renO σ o) := by
  cases o with
  | box l =>
    obtain ⟨h0, b, cs, t, hv, hc, hs, hr, h1⟩ := r
    refine ⟨h0, b, cs, t, hv, hc, by rw [renL_len]; exact hs, fun j a hj => ?_, h1⟩
    rw [renL_get, Option.map_eq_some_iff] at hj
    obtain ⟨a0, ha, rfl⟩ := hj
    exact (hr j a0 ha).ren (fun n hna => hn n (by simp only [nmO, mem_nmL]; exact ⟨a0, List.mem_of_getElem? ha, hna⟩))
  | row t s g l => exact r
  | map ka ea l => exact r
  | rov t g l i a =>
    obtain ⟨hi, v, h1, hv, hr⟩ := r
    exact ⟨hi, v, h1, hv.ren hn, hr⟩
  | pol t t2 s g l ov =>
    cases ov with
    | none => exact PolRep.own r (fun i a ha => by cases ha)
    | some p =>
      obtain ⟨hs, vs, h1, h2, h3, h4, h5, h6, h7, h8⟩ := r
      have e1 : ∀ i, (∀ a, some (p.1, Mq.ren σ p.2) ≠ some (i, a)) → ∀ a, some p ≠ some (i, a) := fun i q a c => by cases c; exact q _ rfl
      have e2 : ∀ i, (∀ a, some p ≠ some (i, a)) → ∀ a, some (p.1, Mq.ren σ p.2) ≠ some (i, a) := fun i q a c => by cases c; exact q p.2 rfl
      refine ⟨hs, vs, h1, h2, h3, fun i v hi a ha => ?_, fun i v rows hi hl hq => h5 i v rows hi hl (e1 i hq), fun b => ?_, fun i i' v v' b hne hi hi' q q' => h7 i i' v v' b hne hi hi' (e1 i q) (e1 i' q'), h8⟩
      · cases ha
        exact (h4 _ v hi _ rfl).ren hn
      · rw [h6 b]
        exact ⟨fun ⟨i, v, hi, q, hb⟩ => ⟨i, v, hi, e2 i q, hb⟩, fun ⟨i, v, hi, q, hb⟩ => ⟨i, v, hi, e1 i q, hb⟩⟩
/-- A function that is handed what is owned, by names from 100000 on; what is owned behind it is told, too. -/
def FnG (P : Program) (f : Nat) (args : List AV) (os : Os) (r : AV) (os' : Os) : Prop :=
  Live P f ∧ ∀ (w : World) (h : Hp) (e : Env) (vs : Array Value), GX h → St h e os w → (∀ n x, e n = some x → 100000 ≤ n) → vs.size = args.length → (∀ (j : Nat) (x : AV), args[j]? = some x → VRep h e (vs.getD j undef) x) →
    Calls P f vs w fun en w' => ∃ v h' e', en = .returned v ∧ VRep h' e' v r ∧ h.le h' ∧ e.le e' ∧ St h' e' os' w' ∧ w'.os = w.os ∧ w'.tape = w.tape ∧ w'.output = w.output ∧ w.heap.size ≤ w'.heap.size ∧
      (∀ b, b < w.heap.size → (∀ n y, e n = some y → ¬ y.has b) → w'.heap[b]? = w.heap[b]?) ∧ (∀ b, b < w.heap.size → h' b = h b) ∧
      ∀ n x b, e' n = some x → x.has b → (∃ y, e n = some y ∧ y.has b) ∨ w.heap.size ≤ b
/-- Other names, by a list. -/
def sg (l : List (Nat × Nat)) (n : Nat) : Nat := (lget l n).getD n
/-- What is handed to a call: by other names what is handed to be turned; all else as what it reads as. -/
def gv (go : Nat → Option AO) (H : List Nat) (τ : List (Nat × Nat)) (x : AV) : AV := if (nm x).isEmpty then dv go x else if (nm x).all H.elem then ren (sg τ) x else dv go x
def gArgs (gs : Nat → Option AV) (go : Nat → Option AO) (H : List Nat) (τ : List (Nat × Nat)) : List X → List AV
  | [] => []
  | x :: r => gv go H τ (evs gs x).2 :: gArgs gs go H τ r
def gRo (gs : Nat → Option AV) (H : List Nat) : List X → Bool
  | [] => false
  | x :: r => (!(nm (evs gs x).2).all H.elem) || gRo gs H r
def gMix (gs : Nat → Option AV) (H : List Nat) : List X → Bool
  | [] => true
  | x :: r => ((nm (evs gs x).2).all H.elem || (nm (evs gs x).2).all fun n => !H.elem n) && gMix gs H r
def gOs (os : Os) (τ : List (Nat × Nat)) : List Nat → Os
  | [] => []
  | m :: r => match lget os m with
    | some o => (sg τ m, renO (sg τ) o) :: gOs os τ r
    | none => gOs os τ r
def gBack (σ : List (Nat × Nat)) (os : Os) : Os → Os
  | [] => os
  | (n, o) :: r => gBack σ (lput os (sg σ n) (renO (sg σ) o)) r
mutual
/-- Does it lead to no memory but what is owned? -/
def flatN : AV → Bool
  | .d (.v _) => true
  | .ag l => flatNL l
  | .tp l => flatNL l
  | .own _ _ | .ptr _ _ | .rptr .. | .mp _ | .nl _ => true
  | _ => false
def flatNL : List AV → Bool
  | [] => true
  | x :: r => flatN x && flatNL r
end
def flatRow (l : List (List D)) : Prop := ∀ es ∈ l, ∀ d ∈ es, ∃ x, d = .v x
def flatO : Os → Prop
  | [] => True
  | (_, .box l) :: r => flatNL l = true ∧ flatO r
  | (_, .row _ _ _ l) :: r => flatRow l ∧ flatO r
  | (_, .map _ _ l) :: r => flatRow (l.map (·.2)) ∧ flatO r
  | (_, .rov ..) :: _ => False
  | (_, .pol ..) :: _ => False
def nodupB : List Nat → Bool
  | [] => true
  | x :: r => !r.elem x && nodupB r
theorem nodupB_of : ∀ {l : List Nat}, nodupB l = true → l.Nodup
  | [], _ => List.nodup_nil
  | x :: r, h => by
    simp only [nodupB, Bool.and_eq_true, Bool.not_eq_true'] at h
    exact List.nodup_cons.2 ⟨by simpa using h.1, nodupB_of h.2⟩
def gOk1 (os : Os) (H : List Nat) (τ : List (Nat × Nat)) : Bool :=
  H.all (fun m => match lget os m with | some o => (nmO o).all H.elem && Nat.ble 100000 (sg τ m) | none => false) && nodupB (H.map (sg τ))
def gOk2 (os : Os) (H : List Nat) (τ σ : List (Nat × Nat)) (rv : AV) (osF : Os) : Bool :=
  H.all (fun m => sg σ (sg τ m) == m) && nodupB (osF.map (·.1)) && nodupB (osF.map fun p => sg σ p.1) &&
  osF.all (fun p => (nmO p.2).all (hasK osF) && (if Nat.ble 100000 p.1 then H.elem (sg σ p.1) && sg τ (sg σ p.1) == p.1 else !hasK os (sg σ p.1) && Nat.ble (sg σ p.1) 99999)) && (nm rv).all (hasK osF)
def gcK (P : Program) (l : List PG) (H : List Nat) (τ σ : List (Nat × Nat)) (K : Sl → Os → Prop) (sl : Sl) (os : Os) : Prop := match l with
  | .uc d f xs :: _ => sides (lget sl) xs ∧ (gOk1 os H τ && gMix (lget sl) H xs) = true ∧ ∃ rv osF, FnG P f (gArgs (lget sl) (lget os) H τ xs) (gOs os τ H) rv osF ∧ gOk2 os H τ σ rv osF = true ∧
      (gRo (lget sl) H xs = false ∨ flatN rv = true ∧ flatO osF) ∧ K (lput sl d (ren (sg σ) rv)) (gBack σ os osF)
  | _ => False
theorem find_some {α : Type} {f : α → Nat} {l : List α} {k : Nat} {p : α} (h : l.find? (fun p => f p == k) = some p) : p ∈ l ∧ f p = k :=
  ⟨List.mem_of_find?_eq_some h, by simpa using List.find?_some h⟩
theorem find_of {α : Type} {f : α → Nat} : ∀ {l : List α} {p : α}, (l.map f).Nodup → p ∈ l → l.find? (fun q => f q == f p) = some p
  | x :: r, p, hn, hp => by
    simp only [List.map_cons, List.nodup_cons] at hn
    rcases List.mem_cons.1 hp with rfl | hp
    · simp
    · have hne : ¬ f x = f p := fun q => hn.1 (q ▸ List.mem_map_of_mem hp)
      have hb : (f x == f p) = false := by simpa using hne
      rw [List.find?_cons, hb]
      exact find_of hn.2 hp
theorem lget_mem {α : Type} : ∀ {l : List (Nat × α)} {n : Nat} {o : α}, lget l n = some o → (n, o) ∈ l
  | (k, v) :: r, n, o, h => by
    simp only [lget] at h
    split at h
    · rename_i c; subst c; cases h; exact List.mem_cons_self
    · exact List.mem_cons_of_mem _ (lget_mem h)
  | [], _, _, h => by simp [lget] at h
theorem lget_of_mem {α : Type} : ∀ {l : List (Nat × α)} {n : Nat} {o : α}, (l.map (·.1)).Nodup → (n, o) ∈ l → lget l n = some o
  | (k, v) :: r, n, o, hn, h => by
    simp only [List.map_cons, List.nodup_cons] at hn
    rcases List.mem_cons.1 h with h | h
    · cases h; simp [lget]
    · have hne : ¬ k = n := fun q => hn.1 (q ▸ List.mem_map_of_mem (f := (·.1)) h)
      simp only [lget, if_neg hne]
      exact lget_of_mem hn.2 h
theorem gBack_get (σ : List (Nat × Nat)) (m : Nat) : ∀ (osF os : Os), (osF.map fun p => sg σ p.1).Nodup →
    lget (gBack σ os osF) m = match osF.find? (fun p => sg σ p.1 == m) with | some p => some (renO (sg σ) p.2) | none => lget os m
  | [], os, _ => rfl
  | (n, o) :: r, os, hn => by
    simp only [List.map_cons, List.nodup_cons] at hn
    simp only [gBack]
    rw [gBack_get σ m r _ hn.2, List.find?_cons]
    by_cases hm : sg σ n = m
    · have hb : (sg σ n == m) = true := by simpa using hm
      have : r.find? (fun p => sg σ p.1 == m) = none := by
        rw [List.find?_eq_none]
        intro p hp hq
        exact hn.1 (by rw [hm, ← (by simpa using hq : sg σ p.1 = m)]; exact List.mem_map_of_mem (f := fun p => sg σ p.1) hp)
      rw [this]
      simp only [hb]
      rw [hm, get_put_same]
    · have hb : (sg σ n == m) = false := by simpa using hm
      rw [hb]
      cases r.find? (fun p => sg σ p.1 == m) with
      | some p => rfl
      | none => simp only; rw [get_put_other _ _ (Ne.symm hm)]
theorem gOs_get {os : Os} {τ : List (Nat × Nat)} : ∀ {H : List Nat} {n : Nat} {o : AO}, lget (gOs os τ H) n = some o → ∃ m ∈ H, n = sg τ m ∧ ∃ o0, lget os m = some o0 ∧ o = renO (sg τ) o0
  | [], n, o, h => by simp [gOs, lget] at h
  | m :: r, n, o, h => by
    simp only [gOs] at h
    split at h
    · rename_i o0 h0
      simp only [lget] at h
      split at h
      · rename_i c
        cases h
        exact ⟨m, by simp, c.symm, o0, h0, rfl⟩
      · obtain ⟨m', h1, h2⟩ := gOs_get h
        exact ⟨m', by simp [h1], h2⟩
    · obtain ⟨m', h1, h2⟩ := gOs_get h
      exact ⟨m', by simp [h1], h2⟩
theorem gOs_has {os : Os} {τ : List (Nat × Nat)} : ∀ {H : List Nat} {m : Nat} {o : AO}, m ∈ H → lget os m = some o → ∃ o', lget (gOs os τ H) (sg τ m) = some o'
  | k :: r, m, o, hm, ho => by
    simp only [gOs]
    by_cases hk : k = m
    · subst hk
      rw [ho]
      exact ⟨_, by simp only [lget, if_true]; rfl⟩
    · have hr : m ∈ r := by
        rcases List.mem_cons.1 hm with q | q
        · exact absurd q.symm hk
        · exact q
      split
      · simp only [lget]
        split
        · exact ⟨_, rfl⟩
        · exact gOs_has hr ho
      · exact gOs_has hr ho
mutual
theorem flatN_rep {h h' : Hp} {e : Env} : ∀ (x : AV) (v : Value), flatN x = true → VRep h e v x → VRep h' e v x
  | .d (.v y), v, _, hv => by
    cases hv with
    | d _ _ hr => cases hr with
      | v _ h1 => exact .d _ _ (.v _ h1)
  | .ag l, v, hf, hv => by
    cases hv with
    | ag vs _ hl hr h1 => exact .ag vs l hl (fun j y hj => flatNL_rep l (by simpa [flatN] using hf) j y hj _ (hr j y hj)) h1
  | .tp l, v, hf, hv => by
    cases hv with
    | tp vs _ hl hr => exact .tp vs l hl (fun j y hj => flatNL_rep l (by simpa [flatN] using hf) j y hj _ (hr j y hj))
  | .own n g, v, _, hv => by cases hv with | own _ _ _ x hx h1 hg hv => exact .own _ _ _ x hx h1 hg hv
  | .ptr n o, v, _, hv => by cases hv with | ptr _ _ _ x hx h1 b hb hv => exact .ptr _ _ _ x hx h1 b hb hv
  | .rptr n g s i o, v, _, hv => by cases hv with | rptr _ _ _ _ _ _ x hx h1 hg hv => exact .rptr _ _ _ _ _ _ x hx h1 hg hv
  | .mp n, v, _, hv => by cases hv with | mp _ _ x hx h1 b hb hv => exact .mp _ _ x hx h1 b hb hv
  | .nl s, v, _, hv => by cases hv with | nl => exact .nl s
theorem flatNL_rep {h h' : Hp} {e : Env} : ∀ (l : List AV), flatNL l = true → ∀ (j : Nat) (y : AV), l[j]? = some y → ∀ v, VRep h e v y → VRep h' e v y
  | x :: r, hf, j, y, hj, v, hv => by
    simp only [flatNL, Bool.and_eq_true] at hf
    cases j with
    | zero => simp at hj; subst hj; exact flatN_rep x v hf.1 hv
    | succ j => exact flatNL_rep r hf.2 j y (by simpa using hj) v hv
end
theorem flatD_rep {h h' : Hp} {v : Value} {d : D} (hd : ∃ x, d = .v x) (r : Rep h v d) : Rep h' v d := by
  obtain ⟨x, rfl⟩ := hd
  cases r with | v _ h1 => exact .v _ h1
theorem flatO_at : ∀ {os : Os} {n : Nat} {o : AO}, flatO os → lget os n = some o → flatO [(n, o)]
  | (k, v) :: r, n, o, hf, h => by
    simp only [lget] at h
    split at h
    · rename_i c
      subst c
      cases h
      cases v <;> first | exact ⟨hf.1, trivial⟩ | exact hf.elim
    · cases v <;> first | exact flatO_at hf.2 h | exact hf.elim
  | [], _, _, _, h => by simp [lget] at h
theorem flatO_rep {h h' : Hp} {e : Env} {w : World} {x : Ent} {n : Nat} {o : AO} (hf : flatO [(n, o)]) (r : ORep h e w x o) : ORep h' e w x o := by
  cases o with
  | box l =>
    obtain ⟨h0, b, cs, t, hv, hc, hs, hr, h1⟩ := r
    exact ⟨h0, b, cs, t, hv, hc, hs, fun j a hj => flatNL_rep l hf.1 j a hj _ (hr j a hj), h1⟩
  | row t s g l =>
    obtain ⟨hg, hs, xs, ho, hl, hr⟩ := r
    exact ⟨hg, hs, xs, ho, hl, fun i es j d hi hj => flatD_rep (hf.1 es (List.mem_of_getElem? hi) d (List.mem_of_getElem? hj)) (hr i es j d hi hj)⟩
  | map ka ea l =>
    obtain ⟨h0, b, es, clock, f, hv, hc, hm1, hms, hm2, hm3⟩ := r
    exact ⟨h0, b, es, clock, f, hv, hc, hm1, hms, hm2, fun i p j d hi hj => flatD_rep (hf.1 p.2 (List.mem_map_of_mem (List.mem_of_getElem? hi)) d (List.mem_of_getElem? hj)) (hm3 i p j d hi hj)⟩
  | rov t g l i a => exact hf.elim
  | pol t t2 s g l ov => exact hf.elim
section
variable {P : Program} {te : TE} {o : Oper} {cx : Cx} {h : Hp} {e : Env} {sl : Sl} {os : Os} {a : Act} {w : World}
theorem Ent.le.trans {y y' y2 : Ent} (h1 : y.le y') (h2 : y'.le y2) : y.le y2 := by
  obtain ⟨a1, a2, a3⟩ := h1
  obtain ⟨b1, b2, b3⟩ := h2
  refine ⟨Nat.le_trans a1 b1, fun q => ?_, fun q => ?_⟩
  · have h : y'.gen = y.gen := by omega
    rw [b2 (by omega), a2 h]
  · by_cases h : y'.gen = y.gen
    · have := b3 (by omega)
      rwa [a2 h] at this
    · exact a3 h
/-- What the caller has behind such a call. -/
theorem gback {H : List Nat} {τ σ : List (Nat × Nat)} {osF : Os} {rv : AV} {w' : World} {eC e' : Env} {h2 : Hp} {v : Value} (rr : RR cx h e sl os a w) (hk2 : gOk2 os H τ σ rv osF = true)
    (c1 : ∀ m ∈ H, eC (sg τ m) = e m) (c2 : ∀ n x, eC n = some x → ∃ m ∈ H, n = sg τ m ∧ e m = some x) (c3 : ∀ m ∈ H, ∃ x, e m = some x)
    (hle : h.le h2) (hvis : ∀ b o, h2 b = some o → w'.heap[b]? = some o) (hobj : ∀ n o, lget osF n = some o → ∃ x, e' n = some x ∧ ORep h2 e' w' x o) (hdom : ∀ n x, e' n = some x → ∃ o, lget osF n = some o)
    (hsep : ∀ n m x y b, n ≠ m → e' n = some x → e' m = some y → x.has b → ¬ y.has b) (hexcl : ∀ n x b, e' n = some x → x.has b → h2 b = none) (hlone : ∀ n o x, lget osF n = some o → e' n = some x → o.isPol = false → x.more = [])
    (hE : eC.le e') (f1 : w'.os = w.os) (f2 : w'.tape = w.tape) (f3 : w'.output = w.output) (f4 : w.heap.size ≤ w'.heap.size)
    (f5 : ∀ b, b < w.heap.size → (∀ n y, eC n = some y → ¬ y.has b) → w'.heap[b]? = w.heap[b]?) (f6 : ∀ b, b < w.heap.size → h2 b = h b)
    (f7 : ∀ n x b, e' n = some x → x.has b → (∃ y, eC n = some y ∧ y.has b) ∨ w.heap.size ≤ b) (hv : VRep h2 e' v rv) :
    ∃ E, RR cx h2 E sl (gBack σ os osF) a w' ∧ VRep h2 E v (ren (sg σ) rv) := by
  simp only [gOk2, Bool.and_eq_true, List.all_eq_true] at hk2
  obtain ⟨⟨⟨⟨k1, k2⟩, k3⟩, k4⟩, k5⟩ := hk2
  have k1 : ∀ m ∈ H, sg σ (sg τ m) = m := fun m hm => by simpa using k1 m hm
  have k2 := nodupB_of k2
  have k3 := nodupB_of k3
  let E : Env := fun m => match osF.find? (fun p => sg σ p.1 == m) with | some p => e' p.1 | none => e m
  have hEat : ∀ n o, lget osF n = some o → E (sg σ n) = e' n := by
    intro n o ho
    have := find_of (f := fun p : Nat × AO => sg σ p.1) k3 (lget_mem ho)
    simp only [E]
    simp only at this
    rw [this]
  have hinH : ∀ m ∈ H, ∃ o, lget osF (sg τ m) = some o := by
    intro m hm
    obtain ⟨x, hx⟩ := c3 m hm
    obtain ⟨y, hy, _⟩ := hE (sg τ m) x (by rw [c1 m hm]; exact hx)
    exact hdom _ _ hy
  have hnone : ∀ m, osF.find? (fun p => sg σ p.1 == m) = none → m ∉ H := by
    intro m hf hm
    obtain ⟨o, ho⟩ := hinH m hm
    rw [List.find?_eq_none] at hf
    exact hf _ (lget_mem ho) (by simp [k1 m hm])
  have hbig : ∀ p ∈ osF, (p.1 < 100000 ∧ lget os (sg σ p.1) = none ∧ sg σ p.1 ≤ 99999) ∨ (sg σ p.1 ∈ H ∧ sg τ (sg σ p.1) = p.1) := by
    intro p hp
    have := (k4 p hp).2
    split at this
    · simp only [Bool.and_eq_true, List.elem_eq_mem, decide_eq_true_eq, beq_iff_eq] at this
      exact .inr this
    · rename_i hb
      simp only [Bool.and_eq_true, Bool.not_eq_true', hasK] at this
      refine .inl ⟨?_, ?_, Nat.le_of_ble_eq_true this.2⟩
      · by_cases q : 100000 ≤ p.1
        · exact absurd (Nat.ble_eq_true_of_le q) hb
        · omega
      · exact Option.isNone_iff_eq_none.1 (by simpa using this.1)
  have hnb : ∀ m x b, e m = some x → m ∉ H → x.has b → w'.heap[b]? = w.heap[b]? := by
    intro m x b hm hH hb
    refine f5 b (rr.st.lt hm hb) (fun n y hn hyb => ?_)
    obtain ⟨m', hm', rfl, he'⟩ := c2 n y hn
    exact rr.st.sep m' m y x b (fun q => hH (q ▸ hm')) he' hm hyb hb
  have hle2 : e.le E := by
    intro m y hy
    simp only [E]
    cases hf : osF.find? (fun p => sg σ p.1 == m) with
    | none => exact ⟨y, hy, .refl y⟩
    | some p =>
      obtain ⟨hp, hpm⟩ := find_some (f := fun p : Nat × AO => sg σ p.1) hf
      subst hpm
      rcases hbig p hp with ⟨_, q, _⟩ | ⟨q1, q2⟩
      · obtain ⟨o, ho⟩ := rr.st.dom _ y hy
        rw [q] at ho; cases ho
      · simp only
        refine hE p.1 y ?_
        have := c1 _ q1
        rw [q2] at this
        rw [this]
        exact hy
  refine ⟨E, ⟨⟨hvis, fun m o hm => ?_, fun m x hx => ?_, fun m1 m2 x1 x2 b hne h1 h2 => ?_, fun m x b hx hb => ?_, fun m o x hm hx hp => ?_⟩, ⟨f1.trans rr.fr.os, f2.trans rr.fr.tape, f3.trans rr.fr.output, Nat.le_trans rr.fr.size f4, fun b hb hx => ?_, fun b hb => ?_, fun m x b hx hb => ?_, rr.fr.keep.trans hle2⟩,
    fun t x hx => (rr.slots t x hx).mono hle hle2, rr.size, rr.defers⟩, hv.ren (fun n hn => ?_)⟩
  · rw [gBack_get σ m osF os k3] at hm
    cases hf : osF.find? (fun p => sg σ p.1 == m) with
    | none =>
      rw [hf] at hm
      simp only at hm
      obtain ⟨x, hx, hr⟩ := rr.st.obj m o hm
      exact ⟨x, by simp only [E, hf]; exact hx, hr.mono hle hle2 (fun b hb => hnb m x b hx (hnone m hf) hb)⟩
    | some p =>
      rw [hf] at hm
      simp only [Option.some.injEq] at hm
      obtain ⟨hp, hpm⟩ := find_some (f := fun p : Nat × AO => sg σ p.1) hf
      subst hm
      obtain ⟨x, hx, hr⟩ := hobj p.1 p.2 (lget_of_mem k2 hp)
      refine ⟨x, by simp only [E, hf]; exact hx, hr.ren (fun n hn => ?_)⟩
      have hh := (k4 p hp).1 n hn
      simp only [hasK, Option.isSome_iff_exists] at hh
      obtain ⟨o', ho'⟩ := hh
      exact hEat n o' ho'
  · rw [gBack_get σ m osF os k3]
    simp only [E] at hx
    cases hf : osF.find? (fun p => sg σ p.1 == m) with
    | none => rw [hf] at hx; exact rr.st.dom m x hx
    | some p => exact ⟨_, rfl⟩
  · simp only [E] at h1 h2
    cases hf1 : osF.find? (fun p => sg σ p.1 == m1) with
    | none =>
      rw [hf1] at h1
      cases hf2 : osF.find? (fun p => sg σ p.1 == m2) with
      | none => rw [hf2] at h2; exact rr.st.sep m1 m2 x1 x2 b hne h1 h2
      | some p2 =>
        rw [hf2] at h2
        intro hb1 hb2
        rcases f7 _ _ b h2 hb2 with ⟨y, hy, hyb⟩ | q
        · obtain ⟨m', hm', _, he'⟩ := c2 _ _ hy
          exact rr.st.sep m1 m' x1 y b (fun q => hnone m1 hf1 (q ▸ hm')) h1 he' hb1 hyb
        · have := rr.st.lt h1 hb1; omega
    | some p1 =>
      rw [hf1] at h1
      cases hf2 : osF.find? (fun p => sg σ p.1 == m2) with
      | none =>
        rw [hf2] at h2
        intro hb1 hb2
        rcases f7 _ _ b h1 hb1 with ⟨y, hy, hyb⟩ | q
        · obtain ⟨m', hm', _, he'⟩ := c2 _ _ hy
          exact rr.st.sep m2 m' x2 y b (fun q => hnone m2 hf2 (q ▸ hm')) h2 he' hb2 hyb
        · have := rr.st.lt h2 hb2; omega
      | some p2 =>
        rw [hf2] at h2
        refine hsep p1.1 p2.1 x1 x2 b (fun q => hne ?_) h1 h2
        obtain ⟨_, q1⟩ := find_some (f := fun p : Nat × AO => sg σ p.1) hf1
        obtain ⟨_, q2⟩ := find_some (f := fun p : Nat × AO => sg σ p.1) hf2
        rw [← q1, ← q2, q]
  · simp only [E] at hx
    cases hf : osF.find? (fun p => sg σ p.1 == m) with
    | none => rw [hf] at hx; simp only at hx; rw [f6 b (rr.st.lt hx hb)]; exact rr.st.excl m x b hx hb
    | some p => rw [hf] at hx; exact hexcl _ x b hx hb
  · rw [gBack_get σ m osF os k3] at hm
    simp only [E] at hx
    cases hf : osF.find? (fun p => sg σ p.1 == m) with
    | none =>
      rw [hf] at hm hx
      exact rr.st.lone m o x hm hx hp
    | some p =>
      rw [hf] at hm hx
      simp only [Option.some.injEq] at hm
      obtain ⟨hpm, _⟩ := find_some (f := fun p : Nat × AO => sg σ p.1) hf
      subst hm
      exact hlone p.1 p.2 x (lget_of_mem k2 hpm) hx (by rw [← renO_pol]; exact hp)
  · rw [f5 b (Nat.lt_of_lt_of_le hb rr.fr.size) (fun n y hn hyb => ?_)]
    · exact rr.fr.old b hb hx
    · obtain ⟨m', _, _, he'⟩ := c2 n y hn
      rcases rr.fr.own m' y b he' hyb with ⟨y0, hy0, hyb0⟩ | q
      · exact hx m' y0 hy0 hyb0
      · omega
  · rw [f6 b (Nat.lt_of_lt_of_le hb rr.fr.size)]
    exact rr.fr.hold b hb
  · simp only [E] at hx
    cases hf : osF.find? (fun p => sg σ p.1 == m) with
    | none => rw [hf] at hx; exact rr.fr.own m x b hx hb
    | some p =>
      rw [hf] at hx
      rcases f7 _ x b hx hb with ⟨y, hy, hyb⟩ | q
      · obtain ⟨m', hm', hq, he'⟩ := c2 _ _ hy
        obtain ⟨_, q1⟩ := find_some (f := fun p : Nat × AO => sg σ p.1) hf
        rw [hq, k1 m' hm'] at q1
        subst q1
        exact rr.fr.own m' y b he' hyb
      · exact .inr (Nat.le_trans rr.fr.size q)
  · have hh := k5 n hn
    simp only [hasK, Option.isSome_iff_exists] at hh
    obtain ⟨o', ho'⟩ := hh
    exact hEat n o' ho'
theorem dvL_len' (go : Nat → Option AO) : ∀ (l : List AV), l.length = (dvL go l).length
  | [] => rfl
  | _ :: r => by simp [dvL, ← dvL_len' go r]
mutual
theorem dvN_rep {h' : Hp} (rr : St h e os w) (hh : h.le h') : ∀ (x : AV), (∀ n ∈ nm x, ∀ (y : Ent) b o, e n = some y → y.has b → w.heap[b]? = some o → h' b = some o) → ∀ v, VRep h e v x → VRep h' noE v (dv (lget os) x)
  | .own n g, ho, v, hv => by
    simp only [dv]
    split
    · rename_i t s g' l hgo
      split
      · rename_i hgen
        cases hv with
        | own _ _ _ ent hent h1 hg hvb =>
          obtain ⟨hge, hs0, xs, hown, hls, _⟩ := row_entS rr hgo hent
          have hval := hvb (by rw [hge, hgen])
          by_cases hl : 0 < l.length
          · obtain ⟨b, cap, cur, hsv, hheap, hlc, hcm, hcs, hrr⟩ := row_cellsS rr hgo hent hl
            rw [hval, hsv]
            refine .d _ _ (.sl s l b 0 cap cur t (0, 0) (ho n (by simp [nm]) ent b _ hent (.inl (by simp [hsv, blkOf])) hheap) ?_ hls (fun i es j d hi hj => ?_) hlc)
            · have := Nat.mul_le_mul_right s hlc; omega
            · simpa using (hrr i es j d hi hj).mono hh
          · have h0 : l = [] := List.eq_nil_of_length_eq_zero (by omega)
            subst h0
            rcases hown.2 with ⟨hn, _⟩ | ⟨b, cap, cur, hsv, _⟩
            · rw [hval, hn]; exact .d _ _ (.nil _ _ _)
            · rw [hval, hsv]; exact .d _ _ (.nil _ _ _)
      · exact .un _
    · exact .un _
  | .nl s, _, v, hv => by cases hv; exact .d _ _ (.nil _ _ _)
  | .d x, _, v, hv => by cases hv with | d _ _ hr => exact .d _ _ (hr.mono hh)
  | .ag l, ho, v, hv => by
    cases hv with
    | ag vs _ hl hr h1 =>
      simp only [dv]
      exact .ag vs _ (by rw [hl]; exact dvL_len' _ _) (fun j y hj => dvNL_rep rr hh l (by simpa only [nm] using ho) j y hj _ (fun x hx => hr j x hx)) h1
  | .clo f l, ho, v, hv => by
    cases hv with
    | clo _ vs _ hl hr =>
      simp only [dv]
      exact .clo f vs _ (by rw [hl]; exact dvL_len' _ _) (fun j y hj => dvNL_rep rr hh l (by simpa only [nm] using ho) j y hj _ (fun x hx => hr j x hx))
  | .ptr .., _, v, _ => .un _
  | .rptr .., _, v, _ => .un _
  | .mp n, ho, v, hv => by
    simp only [dv]
    split
    · rename_i ka ea l hgo
      cases hv with
      | mp _ _ ent hent h1 b hb hv =>
        obtain ⟨y, hy, _, b', es, clock, f, hv', hc, hm1, hms, hm2, hm3⟩ := rr.obj n _ hgo
        rw [hent] at hy
        cases hy
        rw [hb] at hv'
        cases hv'
        rw [hv, hb]
        exact .d _ _ (.mp ka ea l b es clock f (ho n (by simp [nm]) ent b _ hent (.inl (by simp [hb, blkOf])) hc) hm1 hms hm2 (fun i p j d hi hj => (hm3 i p j d hi hj).mono hh))
    · exact .un _
  | .tp _, _, v, _ => .un _
  | .gd .., _, v, _ => .un _
  | .un, _, v, _ => .un _
theorem dvNL_rep {h' : Hp} (rr : St h e os w) (hh : h.le h') : ∀ (l : List AV), (∀ n ∈ nmL l, ∀ (y : Ent) b o, e n = some y → y.has b → w.heap[b]? = some o → h' b = some o) → ∀ (j : Nat) (y : AV), (dvL (lget os) l)[j]? = some y → ∀ v, (∀ x, l[j]? = some x → VRep h e v x) → VRep h' noE v y
  | [], _, j, y, hj, v, _ => by simp [dvL] at hj
  | x :: r, ho, j, y, hj, v, hv => by
    simp only [dvL] at hj
    cases j with
    | zero =>
      simp at hj
      subst hj
      exact dvN_rep rr hh x (fun n hn => ho n (by simp [nmL, hn])) v (hv x (by simp))
    | succ j => exact dvNL_rep rr hh r (fun n hn => ho n (by simp [nmL, hn])) j y (by simpa using hj) v (fun x hx => hv x (by simpa using hx))
end
theorem gArgs_rep {h2 : Hp} {H : List Nat} {τ : List (Nat × Nat)} {eC : Env} (rr : RR cx h e sl os a w) (hh : h.le h2) (c1 : ∀ m ∈ H, eC (sg τ m) = e m) :
    ∀ (ts : List TypeId) (as : List Operand) (xs : List X), cArgs te ts as = some xs → sides (lget sl) xs → gMix (lget sl) H xs = true → (gRo (lget sl) H xs = true → ∀ n x b o, n ∉ H → e n = some x → x.has b → w.heap[b]? = some o → h2 b = some o) →
    as.length = (gArgs (lget sl) (lget os) H τ xs).length ∧ ∀ (j : Nat) (y : AV), (gArgs (lget sl) (lget os) H τ xs)[j]? = some y → ∀ x, as[j]? = some x → VRep h2 eC (a.eval x) y
  | ts, [], xs, hc, _, _, _ => by simp only [cArgs, Option.some.injEq] at hc; subst hc; simp [gArgs]
  | [], x :: r, xs, hc, _, _, _ => by simp [cArgs] at hc
  | t :: ts, x :: r, xs, hc, hs, hm, ho => by
    simp only [cArgs] at hc
    cases hx : cX te t x with
    | none => simp [hx] at hc
    | some y =>
      cases hr : cArgs te ts r with
      | none => simp [hx, hr] at hc
      | some l =>
        simp only [hx, hr, Option.some.injEq] at hc
        subst hc
        simp only [gMix, Bool.and_eq_true, Bool.or_eq_true] at hm
        obtain ⟨h1, h3⟩ := gArgs_rep rr hh c1 ts r l hr hs.2 hm.2 (fun q => ho (by simp [gRo, q]))
        refine ⟨by simp [gArgs, h1], fun j z hj x' hx' => ?_⟩
        cases j with
        | succ j => exact h3 j z (by simpa [gArgs] using hj) x' (by simpa using hx')
        | zero =>
          simp [gArgs] at hj hx'
          subst hj; subst hx'
          have hv := evs_rep hx rr (p := (evs (lget sl) y).1) (z := (evs (lget sl) y).2) rfl hs.1
          unfold gv
          split
          · rename_i hn
            have hn : nm (evs (lget sl) y).2 = [] := by simpa using hn
            exact (dvN_rep rr.st hh _ (fun n hm => by rw [hn] at hm; cases hm) _ hv).mono (Hp.le.refl _) (fun m y hy => by cases hy)
          · split
            · rename_i hn
              rw [List.all_eq_true] at hn
              exact (hv.ren (fun n hm => c1 n (by simpa using hn n hm))).mono hh (Env.le.refl _)
            · rename_i hn
              have hq := hm.1.resolve_left (by simpa using hn)
              rw [List.all_eq_true] at hq
              refine (dvN_rep rr.st hh _ (fun n hm y b o => ho ?_ n y b o (by simpa using hq n hm)) _ hv).mono (Hp.le.refl _) (fun m y hy => by cases hy)
              simp only [gRo, Bool.or_eq_true, Bool.not_eq_true']
              exact .inl (by simpa using hn)
open Classical in
theorem gcall_sound {f d : Nat} {xs : List X} {H : List Nat} {τ σ : List (Nat × Nat)} {osF : Os} {rv : AV} (hc : ccall te o = some (d, f, xs)) (rr : RR cx h e sl os a w) (hs : sides (lget sl) xs) (hk : (gOk1 os H τ && gMix (lget sl) H xs) = true)
    (hf : FnG P f (gArgs (lget sl) (lget os) H τ xs) (gOs os τ H) rv osF) (hk2 : gOk2 os H τ σ rv osF = true) (hfl : gRo (lget sl) H xs = false ∨ flatN rv = true ∧ flatO osF) {next : Act → World → Prop} {Q : Exit → Act → World → Prop}
    (hn : ∀ v h' e' w', RR cx h' e' sl (gBack σ os osF) a w' → VRep h' e' v (ren (sg σ) rv) → next (a.put o.dst v) w') : o.dst = some d ∧ o.wp P a w next Q := by
  simp only [Bool.and_eq_true] at hk
  obtain ⟨hk1, hmx⟩ := hk
  simp only [gOk1, Bool.and_eq_true, List.all_eq_true] at hk1
  obtain ⟨j1, j2⟩ := hk1
  have j2 := nodupB_of j2
  have hH : ∀ m ∈ H, ∃ ob, lget os m = some ob ∧ (∀ n ∈ nmO ob, n ∈ H) ∧ 100000 ≤ sg τ m := by
    intro m hm
    have := j1 m hm
    split at this
    · rename_i ob hob
      simp only [Bool.and_eq_true, List.all_eq_true] at this
      exact ⟨ob, hob, fun n hn => by simpa using this.1 n hn, Nat.le_of_ble_eq_true this.2⟩
    · cases this
  have c3 : ∀ m ∈ H, ∃ x, e m = some x := by
    intro m hm
    obtain ⟨ob, hob, _⟩ := hH m hm
    obtain ⟨x, hx, _⟩ := rr.st.obj m ob hob
    exact ⟨x, hx⟩
  let eC : Env := fun n => match H.find? (fun m => sg τ m == n) with | some m => e m | none => none
  have c1 : ∀ m ∈ H, eC (sg τ m) = e m := by
    intro m hm
    have := find_of (f := sg τ) j2 hm
    simp only [eC, this]
  have c2 : ∀ n x, eC n = some x → ∃ m ∈ H, n = sg τ m ∧ e m = some x := by
    intro n x hx
    simp only [eC] at hx
    cases hf : H.find? (fun m => sg τ m == n) with
    | none => rw [hf] at hx; cases hx
    | some m =>
      rw [hf] at hx
      obtain ⟨q1, q2⟩ := find_some (f := sg τ) hf
      exact ⟨m, q1, q2.symm, hx⟩
  obtain ⟨hC, hle, hvis, hex, hsee, hA⟩ : ∃ hC : Hp, h.le hC ∧ (∀ b o, hC b = some o → w.heap[b]? = some o) ∧ (∀ m ∈ H, ∀ x b, e m = some x → x.has b → hC b = none) ∧
      (gRo (lget sl) H xs = true → ∀ n x b o, n ∉ H → e n = some x → x.has b → w.heap[b]? = some o → hC b = some o) ∧ (gRo (lget sl) H xs = false → hC = h) := by
    cases hro : gRo (lget sl) H xs with
    | false => exact ⟨h, Hp.le.refl h, rr.st.vis, fun m _ x b hx hb => rr.st.excl m x b hx hb, (fun q => by cases q), fun _ => rfl⟩
    | true =>
      refine ⟨fun b => if ∃ m ∈ H, ∃ x, e m = some x ∧ x.has b then none else w.heap[b]?, fun b o ho => ?_, fun b o ho => ?_, fun m hm x b hx hb => ?_, fun _ n x b o hn hx hb ho => ?_, (fun q => by cases q)⟩
      · simp only
        rw [if_neg]
        · exact rr.st.vis b o ho
        · rintro ⟨m, hm, x, hx, hb⟩
          rw [rr.st.excl m x b hx hb] at ho
          cases ho
      · simp only at ho
        split at ho
        · cases ho
        · exact ho
      · simp only
        rw [if_pos ⟨m, hm, x, hx, hb⟩]
      · simp only
        rw [if_neg]
        · exact ho
        · rintro ⟨m, hm, y, hy, hyb⟩
          exact rr.st.sep m n y x b (fun q => hn (q ▸ hm)) hy hx hyb hb
  have hst : St hC eC (gOs os τ H) w := by
    refine ⟨hvis, fun n ob hob => ?_, fun n x hx => ?_, fun n1 n2 x y b hne h1 h2 => ?_, fun n x b hx hb => ?_, fun n ob x hob hx hp => ?_⟩
    · obtain ⟨m, hm, rfl, o0, ho0, rfl⟩ := gOs_get hob
      obtain ⟨x, hx, hr⟩ := rr.st.obj m o0 ho0
      refine ⟨x, by rw [c1 m hm]; exact hx, (hr.mono hle (Env.le.refl e) (fun _ _ => rfl)).ren (fun n hn => ?_)⟩
      obtain ⟨ob, hob2, hcl, _⟩ := hH m hm
      rw [ho0] at hob2
      cases hob2
      exact c1 n (hcl n hn)
    · obtain ⟨m, hm, rfl, _⟩ := c2 n x hx
      obtain ⟨ob, hob, _⟩ := hH m hm
      exact gOs_has hm hob
    · obtain ⟨m1, hm1, rfl, he1⟩ := c2 n1 x h1
      obtain ⟨m2, hm2, rfl, he2⟩ := c2 n2 y h2
      exact rr.st.sep m1 m2 x y b (fun q => hne (by rw [q])) he1 he2
    · obtain ⟨m, hm, rfl, he⟩ := c2 n x hx
      exact hex m hm x b he hb
    · obtain ⟨m, hm, hnm, o0, ho0, rfl⟩ := gOs_get hob
      subst hnm
      rw [c1 m hm] at hx
      exact rr.st.lone m o0 x ho0 hx (by rw [← renO_pol]; exact hp)
  have hge : ∀ n x, eC n = some x → 100000 ≤ n := by
    intro n x hx
    obtain ⟨m, hm, rfl, _⟩ := c2 n x hx
    obtain ⟨_, _, _, q⟩ := hH m hm
    exact q
  unfold ccall at hc
  split at hc
  · rename_i f' as ts d' ho hdst
    cases hca : cArgs te ts.toList as.toList with
    | none => simp [hca] at hc
    | some ys =>
      simp only [hca, Option.map_some, Option.some.injEq, Prod.mk.injEq] at hc
      obtain ⟨rfl, rfl, rfl⟩ := hc
      refine ⟨hdst, ?_⟩
      unfold Oper.wp
      rw [run_call hf.1 ho]
      simp only [Oper.upon]
      obtain ⟨a1, a2⟩ := gArgs_rep rr hle c1 _ _ _ hca hs hmx hsee
      refine (hf.2 w hC eC (as.map a.eval) (rr.gx.mono hle) hst hge (by simpa using a1) (fun j y hj => ?_)).mono ?_
      · have hjl : j < as.size := by have := (List.getElem?_eq_some_iff.1 hj).1; simp at a1; omega
        have := a2 j y hj as[j] (by simp [hjl])
        simpa [Array.getD, hjl] using this
      · rintro en w' ⟨v, h', e', rfl, hv, hle', hE, hst', f1, f2, f3, f4, f5, f6, f7⟩
        rcases hfl with hro | ⟨fv, fo⟩
        · have hC' := hA hro
          subst hC'
          obtain ⟨E, r1, r2⟩ := gback (v := v) rr hk2 c1 c2 c3 hle' hst'.vis hst'.obj hst'.dom hst'.sep hst'.excl hst'.lone hE f1 f2 f3 f4 f5 f6 f7 hv
          exact hn v h' E w' r1 r2
        · have hex2 : ∀ n x b, e' n = some x → x.has b → h b = none := by
            intro n x b hx hb
            rcases f7 n x b hx hb with ⟨y, hy, hyb⟩ | q
            · obtain ⟨m, _, _, he⟩ := c2 n y hy
              exact rr.st.excl m y b he hyb
            · cases hh : h b with
              | none => rfl
              | some ob => have := (Array.getElem?_eq_some_iff.1 (rr.st.vis b ob hh)).1; omega
          obtain ⟨E, r1, r2⟩ := gback (v := v) (h2 := h) rr hk2 c1 c2 c3 (Hp.le.refl h) (fun b ob hb => by
              rw [f5 b (Array.getElem?_eq_some_iff.1 (rr.st.vis b ob hb)).1 (fun n y hy hyb => ?_)]
              · exact rr.st.vis b ob hb
              · obtain ⟨m, _, _, he⟩ := c2 n y hy
                rw [rr.st.excl m y b he hyb] at hb
                cases hb)
            (fun n ob hob => by
              obtain ⟨x, hx, hr⟩ := hst'.obj n ob hob
              exact ⟨x, hx, flatO_rep (flatO_at fo hob) hr⟩) hst'.dom hst'.sep hex2 hst'.lone hE f1 f2 f3 f4 f5 (fun _ _ => rfl) f7 (flatN_rep rv v fv hv)
          exact hn v h E w' r1 r2
  · cases hc
end
end Mq
