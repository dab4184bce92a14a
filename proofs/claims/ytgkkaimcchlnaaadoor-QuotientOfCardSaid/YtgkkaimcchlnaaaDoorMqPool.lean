/- A row of a row of rows is put back. Part of a verified reader of code, common to this project's claims. -/
import Derived.Test.YtgkkaimcchlnaaaDoorMqSealB
set_option linter.unusedVariables false
set_option linter.unusedSimpArgs false

namespace Mq
open Go Go.RowKit
set_option linter.unusedSectionVars false
variable [Glob]
set_option linter.unusedVariables false
theorem sealBO_get2 {n : Nat} {ds : List D} {os : Os} {t : Nat} {o : AO} (h : lget os t = some o) (ht : t ≠ n) : ∃ o', lget (sealBO n ds os) t = some o' := by
  rw [sealBO_get, if_neg ht, h]; exact ⟨_, rfl⟩
/-- A row that had a name of its own is put back into the row of rows that it was taken of. -/
theorem Wk_put {sl : Sl} {os : Os} (n j m : Nat) {t t2 t3 s g gm gm' : Nat} {l : List (List (List D))} {rows : List (List D)} (hn : n ≤ 99999) (hm9 : m ≤ 99999) (hmn : m ≠ n) (h : lget os n = some (.pol t t2 s g l (some (j, .own m gm)))) (hm : lget os m = some (.row t3 s gm' rows)) (hg : gm = gm') (ht : t2 = t3) (hjl : j < l.length) :
    Wk sl os (sealBS m [] sl) (lput (sealBO m [] os) n (.pol t t2 s g (l.set j rows) none)) := by
  subst hg
  subst ht
  rintro cx a w ⟨h1, e, rr⟩
  obtain ⟨x, hx, hs0, vs, hvl, hv1, hrw, hov, hin, hmo, hdi, hou⟩ := rr.st.obj n _ h
  obtain ⟨y, hy, hyr⟩ := rr.st.obj m _ hm
  have hyr : RwRep h1 w y t2 s gm rows := hyr
  have hyl := rr.st.lone m _ y hm hy rfl
  have hjv : vs[j]? = some (vs[j]'(by omega)) := List.getElem?_eq_getElem (by omega)
  generalize vs[j]'(by omega) = v at hjv
  have hvy : v = y.val := by
    have := hov j v hjv _ rfl
    cases this with
    | own _ _ _ z hz _ _ hv => rw [hy] at hz; cases hz; exact hv hyr.1.symm
  have ovn : ∀ i, i ≠ j → ∀ a', some (j, AV.own m gm) ≠ some (i, a') := fun i hne a' c => by cases c; exact hne rfl
  have nov : ∀ i, (∀ a', some (j, AV.own m gm) ≠ some (i, a')) → i ≠ j := fun i q c => q (.own m gm) (by rw [c])
  have nn : ∀ i, ∀ a' : AV, (none : Option (Nat × AV)) ≠ some (i, a') := fun i a' c => by cases c
  have hyb : ∀ b, y.has b ↔ blkOf v = some b := fun b => by rw [Ent.has_lone hyl, hvy]
  let x' : Ent := ⟨x.val, x.gen, x.more ++ (blkOf v).toList⟩
  let e' : Env := fun k => if k = m then none else if k = n then some x' else e k
  have e2 : e' n = some x' := by simp [e', Ne.symm hmn]
  have e3 : ∀ k, k ≠ m → k ≠ n → e' k = e k := fun k c1 c2 => by simp [e', c1, c2]
  have hsub : ∀ b, x'.has b ↔ x.has b ∨ blkOf v = some b := fun b => by
    simp only [Ent.has, x', List.mem_append, Option.mem_toList]
    constructor
    · rintro (q | q | q)
      · exact .inl (.inl q)
      · exact .inl (.inr q)
      · exact .inr q
    · rintro ((q | q) | q)
      · exact .inl q
      · exact .inr (.inl q)
      · exact .inr (.inr q)
  -- what is told otherwise holds still
  have keepV : ∀ {u : Value} {b : AV}, VRep h1 e u b → VRep h1 e' u (sealBV m [] b) := fun {u b} r => by
    have h2 : VRep h1 (fun k => if k = m then none else e k) u (sealBV m [] b) := sealBV_rep (Hp.le.refl h1) (fun k hk => by simp [hk]) (fun z b' o hz hv => by
      rw [hy] at hz
      cases hz
      obtain ⟨_, _, xs, hown, _⟩ := hyr
      rcases hown.2 with ⟨hq, _⟩ | ⟨_, _, _, hq, _⟩ <;> (rw [hq] at hv; cases hv)) r
    refine h2.mono (Hp.le.refl h1) (fun k z hz => ?_)
    -- of the others
    split at hz
    · cases hz
    · rename_i c1
      by_cases c2 : k = n
      · subst c2
        rw [hx] at hz
        cases hz
        exact ⟨x', e2, Nat.le_refl _, fun _ => rfl, fun q => absurd rfl q⟩
      · exact ⟨z, by rw [e3 k c1 c2]; exact hz, .refl z⟩
  have was : ∀ k z b, e' k = some z → z.has b → (k = n ∧ (x.has b ∨ blkOf v = some b)) ∨ (k ≠ m ∧ k ≠ n ∧ e k = some z) := fun k z b hz hb => by
    by_cases c1 : k = m
    · subst c1; simp [e'] at hz
    · by_cases c2 : k = n
      · subst c2; rw [e2] at hz; cases hz; exact .inl ⟨rfl, (hsub b).1 hb⟩
      · rw [e3 k c1 c2] at hz; exact .inr ⟨c1, c2, hz⟩
  refine ⟨h1, e', ⟨rr.st.vis, fun k o ho => ?_, fun k z hz => ?_, fun k1 k2 z1 z2 b hne hz1 hz2 hb1 hb2 => ?_, fun k z b hz hb => ?_, fun k o z ho hz hp => ?_⟩, ⟨rr.fr.os, rr.fr.tape, rr.fr.output, rr.fr.size, rr.fr.old, rr.fr.hold, fun k z b hz hb => ?_, fun k z hz => ?_⟩, fun t z hz => ?_, rr.size, rr.defers⟩
  · rw [get_put] at ho
    by_cases c2 : k = n
    · subst c2
      simp at ho
      subst ho
      refine ⟨x', e2, hs0, vs, by simpa using hvl, hv1, hrw, fun i u hi a' ha' => (by cases ha'), fun i u rows' hi hl _ => ?_, fun b => ?_, fun i i' u u2 b hne hi hi' _ _ hb hb2 => ?_, fun b hb hm2 => ?_⟩
      · by_cases c : i = j
        · subst c
          rw [hjv] at hi
          cases hi
          rw [List.getElem?_set_self hjl] at hl
          cases hl
          obtain ⟨_, q1, q2⟩ := hyr
          exact ⟨rfl, q1, by rw [hvy]; exact q2⟩
        · rw [List.getElem?_set_ne (Ne.symm c)] at hl
          exact hin i u rows' hi hl (ovn i c)
      · show b ∈ x.more ++ _ ↔ _
        rw [List.mem_append, hmo b, Option.mem_toList]
        constructor
        · rintro (⟨i, u, hi, _, hb⟩ | hb)
          · exact ⟨i, u, hi, nn i, hb⟩
          · exact ⟨j, v, hjv, nn j, hb⟩
        · rintro ⟨i, u, hi, _, hb⟩
          by_cases c : i = j
          · subst c; rw [hjv] at hi; cases hi; exact .inr hb
          · exact .inl ⟨i, u, hi, ovn i c, hb⟩
      · by_cases c : i = j
        · subst c
          rw [hjv] at hi; cases hi
          exact rr.st.sep m k y x b hmn hy hx ((hyb b).2 hb) (.inr ((hmo b).2 ⟨i', u2, hi', ovn i' (Ne.symm hne), hb2⟩))
        · by_cases c' : i' = j
          · subst c'
            rw [hjv] at hi'; cases hi'
            exact rr.st.sep m k y x b hmn hy hx ((hyb b).2 hb2) (.inr ((hmo b).2 ⟨i, u, hi, ovn i c, hb⟩))
          · exact hdi i i' u u2 b hne hi hi' (ovn i c) (ovn i' c') hb hb2
      · rcases List.mem_append.1 hm2 with q | q
        · exact hou b hb q
        · exact rr.st.sep m k y x b hmn hy hx ((hyb b).2 (Option.mem_toList.1 q)) (.inl hb)
    · rw [if_neg c2, sealBO_get] at ho
      split at ho
      · cases ho
      · rename_i c1
        obtain ⟨o0, ho0, rfl⟩ := Option.map_eq_some_iff.1 ho
        obtain ⟨z, hz, hr⟩ := rr.st.obj k o0 ho0
        refine ⟨z, by rw [e3 k c1 c2]; exact hz, ?_⟩
        cases o0 with
        | box c0 =>
          obtain ⟨h0, b, cs, t, hv, hc, hs, hr, h1⟩ := hr
          refine ⟨h0, b, cs, t, hv, hc, by simp only [sealBL_len]; exact hs, fun j z hj => ?_, h1⟩
          rw [sealBL_get, Option.map_eq_some_iff] at hj
          obtain ⟨z0, hz0, rfl⟩ := hj
          exact keepV (hr j z0 hz0)
        | row t0 s0 g0 l0 => exact hr
        | map ka ea l0 => exact hr
        | rov t1 g1 l1 i1 a1 =>
          obtain ⟨hi, v, h1, hv, hr⟩ := hr
          exact rovO_rep ⟨hi, v, h1, keepV hv, hr⟩
        | pol t1 t2 s1 g1 l1 ov => exact PolRep.map hr (Hp.le.refl h1) (fun a v hv => keepV hv)
  · by_cases c1 : k = m
    · subst c1; simp [e'] at hz
    · rw [get_put]
      by_cases c2 : k = n
      · simp [c2]
      · rw [if_neg c2]
        rw [e3 k c1 c2] at hz
        obtain ⟨o, ho⟩ := rr.st.dom k z hz
        exact sealBO_get2 ho c1
  · rcases was k1 z1 b hz1 hb1 with ⟨q1, p1⟩ | ⟨q1, q1', p1⟩ <;> rcases was k2 z2 b hz2 hb2 with ⟨q2, p2⟩ | ⟨q2, q2', p2⟩
    · exact hne (q1.trans q2.symm)
    · rcases p1 with p1 | p1
      · exact rr.st.sep n k2 x z2 b (Ne.symm q2') hx p2 p1 hb2
      · exact rr.st.sep m k2 y z2 b (Ne.symm q2) hy p2 ((hyb b).2 p1) hb2
    · rcases p2 with p2 | p2
      · exact rr.st.sep k1 n z1 x b q1' p1 hx hb1 p2
      · exact rr.st.sep k1 m z1 y b q1 p1 hy hb1 ((hyb b).2 p2)
    · exact rr.st.sep k1 k2 z1 z2 b hne p1 p2 hb1 hb2
  · rcases was k z b hz hb with ⟨_, p | p⟩ | ⟨_, _, p⟩
    · exact rr.st.excl n x b hx p
    · exact rr.st.excl m y b hy ((hyb b).2 p)
    · exact rr.st.excl k z b p hb
  · rw [get_put] at ho
    by_cases c2 : k = n
    · subst c2; simp at ho; subst ho; cases hp
    · rw [if_neg c2, sealBO_get] at ho
      split at ho
      · cases ho
      · rename_i c1
        obtain ⟨o0, ho0, rfl⟩ := Option.map_eq_some_iff.1 ho
        rw [e3 k c1 c2] at hz
        refine rr.st.lone k o0 z ho0 hz ?_
        revert hp
        cases o0 <;> first | exact id | exact fun _ => rfl
  · have hnew : ∀ k z b, k ≤ 99999 → e k = some z → z.has b → cx.w0.heap.size ≤ b := fun k z b hk hz hb => (rr.fr.own k z b hz hb).resolve_left (by rintro ⟨u, hu, _⟩; have := cx.he0 k u hu; omega)
    rcases was k z b hz hb with ⟨_, p | p⟩ | ⟨_, _, p⟩
    · exact .inr (hnew n x b hn hx p)
    · exact .inr (hnew m y b hm9 hy ((hyb b).2 p))
    · exact rr.fr.own k z b p hb
  · have hk := cx.he0 k z hz
    obtain ⟨z', hz', hle⟩ := rr.fr.keep k z hz
    exact ⟨z', by rw [e3 k (by omega) (by omega)]; exact hz', hle⟩
  · rw [sealBS_get, Option.map_eq_some_iff] at hz
    obtain ⟨z0, hz0, rfl⟩ := hz
    exact keepV (rr.slots t z0 hz0)
theorem wkE_take {ns : List Nat} {K : Sl → Os → Prop} {sl : Sl} {os : Os} (n j m : Nat) {t t2 s g : Nat} {l : List (List (List D))} {rows : List (List D)} (hn : n ≤ 99999) (hm9 : m ≤ 99999) (h : lget os n = some (.pol t t2 s g l none)) (hj : l[j]? = some rows) (hm : lget os m = none)
    (hk : K sl (lput (lput os m (.row t2 s 0 rows)) n (.pol t t2 s g l (some (j, .own m 0))))) : wkE ns K sl os := ⟨_, _, Wk_take n j m hn hm9 h hj hm, hk⟩
end Mq

