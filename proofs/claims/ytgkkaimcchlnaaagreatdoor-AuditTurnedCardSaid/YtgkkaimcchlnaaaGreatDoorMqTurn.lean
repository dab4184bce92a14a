/- A call that turns a row of the caller's own. Part of a verified reader of code, common to this project's claims. -/
import Derived.Test.YtgkkaimcchlnaaaGreatDoorMqRun
set_option linter.unusedVariables false
set_option linter.unusedSimpArgs false
namespace Mq
open Go Go.RowKit
set_option linter.unusedSectionVars false
variable [Glob]
/-- A function that is handed a row of the caller's own (the first argument), and turns what it holds; nothing else turns. -/
def FnT (P : Program) (f : Nat) (t s : Nat) (args : List AV) (l l' : List (List D)) (rv : AV) : Prop :=
  Live P f ∧ ∀ (w : World) (h : Hp) (v : Value) (vs : Array Value) (xs : List Value), GX h → Vis h w → w.ownsRow 0 t s v l.length xs → (∀ (i : Nat) (es : List D), l[i]? = some es → es.length = s) →
    (∀ (i : Nat) (es : List D) (j : Nat) (d : D), l[i]? = some es → es[j]? = some d → Rep h (xs.getD (i * s + j) undef) d) →
    vs.size = args.length → (∀ (j : Nat) (x : AV), args[j]? = some x → VRep h noE (vs.getD j undef) x) →
    Calls P f (#[v] ++ vs) w fun en w' => ∃ u xs', en = .returned u ∧ VRep h noE u rv ∧ w.grownBy w' (blkOf v) ∧ w'.ownsRow 0 t s v l'.length xs' ∧ (∀ (i : Nat) (es : List D), l'[i]? = some es → es.length = s) ∧
      ∀ (i : Nat) (es : List D) (j : Nat) (d : D), l'[i]? = some es → es[j]? = some d → Rep h (xs'.getD (i * s + j) undef) d
def turnK (P : Program) (l : List PG) (K : Sl → Os → Prop) (sl : Sl) (os : Os) : Prop := match l with
  | .uc d f (x :: xs) :: r => sides (lget sl) (x :: xs) ∧ ownsL (rawOf (lget sl) xs) = false ∧ ∃ n g t s l l' rv, (evs (lget sl) x).2 = .own n g ∧ lget os n = some (.row t s g l) ∧
      FnT P f t s (argsOf (lget sl) (lget os) xs) l l' rv ∧ runG P r K (lput sl d rv) (lput os n (.row t s g l'))
  | _ => False
def runT (P : Program) (l : List PG) (n : Nat) (K : Sl → Os → Prop) (sl : Sl) (os : Os) : Prop := runG P (l.take n) (turnK P (l.drop n) K) sl os
section
variable {P : Program} {te : TE} {o : Oper} {cx : Cx} {h : Hp} {e : Env} {sl : Sl} {os : Os} {a : Act} {w : World}
theorem turn_sound {f d n g t s : Nat} {x : X} {xs : List X} {l l' : List (List D)} {rv : AV} (hc : ccall te o = some (d, f, x :: xs)) (rr : RR cx h e sl os a w) (hs : sides (lget sl) (x :: xs))
    (hx : (evs (lget sl) x).2 = .own n g) (hgo : lget os n = some (.row t s g l)) (hf : FnT P f t s (argsOf (lget sl) (lget os) xs) l l' rv) (hfl : ownsL (rawOf (lget sl) xs) = false) {next : Act → World → Prop} {Q : Exit → Act → World → Prop}
    (hn : ∀ v e' w', RR cx h e' sl (lput os n (.row t s g l')) a w' → VRep h e' v rv → next (a.put o.dst v) w') : o.dst = some d ∧ o.wp P a w next Q := by
  unfold ccall at hc
  split at hc
  · rename_i f' as ts d' ho hdst
    cases hca : cArgs te ts.toList as.toList with
    | none => simp [hca] at hc
    | some ys =>
      simp only [hca, Option.map_some, Option.some.injEq, Prod.mk.injEq] at hc
      obtain ⟨rfl, rfl, rfl⟩ := hc
      refine ⟨hdst, ?_⟩
      unfold Oper.wp
      rw [run_call hf.1 ho]
      simp only [Oper.upon]
      obtain ⟨as⟩ := as
      obtain ⟨ts⟩ := ts
      simp only at hca
      match as, ts, hca with
      | [], _, hca => simp [cArgs] at hca
      | _ :: _, [], hca => simp [cArgs] at hca
      | x1 :: as, t1 :: ts, hca =>
        simp only [cArgs] at hca
        cases hx1 : cX te t1 x1 with
        | none => simp [hx1] at hca
        | some y =>
          cases hr1 : cArgs te ts as with
          | none => simp [hx1, hr1] at hca
          | some ys =>
            simp only [hx1, hr1, Option.some.injEq, List.cons.injEq] at hca
            obtain ⟨rfl, rfl⟩ := hca
            have hv := evs_rep hx1 rr (p := (evs (lget sl) y).1) (z := (evs (lget sl) y).2) rfl hs.1
            rw [hx] at hv
            generalize hav : a.eval x1 = v at hv
            cases hv with
            | own _ _ _ ent hent h1 hg hvb =>
              obtain ⟨hge, hs0, xs, hown, hls, hrr⟩ := row_ent rr hgo hent
              have hval := hvb hge.symm
              subst hval
              obtain ⟨a1, a2⟩ := args_rep (h' := h) rr (Hp.le.refl h) ts as ys hr1 hs.2 (fun q => absurd q (by simp [hfl]))
              have hmap : (⟨x1 :: as⟩ : Array Operand).map a.eval = #[ent.val] ++ (⟨as⟩ : Array Operand).map a.eval := by
                apply Array.toList_inj.1
                simp [hav]
              rw [hmap]
              refine (hf.2 w h ent.val _ xs rr.gx rr.st.vis hown hls hrr (by simpa using a1) (fun j y hj => ?_)).mono ?_
              · have hjl : j < as.length := by have := (List.getElem?_eq_some_iff.1 hj).1; omega
                have := a2 j y hj as[j] (by simp [hjl])
                simpa [Array.getD, hjl] using this
              · rintro en w' ⟨u, xs', rfl, hu, hgr, hown', hls', hrr'⟩
                have he : e.set n ent = e := by
                  funext m
                  by_cases hm : m = n
                  · subst hm; simp [Env.set, hent]
                  · simp [Env.set, hm]
                have hlo := rr.st.lone _ _ _ hgo hent
                have r1 := rr.upd n ent (.row t s g l') hgr (fun b hb => ⟨ent, hent, .inl hb⟩) (fun y hy => by rw [hent] at hy; cases hy; exact Ent.le.refl _) (fun b hb => .inl ((Ent.has_lone (hlo rfl)).1 hb))
                  ⟨hge, hs0, xs', hown', hls', hrr'⟩
                exact hn u _ w' r1 (hu.mono (Hp.le.refl h) (fun m y hy => by cases hy))
  · cases hc
theorem turn_region (hte : TEok P te) (ops : Array Oper) {Q : Exit → Act → World → Prop} {K : Sl → Os → Prop} (hK : ∀ sl os a w, K sl os → R cx sl os a w → Q .normal a w)
    (n : Nat) (l : List Oper) (pl : List PG) (hc : cGs te cx.nt ops l = some pl) (sl : Sl) (os : Os) (a : Act) (w : World) (hr : runT P pl n K sl os) (hR : R cx sl os a w) : wpList P ops Q l a w := by
  obtain ⟨h1, h2⟩ := cGs_split n hc
  have hl : l = l.take n ++ l.drop n := (List.take_append_drop n l).symm
  rw [hl]
  refine region_rest hte ops (l.drop n) (fun sl os a w ht hr => ?_) _ _ h1 sl os a w hr hR
  revert ht h2
  generalize l.drop n = l2
  generalize pl.drop n = p2
  intro h2 ht
  cases l2 with
  | nil => simp only [cGs, Option.some.injEq] at h2; subst h2; exact ht.elim
  | cons o r =>
    simp only [cGs] at h2
    cases hg : cG te cx.nt ops o with
    | none => simp [hg] at h2
    | some g =>
      cases hl2 : cGs te cx.nt ops r with
      | none => simp [hg, hl2] at h2
      | some pr =>
        simp only [hg, hl2, Option.some.injEq] at h2
        subst h2
        unfold turnK at ht
        split at ht
        · rename_i d f x xs r' heq
          simp only [List.cons.injEq] at heq
          obtain ⟨rfl, rfl⟩ := heq
          obtain ⟨hs, hfl, n', g, t, s, rl, rl', rv, hx, hgo, hf, hk⟩ := ht
          obtain ⟨h, e, rr⟩ := hr
          unfold cG at hg
          split at hg
          · rename_i hd
            split at hg
            · rename_i hgd
              have hw : Region.wanted o (yielded ops a.tmps) = true := by simp [Region.wanted, hgd]
              split at hg
              · rename_i d2 f2 xs2 hcc
                simp only [Option.some.injEq, PG.uc.injEq] at hg
                obtain ⟨rfl, rfl, rfl⟩ := hg
                simp only [wpList, hw, if_true]
                refine .inl ?_
                have hdst : o.dst = some d2 := by
                  unfold ccall at hcc
                  split at hcc
                  · rename_i f' as ts d' ho hdst
                    cases hca : cArgs te ts.toList as.toList with
                    | none => simp [hca] at hcc
                    | some ys => simp only [hca, Option.map_some, Option.some.injEq, Prod.mk.injEq] at hcc; rw [hdst, hcc.1]
                  · cases hcc
                refine (turn_sound hcc rr hs hx hgo hf hfl (fun v e' w' r1 hv => ?_)).2
                have r2 := r1.putO hd hv
                rw [hdst] at r2 ⊢
                have := region_rest hte ops (Q := Q) [] hK r _ hl2 _ _ _ _ hk ⟨_, _, r2⟩
                rwa [List.append_nil] at this
              · split at hg <;> (try cases hg) <;> cases hco : cop te o <;> simp [hco] at hg
            · split at hg
              · split at hg
                · cases hg
                · cases hco : cop te o <;> simp [hco] at hg
              · cases hg
          · cases hg
        · exact ht.elim
end
end Mq
