/- A function's code comes to what is told. Part of a verified reader of code, common to this project's claims. -/
import Derived.Test.YtgkkaimcchlnaaaGreatDoorMqGc
import Derived.Scope
set_option linter.unusedVariables false
set_option linter.unusedSimpArgs false
namespace Mq
open Go Go.RowKit
set_option linter.unusedSectionVars false
variable [Glob]
def cC (te : TE) (nt : Nat) : Code → Option PC
  | .skip => some .skip
  | .ret => some .ret
  | .region _ ops draw => match cGs te nt ops ops.toList with
    | some l => if draw then (if drawOk ops l then some (.regD l (dyn ops l)) else none) else some (.reg l)
    | none => none
  | .seq x y => match cC te nt x with
    | none => some (.raw nt (.seq x y))
    | some p => match cC te nt y with
      | some q => some (.seq p q)
      | none => none
  | .cond c x y => match cX te 0 c, cC te nt x, cC te nt y with
    | some z, some p, some q => some (.cond z p q)
    | _, _, _ => none
  | .block i x => (cC te nt x).map (.block i)
  | .loop x => (cC te nt x).map .loop
  | .exit i => some (.exit i)
  | .scope x => (cC te nt x).map .scope
  | .label _ => some .skip
  | _ => none
/-- A part of a code. -/
def cAt : List Nat → Code → Code
  | [], c => c
  | 0 :: r, .seq x _ => cAt r x
  | _ :: r, .seq _ y => cAt r y
  | 0 :: r, .cond _ x _ => cAt r x
  | _ :: r, .cond _ _ y => cAt r y
  | _ :: r, .block _ x => cAt r x
  | _ :: r, .loop x => cAt r x
  | _ :: r, .scope x => cAt r x
  | _, c => c
abbrev QF := Exit → Sl → Os → Prop
/-- What is told of a state holds of it as less is told of it. -/
def Wk (sl : Sl) (os : Os) (sl' : Sl) (os' : Os) : Prop := ∀ (cx : Cx) (a : Act) (w : World), R cx sl os a w → R cx sl' os' a w
theorem Wk.refl (sl : Sl) (os : Os) : Wk sl os sl os := fun _ _ _ h => h
theorem Wk.trans {sl sl' sl2 : Sl} {os os' os2 : Os} (h : Wk sl os sl' os') (h' : Wk sl' os' sl2 os2) : Wk sl os sl2 os2 := fun cx a w r => h' cx a w (h cx a w r)
def seqQ (ky : QF → Sl → Os → Prop) (Q : QF) : QF
  | .normal, sl, os => ky Q sl os
  | e, sl, os => Q e sl os
/-- A region, cut in parts between which less may be told (the names: of rows that no longer turn). -/
def wkE (_ns : List Nat) (K : Sl → Os → Prop) (sl : Sl) (os : Os) : Prop := ∃ sl' os', Wk sl os sl' os' ∧ K sl' os'
def runW (P : Program) (l : List PG) (cs : List (Nat × List Nat)) (K : Sl → Os → Prop) (sl : Sl) (os : Os) : Prop := match cs with
  | [] => runG P l K sl os
  | c :: r => runG P (l.take c.1) (wkE c.2 (runW P (l.drop c.1) r K)) sl os
/-- A region's script: where less is told; where what is owned is handed to a call, or comes of it (what is handed; its names in the call; the caller's names of what comes back). -/
inductive Sc where
  | wk (ns : List Nat)
  | gc (H : List Nat) (τ σ : List (Nat × Nat))
def runS (P : Program) (l : List PG) (sc : List (Nat × Sc)) (K : Sl → Os → Prop) (sl : Sl) (os : Os) : Prop := match sc with
  | [] => runG P l K sl os
  | (n, .wk ns) :: r => runG P (l.take n) (wkE ns (runS P (l.drop n) r K)) sl os
  | (n, .gc H τ σ) :: r => runG P (l.take n) (gcK P (l.drop n) H τ σ (runS P (l.drop (n + 1)) r K)) sl os
/-- Behind a part: a relation, and less told of the state. -/
def midQ (J : Sl → Os → Prop) (Q : QF) : QF
  | .normal, sl, os => ∃ sl' os', Wk sl os sl' os' ∧ J sl' os'
  | e, sl, os => Q e sl os
def blockQ (i : Nat) (Q : QF) : QF
  | .exit j, sl, os => if j = i then Q .normal sl os else Q (.exit j) sl os
  | e, sl, os => Q e sl os
def normQ (kp : List Nat) (Q : QF) (sl : Sl) (os : Os) : Prop := ∃ sl' os', Wk (lkeep kp sl) os sl' os' ∧ Q .normal sl' os'
theorem normQ_of {kp : List Nat} {Q : QF} {sl : Sl} {os : Os} (h : Q .normal (lkeep kp sl) os) : normQ kp Q sl os := ⟨_, _, Wk.refl _ _, h⟩
/-- Within a scope no code goes to a label. -/
def scopeQ (Q : QF) : QF
  | .goto _, _, _ => False
  | e, sl, os => Q e sl os
def CondK (t : Bool) (kx ky : QF → Sl → Os → Prop) (Q : QF) (sl : Sl) (os : Os) : Prop := (t = true → kx Q sl os) ∧ (t = false → ky Q sl os)
def loopQ (I : Nat → Sl → Os → Prop) (n : Nat) (Q : QF) : QF
  | .normal, sl, os => ∃ m, m < n ∧ ∃ sl' os', Wk sl os sl' os' ∧ I m sl' os'
  | e, sl, os => Q e sl os
def LoopK (k : QF → Sl → Os → Prop) (Q : QF) (sl : Sl) (os : Os) : Prop :=
  ∃ I : Nat → Sl → Os → Prop, (∃ n sl' os', Wk sl os sl' os' ∧ I n sl' os') ∧ ∀ n sl os, I n sl os → k (loopQ I n Q) sl os
/-- What is owed that a piece of code comes to what is wanted of it. -/
def awp (P : Program) (kp : List Nat) (p : PC) (Q : QF) (sl : Sl) (os : Os) : Prop := match p with
  | .skip => ∃ sl' os', Wk sl os sl' os' ∧ Q .normal sl' os'
  | .ret => Q .ret sl os
  | .reg l => (∃ cs, runW P l cs (normQ kp Q) sl os) ∨ (∃ n, runT P l n (normQ kp Q) sl os) ∨ ∃ sc, runS P l sc (normQ kp Q) sl os
  | .regD l ps => runD P l ps (normQ kp Q) sl os
  | .seq x y => awp P kp x (seqQ (awp P kp y) Q) sl os ∨ ∃ J : Sl → Os → Prop, awp P kp x (midQ J Q) sl os ∧ ∀ sl os, J sl os → awp P kp y Q sl os
  | .cond c x y => match evX (lget sl) c with
    | .d (.v (.bool t)) => CondK t (awp P kp x) (awp P kp y) Q sl os
    | _ => False
  | .block i x => awp P kp x (blockQ i Q) sl os
  | .loop x => LoopK (awp P kp x) Q sl os
  | .exit i => ∃ sl' os', Wk sl os sl' os' ∧ Q (.exit i) sl' os'
  | .scope x => awp P kp x (scopeQ Q) sl os
  | .raw nt c => ∀ (cx : Cx) (a : Act) (w : World), cx.nt = nt → R cx sl os a w → c.wp P (fun e a w => ∃ sl' os', Q e sl' os' ∧ R cx sl' os' a w) a w
section
variable {P : Program} {kp : List Nat} {Q : QF} {sl : Sl} {os : Os}
theorem awp_skip (h : Q .normal sl os) : awp P kp .skip Q sl os := ⟨_, _, Wk.refl _ _, h⟩
theorem awp_ret (h : Q .ret sl os) : awp P kp .ret Q sl os := h
theorem awp_exit {i : Nat} (h : Q (.exit i) sl os) : awp P kp (.exit i) Q sl os := ⟨_, _, Wk.refl _ _, h⟩
theorem awp_exit_wk {i : Nat} {sl' : Sl} {os' : Os} (hw : Wk sl os sl' os') (h : Q (.exit i) sl' os') : awp P kp (.exit i) Q sl os := ⟨_, _, hw, h⟩
theorem awp_reg {l : List PG} (h : runG P l (normQ kp Q) sl os) : awp P kp (.reg l) Q sl os := .inl ⟨[], h⟩
theorem awp_cut {l : List PG} (cs : List (Nat × List Nat)) (h : runW P l cs (normQ kp Q) sl os) : awp P kp (.reg l) Q sl os := .inl ⟨cs, h⟩
theorem awp_turn {l : List PG} (n : Nat) (h : runT P l n (normQ kp Q) sl os) : awp P kp (.reg l) Q sl os := .inr (.inl ⟨n, h⟩)
theorem awp_sc {l : List PG} (sc : List (Nat × Sc)) (h : runS P l sc (normQ kp Q) sl os) : awp P kp (.reg l) Q sl os := .inr (.inr ⟨sc, h⟩)
theorem runT_of {l : List PG} {n : Nat} {K : Sl → Os → Prop} (h : runG P (l.take n) (turnK P (l.drop n) K) sl os) : runT P l n K sl os := h
theorem turnK_of {d f : Nat} {x : X} {xs : List X} {r : List PG} {K : Sl → Os → Prop} {n g t s : Nat} {rl rl' : List (List D)} {rv : AV} (hs : sides (lget sl) (x :: xs)) (hfl : ownsL (rawOf (lget sl) xs) = false) (hx : (evs (lget sl) x).2 = .own n g)
    (hgo : lget os n = some (.row t s g rl)) (hf : FnT P f t s (argsOf (lget sl) (lget os) xs) rl rl' rv) (hk : runG P r K (lput sl d rv) (lput os n (.row t s g rl'))) : turnK P (.uc d f (x :: xs) :: r) K sl os :=
  ⟨hs, hfl, n, g, t, s, rl, rl', rv, hx, hgo, hf, hk⟩
theorem awp_regD {l : List PG} {ps : List (Nat × Nat)} (h : runD P l ps (normQ kp Q) sl os) : awp P kp (.regD l ps) Q sl os := h
theorem runD_nil {l : List PG} {K : Sl → Os → Prop} (h : runG P l K sl os) : runD P l [] K sl os := h
theorem runD_cons {l : List PG} {p : Nat × Nat} {r : List (Nat × Nat)} {K : Sl → Os → Prop} (h : runF P l [] (chkQ (p :: r) K) sl os) : runD P l (p :: r) K sl os := h
theorem chkQ_of {ps : List (Nat × Nat)} {K : Sl → Os → Prop} {tab : Tab} (h1 : chk ps tab = true) (h : K sl os) : chkQ ps K tab sl os := ⟨h1, h⟩
theorem awp_seq {x y : PC} (h : awp P kp x (seqQ (awp P kp y) Q) sl os) : awp P kp (.seq x y) Q sl os := .inl h
def lputs {α : Type} (l : List (Nat × α)) : List (Nat × α) → List (Nat × α)
  | [] => l
  | (k, v) :: r => lputs (lput l k v) r
/-- What holds behind a part, whichever way was gone. -/
def J1 (S : Sl) (O : Os) (sl : Sl) (os : Os) : Prop := sl = S ∧ os = O
theorem awp_mid {x : PC} (y : PC) (us : Sl) (uo : Os) (h1 : awp P kp x (midQ (J1 (lputs sl us) (lputs os uo)) Q) sl os) (h2 : awp P kp y Q (lputs sl us) (lputs os uo)) : awp P kp (.seq x y) Q sl os :=
  .inr ⟨J1 (lputs sl us) (lputs os uo), h1, by rintro _ _ ⟨rfl, rfl⟩; exact h2⟩
theorem midQ_of {S : Sl} {O : Os} (h : Wk sl os S O) : midQ (J1 S O) Q .normal sl os := ⟨_, _, h, rfl, rfl⟩
theorem midQ_ret {J : Sl → Os → Prop} : midQ J Q .ret sl os = Q .ret sl os := rfl
theorem midQ_exit {J : Sl → Os → Prop} {i : Nat} : midQ J Q (.exit i) sl os = Q (.exit i) sl os := rfl
theorem awp_block {i : Nat} {x : PC} (h : awp P kp x (blockQ i Q) sl os) : awp P kp (.block i x) Q sl os := h
theorem awp_scope {x : PC} (h : awp P kp x (scopeQ Q) sl os) : awp P kp (.scope x) Q sl os := h
theorem scopeQ_normal : scopeQ Q .normal sl os = Q .normal sl os := rfl
theorem scopeQ_ret : scopeQ Q .ret sl os = Q .ret sl os := rfl
theorem scopeQ_exit {i : Nat} : scopeQ Q (.exit i) sl os = Q (.exit i) sl os := rfl
theorem awp_cond {c : X} {x y : PC} {t : Bool} (hc : evX (lget sl) c = .d (.v (.bool t))) (h1 : t = true → awp P kp x Q sl os) (h2 : t = false → awp P kp y Q sl os) : awp P kp (.cond c x y) Q sl os := by
  simp only [awp, hc]
  exact ⟨h1, h2⟩
end
theorem R.keep {cx : Cx} {sl : Sl} {os : Os} {a : Act} {w : World} (r : R cx sl os a w) (kp : List Nat) : R cx (lkeep kp sl) os a w := by
  obtain ⟨h, e, rr⟩ := r
  exact ⟨h, e, rr.st, rr.fr, fun t x hx => rr.slots t x (get_keep kp sl t x hx), rr.size, rr.defers⟩
theorem exists_min {p : Nat → Prop} (hp : ∃ n, p n) : ∃ n, p n ∧ ∀ m, p m → n ≤ m := by
  obtain ⟨n, hn⟩ := hp
  induction n using Nat.strongRecOn with
  | _ n ih =>
    by_cases h : ∃ m, m < n ∧ p m
    · obtain ⟨m, hm, hpm⟩ := h
      exact ih m hm hpm
    · exact ⟨n, hn, fun m hm => Nat.le_of_not_lt (fun q => h ⟨m, q, hm⟩)⟩
theorem runW_sound {P : Program} {te : TE} {cx : Cx} (hte : TEok P te) (ops : Array Oper) {Q : Exit → Act → World → Prop} {K : Sl → Os → Prop} (hK : ∀ sl os a w, K sl os → R cx sl os a w → Q .normal a w) :
    ∀ (cs : List (Nat × List Nat)) (l : List Oper) (pl : List PG), cGs te cx.nt ops l = some pl → ∀ (sl : Sl) (os : Os) (a : Act) (w : World), runW P pl cs K sl os → R cx sl os a w → wpList P ops Q l a w
  | [], l, pl, hc, sl, os, a, w, hr, hR => region_sound hte ops hK l pl hc sl os a w hr hR
  | c :: r, l, pl, hc, sl, os, a, w, hr, hR => by
    obtain ⟨h1, h2⟩ := cGs_split c.1 hc
    have := region_rest hte ops (Q := Q) (l.drop c.1) (fun sl os a w hk hr => by
      obtain ⟨sl', os', hw, hk⟩ := hk
      exact runW_sound hte ops hK r _ _ h2 sl' os' a w hk (hw cx a w hr)) _ _ h1 sl os a w hr hR
    rwa [List.take_append_drop] at this
theorem dst_of {te : TE} {o : Oper} {d f : Nat} {xs : List X} (hcc : ccall te o = some (d, f, xs)) : o.dst = some d := by
  unfold ccall at hcc
  split at hcc
  · rename_i f' as ts d' ho hdst
    cases hca : cArgs te ts.toList as.toList with
    | none => simp [hca] at hcc
    | some ys => simp only [hca, Option.map_some, Option.some.injEq, Prod.mk.injEq] at hcc; rw [hdst, hcc.1]
  · cases hcc
theorem runS_sound {P : Program} {te : TE} {cx : Cx} (hte : TEok P te) (ops : Array Oper) {Q : Exit → Act → World → Prop} {K : Sl → Os → Prop} (hK : ∀ sl os a w, K sl os → R cx sl os a w → Q .normal a w) :
    ∀ (sc : List (Nat × Sc)) (l : List Oper) (pl : List PG), cGs te cx.nt ops l = some pl → ∀ (sl : Sl) (os : Os) (a : Act) (w : World), runS P pl sc K sl os → R cx sl os a w → wpList P ops Q l a w
  | [], l, pl, hc, sl, os, a, w, hr, hR => region_sound hte ops hK l pl hc sl os a w hr hR
  | (n, .wk ns) :: r, l, pl, hc, sl, os, a, w, hr, hR => by
    obtain ⟨h1, h2⟩ := cGs_split n hc
    have := region_rest hte ops (Q := Q) (l.drop n) (fun sl os a w hk hr => by
      obtain ⟨sl', os', hw, hk⟩ := hk
      exact runS_sound hte ops hK r _ _ h2 sl' os' a w hk (hw cx a w hr)) _ _ h1 sl os a w hr hR
    rwa [List.take_append_drop] at this
  | (n, .gc H τ σ) :: r, l, pl, hc, sl, os, a, w, hr, hR => by
    obtain ⟨h1, h2⟩ := cGs_split n hc
    obtain ⟨_, h3⟩ := cGs_split (n + 1) hc
    have := region_rest hte ops (Q := Q) (l.drop n) (fun sl os a w ht hr => by
      have ih := fun l pl hc sl os a w => runS_sound hte ops hK r l pl hc sl os a w
      rw [← List.drop_drop] at h3
      rw [show pl.drop (n + 1) = (pl.drop n).drop 1 by rw [List.drop_drop]] at h3 ht
      clear hc h1
      revert ht h2 h3
      generalize l.drop n = l2
      generalize pl.drop n = p2
      intro h2 h3 ht
      cases l2 with
      | nil => simp only [cGs, Option.some.injEq] at h2; subst h2; exact ht.elim
      | cons o r2 =>
        simp only [cGs] at h2
        cases hg : cG te cx.nt ops o with
        | none => simp [hg] at h2
        | some g =>
          cases hl2 : cGs te cx.nt ops r2 with
          | none => simp [hg, hl2] at h2
          | some pr =>
            simp only [hg, hl2, Option.some.injEq] at h2
            subst h2
            unfold gcK at ht
            split at ht
            · rename_i d f xs r' heq
              simp only [List.cons.injEq] at heq
              obtain ⟨rfl, rfl⟩ := heq
              obtain ⟨hs, hk, rv, osF, hf, hk2, hfl, hK2⟩ := ht
              obtain ⟨h, e, rr⟩ := hr
              unfold cG at hg
              split at hg
              · rename_i hd
                split at hg
                · rename_i hgd
                  have hw : Region.wanted o (yielded ops a.tmps) = true := by simp [Region.wanted, hgd]
                  split at hg
                  · rename_i d2 f2 xs2 hcc
                    simp only [Option.some.injEq, PG.uc.injEq] at hg
                    obtain ⟨rfl, rfl, rfl⟩ := hg
                    simp only [wpList, hw, if_true]
                    refine .inl ?_
                    have hdst := dst_of hcc
                    refine (gcall_sound hcc rr hs hk hf hk2 hfl (fun v h' e' w' r1 hv => ?_)).2
                    have r2 := r1.putO hd hv
                    rw [hdst] at r2 ⊢
                    simp only [List.drop_succ_cons, List.drop_zero] at h3 hK2
                    exact ih _ _ h3 _ _ _ _ hK2 ⟨_, _, r2⟩
                  · split at hg <;> (try cases hg) <;> cases hco : cop te o <;> simp [hco] at hg
                · split at hg
                  · split at hg
                    · cases hg
                    · cases hco : cop te o <;> simp [hco] at hg
                  · cases hg
              · cases hg
            · exact ht.elim) _ _ h1 sl os a w hr hR
    rwa [List.take_append_drop] at this
theorem awp_sound {P : Program} {te : TE} {cx : Cx} (hte : TEok P te) (kp : List Nat) : ∀ (c : Code) (p : PC), cC te cx.nt c = some p → ∀ (Q : QF) (Q' : Exit → Act → World → Prop),
    (∀ e sl os a w, Q e sl os → R cx sl os a w → Q' e a w) → ∀ (sl : Sl) (os : Os) (a : Act) (w : World), awp P kp p Q sl os → R cx sl os a w → c.wp P Q' a w
  | .skip, p, hc, Q, Q', hQ, sl, os, a, w, hp, hr => by
    simp only [cC, Option.some.injEq] at hc; subst hc
    obtain ⟨sl', os', hw, hq⟩ := hp
    exact wp_skip (hQ _ _ _ _ _ hq (hw cx a w hr))
  | .ret, p, hc, Q, Q', hQ, sl, os, a, w, hp, hr => by
    simp only [cC, Option.some.injEq] at hc; subst hc
    exact wp_ret (hQ _ _ _ _ _ hp hr)
  | .exit i, p, hc, Q, Q', hQ, sl, os, a, w, hp, hr => by
    simp only [cC, Option.some.injEq] at hc; subst hc
    obtain ⟨sl', os', hw, hq⟩ := hp
    exact wp_exit (hQ _ _ _ _ _ hq (hw cx a w hr))
  | .region i ops draw, p, hc, Q, Q', hQ, sl, os, a, w, hp, hr => by
    simp only [cC] at hc
    cases hl : cGs te cx.nt ops ops.toList with
    | none => simp [hl] at hc
    | some l =>
      simp only [hl] at hc
      cases draw with
      | false =>
        simp only [Bool.false_eq_true, if_false, Option.some.injEq] at hc
        subst hc
        rcases hp with ⟨cs, hp⟩ | ⟨n, hp⟩ | ⟨sc, hp⟩
        rotate_left
        · exact wp_region_list (turn_region hte ops (fun sl os a w ⟨sl', os', hw, hk⟩ hr => hQ _ _ _ _ _ hk (hw cx a w (hr.keep kp))) n _ l hl sl os a w hp hr)
        · exact wp_region_list (runS_sound hte ops (fun sl os a w ⟨sl', os', hw, hk⟩ hr => hQ _ _ _ _ _ hk (hw cx a w (hr.keep kp))) sc _ l hl sl os a w hp hr)
        exact wp_region_list (runW_sound hte ops (fun sl os a w ⟨sl', os', hw, hk⟩ hr => hQ _ _ _ _ _ hk (hw cx a w (hr.keep kp))) cs _ l hl sl os a w hp hr)
      | true =>
        simp only [if_true] at hc
        split at hc
        · rename_i hok
          cases hc
          exact draw_sound hte ops (fun sl os a w ⟨sl', os', hw, hk⟩ hr => hQ _ _ _ _ _ hk (hw cx a w (hr.keep kp))) l hl hok hp hr
        · cases hc
  | .seq x y, p, hc, Q, Q', hQ, sl, os, a, w, hp, hr => by
    simp only [cC] at hc
    split at hc
    · cases hc
      exact wp_mono (hp cx a w rfl hr) (fun e a w ⟨sl', os', q, r'⟩ => hQ e sl' os' a w q r')
    rename_i px hx
    split at hc
    · rename_i py hy
      cases hc
      rcases hp with hp | ⟨J, hp, hJ⟩
      case inr =>
        refine wp_seq (awp_sound hte kp x px hx _ _ (fun e sl os a w hq hr => ?_) sl os a w hp hr)
        cases e with
        | normal =>
          obtain ⟨sl2, os2, hw2, hj⟩ := hq
          exact awp_sound hte kp y py hy Q Q' hQ sl2 os2 a w (hJ _ _ hj) (hw2 cx a w hr)
        | exit i => exact hQ _ _ _ _ _ hq hr
        | goto l => exact hQ _ _ _ _ _ hq hr
        | ret => exact hQ _ _ _ _ _ hq hr
        | panic ch => exact hQ _ _ _ _ _ hq hr
        | outgrown => exact hQ _ _ _ _ _ hq hr
      refine wp_seq (awp_sound hte kp x px hx _ _ (fun e sl os a w hq hr => ?_) sl os a w hp hr)
      cases e with
      | normal => exact awp_sound hte kp y py hy Q Q' hQ sl os a w hq hr
      | exit i => exact hQ _ _ _ _ _ hq hr
      | goto l => exact hQ _ _ _ _ _ hq hr
      | ret => exact hQ _ _ _ _ _ hq hr
      | panic ch => exact hQ _ _ _ _ _ hq hr
      | outgrown => exact hQ _ _ _ _ _ hq hr
    · cases hc
  | .cond c x y, p, hc, Q, Q', hQ, sl, os, a, w, hp, hr => by
    simp only [cC] at hc
    split at hc
    · rename_i z px py hz hx hy
      cases hc
      simp only [awp] at hp
      split at hp
      · rename_i t ht
        obtain ⟨h, e, rr⟩ := hr
        have hv := cX_rep hz rr
        rw [ht] at hv
        have hev : a.eval c = .bool t := by
          generalize a.eval c = u at hv
          cases hv with | d _ _ q => cases q with | v _ _ => rfl
        exact wp_cond_split hev (fun q => awp_sound hte kp x px hx Q Q' hQ sl os a w (hp.1 q) ⟨h, e, rr⟩) (fun q => awp_sound hte kp y py hy Q Q' hQ sl os a w (hp.2 q) ⟨h, e, rr⟩)
      · exact hp.elim
    · cases hc
  | .block i x, p, hc, Q, Q', hQ, sl, os, a, w, hp, hr => by
    simp only [cC] at hc
    cases hx : cC te cx.nt x with
    | none => simp [hx] at hc
    | some px =>
      simp only [hx, Option.map_some, Option.some.injEq] at hc
      subst hc
      refine wp_block (awp_sound hte kp x px hx (blockQ i Q) _ (fun e sl os a w hq hr => ?_) sl os a w hp hr)
      cases e with
      | exit j =>
        simp only [blockQ] at hq
        simp only [Exit.inBlock]
        split at hq
        · rename_i hji; rw [if_pos hji]; exact hQ _ _ _ _ _ hq hr
        · rename_i hji; rw [if_neg hji]; exact hQ _ _ _ _ _ hq hr
      | normal => exact hQ _ _ _ _ _ hq hr
      | goto l => exact hQ _ _ _ _ _ hq hr
      | ret => exact hQ _ _ _ _ _ hq hr
      | panic ch => exact hQ _ _ _ _ _ hq hr
      | outgrown => exact hQ _ _ _ _ _ hq hr
  | .loop x, p, hc, Q, Q', hQ, sl, os, a, w, hp, hr => by
    simp only [cC] at hc
    cases hx : cC te cx.nt x with
    | none => simp [hx] at hc
    | some px =>
      simp only [hx, Option.map_some, Option.some.injEq] at hc
      subst hc
      obtain ⟨I, ⟨n, sl', os', hwk, hI⟩, hround⟩ := hp
      let J : Act → World → Nat → Prop := fun a w n => ∃ sl os, I n sl os ∧ R cx sl os a w
      refine wp_loop (fun a w => ∃ n, J a w n) (fun a w => @dite _ (∃ n, J a w n) (Classical.propDecidable _) (fun hh => Classical.choose (exists_min hh)) (fun _ => 0)) ⟨n, sl', os', hI, hwk cx a w hr⟩ ?_
      intro a w hJ
      have hm := Classical.choose_spec (exists_min hJ)
      simp only [dif_pos hJ]
      generalize Classical.choose (exists_min hJ) = n1 at hm ⊢
      obtain ⟨⟨sl1, os1, hI1, hr1⟩, hmin⟩ := hm
      refine awp_sound hte kp x px hx (loopQ I n1 Q) _ (fun e sl os a w hq hr => ?_) sl1 os1 a w (hround n1 sl1 os1 hI1) hr1
      cases e with
      | normal =>
        obtain ⟨m, hmn, sl2, os2, hwk2, hI2⟩ := hq
        have hJ2 : ∃ n, J a w n := ⟨m, sl2, os2, hI2, hwk2 cx a w hr⟩
        refine ⟨hJ2, ?_⟩
        have hm2 := Classical.choose_spec (exists_min hJ2)
        simp only [dif_pos hJ2]
        exact Nat.lt_of_le_of_lt (hm2.2 m ⟨sl2, os2, hI2, hwk2 cx a w hr⟩) hmn
      | exit i => exact hQ _ _ _ _ _ hq hr
      | goto l => exact hQ _ _ _ _ _ hq hr
      | ret => exact hQ _ _ _ _ _ hq hr
      | panic ch => exact hQ _ _ _ _ _ hq hr
      | outgrown => exact hQ _ _ _ _ _ hq hr
  | .rangeFunc .., p, hc, _, _, _, _, _, _, _, _, _ => by simp [cC] at hc
  | .goto _, p, hc, _, _, _, _, _, _, _, _, _ => by simp [cC] at hc
  | .label l, p, hc, Q, Q', hQ, sl, os, a, w, hp, hr => by
    simp only [cC, Option.some.injEq] at hc; subst hc
    obtain ⟨sl', os', hw, hq⟩ := hp
    exact wp_label (hQ _ _ _ _ _ hq (hw cx a w hr))
  | .scope x, p, hc, Q, Q', hQ, sl, os, a, w, hp, hr => by
    simp only [cC] at hc
    cases hx : cC te cx.nt x with
    | none => simp [hx] at hc
    | some px =>
      simp only [hx, Option.map_some, Option.some.injEq] at hc
      subst hc
      refine wp_scope_straight (awp_sound hte kp x px hx (scopeQ Q) _ (fun e sl os a w hq hr => ?_) sl os a w hp hr)
      cases e with
      | goto l => exact hq
      | exit i => exact hQ _ _ _ _ _ hq hr
      | normal => exact hQ _ _ _ _ _ hq hr
      | ret => exact hQ _ _ _ _ _ hq hr
      | panic ch => exact hQ _ _ _ _ _ hq hr
      | outgrown => exact hQ _ _ _ _ _ hq hr
  | .refuse _, p, hc, _, _, _, _, _, _, _, _, _ => by simp [cC] at hc
/-- How a function's results are told. -/
def resOf (te : TE) (sl : Sl) (os : Os) : List ResultVar → Option (List AV)
  | [] => some []
  | .tmp t :: r => match resOf te sl os r with
    | some l => some (dv (lget os) ((lget sl t).getD .un) :: l)
    | none => none
  | .cell t ty :: r => match lget sl t, te ty, resOf te sl os r with
    | some (.ptr n 0), some i, some l => match lget os n with
      | some (.box cs) => if cs.length = i.size then some (dv (lget os) (if i.agg then .ag cs else cs.getD 0 .un) :: l) else none
      | _ => none
    | _, _, _ => none
def resV : List AV → AV
  | [x] => x
  | l => .tp l
section
variable {P : Program} {te : TE} {cx : Cx} {h : Hp} {e : Env} {sl : Sl} {os : Os} {a : Act} {w : World}
def resG (tmps : Array Value) : ResultVar → Sem Value
  | .tmp t => pure (tmps.getD t undef)
  | .cell a t => do loadVar t (← asAddr (tmps.getD a undef))
theorem run_loadVar_box {b : Nat} {cs : Array Value} {t ty : TypeId} {fr : Nat × Nat} {i : TI} (hte : TEok P te) (ht : te ty = some i) (hb : w.heap[b]? = some (.cells cs t fr)) (hs : cs.size = i.size) :
    (loadVar ty ⟨b, 0, none⟩).run P w = .ok (if i.agg then .agg cs else cs.getD 0 undef) w := by
  obtain ⟨dd, hu, hagg, _⟩ := (hte ty _ ht).und
  obtain ⟨q, hq, hqs, _⟩ := (hte ty _ ht).info
  have hc := run_loadCells_list (P := P) w ⟨b, 0, none⟩ cs.toList (fun j v hj => by rw [add_none, cell_at hb]; simpa using hj)
  simp only [Array.length_toList, hs, Array.toArray_toList] at hc
  cases ha : i.agg with
  | true => simp [loadVar, run_ia hu, hagg, ha, run_so hq, hqs, hc]
  | false =>
    have := size_one hte ht ha
    have hlt : 0 < cs.size := by omega
    have hcell : w.cell? ⟨b, 0, none⟩ = some (cs.getD 0 undef) := by rw [cell_at hb]; simp [Array.getD, hlt]
    simp [loadVar, run_ia hu, hagg, ha, hcell]
theorem res_rep {h' : Hp} (hte : TEok P te) (rr : RR cx h e sl os a w) (hh : h.le h') (hs : Sees h' e w) : ∀ (rs : List ResultVar) (l : List AV), resOf te sl os rs = some l →
    ∃ vs : List Value, (rs.mapM (resG a.tmps)).run P w = .ok vs w ∧ vs.length = l.length ∧ ∀ (j : Nat) (x : AV), l[j]? = some x → VRep h' noE (vs.getD j undef) x
  | [], l, hl => by cases hl; exact ⟨[], by simp, rfl, by simp⟩
  | .tmp t :: r, l, hl => by
    simp only [resOf] at hl
    split at hl
    · rename_i l' hr
      cases hl
      obtain ⟨vs, h1, h2, h3⟩ := res_rep hte rr hh hs r l' hr
      refine ⟨a.tmps.getD t undef :: vs, by simp [List.mapM_cons, resG, h1], by simp [h2], fun j x hj => ?_⟩
      cases j with
      | zero => simp at hj; subst hj; exact dv_rep rr hh _ (fun _ => hs) _ (rr.slotv t)
      | succ j => simpa using h3 j x (by simpa using hj)
    · cases hl
  | .cell t ty :: r, l, hl => by
    simp only [resOf] at hl
    split at hl
    · rename_i n i l' hg ht hr
      split at hl
      · rename_i cs hgo
        split at hl
        · rename_i hsz
          cases hl
          obtain ⟨vs, h1, h2, h3⟩ := res_rep hte rr hh hs r l' hr
          have hv := rr.slots t _ hg
          generalize hq : a.tmps.getD t undef = v at hv
          cases hv with
          | ptr _ _ _ ent hent h1' b hb hvb =>
            obtain ⟨hg0, b', cur, tt, hb', hheap, hsz', hcs, hone⟩ := box_ent rr hgo hent
            rw [hb] at hb'
            cases hb'
            have hrun := run_loadVar_box (P := P) hte ht hheap (by omega)
            refine ⟨(if i.agg then .agg cur else cur.getD 0 undef) :: vs, by simp only [List.mapM_cons, resG, hq, hvb, asAddr, Sem.run_bind, Sem.run_pure, Result.andThen_ok, hrun, h1], by simp [h2], fun j x hj => ?_⟩
            cases j with
            | zero =>
              simp at hj
              subst hj
              refine dv_rep rr hh _ (fun _ => hs) _ ?_
              cases ha : i.agg with
              | true => simpa [ha] using VRep.ag cur cs hsz' hcs hone
              | false =>
                have := size_one hte ht ha
                have hlt : 0 < cs.length := by omega
                have := hcs 0 _ (List.getElem?_eq_getElem hlt)
                simpa [ha, List.getD, hlt] using this
            | succ j => simpa using h3 j x (by simpa using hj)
        · cases hl
      · cases hl
    · cases hl
/-- The slots at a function's begin. -/
def initS (i : Nat) : List AV → Sl
  | [] => []
  | x :: l => (i, x) :: initS (i + 1) l
theorem get_initS : ∀ (l : List AV) (i t : Nat) (x : AV), lget (initS i l) t = some x → i ≤ t ∧ l[t - i]? = some x
  | [], i, t, x, hg => by simp [initS, lget] at hg
  | y :: l, i, t, x, hg => by
    simp only [initS, lget] at hg
    split at hg
    · rename_i hit
      subst hit
      cases hg
      simp
    · rename_i hit
      obtain ⟨h1, h2⟩ := get_initS l (i + 1) t x hg
      refine ⟨by omega, ?_⟩
      rw [show t - i = (t - (i + 1)) + 1 by omega]
      simpa using h2
def retQ (te : TE) (rs : List ResultVar) (r : AV) : QF
  | .normal, sl, os | .ret, sl, os => ∃ l, resOf te sl os rs = some l ∧ resV l = r
  | _, _, _ => False
/-- A function's contract, out of what is owed of its code. -/
theorem fn_intro {f : Nat} {fn : Func} {c : Code} {pc : PC} (hte : TEok P te) (hf : P.funcs[f]? = some fn) (hb : fn.body = some c) (hn : (fn.name == "runtime.NumGoroutine") = false)
    (hc : cC te fn.ntmps c = some pc) (kp : List Nat) {args : List AV} {r : AV} (hl : args.length ≤ fn.ntmps) (hp : awp P kp pc (retQ te fn.results.toList r) (initS 0 args) []) : FnS P f args r := by
  refine ⟨⟨fn, hf, hn, by simp [hb]⟩, fun w h vs hgx hvis hsz hvs => calls_of_wp hf hb ?_⟩
  let cx : Cx := ⟨w, h, noE, (fun _ _ q => by cases q), hgx, hgx.lt hvis, fn.ntmps⟩
  refine awp_sound (cx := cx) hte kp c pc hc (retQ te fn.results.toList r) _ (fun e sl os a w' hq hr => ?_) (initS 0 args) [] _ w hp ?_
  · obtain ⟨h1, e1, rr⟩ := hr
    have key : (∃ l, resOf te sl os fn.results.toList = some l ∧ resV l = r) → a.defers = [] ∧ ∃ v, (results fn a.tmps).run P w' = .ok v w' ∧
        ∃ v' h', Ending.returned v = .returned v' ∧ VRep h' noE v' r ∧ h.le h' ∧ Vis h' w' ∧ (∀ b, b < w.heap.size → h' b = h b) ∧ Below w.heap.size w w' := by
      rintro ⟨l, hl, hrv⟩
      let h' : Hp := fun b => if b < w.heap.size then h1 b else w'.heap[b]?
      have hle1 : h1.le h' := by
        intro b o ho
        simp only [h']
        split
        · exact ho
        · exact rr.st.vis b o ho
      have hsees : Sees h' e1 w' := by
        intro n x b o hx hxb ho
        rcases rr.fr.own n x b hx hxb with hq | hq
        · obtain ⟨y, hy, _⟩ := hq; cases hy
        · simp only [h']; rw [if_neg (by simpa using hq)]; exact ho
      obtain ⟨vl, g1, g2, g3⟩ := res_rep (P := P) hte rr hle1 hsees _ _ hl
      have hmap : (fn.results.mapM (resG a.tmps)).run P w' = .ok vl.toArray w' := by
        rw [Array.mapM_eq_mapM_toList]
        simp [g1]
      have hres : (results fn a.tmps).run P w' = .ok (if h : vl.toArray.size = 1 then vl.toArray[0] else .tuple vl.toArray) w' := by
        have : results fn a.tmps = (do let vs ← fn.results.mapM (resG a.tmps); pure (if h : vs.size = 1 then vs[0] else .tuple vs)) := by
          unfold results
          congr 1
        rw [this]
        simp [hmap]
      refine ⟨rr.defers, _, hres, _, h', rfl, ?_, ?_, ?_, ?_, ?_⟩
      · subst hrv
        cases l with
        | nil =>
          have : vl = [] := List.eq_nil_of_length_eq_zero (by simpa using g2)
          subst this
          exact .tp _ _ rfl (by simp)
        | cons x l =>
          cases l with
          | nil =>
            obtain ⟨v, rfl⟩ : ∃ v, vl = [v] := by
              match vl, g2 with
              | [v], _ => exact ⟨v, rfl⟩
            have := g3 0 x (by simp)
            simpa [resV] using this
          | cons y l =>
            have hne : ¬ vl.toArray.size = 1 := by simp [g2]
            rw [dif_neg hne]
            exact .tp _ _ (by simpa using g2) (fun j z hj => by simpa [List.getD, Array.getD_eq_getD_getElem?] using g3 j z hj)
      · intro b o ho
        have hb' : b < w.heap.size := (Array.getElem?_eq_some_iff.1 (hvis b o ho)).1
        simp only [h']
        rw [if_pos hb', rr.fr.hold b hb']
        exact ho
      · intro b o ho
        simp only [h'] at ho
        split at ho
        · exact rr.st.vis b o ho
        · exact ho
      · intro b hb'
        simp only [h']
        rw [if_pos hb']
        exact rr.fr.hold b hb'
      · exact ⟨rr.fr.os, rr.fr.tape, rr.fr.output, rr.fr.size, fun k hk => rr.fr.old k hk (fun n y hy => by cases hy)⟩
    cases e with
    | normal => exact key hq
    | ret => exact key hq
    | exit i => exact hq.elim
    | goto l => exact hq.elim
    | panic ch => exact hq.elim
    | outgrown => exact hq.elim
  · refine ⟨h, noE, ⟨hvis, (fun n o hg => by simp [lget] at hg), (fun n x hx => by cases hx), (fun n m x y b _ hx => by cases hx), (fun n x b hx => by cases hx), (fun n o x hg => by simp [lget] at hg)⟩, ⟨rfl, rfl, rfl, Nat.le_refl _, fun _ _ _ => rfl, fun _ _ => rfl, (fun n x b hx => by cases hx), Env.le.refl _⟩, fun t x hg => ?_, ?_, rfl⟩
    · obtain ⟨_, h2⟩ := get_initS args 0 t x hg
      simp at h2
      have hlt : t < vs.size := by rw [hsz]; exact (List.getElem?_eq_some_iff.1 h2).1
      have := hvs t x h2
      simpa [Array.getD_eq_getD_getElem?, Array.getElem?_append, hlt] using this
    · simp only [Array.size_append, Array.size_replicate]
      show _ = fn.ntmps
      omega
end
end Mq
namespace Mq
open Go Go.RowKit
set_option linter.unusedSectionVars false
variable [Glob]
theorem CondK.mk {t : Bool} {kx ky : QF → Sl → Os → Prop} {Q : QF} {sl : Sl} {os : Os} (h1 : t = true → kx Q sl os) (h2 : t = false → ky Q sl os) : CondK t kx ky Q sl os := ⟨h1, h2⟩
theorem CallK.mk {P : Program} {f : Nat} {args argsn : List AV} {ow : Bool} {d : Nat} {c : Prop} {wr : AV → AV} {kr : (Sl → Os → Prop) → Sl → Os → Prop} {K : Sl → Os → Prop} {sl : Sl} {os : Os} {rv : AV}
    (hf : FnS P f args rv) (ho : okF P c f args ow rv) (hk : kr K (lput sl d (wr rv)) os) : CallK P f args argsn ow d c wr kr K sl os := ⟨rv, fun _ => .inl hf, ho, hk⟩
/-- A zero value's cells, told one by one. -/
def ZR : List Value → List AV → Prop
  | [], [] => True
  | v :: vs, x :: xs => (∀ h, VRep h noE v x) ∧ v.oneCell' = true ∧ ZR vs xs
  | _, _ => False
theorem ZR.all : ∀ {vs : List Value} {xs : List AV}, ZR vs xs → vs.length = xs.length ∧ (∀ (j : Nat) (x : AV), xs[j]? = some x → ∀ h, VRep h noE (vs.getD j undef) x) ∧ ∀ j, j < vs.length → (vs.getD j undef).oneCell' = true
  | [], [], _ => by simp
  | [], _ :: _, z => z.elim
  | _ :: _, [], z => z.elim
  | v :: vs, x :: xs, z => by
    obtain ⟨h1, h2, h3⟩ := ZR.all z.2.2
    refine ⟨by simp [h1], fun j y hj h => ?_, fun j hj => ?_⟩
    · cases j with
      | zero => simp at hj; subst hj; exact z.1 h
      | succ j => simpa using h2 j y (by simpa using hj) h
    · cases j with
      | zero => simpa using z.2.1
      | succ j => simpa using h3 j (by simpa using hj)
def eqB (P : Program) (t : Nat) (i : TI) : Bool := match i.eq with
  | none => true
  | some ks => decide (leafs P 8 t = some ks) && !P.eqGuardType P.depth t && i.agg
theorem mkTI {P : Program} {t : Nat} {i : TI} (q : TypeInfo) (hq : P.info? t = some q) (hs : q.size = i.size) (hb : q.bytes = i.bytes) (z : Value) (hz : q.zero = some z) (hzr : ZR z.cells.toList i.zero)
    (hl : i.zero.length = i.size) (ha : if i.agg then z = .agg z.cells else z.oneCell' = true) (d : TypeDesc) (hu : P.underlying t = some d) (hd : isAggD d = i.agg) (hk' : TK.fitsB d i.kind = true) (heq : eqB P t i = true) : TIok P t i := by
  have hk := TK.fits_of hk'
  obtain ⟨h1, h2, h3⟩ := hzr.all
  simp at h1
  refine ⟨⟨q, hq, hs, hb, z, hz, by omega, hl, fun j x hj h => ?_, fun j hj => ?_, ha⟩, ⟨d, hu, hd, hk⟩, fun ks hks => by simpa [eqB, hks, and_assoc] using heq⟩
  · simpa [List.getD, Array.getD_eq_getD_getElem?] using h2 j x hj h
  · have := h3 j (by simpa using hj)
    simpa [List.getD, Array.getD_eq_getD_getElem?] using this
def TEall (P : Program) : List (Nat × TI) → Prop
  | [] => True
  | x :: r => TIok P x.1 x.2 ∧ TEall P r
theorem TEall.ok {P : Program} : ∀ {l : List (Nat × TI)}, TEall P l → TEok P (lget l)
  | [], _, t, i, h => by simp [lget] at h
  | x :: r, hl, t, i, h => by
    obtain ⟨k, v⟩ := x
    simp only [lget] at h
    split at h
    · rename_i hk; cases h; subst hk; exact hl.1
    · exact TEall.ok hl.2 t i h
theorem fn_of {P : Program} {te : TE} {f : Nat} {fn : Func} {pc : PC} (hte : TEok P te) (hf : P.funcs[f]? = some fn) (hn : (fn.name == "runtime.NumGoroutine") = false)
    (hc : fn.body.bind (cC te fn.ntmps) = some pc) (kp : List Nat) (rs : List ResultVar) (hrs : fn.results.toList = rs) {args : List AV} {r : AV} (hl : args.length ≤ fn.ntmps) (hp : awp P kp pc (retQ te rs r) (initS 0 args) []) : FnS P f args r := by
  subst hrs
  cases hb : fn.body with
  | none => simp [hb] at hc
  | some c => exact fn_intro hte hf hb hn (by simpa [hb] using hc) kp hl hp
end Mq
