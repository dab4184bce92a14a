/- Contracts of functions that hand over, or hand back, what is owned. Part of a verified reader of code, common to this project's claims. -/
import Derived.Test.YtgkkaimcchlnaaaGreatDoorMqLoop
set_option linter.unusedVariables false
set_option linter.unusedSimpArgs false
namespace Mq
open Go Go.RowKit
set_option linter.unusedSectionVars false
variable [Glob]

/-! Contracts of functions that are handed, or hand back, what is owned. -/
/-- How a function's results are told, as they are. -/
def resR (te : TE) (sl : Sl) (os : Os) : List ResultVar → Option (List AV)
  | [] => some []
  | .tmp t :: r => match resR te sl os r with
    | some l => some (((lget sl t).getD .un) :: l)
    | none => none
  | .cell t ty :: r => match lget sl t, te ty, resR te sl os r with
    | some (.ptr n 0), some i, some l => match lget os n with
      | some (.box cs) => if cs.length = i.size then some ((if i.agg then .ag cs else cs.getD 0 .un) :: l) else none
      | _ => none
    | _, _, _ => none
def retC (r : AV) (os os' : Os) : Bool := (nm r).all (hasK os') && keepH os' os && closedO os' os'
/-- What is owed at a function's end: its results, and what is owned behind it. -/
def retG (te : TE) (rs : List ResultVar) (r : AV) (os' : Os) : QF
  | .normal, sl, os | .ret, sl, os => ∃ sl1 os1, Wk sl os sl1 os1 ∧ (∃ l, resR te sl1 os1 rs = some l ∧ resV l = r) ∧ retC r os1 os' = true ∧ subO os1 os'
  | _, _, _ => False
theorem retG_nrm {te : TE} {rs : List ResultVar} {r : AV} {sl : Sl} {os os' : Os} (hc : retC r os os' = true) (h1 : ∃ l, resR te sl os rs = some l ∧ resV l = r) (h2 : subO os os') : retG te rs r os' .normal sl os := ⟨_, _, Wk.refl _ _, h1, hc, h2⟩
theorem retG_ret {te : TE} {rs : List ResultVar} {r : AV} {sl : Sl} {os os' : Os} (hc : retC r os os' = true) (h1 : ∃ l, resR te sl os rs = some l ∧ resV l = r) (h2 : subO os os') : retG te rs r os' .ret sl os := ⟨_, _, Wk.refl _ _, h1, hc, h2⟩
section
variable {P : Program} {te : TE} {cx : Cx} {h : Hp} {e : Env} {sl : Sl} {os : Os} {a : Act} {w : World}
theorem resR_rep (hte : TEok P te) (rr : RR cx h e sl os a w) : ∀ (rs : List ResultVar) (l : List AV), resR te sl os rs = some l →
    ∃ vs : List Value, (rs.mapM (resG a.tmps)).run P w = .ok vs w ∧ vs.length = l.length ∧ ∀ (j : Nat) (x : AV), l[j]? = some x → VRep h e (vs.getD j undef) x
  | [], l, hl => by cases hl; exact ⟨[], by simp, rfl, by simp⟩
  | .tmp t :: r, l, hl => by
    simp only [resR] at hl
    split at hl
    · rename_i l' hr
      cases hl
      obtain ⟨vs, h1, h2, h3⟩ := resR_rep hte rr r l' hr
      refine ⟨a.tmps.getD t undef :: vs, by simp [List.mapM_cons, resG, h1], by simp [h2], fun j x hj => ?_⟩
      cases j with
      | zero => simp at hj; subst hj; exact rr.slotv t
      | succ j => simpa using h3 j x (by simpa using hj)
    · cases hl
  | .cell t ty :: r, l, hl => by
    simp only [resR] at hl
    split at hl
    · rename_i n i l' hg ht hr
      split at hl
      · rename_i cs hgo
        split at hl
        · rename_i hsz
          cases hl
          obtain ⟨vs, h1, h2, h3⟩ := resR_rep hte rr r l' hr
          have hv := rr.slots t _ hg
          generalize hq : a.tmps.getD t undef = v at hv
          cases hv with
          | ptr _ _ _ ent hent h1' b hb hvb =>
            obtain ⟨hg0, b', cur, tt, hb', hheap, hsz', hcs, hone⟩ := box_ent rr hgo hent
            rw [hb] at hb'
            cases hb'
            have hrun := run_loadVar_box (P := P) hte ht hheap (by omega)
            refine ⟨(if i.agg then .agg cur else cur.getD 0 undef) :: vs, by simp only [List.mapM_cons, resG, hq, hvb, asAddr, Sem.run_bind, Sem.run_pure, Result.andThen_ok, hrun, h1], by simp [h2], fun j x hj => ?_⟩
            cases j with
            | zero =>
              simp at hj
              subst hj
              cases ha : i.agg with
              | true => simpa [ha] using VRep.ag cur cs hsz' hcs hone
              | false =>
                have := size_one hte ht ha
                have hlt : 0 < cs.length := by omega
                have := hcs 0 _ (List.getElem?_eq_getElem hlt)
                simpa [ha, List.getD, hlt] using this
            | succ j => simpa using h3 j x (by simpa using hj)
        · cases hl
      · cases hl
    · cases hl
theorem fnG_intro {f : Nat} {fn : Func} {c : Code} {pc : PC} (hte : TEok P te) (hf : P.funcs[f]? = some fn) (hb : fn.body = some c) (hn : (fn.name == "runtime.NumGoroutine") = false)
    (hc : cC te fn.ntmps c = some pc) (kp : List Nat) {args : List AV} {os0 os' : Os} {r : AV} (hl : args.length ≤ fn.ntmps) (hp : awp P kp pc (retG te fn.results.toList r os') (initS 0 args) os0) : FnG P f args os0 r os' := by
  refine ⟨⟨fn, hf, hn, by simp [hb]⟩, fun w h e0 vs hgx hst hge hsz hvs => calls_of_wp hf hb ?_⟩
  let cx : Cx := ⟨w, h, e0, hge, hgx, hgx.lt hst.vis, fn.ntmps⟩
  refine awp_sound (cx := cx) hte kp c pc hc (retG te fn.results.toList r os') _ (fun e sl os a w' hq hr => ?_) (initS 0 args) os0 _ w hp ?_
  · have key : (∃ sl1 os1, Wk sl os sl1 os1 ∧ (∃ l, resR te sl1 os1 fn.results.toList = some l ∧ resV l = r) ∧ retC r os1 os' = true ∧ subO os1 os') → a.defers = [] ∧ ∃ v, (results fn a.tmps).run P w' = .ok v w' ∧
        ∃ v' h' e', Ending.returned v = .returned v' ∧ VRep h' e' v' r ∧ h.le h' ∧ e0.le e' ∧ St h' e' os' w' ∧ w'.os = w.os ∧ w'.tape = w.tape ∧ w'.output = w.output ∧ w.heap.size ≤ w'.heap.size ∧
          (∀ b, b < w.heap.size → (∀ n y, e0 n = some y → ¬ y.has b) → w'.heap[b]? = w.heap[b]?) ∧ (∀ b, b < w.heap.size → h' b = h b) ∧
          ∀ n x b, e' n = some x → x.has b → (∃ y, e0 n = some y ∧ y.has b) ∨ w.heap.size ≤ b := by
      rintro ⟨sl1, os1, hw, ⟨l, hl, hrv⟩, hrc, hsub⟩
      obtain ⟨h1, e1, rr⟩ := hw cx a w' hr
      simp only [retC, Bool.and_eq_true, List.all_eq_true] at hrc
      obtain ⟨⟨r1, r2⟩, r3⟩ := hrc
      obtain ⟨vl, g1, g2, g3⟩ := resR_rep (P := P) hte rr _ _ hl
      have hmap : (fn.results.mapM (resG a.tmps)).run P w' = .ok vl.toArray w' := by
        rw [Array.mapM_eq_mapM_toList]
        simp [g1]
      have hres : (results fn a.tmps).run P w' = .ok (if h : vl.toArray.size = 1 then vl.toArray[0] else .tuple vl.toArray) w' := by
        have : results fn a.tmps = (do let vs ← fn.results.mapM (resG a.tmps); pure (if h : vs.size = 1 then vs[0] else .tuple vs)) := by
          unfold results
          congr 1
        rw [this]
        simp [hmap]
      have hE : ∀ n, hasK os' n = true → (fun n => if hasK os' n then e1 n else none) n = e1 n := fun n hn => by simp [hn]
      refine ⟨rr.defers, _, hres, _, h1, fun n => if hasK os' n then e1 n else none, rfl, ?_, fun b o ho => ?_, fun n y hy => ?_, ⟨rr.st.vis, fun n o ho => ?_, fun n x hx => ?_, fun n m x y b hne hx hy => ?_, fun n x b hx => ?_, fun n o x ho hx hp => ?_⟩, rr.fr.os, rr.fr.tape, rr.fr.output, rr.fr.size, rr.fr.old, rr.fr.hold, fun n x b hx => ?_⟩
      · refine VRep.restrict (e := e1) ?_ (fun n hn => hE n (r1 n hn))
        subst hrv
        cases l with
        | nil =>
          have : vl = [] := List.eq_nil_of_length_eq_zero (by simpa using g2)
          subst this
          exact .tp _ _ rfl (by simp)
        | cons x l =>
          cases l with
          | nil =>
            obtain ⟨v, rfl⟩ : ∃ v, vl = [v] := by
              match vl, g2 with
              | [v], _ => exact ⟨v, rfl⟩
            have := g3 0 x (by simp)
            simpa [resV] using this
          | cons y l =>
            have hne : ¬ vl.toArray.size = 1 := by simp [g2]
            rw [dif_neg hne]
            exact .tp _ _ (by simpa using g2) (fun j z hj => by simpa [List.getD, Array.getD_eq_getD_getElem?] using g3 j z hj)
      · have hb' : b < w.heap.size := (Array.getElem?_eq_some_iff.1 (hst.vis b o ho)).1
        rw [rr.fr.hold b hb']
        exact ho
      · obtain ⟨y', hy', hle⟩ := rr.fr.keep n y hy
        obtain ⟨o, ho⟩ := rr.st.dom n y' hy'
        exact ⟨y', by rw [hE n (keepH_get r2 n o ho (hge n y hy))]; exact hy', hle⟩
      · obtain ⟨x, hx, hr⟩ := rr.st.obj n o (subO_get hsub n o ho)
        refine ⟨x, by simp only [hasK, ho, Option.isSome_some, if_true]; exact hx, ?_⟩
        cases o with
        | box l =>
          obtain ⟨h0, b, cs, t, hv, hc, hs, hr, ho1⟩ := hr
          refine ⟨h0, b, cs, t, hv, hc, hs, fun j y hj => (hr j y hj).restrict (fun n' hn' => hE n' ?_), ho1⟩
          exact closedO_get r3 n _ ho n' (by simp only [nmO, mem_nmL]; exact ⟨y, List.mem_of_getElem? hj, hn'⟩)
        | row t s g l => exact hr
        | map l => exact hr
        | pol t t2 s g l ov =>
          exact PolRep.own hr (fun i a ha v hv => hv.restrict (fun n' hn' => hE n' (closedO_get r3 n _ ho n' (by simp only [nmO, ha]; exact hn'))))
        | rov t g l i a =>
          obtain ⟨hi, v, h1, hv, hr⟩ := hr
          exact ⟨hi, v, h1, hv.restrict (fun n' hn' => hE n' (closedO_get r3 n _ ho n' (by simpa only [nmO] using hn'))), hr⟩
      · split at hx
        · rename_i c
          simp only [hasK, Option.isSome_iff_exists] at c
          exact c
        · cases hx
      · split at hx
        · split at hy
          · exact rr.st.sep n m x y b hne hx hy
          · cases hy
        · cases hx
      · split at hx
        · exact rr.st.excl n x b hx
        · cases hx
      · split at hx
        · exact rr.st.lone n o x (subO_get hsub n o ho) hx hp
        · cases hx
      · simp only at hx
        split at hx
        · exact rr.fr.own n x b hx
        · cases hx
    cases e with
    | normal => exact key hq
    | ret => exact key hq
    | exit i => exact hq.elim
    | goto l => exact hq.elim
    | panic ch => exact hq.elim
    | outgrown => exact hq.elim
  · refine ⟨h, e0, hst, ⟨rfl, rfl, rfl, Nat.le_refl _, fun _ _ _ => rfl, fun _ _ => rfl, fun n x b hx hb => .inl ⟨x, hx, hb⟩, Env.le.refl _⟩, fun t x hg => ?_, ?_, rfl⟩
    · obtain ⟨_, h2⟩ := get_initS args 0 t x hg
      simp at h2
      have hlt : t < vs.size := by rw [hsz]; exact (List.getElem?_eq_some_iff.1 h2).1
      have := hvs t x h2
      simpa [Array.getD_eq_getD_getElem?, Array.getElem?_append, hlt] using this
    · simp only [Array.size_append, Array.size_replicate]
      show _ = fn.ntmps
      omega
end
theorem fnG_of {P : Program} {te : TE} {f : Nat} {fn : Func} {pc : PC} (hte : TEok P te) (hf : P.funcs[f]? = some fn) (hn : (fn.name == "runtime.NumGoroutine") = false)
    (hc : fn.body.bind (cC te fn.ntmps) = some pc) (kp : List Nat) (rs : List ResultVar) (hrs : fn.results.toList = rs) {args : List AV} {os0 os' : Os} {r : AV} (hl : args.length ≤ fn.ntmps) (hp : awp P kp pc (retG te rs r os') (initS 0 args) os0) : FnG P f args os0 r os' := by
  subst hrs
  cases hb : fn.body with
  | none => simp [hb] at hc
  | some c => exact fnG_intro hte hf hb hn (by simpa [hb] using hc) kp hl hp
theorem flatRow_map {α : Type} (f : α → List D) (hf : ∀ a, ∀ d ∈ f a, ∃ x, d = .v x) (l : List α) : flatRow (l.map f) := by
  intro es he d hd
  obtain ⟨a, _, rfl⟩ := List.mem_map.1 he
  exact hf a d hd
end Mq
namespace Mq
open Go Go.RowKit
set_option linter.unusedSectionVars false
variable [Glob]
theorem runS_nil {P : Program} {l : List PG} {K : Sl → Os → Prop} {sl : Sl} {os : Os} : runS P l [] K sl os = runG P l K sl os := rfl
theorem runS_gc {P : Program} {l : List PG} {n : Nat} {H : List Nat} {τ σ : List (Nat × Nat)} {r : List (Nat × Sc)} {K : Sl → Os → Prop} {sl : Sl} {os : Os} : runS P l ((n, .gc H τ σ) :: r) K sl os = runG P (l.take n) (gcK P (l.drop n) H τ σ (runS P (l.drop (n + 1)) r K)) sl os := rfl
/-- A call that hands back what is owned. -/
theorem gc_of {P : Program} {d f : Nat} {xs : List X} {r : List PG} {H : List Nat} {τ σ : List (Nat × Nat)} {K : Sl → Os → Prop} {sl : Sl} {os : Os} {rv : AV} {osF : Os} {args : List AV} {os0 : Os}
    (hf : FnG P f args os0 rv osF) (hs : sides (lget sl) xs) (h1 : (gOk1 os H τ && gMix (lget sl) H xs) = true) (ha : gArgs (lget sl) (lget os) H τ xs = args) (ho : gOs os τ H = os0) (h2 : gOk2 os H τ σ rv osF = true)
    (hfl : gRo (lget sl) H xs = false ∨ flatN rv = true ∧ flatO osF) (hk : K (lput sl d (ren (sg σ) rv)) (gBack σ os osF)) : gcK P (.uc d f xs :: r) H τ σ K sl os :=
  ⟨hs, h1, rv, osF, by rw [ha, ho]; exact hf, h2, hfl, hk⟩
end Mq
