/- A loop over a map's keys, whose order is drawn: what its rounds come to, each told. Part of a verified reader of code, common to this project's claims. -/
import Derived.Test.YtgkkaimcchlnaaaGreatDoorMqOwn
import Derived.Laws.IdiomRangeMap
import Derived.Maps.RangeRun
set_option linter.unusedVariables false
set_option linter.unusedSimpArgs false

namespace Mq
open Go Go.RowKit Go.ChangeMaps
set_option linter.unusedSectionVars false


variable [Glob]
section
variable {P : Program} {te : TE}
theorem wpl_value {ops : Array Oper} {Q : Exit → Act → World → Prop} {rest : List Oper} {o : Oper} {a : Act} {w w' : World} {v : Value} (hg : o.guard = none) (hrun : (execOp a.eval o).run P w = .ok (.value v) w')
    (hk : wpList P ops Q rest (a.put o.dst v) w') : wpList P ops Q (o :: rest) a w := by
  have hw : Region.wanted o (yielded ops a.tmps) = true := by simp [Region.wanted, hg]
  simp only [wpList, hw, if_true]
  refine .inl ?_
  unfold Oper.wp
  rw [hrun]
  exact hk
theorem put_tmp (a : Act) (d : Nat) (v : Value) (t : Nat) (hd : d < a.tmps.size) : (a.put (some d) v).tmps.getD t undef = if t = d then v else a.tmps.getD t undef := by
  by_cases h : t = d
  · subst h; simp [Act.put, Array.getD, hd]
  · simp only [if_neg h]
    simp [Act.put, Array.getD_eq_getD_getElem?, Array.getElem?_setIfInBounds, Ne.symm h]
theorem put_size (a : Act) (d : Option Nat) (v : Value) : (a.put d v).tmps.size = a.tmps.size := by cases d <;> simp [Act.put]
theorem RR.put_other {cx : Cx} {h : Hp} {e : Env} {sl : Sl} {os : Os} {a : Act} {w : World} (rr : RR cx h e sl os a w) {d : Nat} (hd : d < cx.nt) (hn : lget sl d = none) (v : Value) : RR cx h e sl os (a.put (some d) v) w := by
  refine ⟨rr.st, rr.fr, fun t y hy => ?_, by rw [put_size]; exact rr.size, rr.defers⟩
  rw [put_tmp a d v t (by rw [rr.size]; exact hd)]
  by_cases h : t = d
  · subst h; rw [hn] at hy; cases hy
  · rw [if_neg h]; exact rr.slots t y hy
theorem RR.more {cx : Cx} {h : Hp} {e : Env} {sl : Sl} {a : Act} {w w' : World} (rr : RR cx h e sl [] a w) (h1 : w'.os = w.os) (h2 : w'.tape = w.tape) (h3 : w'.output = w.output) (h4 : w.heap.size ≤ w'.heap.size)
    (h5 : ∀ b, b < cx.w0.heap.size ∨ (h b).isSome = true → w'.heap[b]? = w.heap[b]?) : RR cx h e sl [] a w' := by
  refine ⟨⟨fun b o hb => ?_, fun n o ho => by simp [lget] at ho, rr.st.dom, rr.st.sep, rr.st.excl, fun n o x ho => by simp [lget] at ho⟩, ⟨h1.trans rr.fr.os, h2.trans rr.fr.tape, h3.trans rr.fr.output, Nat.le_trans rr.fr.size h4, fun b hb hx => ?_, rr.fr.hold, rr.fr.own, rr.fr.keep⟩, rr.slots, rr.size, rr.defers⟩
  · rw [h5 b (.inr (by rw [hb]; rfl))]; exact rr.st.vis b o hb
  · rw [h5 b (.inl hb)]; exact rr.fr.old b hb hx
/-- No variable of the call's own. -/
theorem St.none {h : Hp} {e : Env} {w : World} (s : St h e [] w) (n : Nat) : e n = .none := by
  cases he : e n with
  | none => rfl
  | some x => obtain ⟨o, ho⟩ := s.dom n x he; simp [lget] at ho
/-- A walk within a walk: from here on, with all that is here as it is. -/
theorem gs_lt {cx : Cx} {h : Hp} {e : Env} {sl : Sl} {os : Os} {a : Act} {w : World} (rr : RR cx h e sl os a w) : ∀ x ∈ Glob.l, x.1 < w.heap.size := fun x hx => Nat.lt_of_lt_of_le (cx.gs x hx) rr.fr.size
def RR.here {cx : Cx} {h : Hp} {e : Env} {sl : Sl} {a : Act} {w : World} (rr : RR cx h e sl [] a w) : Cx := ⟨w, h, fun _ => .none, fun _ _ q => (by cases q), rr.gx, gs_lt rr, cx.nt⟩
theorem RR.start {cx : Cx} {h : Hp} {e : Env} {sl : Sl} {a : Act} {w : World} (rr : RR cx h e sl [] a w) {a' : Act} {sl' : Sl} (hsl : ∀ t x, lget sl' t = some x → VRep h e (a'.tmps.getD t undef) x) (hsz : a'.tmps.size = cx.nt) (hd : a'.defers = []) : RR rr.here h e sl' [] a' w :=
  ⟨rr.st, ⟨rfl, rfl, rfl, Nat.le_refl _, fun _ _ _ => rfl, fun _ _ => rfl, fun n x b hx => (by rw [rr.st.none n] at hx; cases hx), fun n y hy => (by cases hy)⟩, hsl, hsz, hd⟩
theorem RR.back {cx : Cx} {h : Hp} {e : Env} {sl : Sl} {a : Act} {w : World} (rr : RR cx h e sl [] a w) {h' : Hp} {e' : Env} {sl' : Sl} {os' : Os} {a' : Act} {w' : World} (r : RR rr.here h' e' sl' os' a' w') : RR cx h' e' sl' os' a' w' := by
  have ho : ∀ b, b < w.heap.size → w'.heap[b]? = w.heap[b]? := fun b hb => r.fr.old b hb (fun n y hy => by cases hy)
  refine ⟨r.st, ⟨r.fr.os.trans rr.fr.os, r.fr.tape.trans rr.fr.tape, r.fr.output.trans rr.fr.output, Nat.le_trans rr.fr.size r.fr.size, fun b hb hx => ?_, fun b hb => ?_, fun n x b hx hb => ?_, fun n y hy => ?_⟩, r.slots, r.size, r.defers⟩
  · rw [ho b (Nat.lt_of_lt_of_le hb rr.fr.size)]; exact rr.fr.old b hb hx
  · rw [r.fr.hold b (Nat.lt_of_lt_of_le hb rr.fr.size)]; exact rr.fr.hold b hb
  · rcases r.fr.own n x b hx hb with ⟨y, hy, _⟩ | q
    · cases hy
    · exact .inr (Nat.le_trans rr.fr.size q)
  · obtain ⟨y', hy', _⟩ := rr.fr.keep n y hy
    rw [rr.st.none n] at hy'; cases hy'
def keyA (ka : Bool) (k : List Value) : AV := if ka then .ag (k.map fun v => .d (.v v)) else .d (.v (k.headD undef))
theorem keyA_rep {h : Hp} {e : Env} {ka : Bool} {k : List Value} (h1 : ∀ v ∈ k, v.oneCell' = true) (h2 : ka = false → k.length = 1) : VRep h e (asV ka k) (keyA ka k) := by
  cases ka with
  | true =>
    simp only [asV, keyA, if_true]
    refine .ag _ _ (by simp) (fun j a hj => ?_) (fun j hj => ?_)
    · simp only [List.getElem?_map, Option.map_eq_some_iff] at hj
      obtain ⟨v, hv, rfl⟩ := hj
      rw [show (k.toArray.getD j undef) = v by simp [Array.getD_eq_getD_getElem?, hv]]
      exact .d _ _ (.v _ (h1 v (List.mem_of_getElem? hv)))
    · have hj : j < k.length := by simpa using hj
      rw [show (k.toArray.getD j undef) = k[j] by simp [Array.getD_eq_getD_getElem?, hj]]
      exact h1 _ (List.getElem_mem hj)
  | false =>
    have := h2 rfl
    match k, this, h1 with
    | [v], _, h1 => exact .d _ _ (.v _ (h1 v (by simp)))
/-- What a round behind its step owes. -/
def rngQ (kp : List Nat) (Q : QF) (G : Prop) (sl : Sl) : QF
  | .normal, sl', os' => G ∧ Wk sl' os' sl []
  | .ret, sl', os' => Q .ret sl' os'
  | _, _, _ => False
theorem rngQ_nrm {kp : List Nat} {Q : QF} {G : Prop} {sl sl' : Sl} {os' : Os} (h1 : G) (h2 : Wk sl' os' sl []) : rngQ kp Q G sl .normal sl' os' := ⟨h1, h2⟩
theorem rngQ_ret {kp : List Nat} {Q : QF} {G : Prop} {sl sl' : Sl} {os' : Os} (h : Q .ret sl' os') : rngQ kp Q G sl .ret sl' os' := h
structure RngOps (O3 O4 O5 : Array Oper) (rest5 : List Oper) (m it n tn en kx : Nat) (mt : TypeId) : Prop where
  o3 : ∃ o1 o2, O3.toList = [o1, o2] ∧ (o1.dst, o1.op, o1.guard) = (some m, .move (.tmp 0), none) ∧ (o2.dst, o2.op, o2.guard) = (some it, .range mt (.tmp m), none)
  o4 : ∃ o1 o2, O4.toList = [o1, o2] ∧ (o1.dst, o1.op, o1.guard) = (some n, .next (.tmp it) false, none) ∧ (o2.dst, o2.op, o2.guard) = (some tn, .extract (.tmp n) 0, none)
  o5 : ∃ o1 o2, O5.toList = o1 :: o2 :: rest5 ∧ (o1.dst, o1.op, o1.guard) = (some en, .entry (.tmp it), none) ∧ (o2.dst, o2.op, o2.guard) = (some kx, .extract (.tmp en) 0, none)
def seenAt (w : World) (r : Nat) : Array Nat := match w.heap[r]? with
  | some (.mapIter _ _ s _) => s
  | _ => #[]
theorem trip {α β γ : Type} {a a' : α} {b b' : β} {c c' : γ} (h : (a, b, c) = (a', b', c')) : a = a' ∧ b = b' ∧ c = c' := by
  simpa using h
theorem awp_range (hte : TEok P te) {kp : List Nat} {Q : QF} {sl : Sl} {nt : Nat} {c : Code} {i3 i4 i5 b0 b1 : Nat} {O3 O4 O5 : Array Oper} {rest5 : List Oper} {C : Code} {m it n tn en kx : Nat} {mt kt et : TypeId} {pl : List PG} {pc : PC} {ka ea : Bool} {l : List (List Value × List D)}
    (G : List Value × List D → Prop)
    (hc : c = .seq (.region i3 O3 false) (.block b0 (.loop (.seq (.region i4 O4 false) (.seq (.cond (.tmp tn) .skip (.exit b0)) (.block b1 (.seq (.region i5 O5 false) C)))))))
    (ops : RngOps O3 O4 O5 rest5 m it n tn en kx mt) (hpl : cGs te nt O5 rest5 = some pl) (hpc : cC te nt C = some pc) (hmt : P.underlying mt = some (.map kt et))
    (h0 : lget sl 0 = some (.d (.mp ka ea l))) (hfr : ∀ t ∈ [m, it, n, tn, en, kx], t < nt ∧ lget sl t = none) (hnd : [it, n, tn, en, kx].Nodup)
    (hk1 : ∀ p ∈ l, ∀ v ∈ p.1, v.oneCell' = true)
    (hbody : ∀ p ∈ l, ∀ v : Value, v.oneCell' = true → runG P pl (fun sl' os' => awp P kp pc (rngQ kp Q (G p) (lput sl it (.d (.v v)))) sl' os') (lput (lput sl it (.d (.v v))) kx (keyA ka p.1)) [])
    (hdone : (∀ p ∈ l, G p) → Q .normal sl []) : awp P kp (.raw nt c) Q sl [] := by
  intro cx a w hnt hR
  subst hnt
  subst hc
  obtain ⟨h, e, rr⟩ := hR
  obtain ⟨x1, x2, e3, q1, q2⟩ := ops.o3
  obtain ⟨y1, y2, e4, p1, p2⟩ := ops.o4
  obtain ⟨z1, z2, e5, u1, u2⟩ := ops.o5
  obtain ⟨q1a, q1b, q1c⟩ := trip q1
  obtain ⟨q2a, q2b, q2c⟩ := trip q2
  obtain ⟨p1a, p1b, p1c⟩ := trip p1
  obtain ⟨p2a, p2b, p2c⟩ := trip p2
  obtain ⟨u1a, u1b, u1c⟩ := trip u1
  obtain ⟨u2a, u2b, u2c⟩ := trip u2
  have fm := hfr m (by simp)
  have fi := hfr it (by simp)
  have fn := hfr n (by simp)
  have ft := hfr tn (by simp)
  have fe := hfr en (by simp)
  have fk := hfr kx (by simp)
  simp only [List.nodup_cons, List.mem_cons, List.not_mem_nil, or_false, not_or, List.nodup_nil, and_true, not_false_eq_true] at hnd
  obtain ⟨⟨d1, d2, d3, d4⟩, ⟨d5, d6, d7⟩, ⟨d8, d9⟩, d10⟩ := hnd
  have hv := rr.slots 0 _ h0
  refine wp_seq (wp_region_list ?_)
  rw [e3]
  have ev : ∀ (a : Act) (t : Nat), a.eval (.tmp t) = a.tmps.getD t undef := fun _ _ => rfl
  refine wpl_value q1c (v := a.tmps.getD 0 undef) (w' := w) (by simp [execOp, q1b, ev]) ?_
  rw [q1a]
  have r1 := rr.put_other fm.1 fm.2 (a.tmps.getD 0 undef)
  have hm1 : (a.put (some m) (a.tmps.getD 0 undef)).tmps.getD m undef = a.tmps.getD 0 undef := by rw [put_tmp _ _ _ _ (by rw [rr.size]; exact fm.1), if_pos rfl]
  generalize a.tmps.getD 0 undef = v0 at hv r1 hm1 ⊢
  generalize a.put (some m) v0 = a1 at r1 hm1 ⊢
  have hlt : ∀ b o, h b = some o → b < w.heap.size := fun b o hb => (Array.getElem?_eq_some_iff.1 (rr.st.vis b o hb)).1
  cases hv with
  | d _ _ hrep => cases hrep with
    | mpn =>
      have hrun := run_range_nilMap (P := P) w mt kt et hmt
      refine wpl_value q2c (v := .pointer (some ⟨w.heap.size, 0, none⟩)) (w' := w.alloc (.mapIter none 0 #[] 0)) (by simp [execOp, q2b, ev, hm1, hrun]) ?_
      rw [q2a]
      refine wpList_nil ?_
      have r2 := (r1.put_other fi.1 fi.2 (.pointer (some ⟨w.heap.size, 0, none⟩))).more (w' := w.alloc (.mapIter none 0 #[] 0)) rfl rfl rfl (by simp) (fun b hb => heap_alloc_old _ _ (by
        rcases hb with hb | hb
        · exact Nat.lt_of_lt_of_le hb rr.fr.size
        · obtain ⟨o, ho⟩ := Option.isSome_iff_exists.1 hb; exact hlt b o ho))
      have hi2 : (a1.put (some it) (.pointer (some ⟨w.heap.size, 0, none⟩))).tmps.getD it undef = .pointer (some ⟨w.heap.size, 0, none⟩) := by rw [put_tmp _ _ _ _ (by rw [r1.size]; exact fi.1), if_pos rfl]
      generalize a1.put (some it) (.pointer (some ⟨w.heap.size, 0, none⟩)) = a2 at r2 hi2 ⊢
      refine wp_block (wp_loop (fun a' w' => a' = a2 ∧ w' = w.alloc (.mapIter none 0 #[] 0)) (fun _ _ => 0) ⟨rfl, rfl⟩ ?_)
      intro a' w' hI
      rw [hI.1, hI.2]
      refine wp_seq (wp_region_list ?_)
      rw [e4]
      have hnx := run_next_nilMap (P := P) w y1.type 0 0 #[]
      refine wpl_value p1c (v := .tuple #[.bool false]) (w' := w.alloc (.mapIter none 0 #[] 0)) (by simp [execOp, p1b, ev, hi2, hnx]) ?_
      rw [p1a]
      have hn3 : (a2.put (some n) (.tuple #[.bool false])).tmps.getD n undef = .tuple #[.bool false] := by rw [put_tmp _ _ _ _ (by rw [r2.size]; exact fn.1), if_pos rfl]
      have r3 := r2.put_other fn.1 fn.2 (.tuple #[.bool false])
      generalize a2.put (some n) (.tuple #[.bool false]) = a3 at r3 hn3 ⊢
      refine wpl_value p2c (v := .bool false) (w' := w.alloc (.mapIter none 0 #[] 0)) (by simp [execOp, p2b, ev, hn3, Instr.extract]) ?_
      rw [p2a]
      refine wpList_nil ?_
      have r4 := r3.put_other ft.1 ft.2 (.bool false)
      have ht4 : (a3.put (some tn) (.bool false)).tmps.getD tn undef = .bool false := by rw [put_tmp _ _ _ _ (by rw [r3.size]; exact ft.1), if_pos rfl]
      generalize a3.put (some tn) (.bool false) = a4 at r4 ht4 ⊢
      refine wp_seq (wp_cond_false ht4 (wp_exit ?_))
      show (if b0 = b0 then _ else _)
      rw [if_pos rfl]
      exact ⟨sl, [], hdone (fun p hp => by simp at hp), ⟨_, _, r4⟩⟩
    | mp _ _ _ b es clock f hb hl hst hk hr =>
      have hbm := rr.st.vis _ _ hb
      have hrun := run_range_map (P := P) w mt kt et b es clock hmt hbm
      refine wpl_value q2c (v := .pointer (some ⟨w.heap.size, 0, none⟩)) (w' := w.alloc (.mapIter (some b) clock #[] clock)) (by simp [execOp, q2b, ev, hm1, hrun]) ?_
      rw [q2a]
      refine wpList_nil ?_
      have r2 := (r1.put_other fi.1 fi.2 (.pointer (some ⟨w.heap.size, 0, none⟩))).more (w' := w.alloc (.mapIter (some b) clock #[] clock)) rfl rfl rfl (by simp) (fun b hb => heap_alloc_old _ _ (by
        rcases hb with hb | hb
        · exact Nat.lt_of_lt_of_le hb rr.fr.size
        · obtain ⟨o, ho⟩ := Option.isSome_iff_exists.1 hb; exact hlt b o ho))
      have hi2 : (a1.put (some it) (.pointer (some ⟨w.heap.size, 0, none⟩))).tmps.getD it undef = .pointer (some ⟨w.heap.size, 0, none⟩) := by rw [put_tmp _ _ _ _ (by rw [r1.size]; exact fi.1), if_pos rfl]
      have hr2 : (w.alloc (.mapIter (some b) clock #[] clock)).heap[w.heap.size]? = some (.mapIter (some b) clock #[] clock) := heap_alloc_new _ _
      have hs2 : w.heap.size < (w.alloc (.mapIter (some b) clock #[] clock)).heap.size := by simp
      have hnr : h w.heap.size = none := by
        cases hh : h w.heap.size with
        | none => rfl
        | some o => exact absurd (hlt _ _ hh) (Nat.lt_irrefl _)
      have hrge := rr.fr.size
      generalize w.alloc (.mapIter (some b) clock #[] clock) = w2 at r2 hr2 hs2 ⊢
      generalize a1.put (some it) (.pointer (some ⟨w.heap.size, 0, none⟩)) = a2 at r2 hi2 ⊢
      generalize w.heap.size = r at hi2 hr2 hs2 hnr hrge r2 ⊢
      have hmem : ∀ x ∈ es.toList, x.born < clock := hst.1
      refine wp_block (wp_loop (fun a' w' => ∃ h e, RR cx h e sl [] a' w' ∧ h b = some (.map es clock) ∧ h r = none ∧ r < w'.heap.size ∧ a'.tmps.getD it undef = .pointer (some ⟨r, 0, none⟩) ∧
          ∃ seen, w'.heap[r]? = some (.mapIter (some b) clock seen clock) ∧ ∀ (i : Nat) (en : MapEntry) (p : List Value × List D), es[i]? = some en → l[i]? = some p → seen.contains en.born = true → G p)
        (fun _ w' => (leftOf es (seenAt w' r)).size) ⟨h, e, r2, hb, hnr, hs2, hi2, #[], hr2, fun i en p _ _ q => by simp at q⟩ ?_)
      clear hb rr r1 r2 hr2 hs2 hnr hi2 hbm
      rintro a' w' ⟨h, e, rr, hb, hnr, hs, hi, seen, hrs, hG⟩
      have hbm := rr.st.vis _ _ hb
      have hseen : seenAt w' r = seen := by unfold seenAt; rw [hrs]
      refine wp_seq (wp_region_list ?_)
      rw [e4]
      rcases run_next_at (P := P) w' y1.type r b clock clock seen es clock hrs hbm hmem (Nat.le_refl _) with ⟨hz, hnx⟩ | ⟨en', hen, w1, hw1, hnx⟩
      · refine wpl_value p1c (v := .tuple #[.bool false]) (w' := w') (by simp [execOp, p1b, ev, hi, hnx]) ?_
        rw [p1a]
        have hn3 : (a'.put (some n) (.tuple #[.bool false])).tmps.getD n undef = .tuple #[.bool false] := by rw [put_tmp _ _ _ _ (by rw [rr.size]; exact fn.1), if_pos rfl]
        have r3 := rr.put_other fn.1 fn.2 (.tuple #[.bool false])
        generalize a'.put (some n) (.tuple #[.bool false]) = a3 at r3 hn3 ⊢
        refine wpl_value p2c (v := .bool false) (w' := w') (by simp [execOp, p2b, ev, hn3, Instr.extract]) ?_
        rw [p2a]
        refine wpList_nil ?_
        have r4 := r3.put_other ft.1 ft.2 (.bool false)
        have ht4 : (a3.put (some tn) (.bool false)).tmps.getD tn undef = .bool false := by rw [put_tmp _ _ _ _ (by rw [r3.size]; exact ft.1), if_pos rfl]
        generalize a3.put (some tn) (.bool false) = a4 at r4 ht4 ⊢
        refine wp_seq (wp_cond_false ht4 (wp_exit ?_))
        show (if b0 = b0 then _ else _)
        rw [if_pos rfl]
        refine ⟨sl, [], hdone (fun p hp => ?_), ⟨_, _, r4⟩⟩
        obtain ⟨i, hi⟩ := List.mem_iff_getElem?.1 hp
        have hil : i < l.length := (List.getElem?_eq_some_iff.1 hi).1
        have hie : es[i]? = some es[i] := Array.getElem?_eq_getElem (by omega)
        exact hG i _ p hie hi (all_seen es seen hz es[i] (by simp))
      · let w3 : World := setBlock w1 r (.mapIter (some b) clock (seen.push en'.born) clock)
        have hnx' : (Instr.next (.pointer (some ⟨r, 0, none⟩)) false y1.type).run P w' = .ok (.tuple #[.bool true, en'.key, en'.val]) w3 := hnx
        have w1h : w1.heap = w'.heap ∧ w1.os = w'.os ∧ w1.tape = w'.tape ∧ w1.output = w'.output := by rcases hw1 with rfl | rfl <;> exact ⟨rfl, rfl, rfl, rfl⟩
        have w3o : w3.os = w'.os ∧ w3.tape = w'.tape ∧ w3.output = w'.output := ⟨w1h.2.1, w1h.2.2.1, w1h.2.2.2⟩
        have w3s : w3.heap.size = w'.heap.size := by simp [w3, setBlock, w1h.1]
        have w3r : w3.heap[r]? = some (.mapIter (some b) clock (seen.push en'.born) clock) := by simp [w3, setBlock, w1h.1, hs]
        have w3b : ∀ c, c ≠ r → w3.heap[c]? = w'.heap[c]? := fun c hc => by simp [w3, setBlock, w1h.1, Array.getElem?_setIfInBounds, Ne.symm hc]
        generalize w3 = w3 at hnx' w3o w3s w3r w3b
        refine wpl_value p1c (v := .tuple #[.bool true, en'.key, en'.val]) (w' := w3) (by simp [execOp, p1b, ev, hi, hnx']) ?_
        rw [p1a]
        have hn3 : (a'.put (some n) (.tuple #[.bool true, en'.key, en'.val])).tmps.getD n undef = .tuple #[.bool true, en'.key, en'.val] := by rw [put_tmp _ _ _ _ (by rw [rr.size]; exact fn.1), if_pos rfl]
        have hi3 : (a'.put (some n) (.tuple #[.bool true, en'.key, en'.val])).tmps.getD it undef = .pointer (some ⟨r, 0, none⟩) := by rw [put_tmp _ _ _ _ (by rw [rr.size]; exact fn.1), if_neg d1, hi]
        have r3 := (rr.put_other fn.1 fn.2 (.tuple #[.bool true, en'.key, en'.val])).more (w' := w3) w3o.1 w3o.2.1 w3o.2.2 (by rw [w3s]; exact Nat.le_refl _) (fun c hc => w3b c (by
          rintro rfl
          rcases hc with hc | hc
          · exact absurd hrge (by omega)
          · rw [hnr] at hc; cases hc))
        generalize a'.put (some n) (.tuple #[.bool true, en'.key, en'.val]) = a3 at r3 hn3 hi3 ⊢
        refine wpl_value p2c (v := .bool true) (w' := w3) (by simp [execOp, p2b, ev, hn3, Instr.extract]) ?_
        rw [p2a]
        refine wpList_nil ?_
        have r4 := r3.put_other ft.1 ft.2 (.bool true)
        have ht4 : (a3.put (some tn) (.bool true)).tmps.getD tn undef = .bool true := by rw [put_tmp _ _ _ _ (by rw [r3.size]; exact ft.1), if_pos rfl]
        have hi4 : (a3.put (some tn) (.bool true)).tmps.getD it undef = .pointer (some ⟨r, 0, none⟩) := by rw [put_tmp _ _ _ _ (by rw [r3.size]; exact ft.1), if_neg d2, hi3]
        generalize a3.put (some tn) (.bool true) = a4 at r4 ht4 hi4 ⊢
        refine wp_seq (wp_cond_true ht4 (wp_skip ?_))
        refine wp_block (wp_seq (wp_region_list ?_))
        rw [e5]
        have hbm3 := r4.st.vis _ _ hb
        have hen' := mem_left hen
        have hent := run_entry_at (P := P) w3 r b clock seen es clock en' w3r hbm3 hen'.1 hst.2
        refine wpl_value u1c (v := .tuple #[en'.key, en'.val]) (w' := w3) (by simp [execOp, u1b, ev, hi4, hent]) ?_
        rw [u1a]
        have hn5 : (a4.put (some en) (.tuple #[en'.key, en'.val])).tmps.getD en undef = .tuple #[en'.key, en'.val] := by rw [put_tmp _ _ _ _ (by rw [r4.size]; exact fe.1), if_pos rfl]
        have hi5 : (a4.put (some en) (.tuple #[en'.key, en'.val])).tmps.getD it undef = .pointer (some ⟨r, 0, none⟩) := by rw [put_tmp _ _ _ _ (by rw [r4.size]; exact fe.1), if_neg d3, hi4]
        have r5 := r4.put_other fe.1 fe.2 (.tuple #[en'.key, en'.val])
        generalize a4.put (some en) (.tuple #[en'.key, en'.val]) = a5 at r5 hn5 hi5 ⊢
        refine wpl_value u2c (v := en'.key) (w' := w3) (by simp [execOp, u2b, ev, hn5, Instr.extract]) ?_
        rw [u2a]
        obtain ⟨i, hie⟩ := List.mem_iff_getElem?.1 hen'.1
        have hie : es[i]? = some en' := by simpa using hie
        have hil : i < l.length := by have := (Array.getElem?_eq_some_iff.1 hie).1; omega
        obtain ⟨p, hip⟩ : ∃ p, l[i]? = some p := ⟨_, List.getElem?_eq_getElem hil⟩
        have hp := List.mem_of_getElem? hip
        have hkey := hk i en' p hie hip
        have hn6 : (a5.put (some kx) en'.key).tmps.getD kx undef = en'.key := by rw [put_tmp _ _ _ _ (by rw [r5.size]; exact fk.1), if_pos rfl]
        have hi6 : (a5.put (some kx) en'.key).tmps.getD it undef = .pointer (some ⟨r, 0, none⟩) := by rw [put_tmp _ _ _ _ (by rw [r5.size]; exact fk.1), if_neg d4, hi5]
        have r6 := r5.put_other fk.1 fk.2 en'.key
        generalize a5.put (some kx) en'.key = a6 at r6 hn6 hi6 ⊢
        have hsub : RR r6.here h e (lput (lput sl it (.d (.v (.pointer (some ⟨r, 0, none⟩))))) kx (keyA ka p.1)) [] a6 w3 := r6.start (fun t x hx => by
          rw [get_put] at hx
          by_cases hxk : t = kx
          · rw [if_pos hxk] at hx
            cases hx
            rw [hxk, hn6, hkey.1]
            exact keyA_rep (hk1 p hp) hkey.2.1
          · rw [if_neg hxk, get_put] at hx
            by_cases hxi : t = it
            · rw [if_pos hxi] at hx
              cases hx
              rw [hxi, hi6]
              exact .d _ _ (.v _ rfl)
            · rw [if_neg hxi] at hx
              exact r6.slots t x hx) r6.size r6.defers
        refine region_sound (cx := r6.here) hte O5 (K := fun sl' os' => awp P kp pc (rngQ kp Q (G p) (lput sl it (.d (.v (.pointer (some ⟨r, 0, none⟩)))))) sl' os') (fun sl' os' a w hk' hr' => awp_sound (cx := r6.here) hte kp C pc hpc (rngQ kp Q (G p) (lput sl it (.d (.v (.pointer (some ⟨r, 0, none⟩)))))) _ (fun ex sl' os' a w hq hr' => ?_) sl' os' a w hk' hr') rest5 pl hpl _ _ _ _ (hbody p hp _ rfl) ⟨h, e, hsub⟩
        cases ex with
        | normal =>
          obtain ⟨hGp, hwk⟩ := hq
          obtain ⟨h', e', r'⟩ := hwk _ _ _ hr'
          have rb := r6.back r'
          have hlt3 : r < w3.heap.size := by rw [w3s]; exact hs
          have hblt : b < w3.heap.size := (Array.getElem?_eq_some_iff.1 hbm3).1
          have hitv : a.tmps.getD it undef = .pointer (some ⟨r, 0, none⟩) := by
            have := rb.slots it (.d (.v (.pointer (some ⟨r, 0, none⟩)))) (by rw [get_put, if_pos rfl])
            generalize a.tmps.getD it undef = vv at this ⊢
            cases this with
            | d _ _ q => cases q; rfl
          have hwr : w.heap[r]? = some (.mapIter (some b) clock (seen.push en'.born) clock) := by rw [r'.fr.old r hlt3 (fun n y hy => by cases hy)]; exact w3r
          refine ⟨⟨h', e', ⟨rb.st, rb.fr, fun t x hx => rb.slots t x (by rw [get_put, if_neg (by rintro rfl; rw [fi.2] at hx; cases hx)]; exact hx), rb.size, rb.defers⟩, ?_, ?_, ?_, hitv, seen.push en'.born, hwr, fun i2 en2 p2 h1 h2 h3 => ?_⟩, ?_⟩
          · rw [r'.fr.hold b hblt]; exact hb
          · rw [r'.fr.hold r hlt3]; exact hnr
          · exact Nat.lt_of_lt_of_le hlt3 r'.fr.size
          · rw [contains_push] at h3
            rcases Bool.or_eq_true _ _ ▸ h3 with h3 | h3
            · exact hG i2 en2 p2 h1 h2 h3
            · have hb2 : en2 = en' := born_inj hst.2 (by simpa using Array.mem_of_getElem? h1) hen'.1 (beq_iff_eq.1 h3)
              subst hb2
              have hii : i2 = i := by
                have hnd := hst.2
                have a1 : (es.toList.map (·.born))[i2]? = some en2.born := by simp [h1]
                have a2 : (es.toList.map (·.born))[i]? = some en2.born := by simp [hie]
                exact (List.getElem?_inj (by have := (Array.getElem?_eq_some_iff.1 h1).1; simpa using this) hnd).1 (a1.trans a2.symm)
              subst hii
              rw [hip] at h2
              cases h2
              exact hGp
          · show (leftOf es (seenAt w r)).size < (leftOf es (seenAt w' r)).size
            rw [hseen, show seenAt w r = seen.push en'.born by unfold seenAt; rw [hwr]]
            exact left_shrinks es seen en' hen
        | ret =>
          obtain ⟨h', e', r'⟩ := hr'
          exact ⟨sl', os', hq, h', e', r6.back r'⟩
        | exit i => exact hq.elim
        | goto i => exact hq.elim
        | panic i => exact hq.elim
        | outgrown => exact hq.elim
end
end Mq
