/- Each operation comes to what is told. Part of a verified reader of code, common to this project's claims. -/
import Derived.Test.YtgkkaimcchlnaaaGreatDoorMqStep
import Derived.Maps.AppendAt
import Derived.Laws.Cells
import Derived.ChangeKeysEq
import Derived.MapKept
import Derived.Laws.Cover3
set_option linter.unusedVariables false
set_option linter.unusedSimpArgs false
namespace Mq
open Go Go.RowKit
set_option linter.unusedSectionVars false
variable [Glob]
theorem run_ti {P : Program} {w : World} {t : TypeId} {q : TypeInfo} (hq : P.info? t = some q) : (typeInfo t).run P w = .ok q w := by simp [typeInfo, hq]
theorem run_so {P : Program} {w : World} {t : TypeId} {q : TypeInfo} (hq : P.info? t = some q) : (Go.sizeOf t).run P w = .ok q.size w := by simp [Go.sizeOf, typeInfo, hq]
theorem run_ia {P : Program} {w : World} {t : TypeId} {d : TypeDesc} (hd : P.underlying t = some d) : (isAgg t).run P w = .ok (isAggD d) w := by
  simp only [isAgg, Sem.run_bind, run_underlying hd, Result.andThen_ok]
  cases d <;> rfl
theorem cX_rep {te : TE} {t : Nat} {x : Operand} {y : X} (hx : cX te t x = some y) {cx : Cx} {h : Hp} {e : Env} {sl : Sl} {os : Os} {a : Act} {w : World} (rr : RR cx h e sl os a w) :
    VRep h e (a.eval x) (evX (lget sl) y) := by
  unfold cX at hx
  split at hx
  · rename_i n
    cases hx
    simp only [Act.eval, evX]
    cases hg : lget sl n with
    | none => exact .un _
    | some z => exact rr.slots n z hg
  · split at hx
    · rename_i e' _ _
      cases hi : te e' with
      | none => simp [hi] at hx
      | some i =>
        simp only [hi, Option.map_some, Option.some.injEq] at hx
        subst hx
        exact .nl _
    · cases hx
  · split at hx
    · rename_i h1
      cases hx
      exact .d _ _ (.v _ h1)
    · cases hx
  · cases hx
    exact .clo _ #[] [] rfl (by simp)
  · cases hx
theorem strip_rep {h : Hp} {e : Env} {v : Value} : ∀ (a : AV), VRep h e v a → (strip a).1 → VRep h e v (strip a).2
  | .gd l a, r, hs => by
    simp only [strip] at hs ⊢
    cases r with
    | gd _ _ _ hr _ => exact strip_rep a (hr hs.1) hs.2
  | .d _, r, _ => r
  | .own .., r, _ => r
  | .ptr .., r, _ => r
  | .rptr .., r, _ => r
  | .mp _, r, _ => r
  | .ag _, r, _ => r
  | .tp _, r, _ => r
  | .clo .., r, _ => r
  | .nl _, r, _ => r
  | .un, r, _ => r
theorem evs_rep {te : TE} {t : Nat} {x : Operand} {y : X} (hx : cX te t x = some y) {cx : Cx} {h : Hp} {e : Env} {sl : Sl} {os : Os} {a : Act} {w : World} (rr : RR cx h e sl os a w)
    {p : Prop} {z : AV} (he : evs (lget sl) y = (p, z)) (hp : p) : VRep h e (a.eval x) z := by
  have h1 := cX_rep hx rr
  have h2 := strip_rep _ h1
  simp only [evs] at he
  rw [he] at h2
  exact h2 hp
def updO (os : Os) : Option (Nat × AO) → Os
  | none => os
  | some (n, o) => lput os n o
def Does (P : Program) (o : Oper) (cx : Cx) (h : Hp) (_e : Env) (sl : Sl) (os : Os) (a : Act) (w : World) (r : Res) : Prop :=
  ∃ nx v w' e', (execOp a.eval o).run P w = .ok nx w' ∧ (nx = .value v ∨ (nx = .skip ∧ v = undef)) ∧ RR cx h e' sl (updO os r.upd) a w' ∧ VRep h e' v r.val
section
variable {P : Program} {te : TE} {o : Oper} {cx : Cx} {h : Hp} {e : Env} {sl : Sl} {os : Os} {a : Act} {w : World} {r : Res}
theorem Does.pure (rr : RR cx h e sl os a w) {v : Value} (hr : (execOp a.eval o).run P w = .ok (.value v) w) {av : AV} {p : Prop} (hv : VRep h e v av) :
    Does P o cx h e sl os a w ⟨av, none, p⟩ := ⟨_, v, w, e, hr, .inl rfl, rr, hv⟩
theorem okR_inv {v : AV} {p : Prop} (hr : okR v p = some r) : r = ⟨v, none, p⟩ := by simpa [okR] using hr.symm
theorem does_move {x : Operand} {y : X} {d t : Nat} (ho : o.op = .move x ∨ o.op = .assign x) (hx : cX te t x = some y) (rr : RR cx h e sl os a w)
    (hr : stp (lget sl) (lget os) (.mv d y) = some r) : Does P o cx h e sl os a w r := by
  rw [okR_inv hr]
  refine .pure rr (v := a.eval x) ?_ (cX_rep hx rr)
  rcases ho with ho | ho <;> simp [execOp, ho]
theorem cell_at {b : Nat} {cs : Array Value} {t : TypeId} {fr : Nat × Nat} (hb : w.heap[b]? = some (.cells cs t fr)) (i : Nat) : w.cell? ⟨b, i, none⟩ = cs[i]? := by
  simp [World.cell?, hb]
theorem add_none (b i n : Nat) : (⟨b, i, none⟩ : Addr).add n = ⟨b, i + n, none⟩ := by
  unfold Addr.add; split <;> simp_all
theorem row_entS (st : St h e os w) {n t s g : Nat} {l : List (List D)} (hg : lget os n = some (.row t s g l)) {x : Ent} (hx : e n = some x) :
    x.gen = g ∧ 0 < s ∧ ∃ xs, w.ownsRow 0 t s x.val l.length xs ∧ (∀ (i : Nat) (es : List D), l[i]? = some es → es.length = s) ∧
      ∀ (i : Nat) (es : List D) (j : Nat) (d : D), l[i]? = some es → es[j]? = some d → Rep h (xs.getD (i * s + j) undef) d := by
  obtain ⟨y, hy, hr⟩ := st.obj n _ hg
  rw [hx] at hy
  cases hy
  exact hr
theorem row_ent (rr : RR cx h e sl os a w) {n t s g : Nat} {l : List (List D)} (hg : lget os n = some (.row t s g l)) {x : Ent} (hx : e n = some x) :
    x.gen = g ∧ 0 < s ∧ ∃ xs, w.ownsRow 0 t s x.val l.length xs ∧ (∀ (i : Nat) (es : List D), l[i]? = some es → es.length = s) ∧
      ∀ (i : Nat) (es : List D) (j : Nat) (d : D), l[i]? = some es → es[j]? = some d → Rep h (xs.getD (i * s + j) undef) d := row_entS rr.st hg hx
theorem rov_ent (rr : RR cx h e sl os a w) {n t g i : Nat} {l : List (List D)} {b : AV} (hg : lget os n = some (.rov t g l i b)) {x : Ent} (hx : e n = some x) :
    i < l.length ∧ ∃ v, v.oneCell' = true ∧ VRep h e v b ∧ RwRep h w x t 1 g (l.set i [.v v]) := by
  obtain ⟨y, hy, hr⟩ := rr.st.obj n _ hg
  rw [hx] at hy
  cases hy
  exact hr
theorem pol_ent (rr : RR cx h e sl os a w) {n t t2 s g : Nat} {l : List (List (List D))} {ov : Option (Nat × AV)} (hg : lget os n = some (.pol t t2 s g l ov)) {x : Ent} (hx : e n = some x) : PolRep h e w x t t2 s g l ov := by
  obtain ⟨y, hy, hr⟩ := rr.st.obj n _ hg
  rw [hx] at hy
  cases hy
  exact hr
theorem box_ent (rr : RR cx h e sl os a w) {n : Nat} {l : List AV} (hg : lget os n = some (.box l)) {x : Ent} (hx : e n = some x) :
    x.gen = 0 ∧ ∃ b cs t, x.val = .pointer (some ⟨b, 0, none⟩) ∧ w.heap[b]? = some (.cells cs t (0, 0)) ∧ cs.size = l.length ∧
      (∀ (j : Nat) (a : AV), l[j]? = some a → VRep h e (cs.getD j undef) a) ∧ ∀ j, j < cs.size → (cs.getD j undef).oneCell' = true := by
  obtain ⟨y, hy, hr⟩ := rr.st.obj n _ hg
  rw [hx] at hy
  cases hy
  exact hr
/-- A field's address. -/
theorem does_fa {x : Operand} {y : X} {d s f off ft : Nat} {fs : List (Nat × Nat)} {i : TI} {a1 a2 : Nat} {a3 : Bool} {a4 : List AV} {a5 : Option (List LK)} (hte : TEok P te)
    (ho : o.op = .fieldAddr s x f) (hs : te s = some ⟨a1, a2, a3, a4, .st fs, a5⟩) (hf : fs[f]? = some (off, ft)) (hi : te ft = some i) (hz : i.size ≠ 0)
    (hx : cX te 0 x = some y) (rr : RR cx h e sl os a w) (hr : stp (lget sl) (lget os) (.fa d off y) = some r) (hside : r.side) : Does P o cx h e sl os a w r := by
  obtain ⟨dd, hu, _, hk⟩ := (hte s _ hs).und
  cases dd with
  | struct fields =>
    simp only [TK.fits] at hk
    have hf' : ∃ g, fields[f]? = some g ∧ g.offset = off ∧ g.type = ft := by
      rw [← hk] at hf
      simp only [List.getElem?_map, Array.getElem?_toList] at hf
      cases hg : fields[f]? with
      | none => simp [hg] at hf
      | some g => simp [hg] at hf; exact ⟨g, rfl, hf.1, hf.2⟩
    obtain ⟨g, hg, rfl, rfl⟩ := hf'
    obtain ⟨q, hq, hqs, _⟩ := (hte _ _ hi).info
    have run : ∀ (b off : Nat), a.eval x = .pointer (some ⟨b, off, none⟩) → (execOp a.eval o).run P w = .ok (.value (.pointer (some ⟨b, off + g.offset, none⟩))) w := by
      intro b off hev
      have hne : ¬ q.size = 0 := by omega
      simp [execOp, ho, hev, Instr.fieldAt, run_underlying hu, hg, Instr.sureAddr, fieldPlace, run_so hq, hne, add_none]
    simp only [stp] at hr
    split at hr
    · rename_i p n o' hev
      rw [okR_inv hr] at hside ⊢
      have hv := evs_rep hx rr hev hside
      generalize hq : a.eval x = v at hv
      cases hv with
      | ptr _ _ _ ent hent h1 b hb hvb => exact .pure rr (run b o' (hq.trans hvb)) (.ptr _ _ _ ent hent rfl b hb rfl)
    · rename_i p n g' s' i' o' hev
      split at hr
      · rename_i t1 s1 g1 l1 hgo
        rw [okR_inv hr] at hside ⊢
        obtain ⟨hp, hgen⟩ := hside
        have hv := evs_rep hx rr hev hp
        generalize hq : a.eval x = v at hv
        cases hv with
        | rptr _ _ _ _ _ _ ent hent h1 hg1 hvb =>
          obtain ⟨b, len, cap, hb, hvb⟩ := hvb (by rw [(row_ent rr hgo hent).1, hgen])
          exact .pure rr (run b _ (hq.trans hvb)) (.rptr _ _ _ _ _ _ ent hent rfl hg1 (fun _ => ⟨b, len, cap, hb, by rw [Nat.add_assoc]⟩))
      · cases hr
    · rename_i p l o' hev
      rw [okR_inv hr] at hside ⊢
      have hv := evs_rep hx rr hev hside
      generalize hq : a.eval x = v at hv
      cases hv with
      | d _ _ hv =>
        cases hv with
        | cp _ _ b o1 cs t fr hb hf hrr =>
          refine .pure rr (run b (o1 + o') hq) (.d _ _ ?_)
          rw [Nat.add_assoc]
          exact .cp l (o' + g.offset) b o1 cs t fr hb hf hrr
    · cases hr
  | _ => simp [TK.fits] at hk
/-- An element's address. -/
theorem does_ia {x i : Operand} {y z : X} {d t el : Nat} {q : TI} {a1 a2 : Nat} {a3 : Bool} {a4 : List AV} {a5 : Option (List LK)} (hte : TEok P te)
    (ho : o.op = .indexAddr t x i) (ht : te t = some ⟨a1, a2, a3, a4, .sl el, a5⟩) (hq : te el = some q)
    (hx : cX te t x = some y) (hi : cX te 0 i = some z) (rr : RR cx h e sl os a w) (hr : stp (lget sl) (lget os) (.ia d q.size y z) = some r) (hside : r.side) : Does P o cx h e sl os a w r := by
  obtain ⟨dd, hu, _, hk⟩ := (hte t _ ht).und
  cases dd with
  | slice e' =>
    simp only [TK.fits] at hk
    subst hk
    obtain ⟨qi, hqi, hqs, _⟩ := (hte _ _ hq).info
    have run : ∀ (b off len cap : Nat) (k : IntKind) (j : Int), a.eval x = .slice (some ⟨b, off, none⟩) len cap → a.eval i = .int k j → 0 ≤ j → j < len →
        (execOp a.eval o).run P w = .ok (.value (.pointer (some ⟨b, off + j.toNat * q.size, none⟩))) w := by
      intro b off len cap k j hev hei h0 h1
      simp [execOp, ho, hev, hei, Instr.indexAt, asIntOf, run_underlying hu, h0, h1, run_so hqi, hqs, add_none]
    simp only [stp] at hr
    split at hr
    · rename_i p s' l qq k j hev hei
      rw [okR_inv hr] at hside ⊢
      obtain ⟨hp, hq', rfl, h0, h1⟩ := hside
      have hv := evs_rep hx rr hev hp
      have hi' := evs_rep hi rr hei hq'
      generalize hqv : a.eval x = v at hv
      generalize hqi' : a.eval i = vi at hi'
      cases hi' with
      | d _ _ hi' =>
        cases hi' with
        | v _ _ =>
          cases hv with
          | d _ _ hv =>
            cases hv with
            | nil s c ad => simp at h1; omega
            | sl _ _ b off cap cs tt fr hb hf hs hrr =>
              refine .pure rr (run b off l.length cap k j hqv hqi' h0 h1) (.d _ _ ?_)
              have hlt : j.toNat < l.length := by omega
              have hge : l[j.toNat]? = some l[j.toNat] := List.getElem?_eq_getElem hlt
              have hgd : l.getD j.toNat [] = l[j.toNat] := by simp [List.getD, hge]
              rw [hgd]
              have hlen := hs _ _ hge
              have := Rep.cp (h := h) l[j.toNat] 0 b (off + j.toNat * q.size) cs tt fr hb (by
                rw [hlen]
                have : (j.toNat + 1) * q.size ≤ l.length * q.size := Nat.mul_le_mul_right _ hlt
                rw [Nat.add_mul] at this
                omega) (fun jj dd hj => hrr _ _ _ _ hge hj)
              simpa using this
    · rename_i p n g qq k j hev hei
      split at hr
      · rename_i t1 s1 g1 l hgo
        rw [okR_inv hr] at hside ⊢
        obtain ⟨hp, hq', hgen, rfl, h0, h1⟩ := hside
        have hv := evs_rep hx rr hev hp
        have hi' := evs_rep hi rr hei hq'
        generalize hqv : a.eval x = v at hv
        generalize hqi' : a.eval i = vi at hi'
        cases hi' with
        | d _ _ hi' =>
          cases hi' with
          | v _ _ =>
            cases hv with
            | own _ _ _ ent hent h1' hg1 hvb =>
              obtain ⟨hge, hs0, xs, hown, _⟩ := row_ent rr hgo hent
              have hval := hvb (by rw [hge, hgen])
              rcases hown.2 with ⟨hn, hl0⟩ | ⟨b, cap, cur, hsv, _⟩
              · omega
              · rw [hsv] at hval
                refine .pure rr (run b 0 l.length cap k j (hqv.trans hval) hqi' h0 h1) (.rptr _ _ _ _ _ _ ent hent rfl hg1 (fun _ => ⟨b, _, cap, hsv, by simp⟩))
      · rename_i t1 g1 l i1 b1 hgo
        rw [okR_inv hr] at hside ⊢
        obtain ⟨hp, hq', hgen, hs1, h0, h1⟩ := hside
        have hv := evs_rep hx rr hev hp
        have hi' := evs_rep hi rr hei hq'
        generalize hqv : a.eval x = v at hv
        generalize hqi' : a.eval i = vi at hi'
        cases hi' with
        | d _ _ hi' =>
          cases hi' with
          | v _ _ =>
            cases hv with
            | own _ _ _ ent hent h1' hg1 hvb =>
              obtain ⟨_, _, _, _, hge, hs0, xs, hown, _⟩ := rov_ent rr hgo hent
              have hval := hvb (by rw [hge, hgen])
              rw [List.length_set] at hown
              rcases hown.2 with ⟨hn, hl0⟩ | ⟨b, cap, cur, hsv, _⟩
              · omega
              · rw [hsv] at hval
                refine .pure rr (run b 0 l.length cap k j (hqv.trans hval) hqi' h0 h1) (.rptr _ _ _ _ _ _ ent hent rfl hg1 (fun _ => ⟨b, _, cap, hsv, by simp⟩))
      · rename_i t1 t2 s2 g1 l ov1 hgo
        rw [okR_inv hr] at hside ⊢
        obtain ⟨hp, hq', hgen, hs1, h0, h1⟩ := hside
        have hv := evs_rep hx rr hev hp
        have hi' := evs_rep hi rr hei hq'
        generalize hqv : a.eval x = v at hv
        generalize hqi' : a.eval i = vi at hi'
        cases hi' with
        | d _ _ hi' =>
          cases hi' with
          | v _ _ =>
            cases hv with
            | own _ _ _ ent hent h1' hg1 hvb =>
              obtain ⟨_, vs, hvl, _, ⟨hge, hs0, xs, hown, _⟩, _⟩ := pol_ent rr hgo hent
              have hval := hvb (by rw [hge, hgen])
              rw [List.length_map, hvl] at hown
              rcases hown.2 with ⟨hn, hl0⟩ | ⟨b, cap, cur, hsv, _⟩
              · omega
              · rw [hsv] at hval
                refine .pure rr (run b 0 l.length cap k j (hqv.trans hval) hqi' h0 h1) (.rptr _ _ _ _ _ _ ent hent rfl hg1 (fun _ => ⟨b, _, cap, hsv, by simp⟩))
      · cases hr
    · cases hr
  | _ => simp [TK.fits] at hk
theorem list_take_getD {α : Type} (l : List α) (off n j : Nat) (d : α) (hj : j < n) : ((l.drop off).take n).getD j d = l.getD (off + j) d := by
  simp [List.getD, hj, List.getElem?_drop]
/-- Cells that are read. -/
theorem run_load_cells {ty : TypeId} {x : Operand} (ho : o.op = .load ty x) {q : TypeInfo} {size : Nat} {agg : Bool} (hq : P.info? ty = some q) (hqs : q.size = size) {dd : TypeDesc} (hu : P.underlying ty = some dd) (hagg : isAggD dd = agg)
    {b off : Nat} {cs : Array Value} {t : TypeId} {fr : Nat × Nat} (hb : w.heap[b]? = some (.cells cs t fr)) (hev : a.eval x = .pointer (some ⟨b, off, none⟩)) (hf : off + size ≤ cs.size) (h1 : agg = false → 0 < size) :
    (execOp a.eval o).run P w = .ok (.value (if agg then .agg ((cs.toList.drop off).take size).toArray else cs.getD off undef)) w := by
  have hl : ((cs.toList.drop off).take size).length = size := by simp; omega
  have hc := run_loadCells_list (P := P) w ⟨b, off, none⟩ ((cs.toList.drop off).take size) (fun j v hj => by
    have hjs : j < size := by
      have := (List.getElem?_eq_some_iff.1 hj).1
      omega
    rw [add_none, cell_at hb]
    simp [hjs] at hj
    simpa using hj)
  rw [hl] at hc
  subst hqs
  cases agg with
  | true => simp [execOp, ho, hev, Instr.loadAt, Instr.sureAddr, loadVar, run_ia hu, hagg, run_so hq, hc]
  | false =>
    have h0 := h1 rfl
    have hlt : off < cs.size := by omega
    have : w.cell? ⟨b, off, none⟩ = some (cs.getD off undef) := by rw [cell_at hb]; simp [Array.getD, hlt]
    simp [execOp, ho, hev, Instr.loadAt, Instr.sureAddr, loadVar, run_ia hu, hagg, this]
theorem size_one {t : Nat} {i : TI} (hte : TEok P te) (ht : te t = some i) (ha : i.agg = false) : i.size = 1 := by
  obtain ⟨q, hq, hqs, hqb, z, hz, hzs, hzl, hzr, hz1, hza⟩ := (hte t _ ht).info
  rw [ha] at hza
  simp at hza
  rw [← hzs]
  cases z <;> simp_all [Value.cells, Value.oneCell']
theorem toArr (l : List Value) (j : Nat) : l.toArray.getD j undef = l.getD j undef := by simp [List.getD, Array.getD_eq_getD_getElem?]
theorem RwRep.cells {h : Hp} {w : World} {x : Ent} {t s g : Nat} {l : List (List D)} (r : RwRep h w x t s g l) (hl : 0 < l.length) :
    ∃ b cap cur, x.val = .slice (some ⟨b, 0, none⟩) l.length cap ∧ w.heap[b]? = some (.cells cur t (0, 0)) ∧ l.length ≤ cap ∧ cap ≤ maxLen ∧ cur.size = cap * s ∧
      ∀ (i : Nat) (es : List D) (j : Nat) (d : D), l[i]? = some es → es[j]? = some d → Rep h (cur.getD (i * s + j) undef) d := by
  obtain ⟨hge, hs0, xs, hown, hls, hrr⟩ := r
  rcases hown.2 with ⟨hn, hl0⟩ | ⟨b', cap', cur, hsv', hb0, hheap, hlc, hcm, hcs, htake⟩
  · omega
  · refine ⟨b', cap', cur, hsv', hheap, hlc, hcm, hcs, fun i es j d hi hj => ?_⟩
    have := hrr i es j d hi hj
    have hil : i < l.length := (List.getElem?_eq_some_iff.1 hi).1
    have hjl : j < s := by rw [← hls _ _ hi]; exact (List.getElem?_eq_some_iff.1 hj).1
    have hmul2 : (i + 1) * s ≤ l.length * s := Nat.mul_le_mul_right _ hil
    rw [Nat.add_mul, Nat.one_mul] at hmul2
    rw [← htake] at this
    simpa [List.getD, Array.getD_eq_getD_getElem?, show i * s + j < l.length * s by omega] using this
theorem Rep.raw {h : Hp} {u v : Value} (r : Rep h u (.v v)) : u = v := by cases r with | v _ _ => rfl
/-- The cell that is told apart. -/
theorem RwRep.rawcell {h : Hp} {w : World} {x : Ent} {t g i : Nat} {l : List (List D)} {v : Value} (r : RwRep h w x t 1 g (l.set i [.v v])) (hi : i < l.length) :
    ∃ b cap cur, x.val = .slice (some ⟨b, 0, none⟩) l.length cap ∧ w.heap[b]? = some (.cells cur t (0, 0)) ∧ l.length ≤ cap ∧ cap ≤ maxLen ∧ cur.size = cap ∧ cur.getD i undef = v := by
  obtain ⟨b, cap, cur, h1, h2, h3, h4, h5, h6⟩ := r.cells (by simp; omega)
  simp only [List.length_set] at h1 h3
  refine ⟨b, cap, cur, h1, h2, h3, h4, by omega, ?_⟩
  have := h6 i [.v v] 0 (.v v) (by simp [hi]) rfl
  simpa using this.raw
/-- A variable, or an element, is read. -/
theorem does_ld {x : Operand} {y : X} {d t : Nat} {i : TI} (hte : TEok P te) (ho : o.op = .load t x) (ht : te t = some i) (hx : cX te 0 x = some y)
    (rr : RR cx h e sl os a w) (hr : stp (lget sl) (lget os) (.ld d i.size i.agg y) = some r) (hside : r.side) : Does P o cx h e sl os a w r := by
  obtain ⟨dd, hu, hagg, _⟩ := (hte t _ ht).und
  obtain ⟨q, hq, hqs, _⟩ := (hte t _ ht).info
  have hs1 := size_one hte ht
  have run := fun {b off : Nat} {cs : Array Value} {tt : TypeId} {fr : Nat × Nat} (hb : w.heap[b]? = some (.cells cs tt fr)) (hev : a.eval x = .pointer (some ⟨b, off, none⟩)) (hf : off + i.size ≤ cs.size) =>
    run_load_cells (a := a) ho hq hqs hu hagg hb hev hf (fun hh => by rw [hs1 hh]; exact Nat.one_pos)
  simp only [stp] at hr
  split at hr
  · rename_i p n off hev
    split at hr
    · rename_i l hgo
      rw [okR_inv hr] at hside ⊢
      obtain ⟨hp, hf⟩ := hside
      have hv := evs_rep hx rr hev hp
      generalize hqv : a.eval x = v at hv
      cases hv with
      | ptr _ _ _ ent hent h1 b hb hvb =>
        obtain ⟨_, b', cs, tt, hb', hheap, hsz, hcs, hone⟩ := box_ent rr hgo hent
        rw [hb] at hb'
        cases hb'
        refine .pure rr (run hheap (hqv.trans hvb) (by omega)) ?_
        cases ha : i.agg with
        | true =>
          simp only [if_true]
          refine .ag _ _ (by simp; omega) (fun j av hj => ?_) (fun j hj => ?_)
          · have hjs : j < i.size := by
              have := (List.getElem?_eq_some_iff.1 hj).1
              simp at this
              omega
            rw [toArr, list_take_getD _ _ _ _ _ hjs]
            simp [hjs] at hj
            have := hcs _ _ hj
            simpa [List.getD, Array.getD_eq_getD_getElem?] using this
          · simp at hj
            rw [toArr, list_take_getD _ _ _ _ _ (by omega)]
            have := hone (off + j) (by omega)
            simpa [List.getD, Array.getD_eq_getD_getElem?] using this
        | false =>
          simp only [Bool.false_eq_true, if_false]
          have := hs1 ha
          have hlt : off < l.length := by omega
          have hge : l[off]? = some l[off] := List.getElem?_eq_getElem hlt
          rw [show l.getD off .un = l[off] by simp [List.getD, hge]]
          exact hcs _ _ hge
    · cases hr
  · rename_i p n g s' i' off hev
    split at hr
    · rename_i t1 s1 g1 l hgo
      rw [okR_inv hr] at hside ⊢
      obtain ⟨hp, hgen, rfl, hil, hf⟩ := hside
      have hv := evs_rep hx rr hev hp
      generalize hqv : a.eval x = v at hv
      cases hv with
      | rptr _ _ _ _ _ _ ent hent h1 hg1 hvb =>
        obtain ⟨hge, hs0, xs, hown, hls, hrr⟩ := row_ent rr hgo hent
        obtain ⟨b, len, cap, hsv, hvb⟩ := hvb (by rw [hge, hgen])
        rcases hown.2 with ⟨hn, hl0⟩ | ⟨b', cap', cur, hsv', hb0, hheap, hlc, hcm, hcs, htake⟩
        · omega
        · rw [hsv] at hsv'
          cases hsv'
          have hmul : (i' + 1) * s1 ≤ cap * s1 := Nat.mul_le_mul_right _ (by omega)
          rw [Nat.add_mul, Nat.one_mul] at hmul
          have hmul2 : (i' + 1) * s1 ≤ l.length * s1 := Nat.mul_le_mul_right _ hil
          rw [Nat.add_mul, Nat.one_mul] at hmul2
          have hgl : l[i']? = some l[i'] := List.getElem?_eq_getElem hil
          have hgd : l.getD i' [] = l[i'] := by simp [List.getD, hgl]
          have hll := hls _ _ hgl
          have hxs : ∀ j, j < s1 → xs.getD (i' * s1 + j) undef = cur.getD (i' * s1 + j) undef := by
            intro j hj
            rw [← htake]
            simp [List.getD, Array.getD_eq_getD_getElem?, show i' * s1 + j < l.length * s1 by omega]
          refine .pure rr (run hheap (hqv.trans hvb) (by omega)) ?_
          rw [hgd]
          cases ha : i.agg with
          | true =>
            simp only [if_true]
            have hgoal : ∀ j, j < i.size → ∃ d, (l[i'][off + j]? = some d) ∧ Rep h ((((cur.toList.drop (i' * s1 + off)).take i.size).toArray).getD j undef) d := by
              intro j hj
              have hlt : off + j < l[i'].length := by omega
              refine ⟨l[i'][off + j], List.getElem?_eq_getElem hlt, ?_⟩
              rw [toArr, list_take_getD _ _ _ _ _ hj]
              have := hrr i' _ (off + j) _ hgl (List.getElem?_eq_getElem hlt)
              rw [hxs _ (by omega)] at this
              simpa [List.getD, Array.getD_eq_getD_getElem?, Nat.add_assoc] using this
            refine .ag _ _ (by simp; omega) (fun j av hj => ?_) (fun j hj => ?_)
            · have hjs : j < i.size := by
                have := (List.getElem?_eq_some_iff.1 hj).1
                simp at this
                omega
              obtain ⟨d', hd', hrep⟩ := hgoal j hjs
              simp [hjs, hd'] at hj
              subst hj
              exact .d _ _ hrep
            · obtain ⟨d', hd', hrep⟩ := hgoal j (by simp at hj; omega)
              exact hrep.one
          | false =>
            simp only [Bool.false_eq_true, if_false]
            have := hs1 ha
            have hlt : off < l[i'].length := by omega
            have hge' : l[i'][off]? = some l[i'][off] := List.getElem?_eq_getElem hlt
            rw [show l[i'].getD off (.v undef) = l[i'][off] by simp [List.getD, hge']]
            have := hrr i' _ off _ hgl hge'
            rw [hxs _ (by omega)] at this
            exact .d _ _ this
    · rename_i t1 g1 l1 j1 b1 hgo
      rw [okR_inv hr] at hside ⊢
      obtain ⟨hp, hgen, hs1', hij, hoff, hsz1, hagg'⟩ := hside
      have hv := evs_rep hx rr hev hp
      generalize hqv : a.eval x = v at hv
      cases hv with
      | rptr _ _ _ _ _ _ ent hent h1 hg1 hvb =>
        obtain ⟨hil, v0, _, hvr, hrw⟩ := rov_ent rr hgo hent
        obtain ⟨b, len, cap, hsv, hvb⟩ := hvb (by rw [hrw.1, hgen])
        obtain ⟨b', cap', cur, hsv', hheap, hlc, hcm, hcs, hget⟩ := hrw.rawcell hil
        rw [hsv] at hsv'
        cases hsv'
        subst hij; subst hoff; subst hs1'
        refine .pure rr (run hheap (hqv.trans hvb) (by omega)) ?_
        rw [hagg']
        simp only [Bool.false_eq_true, if_false, Nat.mul_one, Nat.add_zero]
        rw [hget]
        exact hvr
    · rename_i t1 t2 s2 g1 l1 j1 b1 hgo
      rw [okR_inv hr] at hside ⊢
      obtain ⟨hp, hgen, hs1', hij, hil, hoff, hsz1, hagg'⟩ := hside
      have hv := evs_rep hx rr hev hp
      generalize hqv : a.eval x = v at hv
      cases hv with
      | rptr _ _ _ _ _ _ ent hent h1 hg1 hvb =>
        obtain ⟨_, vs, hvl, hv1, hrw, hov, _⟩ := pol_ent rr hgo hent
        obtain ⟨b, len, cap, hsv, hvb⟩ := hvb (by rw [hrw.1, hgen])
        have hvi : i' < vs.length := by omega
        have hgi : vs[i']? = some vs[i'] := List.getElem?_eq_getElem hvi
        obtain ⟨b', cap', cur, hsv', hheap, hlc, hcm, hcs, hrr⟩ := hrw.cells (by simp; omega)
        rw [List.length_map, hvl] at hsv' hlc
        rw [hsv] at hsv'
        cases hsv'
        have hget := (hrr i' [.v vs[i']] 0 (.v vs[i']) (by simp [hgi]) rfl).raw
        subst hij; subst hoff; subst hs1'
        simp only [Nat.mul_one, Nat.add_zero] at hget
        refine .pure rr (run hheap (hqv.trans hvb) (by omega)) ?_
        rw [hagg']
        simp only [Bool.false_eq_true, if_false, Nat.mul_one, Nat.add_zero]
        rw [hget]
        exact hov i' _ hgi _ rfl
    · cases hr
  · rename_i p l off hev
    rw [okR_inv hr] at hside ⊢
    obtain ⟨hp, hf⟩ := hside
    have hv := evs_rep hx rr hev hp
    generalize hqv : a.eval x = v at hv
    cases hv with
    | d _ _ hv =>
      cases hv with
      | cp _ _ b o1 cs tt fr hb hfs hrr =>
        refine .pure rr (run (rr.st.vis _ _ hb) hqv (by omega)) ?_
        cases ha : i.agg with
        | true =>
          simp only [if_true]
          have hgoal : ∀ j, j < i.size → ∃ d, (l[off + j]? = some d) ∧ Rep h ((((cs.toList.drop (o1 + off)).take i.size).toArray).getD j undef) d := by
            intro j hj
            have hlt : off + j < l.length := by omega
            refine ⟨l[off + j], List.getElem?_eq_getElem hlt, ?_⟩
            rw [toArr, list_take_getD _ _ _ _ _ hj]
            have := hrr (off + j) _ (List.getElem?_eq_getElem hlt)
            simpa [List.getD, Array.getD_eq_getD_getElem?, Nat.add_assoc] using this
          refine .ag _ _ (by simp; omega) (fun j av hj => ?_) (fun j hj => ?_)
          · have hjs : j < i.size := by
              have := (List.getElem?_eq_some_iff.1 hj).1
              simp at this
              omega
            obtain ⟨d', hd', hrep⟩ := hgoal j hjs
            simp [hjs, hd'] at hj
            subst hj
            exact .d _ _ hrep
          · obtain ⟨d', hd', hrep⟩ := hgoal j (by simp at hj; omega)
            exact hrep.one
        | false =>
          simp only [Bool.false_eq_true, if_false]
          have := hs1 ha
          have hlt : off < l.length := by omega
          have hge' : l[off]? = some l[off] := List.getElem?_eq_getElem hlt
          rw [show l.getD off (.v undef) = l[off] by simp [List.getD, hge']]
          exact .d _ _ (hrr _ _ hge')
  · cases hr
theorem mid_get {α : Type} (l m : List α) (off j : Nat) (hf : off + m.length ≤ l.length) :
    (l.take off ++ m ++ l.drop (off + m.length))[j]? = if j < off then l[j]? else if j < off + m.length then m[j - off]? else l[j]? := by
  by_cases h1 : j < off
  · rw [List.append_assoc, List.getElem?_append_left (by simp; omega)]
    simp [h1]
  · by_cases h2 : j < off + m.length
    · rw [List.append_assoc, List.getElem?_append_right (by simp; omega)]
      rw [List.getElem?_append_left (by simp; omega)]
      simp [h1, h2, show min off l.length = off by omega]
    · rw [List.getElem?_append_right (by simp; omega)]
      simp [h1, h2]
      congr 1
      omega
theorem splice_eq {α : Type} (m : List α) : ∀ (l : List α) (off : Nat), off + m.length ≤ l.length → splice l off m = l.take off ++ m ++ l.drop (off + m.length) := by
  induction m with
  | nil => intro l off _; simp [splice]
  | cons x r ih =>
    intro l off hf
    simp at hf
    simp only [splice]
    rw [ih _ _ (by simp; omega)]
    apply List.ext_getElem?
    intro j
    have h1 := mid_get (l.set off x) r (off + 1) j (by simp; omega)
    have h2 := mid_get l (x :: r) off j (by simp; omega)
    rw [h1, h2]
    simp only [List.getElem?_set, List.length_cons]
    by_cases c1 : j < off
    · simp [c1, show j < off + 1 by omega, show ¬ off = j by omega]
    · by_cases c2 : j = off
      · subst c2
        simp [show j < l.length by omega]
      · by_cases c3 : j < off + (r.length + 1)
        · simp [c1, c3, show ¬ j < off + 1 by omega, show j < off + 1 + r.length by omega]
          obtain ⟨k, rfl⟩ : ∃ k, j = off + 1 + k := ⟨j - off - 1, by omega⟩
          simp [show off + 1 + k - off = k + 1 by omega]
        · simp [c1, c3, show ¬ j < off + 1 by omega, show ¬ j < off + 1 + r.length by omega, show ¬ off = j by omega]
theorem cells_rep {v : Value} {av : AV} (hv : VRep h e v av) (hc : (cells av).all AV.cell = true) :
    v.cells.size = (cells av).length ∧ (∀ (j : Nat) (x : AV), (cells av)[j]? = some x → VRep h e (v.cells.getD j undef) x) ∧ ∀ u ∈ v.cells.toList, u.oneCell' = true := by
  cases hv with
  | ag vs l hl hr h1 =>
    refine ⟨hl, hr, fun u hu => ?_⟩
    obtain ⟨j, hj, rfl⟩ := List.getElem_of_mem hu
    have hj' : j < vs.size := by simpa [Value.cells] using hj
    have := h1 j hj'
    simp only [Array.getD, hj', dif_pos] at this
    simpa [Value.cells] using this
  | tp vs l hl hr => simp [cells, AV.cell] at hc
  | gd v l a hr hn => simp [cells, AV.cell] at hc
  | un v => simp [cells, AV.cell] at hc
  | d v x hr =>
    have h1 := hr.one
    cases v <;> simp_all [Value.oneCell', Value.cells, cells] <;> intro j x <;> cases j <;> simp <;> rintro rfl <;> exact .d _ _ hr
  | own v n g x hx h1 hg hv =>
    have hv' : VRep h e v (.own n g) := .own v n g x hx h1 hg hv
    cases v <;> simp_all [Value.oneCell', Value.cells, cells] <;> intro j x <;> cases j <;> simp <;> rintro rfl <;> exact hv'
  | ptr v n off x hx h1 b hb hv =>
    subst hv
    refine ⟨rfl, fun j y hj => ?_, by simp [Value.cells, Value.oneCell']⟩
    cases j <;> simp [cells] at hj
    subst hj
    exact .ptr _ n off x hx h1 b hb rfl
  | rptr v n g s i off x hx h1 hg hv =>
    have hv' : VRep h e v (.rptr n g s i off) := .rptr v n g s i off x hx h1 hg hv
    cases v <;> simp_all [Value.oneCell', Value.cells, cells] <;> intro j x <;> cases j <;> simp <;> rintro rfl <;> exact hv'
  | mp v n x hx h1 b hb hv =>
    have hv' : VRep h e v (.mp n) := .mp v n x hx h1 b hb hv
    cases v <;> simp_all [Value.oneCell', Value.cells, cells] <;> intro j x <;> cases j <;> simp <;> rintro rfl <;> exact hv'
  | nl s =>
    refine ⟨rfl, fun j y hj => ?_, by simp [Value.cells, Value.oneCell']⟩
    cases j <;> simp [cells] at hj
    subst hj
    exact .nl s
  | clo f vs l hl hr =>
    refine ⟨rfl, fun j y hj => ?_, by simp [Value.cells, Value.oneCell']⟩
    cases j <;> simp [cells] at hj
    subst hj
    exact .clo f vs l hl hr
theorem grown_setRow (w : World) (g : Nat) (cs : Array Value) : w.grownBy (w.setRow g cs) (some g) :=
  ⟨rfl, rfl, rfl, by simp [World.setRow], fun k _ hk => setRow_other w g k _ (fun e => hk (by rw [e]))⟩
theorem grown_alloc (w : World) (ob : Obj) : w.grownBy (w.alloc ob) none := World.grownBy_alloc w ob none
/-- What lies in cells behind some of them are written. -/
theorem mid_rep {α : Type} (rep : Value → α → Prop) {cs : Array Value} {l : List α} {vs : List Value} {ys : List α} {off : Nat} (hcs : cs.size = l.length) (hlen : vs.length = ys.length)
    (hf : off + ys.length ≤ l.length) (hold : ∀ (j : Nat) (x : α), l[j]? = some x → rep (cs.getD j undef) x) (hnew : ∀ (j : Nat) (x : α), ys[j]? = some x → rep (vs.getD j undef) x) :
    ∀ (j : Nat) (x : α), (splice l off ys)[j]? = some x → rep ((cs.toList.take off ++ vs ++ cs.toList.drop (off + vs.length)).toArray.getD j undef) x := by
  intro j x hj
  rw [splice_eq _ _ _ hf, mid_get _ _ _ _ hf] at hj
  rw [toArr, List.getD, mid_get _ _ _ _ (by simp; omega)]
  by_cases c1 : j < off
  · simp only [c1, if_true] at hj ⊢
    have := hold j x hj
    simpa [Array.getD_eq_getD_getElem?] using this
  · by_cases c2 : j < off + ys.length
    · simp only [c1, c2, if_true, if_false, hlen] at hj ⊢
      have := hnew _ x hj
      simpa [List.getD] using this
    · simp only [c1, c2, if_false, hlen] at hj ⊢
      have := hold j x hj
      simpa [Array.getD_eq_getD_getElem?] using this
theorem mid_one {cs : Array Value} {vs : List Value} {off : Nat} (hf : off + vs.length ≤ cs.size) (hold : ∀ j, j < cs.size → (cs.getD j undef).oneCell' = true) (hnew : ∀ u ∈ vs, u.oneCell' = true) :
    ∀ j, j < cs.size → ((cs.toList.take off ++ vs ++ cs.toList.drop (off + vs.length)).toArray.getD j undef).oneCell' = true := by
  intro j hj
  rw [toArr, List.getD, mid_get _ _ _ _ (by simpa using hf)]
  by_cases c1 : j < off
  · simpa [c1, Array.getD_eq_getD_getElem?] using hold j hj
  · by_cases c2 : j < off + vs.length
    · have hlt : j - off < vs.length := by omega
      simp [c1, c2, List.getElem?_eq_getElem hlt]
      exact hnew _ (List.getElem_mem hlt)
    · simpa [c1, c2, Array.getD_eq_getD_getElem?] using hold j hj
theorem row_cellsS (st : St h e os w) {n t s g : Nat} {l : List (List D)} (hg : lget os n = some (.row t s g l)) {x : Ent} (hx : e n = some x) (hl : 0 < l.length) :
    ∃ b cap cur, x.val = .slice (some ⟨b, 0, none⟩) l.length cap ∧ w.heap[b]? = some (.cells cur t (0, 0)) ∧ l.length ≤ cap ∧ cap ≤ maxLen ∧ cur.size = cap * s ∧
      ∀ (i : Nat) (es : List D) (j : Nat) (d : D), l[i]? = some es → es[j]? = some d → Rep h (cur.getD (i * s + j) undef) d := by
  obtain ⟨hge, hs0, xs, hown, hls, hrr⟩ := row_entS st hg hx
  rcases hown.2 with ⟨hn, hl0⟩ | ⟨b', cap', cur, hsv', hb0, hheap, hlc, hcm, hcs, htake⟩
  · omega
  · refine ⟨b', cap', cur, hsv', hheap, hlc, hcm, hcs, fun i es j d hi hj => ?_⟩
    have := hrr i es j d hi hj
    have hil : i < l.length := (List.getElem?_eq_some_iff.1 hi).1
    have hjl : j < s := by rw [← hls _ _ hi]; exact (List.getElem?_eq_some_iff.1 hj).1
    have hmul2 : (i + 1) * s ≤ l.length * s := Nat.mul_le_mul_right _ hil
    rw [Nat.add_mul, Nat.one_mul] at hmul2
    rw [← htake] at this
    simpa [List.getD, Array.getD_eq_getD_getElem?, show i * s + j < l.length * s by omega] using this
theorem row_cells (rr : RR cx h e sl os a w) {n t s g : Nat} {l : List (List D)} (hg : lget os n = some (.row t s g l)) {x : Ent} (hx : e n = some x) (hl : 0 < l.length) :
    ∃ b cap cur, x.val = .slice (some ⟨b, 0, none⟩) l.length cap ∧ w.heap[b]? = some (.cells cur t (0, 0)) ∧ l.length ≤ cap ∧ cap ≤ maxLen ∧ cur.size = cap * s ∧
      ∀ (i : Nat) (es : List D) (j : Nat) (d : D), l[i]? = some es → es[j]? = some d → Rep h (cur.getD (i * s + j) undef) d := row_cellsS rr.st hg hx hl
theorem row_mk {w : World} {x : Ent} {t s g b cap : Nat} {l : List (List D)} {cur : Array Value} (hg : x.gen = g) (hs : 0 < s) (hx : x.val = .slice (some ⟨b, 0, none⟩) l.length cap)
    (hh : w.heap[b]? = some (.cells cur t (0, 0))) (hl : l.length ≤ cap) (hc : cap ≤ maxLen) (hz : cur.size = cap * s) (hls : ∀ (i : Nat) (es : List D), l[i]? = some es → es.length = s)
    (hr : ∀ (i : Nat) (es : List D) (j : Nat) (d : D), l[i]? = some es → es[j]? = some d → Rep h (cur.getD (i * s + j) undef) d) : ORep h e w x (.row t s g l) := by
  have hle : l.length * s ≤ cap * s := Nat.mul_le_mul_right _ hl
  refine ⟨hg, hs, cur.toList.take (l.length * s), ⟨by simp; omega, .inr ⟨b, cap, cur, hx, Nat.zero_le _, hh, hl, hc, hz, rfl⟩⟩, hls, fun i es j d hi hj => ?_⟩
  have := hr i es j d hi hj
  have hil : i < l.length := (List.getElem?_eq_some_iff.1 hi).1
  have hjl : j < s := by rw [← hls _ _ hi]; exact (List.getElem?_eq_some_iff.1 hj).1
  have hmul2 : (i + 1) * s ≤ l.length * s := Nat.mul_le_mul_right _ hil
  rw [Nat.add_mul, Nat.one_mul] at hmul2
  simpa [List.getD, Array.getD_eq_getD_getElem?, show i * s + j < l.length * s by omega] using this
theorem toDs_map : ∀ (l : List AV) (ds : List D), toDs l = some ds → ds.length = l.length ∧ l.all AV.cell = true ∧ ∀ (v : Value) (j : Nat) (x : AV) (d : D), l[j]? = some x → ds[j]? = some d → VRep h e v x → Rep h v d
  | [], ds, hd => by cases hd; simp
  | a :: r, ds, hd => by
    simp only [toDs] at hd
    cases ha : toD a with
    | none => simp [ha] at hd
    | some d =>
      cases hr : toDs r with
      | none => simp [ha, hr] at hd
      | some l =>
        simp only [ha, hr, Option.some.injEq] at hd
        subst hd
        obtain ⟨h1, h2, h3⟩ := toDs_map r l hr
        refine ⟨by simp [h1], ?_, fun v j x d' hx hd hv => ?_⟩
        · simp only [List.all_cons, h2, Bool.and_true]
          cases a <;> simp_all [toD, AV.cell]
        · cases j with
          | zero =>
            simp at hx hd
            subst hx; subst hd
            cases hv <;> simp [toD] at ha <;> subst ha <;> first | assumption | exact .nil _ _ _
          | succ j => exact h3 v j x d' (by simpa using hx) (by simpa using hd) hv
/-- One cell of a row is written. -/
theorem RwRep.store {x : Ent} {t g i b cap : Nat} {l : List (List D)} {cur : Array Value} {u : Value} (r : RwRep h w x t 1 g l) (hi : i < l.length) (hu : u.oneCell' = true)
    (hx : x.val = .slice (some ⟨b, 0, none⟩) l.length cap) (hh : w.heap[b]? = some (.cells cur t (0, 0))) :
    RwRep h (w.setRow b (cur.toList.take i ++ [u] ++ cur.toList.drop (i + 1)).toArray) x t 1 g (l.set i [.v u]) := by
  obtain ⟨b', cap', cur', h1, h2, h3, h4, h5, h6⟩ := r.cells (by omega)
  rw [hx] at h1
  cases h1
  rw [hh] at h2
  cases h2
  have hls := r.2.2
  obtain ⟨_, _, xs, _, hls, _⟩ := r
  have hor : ORep h (fun _ => none) (w.setRow b (cur.toList.take i ++ [u] ++ cur.toList.drop (i + 1)).toArray) x (.row t 1 g (l.set i [.v u])) := by
    refine row_mk (b := b) (cap := cap) (by assumption) Nat.one_pos (by rw [hx]; simp) (setRow_heap w b cur _ t _ hh) (by simpa using h3) h4 (by simp; omega) (fun k es hk => ?_) (fun k es j d hk hj => ?_)
    · rw [List.getElem?_set] at hk
      split at hk
      · rename_i hik
        subst hik
        simp [hi] at hk
        subst hk
        rfl
      · exact hls _ _ hk
    · have hnc : (cur.toList.take i ++ [u] ++ cur.toList.drop (i + 1)).toArray.getD (k * 1 + j) undef = if k * 1 + j < i then cur.getD (k * 1 + j) undef else if k * 1 + j < i + 1 then [u].getD (k * 1 + j - i) undef else cur.getD (k * 1 + j) undef := by
        rw [toArr, List.getD]
        have := mid_get cur.toList [u] i (k * 1 + j) (by simp; omega)
        simp only [List.length_singleton] at this
        rw [this]
        split
        · simp [Array.getD_eq_getD_getElem?]
        · split <;> simp [Array.getD_eq_getD_getElem?, List.getD]
      rw [hnc]
      rw [List.getElem?_set] at hk
      split at hk
      · rename_i hik
        subst hik
        simp [hi] at hk
        subst hk
        cases j with
        | succ j => simp at hj
        | zero =>
          simp at hj
          subst hj
          rw [if_neg (by omega), if_pos (by omega)]
          simp
          exact .v _ hu
      · have hjl : j < 1 := by rw [← hls _ _ hk]; exact (List.getElem?_eq_some_iff.1 hj).1
        have hold := h6 _ _ _ _ hk hj
        split
        · exact hold
        · rw [if_neg (by omega)]; exact hold
  exact hor
/-- A variable, or an element, is written. -/
theorem does_st {x z : Operand} {y yz : X} {t : Nat} {i : TI} (hte : TEok P te) (ho : o.op = .store t x z) (ht : te t = some i) (hx : cX te 0 x = some y) (hz : cX te t z = some yz)
    (rr : RR cx h e sl os a w) (hr : stp (lget sl) (lget os) (.st i.size y yz) = some r) (hside : r.side) : Does P o cx h e sl os a w r := by
  obtain ⟨q, hq, hqs, _⟩ := (hte t _ ht).info
  have run : ∀ {b off : Nat} {cs : Array Value} {tt : TypeId}, w.heap[b]? = some (.cells cs tt (0, 0)) → a.eval x = .pointer (some ⟨b, off, none⟩) → (a.eval z).cells.size = i.size →
      off + i.size ≤ cs.size → (∀ u ∈ (a.eval z).cells.toList, u.oneCell' = true) →
      (execOp a.eval o).run P w = .ok .skip (w.setRow b (cs.toList.take off ++ (a.eval z).cells.toList ++ cs.toList.drop (off + (a.eval z).cells.toList.length)).toArray) := by
    intro b off cs tt hb hev hsz hf h1
    have hst := run_storeCells_at P b off tt (a.eval z).cells.toList 0 cs w hb (by simp [hsz]; omega) h1
    simp only [Nat.add_zero] at hst
    simp [execOp, ho, hev, Instr.storeAt, Instr.sureAddr, storeVar, run_so hq, hqs, hsz, hst]
  simp only [stp] at hr
  split at hr
  · rename_i p n off qq yv hev hez
    split at hr
    · rename_i l hgo
      simp only [Option.some.injEq] at hr
      subst hr
      obtain ⟨hp, hq', hlen, hf, hcell⟩ := hside
      have hv := evs_rep hx rr hev hp
      have hzv := evs_rep hz rr hez hq'
      generalize hqv : a.eval x = v at hv
      cases hv with
      | ptr _ _ _ ent hent h1 b hb hvb =>
        obtain ⟨hg0, b', cs, tt, hb', hheap, hsz, hcs, hone⟩ := box_ent rr hgo hent
        rw [hb] at hb'
        cases hb'
        obtain ⟨c1, c2, c3⟩ := cells_rep hzv hcell
        have hll : (a.eval z).cells.toList.length = (cells yv).length := by simpa using c1
        refine ⟨_, undef, _, e.set n ent, run hheap (hqv.trans hvb) (by omega) (by omega) c3, .inr ⟨rfl, rfl⟩, ?_, .un _⟩
        have hE : e.set n ent = e := by funext m; by_cases hm : m = n <;> simp [Env.set, hm, hent]
        have hlo := rr.st.lone _ _ _ hgo hent
        refine rr.upd n ent _ (grown_setRow _ _ _) (fun b' hb' => ⟨ent, hent, .inl (by simpa [hb, blkOf] using hb')⟩) (fun y' hy' => ?_) (fun b' hb' => .inl (by have hb2 := (Ent.has_lone (hlo rfl)).1 hb'; simpa [hb, blkOf] using hb2)) ?_
        · rw [hent] at hy'; cases hy'; exact .refl _
        · rw [hE]
          refine ⟨hg0, b, _, tt, hb, setRow_heap w b cs _ tt _ hheap, ?_, ?_, ?_⟩
          · simp [splice_eq _ _ _ (show off + (cells yv).length ≤ l.length by omega)]
            omega
          · exact mid_rep (fun v x => VRep h e v x) hsz hll (by omega) hcs (fun j x hj => by simpa [List.getD, Array.getD_eq_getD_getElem?] using c2 j x hj)
          · intro j hj
            exact mid_one (by omega) hone c3 j (by simp at hj; omega)
    · cases hr
  · rename_i p n g s' i' off qq yv hev hez
    split at hr
    · rename_i t1 s1 g1 l ds hgo hds
      simp only [Option.some.injEq] at hr
      subst hr
      obtain ⟨hp, hq', hgen, rfl, hlen, hil, hf⟩ := hside
      have hv := evs_rep hx rr hev hp
      have hzv := evs_rep hz rr hez hq'
      obtain ⟨d1, d2, d3⟩ := toDs_map (h := h) (e := e) _ _ hds
      generalize hqv : a.eval x = v at hv
      cases hv with
      | rptr _ _ _ _ _ _ ent hent h1 hg1 hvb =>
        obtain ⟨hge, hs0, _, _, hls, _⟩ := row_ent rr hgo hent
        obtain ⟨b, len, cap, hsv, hvb⟩ := hvb (by rw [hge, hgen])
        obtain ⟨c1, c2, c3⟩ := cells_rep hzv d2
        have hll : (a.eval z).cells.toList.length = ds.length := by simp; omega
        obtain ⟨b', cap', cur, hsv', hheap, hlc, hcm, hcs, hrr⟩ := row_cells rr hgo hent (by omega)
        have hsv2 := hsv
        rw [hsv'] at hsv2
        injection hsv2 with e1 e2 e3
        injection e1 with e1
        injection e1 with e1
        subst e1; subst e3
        have hmul : (i' + 1) * s1 ≤ cap' * s1 := Nat.mul_le_mul_right _ (by omega)
        rw [Nat.add_mul, Nat.one_mul] at hmul
        have hgl : l[i']? = some l[i'] := List.getElem?_eq_getElem hil
        have hgd : l.getD i' [] = l[i'] := by simp [List.getD, hgl]
        have hll' := hls _ _ hgl
        refine ⟨_, undef, _, e.set n ent, run hheap (hqv.trans hvb) (by omega) (by omega) c3, .inr ⟨rfl, rfl⟩, ?_, .un _⟩
        have hE : e.set n ent = e := by funext m; by_cases hm : m = n <;> simp [Env.set, hm, hent]
        have hlo := rr.st.lone _ _ _ hgo hent
        refine rr.upd n ent _ (grown_setRow _ _ _) (fun b' hb' => ⟨ent, hent, .inl (by simpa [hsv', blkOf] using hb')⟩) (fun y' hy' => ?_) (fun b' hb' => .inl (by have hb2 := (Ent.has_lone (hlo rfl)).1 hb'; simpa [hsv', blkOf] using hb2)) ?_
        · rw [hent] at hy'; cases hy'; exact .refl _
        · rw [hE, hgd]
          have hnc : ∀ k, (cur.toList.take (i' * s1 + off) ++ (a.eval z).cells.toList ++ cur.toList.drop (i' * s1 + off + (a.eval z).cells.toList.length)).toArray.getD k undef =
              if k < i' * s1 + off then cur.getD k undef else if k < i' * s1 + off + ds.length then (a.eval z).cells.getD (k - (i' * s1 + off)) undef else cur.getD k undef := by
            intro k
            rw [toArr, List.getD, mid_get _ _ _ _ (by simp; omega), hll]
            split
            · simp [Array.getD_eq_getD_getElem?]
            · split <;> simp [Array.getD_eq_getD_getElem?]
          refine row_mk (b := b') (cap := cap') hge hs0 (by rw [hsv']; simp) (setRow_heap w b' cur _ t1 _ hheap) (by simpa using hlc) hcm (by simp; omega) ?_ ?_
          · intro k es hk
            rw [List.getElem?_set] at hk
            split at hk
            · rename_i hik
              subst hik
              simp at hk
              subst hk
              rw [splice_eq _ _ _ (by omega)]
              simp; omega
            · exact hls _ _ hk
          · intro k es j d hk hj
            rw [hnc]
            rw [List.getElem?_set] at hk
            split at hk
            · rename_i hik
              subst hik
              simp at hk
              subst hk
              rw [splice_eq _ _ _ (by omega), mid_get _ _ _ _ (by omega)] at hj
              by_cases q1 : j < off
              · rw [if_pos (by omega)]
                rw [if_pos q1] at hj
                exact hrr _ _ _ _ hgl hj
              · rw [if_neg (by omega)]
                rw [if_neg q1] at hj
                by_cases q2 : j < off + ds.length
                · rw [if_pos (by omega)]
                  rw [if_pos q2] at hj
                  rw [show i' * s1 + j - (i' * s1 + off) = j - off by omega]
                  have hlt : j - off < (cells yv).length := by omega
                  exact d3 _ _ _ _ (List.getElem?_eq_getElem hlt) hj (c2 _ _ (List.getElem?_eq_getElem hlt))
                · rw [if_neg (by omega)]
                  rw [if_neg q2] at hj
                  exact hrr _ _ _ _ hgl hj
            · rename_i hik
              have hold := hrr _ _ _ _ hk hj
              have hjl : j < s1 := by rw [← hls _ _ hk]; exact (List.getElem?_eq_some_iff.1 hj).1
              rcases Nat.lt_or_gt_of_ne hik with q | q
              · have hm : (i' + 1) * s1 ≤ k * s1 := Nat.mul_le_mul_right _ q
                rw [Nat.add_mul, Nat.one_mul] at hm
                rw [if_neg (by omega), if_neg (by omega)]
                exact hold
              · have hm : (k + 1) * s1 ≤ i' * s1 := Nat.mul_le_mul_right _ q
                rw [Nat.add_mul, Nat.one_mul] at hm
                rw [if_pos (by omega)]
                exact hold
    · rename_i t1 s1 g1 l hgo hds
      simp only [Option.some.injEq] at hr
      subst hr
      obtain ⟨hp, hq', hgen, hss, hs1, hil, hoff, hsz1, hcell⟩ := hside
      have hv := evs_rep hx rr hev hp
      have hzv := evs_rep hz rr hez hq'
      subst hss; subst hs1; subst hoff
      generalize hqv : a.eval x = v at hv
      cases hv with
      | rptr _ _ _ _ _ _ ent hent h1 hg1 hvb =>
        have hrw : RwRep h w ent t1 1 g1 l := row_ent rr hgo hent
        obtain ⟨b, len, cap, hsv, hvb⟩ := hvb (by rw [hrw.1, hgen])
        obtain ⟨b', cap', cur, hsv', hheap, hlc, hcm, hcs, hrr⟩ := hrw.cells (by omega)
        have hsv2 := hsv
        rw [hsv'] at hsv2
        injection hsv2 with e1 e2 e3
        injection e1 with e1
        injection e1 with e1
        subst e1; subst e3
        have hone := hzv.one hcell
        have hcl : (a.eval z).cells = #[a.eval z] := by cases hqz : a.eval z <;> rw [hqz] at hone <;> first | rfl | (simp [Value.oneCell'] at hone)
        have hrun := run (tt := t1) hheap (hqv.trans hvb) (by rw [hcl, hsz1]; rfl) (by omega) (by rw [hcl]; simpa using hone)
        rw [hcl] at hrun
        simp only [Nat.mul_one, Nat.add_zero, List.length_singleton] at hrun
        refine ⟨_, undef, _, e.set n ent, hrun, .inr ⟨rfl, rfl⟩, ?_, .un _⟩
        have hE : e.set n ent = e := by funext m; by_cases hm : m = n <;> simp [Env.set, hm, hent]
        have hlo := rr.st.lone _ _ _ hgo hent
        refine rr.upd n ent _ (grown_setRow _ _ _) (fun b' hb' => ⟨ent, hent, .inl (by simpa [hsv', blkOf] using hb')⟩) (fun y' hy' => ?_) (fun b' hb' => .inl (by have hb2 := (Ent.has_lone (hlo rfl)).1 hb'; simpa [hsv', blkOf] using hb2)) ?_
        · rw [hent] at hy'; cases hy'; exact .refl _
        · rw [hE]
          exact ⟨hil, a.eval z, hone, hzv, hrw.store hil hone hsv' hheap⟩
    · rename_i t1 g1 l j1 b1 hgo
      simp only [Option.some.injEq] at hr
      subst hr
      obtain ⟨hp, hq', hgen, hss, hij, hoff, hsz1, hcell⟩ := hside
      have hv := evs_rep hx rr hev hp
      have hzv := evs_rep hz rr hez hq'
      subst hss; subst hij; subst hoff
      generalize hqv : a.eval x = v at hv
      cases hv with
      | rptr _ _ _ _ _ _ ent hent h1 hg1 hvb =>
        obtain ⟨hil, v0, _, hvr, hrw⟩ := rov_ent rr hgo hent
        obtain ⟨b, len, cap, hsv, hvb⟩ := hvb (by rw [hrw.1, hgen])
        obtain ⟨b', cap', cur, hsv', hheap, hlc, hcm, hcs, hrr⟩ := hrw.cells (by simp; omega)
        have hsv2 := hsv
        rw [hsv'] at hsv2
        injection hsv2 with e1 e2 e3
        injection e1 with e1
        injection e1 with e1
        subst e1; subst e3
        simp only [List.length_set] at hlc
        have hone := hzv.one hcell
        have hcl : (a.eval z).cells = #[a.eval z] := by cases hqz : a.eval z <;> rw [hqz] at hone <;> first | rfl | (simp [Value.oneCell'] at hone)
        have hrun := run (tt := t1) hheap (hqv.trans hvb) (by rw [hcl, hsz1]; rfl) (by omega) (by rw [hcl]; simpa using hone)
        rw [hcl] at hrun
        simp only [Nat.mul_one, Nat.add_zero, List.length_singleton] at hrun
        refine ⟨_, undef, _, e.set n ent, hrun, .inr ⟨rfl, rfl⟩, ?_, .un _⟩
        have hE : e.set n ent = e := by funext m; by_cases hm : m = n <;> simp [Env.set, hm, hent]
        have hlo := rr.st.lone _ _ _ hgo hent
        refine rr.upd n ent _ (grown_setRow _ _ _) (fun b' hb' => ⟨ent, hent, .inl (by simpa [hsv', blkOf] using hb')⟩) (fun y' hy' => ?_) (fun b' hb' => .inl (by have hb2 := (Ent.has_lone (hlo rfl)).1 hb'; simpa [hsv', blkOf] using hb2)) ?_
        · rw [hent] at hy'; cases hy'; exact .refl _
        · rw [hE]
          have := hrw.store (by simpa using hil) hone hsv' hheap
          rw [List.set_set] at this
          exact ⟨hil, a.eval z, hone, hzv, this⟩
    · rename_i t1 t2 s2 g1 l j1 b1 hgo
      simp only [Option.some.injEq] at hr
      subst hr
      obtain ⟨hp, hq', hgen, hss, hij, hil, hoff, hsz1, hcell⟩ := hside
      have hv := evs_rep hx rr hev hp
      have hzv := evs_rep hz rr hez hq'
      subst hss; subst hij; subst hoff
      generalize hqv : a.eval x = v at hv
      cases hv with
      | rptr _ _ _ _ _ _ ent hent h1 hg1 hvb =>
        obtain ⟨hs0, vs, hvl, hv1, hrw, hov, hin, hmo, hdi, hou⟩ := pol_ent rr hgo hent
        obtain ⟨b, len, cap, hsv, hvb⟩ := hvb (by rw [hrw.1, hgen])
        obtain ⟨b', cap', cur, hsv', hheap, hlc, hcm, hcs, hrr⟩ := hrw.cells (by simp; omega)
        have hsv2 := hsv
        rw [hsv'] at hsv2
        injection hsv2 with e1 e2 e3
        injection e1 with e1
        injection e1 with e1
        subst e1; subst e3
        rw [List.length_map, hvl] at hlc
        have hone := hzv.one hcell
        have hcl : (a.eval z).cells = #[a.eval z] := by cases hqz : a.eval z <;> rw [hqz] at hone <;> first | rfl | (simp [Value.oneCell'] at hone)
        have hrun := run (tt := t1) hheap (hqv.trans hvb) (by rw [hcl, hsz1]; rfl) (by omega) (by rw [hcl]; simpa using hone)
        rw [hcl] at hrun
        simp only [Nat.mul_one, Nat.add_zero, List.length_singleton] at hrun
        refine ⟨_, undef, _, e.set n ent, hrun, .inr ⟨rfl, rfl⟩, ?_, .un _⟩
        have hE : e.set n ent = e := by funext m; by_cases hm : m = n <;> simp [Env.set, hm, hent]
        have hgr := grown_setRow w b' (cur.toList.take i' ++ [a.eval z] ++ cur.toList.drop (i' + 1)).toArray
        refine rr.updG n ent _ hgr (fun b2 hb2 => ⟨ent, hent, .inl (by simpa [hsv', blkOf] using hb2)⟩) (fun y' hy' => ?_) (fun b2 hb2 => .inl ⟨ent, hent, hb2⟩) (fun c => by cases c) ?_
        · rw [hent] at hy'; cases hy'; exact .refl _
        · rw [hE]
          have hst := hrw.store (show i' < (vs.map fun v => [D.v v]).length by simp; omega) hone hsv' hheap
          have hset : (vs.map fun v => [D.v v]).set i' [.v (a.eval z)] = (vs.set i' (a.eval z)).map fun v => [D.v v] := by rw [List.map_set]
          rw [hset] at hst
          have old : ∀ i v, i ≠ i' → (vs.set i' (a.eval z))[i]? = some v → vs[i]? = some v := fun i v hne hq => by rwa [List.getElem?_set_ne (Ne.symm hne)] at hq
          have neo : ∀ i v, i ≠ i' → vs[i]? = some v → (vs.set i' (a.eval z))[i]? = some v := fun i v hne hq => by rwa [List.getElem?_set_ne (Ne.symm hne)]
          have nov : ∀ i, (∀ a', some (i', yv) ≠ some (i, a')) → i ≠ i' := fun i q c => q yv (by rw [c])
          have ovn : ∀ i, i ≠ i' → ∀ a', some (i', b1) ≠ some (i, a') := fun i hne a' c => by cases c; exact hne rfl
          have ovy : ∀ i, i ≠ i' → ∀ a', some (i', yv) ≠ some (i, a') := fun i hne a' c => by cases c; exact hne rfl
          refine ⟨hs0, vs.set i' (a.eval z), by simpa using hvl, fun v hv => ?_, hst, fun i v hi a' ha' => ?_, fun i v rows hi hl hn => ?_, fun b2 => ?_, fun i j v v2 b2 hne hi hj hn hn2 => ?_, hou⟩
          · rcases List.mem_or_eq_of_mem_set hv with q | q
            · exact hv1 v q
            · rw [q]; exact hone
          · cases ha'
            rw [List.getElem?_set_self (by omega)] at hi
            cases hi
            exact hzv
          · have hne := nov i hn
            have hin' := hin i v rows (old i v hne hi) hl (ovn i hne)
            refine hin'.mono (Hp.le.refl h) (fun b2 hb2 => hgr.block b2 (hin'.lt hb2) (fun c => ?_))
            have hm := (hmo b2).2 ⟨i, v, old i v hne hi, ovn i hne, hb2⟩
            cases c
            exact hou b' (by rw [hsv']; rfl) hm
          · rw [hmo b2]
            exact ⟨fun ⟨i, v, hi, hn, hb⟩ => by
                have hne : i ≠ i' := fun c => hn b1 (by rw [c])
                exact ⟨i, v, neo i v hne hi, ovy i hne, hb⟩, fun ⟨i, v, hi, hn, hb⟩ => by
                have hne := nov i hn
                exact ⟨i, v, old i v hne hi, ovn i hne, hb⟩⟩
          · exact hdi i j v v2 b2 hne (old i v (nov i hn) hi) (old j v2 (nov j hn2) hj) (ovn i (nov i hn)) (ovn j (nov j hn2))
    · cases hr
  · cases hr
theorem evs_v {x : Operand} {y : X} {t : Nat} (hx : cX te t x = some y) (rr : RR cx h e sl os a w) {p : Prop} {v : Value} (he : evs (lget sl) y = (p, .d (.v v))) (hp : p) : a.eval x = v := by
  have hv := evs_rep hx rr he hp
  generalize a.eval x = u at hv
  cases hv with
  | d _ _ hr => cases hr with
    | v _ _ => rfl
theorem binV_run {op : BinOp} {u v r : Value} (hb : binV op u v = some r) (t : TypeId) (x y : Operand) (hk : sameK op u v) :
    (eqGuard op t x y u v).run P w = .ok () w ∧ (binOp op t u v).run P w = .ok r w ∧ r.oneCell' = true := by
  unfold binV at hb
  split at hb
  · rename_i k m k' n
    cases op <;> simp only [sameK] at hk <;> simp at hb <;> subst hb
    all_goals first
      | (obtain ⟨rfl, h0⟩ := hk; simp [eqGuard, binOp, Op.intDiv, h0, Value.oneCell']; done)
      | (subst hk; simp [eqGuard, binOp, Op.intArith, Op.intCmp, Op.intBits, bitV, Value.oneCell']; done)
      | (have h0 : ¬ n < 0 := by omega
         simp [eqGuard, binOp, Op.shift, h0, Value.oneCell'])
  · rename_i a b
    cases op <;> simp at hb
    subst hb
    have hm : maxLen = 9223372036854775807 := rfl
    have hmax : IntKind.i64.max = 9223372036854775807 := by decide
    simp only [sameK] at hk
    simp [eqGuard, binOp, Op.stringOp, Value.oneCell', hmax]
    omega
  · cases hb
/-- Arithmetic and comparisons of numbers. -/
theorem does_bo {x z : Operand} {y yz : X} {d t t' : Nat} {op : BinOp} (ho : o.op = .binOp op t x z t') (hx : cX te t x = some y) (hz : cX te t z = some yz)
    (rr : RR cx h e sl os a w) (hr : stp (lget sl) (lget os) (.bo d op y yz) = some r) (hside : r.side) : Does P o cx h e sl os a w r := by
  simp only [stp] at hr
  split at hr
  · rename_i p u q v hu hv
    cases hb : binV op u v with
    | none => simp [hb] at hr
    | some b =>
      simp only [hb, Option.bind_some] at hr
      rw [okR_inv hr] at hside ⊢
      obtain ⟨hp, hq, hk⟩ := hside
      have e1 := evs_v hx rr hu hp
      have e2 := evs_v hz rr hv hq
      obtain ⟨hg, hrun, h1⟩ := binV_run (P := P) (w := w) hb t x z hk
      refine .pure rr (v := b) ?_ (.d _ _ (.v _ h1))
      simp [execOp, ho, e1, e2, hrun, hg]
  · cases hr
theorem run_eqb {t : TypeId} (hu : P.underlying t = some .bool) (m n : Bool) : (Op.equal t (.bool m) (.bool n)).run P w = .ok (m == n) w := by
  unfold Op.equal
  rw [show Op.maxDepth = 9999 + 1 from rfl, Op.equalIn]
  simp only [Sem.run_bind, run_underlying hu, Result.andThen_ok]
  rfl
/-- '==' and '!=' of numbers and bools. -/
theorem does_beq {x z : Operand} {y yz : X} {d t t' : Nat} {neq : Bool} {i : TI} (hte : TEok P te) (ho : o.op = .binOp (if neq then .neq else .eql) t x z t') (ht : te t = some i)
    (hx : cX te t x = some y) (hz : cX te t z = some yz) (rr : RR cx h e sl os a w) (hr : stp (lget sl) (lget os) (.beq d neq (isB i.kind) y yz) = some r) (hside : r.side) : Does P o cx h e sl os a w r := by
  obtain ⟨dd, hu, _, hkk⟩ := (hte t _ ht).und
  simp only [stp] at hr
  split at hr
  · rename_i p k m q k' n hu' hv'
    rw [okR_inv hr] at hside ⊢
    obtain ⟨hp, hq, hkk'⟩ := hside
    subst hkk'
    have e1 := evs_v hx rr hu' hp
    have e2 := evs_v hz rr hv' hq
    refine .pure rr (v := .bool ((m == n) != neq)) ?_ (.d _ _ (.v _ rfl))
    cases neq <;> simp [execOp, ho, e1, e2, eqGuard, binOp, Op.intCmp] <;> rfl
  · rename_i p m q n hu' hv'
    rw [okR_inv hr] at hside ⊢
    obtain ⟨hp, hq, hb⟩ := hside
    have e1 := evs_v hx rr hu' hp
    have e2 := evs_v hz rr hv' hq
    have hbool : P.underlying t = some .bool := by
      cases hi : i.kind <;> simp [hi, isB] at hb
      rw [hi] at hkk
      cases dd <;> simp [TK.fits] at hkk
      exact hu
    refine .pure rr (v := .bool ((m == n) != neq)) ?_ (.d _ _ (.v _ rfl))
    have hq := run_eqb (P := P) (w := w) hbool m n
    cases neq <;> simp [execOp, ho, e1, e2, eqGuard, binOp, hq]
  · rename_i p m q n hu' hv'
    rw [okR_inv hr] at hside ⊢
    obtain ⟨hp, hq⟩ := hside
    have e1 := evs_v hx rr hu' hp
    have e2 := evs_v hz rr hv' hq
    refine .pure rr (v := .bool (decide (m = n) != neq)) ?_ (.d _ _ (.v _ rfl))
    have hd : (m.toList == n.toList) = decide (m = n) := by
      rw [← beq_toListBytes]
      by_cases hmn : m = n
      · subst hmn; simp [(MapKept.bytes_beq m m).2 rfl]
      · have : (m == n) = false := by
          cases hc : m == n with
          | false => rfl
          | true => exact absurd ((MapKept.bytes_beq _ _).1 hc) hmn
        simp [this, hmn]
    cases neq <;> simp [execOp, ho, e1, e2, eqGuard, binOp, Op.stringOp, hd] <;> rfl
  · cases hr
theorem does_no {x : Operand} {y : X} {d t : Nat} (ho : o.op = .unOp .not t x) (hx : cX te 0 x = some y) (rr : RR cx h e sl os a w) (hr : stp (lget sl) (lget os) (.no d y) = some r) (hside : r.side) : Does P o cx h e sl os a w r := by
  simp only [stp] at hr
  split at hr
  · rename_i p t hu
    rw [okR_inv hr] at hside ⊢
    have e1 := evs_v hx rr hu hside
    exact .pure rr (v := .bool !t) (by simp [execOp, ho, e1, Op.unary]) (.d _ _ (.v _ rfl))
  · cases hr
theorem does_len {x : Operand} {y : X} {d t el : Nat} {c : Call} {a1 a2 : Nat} {a3 : Bool} {a4 : List AV} {a5 : Option (List LK)} (hte : TEok P te) (ho : o.op = .call c) (hc : c.callee = .builtin .len) (has : c.args.toList = [x]) (hts : c.argTypes.toList = [t])
    (ht : te t = some ⟨a1, a2, a3, a4, .sl el, a5⟩) (hx : cX te t x = some y) (rr : RR cx h e sl os a w) (hr : stp (lget sl) (lget os) (.len d y) = some r) (hside : r.side) : Does P o cx h e sl os a w r := by
  obtain ⟨dd, hu, _, hkk⟩ := (hte t _ ht).und
  have hargs : c.args = #[x] := by rw [← Array.toArray_toList (xs := c.args), has]
  have htys : c.argTypes = #[t] := by rw [← Array.toArray_toList (xs := c.argTypes), hts]
  cases dd with
  | slice e' =>
    have run : ∀ {ad : Option Addr} {n cap : Nat}, a.eval x = .slice ad n cap → (execOp a.eval o).run P w = .ok (.value (.int .i64 n)) w := by
      intro ad n cap hev
      simp [execOp, ho, resolve, hc, hargs, htys, hev, invoke, builtin, Builtin.len_, run_underlying hu, goInt]
    simp only [stp] at hr
    split at hr
    · rename_i p s l hev
      rw [okR_inv hr] at hside ⊢
      have hv := evs_rep hx rr hev hside
      generalize hqv : a.eval x = v at hv
      cases hv with
      | d _ _ hv =>
        cases hv with
        | nil _ c ad => exact .pure rr (run hqv) (.d _ _ (.v _ rfl))
        | sl _ _ b off cap cs tt fr hb hf hs hrr => exact .pure rr (run hqv) (.d _ _ (.v _ rfl))
    · rename_i p s hev
      rw [okR_inv hr] at hside ⊢
      have hv := evs_rep hx rr hev hside
      generalize hqv : a.eval x = v at hv
      cases hv with
      | nl _ => exact .pure rr (run hqv) (.d _ _ (.v _ rfl))
    · rename_i p n g hev
      split at hr
      · rename_i t1 s1 g1 l hgo
        rw [okR_inv hr] at hside ⊢
        obtain ⟨hp, hgen⟩ := hside
        have hv := evs_rep hx rr hev hp
        generalize hqv : a.eval x = v at hv
        cases hv with
        | own _ _ _ ent hent h1' hg1 hvb =>
          obtain ⟨hge, hs0, xs, hown, _⟩ := row_ent rr hgo hent
          have hval := hvb (by rw [hge, hgen])
          rcases hown.2 with ⟨hn, hl0⟩ | ⟨b, cap, cur, hsv, _⟩
          · rw [hn] at hval
            refine .pure rr (run (hqv.trans hval)) ?_
            rw [hl0]
            exact .d _ _ (.v _ rfl)
          · rw [hsv] at hval
            exact .pure rr (run (hqv.trans hval)) (.d _ _ (.v _ rfl))
      · rename_i t1 g1 l i1 b1 hgo
        rw [okR_inv hr] at hside ⊢
        obtain ⟨hp, hgen⟩ := hside
        have hv := evs_rep hx rr hev hp
        generalize hqv : a.eval x = v at hv
        cases hv with
        | own _ _ _ ent hent h1' hg1 hvb =>
          obtain ⟨_, _, _, _, hge, hs0, xs, hown, _⟩ := rov_ent rr hgo hent
          have hval := hvb (by rw [hge, hgen])
          rw [List.length_set] at hown
          rcases hown.2 with ⟨hn, hl0⟩ | ⟨b, cap, cur, hsv, _⟩
          · omega
          · rw [hsv] at hval
            exact .pure rr (run (hqv.trans hval)) (.d _ _ (.v _ rfl))
      · rename_i t1 t2 s2 g1 l ov1 hgo
        rw [okR_inv hr] at hside ⊢
        obtain ⟨hp, hgen⟩ := hside
        have hv := evs_rep hx rr hev hp
        generalize hqv : a.eval x = v at hv
        cases hv with
        | own _ _ _ ent hent h1' hg1 hvb =>
          obtain ⟨_, vs, hvl, _, ⟨hge, hs0, xs, hown, _⟩, _⟩ := pol_ent rr hgo hent
          have hval := hvb (by rw [hge, hgen])
          rw [List.length_map, hvl] at hown
          rcases hown.2 with ⟨hn, hl0⟩ | ⟨b, cap, cur, hsv, _⟩
          · rw [hn] at hval
            refine .pure rr (run (hqv.trans hval)) ?_
            rw [hl0]
            exact .d _ _ (.v _ rfl)
          · rw [hsv] at hval
            exact .pure rr (run (hqv.trans hval)) (.d _ _ (.v _ rfl))
      · cases hr
    · cases hr
  | _ => simp [TK.fits] at hkk
theorem le_of_none {n : Nat} {x : Ent} (hn : e n = none) : ∀ y, e n = some y → y.le x := fun y hy => by rw [hn] at hy; cases hy
theorem env_none (rr : RR cx h e sl os a w) {n : Nat} (hn : lget os n = none) : e n = none := by
  cases hx : e n with
  | none => rfl
  | some x => obtain ⟨o, ho⟩ := rr.st.dom n x hx; rw [hn] at ho; cases ho
/-- A new variable. -/
theorem new_box (rr : RR cx h e sl os a w) {n : Nat} (hn : lget os n = none) {cs : Array Value} {l : List AV} (t : TypeId) (hsz : cs.size = l.length)
    (hcs : ∀ (j : Nat) (x : AV), l[j]? = some x → VRep h e (cs.getD j undef) x) (h1 : ∀ j, j < cs.size → (cs.getD j undef).oneCell' = true) :
    ∃ x : Ent, x.val = .pointer (some ⟨w.heap.size, 0, none⟩) ∧ x.gen = 0 ∧ RR cx h (e.set n x) sl (lput os n (.box l)) a (w.alloc (.cells cs t)) ∧ VRep h (e.set n x) (.pointer (some ⟨w.heap.size, 0, none⟩)) (.ptr n 0) := by
  have hen := env_none rr hn
  refine ⟨⟨.pointer (some ⟨w.heap.size, 0, none⟩), 0, []⟩, rfl, rfl, ?_, .ptr _ _ _ ⟨.pointer (some ⟨w.heap.size, 0, none⟩), 0, []⟩ (by simp [Env.set]) rfl w.heap.size rfl rfl⟩
  refine rr.upd n _ _ (grown_alloc w _) (fun b hb => by cases hb) (le_of_none hen) (fun b hb => .inr ?_) ?_
  · simp [Ent.has, blkOf] at hb; omega
  · exact ⟨rfl, w.heap.size, cs, t, rfl, heap_alloc_new w _, hsz, fun j x hj => (hcs j x hj).mono (Hp.le.refl h) (Env.le.set (le_of_none hen)), h1⟩
theorem does_al {d t : Nat} {i : TI} (hte : TEok P te) (ho : o.op = .alloc t) (ht : te t = some i) (rr : RR cx h e sl os a w)
    (hr : stp (lget sl) (lget os) (.al d i.zero) = some r) (hside : r.side) : Does P o cx h e sl os a w r := by
  obtain ⟨q, hq, hqs, hqb, z, hz, hzs, hzl, hzr, hz1, hza⟩ := (hte t _ ht).info
  simp only [stp, Option.some.injEq] at hr
  subst hr
  have hn : lget os d = none := by simpa using hside
  obtain ⟨x, hx1, hx2, hR, hV⟩ := new_box rr hn (cs := z.cells) (l := i.zero) t (by omega) (fun j av hj => (hzr j av hj h).mono (Hp.le.refl h) (fun m y hy => by cases hy)) hz1
  refine ⟨_, _, _, _, ?_, .inl rfl, hR, hV⟩
  simp [execOp, ho, Instr.alloc, zeroValue, run_ti hq, hz, newVar, newRow]
theorem does_bx {x : Operand} {y : X} {d t : Nat} (ho : o.op = .box t x) (hx : cX te t x = some y) (rr : RR cx h e sl os a w)
    (hr : stp (lget sl) (lget os) (.bx d y) = some r) (hside : r.side) : Does P o cx h e sl os a w r := by
  simp only [stp, Option.some.injEq] at hr
  generalize hev : evs (lget sl) y = pv at hr
  obtain ⟨p, av⟩ := pv
  subst hr
  obtain ⟨hp, hnn, hc⟩ := hside
  have hn : lget os d = none := by simpa using hnn
  have hv := evs_rep hx rr hev hp
  obtain ⟨c1, c2, c3⟩ := cells_rep hv hc
  obtain ⟨ent, hx1, hx2, hR, hV⟩ := new_box rr hn (cs := (a.eval x).cells) (l := cells av) t c1 c2 (fun j hj => by
    have := c3 ((a.eval x).cells[j]) (by simp)
    simpa [Array.getD, hj] using this)
  refine ⟨_, _, _, _, ?_, .inl rfl, hR, hV⟩
  simp [execOp, ho, Instr.box, newVar, newRow]
theorem toVals_rep : ∀ (l : List AV) (us : List Value), toVals l = some us → us.length = l.length ∧ ∀ (v : Value) (j : Nat) (x : AV), l[j]? = some x → VRep h e v x → us[j]? = some v
  | [], us, hu => by cases hu; simp
  | .d (.v x) :: r, us, hu => by
    simp only [toVals] at hu
    split at hu
    · rename_i l hl
      cases hu
      obtain ⟨h1, h2⟩ := toVals_rep r l hl
      refine ⟨by simp [h1], fun v j y hj hv => ?_⟩
      cases j with
      | zero =>
        simp at hj
        subst hj
        cases hv with | d _ _ q => cases q with | v _ _ => simp
      | succ j => simpa using h2 v j y (by simpa using hj) hv
    · cases hu
  | .d (.sl ..) :: r, us, hu => by simp [toVals] at hu
  | .d (.cp ..) :: r, us, hu => by simp [toVals] at hu
  | .d (.mp ..) :: r, us, hu => by simp [toVals] at hu
  | .own .. :: r, us, hu => by simp [toVals] at hu
  | .ptr .. :: r, us, hu => by simp [toVals] at hu
  | .rptr .. :: r, us, hu => by simp [toVals] at hu
  | .mp _ :: r, us, hu => by simp [toVals] at hu
  | .ag _ :: r, us, hu => by simp [toVals] at hu
  | .tp _ :: r, us, hu => by simp [toVals] at hu
  | .gd .. :: r, us, hu => by simp [toVals] at hu
  | .clo .. :: r, us, hu => by simp [toVals] at hu
  | .nl _ :: r, us, hu => by simp [toVals] at hu
  | .un :: r, us, hu => by simp [toVals] at hu
theorem ag_vals {v : Value} {l : List AV} {us : List Value} (hv : VRep h e v (.ag l)) (hu : toVals l = some us) : v = .agg us.toArray := by
  cases hv with
  | ag vs _ hl hr h1 =>
    obtain ⟨h2, h3⟩ := toVals_rep (h := h) (e := e) l us hu
    congr 1
    apply Array.ext'
    simp only []
    apply List.ext_getElem?
    intro j
    by_cases hj : j < l.length
    · have := h3 _ j _ (List.getElem?_eq_getElem hj) (hr j _ (List.getElem?_eq_getElem hj))
      rw [this]
      have hjv : j < vs.size := by omega
      simp [Array.getD, hjv]
    · rw [List.getElem?_eq_none (by simp; omega), List.getElem?_eq_none (by omega)]
/-- '==' and '!=' of plain structs. -/
theorem does_beqs {x z : Operand} {y yz : X} {d t t' : Nat} {neq : Bool} {i : TI} {ks : List LK} (hte : TEok P te) (ho : o.op = .binOp (if neq then .neq else .eql) t x z t') (ht : te t = some i) (hk : i.eq = some ks)
    (hx : cX te t x = some y) (hz : cX te t z = some yz) (rr : RR cx h e sl os a w) (hr : stp (lget sl) (lget os) (.beqs d neq ks y yz) = some r) (hside : r.side) : Does P o cx h e sl os a w r := by
  obtain ⟨hl, hg, hagg⟩ := (hte t _ ht).eqs ks hk
  obtain ⟨dd, hu, hda, _⟩ := (hte t _ ht).und
  simp only [stp] at hr
  split at hr
  · rename_i p la q lb hx' hz'
    split at hr
    · rename_i us vs hus hvs
      cases he : eqLs ks us vs with
      | none => simp [he] at hr
      | some b =>
        simp only [he, Option.bind_some] at hr
        rw [okR_inv hr] at hside ⊢
        obtain ⟨hp, hq⟩ := hside
        have e1 := ag_vals (evs_rep hx rr hx' hp) hus
        have e2 := ag_vals (evs_rep hz rr hz' hq) hvs
        have hvo : ∀ cs : List Value, valOf P t cs = some (.agg cs.toArray) := by
          intro cs
          unfold valOf
          rw [hu]
          cases dd <;> simp_all [isAggD]
        have hrun := eq_run 8 t ks hl us vs b _ _ he (hvo us) (hvo vs) 9992 w
        refine .pure rr (v := .bool (b != neq)) ?_ (.d _ _ (.v _ rfl))
        have hgd : ∀ op, (eqGuard op t x z (.agg us.toArray) (.agg vs.toArray)).run P w = .ok () w := fun op => run_eqGuard_agg w op t x z _ _ hg
        have hr1 := run_eql_struct (P := P) w t us.toArray vs.toArray
        have hr2 := run_neq_struct (P := P) w t us.toArray vs.toArray
        rw [show (10000 : Nat) = 8 + 9992 from rfl, hrun] at hr1 hr2
        simp only [Result.andThen_ok] at hr1 hr2
        cases neq
        · simp only [Bool.false_eq_true, if_false] at ho
          simp only [execOp, ho, e1, e2, Sem.run_bind, hgd, hr1, Result.andThen_ok, Sem.run_pure]
          cases b <;> rfl
        · simp only [if_true] at ho
          simp only [execOp, ho, e1, e2, Sem.run_bind, hgd, hr2, Result.andThen_ok, Sem.run_pure]
          cases b <;> rfl
    · cases hr
  · cases hr
theorem places_run (hte : TEok P te) : ∀ (fs : List Field) (ps : List (Nat × Nat)), places te (fs.map fun f => (f.offset, f.type)) = some ps →
    (fs.mapM fun f => do pure (f.offset, ← Go.sizeOf f.type) : Sem (List (Nat × Nat))).run P w = .ok ps w
  | [], ps, hp => by simp only [List.map_nil, places, Option.some.injEq] at hp; subst hp; simp
  | f :: r, ps, hp => by
    simp only [List.map_cons, places] at hp
    split at hp
    · rename_i i l hi hl
      cases hp
      obtain ⟨q, hq, hqs, _⟩ := (hte _ _ hi).info
      have ih := places_run hte r l hl
      simp only [List.mapM_cons, Sem.run_bind, run_so hq, Result.andThen_ok, Sem.run_pure, ih, hqs]
    · cases hp
theorem set_fold (cs : Array Value) (off : Nat) (vs : List Value) : ∀ (k : Nat), off + k + vs.length ≤ cs.size →
    ((vs.zipIdx k).foldl (fun cs (x : Value × Nat) => cs.setIfInBounds (off + x.2) x.1) cs).toList = splice cs.toList (off + k) vs := by
  induction vs generalizing cs with
  | nil => intro k _; simp [splice]
  | cons v vs ih =>
    intro k hk
    simp at hk
    simp only [List.zipIdx_cons, List.foldl_cons, splice]
    rw [ih _ (k + 1) (by simp; omega)]
    simp [Nat.add_assoc]
/-- A struct is put together. -/
theorem fill_rep (rr : RR cx h e sl os a w) {fs : List (Nat × Nat)} {ps : List (Nat × Nat)} : ∀ (parts : List (Nat × Operand)) (l : List ((Nat × Nat) × X)), cParts te fs ps parts = some l →
    ∀ (cs : Array Value) (z : List AV), cs.size = z.length → (∀ (j : Nat) (x : AV), z[j]? = some x → VRep h e (cs.getD j undef) x) → (∀ j, j < cs.size → (cs.getD j undef).oneCell' = true) → bldS (lget sl) z.length l →
    ∃ cs', Instr.fill (ps.toArray[·]?) cs (parts.map fun p => (p.1, a.eval p.2)) = some cs' ∧ cs'.size = (bldF (lget sl) z l).length ∧ (∀ (j : Nat) (x : AV), (bldF (lget sl) z l)[j]? = some x → VRep h e (cs'.getD j undef) x) ∧
      ∀ j, j < cs'.size → (cs'.getD j undef).oneCell' = true
  | [], l, hl, cs, z, hsz, hcs, h1, _ => by cases hl; exact ⟨cs, rfl, hsz, hcs, h1⟩
  | (i, x) :: r, l, hl, cs, z, hsz, hcs, h1, hs => by
    simp only [cParts] at hl
    split at hl
    · rename_i off0 t p lr hf hp hlr
      split at hl
      · rename_i y hy
        cases hl
        obtain ⟨off, size⟩ := p
        simp only [bldS] at hs
        obtain ⟨⟨hp1, hlen, hfit, hcell⟩, hrest⟩ := hs
        have hv := evs_rep hy rr (p := (evs (lget sl) y).1) (z := (evs (lget sl) y).2) rfl hp1
        obtain ⟨c1, c2, c3⟩ := cells_rep hv hcell
        have hnew : ((a.eval x).cells.zipIdx.foldl (fun cs (x : Value × Nat) => cs.setIfInBounds (off + x.2) x.1) cs).toList = splice cs.toList off (a.eval x).cells.toList := by
          rw [← Array.foldl_toList, Array.toList_zipIdx]
          simpa using set_fold cs off (a.eval x).cells.toList 0 (by simp; omega)
        generalize hcs' : ((a.eval x).cells.zipIdx.foldl (fun cs (x : Value × Nat) => cs.setIfInBounds (off + x.2) x.1) cs) = cs' at hnew
        have hll : (a.eval x).cells.toList.length = (cells (evs (lget sl) y).2).length := by simpa using c1
        have hsp := splice_eq (a.eval x).cells.toList cs.toList off (by simp; omega)
        have hsz' : cs'.size = cs.size := by rw [← Array.length_toList, hnew, hsp]; simp; omega
        have hgd : ∀ j, cs'.getD j undef = (cs.toList.take off ++ (a.eval x).cells.toList ++ cs.toList.drop (off + (a.eval x).cells.toList.length)).toArray.getD j undef := by
          intro j
          rw [← hsp, ← hnew]
        have hlz : (splice z off (cells (evs (lget sl) y).2)).length = z.length := by rw [splice_eq _ _ _ (by omega)]; simp; omega
        obtain ⟨cs2, g1, g2, g3, g4⟩ := fill_rep rr r lr hlr cs' (splice z off (cells (evs (lget sl) y).2)) (by omega)
          (fun j x' hj => by
            rw [hgd]
            exact mid_rep (fun v x => VRep h e v x) hsz hll (by omega) hcs (fun j x hj => by simpa [List.getD, Array.getD_eq_getD_getElem?] using c2 j x hj) j x' hj)
          (fun j hj => by rw [hgd]; exact mid_one (by simp; omega) h1 c3 j (by omega)) (by rw [hlz]; exact hrest)
        refine ⟨cs2, ?_, g2, g3, g4⟩
        have hpi : ps.toArray[i]? = some (off, size) := by simpa using hp
        have hcond : ((a.eval x).cells.size != size || decide (off + (a.eval x).cells.size > cs.size)) = false := by
          simp; omega
        simp only [List.map_cons, Instr.fill, hpi]
        have hc2 : ¬ (((a.eval x).cells.size ≠ size) ∨ off + (a.eval x).cells.size > cs.size) := by omega
        simp only [hcs']
        simpa [hc2] using g1
      · cases hl
    · cases hl
theorem does_bld {d t : Nat} {parts : Array (Nat × Operand)} {fs ps : List (Nat × Nat)} {l : List ((Nat × Nat) × X)} {a1 a2 : Nat} {a3 : Bool} {a4 : List AV} {a5 : Option (List LK)} (hte : TEok P te) (ho : o.op = .build t parts)
    (ht : te t = some ⟨a1, a2, a3, a4, .st fs, a5⟩) (hps : places te fs = some ps) (hl : cParts te fs ps parts.toList = some l) (rr : RR cx h e sl os a w)
    (hr : stp (lget sl) (lget os) (.bld d a4 l) = some r) (hside : r.side) : Does P o cx h e sl os a w r := by
  obtain ⟨dd, hu, hda, hk⟩ := (hte t _ ht).und
  obtain ⟨q, hq, hqs, hqb, z, hz, hzs, hzl, hzr, hz1, hza⟩ := (hte t _ ht).info
  simp only at hzs hzl hzr hz1 hza hqs
  cases dd with
  | struct fields =>
    simp only [TK.fits] at hk
    simp only [stp] at hr
    rw [okR_inv hr] at hside ⊢
    obtain ⟨cs', g1, g2, g3, g4⟩ := fill_rep (w := w) rr parts.toList l hl z.cells a4 (by omega) (fun j av hj => (hzr j av hj h).mono (Hp.le.refl h) (fun m y hy => by cases hy)) hz1 hside
    refine .pure rr (v := .agg cs') ?_ (.ag _ _ g2 g3 g4)
    have hpl := places_run (w := w) hte fields.toList ps (by rw [hk]; exact hps)
    have hpl' : (fields.mapM fun f => do pure (f.offset, ← Go.sizeOf f.type) : Sem (Array (Nat × Nat))).run P w = .ok ps.toArray w := by
      rw [Array.mapM_eq_mapM_toList, Sem.run_map, hpl]
      rfl
    have hpa : (parts.map fun (x : Nat × Operand) => (x.1, a.eval x.2)).toList = parts.toList.map fun p => (p.1, a.eval p.2) := by simp
    simp only [execOp, ho, Instr.build, Sem.run_bind, zeroValue, run_ti hq, hz, Result.andThen_ok, Sem.run_pure, run_underlying hu, hpl', hpa, g1]
  | _ => simp [TK.fits] at hk
theorem does_bld0 {d t n e' : Nat} {parts : Array (Nat × Operand)} {i : TI} {a1 a2 : Nat} {a3 : Bool} {a4 : List AV} {a5 : Option (List LK)} (hte : TEok P te) (ho : o.op = .build t parts)
    (ht : te t = some ⟨a1, a2, a3, a4, .arr n e', a5⟩) (hi : te e' = some i) (hp : parts.toList = []) (rr : RR cx h e sl os a w)
    (hr : stp (lget sl) (lget os) (.bld d a4 []) = some r) (hside : r.side) : Does P o cx h e sl os a w r := by
  obtain ⟨dd, hu, hda, hk⟩ := (hte t _ ht).und
  obtain ⟨q, hq, hqs, hqb, z, hz, hzs, hzl, hzr, hz1, hza⟩ := (hte t _ ht).info
  obtain ⟨q2, hq2, _⟩ := (hte e' _ hi).info
  simp only at hzs hzl hzr hz1 hza hqs
  have hpe : parts = #[] := by rw [← Array.toArray_toList (xs := parts), hp]
  cases dd with
  | array n' e2 =>
    obtain ⟨rfl, rfl⟩ : n' = n ∧ e2 = e' := hk
    simp only [stp] at hr
    rw [okR_inv hr] at hside ⊢
    refine .pure rr (v := .agg z.cells) ?_ (.ag _ _ (by simp only [bldF]; omega) (fun j av hj => (hzr j av hj h).mono (Hp.le.refl h) (fun m y hy => by cases hy)) hz1)
    simp [execOp, ho, Instr.build, hpe, zeroValue, run_ti hq, hz, run_underlying hu, run_so hq2, Instr.fill]
  | _ => simp [TK.fits] at hk
theorem does_ext {x : Operand} {y : X} {d i : Nat} (ho : o.op = .extract x i) (hx : cX te 0 x = some y) (rr : RR cx h e sl os a w) (hr : stp (lget sl) (lget os) (.ext d y i) = some r) (hside : r.side) : Does P o cx h e sl os a w r := by
  simp only [stp] at hr
  split at hr
  · rename_i p l hu
    split at hr
    · rename_i v hv
      rw [okR_inv hr] at hside ⊢
      have hvr := evs_rep hx rr hu hside
      generalize hq : a.eval x = u at hvr
      cases hvr with
      | tp vs _ hl hrr =>
        have hlt : i < vs.size := by rw [hl]; exact (List.getElem?_eq_some_iff.1 hv).1
        refine .pure rr (v := vs.getD i undef) ?_ (hrr i v hv)
        simp [execOp, ho, hq, Instr.extract, hlt, Array.getD]
    · cases hr
  · cases hr
theorem does_cv {x : Operand} {y : X} {d s t : Nat} {k k0 : IntKind} {a1 a2 b1 b2 : Nat} {a3 b3 : Bool} {a4 b4 : List AV} {a5 b5 : Option (List LK)} (hte : TEok P te) (ho : o.op = .convert s t x) (hs : te s = some ⟨b1, b2, b3, b4, .int k0, b5⟩)
    (ht : te t = some ⟨a1, a2, a3, a4, .int k, a5⟩) (hx : cX te s x = some y) (rr : RR cx h e sl os a w) (hr : stp (lget sl) (lget os) (.cv d k y) = some r) (hside : r.side) : Does P o cx h e sl os a w r := by
  obtain ⟨dd, hu, _, hk⟩ := (hte t _ ht).und
  obtain ⟨ds, hus, _, hks⟩ := (hte s _ hs).und
  simp only [stp] at hr
  split at hr
  · rename_i p k1 n hu'
    rw [okR_inv hr] at hside ⊢
    have e1 := evs_v hx rr hu' hside
    cases dd <;> simp [TK.fits] at hk
    subst hk
    cases ds <;> simp [TK.fits] at hks
    refine .pure rr (v := .int _ _) ?_ (.d _ _ (.v _ rfl))
    simp [execOp, ho, e1, convert, run_underlying hu, run_underlying hus, Conv.intToInt]
  · cases hr
theorem does_cvs {x : Operand} {y : X} {d s t : Nat} {k0 : IntKind} {a1 a2 b1 b2 : Nat} {a3 b3 : Bool} {a4 b4 : List AV} {a5 b5 : Option (List LK)} (hte : TEok P te) (ho : o.op = .convert s t x) (hs : te s = some ⟨b1, b2, b3, b4, .int k0, b5⟩)
    (ht : te t = some ⟨a1, a2, a3, a4, .str, a5⟩) (hx : cX te s x = some y) (rr : RR cx h e sl os a w) (hr : stp (lget sl) (lget os) (.cvs d y) = some r) (hside : r.side) : Does P o cx h e sl os a w r := by
  obtain ⟨dd, hu, _, hk⟩ := (hte t _ ht).und
  obtain ⟨ds, hus, _, hks⟩ := (hte s _ hs).und
  simp only [stp] at hr
  split at hr
  · rename_i p k1 n hu'
    rw [okR_inv hr] at hside ⊢
    have e1 := evs_v hx rr hu' hside
    cases dd <;> simp [TK.fits] at hk
    cases ds <;> simp [TK.fits] at hks
    refine .pure rr (v := .string _) ?_ (.d _ _ (.v _ rfl))
    simp [execOp, ho, e1, convert, run_underlying hu, run_underlying hus, Conv.intToString]
  · cases hr
theorem does_mki {x : Operand} {y : X} {d t : Nat} {i : TI} (hte : TEok P te) (ho : o.op = .makeInterface t x) (ht : te t = some i) (hi : isI i.kind = false) (hx : cX te t x = some y) (rr : RR cx h e sl os a w)
    (hr : stp (lget sl) (lget os) (.mki d t y) = some r) (hside : r.side) : Does P o cx h e sl os a w r := by
  obtain ⟨dd, hu, _, hk⟩ := (hte t _ ht).und
  simp only [stp] at hr
  split at hr
  · rename_i p v hu'
    rw [okR_inv hr] at hside ⊢
    have e1 := evs_v hx rr hu' hside
    refine .pure rr (v := .iface t v) ?_ (.d _ _ (.v _ rfl))
    cases dd <;> cases hik : i.kind <;> simp [hik, TK.fits, isI] at hk hi <;> simp [execOp, ho, e1, Instr.makeInterface, run_underlying hu]
  · cases hr
theorem does_nck {x : Operand} {y : X} {d : Nat} (ho : o.op = .nilCheck x) (hx : cX te 0 x = some y) (rr : RR cx h e sl os a w) (hr : stp (lget sl) (lget os) (.nck d y) = some r) (hside : r.side) : Does P o cx h e sl os a w r := by
  simp only [stp] at hr
  split at hr
  · rename_i p n off hu
    rw [okR_inv hr] at hside ⊢
    have hv := evs_rep hx rr hu hside
    generalize hq : a.eval x = v at hv
    have hv0 := hv
    cases hv with
    | ptr _ _ _ ent hent h1 b hb hvb =>
      refine .pure rr (v := v) ?_ hv0
      subst hvb
      simp [execOp, ho, hq]
  · rename_i p l off hu
    rw [okR_inv hr] at hside ⊢
    have hv := evs_rep hx rr hu hside
    generalize hq : a.eval x = v at hv
    have hv0 := hv
    cases hv with
    | d _ _ hv => cases hv with
      | cp _ _ b o' cs t fr hb hf hrr =>
        refine .pure rr (v := .pointer (some ⟨b, o' + off, none⟩)) ?_ hv0
        simp [execOp, ho, hq]
  · cases hr
theorem does_iap {x i : Operand} {y z : X} {d t n el : Nat} {q : TI} {a1 a2 : Nat} {a3 : Bool} {a4 : List AV} {a5 : Option (List LK)} (hte : TEok P te)
    (ho : o.op = .indexAddr t x i) (ht : te t = some ⟨a1, a2, a3, a4, .arr n el, a5⟩) (hq : te el = some q) (hn1 : 1 < n)
    (hx : cX te 0 x = some y) (hi : cX te 0 i = some z) (rr : RR cx h e sl os a w) (hr : stp (lget sl) (lget os) (.iap d n q.size y z) = some r) (hside : r.side) : Does P o cx h e sl os a w r := by
  obtain ⟨dd, hu, _, hk⟩ := (hte t _ ht).und
  cases dd with
  | array n' e' =>
    simp only [TK.fits] at hk
    obtain ⟨rfl, rfl⟩ := hk
    obtain ⟨qi, hqi, hqs, _⟩ := (hte _ _ hq).info
    simp only [stp] at hr
    split at hr
    · rename_i p m off qq k j hev hei
      rw [okR_inv hr] at hside ⊢
      obtain ⟨hp, hq', h0, h1⟩ := hside
      have hv := evs_rep hx rr hev hp
      have hi' := evs_rep hi rr hei hq'
      generalize hqv : a.eval x = v at hv
      generalize hqi' : a.eval i = vi at hi'
      cases hi' with
      | d _ _ hi' =>
        cases hi' with
        | v _ _ =>
          cases hv with
          | ptr _ _ _ ent hent h1' b hb hvb =>
            refine .pure rr (v := .pointer (some ⟨b, off + j.toNat * q.size, none⟩)) ?_ (.ptr _ _ _ ent hent rfl b hb rfl)
            subst hvb
            simp [execOp, ho, hqv, hqi', Instr.indexAt, asIntOf, run_underlying hu, h0, h1, run_so hqi, hqs, add_none, Instr.sureAddr]
    · cases hr
  | _ => simp [TK.fits] at hk
theorem does_idx {x i : Operand} {y z : X} {d t n el : Nat} {q : TI} {a1 a2 : Nat} {a3 : Bool} {a4 : List AV} {a5 : Option (List LK)} (hte : TEok P te)
    (ho : o.op = .index t x i) (ht : te t = some ⟨a1, a2, a3, a4, .arr n el, a5⟩) (hq : te el = some q)
    (hx : cX te 0 x = some y) (hi : cX te 0 i = some z) (rr : RR cx h e sl os a w) (hr : stp (lget sl) (lget os) (.idx d n q.size q.agg y z) = some r) (hside : r.side) : Does P o cx h e sl os a w r := by
  obtain ⟨dd, hu, _, hk⟩ := (hte t _ ht).und
  obtain ⟨de, hue, hda, _⟩ := (hte el _ hq).und
  cases dd with
  | array n' e' =>
    simp only [TK.fits] at hk
    obtain ⟨rfl, rfl⟩ := hk
    obtain ⟨qi, hqi, hqs, _⟩ := (hte _ _ hq).info
    simp only [stp] at hr
    split at hr
    · rename_i p l qq k j hev hei
      rw [okR_inv hr] at hside ⊢
      obtain ⟨hp, hq', h0, h1, hl, hs0⟩ := hside
      have hv := evs_rep hx rr hev hp
      have hi' := evs_rep hi rr hei hq'
      generalize hqv : a.eval x = v at hv
      generalize hqi' : a.eval i = vi at hi'
      have hjn : j.toNat < n' := by omega
      have hmul : (j.toNat + 1) * q.size ≤ n' * q.size := Nat.mul_le_mul_right _ hjn
      rw [Nat.add_mul, Nat.one_mul] at hmul
      cases hi' with
      | d _ _ hi' =>
        cases hi' with
        | v _ _ =>
          cases hv with
          | ag vs _ hvl hvr hv1 =>
            have hlt : j.toNat * q.size < vs.size := by omega
            cases ha : q.agg with
            | true =>
              refine .pure rr (v := .agg (vs.extract (j.toNat * q.size) (j.toNat * q.size + q.size))) ?_ ?_
              · simp [execOp, ho, hqv, hqi', Instr.index, asIntOf, run_underlying hu, h0, h1, run_so hqi, hqs, part, run_ia hue, hda, ha]
              · simp only [if_true]
                refine .ag _ _ (by simp; omega) (fun i a hi => ?_) (fun i hi => ?_)
                · have hil : i < q.size := by
                    have := (List.getElem?_eq_some_iff.1 hi).1
                    simp at this; omega
                  rw [List.getElem?_take_of_lt hil, List.getElem?_drop] at hi
                  have := hvr _ _ hi
                  have h3 : (vs.extract (j.toNat * q.size) (j.toNat * q.size + q.size)).getD i undef = vs.getD (j.toNat * q.size + i) undef := by
                    simp only [Array.getD_eq_getD_getElem?, Array.getElem?_extract]
                    rw [if_pos (by omega)]
                  rw [h3]; exact this
                · have hil : i < q.size := by simp at hi; omega
                  have h3 : (vs.extract (j.toNat * q.size) (j.toNat * q.size + q.size)).getD i undef = vs.getD (j.toNat * q.size + i) undef := by
                    simp only [Array.getD_eq_getD_getElem?, Array.getElem?_extract]
                    rw [if_pos (by omega)]
                  rw [h3]; exact hv1 _ (by omega)
            | false =>
              refine .pure rr (v := vs.getD (j.toNat * q.size) undef) ?_ ?_
              · simp [execOp, ho, hqv, hqi', Instr.index, asIntOf, run_underlying hu, h0, h1, run_so hqi, hqs, part, run_ia hue, hda, ha, hlt, Array.getD]
              · simp only [Bool.false_eq_true, if_false]
                have hlt2 : j.toNat * q.size < l.length := by omega
                have := hvr (j.toNat * q.size) _ (List.getElem?_eq_getElem hlt2)
                simpa [List.getD, hlt2] using this
    · cases hr
  | _ => simp [TK.fits] at hk
theorem avL_rep (rr : RR cx h e sl os a w) : ∀ (as : List Operand) (xs : List X), cXs te 0 as = some xs → avS (lget sl) xs →
    as.length = (avL (lget sl) xs).length ∧ ∀ (j : Nat) (y : AV), (avL (lget sl) xs)[j]? = some y → ∀ x, as[j]? = some x → VRep h e (a.eval x) y
  | [], xs, hc, _ => by simp only [cXs, Option.some.injEq] at hc; subst hc; simp [avL]
  | x :: r, xs, hc, hs => by
    simp only [cXs] at hc
    cases hx : cX te 0 x with
    | none => simp [hx] at hc
    | some y =>
      cases hr : cXs te 0 r with
      | none => simp [hx, hr] at hc
      | some l =>
        simp only [hx, hr, Option.some.injEq] at hc
        subst hc
        obtain ⟨h1, h2⟩ := avL_rep rr r l hr hs.2
        refine ⟨by simp [avL, h1], fun j z hj x' hx' => ?_⟩
        cases j with
        | zero =>
          simp [avL] at hj hx'
          subst hj; subst hx'
          exact evs_rep hx rr (p := (evs (lget sl) y).1) (z := (evs (lget sl) y).2) rfl hs.1
        | succ j => exact h2 j z (by simpa [avL] using hj) x' (by simpa using hx')
theorem does_mkf {first caps : Array Operand} {f d : Nat} {xs : List X} (ho : o.op = .makeFunc (.func f) first caps) (hf : first.size = 0) (hx : cXs te 0 caps.toList = some xs) (rr : RR cx h e sl os a w)
    (hr : stp (lget sl) (lget os) (.mkf d f xs) = some r) (hside : r.side) : Does P o cx h e sl os a w r := by
  simp only [stp] at hr
  rw [okR_inv hr] at hside ⊢
  obtain ⟨h1, h2⟩ := avL_rep rr _ _ hx hside
  have hf0 : first = #[] := Array.eq_empty_of_size_eq_zero hf
  refine .pure rr (v := .func (.func f) #[] (caps.map a.eval)) ?_ (.clo f _ _ (by simpa using h1) (fun j y hj => ?_))
  · subst hf0
    simp [execOp, ho, Instr.makeFunc]
  · have hjl : j < caps.size := by have := (List.getElem?_eq_some_iff.1 hj).1; simp at h1; omega
    have := h2 j y hj caps[j] (by simp [hjl])
    simpa [Array.getD, hjl] using this
theorem pickV_rep {v : Value} {t : Bool} {x y : AV} (ht : if t then VRep h e v x else VRep h e v y) : VRep h e v (pickV t x y) := by
  unfold pickV
  split
  · cases t <;> simpa using ht
  · cases t <;> simpa using ht
theorem does_pick {c x z : Operand} {yc y yz : X} {d t : Nat} (ho : o.op = .pick c x z) (hc : cX te 0 c = some yc) (hx : cX te t x = some y) (hz : cX te t z = some yz)
    (rr : RR cx h e sl os a w) (hr : stp (lget sl) (lget os) (.pick d yc y yz) = some r) (hside : r.side) : Does P o cx h e sl os a w r := by
  simp only [stp] at hr
  split at hr
  · rename_i p t hu
    rw [okR_inv hr] at hside ⊢
    obtain ⟨hp, h1, h2⟩ := hside
    have e1 := evs_v hc rr hu hp
    refine .pure rr (v := if t then a.eval x else a.eval z) ?_ (pickV_rep ?_)
    · cases t <;> simp [execOp, ho, e1, asBool]
    · cases t with
      | true => simpa using evs_rep hx rr (p := (evs (lget sl) y).1) (z := (evs (lget sl) y).2) rfl (h1 rfl)
      | false => simpa using evs_rep hz rr (p := (evs (lget sl) yz).1) (z := (evs (lget sl) yz).2) rfl (h2 rfl)
  · cases hr
theorem run_append_nothing (t ty el : TypeId) (i : TypeInfo) (ht : P.underlying t = some (.slice el)) (hi : P.info? el = some i) (v : Value) (n size : Nat) (xs : List Value) (hown : w.ownsRow 0 el size v n xs) (ad : Option Addr) (c : Nat) :
    (Builtin.append_ #[t, t] ty #[v, .slice ad 0 c]).run P w = .ok v w := by
  rcases hown.2 with ⟨rfl, rfl⟩ | ⟨g, cap, cur, rfl, _, _, hnc, _⟩
  · cases ad <;> simp [Builtin.append_, run_underlying ht, Go.sizeOf, typeInfo, hi, Builtin.lenOf, Builtin.firstCells, loadCells, loadCellsFrom]
  · cases ad <;> simp [Builtin.append_, run_underlying ht, Go.sizeOf, typeInfo, hi, Builtin.lenOf, Builtin.firstCells, hnc, storeCells, loadCells, loadCellsFrom]
/-- Elements out of the cells in which they lie. -/
theorem news_of {b off : Nat} {cs : Array Value} {t : TypeId} {fr : Nat × Nat} {s : Nat} {ys : List (List D)} (hb : w.heap[b]? = some (.cells cs t fr)) (hf : off + ys.length * s ≤ cs.size) (hs : ∀ (i : Nat) (es : List D), ys[i]? = some es → es.length = s)
    (hr : ∀ (i : Nat) (es : List D) (j : Nat) (d : D), ys[i]? = some es → es[j]? = some d → Rep h (cs.getD (off + i * s + j) undef) d) :
    ∃ news : List Value, news.length = ys.length * s ∧ (∀ (j : Nat) u, news[j]? = some u → w.cell? ((⟨b, off, none⟩ : Addr).add j) = some u) ∧ (∀ u ∈ news, u.oneCell' = true) ∧
      ∀ (i : Nat) (es : List D) (j : Nat) (d : D), ys[i]? = some es → es[j]? = some d → Rep h (news.getD (i * s + j) undef) d := by
  have hget : ∀ k, k < ys.length * s → ((cs.toList.drop off).take (ys.length * s))[k]? = cs[off + k]? := by
    intro k hk
    simp [hk]
  have hin : ∀ i es j d, ys[i]? = some es → es[j]? = some d → i * s + j < ys.length * s := by
    intro i es j d hi hj
    have hil : i < ys.length := (List.getElem?_eq_some_iff.1 hi).1
    have hjl : j < s := by rw [← hs _ _ hi]; exact (List.getElem?_eq_some_iff.1 hj).1
    have := Nat.mul_le_mul_right s hil
    rw [Nat.succ_mul] at this
    omega
  refine ⟨(cs.toList.drop off).take (ys.length * s), by simp; omega, fun k u hk => ?_, fun u hu => ?_, fun i es j d hi hj => ?_⟩
  · have hkl : k < ys.length * s := by have := (List.getElem?_eq_some_iff.1 hk).1; simp at this; omega
    rw [hget k hkl] at hk
    rw [add_none, cell_at hb]
    exact hk
  · obtain ⟨k, hk⟩ := List.getElem?_of_mem hu
    have hkl : k < ys.length * s := by have := (List.getElem?_eq_some_iff.1 hk).1; simp at this; omega
    have hs0 : 0 < s := by
      rcases Nat.eq_zero_or_pos s with h0 | h0
      · subst h0; simp at hkl
      · exact h0
    rw [hget k hkl] at hk
    have hdiv : k / s < ys.length := Nat.div_lt_of_lt_mul (by rw [Nat.mul_comm]; exact hkl)
    have hmod : k % s < s := Nat.mod_lt _ hs0
    have hi := List.getElem?_eq_getElem hdiv
    have hel := hs _ _ hi
    have hj := List.getElem?_eq_getElem (l := ys[k / s]) (i := k % s) (by omega)
    have := (hr _ _ _ _ hi hj).one
    have hk2 : off + k / s * s + k % s = off + k := by rw [Nat.add_assoc, Nat.mul_comm (k / s) s, Nat.div_add_mod]
    rw [hk2] at this
    simpa [Array.getD_eq_getD_getElem?, hk] using this
  · have hlt := hin i es j d hi hj
    have := hr i es j d hi hj
    rw [List.getD, hget _ hlt]
    rw [Nat.add_assoc] at this
    simpa [Array.getD_eq_getD_getElem?] using this
/-- The elements of a row that is read, in memory. -/
theorem elems_rep (rr : RR cx h e sl os a w) {v : Value} {y : AV} {s : Nat} {ys : List (List D)} {q : Prop} (hv : VRep h e v y) (he : elemsOf (lget os) s y = some (ys, q)) (hq : q) :
    ∃ ad c, v = .slice ad ys.length c ∧ (∀ (i : Nat) (es : List D), ys[i]? = some es → es.length = s) ∧ (ys = [] ∨ ∃ b, ad = some b ∧ ∃ news : List Value, news.length = ys.length * s ∧ (∀ (j : Nat) u, news[j]? = some u → w.cell? (b.add j) = some u) ∧
      (∀ u ∈ news, u.oneCell' = true) ∧ ∀ (i : Nat) (es : List D) (j : Nat) (d : D), ys[i]? = some es → es[j]? = some d → Rep h (news.getD (i * s + j) undef) d) := by
  unfold elemsOf at he
  split at he
  · rename_i s' l
    cases he
    subst hq
    cases hv with
    | d _ _ hv =>
      cases hv with
      | nil _ c ad => exact ⟨ad, c, rfl, by simp, .inl rfl⟩
      | sl _ _ b off cap cs tt fr hb hf hs hrr =>
        exact ⟨_, _, rfl, hs, .inr ⟨_, rfl, news_of (rr.st.vis _ _ hb) hf hs hrr⟩⟩
  · cases he
    cases hv with
    | nl _ => exact ⟨none, 0, rfl, by simp, .inl rfl⟩
  · rename_i n g
    split at he
    · rename_i t1 s1 g1 l hgo
      cases he
      obtain ⟨hgen, rfl⟩ := hq
      cases hv with
      | own _ _ _ ent hent h1' hg1 hvb =>
        obtain ⟨hge, hs0, xs, hown, hls, _⟩ := row_ent rr hgo hent
        have hval := hvb (by rw [hge, hgen])
        by_cases hl : 0 < ys.length
        · obtain ⟨b, cap, cur, hsv, hheap, hlc, hcm, hcs, hrr⟩ := row_cells rr hgo hent hl
          refine ⟨_, _, hval.trans hsv, hls, .inr ⟨_, rfl, news_of hheap ?_ hls (fun i es j d hi hj => by simpa using hrr i es j d hi hj)⟩⟩
          have := Nat.mul_le_mul_right s1 hlc
          omega
        · have h0 : ys = [] := List.eq_nil_of_length_eq_zero (by omega)
          subst h0
          rcases hown.2 with ⟨hn, _⟩ | ⟨b, cap, cur, hsv, _⟩
          · exact ⟨_, _, hval.trans hn, by simp, .inl rfl⟩
          · exact ⟨_, _, hval.trans hsv, by simp, .inl rfl⟩
    · cases he
  · cases he
theorem own_blk {v : Value} {t s n : Nat} {xs : List Value} (ho : w.ownsRow 0 t s v n xs) : v.ownBlock = blkOf v := by
  rcases ho.2 with ⟨rfl, _⟩ | ⟨b, cap, cur, rfl, _⟩ <;> rfl
theorem isSl_und {t : Nat} (hte : TEok P te) (h : isSl te t = true) : ∃ e, P.underlying t = some (.slice e) := by
  unfold isSl at h
  split at h
  · rename_i ht
    obtain ⟨dd, hu, _, hkk⟩ := (hte t _ ht).und
    cases dd with
    | slice e' => exact ⟨e', hu⟩
    | _ => exact hkk.elim
  · cases h
theorem append_ty {t t' : Nat} {e e' : Nat} {i : TypeInfo} (ht : P.underlying t = some (.slice e)) (hi : P.info? e = some i) (ht' : P.underlying t' = some (.slice e')) (ty : Nat) (u v : Value) (w : World) : (Builtin.append_ #[t, t'] ty #[u, v]).run P w = (Builtin.append_ #[t, t] ty #[u, v]).run P w := by
  cases u <;> simp [Builtin.append_, run_underlying ht, run_underlying ht', Go.sizeOf, typeInfo, hi]
theorem run_app_op {c : Call} {t t' e e' : Nat} {x y : Operand} {u : Value} {w' : World} (ho : o.op = .call c) (hc : c.callee = .builtin .append) (hargs : c.args = #[x, y]) (htys : c.argTypes = #[t, t']) {i : TypeInfo} (ht : P.underlying t = some (.slice e)) (hi : P.info? e = some i) (ht' : P.underlying t' = some (.slice e'))
    (h0 : (Builtin.append_ #[t, t] o.type #[a.eval x, a.eval y]).run P w = .ok u w') : (execOp a.eval o).run P w = .ok (.value u) w' := by
  rw [← append_ty ht hi ht'] at h0
  simp [execOp, ho, resolve, hc, hargs, htys, invoke, builtin, h0]
theorem does_app {x y : Operand} {zx zy : X} {d t t' el : Nat} {c : Call} {i : TI} {a1 a2 : Nat} {a3 : Bool} {a4 : List AV} {a5 : Option (List LK)} (hte : TEok P te) (ho : o.op = .call c) (hc : c.callee = .builtin .append) (has : c.args.toList = [x, y]) (hts : c.argTypes.toList = [t, t']) (hsl : ∃ e, P.underlying t' = some (.slice e))
    (ht : te t = some ⟨a1, a2, a3, a4, .sl el, a5⟩) (hel : te el = some i) (hpos : 0 < i.size) (hx : cX te t x = some zx) (hy : cX te t y = some zy) (rr : RR cx h e sl os a w)
    (hr : stp (lget sl) (lget os) (.app d el i.size i.bytes zx zy) = some r) (hside : r.side) : Does P o cx h e sl os a w r := by
  obtain ⟨dd, hu, _, hkk⟩ := (hte t _ ht).und
  have hargs : c.args = #[x, y] := by rw [← Array.toArray_toList (xs := c.args), has]
  have htys : c.argTypes = #[t, t'] := by rw [← Array.toArray_toList (xs := c.argTypes), hts]
  obtain ⟨_, hu'⟩ := hsl
  obtain ⟨q, hq, hqs, hqb, z, hz, hzs, _⟩ := (hte el _ hel).info
  cases dd with
  | slice e' =>
    have he' : e' = el := hkk
    subst he'
    simp only [stp] at hr
    split at hr
    · rename_i ys qy hel2
      -- what comes of it, whatever the row is that it comes to
      have key : ∀ (v : Value) (n : Nat) (l : List (List D)) (xs : List Value), a.eval x = v → w.ownsRow 0 e' i.size v l.length xs → (∀ (i' : Nat) (es : List D), l[i']? = some es → es.length = i.size) →
          (∀ (i' : Nat) (es : List D) (j : Nat) (d : D), l[i']? = some es → es[j]? = some d → Rep h (xs.getD (i' * i.size + j) undef) d) → (evs (lget sl) zy).1 → qy → (l.length + ys.length) * i.bytes ≤ 140737488355328 → l.length + ys.length ≤ maxLen →
          ∃ v' w', (execOp a.eval o).run P w = .ok (.value v') w' ∧ w.grownBy w' v.ownBlock ∧ (∀ b, blkOf v' = some b → v.ownBlock = some b ∨ w.heap.size ≤ b) ∧ ∀ g (e1 : Env), ORep h e1 w' ⟨v', g, []⟩ (.row e' i.size g (l ++ ys)) := by
        intro v n l xs hev hown hls hrr hpy hqy hby hmx
        obtain ⟨ad, cp, hvy, hys, hnews⟩ := elems_rep rr (evs_rep hy rr (p := (evs (lget sl) zy).1) (z := (evs (lget sl) zy).2) rfl hpy) hel2 hqy
        rcases hnews with rfl | ⟨b, rfl, news, hnl, hnc, hn1, hnr⟩
        · refine ⟨v, w, run_app_op ho hc hargs htys hu hq hu' (by rw [hev, hvy]; exact run_append_nothing t _ e' q hu hq v _ i.size xs hown ad cp), ⟨rfl, rfl, rfl, Nat.le_refl _, fun _ _ _ => rfl⟩, fun b hb => .inl (by rw [own_blk hown]; exact hb), fun g e1 => ?_⟩
          rw [List.append_nil]
          exact ⟨rfl, hpos, xs, hown, hls, hrr⟩
        · obtain ⟨v', w', g1, g2, g3, g4, g5⟩ := run_append_own_at (P := P) w 0 t o.type e' q z i.size i.bytes hu hq hz hqs hqb hzs hpos v l.length xs hown b ys.length cp news hnl hnc hn1 hmx hby (Nat.zero_le _)
          refine ⟨v', w', run_app_op ho hc hargs htys hu hq hu' (by rw [hev, hvy]; exact g1), g3, fun b' hb' => ?_, fun g e1 => ⟨rfl, hpos, xs ++ news, by rw [List.length_append]; exact g2, ?_, ?_⟩⟩
          · rw [← own_blk g2] at hb'
            rcases g5 with g5 | g5
            · exact .inl (by rw [← g5]; exact hb')
            · rw [g5] at hb'; cases hb'; exact .inr (Nat.le_refl _)
          · intro k es hk
            rw [List.getElem?_append] at hk
            split at hk
            · exact hls _ _ hk
            · exact hys _ _ hk
          · intro k es j d' hk hj
            rw [List.getElem?_append] at hk
            split at hk
            · rename_i hkl
              have hes := hls _ _ hk
              have hjl : j < i.size := by rw [← hes]; exact (List.getElem?_eq_some_iff.1 hj).1
              have hmul := Nat.mul_le_mul_right i.size hkl
              rw [Nat.succ_mul] at hmul
              have hxl : xs.length = l.length * i.size := hown.1
              have := hrr _ _ _ _ hk hj
              rw [List.getD, List.getElem?_append_left (by omega)]
              exact this
            · rename_i hkl
              have hxl : xs.length = l.length * i.size := hown.1
              have hmul := Nat.mul_le_mul_right i.size (Nat.le_of_not_lt hkl)
              have := hnr _ _ _ _ hk hj
              rw [Nat.sub_mul] at this
              rw [List.getD, List.getElem?_append_right (by omega), show k * i.size + j - xs.length = k * i.size - l.length * i.size + j by omega]
              exact this
      split at hr
      · rename_i p s0 hev
        cases hr
        obtain ⟨hp, hpy, hqy, hnn, hby, hmx⟩ := hside
        have hn : lget os d = none := by simpa using hnn
        have hv := evs_rep hx rr hev hp
        generalize hqv : a.eval x = v at hv
        cases hv with
        | nl _ =>
          obtain ⟨v', w', h1, h2, h3, h4⟩ := key _ 0 [] [] hqv ⟨by simp, .inl ⟨rfl, rfl⟩⟩ (by simp) (by simp) hpy hqy (by simpa using hby) (by simpa using hmx)
          have hen := env_none rr hn
          refine ⟨_, v', w', e.set d ⟨v', 0, []⟩, h1, .inl rfl, rr.upd d ⟨v', 0, []⟩ _ (ob := none) h2 (fun b hb => by cases hb) (le_of_none hen) (fun b hb => .inr ?_) (h4 0 _), .own _ d 0 ⟨v', 0, []⟩ (by simp [Env.set]) ?_ (Nat.le_refl _) (fun _ => rfl)⟩
          · rcases h3 b (by simpa [Ent.has] using hb) with q | q
            · cases q
            · exact q
          · obtain ⟨_, _, xs, hown, _⟩ := h4 0 e
            rcases hown.2 with ⟨hq', _⟩ | ⟨b, cap, cur, hq', _⟩ <;> (simp only at hq'; rw [hq']; rfl)
      · rename_i p n g hev
        split at hr
        · rename_i e1 s1 g1 l hgo
          cases hr
          obtain ⟨hp, hpy, hqy, hgen, hs1, he1, hby, hmx⟩ := hside
          subst hs1; subst he1
          have hv := evs_rep hx rr hev hp
          generalize hqv : a.eval x = v at hv
          cases hv with
          | own _ _ _ ent hent h1' hg1 hvb =>
            obtain ⟨hge, hs0, xs, hown, hls, hrr⟩ := row_ent rr hgo hent
            have hval := hvb (by rw [hge, hgen])
            obtain ⟨v', w', h1, h2, h3, h4⟩ := key _ 0 l xs hqv (by rw [hval]; exact hown) hls hrr hpy hqy hby hmx
            have hob : v.ownBlock = blkOf ent.val := by rw [hval]; exact own_blk hown
            refine ⟨_, v', w', e.set n ⟨v', g + 1, []⟩, h1, .inl rfl, rr.upd n ⟨v', g + 1, []⟩ _ (ob := v.ownBlock) h2 (fun b hb => ⟨ent, hent, .inl (by rw [← hob]; exact hb)⟩) (fun y hy => ?_) (fun b hb => h3 b (by simpa [Ent.has] using hb)) (h4 (g + 1) _), .own _ n (g + 1) ⟨v', g + 1, []⟩ (by simp [Env.set]) ?_ (Nat.le_refl _) (fun _ => rfl)⟩
            · rw [hent] at hy
              cases hy
              refine ⟨by simp only; omega, fun c => by simp only at c; omega, fun _ => ?_⟩
              rcases hown.2 with ⟨hq', _⟩ | ⟨b, cap, cur, hq', _⟩
              · exact ⟨_, _, _, hq'⟩
              · exact ⟨_, _, _, hq'⟩
            · obtain ⟨_, _, xs', hown', _⟩ := h4 (g + 1) e
              rcases hown'.2 with ⟨hq', _⟩ | ⟨b, cap, cur, hq', _⟩ <;> (simp only at hq'; rw [hq']; rfl)
        · rename_i e1 g1 l i1 b1 hgo
          cases hr
          obtain ⟨hp, hpy, hqy, hgen, hs1, he1, hby, hmx⟩ := hside
          subst he1
          have hv := evs_rep hx rr hev hp
          generalize hqv : a.eval x = v at hv
          cases hv with
          | own _ _ _ ent hent h1' hg1 hvb =>
            obtain ⟨hil, v0, hv1, hvr, hrw⟩ := rov_ent rr hgo hent
            rw [hs1] at hrw
            obtain ⟨hge, hs0, xs, hown, hls, hrr⟩ := hrw
            have hval := hvb (by rw [hge, hgen])
            obtain ⟨v', w', h1, h2, h3, h4⟩ := key _ (l.set i1 [.v v0]).length (l.set i1 [.v v0]) xs hqv (by rw [hval]; exact hown) hls hrr hpy hqy (by simpa using hby) (by simpa using hmx)
            have hob : v.ownBlock = blkOf ent.val := by rw [hval]; exact own_blk hown
            have hle : ∀ y, e n = some y → y.le ⟨v', g + 1, []⟩ := fun y hy => by
              rw [hent] at hy
              cases hy
              refine ⟨by simp only; omega, fun c => by simp only at c; omega, fun _ => ?_⟩
              rcases hown.2 with ⟨hq', _⟩ | ⟨b, cap, cur, hq', _⟩
              · exact ⟨_, _, _, hq'⟩
              · exact ⟨_, _, _, hq'⟩
            refine ⟨_, v', w', e.set n ⟨v', g + 1, []⟩, h1, .inl rfl, rr.upd n ⟨v', g + 1, []⟩ _ (ob := v.ownBlock) h2 (fun b hb => ⟨ent, hent, .inl (by rw [← hob]; exact hb)⟩) hle (fun b hb => h3 b (by simpa [Ent.has] using hb)) ?_, .own _ n (g + 1) ⟨v', g + 1, []⟩ (by simp [Env.set]) ?_ (Nat.le_refl _) (fun _ => rfl)⟩
            · have h5 := h4 (g + 1) (e.set n ⟨v', g + 1, []⟩)
              rw [← List.set_append_left _ _ hil, ← hs1] at h5
              exact ⟨by simp; omega, v0, hv1, hvr.mono (Hp.le.refl h) (Env.le.set hle), h5⟩
            · obtain ⟨_, _, xs', hown', _⟩ := h4 (g + 1) e
              rcases hown'.2 with ⟨hq', _⟩ | ⟨b, cap, cur, hq', _⟩ <;> (simp only at hq'; rw [hq']; rfl)
        · rename_i e1 e2 s2 g1 l hgo
          split at hr
          · cases hr
            obtain ⟨hp, hpy, hqy, hgen, hs1, he1, hby, hmx⟩ := hside
            subst he1
            have hv := evs_rep hx rr hev hp
            generalize hqv : a.eval x = v at hv
            cases hv with
            | own _ _ _ ent hent h1' hg1 hvb =>
              obtain ⟨hs0, vs, hvl, hv1, hrw, hov, hin, hmo, hdi, hou⟩ := pol_ent rr hgo hent
              have hrw2 := hrw
              rw [hs1] at hrw
              obtain ⟨hge, _, xs, hown, hls, hrr⟩ := hrw
              have hval := hvb (by rw [hge, hgen])
              obtain ⟨v', w', h1, h2, h3, h4⟩ := key _ (vs.map fun v => [D.v v]).length (vs.map fun v => [D.v v]) xs hqv (by rw [hval]; exact hown) hls hrr hpy hqy (by simpa [hvl] using hby) (by simpa [hvl] using hmx)
              have hob : v.ownBlock = blkOf ent.val := by rw [hval]; exact own_blk hown
              have hle : ∀ y, e n = some y → y.le ⟨v', g + 1, ent.more⟩ := fun y hy => by
                rw [hent] at hy
                cases hy
                refine ⟨by simp only; omega, fun c => by simp only at c; omega, fun _ => ?_⟩
                rcases hown.2 with ⟨hq', _⟩ | ⟨b, cap, cur, hq', _⟩
                · exact ⟨_, _, _, hq'⟩
                · exact ⟨_, _, _, hq'⟩
              have hmlt : ∀ b, b ∈ ent.more → b < w.heap.size := fun b hb => rr.st.lt hent (.inr hb)
              have hnew : ∀ b, blkOf v' = some b → b ∉ ent.more := fun b hb hm => by
                rcases h3 b hb with q | q
                · exact hou b (by rw [← hob]; exact q) hm
                · have := hmlt b hm; omega
              refine ⟨_, v', w', e.set n ⟨v', g + 1, ent.more⟩, h1, .inl rfl, rr.updG n ⟨v', g + 1, ent.more⟩ _ (ob := v.ownBlock) h2 (fun b hb => ⟨ent, hent, .inl (by rw [← hob]; exact hb)⟩) hle (fun b hb => ?_) (fun c => by cases c) ?_, .own _ n (g + 1) ⟨v', g + 1, ent.more⟩ (by simp [Env.set]) ?_ (Nat.le_refl _) (fun _ => rfl)⟩
              · rcases hb with hb | hb
                · rcases h3 b hb with q | q
                  · exact .inl ⟨ent, hent, .inl (by rw [← hob]; exact q)⟩
                  · exact .inr q
                · exact .inl ⟨ent, hent, .inr hb⟩
              · have h5 := h4 (g + 1) (e.set n ⟨v', g + 1, ent.more⟩)
                rw [← hs1, show (vs.map fun v => [D.v v]) ++ [[D.v (.slice none 0 0)]] = (vs ++ [Value.slice none 0 0]).map fun v => [D.v v] by simp] at h5
                have old : ∀ {i : Nat} {v : Value}, (vs ++ [Value.slice none 0 0])[i]? = some v → vs[i]? = some v ∨ (i = vs.length ∧ v = .slice none 0 0) := fun {i v} hi => by
                  rcases Nat.lt_trichotomy i vs.length with q | q | q
                  · rw [List.getElem?_append_left q] at hi; exact .inl hi
                  · subst q; simp at hi; exact .inr ⟨rfl, hi.symm⟩
                  · rw [List.getElem?_eq_none (by simp; omega)] at hi; cases hi
                have neo : ∀ {i : Nat} {v : Value}, vs[i]? = some v → (vs ++ [Value.slice none 0 0])[i]? = some v := fun hi => by rw [List.getElem?_append_left (List.getElem?_eq_some_iff.1 hi).1]; exact hi
                have nn : ∀ i, ∀ a' : AV, (none : Option (Nat × AV)) ≠ some (i, a') := fun i a' c => by cases c
                have h6 : RwRep h w' ⟨v', g + 1, ent.more⟩ e1 1 (g + 1) ((vs ++ [Value.slice none 0 0]).map fun v => [D.v v]) := h5
                refine ⟨hs0, vs ++ [Value.slice none 0 0], by simp [hvl], fun u hu => ?_, h6, fun i u hi a' ha' => (by cases ha'), fun i u rows hi hl hn => ?_, fun b => ?_, fun i j u u2 b hne hi hj _ _ hb hb2 => ?_, hnew⟩
                · rcases List.mem_append.1 hu with q | q
                  · exact hv1 u q
                  · simp at q; subst q; rfl
                · rcases old hi with q | ⟨q, rfl⟩
                  · have hil : i < l.length := by have := (List.getElem?_eq_some_iff.1 q).1; omega
                    rw [List.getElem?_append_left hil] at hl
                    have hin' := hin i u rows q hl (nn i)
                    refine hin'.mono (Hp.le.refl h) (fun b hb => h2.block b (hin'.lt hb) (fun c => ?_))
                    exact hou b (by rw [← hob]; exact c.symm) ((hmo b).2 ⟨i, u, q, nn i, hb⟩)
                  · subst q
                    rw [hvl] at hl
                    simp at hl
                    subst hl
                    exact ⟨rfl, hs0, [], ⟨by simp, .inl ⟨rfl, rfl⟩⟩, by simp, by simp⟩
                · show b ∈ ent.more ↔ _
                  rw [hmo b]
                  exact ⟨fun ⟨i, u, hi, hn, hb⟩ => ⟨i, u, neo hi, hn, hb⟩, fun ⟨i, u, hi, hn, hb⟩ => by
                    rcases old hi with q | ⟨_, rfl⟩
                    · exact ⟨i, u, q, hn, hb⟩
                    · simp [blkOf] at hb⟩
                · rcases old hi with q | ⟨_, rfl⟩
                  · rcases old hj with q2 | ⟨_, rfl⟩
                    · exact hdi i j u u2 b hne q q2 (nn i) (nn j) hb hb2
                    · simp [blkOf] at hb2
                  · simp [blkOf] at hb
              · obtain ⟨_, _, xs', hown', _⟩ := h4 (g + 1) e
                rcases hown'.2 with ⟨hq', _⟩ | ⟨b, cap, cur, hq', _⟩ <;> (simp only at hq'; rw [hq']; rfl)
          · cases hr
        · cases hr
      · cases hr
    · cases hr
  | _ => exact hkk.elim
theorem fillS {s : Nat} : ∀ (parts : List (Nat × Value)) (k : Nat) (cs : Array Value), parts.map (·.1) = List.range' k parts.length → (∀ p ∈ parts, p.2.cells.size = s) → (k + parts.length) * s ≤ cs.size →
    ∃ cs', Instr.fill (fun i => some (i * s, s)) cs parts = some cs' ∧ cs'.size = cs.size ∧ (∀ p, p < k * s → cs'.getD p undef = cs.getD p undef) ∧
      ∀ (i : Nat) (p : Nat × Value) (j : Nat), parts[i]? = some p → j < s → cs'.getD ((k + i) * s + j) undef = p.2.cells.getD j undef
  | [], k, cs, _, _, _ => ⟨cs, rfl, rfl, fun _ _ => rfl, by simp⟩
  | (i0, v) :: r, k, cs, hk, hc, hf => by
    simp only [List.map_cons, List.length_cons, List.range'_succ, List.cons.injEq] at hk
    obtain ⟨rfl, hk⟩ := hk
    have hv : v.cells.size = s := hc (i0, v) (by simp)
    have hmul : (i0 + (r.length + 1)) * s = i0 * s + s + r.length * s := by rw [Nat.add_mul, Nat.add_mul, Nat.one_mul]; omega
    simp only [List.length_cons] at hf
    have hnew : (v.cells.zipIdx.foldl (fun cs (x : Value × Nat) => cs.setIfInBounds (i0 * s + x.2) x.1) cs).toList = splice cs.toList (i0 * s) v.cells.toList := by
      rw [← Array.foldl_toList, Array.toList_zipIdx]
      simpa using set_fold cs (i0 * s) v.cells.toList 0 (by simp; omega)
    generalize hcs1 : (v.cells.zipIdx.foldl (fun cs (x : Value × Nat) => cs.setIfInBounds (i0 * s + x.2) x.1) cs) = cs1 at hnew
    rw [splice_eq _ _ _ (by simp; omega)] at hnew
    have hsz : cs1.size = cs.size := by
      have := congrArg List.length hnew
      simp at this
      omega
    have hget : ∀ p, cs1.getD p undef = if p < i0 * s then cs.getD p undef else if p < i0 * s + s then v.cells.getD (p - i0 * s) undef else cs.getD p undef := by
      intro p
      have h1 : cs1[p]? = cs1.toList[p]? := by simp
      rw [Array.getD_eq_getD_getElem?, h1, hnew, mid_get _ _ _ _ (by simp; omega)]
      simp only [Array.length_toList, hv]
      split
      · simp [Array.getD_eq_getD_getElem?]
      · split <;> simp [Array.getD_eq_getD_getElem?]
    obtain ⟨cs', h1, h2, h3, h4⟩ := fillS r (i0 + 1) cs1 hk (fun p hp => hc p (by simp [hp])) (by rw [hsz]; rw [show i0 + 1 + r.length = i0 + (r.length + 1) by omega]; exact hf)
    have hmul1 : (i0 + 1) * s = i0 * s + s := by rw [Nat.add_mul, Nat.one_mul]
    refine ⟨cs', ?_, by rw [h2, hsz], fun p hp => ?_, fun i p j hi hj => ?_⟩
    · simp only [Instr.fill, hv, ne_eq, not_true_eq_false, decide_false, Bool.false_or]
      rw [if_neg (by simp; omega)]
      rw [hcs1]
      exact h1
    · rw [h3 p (by omega), hget, if_pos hp]
    · cases i with
      | zero =>
        simp at hi
        subst hi
        rw [Nat.add_zero, h3 _ (by omega), hget, if_neg (by omega), if_pos (by omega)]
        rw [show i0 * s + j - i0 * s = j by omega]
      | succ i =>
        have := h4 i p j (by simpa using hi) hj
        rw [show i0 + (i + 1) = i0 + 1 + i by omega]
        exact this
theorem cXs_get {t : Nat} : ∀ {xs : List Operand} {l : List X}, cXs te t xs = some l → l.length = xs.length ∧ ∀ (i : Nat) x, xs[i]? = some x → ∃ y, l[i]? = some y ∧ cX te t x = some y
  | [], l, h => by cases h; simp
  | x :: r, l, h => by
    simp only [cXs] at h
    split at h
    · rename_i y l' hy hl
      cases h
      obtain ⟨h1, h2⟩ := cXs_get hl
      refine ⟨by simp [h1], fun i x' hi => ?_⟩
      cases i with
      | zero => simp at hi; subst hi; exact ⟨y, by simp, hy⟩
      | succ i => simpa using h2 i x' (by simpa using hi)
    · cases h
theorem cXn_get {t : Nat} {xs : List Operand} {l : List X} (hl : cXn te t xs = some l) (rr : RR cx h e sl os a w) : l.length = xs.length ∧ ∀ (i : Nat) x, xs[i]? = some x → ∃ y, l[i]? = some y ∧ ((evs (lget sl) y).1 → VRep h e (a.eval x) (evs (lget sl) y).2) := by
  unfold cXn at hl
  split at hl
  · cases hl
    refine ⟨rfl, fun i x hx => ?_⟩
    cases i with
    | zero => simp at hx; subst hx; exact ⟨_, rfl, fun _ => .d _ _ (.v _ rfl)⟩
    | succ i => simp at hx
  · obtain ⟨h1, h2⟩ := cXs_get hl
    refine ⟨h1, fun i x hx => ?_⟩
    obtain ⟨y, hy, hc⟩ := h2 i x hx
    exact ⟨y, hy, fun hp => evs_rep hc rr rfl hp⟩
theorem bslD_get {gs : Nat → Option AV} {s : Nat} : ∀ {l : List X} {ds : List (List D)}, bslD gs l = some ds → bslS gs s l → ds.length = l.length ∧ ∀ (i : Nat) x, l[i]? = some x → (evs gs x).1 ∧ (cells (evs gs x).2).length = s ∧ ∃ d, ds[i]? = some d ∧ toDs (cells (evs gs x).2) = some d
  | [], ds, h, _ => by cases h; simp
  | x :: r, ds, h, hs => by
    simp only [bslD] at h
    split at h
    · rename_i d l' hd hl
      cases h
      obtain ⟨h1, h2⟩ := bslD_get hl hs.2.2
      refine ⟨by simp [h1], fun i x' hi => ?_⟩
      cases i with
      | zero => simp at hi; subst hi; exact ⟨hs.1, hs.2.1, d, by simp, hd⟩
      | succ i => simpa using h2 i x' (by simpa using hi)
    · cases h
theorem bsl_core {parts : Array (Nat × Operand)} {n t el : Nat} {l : List X} {i : TI} {a1 a2 : Nat} {a3 : Bool} {a4 : List AV} {a5 : Option (List LK)} (hte : TEok P te) (ho : o.op = .buildSlice t n parts) (ht : te t = some ⟨a1, a2, a3, a4, .sl el, a5⟩) (hel : te el = some i)
    (hpos : 0 < i.size) (hix : parts.toList.map (·.1) = List.range n) (hlim : n * i.size ≤ 2 ^ 24) (hl : cXn te el (parts.toList.map (·.2)) = some l) (rr : RR cx h e sl os a w)
    {ds : List (List D)} (hds : bslD (lget sl) l = some ds) (hs : bslS (lget sl) i.size l) :
    ∃ cs' : Array Value, (execOp a.eval o).run P w = .ok (.value (.slice (some ⟨w.heap.size, 0, none⟩) n n)) (w.alloc (.cells cs' el)) ∧ ds.length = n ∧ cs'.size = n * i.size ∧ n ≤ maxLen ∧
      (∀ (k : Nat) (es : List D), ds[k]? = some es → es.length = i.size) ∧ ∀ (k : Nat) (es : List D) (j : Nat) (x : D), ds[k]? = some es → es[j]? = some x → Rep h (cs'.getD (k * i.size + j) undef) x := by
  obtain ⟨dd, hu, _, hkk⟩ := (hte t _ ht).und
  obtain ⟨q, hq, hqs, hqb, z, hz, hzs, _⟩ := (hte el _ hel).info
  have hnl : parts.toList.length = n := by have := congrArg List.length hix; simpa using this
  cases dd with
  | slice e' =>
    have he' : e' = el := hkk
    subst he'
    · obtain ⟨g1, g2⟩ := cXn_get hl rr
      obtain ⟨g3, g4⟩ := bslD_get hds hs
      simp only [List.length_map] at g1
      let vals : List (Nat × Value) := parts.toList.map fun p => (p.1, a.eval p.2)
      have hcell : ∀ (k : Nat) (p : Nat × Value), vals[k]? = some p → p.2.cells.size = i.size ∧ ∃ es, ds[k]? = some es ∧ es.length = i.size ∧ ∀ (j : Nat) (x : D), es[j]? = some x → Rep h (p.2.cells.getD j undef) x := by
        intro k p hk
        simp only [vals, List.getElem?_map, Option.map_eq_some_iff] at hk
        obtain ⟨p0, hp0, rfl⟩ := hk
        obtain ⟨y, hy, hcy⟩ := g2 k p0.2 (by simp [hp0])
        obtain ⟨k1, k2, es, k3, k4⟩ := g4 k y hy
        obtain ⟨t1, t2, t3⟩ := toDs_map _ _ k4
        have hv := hcy k1
        obtain ⟨c1, c2, c3⟩ := cells_rep hv t2
        refine ⟨by rw [← k2]; exact c1, es, k3, by rw [t1, k2], fun j x hj => ?_⟩
        have hjl : j < (cells (evs (lget sl) y).2).length := by rw [← t1]; exact (List.getElem?_eq_some_iff.1 hj).1
        exact t3 _ j _ x (List.getElem?_eq_getElem hjl) hj (c2 j _ (List.getElem?_eq_getElem hjl))
      generalize hcs : ((Array.range (n * i.size)).map (fun k => (if n * i.size = 0 then (#[] : Array Value) else z.cells)[k % (if n * i.size = 0 then (#[] : Array Value) else z.cells).size]!)) = cs0
      have hsz0 : cs0.size = n * i.size := by rw [← hcs]; simp
      obtain ⟨cs', f1, f2, _, f4⟩ := fillS (s := i.size) vals 0 cs0 (by simp only [vals, List.map_map, List.length_map]; rw [hnl, ← List.range_eq_range', ← hix]; rfl) (fun p hp => by
        obtain ⟨k, hk⟩ := List.getElem?_of_mem hp
        exact (hcell k p hk).1) (by rw [hsz0]; simp [vals, hnl])
      have hdl : ds.length = n := by rw [g3, g1, hnl]
      have hrun : (execOp a.eval o).run P w = .ok (.value (.slice (some ⟨w.heap.size, 0, none⟩) n n)) (w.alloc (.cells cs' e')) := by
        have hf : Instr.fill (fun k => some (k * i.size, i.size)) cs0 (parts.map fun p => (p.1, a.eval p.2)).toList = some cs' := by
          rw [Array.toList_map]; exact f1
        have hlim' : ¬ n * i.size > 2 ^ 24 := by omega
        by_cases h0 : n * i.size = 0
        · simp only [if_pos h0] at hcs
          simp only [execOp, ho, Instr.buildSlice, Sem.run_bind, run_underlying hu, Result.andThen_ok, run_so hq, hqs, if_neg hlim', if_pos h0, Sem.run_pure, hcs, hf, newRow]
          simp
        · simp only [if_neg h0] at hcs
          simp only [execOp, ho, Instr.buildSlice, Sem.run_bind, run_underlying hu, Result.andThen_ok, run_so hq, hqs, if_neg hlim', if_neg h0, Sem.run_pure, zeroValue, run_ti hq, hz, hcs, hf, newRow]
          simp
      have hmx : n ≤ maxLen := by
        have : n * 1 ≤ n * i.size := Nat.mul_le_mul_left _ hpos
        have hmm : maxLen = 9223372036854775807 := rfl
        omega
      · refine ⟨cs', hrun, hdl, by rw [f2, hsz0], hmx, fun k es hk => ?_, fun k es j x hk hj => ?_⟩
        · have hkl : k < vals.length := by have := (List.getElem?_eq_some_iff.1 hk).1; simp only [vals, List.length_map]; omega
          obtain ⟨_, es', h1, h2, _⟩ := hcell k _ (List.getElem?_eq_getElem hkl)
          rw [hk] at h1; cases h1; exact h2
        · have hkl : k < vals.length := by have := (List.getElem?_eq_some_iff.1 hk).1; simp only [vals, List.length_map]; omega
          obtain ⟨_, es', h1, h2, h3⟩ := hcell k _ (List.getElem?_eq_getElem hkl)
          rw [hk] at h1; cases h1
          have hjl : j < i.size := by rw [← h2]; exact (List.getElem?_eq_some_iff.1 hj).1
          have := f4 k _ j (List.getElem?_eq_getElem hkl) hjl
          rw [Nat.zero_add] at this
          rw [this]
          exact h3 j x hj
  | _ => exact hkk.elim
theorem does_bsl {parts : Array (Nat × Operand)} {n d t el : Nat} {l : List X} {i : TI} {a1 a2 : Nat} {a3 : Bool} {a4 : List AV} {a5 : Option (List LK)} (hte : TEok P te) (ho : o.op = .buildSlice t n parts) (ht : te t = some ⟨a1, a2, a3, a4, .sl el, a5⟩) (hel : te el = some i)
    (hpos : 0 < i.size) (hix : parts.toList.map (·.1) = List.range n) (hlim : n * i.size ≤ 2 ^ 24) (hl : cXn te el (parts.toList.map (·.2)) = some l) (rr : RR cx h e sl os a w)
    (hr : stp (lget sl) (lget os) (.bsl d el i.size l) = some r) (hside : r.side) : Does P o cx h e sl os a w r := by
  simp only [stp] at hr
  split at hr
  · rename_i ds hds
    cases hr
    obtain ⟨hs, hnn⟩ := hside
    have hn : lget os d = none := by simpa using hnn
    have hen := env_none rr hn
    obtain ⟨cs', hrun, hdl, hsz, hmx, hls, hrs⟩ := bsl_core hte ho ht hel hpos hix hlim hl rr hds hs
    refine ⟨_, _, _, e.set d ⟨.slice (some ⟨w.heap.size, 0, none⟩) n n, 0, []⟩, hrun, .inl rfl, rr.upd d _ _ (ob := none) (grown_alloc w _) (fun b hb => by cases hb) (le_of_none hen) (fun b hb => .inr ?_) ?_, .own _ d 0 _ (by simp [Env.set]; rfl) rfl (Nat.le_refl _) (fun _ => rfl)⟩
    · simp [Ent.has, blkOf] at hb; omega
    · exact row_mk (b := w.heap.size) (cap := n) rfl hpos (by rw [hdl]) (heap_alloc_new w _) (by rw [hdl]; exact Nat.le_refl _) hmx hsz hls hrs
  · cases hr
/-- What is new, and turns no more. -/
theorem RR.fresh (rr : RR cx h e sl os a w) (ob : Obj) : ∃ h', h.le h' ∧ h' w.heap.size = some ob ∧ RR cx h' e sl os a (w.alloc ob) := by
  let h' : Hp := fun b => if b = w.heap.size then some ob else h b
  have hlt : ∀ b o, h b = some o → b < w.heap.size := fun b o hb => (Array.getElem?_eq_some_iff.1 (rr.st.vis b o hb)).1
  have hh : h.le h' := fun b o hb => by simp only [h']; rw [if_neg (by have := hlt b o hb; omega)]; exact hb
  have r1 := rr.grown (grown_alloc w ob)
  refine ⟨h', hh, by simp [h'], ⟨⟨fun b o hb => ?_, fun n o hn => ?_, r1.st.dom, r1.st.sep, fun n x b hx hb => ?_, r1.st.lone⟩, ⟨r1.fr.os, r1.fr.tape, r1.fr.output, r1.fr.size, r1.fr.old, fun b hb => ?_, r1.fr.own, r1.fr.keep⟩, fun t x hx => (r1.slots t x hx).mono hh (Env.le.refl e), r1.size, r1.defers⟩⟩
  · simp only [h'] at hb
    split at hb
    · rename_i c; subst c; cases hb; exact heap_alloc_new w _
    · exact r1.st.vis b o hb
  · obtain ⟨x, hx, hr⟩ := r1.st.obj n o hn
    exact ⟨x, hx, hr.mono hh (Env.le.refl e) (fun _ _ => rfl)⟩
  · have := rr.st.lt hx hb
    simp only [h']
    rw [if_neg (by omega)]
    exact rr.st.excl n x b hx hb
  · simp only [h']
    rw [if_neg (by have := rr.fr.size; omega)]
    exact rr.fr.hold b hb
/-- A row that is read alone. -/
theorem does_bslF {parts : Array (Nat × Operand)} {n d t el : Nat} {l : List X} {i : TI} {a1 a2 : Nat} {a3 : Bool} {a4 : List AV} {a5 : Option (List LK)} (hte : TEok P te) (ho : o.op = .buildSlice t n parts) (ht : te t = some ⟨a1, a2, a3, a4, .sl el, a5⟩) (hel : te el = some i)
    (hpos : 0 < i.size) (hix : parts.toList.map (·.1) = List.range n) (hlim : n * i.size ≤ 2 ^ 24) (hl : cXn te el (parts.toList.map (·.2)) = some l) (rr : RR cx h e sl os a w)
    (hr : stp (lget sl) (lget os) (.bslF d el i.size l) = some r) (hside : r.side) : ∃ h', Does P o cx h' e sl os a w r := by
  simp only [stp] at hr
  split at hr
  · rename_i ds hds
    rw [okR_inv hr] at hside ⊢
    obtain ⟨cs', hrun, hdl, hsz, hmx, hls, hrs⟩ := bsl_core hte ho ht hel hpos hix hlim hl rr hds hside
    obtain ⟨h', hh, hb, r1⟩ := rr.fresh (.cells cs' el (0, 0))
    refine ⟨h', _, _, _, e, hrun, .inl rfl, r1, .d _ _ ?_⟩
    have := Rep.sl (h := h') i.size ds w.heap.size 0 n cs' el (0, 0) hb (by rw [hdl, hsz]; omega) hls (fun k es j x hk hj => by simpa using (hrs k es j x hk hj).mono hh) (by rw [hdl]; exact Nat.le_refl _)
    rw [hdl] at this
    exact this
  · cases hr
theorem does_mx {x y : Operand} {zx zy : X} {d t : Nat} {c : Call} (mn : Bool) (ho : o.op = .call c) (hc : c.callee = .builtin (if mn then .min else .max)) (has : c.args.toList = [x, y]) (hx : cX te t x = some zx) (hy : cX te t y = some zy) (rr : RR cx h e sl os a w)
    (hr : stp (lget sl) (lget os) (.mx d mn zx zy) = some r) (hside : r.side) : Does P o cx h e sl os a w r := by
  have hargs : c.args = #[x, y] := by rw [← Array.toArray_toList (xs := c.args), has]
  simp only [stp] at hr
  split at hr
  · rename_i p k m q k' m' h1 h2
    rw [okR_inv hr] at hside ⊢
    have e1 := evs_v hx rr h1 hside.1
    have e2 := evs_v hy rr h2 hside.2
    refine .pure rr (v := .int k (if mn then (if m' < m then m' else m) else (if m' > m then m' else m))) ?_ (.d _ _ (.v _ rfl))
    cases mn with
    | true => simp [execOp, ho, resolve, hc, hargs, e1, e2, invoke, builtin, Builtin.min_, Builtin.min2]
    | false => simp [execOp, ho, resolve, hc, hargs, e1, e2, invoke, builtin, Builtin.max_, Builtin.max2]
  · cases hr
theorem does_mks {x : Operand} {y : X} {d t el : Nat} {i : TI} {a1 a2 : Nat} {a3 : Bool} {a4 : List AV} {a5 : Option (List LK)} (hte : TEok P te) (ho : o.op = .makeSlice t x x) (ht : te t = some ⟨a1, a2, a3, a4, .sl el, a5⟩) (hel : te el = some i)
    (hpos : 0 < i.size) (hx : cX te 0 x = some y) (rr : RR cx h e sl os a w)
    (hr : stp (lget sl) (lget os) (.mks d el i.size i.bytes i.zero y) = some r) (hside : r.side) : Does P o cx h e sl os a w r := by
  obtain ⟨dd, hu, _, hkk⟩ := (hte t _ ht).und
  obtain ⟨q, hq, hqs, hqb, z, hz, hzs, hzl, hzr, hz1, _⟩ := (hte el _ hel).info
  cases dd with
  | slice e' =>
    have he' : e' = el := hkk
    subst he'
    simp only [stp] at hr
    split at hr
    · rename_i p k m zs hev hzd
      cases hr
      obtain ⟨hp, hm0, hnn, hby, hmx⟩ := hside
      have hn : lget os d = none := by simpa using hnn
      have hen := env_none rr hn
      have hvx := evs_v hx rr hev hp
      obtain ⟨n, rfl⟩ := Int.eq_ofNat_of_zero_le hm0
      simp only [Int.toNat_natCast] at hby hmx hvx
      have hby' : (q.bytes : Int) * (n : Int) ≤ 281474976710656 := by
        have h1 : ((i.bytes * n : Nat) : Int) ≤ 281474976710656 := by omega
        rw [hqb, ← Int.natCast_mul]; exact h1
      have hmm : maxLen = 9223372036854775807 := rfl
      have hrun := run_make (P := P) w t e' q z hu hq hz k k n n (by omega) (Int.le_refl _) hby' (by omega)
      simp only [Int.toNat_natCast, hqs] at hrun
      obtain ⟨t1, t2, t3⟩ := toDs_map (h := h) (e := noE) _ _ hzd
      have hzlen : zs.length = i.size := by rw [t1, hzl]
      have hrun2 : (execOp a.eval o).run P w = .ok (.value (.slice (some ⟨w.heap.size, 0, none⟩) n n)) (w.alloc (.cells (madeCells z.cells (n * i.size)) e')) := by
        simp [execOp, ho, hvx, hrun]
      refine ⟨_, _, _, e.set d ⟨.slice (some ⟨w.heap.size, 0, none⟩) n n, 0, []⟩, hrun2, .inl rfl, rr.upd d _ _ (ob := none) (grown_alloc w _) (fun b hb => by cases hb) (le_of_none hen) (fun b hb => .inr ?_) ?_, .own _ d 0 _ (by simp [Env.set]; rfl) rfl (Nat.le_refl _) (fun _ => rfl)⟩
      · simp [Ent.has, blkOf] at hb; omega
      · have hlr : (List.replicate (Int.toNat (n : Int)) zs).length = n := by simp
        refine row_mk (b := w.heap.size) (cap := n) rfl hpos (by rw [hlr]) (heap_alloc_new w _) (by rw [hlr]; exact Nat.le_refl _) hmx (by rw [size_madeCells]) (fun k es hk => ?_) (fun k es j x hk hj => ?_)
        · have := List.mem_of_getElem? hk
          rw [(List.mem_replicate.1 this).2]; exact hzlen
        · have hkl : k < n := by have := (List.getElem?_eq_some_iff.1 hk).1; rwa [hlr] at this
          have := List.mem_of_getElem? hk
          have hes := (List.mem_replicate.1 this).2
          subst hes
          have hjl : j < i.size := by rw [← hzlen]; exact (List.getElem?_eq_some_iff.1 hj).1
          have hpos2 : k * i.size + j < n * i.size := by
            have := Nat.mul_le_mul_right i.size hkl
            rw [Nat.succ_mul] at this
            omega
          have hmod : (k * i.size + j) % i.size = j := by rw [Nat.mul_comm, Nat.mul_add_mod, Nat.mod_eq_of_lt hjl]
          have hcell : (madeCells z.cells (n * i.size)).getD (k * i.size + j) undef = z.cells.getD j undef := by
            simp [madeCells, Array.getD, hpos2, hzs, hmod, hjl]
          rw [hcell]
          have hja : j < i.zero.length := by omega
          exact t3 _ j _ x (List.getElem?_eq_getElem hja) hj (hzr j _ (List.getElem?_eq_getElem hja) h)
    · cases hr
  | _ => exact hkk.elim
theorem bnd_run {lo : Option Operand} {lx : Option X} (hx : cXo te lo = some lx) (rr : RR cx h e sl os a w) {dflt n : Nat} {q : Prop} (hb : bndV (lget sl) dflt lx = some (q, n)) (hq : q) :
    (lo = none ∧ n = dflt) ∨ ∃ k, lo.map a.eval = some (.int k n) := by
  cases lo with
  | none =>
    simp only [cXo, Option.some.injEq] at hx
    subst hx
    simp only [bndV, Option.some.injEq, Prod.mk.injEq] at hb
    exact .inl ⟨rfl, hb.2.symm⟩
  | some x =>
    obtain ⟨y, hy, rfl⟩ := Option.map_eq_some_iff.1 hx
    simp only [bndV] at hb
    split at hb
    · rename_i p k i hev
      simp only [Option.some.injEq, Prod.mk.injEq] at hb
      obtain ⟨rfl, rfl⟩ := hb
      have := evs_v hy rr hev hq.1
      exact .inr ⟨k, by simp [this, Int.toNat_of_nonneg hq.2]⟩
    · cases hb
theorem run_bound {v : Value} {k : IntKind} {i y : Nat} (hv : v = .int k i) (hi : i ≤ y) (c : BoundsCode) : (Instr.sliceBound v y c).run P w = .ok i w := by
  subst hv
  have : (0 : Int) ≤ i ∧ (i : Int) ≤ y := by omega
  simp [Instr.sliceBound, asIntOf, hi]
theorem run_bounds {isS : Bool} {len cap lo hi : Nat} {l r : Option Value} (hl : (l = none ∧ lo = 0) ∨ ∃ k, l = some (.int k lo)) (hr : (r = none ∧ hi = len) ∨ ∃ k, r = some (.int k hi)) (h1 : lo ≤ hi) (h2 : hi ≤ cap) :
    (Instr.sliceBounds isS len cap l r none).run P w = .ok (lo, hi, cap) w := by
  rcases hl with ⟨rfl, rfl⟩ | ⟨k, rfl⟩ <;> rcases hr with ⟨rfl, rfl⟩ | ⟨k', rfl⟩ <;>
    simp [Instr.sliceBounds, run_bound (P := P) (w := w) rfl h1, run_bound (P := P) (w := w) rfl h2]
theorem does_slc {x : Operand} {lo hi : Option Operand} {y : X} {lx hx' : Option X} {d t s : Nat} (hte : TEok P te) (ho : o.op = .slice t x lo hi none)
    (hk : (∃ a1 a2 a3 a4 a5 el q, te t = some ⟨a1, a2, a3, a4, .sl el, a5⟩ ∧ te el = some q ∧ q.size = s ∧ 0 < s) ∨ (∃ a1 a2 a3 a4 a5, te t = some ⟨a1, a2, a3, a4, .str, a5⟩ ∧ s = 0))
    (hx : cX te t x = some y) (hlo : cXo te lo = some lx) (hhi : cXo te hi = some hx') (rr : RR cx h e sl os a w) (hr : stp (lget sl) (lget os) (.slc d s y lx hx') = some r) (hside : r.side) : Does P o cx h e sl os a w r := by
  have hb : ∀ {lo : Option Operand} {n dflt : Nat}, ((lo = none ∧ n = dflt) ∨ ∃ k, lo.map a.eval = some (.int k n)) → (lo.map a.eval = none ∧ n = dflt) ∨ ∃ k, lo.map a.eval = some (.int k n) := by
    rintro lo n dflt (⟨rfl, rfl⟩ | hk)
    · exact .inl ⟨rfl, rfl⟩
    · exact .inr hk
  simp only [stp] at hr
  split at hr
  · rename_i p s' l hev
    split at hr
    · rename_i q A r' B hA hB
      rw [okR_inv hr] at hside ⊢
      obtain ⟨hp, hq, hr', rfl, hs0, hAB, hBl⟩ := hside
      have hv := evs_rep hx rr hev hp
      have bA := hb (bnd_run hlo rr hA hq)
      have bB := hb (bnd_run hhi rr hB hr')
      have hsl : ∃ a1 a2 a3 a4 a5 el q, te t = some ⟨a1, a2, a3, a4, .sl el, a5⟩ ∧ te el = some q ∧ q.size = s' ∧ 0 < s' := by
        rcases hk with hk | ⟨a1, a2, a3, a4, a5, ht, h0⟩
        · exact hk
        · omega
      obtain ⟨a1, a2, a3, a4, a5, el, q, ht, hel, hqs, hpos⟩ := hsl
      obtain ⟨dd, hu, _, hkk⟩ := (hte t _ ht).und
      obtain ⟨qi, hqi, hqis, _⟩ := (hte el _ hel).info
      cases dd with
      | slice e' =>
        have he' : e' = el := hkk
        subst he'
        generalize hqv : a.eval x = v at hv
        cases hv with
        | d _ _ hv =>
          cases hv with
          | nil _ c ad =>
            simp only [List.length_nil] at bB hBl
            have hA0 : A = 0 := by omega
            have hB0 : B = 0 := by omega
            subst hA0; subst hB0
            have hrun := run_bounds (P := P) (w := w) (isS := true) (len := 0) (cap := c) bA bB (Nat.le_refl _) (Nat.zero_le _)
            refine .pure rr (v := .slice (if c = 0 then ad else ad.map (·.add (0 * qi.size))) 0 (c - 0)) ?_ (.d _ _ ?_)
            · simp [execOp, ho, hqv, Instr.sliceAt, Instr.slice, run_underlying hu, hrun, run_so hqi]
            · simpa using Rep.nil s' (c - 0) _
          | sl _ _ b off cap cs tt fr hb hf hs hrr hcap =>
            have hrun := run_bounds (P := P) (w := w) (isS := true) (len := l.length) (cap := cap) bA bB hAB (by omega)
            refine .pure rr (v := .slice (if cap = A then some ⟨b, off, none⟩ else some ⟨b, off + A * s', none⟩) (B - A) (cap - A)) ?_ (.d _ _ ?_)
            · simp [execOp, ho, hqv, Instr.sliceAt, Instr.slice, run_underlying hu, hrun, run_so hqi, hqis, hqs, add_none]
            · by_cases h0 : A = B
              · subst h0
                have : (l.take A).drop A = [] := List.drop_eq_nil_of_le (by simp; omega)
                rw [this, Nat.sub_self]
                exact .nil _ _ _
              · rw [if_neg (by omega)]
                have hlen : ((l.take B).drop A).length = B - A := by simp; omega
                have hget : ∀ (i : Nat) (es : List D), ((l.take B).drop A)[i]? = some es → l[A + i]? = some es := by
                  intro i es hi
                  rw [List.getElem?_drop, List.getElem?_take] at hi
                  split at hi
                  · exact hi
                  · cases hi
                have := Rep.sl (h := h) s' ((l.take B).drop A) b (off + A * s') (cap - A) cs tt fr hb (by
                    rw [hlen, Nat.add_assoc, ← Nat.add_mul, Nat.add_sub_cancel' hAB]
                    have := Nat.mul_le_mul_right s' hBl
                    omega) (fun i es hi => hs _ _ (hget i es hi)) (fun i es j dd hi hj => by
                    have := hrr _ _ j dd (hget i es hi) hj
                    rw [Nat.add_mul] at this
                    rwa [Nat.add_assoc off] ) (by rw [hlen]; omega)
                rwa [hlen] at this
      | _ => exact hkk.elim
    · cases hr
  · rename_i p str hev
    split at hr
    · rename_i q A r' B hA hB
      rw [okR_inv hr] at hside ⊢
      obtain ⟨hp, hq, hr', rfl, hAB, hBl⟩ := hside
      have hv := evs_v hx rr hev hp
      have bA := hb (bnd_run hlo rr hA hq)
      have bB := hb (bnd_run hhi rr hB hr')
      rcases hk with ⟨_, _, _, _, _, _, _, _, _, _, h0⟩ | ⟨a1, a2, a3, a4, a5, ht, _⟩
      · omega
      obtain ⟨dd, hu, _, hkk⟩ := (hte t _ ht).und
      cases dd with
      | string =>
        have hrun := run_bounds (P := P) (w := w) (isS := false) (len := str.size) (cap := str.size) bA bB hAB hBl
        refine .pure rr (v := .string (str.extract A B)) ?_ (.d _ _ (.v _ rfl))
        simp [execOp, ho, hv, Instr.sliceAt, Instr.slice, run_underlying hu, hrun]
      | _ => exact hkk.elim
    · cases hr
  · cases hr
theorem isNilC_inv {t : Nat} {y : Operand} {op : BinOp} {neq : Bool} (h : isNilC te t y op = some neq) : y = .const .nilIface ∧ op = (if neq then .neq else .eql) ∧ ∃ a1 a2 a3 a4 a5, te t = some ⟨a1, a2, a3, a4, .iface, a5⟩ := by
  unfold isNilC at h
  split at h
  · split at h
    · rename_i ht
      split at h <;> first | (cases h; done) | (cases h; exact ⟨rfl, rfl, _, _, _, _, _, ht⟩)
    · cases h
  · cases h
theorem does_beqn {x : Operand} {y : X} {d t t' : Nat} {neq : Bool} {a1 a2 : Nat} {a3 : Bool} {a4 : List AV} {a5 : Option (List LK)} (hte : TEok P te) (ho : o.op = .binOp (if neq then .neq else .eql) t x (.const .nilIface) t')
    (ht : te t = some ⟨a1, a2, a3, a4, .iface, a5⟩) (hx : cX te t x = some y) (rr : RR cx h e sl os a w) (hr : stp (lget sl) (lget os) (.beqn d neq y) = some r) (hside : r.side) : Does P o cx h e sl os a w r := by
  obtain ⟨dd, hu, _, hk⟩ := (hte t _ ht).und
  cases dd with
  | interface ms =>
    have hc : a.eval (.const .nilIface) = .nilIface := rfl
    have e1 : (Op.equal t .nilIface .nilIface).run P w = .ok true w := by
      show (Op.equalIn (9999 + 1) t _ _).run P w = _
      rw [Op.equalIn]
      simp only [Sem.run_bind, run_underlying hu, Result.andThen_ok]
      rfl
    have e2 : ∀ u z, (Op.equal t (.iface u z) .nilIface).run P w = .ok false w := by
      intro u z
      show (Op.equalIn (9999 + 1) t _ _).run P w = _
      rw [Op.equalIn]
      simp only [Sem.run_bind, run_underlying hu, Result.andThen_ok]
      rfl
    have r1 : a.eval x = .nilIface → (execOp a.eval o).run P w = .ok (.value (.bool (true != neq))) w := by
      intro hv
      have hg : (eqGuard (if neq then .neq else .eql) t x (.const .nilIface) .nilIface .nilIface).run P w = .ok () w := by cases neq <;> simp [eqGuard]
      have hb : (binOp (if neq then .neq else .eql) t .nilIface .nilIface).run P w = .ok (.bool (true != neq)) w := by cases neq <;> simp [binOp, e1]
      simp only [execOp, ho, hv, hc, Sem.run_bind, hg, hb, Result.andThen_ok]
      rfl
    have r2 : ∀ u z, a.eval x = .iface u z → (execOp a.eval o).run P w = .ok (.value (.bool (false != neq))) w := by
      intro u z hv
      have hg : (eqGuard (if neq then .neq else .eql) t x (.const .nilIface) (.iface u z) .nilIface).run P w = .ok () w := by cases neq <;> simp [eqGuard]
      have hb : (binOp (if neq then .neq else .eql) t (.iface u z) .nilIface).run P w = .ok (.bool (false != neq)) w := by cases neq <;> simp [binOp, e2]
      simp only [execOp, ho, hv, hc, Sem.run_bind, hg, hb, Result.andThen_ok]
      rfl
    simp only [stp] at hr
    split at hr
    · rename_i p hev
      rw [okR_inv hr] at hside ⊢
      exact .pure rr (r1 (evs_v hx rr hev hside)) (.d _ _ (.v _ rfl))
    · rename_i p u z hev
      rw [okR_inv hr] at hside ⊢
      exact .pure rr (r2 _ _ (evs_v hx rr hev hside)) (.d _ _ (.v _ rfl))
    · cases hr
  | _ => exact hk.elim
theorem isNilS_inv {t : Nat} {y : Operand} {op : BinOp} {neq : Bool} (h : isNilS te t y op = some neq) : y = .const (.slice none 0 0) ∧ op = (if neq then .neq else .eql) ∧ ∃ a1 a2 a3 a4 el a5, te t = some ⟨a1, a2, a3, a4, .sl el, a5⟩ := by
  unfold isNilS at h
  split at h
  · split at h
    · rename_i ht
      split at h <;> first | (cases h; done) | (cases h; exact ⟨rfl, rfl, _, _, _, _, _, _, ht⟩)
    · cases h
  · cases h
theorem does_bsn {x : Operand} {y : X} {d t t' el : Nat} {neq : Bool} {a1 a2 : Nat} {a3 : Bool} {a4 : List AV} {a5 : Option (List LK)} (hte : TEok P te) (ho : o.op = .binOp (if neq then .neq else .eql) t x (.const (.slice none 0 0)) t')
    (ht : te t = some ⟨a1, a2, a3, a4, .sl el, a5⟩) (hx : cX te t x = some y) (rr : RR cx h e sl os a w) (hr : stp (lget sl) (lget os) (.bsn d neq y) = some r) (hside : r.side) : Does P o cx h e sl os a w r := by
  obtain ⟨dd, hu, _, hk⟩ := (hte t _ ht).und
  cases dd with
  | slice el' =>
    have hc : a.eval (.const (.slice none 0 0)) = .slice none 0 0 := rfl
    have r1 : ∀ q l c, a.eval x = .slice q l c → (execOp a.eval o).run P w = .ok (.value (.bool (q.isNone != neq))) w := by
      intro q l c hv
      have e1 := run_equal_slice_nil (P := P) w t el' q l c hu
      have hg : (eqGuard (if neq then .neq else .eql) t x (.const (.slice none 0 0)) (.slice q l c) (.slice none 0 0)).run P w = .ok () w := by cases neq <;> simp [eqGuard]
      have hb : (binOp (if neq then .neq else .eql) t (.slice q l c) (.slice none 0 0)).run P w = .ok (.bool (q.isNone != neq)) w := by cases neq <;> simp [binOp, e1]
      simp only [execOp, ho, hv, hc, Sem.run_bind, hg, hb, Result.andThen_ok]
      rfl
    simp only [stp] at hr
    split at hr
    · rename_i p s hev
      rw [okR_inv hr] at hside ⊢
      have hv := evs_rep hx rr hev hside
      generalize hq : a.eval x = v at hv
      cases hv with
      | nl => exact .pure rr (r1 none 0 0 hq) (.d _ _ (.v _ rfl))
    · rename_i p s u l hev
      rw [okR_inv hr] at hside ⊢
      have hv := evs_rep hx rr hev hside
      generalize hq : a.eval x = v at hv
      cases hv with
      | d _ _ hv => cases hv with
        | sl => exact .pure rr (r1 _ _ _ hq) (.d _ _ (.v _ rfl))
    · cases hr
  | _ => exact hk.elim
/-! Maps. -/
def LKof (d : TypeDesc) (ks : List LK) : Prop := (∃ k, d = .int k ∧ ks = [.i]) ∨ (d = .bool ∧ ks = [.b]) ∨ (d = .string ∧ ks = [.s])
theorem lks_of {t : Nat} {i : TI} {ks : List LK} (hte : TEok P te) (ht : te t = some i) (hk : i.lks = some ks) : ∃ d, P.underlying t = some d ∧ leafs P 8 t = some ks ∧ ((i.agg = false ∧ LKof d ks) ∨ (i.agg = true ∧ isAggD d = true)) := by
  obtain ⟨d, hu, ha', hf⟩ := (hte t _ ht).und
  have heq := (hte t _ ht).eqs
  unfold TI.lks at hk
  cases ha : i.agg with
  | true =>
    simp only [ha, if_true] at hk
    exact ⟨d, hu, (heq ks hk).1, .inr ⟨rfl, by rw [ha', ha]⟩⟩
  | false =>
    simp only [ha, Bool.false_eq_true, if_false] at hk
    have hL : LKof d ks := by
      generalize i.kind = kd at hk hf
      cases kd <;> cases d <;> simp_all [TK.fits, LKof]
    refine ⟨d, hu, ?_, .inl ⟨rfl, hL⟩⟩
    rcases hL with ⟨k, rfl, rfl⟩ | ⟨rfl, rfl⟩ | ⟨rfl, rfl⟩ <;> simp [leafs, hu]
theorem same_of {d : TypeDesc} {ks : List LK} (h : LKof d ks) {u v : Value} {b : Bool} (he : eqLs ks [u] [v] = some b) : Instr.sameNow d u v = some b ∧ (b = true → u = v ∧ MapKept.IsKey d u ∨ u = v ∧ Instr.sameBits 10000 u u = true) := by
  rcases h with ⟨k, rfl, rfl⟩ | ⟨rfl, rfl⟩ | ⟨rfl, rfl⟩ <;> cases u <;> cases v <;> simp only [eqLs] at he <;> try (cases he; done)
  · split at he
    · rename_i hk
      simp at he
      subst he
      exact ⟨by simp [Instr.sameNow, hk], fun q => by simp at q; subst q; exact .inr ⟨by rw [hk], by simp [Instr.sameBits]⟩⟩
    · cases he
  · simp at he
    subst he
    exact ⟨by simp [Instr.sameNow], fun q => by simp at q; subst q; exact .inr ⟨rfl, by simp [Instr.sameBits]⟩⟩
  · simp at he
    subst he
    exact ⟨by simp [Instr.sameNow, beq_toListBytes], fun q => by simp at q; rw [bytes_eq q]; exact .inr ⟨rfl, by simp [Instr.sameBits, beq_toListBytes]⟩⟩
/-- Where a key stands. -/
theorem find_at {d : TypeDesc} {ks : List LK} (hks : LKof d ks) {u : Value} : ∀ (es : List MapEntry) (l : ML) (i : Nat), es.length = l.length →
    (∀ (j : Nat) (en : MapEntry) (p : List Value × List D), es[j]? = some en → l[j]? = some p → en.key = asV false p.1 ∧ p.1.length = 1) → mcmp ks [u] l = true →
    (Instr.findNow d u es i = some none ∧ mget ks [u] l = none ∧ ∀ v, mput ks [u] v l = l ++ [([u], v)]) ∨
    ∃ j en p, Instr.findNow d u es i = some (some (i + j, en.val)) ∧ es[j]? = some en ∧ l[j]? = some p ∧ mget ks [u] l = some p.2 ∧ en.key = u ∧ Instr.sameBits 10000 u u = true ∧ ∀ v, mput ks [u] v l = l.set j ([u], v)
  | [], [], i, _, _, _ => .inl ⟨rfl, rfl, fun _ => rfl⟩
  | en :: es, (k', v') :: l, i, hl, hk, hc => by
    obtain ⟨h1, h2⟩ := hk 0 en (k', v') rfl rfl
    simp only at h1 h2
    obtain ⟨u', rfl⟩ : ∃ u', k' = [u'] := by
      match k', h2 with
      | [x], _ => exact ⟨x, rfl⟩
    simp only [asV, Bool.false_eq_true, if_false, List.headD_cons] at h1
    simp only [mcmp] at hc
    cases he : eqLs ks [u] [u'] with
    | none => simp [he] at hc
    | some b =>
      obtain ⟨g1, g2⟩ := same_of hks he
      cases b with
      | true =>
        refine .inr ⟨0, en, _, by simp [Instr.findNow, h1, g1], rfl, rfl, by simp [mget, he], ?_, ?_, fun v => by simp [mput, he]⟩
        · rcases g2 rfl with ⟨q, _⟩ | ⟨q, _⟩ <;> rw [h1, q]
        · rcases g2 rfl with ⟨q, q'⟩ | ⟨q, q'⟩
          · exact MapKept.sameBits_self q' _
          · exact q'
      | false =>
        simp only [he] at hc
        have hne : ¬ eqLs ks [u] [u'] = some true := by rw [he]; simp
        rcases find_at hks es l (i + 1) (by simpa using hl) (fun j en p hj hp => hk (j + 1) en p (by simpa using hj) (by simpa using hp)) hc with ⟨a1, a2, a3⟩ | ⟨j, en', p, a1, a2, a3, a4, a5, a6, a7⟩
        · exact .inl ⟨by simp [Instr.findNow, h1, g1, a1], by simp [mget, hne, a2], fun v => by simp [mput, hne, a3]⟩
        · exact .inr ⟨j + 1, en', p, by simp [Instr.findNow, h1, g1, a1]; omega, by simpa using a2, by simpa using a3, by simp [mget, hne, a4], a5, a6, fun v => by simp [mput, hne, a7]⟩
  | [], _ :: _, _, hl, _, _ => by simp at hl
  | _ :: _, [], _, hl, _, _ => by simp at hl
theorem valOf_as {t : Nat} {d : TypeDesc} {ks : List LK} {ka : Bool} (hu : P.underlying t = some d) (hc : (ka = false ∧ LKof d ks) ∨ (ka = true ∧ isAggD d = true)) {kc : List Value} (hk : ka = false → kc.length = 1) : valOf P t kc = some (asV ka kc) := by
  rcases hc with ⟨rfl, hL⟩ | ⟨rfl, ha⟩
  · match kc, hk rfl with
    | [u], _ => rcases hL with ⟨k, rfl, rfl⟩ | ⟨rfl, rfl⟩ | ⟨rfl, rfl⟩ <;> simp [valOf, hu, asV]
  · cases d <;> simp_all [isAggD, valOf, asV]
theorem run_check {t : Nat} {d : TypeDesc} {ks : List LK} {ka : Bool} (hu : P.underlying t = some d) (hl : leafs P 8 t = some ks) (hc : (ka = false ∧ LKof d ks) ∨ (ka = true ∧ isAggD d = true)) {kc : List Value} (hk : ka = false → kc.length = 1) (hlen : kc.length = ks.length) (em : Bool) : (Instr.checkKey em 10000 t (asV ka kc)).run P w = .ok () w := by
  have := check_run em 8 t ks hl kc _ hlen (valOf_as hu hc hk) 9992 w
  simpa using this
/-- Where a key of several cells stands. -/
theorem ask_at {t : Nat} {ks : List LK} (hl : leafs P 8 t = some ks) (hv : ∀ cs : List Value, valOf P t cs = some (.agg cs.toArray)) {kc : List Value} : ∀ (es : List MapEntry) (l : ML) (i : Nat), es.length = l.length →
    (∀ (j : Nat) (en : MapEntry) (p : List Value × List D), es[j]? = some en → l[j]? = some p → en.key = .agg p.1.toArray) → mcmp ks kc l = true →
    ((Instr.findAsking t (.agg kc.toArray) es i).run P w = .ok none w ∧ mget ks kc l = none ∧ ∀ v, mput ks kc v l = l ++ [(kc, v)]) ∨
    ∃ j en p, (Instr.findAsking t (.agg kc.toArray) es i).run P w = .ok (some (i + j, en.val)) w ∧ es[j]? = some en ∧ l[j]? = some p ∧ mget ks kc l = some p.2 ∧ en.key = .agg kc.toArray ∧ Instr.sameBits 10000 (.agg kc.toArray) (.agg kc.toArray) = true ∧ ∀ v, mput ks kc v l = l.set j (kc, v)
  | [], [], i, _, _, _ => .inl ⟨by simp [Instr.findAsking], rfl, fun _ => rfl⟩
  | en :: es, (k', v') :: l, i, hll, hk, hc => by
    have h1 := hk 0 en (k', v') rfl rfl
    simp only at h1
    simp only [mcmp] at hc
    cases he : eqLs ks kc k' with
    | none => simp [he] at hc
    | some b =>
      have hrun : (Op.equal t (.agg kc.toArray) en.key).run P w = .ok b w := by
        have := eq_run 8 t ks hl kc k' b _ _ he (hv kc) (hv k') 9992 w
        rw [h1]
        simpa [Op.equal, Op.maxDepth] using this
      cases b with
      | true =>
        obtain ⟨g1, g2⟩ := eqLs_true ks kc k' he
        refine .inr ⟨0, en, _, by simp [Instr.findAsking, hrun], rfl, rfl, by simp [mget, he], by rw [h1, g1], sameBits_agg g2 9999, fun v => by simp [mput, he]⟩
      | false =>
        simp only [he] at hc
        have hne : ¬ eqLs ks kc k' = some true := by rw [he]; simp
        rcases ask_at hl hv es l (i + 1) (by simpa using hll) (fun j en p hj hp => hk (j + 1) en p (by simpa using hj) (by simpa using hp)) hc with ⟨a1, a2, a3⟩ | ⟨j, en', p, a1, a2, a3, a4, a5, a6, a7⟩
        · exact .inl ⟨by simp [Instr.findAsking, hrun, a1], by simp [mget, hne, a2], fun v => by simp [mput, hne, a3]⟩
        · exact .inr ⟨j + 1, en', p, by simp [Instr.findAsking, hrun, a1]; omega, by simpa using a2, by simpa using a3, by simp [mget, hne, a4], a5, a6, fun v => by simp [mput, hne, a7]⟩
  | [], _ :: _, _, hl, _, _ => by simp at hl
  | _ :: _, [], _, hl, _, _ => by simp at hl
theorem findKey_run {t : Nat} {d : TypeDesc} {ks : List LK} {ka : Bool} (hu : P.underlying t = some d) (hl : leafs P 8 t = some ks) (hc : (ka = false ∧ LKof d ks) ∨ (ka = true ∧ isAggD d = true)) {kc : List Value} (hkl : ka = false → kc.length = 1)
    (es : List MapEntry) (l : ML) (hll : es.length = l.length) (hk : ∀ (j : Nat) (en : MapEntry) (p : List Value × List D), es[j]? = some en → l[j]? = some p → en.key = asV ka p.1 ∧ (ka = false → p.1.length = 1)) (hm : mcmp ks kc l = true) :
    ((Instr.findKey t (asV ka kc) es).run P w = .ok none w ∧ mget ks kc l = none ∧ ∀ v, mput ks kc v l = l ++ [(kc, v)]) ∨
    ∃ j en p, (Instr.findKey t (asV ka kc) es).run P w = .ok (some (j, en.val)) w ∧ es[j]? = some en ∧ l[j]? = some p ∧ mget ks kc l = some p.2 ∧ en.key = asV ka kc ∧ Instr.sameBits 10000 (asV ka kc) (asV ka kc) = true ∧ ∀ v, mput ks kc v l = l.set j (kc, v) := by
  rcases hc with ⟨rfl, hL⟩ | ⟨rfl, ha⟩
  · match kc, hkl rfl, hm with
    | [u], _, hm =>
      simp only [asV, Bool.false_eq_true, if_false, List.headD_cons]
      rcases find_at hL es l 0 hll (fun j en p h1 h2 => ⟨(hk j en p h1 h2).1, (hk j en p h1 h2).2 rfl⟩) hm with ⟨a1, a2, a3⟩ | ⟨j, en, p, a1, a2, a3, a4, a5, a6, a7⟩
      · exact .inl ⟨by simp [Instr.findKey, run_underlying hu, a1], a2, a3⟩
      · exact .inr ⟨j, en, p, by simp [Instr.findKey, run_underlying hu, a1], a2, a3, a4, a5, a6, a7⟩
  · have hv : ∀ cs : List Value, valOf P t cs = some (.agg cs.toArray) := fun cs => valOf_as (ks := ks) hu (.inr ⟨rfl, ha⟩) (fun q => by cases q)
    simp only [asV, if_true]
    have hf : ∀ en es', Instr.findNow d (.agg kc.toArray) (en :: es') 0 = none := by
      intro en es'
      cases d <;> simp_all [isAggD, Instr.findNow, Instr.sameNow]
    cases es with
    | nil =>
      cases l with
      | nil => exact .inl ⟨by simp [Instr.findKey, run_underlying hu, Instr.findNow], rfl, fun _ => rfl⟩
      | cons => simp at hll
    | cons en es =>
      rcases ask_at (w := w) hl hv (en :: es) l 0 hll (fun j en p h1 h2 => by simpa [asV] using (hk j en p h1 h2).1) hm with ⟨a1, a2, a3⟩ | ⟨j, en', p, a1, a2, a3, a4, a5, a6, a7⟩
      · exact .inl ⟨by simp [Instr.findKey, run_underlying hu, hf, a1], a2, a3⟩
      · exact .inr ⟨j, en', p, by simpa [Instr.findKey, run_underlying hu, hf] using a1, a2, a3, a4, a5, a6, a7⟩
/-- The entries of a map that is read. -/
theorem entries_rep (rr : RR cx h e sl os a w) {v : Value} {av : AV} (hv : VRep h e v av) {ka ea : Bool} {q : Prop} {l : ML} (hm : mentries (lget os) ka ea av = some (q, l)) (hq : q) :
    (v = .map none ∧ l = []) ∨ ∃ b es clock f, v = .map (some b) ∧ w.heap[b]? = some (.map es clock) ∧ MRep h ka ea es clock l f := by
  unfold mentries at hm
  split at hm
  · simp only [Option.some.injEq, Prod.mk.injEq] at hm
    obtain ⟨rfl, rfl⟩ := hm
    obtain ⟨rfl, rfl⟩ := hq
    cases hv with
    | d _ _ hv => cases hv with
      | mpn => exact .inl ⟨rfl, rfl⟩
      | mp _ _ _ b es clock f hb hl hst hk hr => exact .inr ⟨b, es, clock, f, rfl, rr.st.vis _ _ hb, hl, hst, hk, hr⟩
  · rename_i n
    split at hm
    · rename_i ka' ea' l' hgo
      simp only [Option.some.injEq, Prod.mk.injEq] at hm
      obtain ⟨rfl, rfl⟩ := hm
      obtain ⟨rfl, rfl⟩ := hq
      cases hv with
      | mp _ _ x hx h1 b hb hv =>
        obtain ⟨y, hy, _, b', es, clock, f, hv', hc, hmr⟩ := rr.st.obj n _ hgo
        rw [hx] at hy
        cases hy
        rw [hb] at hv'
        cases hv'
        exact .inr ⟨b, es, clock, f, hv.trans hb, hc, hmr⟩
    · cases hm
  · cases hm
theorem key_one {av : AV} {u : Value} {kc : List Value} (hv : VRep h e u av) (hk : toVals (cells av) = some kc) (hg : isAgV av = false) : kc = [u] := by
  cases av with
  | d x =>
    cases x with
    | v y =>
      simp only [cells, toVals, Option.some.injEq] at hk
      subst hk
      cases hv with | d _ _ hr => cases hr with | v _ _ => rfl
    | _ => simp [cells, toVals] at hk
  | ag l => simp [isAgV] at hg
  | _ => simp [cells, toVals] at hk
theorem key_val {av : AV} {u : Value} {kc : List Value} {ka : Bool} (hv : VRep h e u av) (hk : toVals (cells av) = some kc) (hg : isAgV av = ka) : u = asV ka kc ∧ (ka = false → kc.length = 1) := by
  cases ka with
  | false => have := key_one hv hk hg; subst this; exact ⟨rfl, fun _ => rfl⟩
  | true =>
    cases av with
    | ag l => exact ⟨ag_vals hv hk, fun q => by cases q⟩
    | _ => simp [isAgV] at hg
theorem asA_rep {ea : Bool} {vs : List Value} {ds : List D} (h1 : vs.length = ds.length) (h2 : ea = false → ds.length = 1) (h3 : ∀ (j : Nat) (d : D), ds[j]? = some d → Rep h (vs.getD j undef) d) : VRep h e (asV ea vs) (asA ea ds) := by
  cases ea with
  | true =>
    simp only [asV, asA, if_true]
    refine .ag _ _ (by simpa using h1) (fun j av hj => ?_) (fun j hj => ?_)
    · simp only [List.getElem?_map, Option.map_eq_some_iff] at hj
      obtain ⟨d, hd, rfl⟩ := hj
      rw [toArr]
      exact .d _ _ (h3 j d hd)
    · rw [toArr]
      simp at hj
      exact (h3 j _ (List.getElem?_eq_getElem (show j < ds.length by omega))).one
  | false =>
    have := h2 rfl
    match ds, vs, this, h1, h3 with
    | [d], [v], _, _, h3 => exact .d _ _ (by simpa [asV] using h3 0 d rfl)
theorem does_mkm {d t : Nat} {i j : TI} (ho : o.op = .makeMap t none) (rr : RR cx h e sl os a w)
    (hr : stp (lget sl) (lget os) (.mkm d i.agg j.agg) = some r) (hside : r.side) : Does P o cx h e sl os a w r := by
  simp only [stp, Option.some.injEq] at hr
  subst hr
  have hn : lget os d = none := by simpa using hside
  have hen := env_none rr hn
  have hrun : (execOp a.eval o).run P w = .ok (.value (.map (some w.heap.size))) (w.alloc (.map #[] 0)) := by simp [execOp, ho]; rfl
  refine ⟨_, _, _, e.set d ⟨.map (some w.heap.size), 0, []⟩, hrun, .inl rfl, rr.upd d _ _ (ob := none) (grown_alloc w _) (fun b hb => by cases hb) (le_of_none hen) (fun b hb => .inr ?_) ?_, .mp _ d _ (by simp [Env.set]; rfl) rfl _ rfl rfl⟩
  · simp [Ent.has, blkOf] at hb; omega
  · exact ⟨rfl, w.heap.size, #[], 0, fun _ => [], rfl, heap_alloc_new w _, rfl, ⟨by simp, by simp⟩, by simp, by simp⟩
theorem does_lkp {x y : Operand} {zx zy : X} {ok : Bool} {d t kt et : Nat} {i j : TI} {ks : List LK} {a1 a2 : Nat} {a3 : Bool} {a4 : List AV} {a5 : Option (List LK)} (hte : TEok P te) (ho : o.op = .lookup t x y ok)
    (ht : te t = some ⟨a1, a2, a3, a4, .mp kt et, a5⟩) (hi : te kt = some i) (hj : te et = some j) (hk : i.lks = some ks) (hx : cX te t x = some zx) (hy : cX te kt y = some zy) (rr : RR cx h e sl os a w)
    (hr : stp (lget sl) (lget os) (.lkp d i.agg j.agg ks j.zero ok zx zy) = some r) (hside : r.side) : Does P o cx h e sl os a w r := by
  obtain ⟨dd, hu, _, hkk⟩ := (hte t _ ht).und
  obtain ⟨q, hq, hqs, hqb, z, hz, hzs, hzl, hzr, hz1, hza⟩ := (hte et _ hj).info
  obtain ⟨kd, hku, hkl, hks⟩ := lks_of hte hi hk
  cases dd with
  | map k' e' =>
    obtain ⟨rfl, rfl⟩ : k' = kt ∧ e' = et := hkk
    simp only [stp] at hr
    split at hr
    · rename_i pe l kc zd hme hkc hzd
      rw [okR_inv hr] at hside ⊢
      obtain ⟨hp, hp', hpe, hag, hlen, hcmp⟩ := hside
      have hvx := evs_rep hx rr (p := (evs (lget sl) zx).1) (z := (evs (lget sl) zx).2) rfl hp
      have hvy := evs_rep hy rr (p := (evs (lget sl) zy).1) (z := (evs (lget sl) zy).2) rfl hp'
      obtain ⟨hyv, hk1⟩ := key_val hvy hkc hag
      have hlen := lenB_len hlen
      have hchk := fun em => run_check (w := w) hku hkl hks hk1 hlen em
      obtain ⟨z1, z2, z3⟩ := toDs_map (h := h) (e := noE) _ _ hzd
      have hzrep : VRep h e z (asA j.agg zd) := by
        have hzz : z = asV j.agg z.cells.toList := by
          cases hja : j.agg with
          | true => rw [hja] at hza; simpa [asV] using hza
          | false =>
            rw [hja] at hza
            simp at hza
            cases z <;> first | rfl | (simp [Value.oneCell'] at hza; done)
        rw [hzz]
        refine asA_rep (by simp; omega) (fun hf => by have := size_one hte hj hf; omega) (fun jj dd hd => ?_)
        have hjl : jj < j.zero.length := by rw [← z1]; exact (List.getElem?_eq_some_iff.1 hd).1
        have := z3 _ jj _ dd (List.getElem?_eq_getElem hjl) hd (hzr jj _ (List.getElem?_eq_getElem hjl) h)
        simpa [List.getD, Array.getD_eq_getD_getElem?] using this
      have hzv : (zeroValue e').run P w = .ok z w := by simp [zeroValue, run_ti hq, hz]
      have fin : ∀ {v : Value} {b : Bool} {ds : List D}, (Instr.lookup t (a.eval x) (a.eval y) ok).run P w = .ok (if ok then .tuple #[v, .bool b] else v) w → VRep h e v (asA j.agg ds) →
          Does P o cx h e sl os a w ⟨if ok then .tp [asA j.agg ds, .d (.v (.bool b))] else asA j.agg ds, none, (evs (lget sl) zx).1 ∧ (evs (lget sl) zy).1 ∧ pe ∧ isAgV (evs (lget sl) zy).2 = i.agg ∧ lenB ks kc = true ∧ mcmp ks kc l = true⟩ := by
        intro v b ds hrun hvd
        refine .pure rr (v := if ok then .tuple #[v, .bool b] else v) (by simp [execOp, ho, hrun]) ?_
        cases ok with
        | false => exact hvd
        | true =>
          refine .tp _ _ rfl (fun jj av hj => ?_)
          match jj, hj with
          | 0, hj => cases hj; simpa using hvd
          | 1, hj => cases hj; exact .d _ _ (.v _ rfl)
      rcases entries_rep rr hvx hme hpe with ⟨hxn, rfl⟩ | ⟨b, es, clock, f, hxv, hheap, hm1, _, hm2, hm3⟩
      · refine fin (v := z) (b := false) (ds := zd) ?_ hzrep
        rcases findKey_run (w := w) hku hkl hks hk1 [] [] rfl (by simp) rfl with ⟨a1, _⟩ | ⟨_, _, _, _, a2, _⟩
        · simp only [Instr.lookup, hxn, hyv, Sem.run_bind, run_underlying hu, Result.andThen_ok, Sem.run_pure, hchk, a1, hzv]
        · simp at a2
      · rcases findKey_run (w := w) hku hkl hks hk1 es.toList l (by simpa using hm1) (fun jj en p h1 h2 => by
          obtain ⟨g1, g2, _⟩ := hm2 jj en p (by simpa using h1) h2; exact ⟨g1, g2⟩) hcmp with ⟨a1, a2, _⟩ | ⟨jj, en, p, a1, a2, a3, a4, _⟩
        · rw [a2]
          refine fin (v := z) (b := false) (ds := zd) ?_ hzrep
          simp only [Instr.lookup, hxv, hyv, Sem.run_bind, run_underlying hu, Result.andThen_ok, MapKept.run_getObj_map hheap, Sem.run_pure, hchk, a1, hzv]
        · rw [a4]
          obtain ⟨g1, g2, g3, g4, g5⟩ := hm2 jj en p (by simpa using a2) a3
          refine fin (v := en.val) (b := true) (ds := p.2) ?_ ?_
          · simp only [Instr.lookup, hxv, hyv, Sem.run_bind, run_underlying hu, Result.andThen_ok, MapKept.run_getObj_map hheap, Sem.run_pure, hchk, a1]
          · rw [g3]
            exact asA_rep g4 g5 (fun k dd hk => hm3 jj p k dd a3 hk)
    · cases hr
  | _ => exact hkk.elim
theorem does_mln {x : Operand} {zx : X} {d t kt et : Nat} {i j : TI} {c : Call} {a1 a2 : Nat} {a3 : Bool} {a4 : List AV} {a5 : Option (List LK)} (hte : TEok P te) (ho : o.op = .call c) (hc : c.callee = .builtin .len) (has : c.args.toList = [x]) (hts : c.argTypes.toList = [t])
    (ht : te t = some ⟨a1, a2, a3, a4, .mp kt et, a5⟩) (hx : cX te t x = some zx) (rr : RR cx h e sl os a w)
    (hr : stp (lget sl) (lget os) (.mln d i.agg j.agg zx) = some r) (hside : r.side) : Does P o cx h e sl os a w r := by
  obtain ⟨dd, hu, _, hkk⟩ := (hte t _ ht).und
  have hargs : c.args = #[x] := by rw [← Array.toArray_toList (xs := c.args), has]
  have htys : c.argTypes = #[t] := by rw [← Array.toArray_toList (xs := c.argTypes), hts]
  cases dd with
  | map k' e' =>
    simp only [stp] at hr
    split at hr
    · rename_i pe l hme
      rw [okR_inv hr] at hside ⊢
      obtain ⟨hp, hpe⟩ := hside
      have hvx := evs_rep hx rr (p := (evs (lget sl) zx).1) (z := (evs (lget sl) zx).2) rfl hp
      rcases entries_rep rr hvx hme hpe with ⟨hxn, rfl⟩ | ⟨b, es, clock, f, hxv, hheap, hm1, _⟩
      · refine .pure rr (v := .int .i64 0) ?_ (.d _ _ (.v _ rfl))
        simp [execOp, ho, resolve, hc, hargs, htys, hxn, invoke, builtin, Builtin.len_, run_underlying hu, goInt]
      · refine .pure rr (v := .int .i64 es.size) ?_ (by rw [hm1]; exact .d _ _ (.v _ rfl))
        simp [execOp, ho, resolve, hc, hargs, htys, hxv, invoke, builtin, Builtin.len_, run_underlying hu, goInt, MapKept.run_getObj_map hheap]
    · cases hr
  | _ => exact hkk.elim
theorem val_asV {v : Value} {av : AV} {yd : List D} {ea : Bool} (hv : VRep h e v av) (hd : toDs (cells av) = some yd) (hg : isAgV av = ea) :
    ∃ vs : List Value, v = asV ea vs ∧ vs.length = yd.length ∧ (ea = false → yd.length = 1) ∧ ∀ (j : Nat) (d : D), yd[j]? = some d → Rep h (vs.getD j undef) d := by
  obtain ⟨t1, t2, t3⟩ := toDs_map (h := h) (e := e) _ _ hd
  obtain ⟨c1, c2, c3⟩ := cells_rep hv t2
  have hr : ∀ (j : Nat) (d : D), yd[j]? = some d → Rep h (v.cells.toList.getD j undef) d := by
    intro j d hj
    have hjl : j < (cells av).length := by rw [← t1]; exact (List.getElem?_eq_some_iff.1 hj).1
    have := t3 _ j _ d (List.getElem?_eq_getElem hjl) hj (c2 j _ (List.getElem?_eq_getElem hjl))
    simpa [List.getD, Array.getD_eq_getD_getElem?] using this
  cases ea with
  | true =>
    cases av with
    | ag l =>
      cases hv with
      | ag vs _ hl _ _ => exact ⟨vs.toList, by simp [asV], by rw [t1]; simpa [Value.cells] using c1, by simp, hr⟩
    | _ => simp [isAgV] at hg
  | false =>
    have hone : v.oneCell' = true ∧ (cells av).length = 1 := by
      cases av with
      | ag l => simp [isAgV] at hg
      | d x => exact ⟨by cases hv with | d _ _ hr => exact hr.one, rfl⟩
      | nl s => exact ⟨by cases hv; rfl, rfl⟩
      | _ => simp [cells, toDs, toD] at hd
    refine ⟨[v], by simp [asV], by rw [t1, hone.2]; rfl, fun _ => by rw [t1, hone.2], fun j d hj => ?_⟩
    have := hr j d hj
    have hc : v.cells.toList = [v] := by
      have h1 := hone.1
      cases v <;> first | rfl | (simp [Value.oneCell'] at h1; done)
    rwa [hc] at this
theorem grown_set {r : Nat} (o : Obj) : w.grownBy { w with heap := w.heap.setIfInBounds r o } (some r) :=
  ⟨rfl, rfl, rfl, by simp, fun b _ hne => by
    have : r ≠ b := fun q => hne (by rw [q])
    simp [this]⟩
theorem stp_push {es : Array MapEntry} {clock : Nat} (h : Stp es clock) (k v : Value) : Stp (es.push { key := k, val := v, born := clock }) (clock + 1) := by
  obtain ⟨h1, h2⟩ := h
  refine ⟨fun x hx => ?_, ?_⟩
  · simp only [Array.toList_push, List.mem_append, List.mem_singleton] at hx
    rcases hx with hx | rfl
    · exact Nat.lt_succ_of_lt (h1 x hx)
    · exact Nat.lt_succ_self _
  · simp only [Array.toList_push, List.map_append, List.map_cons, List.map_nil]
    refine List.nodup_append.2 ⟨h2, by simp, ?_⟩
    intro a ha b hb
    simp only [List.mem_singleton] at hb
    subst hb
    obtain ⟨x, hx, rfl⟩ := List.mem_map.1 ha
    exact Nat.ne_of_lt (h1 x hx)
theorem stp_modify {es : Array MapEntry} {clock : Nat} (h : Stp es clock) (i : Nat) (k v : Value) : Stp (es.modify i fun e => { e with key := k, val := v }) clock := by
  have hb : (es.modify i fun e => { e with key := k, val := v }).toList.map (·.born) = es.toList.map (·.born) := by
    apply List.ext_getElem?
    intro j
    simp only [List.getElem?_map, Array.getElem?_toList, Array.getElem?_modify]
    by_cases hij : i = j
    · subst hij
      cases he : es[i]? with
      | none => simp
      | some e => simp
    · simp [hij]
  obtain ⟨h1, h2⟩ := h
  refine ⟨fun x hx => ?_, hb ▸ h2⟩
  have hm : x.born ∈ es.toList.map (·.born) := by rw [← hb]; exact List.mem_map.2 ⟨x, hx, rfl⟩
  obtain ⟨y, hy, hyb⟩ := List.mem_map.1 hm
  rw [← hyb]; exact h1 y hy
theorem mrep_set {ka ea : Bool} {es es' : Array MapEntry} {clock : Nat} {l : ML} {f : Nat → List Value} (hm : MRep h ka ea es clock l f) {j : Nat} {p : List Value × List D} {vs : List Value} (hj : j < l.length)
    (hsp : Stp es' clock) (hs : es'.size = es.size) (ho : ∀ i, i ≠ j → es'[i]? = es[i]?) (hn : ∀ en, es'[j]? = some en → en.key = asV ka p.1 ∧ en.val = asV ea vs) (hk : ka = false → p.1.length = 1)
    (hv1 : vs.length = p.2.length) (hv2 : ea = false → p.2.length = 1) (hv3 : ∀ (i : Nat) (d : D), p.2[i]? = some d → Rep h (vs.getD i undef) d) : MRep h ka ea es' clock (l.set j p) (fun i => if i = j then vs else f i) := by
  refine ⟨by rw [hs, hm.1]; simp, hsp, fun i en q hi hq => ?_, fun i q k d hq hd => ?_⟩
  · by_cases hij : i = j
    · subst hij
      simp [hj] at hq
      subst hq
      obtain ⟨n1, n2⟩ := hn en hi
      simp only [if_true]
      exact ⟨n1, hk, n2, hv1, hv2⟩
    · simp only [if_neg hij]
      exact hm.2.2.1 i en q (by rw [← ho i hij]; exact hi) (by simpa [Ne.symm hij] using hq)
  · by_cases hij : i = j
    · subst hij
      simp [hj] at hq
      subst hq
      simp only [if_true]
      exact hv3 k d hd
    · simp only [if_neg hij]
      exact hm.2.2.2 i q k d (by simpa [Ne.symm hij] using hq) hd
theorem mrep_push {ka ea : Bool} {es : Array MapEntry} {clock : Nat} {l : ML} {f : Nat → List Value} (hm : MRep h ka ea es clock l f) {en : MapEntry} {p : List Value × List D} {vs : List Value}
    (hen : en.born = clock) (hn : en.key = asV ka p.1 ∧ en.val = asV ea vs) (hk : ka = false → p.1.length = 1)
    (hv1 : vs.length = p.2.length) (hv2 : ea = false → p.2.length = 1) (hv3 : ∀ (i : Nat) (d : D), p.2[i]? = some d → Rep h (vs.getD i undef) d) : MRep h ka ea (es.push en) (clock + 1) (l ++ [p]) (fun i => if i = l.length then vs else f i) := by
  have hsz := hm.1
  have hsp : Stp (es.push en) (clock + 1) := by have := stp_push hm.2.1 en.key en.val; rw [← hen] at this; rw [← hen]; exact this
  refine ⟨by simp [hsz], hsp, fun i en' q hi hq => ?_, fun i q k d hq hd => ?_⟩
  · by_cases hij : i = l.length
    · subst hij
      simp at hq
      subst hq
      rw [Array.getElem?_push, if_pos hsz.symm] at hi
      cases hi
      simp only [if_true]
      exact ⟨hn.1, hk, hn.2, hv1, hv2⟩
    · have hlt : i < l.length := by
        have := (List.getElem?_eq_some_iff.1 hq).1
        simp at this; omega
      simp only [if_neg hij]
      rw [List.getElem?_append_left hlt] at hq
      rw [Array.getElem?_push, if_neg (by omega)] at hi
      exact hm.2.2.1 i en' q hi hq
  · by_cases hij : i = l.length
    · subst hij
      simp at hq
      subst hq
      simp only [if_true]
      exact hv3 k d hd
    · have hlt : i < l.length := by
        have := (List.getElem?_eq_some_iff.1 hq).1
        simp at this; omega
      simp only [if_neg hij]
      rw [List.getElem?_append_left hlt] at hq
      exact hm.2.2.2 i q k d hq hd
theorem does_mup {x y z : Operand} {zx zy zz : X} {t kt et : Nat} {i j : TI} {ks : List LK} {a1 a2 : Nat} {a3 : Bool} {a4 : List AV} {a5 : Option (List LK)} (hte : TEok P te) (ho : o.op = .mapUpdate t x y z ∨ o.op = .insert t x y z)
    (ht : te t = some ⟨a1, a2, a3, a4, .mp kt et, a5⟩) (hi : te kt = some i) (hj : te et = some j) (hk : i.lks = some ks) (hx : cX te t x = some zx) (hy : cX te kt y = some zy) (hz : cX te et z = some zz) (rr : RR cx h e sl os a w)
    (hr : stp (lget sl) (lget os) (.mup i.agg j.agg ks j.size zx zy zz) = some r) (hside : r.side) : Does P o cx h e sl os a w r := by
  obtain ⟨dd, hu, _, hkk⟩ := (hte t _ ht).und
  obtain ⟨kd, hku, hkl, hks⟩ := lks_of hte hi hk
  cases dd with
  | map k' e' =>
    obtain ⟨rfl, rfl⟩ : k' = kt ∧ e' = et := hkk
    simp only [stp] at hr
    split at hr
    · rename_i n kc yd hme hkc hyd
      split at hr
      · rename_i ka' ea' l hgo
        simp only [Option.some.injEq] at hr
        subst hr
        obtain ⟨hp, hp', hp2, rfl, rfl, hag, hea, hlen, hlb, hcmp⟩ := hside
        have hvx := evs_rep hx rr (p := (evs (lget sl) zx).1) (z := (evs (lget sl) zx).2) rfl hp
        have hvy := evs_rep hy rr (p := (evs (lget sl) zy).1) (z := (evs (lget sl) zy).2) rfl hp'
        have hvz := evs_rep hz rr (p := (evs (lget sl) zz).1) (z := (evs (lget sl) zz).2) rfl hp2
        obtain ⟨hyv, hk1⟩ := key_val hvy hkc hag
        have hlb' := lenB_len hlb
        have hchk := fun em => run_check (w := w) hku hkl hks hk1 hlb' em
        obtain ⟨vs, v1, v2, v3, v4⟩ := val_asV hvz hyd hea
        rw [hme] at hvx
        generalize hqv : a.eval x = vx at hvx
        cases hvx with
        | mp _ _ ent hent h1 b hb hv =>
          obtain ⟨ent', hent', hg0, b', es, clock, f, hv', hheap, hm⟩ := rr.st.obj n _ hgo
          rw [hent] at hent'
          cases hent'
          rw [hb] at hv'
          cases hv'
          have hxv : a.eval x = .map (some b) := hqv.trans (hv.trans hb)
          have hm2 := hm.2.2.1
          have hE : e.set n ent = e := by funext m; by_cases hm : m = n <;> simp [Env.set, hm, hent]
          have fin : ∀ {es' : Array MapEntry} {clock' : Nat} {f' : Nat → List Value}, (Instr.mapUpdate t (a.eval x) (a.eval y) (a.eval z)).run P w = .ok () { w with heap := w.heap.setIfInBounds b (.map es' clock') } →
              MRep h i.agg j.agg es' clock' (mput ks kc yd l) f' → Does P o cx h e sl os a w ⟨.un, some (n, .map i.agg j.agg (mput ks kc yd l)), (evs (lget sl) zx).1 ∧ (evs (lget sl) zy).1 ∧ (evs (lget sl) zz).1 ∧ i.agg = i.agg ∧ j.agg = j.agg ∧ isAgV (evs (lget sl) zy).2 = i.agg ∧ isAgV (evs (lget sl) zz).2 = j.agg ∧ yd.length = j.size ∧ lenB ks kc = true ∧ mcmp ks kc l = true⟩ := by
            intro es' clock' f' hrun hmr
            refine ⟨_, undef, _, e.set n ent, (by rcases ho with ho | ho <;> (simp only [execOp, ho, Sem.run_bind, hrun, Result.andThen_ok]; rfl)), .inr ⟨rfl, rfl⟩, ?_, .un _⟩
            have hlo := rr.st.lone _ _ _ hgo hent
            refine rr.upd n ent _ (grown_set _) (fun b' hb' => ⟨ent, hent, .inl (by simpa [hb, blkOf] using hb')⟩) (fun y' hy' => ?_) (fun b' hb' => .inl (by have hb2 := (Ent.has_lone (hlo rfl)).1 hb'; simpa [hb, blkOf] using hb2)) ?_
            · rw [hent] at hy'; cases hy'; exact .refl _
            · rw [hE]
              exact ⟨hg0, b, es', clock', f', hb, (MapKept.heap_set hheap).1, hmr⟩
          rcases findKey_run (w := w) hku hkl hks hk1 es.toList l (by simpa using hm.1) (fun jj en p h1 h2 => by
            obtain ⟨g1, g2, _⟩ := hm2 jj en p (by simpa using h1) h2; exact ⟨g1, g2⟩) hcmp with ⟨a1, a2, a3⟩ | ⟨jj, en, p, a1, a2, a3, a4, a5, a6, a7⟩
          · refine fin (es' := es.push { key := asV i.agg kc, val := a.eval z, born := clock }) (clock' := clock + 1) (f' := fun i => if i = l.length then vs else f i) ?_ ?_
            · simp only [Instr.mapUpdate, hxv, hyv, Sem.run_bind, run_underlying hu, Result.andThen_ok, MapKept.run_getObj_map hheap, hchk, a1, Sem.run_pure, MapKept.run_setObj_map _ hheap]
            · rw [a3]
              exact mrep_push hm rfl ⟨rfl, v1⟩ hk1 v2 v3 v4
          · have hjl : jj < l.length := (List.getElem?_eq_some_iff.1 a3).1
            have a2' : es[jj]? = some en := by simpa using a2
            have hkst : (Instr.keyThatStays (((es[jj]?).map (·.key)).getD (asV i.agg kc)) (asV i.agg kc)).run P w = .ok (asV i.agg kc) w := by
              simp [a2', Instr.keyThatStays, a5, a6]
            refine fin (es' := es.modify jj fun e => { e with key := asV i.agg kc, val := a.eval z }) (clock' := clock) (f' := fun i => if i = jj then vs else f i) ?_ ?_
            · simp only [Instr.mapUpdate, hxv, hyv, Sem.run_bind, run_underlying hu, Result.andThen_ok, MapKept.run_getObj_map hheap, hchk, a1, Sem.run_pure, hkst, MapKept.run_setObj_map _ hheap]
            · rw [a7]
              refine mrep_set hm hjl (stp_modify hm.2.1 _ _ _) (by simp) (fun i hi => by simp [Array.getElem?_modify, Ne.symm hi]) (fun en' he => ?_) hk1 v2 v3 v4
              rw [Array.getElem?_modify, if_pos rfl, a2'] at he
              cases he
              exact ⟨rfl, v1⟩
      · cases hr
    · cases hr
  | _ => exact hkk.elim
/-- Every operation (no call) does what is told of it. -/
theorem does {po : PO} (hte : TEok P te) (hco : cop te o = some po) (rr : RR cx h e sl os a w) (hr : stp (lget sl) (lget os) po = some r) (hside : r.side) : (∃ h', Does P o cx h' e sl os a w r) ∧ po.dst = o.dst := by
  unfold cop at hco
  split at hco
  · rename_i x d ho hd
    cases hx : cX te o.type x with
    | none => simp [hx] at hco
    | some y => simp [hx] at hco; subst hco; exact ⟨⟨_, does_move (.inl ho) hx rr hr⟩, hd.symm⟩
  · rename_i x d ho hd
    cases hx : cX te o.type x with
    | none => simp [hx] at hco
    | some y => simp [hx] at hco; subst hco; exact ⟨⟨_, does_move (.inr ho) hx rr hr⟩, hd.symm⟩
  · rename_i s x f d ho hd
    split at hco
    · rename_i a1 a2 a3 a4 fs a5 hs
      split at hco
      · rename_i off ft hf
        split at hco
        · rename_i i y hi hx
          split at hco
          · cases hco
          · rename_i hz
            cases hco
            exact ⟨⟨_, does_fa hte ho hs hf hi hz hx rr hr hside⟩, hd.symm⟩
        · cases hco
      · cases hco
    · cases hco
  · rename_i t x i d ho hd
    split at hco
    · rename_i a1 a2 a3 a4 el a5 ht
      split at hco
      · rename_i q y z hq hx hi
        cases hco
        exact ⟨⟨_, does_ia hte ho ht hq hx hi rr hr hside⟩, hd.symm⟩
      · cases hco
    · rename_i a1 a2 a3 a4 n el a5 ht
      split at hco
      · rename_i q y z hq hx hi
        split at hco
        · rename_i hn1
          cases hco
          exact ⟨⟨_, does_iap hte ho ht hq hn1 hx hi rr hr hside⟩, hd.symm⟩
        · cases hco
      · cases hco
    · cases hco
  · rename_i t x i d ho hd
    split at hco
    · rename_i a1 a2 a3 a4 n el a5 ht
      split at hco
      · rename_i q y z hq hx hi
        cases hco
        exact ⟨⟨_, does_idx hte ho ht hq hx hi rr hr hside⟩, hd.symm⟩
      · cases hco
    · cases hco
  · rename_i x d ho hd
    obtain ⟨y, hx, rfl⟩ := Option.map_eq_some_iff.1 hco
    exact ⟨⟨_, does_nck ho hx rr hr hside⟩, hd.symm⟩
  · rename_i t k m k' m' d ho hd
    split at hco
    · rename_i hcond
      obtain ⟨rfl, rfl⟩ := hcond
      split at hco
      · rename_i a1 a2 a3 a4 el a5 ht
        split at hco
        · rename_i q hq
          split at hco
          · rename_i hpos
            cases hco
            exact ⟨⟨_, does_mks hte ho ht hq hpos (y := .k (.int k m)) rfl rr hr hside⟩, hd.symm⟩
          · cases hco
        · cases hco
      · cases hco
    · cases hco
  · rename_i t x d ho hd
    split at hco
    · rename_i i y ht hx
      cases hco
      exact ⟨⟨_, does_ld hte ho ht hx rr hr hside⟩, hd.symm⟩
    · cases hco
  · rename_i t x z ho hd
    split at hco
    · rename_i i y yz ht hx hz
      cases hco
      exact ⟨⟨_, does_st hte ho ht hx hz rr hr hside⟩, hd.symm⟩
    · cases hco
  · rename_i op t x z t' d ho hd
    split at hco
    · rename_i neq hn
      obtain ⟨rfl, rfl, a1, a2, a3, a4, a5, ht⟩ := isNilC_inv hn
      obtain ⟨y, hx, rfl⟩ := Option.map_eq_some_iff.1 hco
      exact ⟨⟨_, does_beqn hte ho ht hx rr hr hside⟩, hd.symm⟩
    split at hco
    · rename_i neq hn
      obtain ⟨rfl, rfl, a1, a2, a3, a4, el, a5, ht⟩ := isNilS_inv hn
      obtain ⟨y, hx, rfl⟩ := Option.map_eq_some_iff.1 hco
      exact ⟨⟨_, does_bsn hte ho ht hx rr hr hside⟩, hd.symm⟩
    split at hco
    · rename_i y yz hx hz
      split at hco
      · split at hco
        · rename_i i ht
          split at hco
          · cases hco
            exact ⟨⟨_, does_beq (neq := false) hte ho ht hx hz rr hr hside⟩, hd.symm⟩
          · obtain ⟨ks, hks, rfl⟩ := Option.map_eq_some_iff.1 hco
            exact ⟨⟨_, does_beqs (neq := false) hte ho ht hks hx hz rr hr hside⟩, hd.symm⟩
        · cases hco
      · split at hco
        · rename_i i ht
          split at hco
          · cases hco
            exact ⟨⟨_, does_beq (neq := true) hte ho ht hx hz rr hr hside⟩, hd.symm⟩
          · obtain ⟨ks, hks, rfl⟩ := Option.map_eq_some_iff.1 hco
            exact ⟨⟨_, does_beqs (neq := true) hte ho ht hks hx hz rr hr hside⟩, hd.symm⟩
        · cases hco
      · cases hco
        exact ⟨⟨_, does_bo ho hx hz rr hr hside⟩, hd.symm⟩
    · cases hco
  · rename_i t x d ho hd
    cases hx : cX te 0 x with
    | none => simp [hx] at hco
    | some y => simp [hx] at hco; subst hco; exact ⟨⟨_, does_no ho hx rr hr hside⟩, hd.symm⟩
  · rename_i as ts d ho hd
    split at hco
    · rename_i x t hax hts
      split at hco
      · rename_i a1 a2 a3 a4 el a5 y ht hx
        cases hco
        exact ⟨⟨_, does_len hte ho rfl hax hts ht hx rr hr hside⟩, hd.symm⟩
      · rename_i a1 a2 a3 a4 kt et a5 y ht hx
        split at hco
        · rename_i i j hi hj
          cases hco
          exact ⟨⟨_, does_mln hte ho rfl hax hts ht hx rr hr hside⟩, hd.symm⟩
        · cases hco
      · cases hco
    · cases hco
  · rename_i as ts d ho hd
    split at hco
    · rename_i x y hax
      split at hco
      · rename_i zx zy hx hy
        cases hco
        exact ⟨⟨_, does_mx false ho rfl hax hx hy rr hr hside⟩, hd.symm⟩
      · cases hco
    · cases hco
  · rename_i as ts d ho hd
    split at hco
    · rename_i x y hax
      split at hco
      · rename_i zx zy hx hy
        cases hco
        exact ⟨⟨_, does_mx true ho rfl hax hx hy rr hr hside⟩, hd.symm⟩
      · cases hco
    · cases hco
  · rename_i t l c d ho hd
    split at hco
    · rename_i a1 a2 a3 a4 el a5 ht
      split at hco
      · rename_i q hq
        split at hco
        · rename_i hcond
          obtain ⟨hpos, rfl⟩ := hcond
          cases hco
          exact ⟨⟨_, does_mks hte ho ht hq hpos (y := .t l) rfl rr hr hside⟩, hd.symm⟩
        · cases hco
      · cases hco
    · cases hco
  · rename_i t n parts d ho hd
    split at hco
    · rename_i a1 a2 a3 a4 el a5 ht
      split at hco
      · rename_i q hq
        split at hco
        · rename_i hcond
          obtain ⟨l, hl, rfl⟩ := Option.map_eq_some_iff.1 hco
          unfold bslK at hr ⊢
          split at hr
          · exact ⟨does_bslF hte ho ht hq hcond.1 hcond.2.1 hcond.2.2 hl rr hr hside, hd.symm⟩
          · exact ⟨⟨_, does_bsl hte ho ht hq hcond.1 hcond.2.1 hcond.2.2 hl rr hr hside⟩, hd.symm⟩
        · cases hco
      · cases hco
    · cases hco
  · rename_i as ts d ho hd
    split at hco
    · rename_i x y t t' hax hts
      split at hco
      · rename_i htt
        split at hco
        · rename_i a1 a2 a3 a4 el a5 ht
          split at hco
          · rename_i q zx zy hq hx hy
            split at hco
            · rename_i hpos
              cases hco
              exact ⟨⟨_, does_app hte ho rfl hax hts (isSl_und hte htt) ht hq hpos hx hy rr hr hside⟩, hd.symm⟩
            · cases hco
          · cases hco
        · cases hco
      · cases hco
    · cases hco
  · rename_i t d ho hd
    cases ht : te t with
    | none => simp [ht] at hco
    | some i => simp [ht] at hco; subst hco; exact ⟨⟨_, does_al hte ho ht rr hr hside⟩, hd.symm⟩
  · rename_i t x d ho hd
    split at hco
    · rename_i i y ht hx
      cases hco
      exact ⟨⟨_, does_bx ho hx rr hr hside⟩, hd.symm⟩
    · cases hco
  · rename_i t parts d ho hd
    split at hco
    · rename_i a1 a2 a3 z fs a5 ht
      split at hco
      · rename_i ps hps
        obtain ⟨l, hl, rfl⟩ := Option.map_eq_some_iff.1 hco
        exact ⟨⟨_, does_bld hte ho ht hps hl rr hr hside⟩, hd.symm⟩
      · cases hco
    · rename_i a1 a2 a3 z n el a5 ht
      split at hco
      · rename_i i hi hp
        cases hco
        exact ⟨⟨_, does_bld0 hte ho ht hi hp rr hr hside⟩, hd.symm⟩
      · cases hco
    · cases hco
  · rename_i x i d ho hd
    obtain ⟨y, hx, rfl⟩ := Option.map_eq_some_iff.1 hco
    exact ⟨⟨_, does_ext ho hx rr hr hside⟩, hd.symm⟩
  · rename_i s t x d ho hd
    split at hco
    · rename_i hs ht hx
      cases hco
      exact ⟨⟨_, does_cv hte ho hs ht hx rr hr hside⟩, hd.symm⟩
    · rename_i hs ht hx
      cases hco
      exact ⟨⟨_, does_cvs hte ho hs ht hx rr hr hside⟩, hd.symm⟩
    · cases hco
  · rename_i t x d ho hd
    split at hco
    · rename_i ht hx
      split at hco
      · cases hco
      · rename_i hi
        cases hco
        exact ⟨⟨_, does_mki hte ho ht (by simpa using hi) hx rr hr hside⟩, hd.symm⟩
    · cases hco
  · rename_i t x lo hi d ho hd
    split at hco
    · rename_i a1 a2 a3 a4 el a5 ht
      split at hco
      · rename_i q y lx hx' hq hx hlo hhi
        split at hco
        · rename_i hpos
          cases hco
          exact ⟨⟨_, does_slc hte ho (.inl ⟨_, _, _, _, _, _, q, ht, hq, rfl, hpos⟩) hx hlo hhi rr hr hside⟩, hd.symm⟩
        · cases hco
      · cases hco
    · rename_i a1 a2 a3 a4 a5 ht
      split at hco
      · rename_i y lx hx' hx hlo hhi
        cases hco
        exact ⟨⟨_, does_slc hte ho (.inr ⟨_, _, _, _, _, ht, rfl⟩) hx hlo hhi rr hr hside⟩, hd.symm⟩
      · cases hco
    · cases hco
  · rename_i t d ho hd
    split at hco
    · rename_i a1 a2 a3 a4 kt et a5 ht
      split at hco
      · cases hco
        exact ⟨⟨_, does_mkm ho rr hr hside⟩, hd.symm⟩
      · cases hco
    · cases hco
  · rename_i t x y ok d ho hd
    split at hco
    · rename_i a1 a2 a3 a4 kt et a5 ht
      split at hco
      · rename_i i j zx zy hi hj hx hy
        obtain ⟨ks, hk, rfl⟩ := Option.map_eq_some_iff.1 hco
        exact ⟨⟨_, does_lkp hte ho ht hi hj hk hx hy rr hr hside⟩, hd.symm⟩
      · cases hco
    · cases hco
  · rename_i t x y z ho hd
    split at hco
    · rename_i a1 a2 a3 a4 kt et a5 ht
      split at hco
      · rename_i i j zx zy zz hi hj hx hy hz
        obtain ⟨ks, hk, rfl⟩ := Option.map_eq_some_iff.1 hco
        exact ⟨⟨_, does_mup hte (.inl ho) ht hi hj hk hx hy hz rr hr hside⟩, hd.symm⟩
      · cases hco
    · cases hco
  · rename_i t x y z ho hd
    split at hco
    · rename_i a1 a2 a3 a4 kt et a5 ht
      split at hco
      · rename_i i j zx zy zz hi hj hx hy hz
        obtain ⟨ks, hk, rfl⟩ := Option.map_eq_some_iff.1 hco
        exact ⟨⟨_, does_mup hte (.inr ho) ht hi hj hk hx hy hz rr hr hside⟩, hd.symm⟩
      · cases hco
    · cases hco
  · rename_i f first caps d ho hd
    split at hco
    · rename_i hf
      obtain ⟨xs, hx, rfl⟩ := Option.map_eq_some_iff.1 hco
      exact ⟨⟨_, does_mkf ho hf hx rr hr hside⟩, hd.symm⟩
    · cases hco
  · rename_i c x z d ho hd
    split at hco
    · rename_i yc y yz hc hx hz
      cases hco
      exact ⟨⟨_, does_pick ho hc hx hz rr hr hside⟩, hd.symm⟩
    · cases hco
  · cases hco
end
end Mq
