/- A region and a call come to what is told. Part of a verified reader of code, common to this project's claims. -/
import Derived.Test.YtgkkaimcchlnaaaGreatDoorMqSound
import Derived.Tactics
set_option linter.unusedVariables false
set_option linter.unusedSimpArgs false
namespace Mq
open Go Go.RowKit
set_option linter.unusedSectionVars false
variable [Glob]
/-- An operation: always, or under a test (the test's slot; what it must say). -/
inductive PG where
  | u (o : PO) | g (j : Nat) (w : Bool) (o : PO) | uc (d f : Nat) (xs : List X) | uv (d t : Nat) (xs : List X) | gc (j : Nat) (w : Bool) (d f : Nat) (xs : List X)
inductive PC where
  | skip | ret
  | reg (l : List PG) | regD (l : List PG) (ps : List (Nat × Nat))
  | seq (x y : PC) | cond (c : X) (x y : PC) | block (i : Nat) (x : PC) | loop (x : PC) | exit (i : Nat) | scope (x : PC) | raw (nt : Nat) (c : Code)
def Vis (h : Hp) (w : World) : Prop := ∀ b o, h b = some o → w.heap[b]? = some o
/-- A function, called with what no longer turns, comes to what no longer turns; nothing that was there turns. -/
def Live (P : Program) (f : Nat) : Prop := ∃ fn, P.funcs[f]? = some fn ∧ (fn.name == "runtime.NumGoroutine") = false ∧ fn.body.isNone = false
def FnS (P : Program) (f : Nat) (args : List AV) (r : AV) : Prop :=
  Live P f ∧ ∀ (w : World) (h : Hp) (vs : Array Value), GX h → Vis h w → vs.size = args.length → (∀ (j : Nat) (x : AV), args[j]? = some x → VRep h noE (vs.getD j undef) x) →
    Calls P f vs w fun en w' => ∃ v h', en = .returned v ∧ VRep h' noE v r ∧ h.le h' ∧ Vis h' w' ∧ (∀ b, b < w.heap.size → h' b = h b) ∧ Below w.heap.size w w'
/-- A function of which what comes leads to no memory that was there. -/
def FnF (P : Program) (f : Nat) (args : List AV) (r : AV) : Prop :=
  ∀ (w : World) (h : Hp) (vs : Array Value), GX h → Vis h w → vs.size = args.length → (∀ (j : Nat) (x : AV), args[j]? = some x → VRep h noE (vs.getD j undef) x) →
    Calls P f vs w fun en w' => ∃ v h', en = .returned v ∧ VRep h' noE v r ∧ Vis h' w' ∧ (∀ b, b < w.heap.size → h' b = none) ∧ Below w.heap.size w w'
mutual
/-- Does a value lead to no memory? -/
def flat : AV → Bool
  | .d (.v _) => true
  | .ag l => flatL l
  | .tp l => flatL l
  | _ => false
def flatL : List AV → Bool
  | [] => true
  | x :: r => flat x && flatL r
end
/-- What is handed in may be of the caller's own, if nothing of what comes leads to it. -/
abbrev okF (P : Program) (c : Prop) (f : Nat) (args : List AV) (ow : Bool) (rv : AV) : Prop := ow = false ∨ flat rv = true ∨ (c → FnF P f args rv)
mutual
/-- What is handed to a call: rows of the caller's own as what they read as. -/
def dv (go : Nat → Option AO) : AV → AV
  | .own n g => match go n with
    | some (.row _ s g' l) => if g = g' then .d (.sl s l) else .un
    | _ => .un
  | .mp n => match go n with
    | some (.map ka ea l) => .d (.mp ka ea l)
    | _ => .un
  | .nl s => .d (.sl s [])
  | .d x => .d x
  | .ag l => .ag (dvL go l)
  | .clo f l => .clo f (dvL go l)
  | _ => .un
def dvL (go : Nat → Option AO) : List AV → List AV
  | [] => []
  | x :: r => dv go x :: dvL go r
end
mutual
def owns : AV → Bool
  | .own _ _ | .mp _ => true
  | .ag l => ownsL l
  | .clo _ l => ownsL l
  | _ => false
def ownsL : List AV → Bool
  | [] => false
  | x :: r => owns x || ownsL r
end
def putO (sl : Sl) : Option Nat → AV → Sl
  | some d, v => lput sl d v
  | none, _ => sl
def guardOf : AV → Option (List (Bool × Bool) × Bool)
  | .d (.v (.bool t)) => some ([], t)
  | .gd l (.d (.v (.bool t))) => some (l, t)
  | _ => none
def sides (gs : Nat → Option AV) : List X → Prop
  | [] => True
  | x :: r => (evs gs x).1 ∧ sides gs r
def argsOf (gs : Nat → Option AV) (go : Nat → Option AO) : List X → List AV
  | [] => []
  | x :: r => dv go (evs gs x).2 :: argsOf gs go r
/-- What is handed to a call, a nil slice as such. -/
def dvN (go : Nat → Option AO) : AV → AV
  | .nl s => .nl s
  | .d x => dv go (.d x)
  | .own n g => dv go (.own n g)
  | .ptr n o => dv go (.ptr n o)
  | .rptr n g s i o => dv go (.rptr n g s i o)
  | .mp n => dv go (.mp n)
  | .ag l => dv go (.ag l)
  | .tp l => dv go (.tp l)
  | .gd l a => dv go (.gd l a)
  | .clo f l => dv go (.clo f l)
  | .un => dv go .un
def argsN (gs : Nat → Option AV) (go : Nat → Option AO) : List X → List AV
  | [] => []
  | x :: r => dvN go (evs gs x).2 :: argsN gs go r
abbrev FnA (P : Program) (f : Nat) (args argsn : List AV) (rv : AV) : Prop := FnS P f args rv ∨ FnS P f argsn rv
def rawOf (gs : Nat → Option AV) : List X → List AV
  | [] => []
  | x :: r => (evs gs x).2 :: rawOf gs r
def CallK (P : Program) (f : Nat) (args argsn : List AV) (ow : Bool) (d : Nat) (c : Prop) (wr : AV → AV) (kr : (Sl → Os → Prop) → Sl → Os → Prop) (K : Sl → Os → Prop) (sl : Sl) (os : Os) : Prop :=
  ∃ rv, (c → FnA P f args argsn rv) ∧ okF P c f args ow rv ∧ kr K (lput sl d (wr rv)) os
def runG (P : Program) (l : List PG) (K : Sl → Os → Prop) (sl : Sl) (os : Os) : Prop := match l with
  | [] => K sl os
  | .uc d f xs :: r => sides (lget sl) xs ∧ CallK P f (argsOf (lget sl) (lget os) xs) (argsN (lget sl) (lget os) xs) (ownsL (rawOf (lget sl) xs)) d True id (runG P r) K sl os
  | .u o :: r => match stp (lget sl) (lget os) o with
    | some q => q.side ∧ runG P r K (putO sl o.dst q.val) (updO os q.upd)
    | none => False
  | .uv d t xs :: r => match lget sl t with
    | some (.clo f l) => sides (lget sl) xs ∧ CallK P f (argsOf (lget sl) (lget os) xs ++ dvL (lget os) l) (argsOf (lget sl) (lget os) xs ++ dvL (lget os) l) (ownsL (rawOf (lget sl) xs) || ownsL l) d True id (runG P r) K sl os
    | _ => False
  | .gc j w d f xs :: r => match guardOf ((lget sl j).getD .un) with
    | some (l, t) => (okL ((t, w) :: l) → sides (lget sl) xs) ∧ CallK P f (argsOf (lget sl) (lget os) xs) (argsN (lget sl) (lget os) xs) (ownsL (rawOf (lget sl) xs)) d (okL ((t, w) :: l)) (fun v => .gd ((t, w) :: l) v) (runG P r) K sl os
    | none => False
  | .g j w o :: r => match guardOf ((lget sl j).getD .un), stp (lget sl) (lget os) o with
    | some (l, t), some ⟨v, none, s⟩ => (okL ((t, w) :: l) → s ∧ (strip v).1) ∧ runG P r K (putO sl o.dst (.gd ((t, w) :: l) (strip v).2)) os
    | some (l, t), some ⟨v, some y, s⟩ => (okL ((t, w) :: l) ∧ s) ∧ runG P r K (putO sl o.dst v) (updO os (some y))
    | _, _ => False
theorem runG_nil (P : Program) (K : Sl → Os → Prop) (sl : Sl) (os : Os) : runG P [] K sl os = K sl os := rfl
theorem runG_u (P : Program) (o : PO) (r : List PG) (K : Sl → Os → Prop) (sl : Sl) (os : Os) : runG P (.u o :: r) K sl os = match stp (lget sl) (lget os) o with
    | some q => q.side ∧ runG P r K (putO sl o.dst q.val) (updO os q.upd)
    | none => False := rfl
theorem runG_g (P : Program) (j : Nat) (w : Bool) (o : PO) (r : List PG) (K : Sl → Os → Prop) (sl : Sl) (os : Os) : runG P (.g j w o :: r) K sl os =
    match guardOf ((lget sl j).getD .un), stp (lget sl) (lget os) o with
    | some (l, t), some ⟨v, none, s⟩ => (okL ((t, w) :: l) → s ∧ (strip v).1) ∧ runG P r K (putO sl o.dst (.gd ((t, w) :: l) (strip v).2)) os
    | some (l, t), some ⟨v, some y, s⟩ => (okL ((t, w) :: l) ∧ s) ∧ runG P r K (putO sl o.dst v) (updO os (some y))
    | _, _ => False := rfl
def CallU (P : Program) (f : Nat) (args argsn : List AV) (ow : Bool) (d : Nat) (r : List PG) (K : Sl → Os → Prop) (sl : Sl) (os : Os) : Prop := CallK P f args argsn ow d True id (runG P r) K sl os
def CallC (P : Program) (f : Nat) (args argsn : List AV) (ow : Bool) (d : Nat) (l : List (Bool × Bool)) (r : List PG) (K : Sl → Os → Prop) (sl : Sl) (os : Os) : Prop := CallK P f args argsn ow d (okL l) (fun v => .gd l v) (runG P r) K sl os
theorem runG_ucS (P : Program) (d f : Nat) (xs : List X) (r : List PG) (K : Sl → Os → Prop) (sl : Sl) (os : Os) :
    runG P (.uc d f xs :: r) K sl os = (sides (lget sl) xs ∧ CallU P f (argsOf (lget sl) (lget os) xs) (argsN (lget sl) (lget os) xs) (ownsL (rawOf (lget sl) xs)) d r K sl os) := rfl
theorem runG_uvS (P : Program) (d t : Nat) (xs : List X) (r : List PG) (K : Sl → Os → Prop) (sl : Sl) (os : Os) :
    runG P (.uv d t xs :: r) K sl os = match lget sl t with
      | some (.clo f l) => sides (lget sl) xs ∧ CallU P f (argsOf (lget sl) (lget os) xs ++ dvL (lget os) l) (argsOf (lget sl) (lget os) xs ++ dvL (lget os) l) (ownsL (rawOf (lget sl) xs) || ownsL l) d r K sl os
      | _ => False := rfl
theorem runG_gcS (P : Program) (j d f : Nat) (w : Bool) (xs : List X) (r : List PG) (K : Sl → Os → Prop) (sl : Sl) (os : Os) :
    runG P (.gc j w d f xs :: r) K sl os = match guardOf ((lget sl j).getD .un) with
      | some (l, t) => (okL ((t, w) :: l) → sides (lget sl) xs) ∧ CallC P f (argsOf (lget sl) (lget os) xs) (argsN (lget sl) (lget os) xs) (ownsL (rawOf (lget sl) xs)) d ((t, w) :: l) r K sl os
      | none => False := rfl
theorem CallU_of {P : Program} {f : Nat} {args argsn : List AV} {ow : Bool} {d : Nat} {r : List PG} {K : Sl → Os → Prop} {sl : Sl} {os : Os} {rv : AV} (hf : FnS P f args rv) (ho : okF P True f args ow rv)
    (hk : runG P r K (lput sl d rv) os) : CallU P f args argsn ow d r K sl os := ⟨rv, fun _ => .inl hf, ho, hk⟩
theorem CallC_of {P : Program} {f : Nat} {args argsn : List AV} {ow : Bool} {d : Nat} {l : List (Bool × Bool)} {r : List PG} {K : Sl → Os → Prop} {sl : Sl} {os : Os} {rv : AV} (hf : okL l → FnS P f args rv) (ho : okF P (okL l) f args ow rv)
    (hk : runG P r K (lput sl d (.gd l rv)) os) : CallC P f args argsn ow d l r K sl os := ⟨rv, fun q => .inl (hf q), ho, hk⟩
/-- Where a nil slice is handed in as such. -/
theorem CallUN_of {P : Program} {f : Nat} {args argsn : List AV} {ow : Bool} {d : Nat} {r : List PG} {K : Sl → Os → Prop} {sl : Sl} {os : Os} {rv : AV} (hf : FnS P f argsn rv) (ho : okF P True f args ow rv)
    (hk : runG P r K (lput sl d rv) os) : CallU P f args argsn ow d r K sl os := ⟨rv, fun _ => .inr hf, ho, hk⟩
theorem CallCN_of {P : Program} {f : Nat} {args argsn : List AV} {ow : Bool} {d : Nat} {l : List (Bool × Bool)} {r : List PG} {K : Sl → Os → Prop} {sl : Sl} {os : Os} {rv : AV} (hf : okL l → FnS P f argsn rv) (ho : okF P (okL l) f args ow rv)
    (hk : runG P r K (lput sl d (.gd l rv)) os) : CallC P f args argsn ow d l r K sl os := ⟨rv, fun q => .inr (hf q), ho, hk⟩
def cArgs (te : TE) : List TypeId → List Operand → Option (List X)
  | _, [] => some []
  | t :: ts, x :: r => match cX te t x, cArgs te ts r with
    | some y, some l => some (y :: l)
    | _, _ => none
  | [], _ :: _ => none
def ccall (te : TE) (o : Oper) : Option (Nat × Nat × List X) :=
  match o.op, o.dst with
  | .call { callee := .value (.func f), args := as, argTypes := ts }, some d => (cArgs te ts.toList as.toList).map fun xs => (d, f, xs)
  | _, _ => none
def cvcall (te : TE) (o : Oper) : Option (Nat × Nat × List X) :=
  match o.op, o.dst with
  | .call { callee := .value (.tmp t), args := as, argTypes := ts }, some d => (cArgs te ts.toList as.toList).map fun xs => (d, t, xs)
  | _, _ => none
def dstOk (nt : Nat) : Option Nat → Bool
  | some d => decide (d < nt)
  | none => true
def cG (te : TE) (nt : Nat) (ops : Array Oper) (o : Oper) : Option PG :=
  if dstOk nt o.dst then
    match o.guard with
    | none => match ccall te o with
      | some (d, f, xs) => some (.uc d f xs)
      | none => match cvcall te o with
        | some (d, t, xs) => some (.uv d t xs)
        | none => (cop te o).map .u
    | some (j, w) => match (ops[j]?).bind (·.dst) with
      | some t => match ccall te o with
        | some (d, f, xs) => some (.gc t w d f xs)
        | none => (cop te o).map (.g t w)
      | none => none
  else none
def cGs (te : TE) (nt : Nat) (ops : Array Oper) : List Oper → Option (List PG)
  | [] => some []
  | o :: r => match cG te nt ops o, cGs te nt ops r with
    | some g, some l => some (g :: l)
    | _, _ => none
section
variable {P : Program} {te : TE} {o : Oper} {cx : Cx} {h : Hp} {e : Env} {sl : Sl} {os : Os} {a : Act} {w : World}
theorem guard_rep {v : Value} : ∀ (gv : AV) (l : List (Bool × Bool)) (t : Bool), VRep h e v gv → guardOf gv = some (l, t) → (okL l → v = .bool t) ∧ (¬ okL l → v = undef)
  | .d (.v (.bool b)), p, t, hv, hg => by
    simp only [guardOf, Option.some.injEq, Prod.mk.injEq] at hg
    obtain ⟨rfl, rfl⟩ := hg
    cases hv with
    | d _ _ hr => cases hr with
      | v _ _ => exact ⟨fun _ => rfl, fun h => absurd trivial h⟩
  | .gd l (.d (.v (.bool b))), p, t, hv, hg => by
    simp only [guardOf, Option.some.injEq, Prod.mk.injEq] at hg
    obtain ⟨rfl, rfl⟩ := hg
    cases hv with
    | gd _ _ _ hr hn =>
      refine ⟨fun c => ?_, hn⟩
      cases hr c with
      | d _ _ hr => cases hr with
        | v _ _ => rfl
theorem wrapG_rep {v : Value} {l : List (Bool × Bool)} {x : AV} (h1 : okL l → VRep h e v x) (h2 : ¬ okL l → v = undef) : VRep h e v (.gd l x) := .gd _ _ _ h1 h2
theorem RR.slotv (rr : RR cx h e sl os a w) (j : Nat) : VRep h e (a.tmps.getD j undef) ((lget sl j).getD .un) := by
  cases hg : lget sl j with
  | none => exact .un _
  | some x => exact rr.slots j x hg
theorem wanted_of {ops : Array Oper} {j t : Nat} {wt b : Bool} {l : List (Bool × Bool)} (rr : RR cx h e sl os a w) (hgd : o.guard = some (j, wt)) (hj : (ops[j]?).bind (·.dst) = some t)
    (hg : guardOf ((lget sl t).getD .un) = some (l, b)) : (okL ((b, wt) :: l) → Region.wanted o (yielded ops a.tmps) = true) ∧ (¬ okL ((b, wt) :: l) → Region.wanted o (yielded ops a.tmps) = false) := by
  obtain ⟨h1, h2⟩ := guard_rep _ l b (rr.slotv t) hg
  have hy : Region.wanted o (yielded ops a.tmps) = ((match a.tmps[t]? with | some (.bool b) => some b | _ => none) == some wt) := by
    simp [Region.wanted, hgd, yielded, hj]
    rfl
  have hd : a.tmps.getD t undef = (a.tmps[t]?).getD undef := by simp [Array.getD_eq_getD_getElem?]
  rw [hy]
  constructor
  · rintro ⟨hb, hp⟩
    have hb : b = wt := hb
    subst hb
    have := h1 hp
    rw [hd] at this
    cases ht : a.tmps[t]? with
    | none => rw [ht] at this; cases this
    | some v => rw [ht] at this; simp at this; subst this; simp
  · intro hn
    by_cases hp : okL l
    · have := h1 hp
      rw [hd] at this
      cases ht : a.tmps[t]? with
      | none => simp
      | some v => rw [ht] at this; simp at this; subst this; simp; exact fun z => hn ⟨z, hp⟩
    · have := h2 hp
      rw [hd] at this
      cases ht : a.tmps[t]? with
      | none => simp
      | some v => rw [ht] at this; simp at this; subst this; simp [undef]
theorem RR.putO (rr : RR cx h e sl os a w) {d : Option Nat} (hd : dstOk cx.nt d = true) {v : Value} {x : AV} (hv : VRep h e v x) : RR cx h e (Mq.putO sl d x) os (a.put d v) w := by
  cases d with
  | none => exact rr
  | some d => exact rr.slot (by simpa [dstOk] using hd) hv
mutual
theorem flat_rep {h' : Hp} {e' : Env} : ∀ (x : AV) (v : Value), flat x = true → VRep h e v x → VRep h' e' v x
  | .d (.v y), v, _, hv => by
    cases hv with
    | d _ _ hr => cases hr with
      | v _ h1 => exact .d _ _ (.v _ h1)
  | .ag l, v, hf, hv => by
    cases hv with
    | ag vs _ hl hr h1 => exact .ag vs l hl (fun j y hj => flatL_rep l (by simpa [flat] using hf) j y hj _ (hr j y hj)) h1
  | .tp l, v, hf, hv => by
    cases hv with
    | tp vs _ hl hr => exact .tp vs l hl (fun j y hj => flatL_rep l (by simpa [flat] using hf) j y hj _ (hr j y hj))
theorem flatL_rep {h' : Hp} {e' : Env} : ∀ (l : List AV), flatL l = true → ∀ (j : Nat) (y : AV), l[j]? = some y → ∀ v, VRep h e v y → VRep h' e' v y
  | x :: r, hf, j, y, hj, v, hv => by
    simp only [flatL, Bool.and_eq_true] at hf
    cases j with
    | zero => simp at hj; subst hj; exact flat_rep x v hf.1 hv
    | succ j => exact flatL_rep r hf.2 j y (by simpa using hj) v hv
end
/-- Memory in which the call's own blocks are seen, too. -/
def Sees (h' : Hp) (e : Env) (w : World) : Prop := ∀ n (x : Ent) b o, e n = some x → x.has b → w.heap[b]? = some o → h' b = some o
mutual
theorem dv_rep {h' : Hp} (rr : RR cx h e sl os a w) (hh : h.le h') : ∀ (x : AV), (owns x = true → Sees h' e w) → ∀ v, VRep h e v x → VRep h' noE v (dv (lget os) x)
  | .own n g, ho, v, hv => by
    simp only [dv]
    split
    · rename_i t s g' l hgo
      split
      · rename_i hgen
        cases hv with
        | own _ _ _ ent hent h1 hg hvb =>
          obtain ⟨hge, hs0, xs, hown, hls, _⟩ := row_ent rr hgo hent
          have hval := hvb (by rw [hge, hgen])
          by_cases hl : 0 < l.length
          · obtain ⟨b, cap, cur, hsv, hheap, hlc, hcm, hcs, hrr⟩ := row_cells rr hgo hent hl
            rw [hval, hsv]
            refine .d _ _ (.sl s l b 0 cap cur t (0, 0) (ho rfl _ ent b _ hent (.inl (by simp [hsv, blkOf])) hheap) ?_ hls (fun i es j d hi hj => ?_) hlc)
            · have := Nat.mul_le_mul_right s hlc; omega
            · simpa using (hrr i es j d hi hj).mono hh
          · have h0 : l = [] := List.eq_nil_of_length_eq_zero (by omega)
            subst h0
            rcases hown.2 with ⟨hn, _⟩ | ⟨b, cap, cur, hsv, _⟩
            · rw [hval, hn]; exact .d _ _ (.nil _ _ _)
            · rw [hval, hsv]; exact .d _ _ (.nil _ _ _)
      · exact .un _
    · exact .un _
  | .nl s, _, v, hv => by cases hv; exact .d _ _ (.nil _ _ _)
  | .d x, _, v, hv => by cases hv with | d _ _ hr => exact .d _ _ (hr.mono hh)
  | .ag l, ho, v, hv => by
    cases hv with
    | ag vs _ hl hr h1 =>
      simp only [dv]
      exact .ag vs _ (by rw [hl]; exact (dvL_len _).symm) (fun j y hj => dvL_rep rr hh l (by simpa [owns] using ho) j y hj _ (fun x hx => hr j x hx)) h1
  | .clo f l, ho, v, hv => by
    cases hv with
    | clo _ vs _ hl hr =>
      simp only [dv]
      exact .clo f vs _ (by rw [hl]; exact (dvL_len _).symm) (fun j y hj => dvL_rep rr hh l (by simpa [owns] using ho) j y hj _ (fun x hx => hr j x hx))
  | .ptr .., _, v, _ => .un _
  | .rptr .., _, v, _ => .un _
  | .mp n, ho, v, hv => by
    simp only [dv]
    split
    · rename_i ka ea l hgo
      cases hv with
      | mp _ _ ent hent h1 b hb hv =>
        obtain ⟨y, hy, _, b', es, clock, f, hv', hc, hm1, hms, hm2, hm3⟩ := rr.st.obj n _ hgo
        rw [hent] at hy
        cases hy
        rw [hb] at hv'
        cases hv'
        rw [hv, hb]
        exact .d _ _ (.mp ka ea l b es clock f (ho rfl n ent b _ hent (.inl (by simp [hb, blkOf])) hc) hm1 hms hm2 (fun i p j d hi hj => (hm3 i p j d hi hj).mono hh))
    · exact .un _
  | .tp _, _, v, _ => .un _
  | .gd .., _, v, _ => .un _
  | .un, _, v, _ => .un _
theorem dvL_rep {h' : Hp} (rr : RR cx h e sl os a w) (hh : h.le h') : ∀ (l : List AV), (ownsL l = true → Sees h' e w) → ∀ (j : Nat) (y : AV), (dvL (lget os) l)[j]? = some y → ∀ v, (∀ x, l[j]? = some x → VRep h e v x) → VRep h' noE v y
  | [], _, j, y, hj, v, _ => by simp [dvL] at hj
  | x :: r, ho, j, y, hj, v, hv => by
    simp only [dvL] at hj
    cases j with
    | zero =>
      simp at hj
      subst hj
      exact dv_rep rr hh x (fun q => ho (by simp [ownsL, q])) v (hv x (by simp))
    | succ j => exact dvL_rep rr hh r (fun q => ho (by simp [ownsL, q])) j y (by simpa using hj) v (fun x hx => hv x (by simpa using hx))
theorem dvL_len {go : Nat → Option AO} : ∀ (l : List AV), (dvL go l).length = l.length
  | [] => rfl
  | _ :: r => by simp [dvL, dvL_len r]
end
theorem args_rep {h' : Hp} (rr : RR cx h e sl os a w) (hh : h.le h') : ∀ (ts : List TypeId) (as : List Operand) (xs : List X), cArgs te ts as = some xs → sides (lget sl) xs →
    (ownsL (rawOf (lget sl) xs) = true → Sees h' e w) →
    as.length = (argsOf (lget sl) (lget os) xs).length ∧ ∀ (j : Nat) (y : AV), (argsOf (lget sl) (lget os) xs)[j]? = some y → ∀ x, as[j]? = some x → VRep h' noE (a.eval x) y
  | ts, [], xs, hc, _, _ => by simp only [cArgs, Option.some.injEq] at hc; subst hc; simp [argsOf]
  | [], x :: r, xs, hc, _, _ => by simp [cArgs] at hc
  | t :: ts, x :: r, xs, hc, hs, ho => by
    simp only [cArgs] at hc
    cases hx : cX te t x with
    | none => simp [hx] at hc
    | some y =>
      cases hr : cArgs te ts r with
      | none => simp [hx, hr] at hc
      | some l =>
        simp only [hx, hr, Option.some.injEq] at hc
        subst hc
        obtain ⟨h1, h2⟩ := args_rep rr hh ts r l hr hs.2 (fun q => ho (by simp [rawOf, ownsL, q]))
        refine ⟨by simp [argsOf, h1], fun j z hj x' hx' => ?_⟩
        cases j with
        | zero =>
          simp [argsOf] at hj hx'
          subst hj; subst hx'
          exact dv_rep rr hh _ (fun q => ho (by simp [rawOf, ownsL, q])) _ (evs_rep hx rr (p := (evs (lget sl) y).1) (z := (evs (lget sl) y).2) rfl hs.1)
        | succ j => exact h2 j z (by simpa [argsOf] using hj) x' (by simpa using hx')
theorem dvnN_rep {h' : Hp} (rr : RR cx h e sl os a w) (hh : h.le h') (x : AV) (ho : owns x = true → Sees h' e w) (v : Value) (hv : VRep h e v x) : VRep h' noE v (dvN (lget os) x) := by
  cases x with
  | nl s => cases hv; exact .nl s
  | _ => exact dv_rep rr hh _ ho v hv
theorem argsN_rep {h' : Hp} (rr : RR cx h e sl os a w) (hh : h.le h') : ∀ (ts : List TypeId) (as : List Operand) (xs : List X), cArgs te ts as = some xs → sides (lget sl) xs →
    (ownsL (rawOf (lget sl) xs) = true → Sees h' e w) →
    as.length = (argsN (lget sl) (lget os) xs).length ∧ ∀ (j : Nat) (y : AV), (argsN (lget sl) (lget os) xs)[j]? = some y → ∀ x, as[j]? = some x → VRep h' noE (a.eval x) y
  | ts, [], xs, hc, _, _ => by simp only [cArgs, Option.some.injEq] at hc; subst hc; simp [argsN]
  | [], x :: r, xs, hc, _, _ => by simp [cArgs] at hc
  | t :: ts, x :: r, xs, hc, hs, ho => by
    simp only [cArgs] at hc
    cases hx : cX te t x with
    | none => simp [hx] at hc
    | some y =>
      cases hr : cArgs te ts r with
      | none => simp [hx, hr] at hc
      | some l =>
        simp only [hx, hr, Option.some.injEq] at hc
        subst hc
        obtain ⟨h1, h2⟩ := argsN_rep rr hh ts r l hr hs.2 (fun q => ho (by simp [rawOf, ownsL, q]))
        refine ⟨by simp [argsN, h1], fun j z hj x' hx' => ?_⟩
        cases j with
        | zero =>
          simp [argsN] at hj hx'
          subst hj; subst hx'
          exact dvnN_rep rr hh _ (fun q => ho (by simp [rawOf, ownsL, q])) _ (evs_rep hx rr (p := (evs (lget sl) y).1) (z := (evs (lget sl) y).2) rfl hs.1)
        | succ j => exact h2 j z (by simpa [argsN] using hj) x' (by simpa using hx')
theorem dvN_weak {go : Nat → Option AO} (x : AV) {h : Hp} {e : Env} {v : Value} (hv : VRep h e v (dvN go x)) : VRep h e v (dv go x) := by
  cases x with
  | nl s => simp only [dvN] at hv; cases hv; exact .d _ _ (.nil _ _ _)
  | _ => exact hv
theorem argsN_weak (gs : Nat → Option AV) (go : Nat → Option AO) : ∀ (xs : List X), (argsN gs go xs).length = (argsOf gs go xs).length ∧ ∀ (j : Nat) (y : AV), (argsOf gs go xs)[j]? = some y → ∃ y', (argsN gs go xs)[j]? = some y' ∧ ∀ (h : Hp) (e : Env) (v : Value), VRep h e v y' → VRep h e v y
  | [] => ⟨rfl, by simp [argsOf]⟩
  | x :: r => by
    obtain ⟨h1, h2⟩ := argsN_weak gs go r
    refine ⟨by simp [argsN, argsOf, h1], fun j y hj => ?_⟩
    cases j with
    | zero => simp [argsOf] at hj; subst hj; exact ⟨_, rfl, fun h e v hv => dvN_weak _ hv⟩
    | succ j => exact h2 j y (by simpa [argsOf] using hj)
theorem FnF_weak {P : Program} {f : Nat} {gs : Nat → Option AV} {go : Nat → Option AO} {xs : List X} {rv : AV} (hF : FnF P f (argsOf gs go xs) rv) : FnF P f (argsN gs go xs) rv := by
  intro w h vs hg hv hs ha
  obtain ⟨h1, h2⟩ := argsN_weak gs go xs
  refine hF w h vs hg hv (by rw [hs, h1]) (fun j x hj => ?_)
  obtain ⟨y', e1, e2⟩ := h2 j x hj
  exact e2 _ _ _ (ha j y' e1)
theorem run_call {f : Nat} {as : Array Operand} {ts : Array TypeId} {P : Program} (hl : Live P f) (ho : o.op = .call { callee := .value (.func f), args := as, argTypes := ts }) :
    (execOp a.eval o).run P w = .ok (.enter f (as.map a.eval)) w := by
  obtain ⟨fn, hf, hn, hb⟩ := hl
  simp only [beq_eq_false_iff_ne, ne_eq] at hn
  have hb' : ¬ fn.body = none := fun q => by simp [q] at hb
  simp [execOp, ho, resolve, Act.eval, Deferred.ofValue, invoke, callFunc, hf, hn, hb']
theorem dvL_len2 (go : Nat → Option AO) : ∀ (l : List AV), (dvL go l).length = l.length
  | [] => rfl
  | _ :: r => by simp [dvL, dvL_len2 go r]
/-- A call: what is handed in, and what comes of it. -/
theorem call_core {f : Nat} {args : List AV} {vs : Array Value} {ow : Bool} {rv : AV} (hrun : (execOp a.eval o).run P w = .ok (.enter f vs) w) (rr : RR cx h e sl os a w)
    (hargs : ∀ h' : Hp, h.le h' → (ow = true → Sees h' e w) → vs.size = args.length ∧ ∀ (j : Nat) (y : AV), args[j]? = some y → VRep h' noE (vs.getD j undef) y)
    (hf : FnS P f args rv) (hfl : ow = false ∨ flat rv = true ∨ FnF P f args rv) {next : Act → World → Prop} {Q : Exit → Act → World → Prop}
    (hn : ∀ v h' w', RR cx h' e sl os a w' → VRep h' e v rv → next (a.put o.dst v) w') : o.wp P a w next Q := by
  unfold Oper.wp
  rw [hrun]
  simp only [Oper.upon]
  have hgr : ∀ {w'}, Below w.heap.size w w' → w.grownBy w' none := fun hb => ⟨hb.os, hb.tape, hb.output, hb.size, fun k hk _ => hb.block k hk⟩
  by_cases how : ow = true
  · have hfr := hfl.resolve_left (by simp [how])
    obtain ⟨h1, h2⟩ := hargs (fun b => w.heap[b]?) rr.st.vis (fun _ _ _ b o _ _ ho => ho)
    rcases hfr with hfr | hF
    · refine (hf.2 w (fun b => w.heap[b]?) vs (rr.gx.mono rr.st.vis) (fun b o ho => ho) h1 h2).mono ?_
      rintro en w' ⟨v, h', rfl, hv, hle, hvis, hold, hb⟩
      exact hn v h w' (rr.grown (hgr hb)) (flat_rep rv v hfr hv)
    · refine (hF w (fun b => w.heap[b]?) vs (rr.gx.mono rr.st.vis) (fun b o ho => ho) h1 h2).mono ?_
      rintro en w' ⟨v, h', rfl, hv, hvis, hold, hb⟩
      have r1 := rr.grown (hgr hb)
      let h2 : Hp := fun b => if b < w.heap.size then h b else h' b
      have hlt : ∀ b o, h b = some o → b < w.heap.size := fun b o ho => (Array.getElem?_eq_some_iff.1 (rr.st.vis b o ho)).1
      have hle : h.le h2 := fun b o ho => by simp only [h2]; rw [if_pos (hlt b o ho)]; exact ho
      have hle2 : h'.le h2 := fun b o ho => by
        simp only [h2]
        split
        · rename_i hq; rw [hold b hq] at ho; cases ho
        · exact ho
      refine hn v h2 w' ⟨⟨fun b o ho => ?_, fun n o hg => ?_, r1.st.dom, r1.st.sep, fun n x b hx hxb => ?_, r1.st.lone⟩, ⟨r1.fr.os, r1.fr.tape, r1.fr.output, r1.fr.size, r1.fr.old, fun b hb' => ?_, r1.fr.own, r1.fr.keep⟩, fun t x hx => (r1.slots t x hx).mono hle (Env.le.refl e), r1.size, r1.defers⟩
        (hv.mono hle2 (fun m y hy => by cases hy))
      · simp only [h2] at ho
        split at ho
        · exact r1.st.vis b o ho
        · exact hvis b o ho
      · obtain ⟨x, hx, hr⟩ := r1.st.obj n o hg
        exact ⟨x, hx, hr.mono hle (Env.le.refl e) (fun _ _ => rfl)⟩
      · simp only [h2]
        rw [if_pos (rr.st.lt hx hxb)]
        exact rr.st.excl n x b hx hxb
      · simp only [h2]
        rw [if_pos (Nat.lt_of_lt_of_le hb' rr.fr.size)]
        exact rr.fr.hold b hb'
  · obtain ⟨h1, h2⟩ := hargs h (Hp.le.refl h) (fun q => absurd q how)
    refine (hf.2 w h vs rr.gx rr.st.vis h1 h2).mono ?_
    rintro en w' ⟨v, h', rfl, hv, hle, hvis, hold, hb⟩
    have r1 := rr.grown (hgr hb)
    refine hn v h' w' ⟨⟨hvis, fun n o hg => ?_, r1.st.dom, r1.st.sep, fun n x b hx hxb => ?_, r1.st.lone⟩, ⟨r1.fr.os, r1.fr.tape, r1.fr.output, r1.fr.size, r1.fr.old, fun b hb' => ?_, r1.fr.own, r1.fr.keep⟩, fun t x hx => (r1.slots t x hx).mono hle (Env.le.refl e), r1.size, r1.defers⟩
      (hv.mono (Hp.le.refl h') (fun m y hy => by cases hy))
    · obtain ⟨x, hx, hr⟩ := r1.st.obj n o hg
      exact ⟨x, hx, hr.mono hle (Env.le.refl e) (fun _ _ => rfl)⟩
    · rw [hold b (rr.st.lt hx hxb)]
      exact rr.st.excl n x b hx hxb
    · rw [hold b (Nat.lt_of_lt_of_le hb' rr.fr.size)]
      exact rr.fr.hold b hb'
theorem getD_arr {as : Array Operand} {j n : Nat} (hj : j < n) (hn : as.size = n) : (as.map a.eval).getD j undef = a.eval (as[j]'(by omega)) := by
  have : j < as.size := by omega
  simp [Array.getD, this]
theorem call_sound {f d : Nat} {xs : List X} {rv : AV} (hc : ccall te o = some (d, f, xs)) (rr : RR cx h e sl os a w) (hs : sides (lget sl) xs)
    (hf : FnA P f (argsOf (lget sl) (lget os) xs) (argsN (lget sl) (lget os) xs) rv) (hfl : ownsL (rawOf (lget sl) xs) = false ∨ flat rv = true ∨ FnF P f (argsOf (lget sl) (lget os) xs) rv) {next : Act → World → Prop} {Q : Exit → Act → World → Prop} (_hd : dstOk cx.nt o.dst = true)
    (hn : ∀ v h' w', RR cx h' e sl os a w' → VRep h' e v rv → next (a.put o.dst v) w') : o.dst = some d ∧ o.wp P a w next Q := by
  unfold ccall at hc
  split at hc
  · rename_i f' as ts d' ho hdst
    cases hca : cArgs te ts.toList as.toList with
    | none => simp [hca] at hc
    | some ys =>
      simp only [hca, Option.map_some, Option.some.injEq, Prod.mk.injEq] at hc
      obtain ⟨rfl, rfl, rfl⟩ := hc
      refine ⟨hdst, ?_⟩
      rcases hf with hf | hf
      · refine call_core (run_call hf.1 ho) rr (fun h' hle hse => ?_) hf hfl hn
        obtain ⟨h1, h2⟩ := args_rep (h' := h') rr hle _ _ _ hca hs hse
        refine ⟨by simpa using h1, fun j y hj => ?_⟩
        have hjl : j < as.size := by have := (List.getElem?_eq_some_iff.1 hj).1; simp at h1; omega
        have := h2 j y hj as[j] (by simp [hjl])
        rw [getD_arr hjl rfl]; exact this
      · refine call_core (run_call hf.1 ho) rr (fun h' hle hse => ?_) hf (hfl.imp id (fun q => q.imp id FnF_weak)) hn
        obtain ⟨h1, h2⟩ := argsN_rep (h' := h') rr hle _ _ _ hca hs hse
        refine ⟨by simpa using h1, fun j y hj => ?_⟩
        have hjl : j < as.size := by have := (List.getElem?_eq_some_iff.1 hj).1; simp at h1; omega
        have := h2 j y hj as[j] (by simp [hjl])
        rw [getD_arr hjl rfl]; exact this
  · cases hc
/-- A call of a closure. -/
theorem vcall_sound {t f d : Nat} {xs : List X} {l : List AV} {rv : AV} (hc : cvcall te o = some (d, t, xs)) (rr : RR cx h e sl os a w) (ht : lget sl t = some (.clo f l)) (hs : sides (lget sl) xs)
    (hf : FnS P f (argsOf (lget sl) (lget os) xs ++ dvL (lget os) l) rv) (hfl : (ownsL (rawOf (lget sl) xs) || ownsL l) = false ∨ flat rv = true ∨ FnF P f (argsOf (lget sl) (lget os) xs ++ dvL (lget os) l) rv) {next : Act → World → Prop} {Q : Exit → Act → World → Prop}
    (hn : ∀ v h' w', RR cx h' e sl os a w' → VRep h' e v rv → next (a.put o.dst v) w') : o.dst = some d ∧ o.wp P a w next Q := by
  unfold cvcall at hc
  split at hc
  · rename_i t' as ts d' ho hdst
    cases hca : cArgs te ts.toList as.toList with
    | none => simp [hca] at hc
    | some ys =>
      simp only [hca, Option.map_some, Option.some.injEq, Prod.mk.injEq] at hc
      obtain ⟨rfl, rfl, rfl⟩ := hc
      have hv := rr.slots t' _ ht
      generalize hq : a.tmps.getD t' undef = u at hv
      cases hv with
      | clo _ vs _ hl hr =>
        have hev : a.eval (.tmp t') = .func (.func f) #[] vs := by rw [← hq]; simp [Act.eval, Array.getD_eq_getD_getElem?]
        have hrun : (execOp a.eval o).run P w = .ok (.enter f (as.map a.eval ++ vs)) w := by
          obtain ⟨fn, hff, hnm, hb⟩ := hf.1
          simp only [beq_eq_false_iff_ne, ne_eq] at hnm
          have hb' : ¬ fn.body = none := fun q => by simp [q] at hb
          simp [execOp, ho, resolve, hev, Deferred.ofValue, invoke, callFunc, hff, hnm, hb']
        refine ⟨hdst, call_core hrun rr (fun h' hle hse => ?_) hf hfl hn⟩
        obtain ⟨h1, h2⟩ := args_rep (h' := h') rr hle _ _ _ hca hs (fun q => hse (by simp [q]))
        have h3 := dvL_rep (h' := h') rr hle l (fun q => hse (by simp [q]))
        have hll := dvL_len2 (lget os) l
        have h1' : as.size = (argsOf (lget sl) (lget os) ys).length := by simpa using h1
        refine ⟨by simp only [Array.size_append, Array.size_map, List.length_append]; omega, fun j y hj => ?_⟩
        by_cases hlt : j < (argsOf (lget sl) (lget os) ys).length
        · rw [List.getElem?_append_left hlt] at hj
          have hjl : j < as.size := by omega
          have := h2 j y hj as[j] (by simp [hjl])
          simpa [Array.getD_eq_getD_getElem?, Array.getElem?_append, hjl] using this
        · rw [List.getElem?_append_right (by omega)] at hj
          have := h3 (j - (argsOf (lget sl) (lget os) ys).length) y hj (vs.getD (j - (argsOf (lget sl) (lget os) ys).length) undef) (fun x hx => hr _ x hx)
          have hjl : ¬ j < as.size := by omega
          rw [← h1'] at this
          simpa [Array.getD_eq_getD_getElem?, Array.getElem?_append, hjl] using this
  · cases hc
theorem bslK_dst (d e s : Nat) (l : List X) : (bslK d e s l).dst = some d := by unfold bslK; split <;> rfl
theorem cop_d {po : PO} (hco : cop te o = some po) : po.dst = o.dst := by
  unfold cop at hco
  repeat' split at hco
  all_goals first
    | (cases hco; done)
    | (obtain ⟨_, _, rfl⟩ := Option.map_eq_some_iff.1 hco; rw [bslK_dst]; simp_all; done)
    | (cases hco; simp_all [PO.dst]; done)
    | (obtain ⟨_, _, rfl⟩ := Option.map_eq_some_iff.1 hco; simp_all [PO.dst])
theorem region_rest (hte : TEok P te) (ops : Array Oper) {Q : Exit → Act → World → Prop} {K : Sl → Os → Prop} (rest : List Oper) (hK : ∀ sl os a w, K sl os → R cx sl os a w → wpList P ops Q rest a w) :
    ∀ (l : List Oper) (pl : List PG), cGs te cx.nt ops l = some pl → ∀ (sl : Sl) (os : Os) (a : Act) (w : World), runG P pl K sl os → R cx sl os a w → wpList P ops Q (l ++ rest) a w
  | [], pl, hc, sl, os, a, w, hr, hR => by
    simp only [cGs, Option.some.injEq] at hc
    subst hc
    exact hK _ _ _ _ hr hR
  | o :: r, pl, hc, sl, os, a, w, hr, hR => by
    simp only [cGs] at hc
    cases hg : cG te cx.nt ops o with
    | none => simp [hg] at hc
    | some g =>
      cases hl : cGs te cx.nt ops r with
      | none => simp [hg, hl] at hc
      | some l =>
        simp only [hg, hl, Option.some.injEq] at hc
        subst hc
        have ih := region_rest hte ops rest hK r l hl
        show wpList P ops Q (o :: (r ++ rest)) a w
        obtain ⟨h, e, rr⟩ := hR
        unfold cG at hg
        split at hg
        · rename_i hd
          split at hg
          · rename_i hgd
            have hw : Region.wanted o (yielded ops a.tmps) = true := by simp [Region.wanted, hgd]
            simp only [wpList, hw, if_true]
            refine .inl ?_
            split at hg
            · rename_i d f xs hcc
              cases hg
              obtain ⟨hs, rv, hf, hfl, hk⟩ := hr
              have hdst : o.dst = some d := by
                unfold ccall at hcc
                split at hcc
                · rename_i f' as ts d' ho hdst
                  cases hca : cArgs te ts.toList as.toList with
                  | none => simp [hca] at hcc
                  | some ys => simp only [hca, Option.map_some, Option.some.injEq, Prod.mk.injEq] at hcc; rw [hdst, hcc.1]
                · cases hcc
              refine (call_sound hcc rr hs (hf trivial) (hfl.imp id (fun q => q.imp id (fun q => q trivial))) hd (fun v h' w' r1 hv => ?_)).2
              have r2 := r1.putO hd hv
              rw [hdst] at r2 ⊢
              exact ih _ _ _ _ hk ⟨_, _, r2⟩
            · split at hg
              · rename_i d t xs hcc
                cases hg
                simp only [runG] at hr
                split at hr
                · rename_i f l ht
                  obtain ⟨hs, rv, hf, hfl, hk⟩ := hr
                  have hdst : o.dst = some d := by
                    unfold cvcall at hcc
                    split at hcc
                    · rename_i f' as ts d' ho hdst
                      cases hca : cArgs te ts.toList as.toList with
                      | none => simp [hca] at hcc
                      | some ys => simp only [hca, Option.map_some, Option.some.injEq, Prod.mk.injEq] at hcc; rw [hdst, hcc.1]
                    · cases hcc
                  refine (vcall_sound hcc rr ht hs ((hf trivial).elim id id) (hfl.imp id (fun q => q.imp id (fun q => q trivial))) (fun v h' w' r1 hv => ?_)).2
                  have r2 := r1.putO hd hv
                  rw [hdst] at r2 ⊢
                  exact ih _ _ _ _ hk ⟨_, _, r2⟩
                · exact hr.elim
              cases hco : cop te o with
              | none => simp [hco] at hg
              | some po =>
                simp only [hco, Option.map_some, Option.some.injEq] at hg
                subst hg
                simp only [runG] at hr
                split at hr
                · rename_i q hq
                  obtain ⟨⟨h', nx, v, w', e', hrun, hnx, r1, hv⟩, hpd⟩ := does hte hco rr hq hr.1
                  have r2 := r1.putO hd hv
                  rw [hpd] at hr
                  have := ih _ _ _ _ hr.2 ⟨_, _, r2⟩
                  unfold Oper.wp
                  rw [hrun]
                  rcases hnx with rfl | ⟨rfl, rfl⟩ <;> exact this
                · exact hr.elim
          · rename_i j wt hgd
            split at hg
            · rename_i t hj
              split at hg
              · rename_i d f xs hcc
                cases hg
                simp only [runG] at hr
                split at hr
                · rename_i p b hgu
                  obtain ⟨hs, rv, hf, hfl, hk⟩ := hr
                  obtain ⟨w1, w2⟩ := wanted_of rr hgd hj hgu
                  have hdst : o.dst = some d := by
                    unfold ccall at hcc
                    split at hcc
                    · rename_i f' as ts d' ho hdst
                      cases hca : cArgs te ts.toList as.toList with
                      | none => simp [hca] at hcc
                      | some ys => simp only [hca, Option.map_some, Option.some.injEq, Prod.mk.injEq] at hcc; rw [hdst, hcc.1]
                    · cases hcc
                  by_cases hpt : okL ((b, wt) :: p)
                  · simp only [wpList, w1 hpt, if_true]
                    refine .inl (call_sound hcc rr (hs hpt) (hf hpt) (hfl.imp id (fun q => q.imp id (fun q => q hpt))) hd (fun v h' w' r1 hv => ?_)).2
                    have r2 := r1.putO hd (wrapG_rep (fun _ => hv) (fun q => absurd hpt q))
                    rw [hdst] at r2 ⊢
                    exact ih _ _ _ _ hk ⟨_, _, r2⟩
                  · simp only [wpList, w2 hpt, Bool.false_eq_true, if_false]
                    have r2 := rr.putO hd (v := undef) (wrapG_rep (x := rv) (fun q => absurd q hpt) (fun _ => rfl))
                    rw [hdst] at r2 ⊢
                    exact ih _ _ _ _ hk ⟨_, _, r2⟩
                · exact hr.elim
              · cases hco : cop te o with
                | none => simp [hco] at hg
                | some po =>
                  simp only [hco, Option.map_some, Option.some.injEq] at hg
                  subst hg
                  simp only [runG] at hr
                  split at hr
                  · rename_i p b v s hgu hst
                    obtain ⟨w1, w2⟩ := wanted_of rr hgd hj hgu
                    by_cases hpt : okL ((b, wt) :: p)
                    · simp only [wpList, w1 hpt, if_true]
                      obtain ⟨⟨h', nx, u, w', e', hrun, hnx, r1, hv⟩, hpd⟩ := does hte hco rr hst (hr.1 hpt).1
                      have r2 := r1.putO hd (wrapG_rep (l := (b, wt) :: p) (fun _ => strip_rep _ hv (hr.1 hpt).2) (fun q => absurd hpt q))
                      rw [hpd] at hr
                      have := ih _ _ _ _ hr.2 ⟨_, _, r2⟩
                      refine .inl ?_
                      unfold Oper.wp
                      rw [hrun]
                      rcases hnx with rfl | ⟨rfl, rfl⟩ <;> exact this
                    · simp only [wpList, w2 hpt, Bool.false_eq_true, if_false]
                      have hpd : po.dst = o.dst := cop_d hco
                      have r2 := rr.putO hd (v := undef) (wrapG_rep (l := (b, wt) :: p) (x := (strip v).2) (fun q => absurd q hpt) (fun _ => rfl))
                      rw [hpd] at hr
                      exact ih _ _ _ _ hr.2 ⟨_, _, r2⟩
                  · rename_i p b v y s hgu hst
                    obtain ⟨w1, w2⟩ := wanted_of rr hgd hj hgu
                    simp only [wpList, w1 hr.1.1, if_true]
                    obtain ⟨⟨h', nx, u, w', e', hrun, hnx, r1, hv⟩, hpd⟩ := does hte hco rr hst hr.1.2
                    have r2 := r1.putO hd hv
                    rw [hpd] at hr
                    have := ih _ _ _ _ hr.2 ⟨_, _, r2⟩
                    refine .inl ?_
                    unfold Oper.wp
                    rw [hrun]
                    rcases hnx with rfl | ⟨rfl, rfl⟩ <;> exact this
                  · exact hr.elim
            · cases hg
        · cases hg
theorem region_sound (hte : TEok P te) (ops : Array Oper) {Q : Exit → Act → World → Prop} {K : Sl → Os → Prop} (hK : ∀ sl os a w, K sl os → R cx sl os a w → Q .normal a w) 
    (l : List Oper) (pl : List PG) (hc : cGs te cx.nt ops l = some pl) (sl : Sl) (os : Os) (a : Act) (w : World) (hr : runG P pl K sl os) (hR : R cx sl os a w) : wpList P ops Q l a w := by
  have := region_rest hte ops (Q := Q) [] hK l pl hc sl os a w hr hR
  rwa [List.append_nil] at this
theorem cGs_split {ops : Array Oper} : ∀ {l : List Oper} {pl : List PG} (n : Nat), cGs te cx.nt ops l = some pl → cGs te cx.nt ops (l.take n) = some (pl.take n) ∧ cGs te cx.nt ops (l.drop n) = some (pl.drop n)
  | [], pl, n, h => by simp only [cGs, Option.some.injEq] at h; subst h; simp [cGs]
  | o :: r, pl, 0, h => by simpa [cGs] using h
  | o :: r, pl, n + 1, h => by
    simp only [cGs] at h
    cases hg : cG te cx.nt ops o with
    | none => simp [hg] at h
    | some g =>
      cases hl : cGs te cx.nt ops r with
      | none => simp [hg, hl] at h
      | some l =>
        simp only [hg, hl, Option.some.injEq] at h
        subst h
        obtain ⟨h1, h2⟩ := cGs_split n hl
        exact ⟨by simp [cGs, hg, h1], by simpa using h2⟩
end
end Mq
