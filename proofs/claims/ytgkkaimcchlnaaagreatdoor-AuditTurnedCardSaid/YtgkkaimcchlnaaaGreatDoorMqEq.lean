/- Whether two plain structs are alike. Part of a verified reader of code, common to this project's claims. -/
import Derived.Laws.StructEq
import Derived.Laws.Cells
import Derived.ChangeKeysEq
import Derived.MapKept
set_option linter.unusedVariables false
set_option linter.unusedSimpArgs false
namespace Mq
open Go
/-- The kinds of a plain struct's cells. -/
inductive LK where
  | i | b | s
  deriving DecidableEq
def leafsF (P : Program) (g : Nat → Option (List LK)) : List Field → Nat → Option (List LK)
  | [], _ => some []
  | f :: r, off => if f.name == "_" || f.offset != off then none else match g f.type with
    | some l => if (P.info? f.type).map (·.size) != some l.length then none else match leafsF P g r (off + l.length) with
      | some l' => some (l ++ l')
      | none => none
    | none => none
def leafs (P : Program) : Nat → Nat → Option (List LK)
  | 0, _ => none
  | n + 1, t => match P.underlying t with
    | some (.int _) => some [.i]
    | some .bool => some [.b]
    | some .string => some [.s]
    | some (.struct fs) => if P.stoodInHeld t then none else leafsF P (leafs P n) fs.toList 0
    | some (.array k e) => match leafs P n e with
      | some l => if (P.info? e).map (·.size) != some l.length then none else some ((List.replicate k l).flatten)
      | none => none
    | _ => none
def eqLs : List LK → List Value → List Value → Option Bool
  | [], [], [] => some true
  | .i :: ks, .int k a :: xs, .int k' b :: ys => if k = k' then (eqLs ks xs ys).map fun r => (a == b) && r else none
  | .b :: ks, .bool a :: xs, .bool b :: ys => (eqLs ks xs ys).map fun r => (a == b) && r
  | .s :: ks, .string a :: xs, .string b :: ys => (eqLs ks xs ys).map fun r => (a.toList == b.toList) && r
  | _, _, _ => none
theorem eqLs_len : ∀ (ks : List LK) (xs ys : List Value) (r : Bool), eqLs ks xs ys = some r → xs.length = ks.length ∧ ys.length = ks.length
  | [], [], [], r, _ => ⟨rfl, rfl⟩
  | .i :: ks, .int k a :: xs, .int k' b :: ys, r, h => by
    simp only [eqLs] at h
    split at h
    · cases he : eqLs ks xs ys with
      | none => simp [he] at h
      | some r' => have := eqLs_len ks xs ys r' he; simp [this]
    · cases h
  | .b :: ks, .bool a :: xs, .bool b :: ys, r, h => by
    simp only [eqLs] at h
    cases he : eqLs ks xs ys with
    | none => simp [he] at h
    | some r' => have := eqLs_len ks xs ys r' he; simp [this]
  | .s :: ks, .string a :: xs, .string b :: ys, r, h => by
    simp only [eqLs] at h
    cases he : eqLs ks xs ys with
    | none => simp [he] at h
    | some r' => have := eqLs_len ks xs ys r' he; simp [this]
  | [], _ :: _, _, r, h => by simp [eqLs] at h
  | [], [], _ :: _, r, h => by simp [eqLs] at h
  | .i :: _, [], _, r, h => by simp [eqLs] at h
  | .b :: _, [], _, r, h => by simp [eqLs] at h
  | .s :: _, [], _, r, h => by simp [eqLs] at h
  | .i :: ks, x :: xs, [], r, h => by cases x <;> simp [eqLs] at h
  | .b :: ks, x :: xs, [], r, h => by cases x <;> simp [eqLs] at h
  | .s :: ks, x :: xs, [], r, h => by cases x <;> simp [eqLs] at h
  | .i :: ks, x :: xs, y :: ys, r, h => by
    cases x <;> cases y <;> simp only [eqLs] at h <;> try (cases h; done)
    split at h
    · cases he : eqLs ks xs ys with
      | none => simp [he] at h
      | some r' => have := eqLs_len ks xs ys r' he; simp [this]
    · cases h
  | .b :: ks, x :: xs, y :: ys, r, h => by
    cases x <;> cases y <;> simp only [eqLs] at h <;> try (cases h; done)
    cases he : eqLs ks xs ys with
    | none => simp [he] at h
    | some r' => have := eqLs_len ks xs ys r' he; simp [this]
  | .s :: ks, x :: xs, y :: ys, r, h => by
    cases x <;> cases y <;> simp only [eqLs] at h <;> try (cases h; done)
    cases he : eqLs ks xs ys with
    | none => simp [he] at h
    | some r' => have := eqLs_len ks xs ys r' he; simp [this]
theorem eqLs_append : ∀ (l l' : List LK) (xs ys : List Value) (r : Bool), eqLs (l ++ l') xs ys = some r →
    ∃ r1 r2, eqLs l (xs.take l.length) (ys.take l.length) = some r1 ∧ eqLs l' (xs.drop l.length) (ys.drop l.length) = some r2 ∧ r = (r1 && r2)
  | [], l', xs, ys, r, h => ⟨true, r, by simp [eqLs], by simpa using h, by simp⟩
  | k :: l, l', xs, ys, r, h => by
    have hl := eqLs_len _ _ _ _ h
    match xs, ys, hl with
    | x :: xs, y :: ys, _ =>
      cases k <;> cases x <;> cases y <;> simp only [List.cons_append, eqLs] at h <;> try (cases h; done)
      · split at h
        · rename_i hk
          cases he : eqLs (l ++ l') xs ys with
          | none => simp [he] at h
          | some r' =>
            obtain ⟨r1, r2, h1, h2, h3⟩ := eqLs_append l l' xs ys r' he
            simp only [he, Option.map_some, Option.some.injEq] at h
            exact ⟨_, r2, by simp only [List.length_cons, List.take_succ_cons, eqLs, if_pos hk, h1, Option.map_some]; rfl, by simpa using h2, by rw [← h, h3, Bool.and_assoc]⟩
        · cases h
      · cases he : eqLs (l ++ l') xs ys with
        | none => simp [he] at h
        | some r' =>
          obtain ⟨r1, r2, h1, h2, h3⟩ := eqLs_append l l' xs ys r' he
          simp only [he, Option.map_some, Option.some.injEq] at h
          exact ⟨_, r2, by simp only [List.length_cons, List.take_succ_cons, eqLs, h1, Option.map_some]; rfl, by simpa using h2, by rw [← h, h3, Bool.and_assoc]⟩
      · cases he : eqLs (l ++ l') xs ys with
        | none => simp [he] at h
        | some r' =>
          obtain ⟨r1, r2, h1, h2, h3⟩ := eqLs_append l l' xs ys r' he
          simp only [he, Option.map_some, Option.some.injEq] at h
          exact ⟨_, r2, by simp only [List.length_cons, List.take_succ_cons, eqLs, h1, Option.map_some]; rfl, by simpa using h2, by rw [← h, h3, Bool.and_assoc]⟩
/-- A value out of its cells, as a type has it. -/
def valOf (P : Program) (t : Nat) (cs : List Value) : Option Value :=
  match P.underlying t with
  | some (.struct _) => some (.agg cs.toArray)
  | some (.array _ _) => some (.agg cs.toArray)
  | _ => match cs with
    | [c] => some c
    | _ => none
theorem leafs_size {P : Program} {n t : Nat} {l : List LK} (h : leafs P n t = some l) (hs : ∀ fs, P.underlying t = some (.struct fs) → False) (ha : ∀ k e, P.underlying t = some (.array k e) → False) : l.length = 1 := by
  cases n with
  | zero => simp [leafs] at h
  | succ n =>
    simp only [leafs] at h
    split at h <;> first | (cases h; rfl) | (cases h; done) | (exact absurd ‹_› (fun q => hs _ q)) | (exact absurd ‹_› (fun q => ha _ _ q))
/-- A part of a struct or an array, read. -/
theorem part_run {P : Program} {n t : Nat} {l : List LK} (h : leafs P n t = some l) (hq : (P.info? t).map (·.size) = some l.length) (zs : List Value) (off : Nat) (hz : ((zs.drop off).take l.length).length = l.length) (w : World) :
    ∃ v, (part t zs.toArray off).run P w = .ok v w ∧ valOf P t ((zs.drop off).take l.length) = some v := by
  obtain ⟨q, hq, hqs⟩ : ∃ q, P.info? t = some q ∧ q.size = l.length := by
    cases hi : P.info? t with
    | none => simp [hi] at hq
    | some q => simp [hi] at hq; exact ⟨q, rfl, hq⟩
  have hso : (Go.sizeOf t).run P w = .ok q.size w := by simp [Go.sizeOf, typeInfo, hq]
  cases hd : P.underlying t with
  | none =>
    cases n with
    | zero => simp [leafs] at h
    | succ n => simp [leafs, hd] at h
  | some dd =>
    by_cases hag : (∃ gs, dd = .struct gs) ∨ ∃ k e, dd = .array k e
    · refine ⟨.agg ((zs.drop off).take l.length).toArray, ?_, ?_⟩
      · rcases hag with ⟨gs, rfl⟩ | ⟨k, e, rfl⟩ <;> simp [part, isAgg, run_underlying hd, hso, hqs]
      · rcases hag with ⟨gs, rfl⟩ | ⟨k, e, rfl⟩ <;> simp [valOf, hd]
    · have hone := leafs_size h (fun gs hgs => hag (.inl ⟨gs, by rw [hd] at hgs; exact Option.some.inj hgs⟩)) (fun k e hgs => hag (.inr ⟨k, e, by rw [hd] at hgs; exact Option.some.inj hgs⟩))
      have hlt : off < zs.length := by simp at hz; omega
      refine ⟨zs[off], ?_, ?_⟩
      · have hia : (isAgg t).run P w = .ok false w := by
          simp only [isAgg, Sem.run_bind, run_underlying hd, Result.andThen_ok]
          cases dd <;> first | rfl | (exact absurd (.inr ⟨_, _, rfl⟩) hag) | (exact absurd (.inl ⟨_, rfl⟩) hag)
        simp [part, hia, hlt]
      · rw [hone, List.drop_eq_getElem_cons hlt]
        simp only [List.take_succ_cons, List.take_zero]
        unfold valOf
        rw [hd]
        cases dd <;> first | rfl | (exact absurd (.inr ⟨_, _, rfl⟩) hag) | (exact absurd (.inl ⟨_, rfl⟩) hag)
theorem eq_run {P : Program} : ∀ (n t : Nat) (ks : List LK), leafs P n t = some ks →  ∀ (xs ys : List Value) (r : Bool) (x y : Value), eqLs ks xs ys = some r → valOf P t xs = some x → valOf P t ys = some y → ∀ (d : Nat) (w : World), (Op.equalIn (n + d) t x y).run P w = .ok r w
  | 0, t, ks, h, xs, ys, r, x, y, he, hx, hy, d, w => by simp [leafs] at h
  | n + 1, t, ks, h, xs, ys, r, x, y, he, hx, hy, d, w => by
    rw [show n + 1 + d = (n + d) + 1 by omega]
    simp only [leafs] at h
    split at h
    · rename_i k hu
      cases h
      simp only [valOf, hu] at hx hy
      match xs, ys, hx, hy, eqLs_len _ _ _ _ he with
      | [a], [b], hx, hy, _ =>
        cases hx; cases hy
        cases x <;> cases y <;> simp only [eqLs] at he <;> try (cases he; done)
        split at he
        · rename_i hk
          subst hk
          simp at he
          subst he
          exact run_equalIn_int w _ t _ _ _ _ hu
        · cases he
    · rename_i hu
      cases h
      simp only [valOf, hu] at hx hy
      match xs, ys, hx, hy, eqLs_len _ _ _ _ he with
      | [a], [b], hx, hy, _ =>
        cases hx; cases hy
        cases x <;> cases y <;> simp only [eqLs] at he <;> try (cases he; done)
        simp at he
        subst he
        exact run_equalIn_bool' w _ t _ _ hu
    · rename_i hu
      cases h
      simp only [valOf, hu] at hx hy
      match xs, ys, hx, hy, eqLs_len _ _ _ _ he with
      | [a], [b], hx, hy, _ =>
        cases hx; cases hy
        cases x <;> cases y <;> simp only [eqLs] at he <;> try (cases he; done)
        simp at he
        subst he
        have := run_equalIn_string (P := P) w (n + d) t
        simpa using this _ _ hu
    · rename_i fs hu
      split at h
      · cases h
      · rename_i hst
        simp only [valOf, hu, Option.some.injEq] at hx hy
        subst hx; subst hy
        have hfo : P.fieldsOf t = fs := by simp [Program.fieldsOf, hu]
        rw [run_equalIn_struct w (n + d) t _ _ (by rw [hfo]; exact hu) (by simpa using hst), hfo]
        have key : ∀ (l : List Field) (off : Nat) (ks : List LK) (r : Bool), leafsF P (leafs P n) l off = some ks → eqLs ks (xs.drop off) (ys.drop off) = some r → (Op.eqFields (n + d) xs.toArray ys.toArray l).run P w = .ok r w := by
          intro l
          induction l with
          | nil =>
            intro off ks r h1 h2
            cases h1
            have := eqLs_len _ _ _ _ h2
            have hr : r = true := by
              rw [List.eq_nil_of_length_eq_zero this.1, List.eq_nil_of_length_eq_zero this.2] at h2
              simpa [eqLs] using h2.symm
            subst hr
            simp [Op.eqFields]
          | cons f l ih =>
            intro off ks r h1 h2
            simp only [leafsF] at h1
            split at h1
            · cases h1
            · rename_i hnm
              simp only [Bool.or_eq_true, beq_iff_eq, bne_iff_ne, ne_eq, not_or, Decidable.not_not] at hnm
              obtain ⟨hname, hoff⟩ := hnm
              split at h1
              · rename_i lk hlk
                by_cases hsz : (P.info? f.type).map (·.size) = some lk.length
                case neg => simp [hsz] at h1
                simp only [hsz, bne_self_eq_false, Bool.false_eq_true, if_false] at h1
                split at h1
                · rename_i lr hlr
                  cases h1
                  obtain ⟨r1, r2, e1, e2, e3⟩ := eqLs_append _ _ _ _ _ h2
                  have hl1 := eqLs_len _ _ _ _ e1
                  rw [List.drop_drop, List.drop_drop] at e2
                  have ih' := ih (off + lk.length) lr r2 hlr e2
                  obtain ⟨u, hu1, hu2⟩ := part_run hlk hsz xs off hl1.1 w
                  obtain ⟨v, hv1, hv2⟩ := part_run hlk hsz ys off hl1.2 w
                  have hev := eq_run n f.type lk hlk _ _ r1 u v e1 hu2 hv2 d w
                  rw [Op.eqFields]
                  simp only [ne_eq, hname, not_false_eq_true, if_true, Sem.run_bind, hoff, hu1, hv1, hev, Result.andThen_ok]
                  cases r1
                  · simp [e3]
                  · simp [ih', e3]
                · cases h1
              · cases h1
        exact key fs.toList 0 ks r h (by simpa using he)
    · rename_i k e hu
      split at h
      · rename_i l hl
        by_cases hsz : (P.info? e).map (·.size) = some l.length
        case neg => simp [hsz] at h
        simp only [hsz, bne_self_eq_false, Bool.false_eq_true, if_false, Option.some.injEq] at h
        subst h
        simp only [valOf, hu, Option.some.injEq] at hx hy
        subst hx; subst hy
        obtain ⟨q, hq, hqs⟩ : ∃ q, P.info? e = some q ∧ q.size = l.length := by
          cases hi : P.info? e with
          | none => simp [hi] at hsz
          | some q => simp [hi] at hsz; exact ⟨q, rfl, hsz⟩
        rw [run_equalIn_array w (n + d) _ _ hu hq, List.range_eq_range', show P.cellsOf e = l.length by simp [Program.cellsOf, hq, hqs]]
        have key : ∀ (m s : Nat) (r : Bool), eqLs ((List.replicate m l).flatten) (xs.drop (s * l.length)) (ys.drop (s * l.length)) = some r → (Op.eqItems (n + d) e l.length xs.toArray ys.toArray (List.range' s m)).run P w = .ok r w := by
          intro m
          induction m with
          | zero =>
            intro s r h2
            simp only [List.replicate_zero, List.flatten_nil] at h2
            have := eqLs_len _ _ _ _ h2
            have hr : r = true := by
              rw [List.eq_nil_of_length_eq_zero this.1, List.eq_nil_of_length_eq_zero this.2] at h2
              simpa [eqLs] using h2.symm
            subst hr
            simp [Op.eqItems]
          | succ m ih =>
            intro s r h2
            rw [List.replicate_succ, List.flatten_cons] at h2
            obtain ⟨r1, r2, e1, e2, e3⟩ := eqLs_append _ _ _ _ _ h2
            have hl1 := eqLs_len _ _ _ _ e1
            rw [List.drop_drop, List.drop_drop] at e2
            have ih' := ih (s + 1) r2 (by rw [show (s + 1) * l.length = s * l.length + l.length by rw [Nat.add_mul, Nat.one_mul]]; exact e2)
            obtain ⟨u, hu1, hu2⟩ := part_run hl hsz xs (s * l.length) hl1.1 w
            obtain ⟨v, hv1, hv2⟩ := part_run hl hsz ys (s * l.length) hl1.2 w
            have hev := eq_run n e l hl _ _ r1 u v e1 hu2 hv2 d w
            rw [List.range'_succ, Op.eqItems]
            simp only [Sem.run_bind, hu1, hv1, hev, Result.andThen_ok]
            cases r1
            · simp [e3]
            · simp [ih', e3]
        exact key k 0 r (by simpa using he)
      · cases h
    · cases h
/-- A map's key is looked at ahead of all else: a plain one passes. -/
theorem check_run {P : Program} (em : Bool) : ∀ (n t : Nat) (ks : List LK), leafs P n t = some ks → ∀ (xs : List Value) (x : Value), xs.length = ks.length → valOf P t xs = some x → ∀ (d : Nat) (w : World), (Instr.checkKey em (n + d) t x).run P w = .ok () w
  | 0, t, ks, h, xs, x, hl, hx, d, w => by simp [leafs] at h
  | n + 1, t, ks, h, xs, x, hl, hx, d, w => by
    rw [show n + 1 + d = (n + d) + 1 by omega]
    simp only [leafs] at h
    split at h
    · rename_i k hu
      unfold Instr.checkKey
      simp only [Sem.run_bind, run_underlying hu, Result.andThen_ok]
      rfl
    · rename_i hu
      unfold Instr.checkKey
      simp only [Sem.run_bind, run_underlying hu, Result.andThen_ok]
      rfl
    · rename_i hu
      unfold Instr.checkKey
      simp only [Sem.run_bind, run_underlying hu, Result.andThen_ok]
      rfl
    · rename_i fs hu
      split at h
      · cases h
      · simp only [valOf, hu, Option.some.injEq] at hx
        subst hx
        rw [Instr.checkKey]
        simp only [Sem.run_bind, run_underlying hu, Result.andThen_ok]
        rw [← Array.forIn_toList]
        have key : ∀ (l : List Field) (off : Nat) (ks : List LK), leafsF P (leafs P n) l off = some ks → (xs.drop off).length = ks.length → ∀ f ∈ l, f.name ≠ "_" ∧ ∃ a, (part f.type xs.toArray f.offset).run P w = .ok a w ∧ (Instr.checkKey em (n + d) f.type a).run P w = .ok () w := by
          intro l
          induction l with
          | nil => intro off ks _ _ f hf; cases hf
          | cons g l ih =>
            intro off ks h1 h2 f hf
            simp only [leafsF] at h1
            split at h1
            · cases h1
            · rename_i hnm
              simp only [Bool.or_eq_true, beq_iff_eq, bne_iff_ne, ne_eq, not_or, Decidable.not_not] at hnm
              obtain ⟨hname, hoff⟩ := hnm
              split at h1
              · rename_i lk hlk
                by_cases hsz : (P.info? g.type).map (·.size) = some lk.length
                case neg => simp [hsz] at h1
                simp only [hsz, bne_self_eq_false, Bool.false_eq_true, if_false] at h1
                split at h1
                · rename_i lr hlr
                  cases h1
                  rcases List.mem_cons.1 hf with rfl | hf
                  · have hz : ((xs.drop off).take lk.length).length = lk.length := by rw [List.length_take, h2, List.length_append]; omega
                    obtain ⟨v, hv1, hv2⟩ := part_run hlk hsz xs off hz w
                    exact ⟨hname, v, by rw [hoff]; exact hv1, check_run em n _ lk hlk _ v hz hv2 d w⟩
                  · refine ih (off + lk.length) lr hlr ?_ f hf
                    rw [← List.drop_drop, List.length_drop, h2, List.length_append]; omega
                · cases h1
              · cases h1
        have each := key fs.toList 0 ks h (by simpa using hl)
        generalize fs.toList = L at each
        induction L with
        | nil => simp
        | cons f L ih =>
          obtain ⟨hn, a, p1, p2⟩ := each f (by simp)
          simp only [List.forIn_cons, Sem.run_bind, hn, ne_eq, not_false_eq_true, if_true, Result.andThen_ok, p1, p2, Sem.run_pure]
          exact ih (fun y hy => each y (by simp [hy]))
    · rename_i k e hu
      split at h
      · rename_i l hlf
        by_cases hsz : (P.info? e).map (·.size) = some l.length
        case neg => simp [hsz] at h
        simp only [hsz, bne_self_eq_false, Bool.false_eq_true, if_false, Option.some.injEq] at h
        subst h
        simp only [valOf, hu, Option.some.injEq] at hx
        subst hx
        obtain ⟨q, hq, hqs⟩ : ∃ q, P.info? e = some q ∧ q.size = l.length := by
          cases hi : P.info? e with
          | none => simp [hi] at hsz
          | some q => simp [hi] at hsz; exact ⟨q, rfl, hsz⟩
        have hso : (Go.sizeOf e).run P w = .ok l.length w := by simp [Go.sizeOf, typeInfo, hq, hqs]
        rw [Instr.checkKey]
        simp only [Sem.run_bind, run_underlying hu, Result.andThen_ok]
        simp only [Std.Legacy.Range.forIn_eq_forIn_range', Std.Legacy.Range.size, Nat.sub_zero, Nat.add_one_sub_one, Nat.div_one]
        have hlen : xs.length = k * l.length := by rw [hl]; simp [List.length_flatten]
        have each : ∀ i ∈ List.range' 0 k, ∃ a, (part e xs.toArray (i * l.length)).run P w = .ok a w ∧ (Instr.checkKey em (n + d) e a).run P w = .ok () w := by
          intro i hi
          have hi := (List.mem_range'_1.1 hi).2
          have hz : ((xs.drop (i * l.length)).take l.length).length = l.length := by
            have : i * l.length + l.length ≤ k * l.length := by
              have := Nat.mul_le_mul_right l.length (show i + 1 ≤ k by omega)
              rw [Nat.add_mul, Nat.one_mul] at this; exact this
            rw [List.length_take, List.length_drop]; omega
          obtain ⟨v, hv1, hv2⟩ := part_run hlf hsz xs (i * l.length) hz w
          exact ⟨v, hv1, check_run em n _ l hlf _ v hz hv2 d w⟩
        generalize List.range' 0 k = is at each
        induction is with
        | nil => simp
        | cons j is ih =>
          obtain ⟨a, p1, p2⟩ := each j (by simp)
          simp only [List.forIn_cons, Sem.run_bind, hso, Result.andThen_ok, p1, p2, Sem.run_pure]
          exact ih (fun y hy => each y (by simp [hy]))
      · cases h
    · cases h
theorem bytes_eq {a b : ByteArray} (h : a.toList = b.toList) : a = b := by
  have := beq_toListBytes a b
  rw [h] at this
  simp only [beq_self_eq_true] at this
  exact (MapKept.bytes_beq _ _).1 this
/-- Keys that are the same are the same bit by bit. -/
theorem eqLs_true : ∀ (ks : List LK) (xs ys : List Value), eqLs ks xs ys = some true → xs = ys ∧ ∀ x ∈ xs, ∀ m, Instr.sameBits m x x = true
  | [], [], [], _ => ⟨rfl, by simp⟩
  | [], _ :: _, _, h => by simp [eqLs] at h
  | [], [], _ :: _, h => by simp [eqLs] at h
  | k :: ks, [], _, h => by cases k <;> simp [eqLs] at h
  | k :: ks, x :: xs, [], h => by cases k <;> cases x <;> simp [eqLs] at h
  | .i :: ks, x :: xs, y :: ys, h => by
    cases x <;> cases y <;> simp only [eqLs] at h <;> try (cases h; done)
    split at h
    · rename_i hk
      cases he : eqLs ks xs ys with
      | none => simp [he] at h
      | some r =>
        simp only [he, Option.map_some, Option.some.injEq, Bool.and_eq_true, beq_iff_eq] at h
        obtain ⟨h0, rfl⟩ := h
        obtain ⟨h1, h2⟩ := eqLs_true ks xs ys he
        subst hk; subst h1; subst h0
        exact ⟨rfl, fun x hx m => by rcases List.mem_cons.1 hx with rfl | hx; · simp [Instr.sameBits]
                                     · exact h2 x hx m⟩
    · cases h
  | .b :: ks, x :: xs, y :: ys, h => by
    cases x <;> cases y <;> simp only [eqLs] at h <;> try (cases h; done)
    cases he : eqLs ks xs ys with
    | none => simp [he] at h
    | some r =>
      simp only [he, Option.map_some, Option.some.injEq, Bool.and_eq_true, beq_iff_eq] at h
      obtain ⟨h0, rfl⟩ := h
      obtain ⟨h1, h2⟩ := eqLs_true ks xs ys he
      subst h1; subst h0
      exact ⟨rfl, fun x hx m => by rcases List.mem_cons.1 hx with rfl | hx; · simp [Instr.sameBits]
                                   · exact h2 x hx m⟩
  | .s :: ks, x :: xs, y :: ys, h => by
    cases x <;> cases y <;> simp only [eqLs] at h <;> try (cases h; done)
    cases he : eqLs ks xs ys with
    | none => simp [he] at h
    | some r =>
      simp only [he, Option.map_some, Option.some.injEq, Bool.and_eq_true, beq_iff_eq] at h
      obtain ⟨h0, rfl⟩ := h
      obtain ⟨h1, h2⟩ := eqLs_true ks xs ys he
      have h0 := bytes_eq h0
      subst h1; subst h0
      exact ⟨rfl, fun x hx m => by rcases List.mem_cons.1 hx with rfl | hx; · simp [Instr.sameBits, beq_toListBytes]
                                   · exact h2 x hx m⟩
theorem sameBits_agg {l : List Value} (h : ∀ x ∈ l, ∀ m, Instr.sameBits m x x = true) (n : Nat) : Instr.sameBits (n + 1) (.agg l.toArray) (.agg l.toArray) = true := by
  simp only [Instr.sameBits, beq_self_eq_true, Bool.true_and, List.all_eq_true]
  intro p hp
  obtain ⟨x, y⟩ := p
  have hz : ∀ (l : List Value), (x, y) ∈ l.zip l → x = y ∧ x ∈ l := by
    intro l
    induction l with
    | nil => simp
    | cons a l ih =>
      intro hp
      simp only [List.zip_cons_cons, List.mem_cons, Prod.mk.injEq] at hp
      rcases hp with ⟨rfl, rfl⟩ | hp
      · exact ⟨rfl, by simp⟩
      · have := ih hp; exact ⟨this.1, by simp [this.2]⟩
  obtain ⟨rfl, hx⟩ := hz l (by simpa using hp)
  exact h x hx n
end Mq
