/- Whether two plain structs are alike. Part of a verified reader of code, common to this project's claims. -/
import Derived.Laws.StructEq
import Derived.Laws.Cells
namespace Mq
open Go

/-- The kinds of a plain struct's cells. -/
inductive LK where
  | i | b | s
  deriving DecidableEq
def leafsF (P : Program) (g : Nat → Option (List LK)) : List Field → Nat → Option (List LK)
  | [], _ => some []
  | f :: r, off => if f.name == "_" || f.offset != off then none else match g f.type with
    | some l => if (P.info? f.type).map (·.size) != some l.length then none else match leafsF P g r (off + l.length) with
      | some l' => some (l ++ l')
      | none => none
    | none => none
def leafs (P : Program) : Nat → Nat → Option (List LK)
  | 0, _ => none
  | n + 1, t => match P.underlying t with
    | some (.int _) => some [.i]
    | some .bool => some [.b]
    | some .string => some [.s]
    | some (.struct fs) => if P.stoodInHeld t then none else leafsF P (leafs P n) fs.toList 0
    | _ => none
def eqLs : List LK → List Value → List Value → Option Bool
  | [], [], [] => some true
  | .i :: ks, .int k a :: xs, .int k' b :: ys => if k = k' then (eqLs ks xs ys).map fun r => (a == b) && r else none
  | .b :: ks, .bool a :: xs, .bool b :: ys => (eqLs ks xs ys).map fun r => (a == b) && r
  | .s :: ks, .string a :: xs, .string b :: ys => (eqLs ks xs ys).map fun r => (a.toList == b.toList) && r
  | _, _, _ => none

theorem eqLs_len : ∀ (ks : List LK) (xs ys : List Value) (r : Bool), eqLs ks xs ys = some r → xs.length = ks.length ∧ ys.length = ks.length
  | [], [], [], r, _ => ⟨rfl, rfl⟩
  | .i :: ks, .int k a :: xs, .int k' b :: ys, r, h => by
    simp only [eqLs] at h
    split at h
    · cases he : eqLs ks xs ys with
      | none => simp [he] at h
      | some r' => have := eqLs_len ks xs ys r' he; simp [this]
    · cases h
  | .b :: ks, .bool a :: xs, .bool b :: ys, r, h => by
    simp only [eqLs] at h
    cases he : eqLs ks xs ys with
    | none => simp [he] at h
    | some r' => have := eqLs_len ks xs ys r' he; simp [this]
  | .s :: ks, .string a :: xs, .string b :: ys, r, h => by
    simp only [eqLs] at h
    cases he : eqLs ks xs ys with
    | none => simp [he] at h
    | some r' => have := eqLs_len ks xs ys r' he; simp [this]
  | [], _ :: _, _, r, h => by simp [eqLs] at h
  | [], [], _ :: _, r, h => by simp [eqLs] at h
  | .i :: _, [], _, r, h => by simp [eqLs] at h
  | .b :: _, [], _, r, h => by simp [eqLs] at h
  | .s :: _, [], _, r, h => by simp [eqLs] at h
  | .i :: ks, x :: xs, [], r, h => by cases x <;> simp [eqLs] at h
  | .b :: ks, x :: xs, [], r, h => by cases x <;> simp [eqLs] at h
  | .s :: ks, x :: xs, [], r, h => by cases x <;> simp [eqLs] at h
  | .i :: ks, x :: xs, y :: ys, r, h => by
    cases x <;> cases y <;> simp only [eqLs] at h <;> try (cases h; done)
    split at h
    · cases he : eqLs ks xs ys with
      | none => simp [he] at h
      | some r' => have := eqLs_len ks xs ys r' he; simp [this]
    · cases h
  | .b :: ks, x :: xs, y :: ys, r, h => by
    cases x <;> cases y <;> simp only [eqLs] at h <;> try (cases h; done)
    cases he : eqLs ks xs ys with
    | none => simp [he] at h
    | some r' => have := eqLs_len ks xs ys r' he; simp [this]
  | .s :: ks, x :: xs, y :: ys, r, h => by
    cases x <;> cases y <;> simp only [eqLs] at h <;> try (cases h; done)
    cases he : eqLs ks xs ys with
    | none => simp [he] at h
    | some r' => have := eqLs_len ks xs ys r' he; simp [this]

theorem eqLs_append : ∀ (l l' : List LK) (xs ys : List Value) (r : Bool), eqLs (l ++ l') xs ys = some r →
    ∃ r1 r2, eqLs l (xs.take l.length) (ys.take l.length) = some r1 ∧ eqLs l' (xs.drop l.length) (ys.drop l.length) = some r2 ∧ r = (r1 && r2)
  | [], l', xs, ys, r, h => ⟨true, r, by simp [eqLs], by simpa using h, by simp⟩
  | k :: l, l', xs, ys, r, h => by
    have hl := eqLs_len _ _ _ _ h
    match xs, ys, hl with
    | x :: xs, y :: ys, _ =>
      cases k <;> cases x <;> cases y <;> simp only [List.cons_append, eqLs] at h <;> try (cases h; done)
      · split at h
        · rename_i hk
          cases he : eqLs (l ++ l') xs ys with
          | none => simp [he] at h
          | some r' =>
            obtain ⟨r1, r2, h1, h2, h3⟩ := eqLs_append l l' xs ys r' he
            simp only [he, Option.map_some, Option.some.injEq] at h
            exact ⟨_, r2, by simp only [List.length_cons, List.take_succ_cons, eqLs, if_pos hk, h1, Option.map_some]; rfl, by simpa using h2, by rw [← h, h3, Bool.and_assoc]⟩
        · cases h
      · cases he : eqLs (l ++ l') xs ys with
        | none => simp [he] at h
        | some r' =>
          obtain ⟨r1, r2, h1, h2, h3⟩ := eqLs_append l l' xs ys r' he
          simp only [he, Option.map_some, Option.some.injEq] at h
          exact ⟨_, r2, by simp only [List.length_cons, List.take_succ_cons, eqLs, h1, Option.map_some]; rfl, by simpa using h2, by rw [← h, h3, Bool.and_assoc]⟩
      · cases he : eqLs (l ++ l') xs ys with
        | none => simp [he] at h
        | some r' =>
          obtain ⟨r1, r2, h1, h2, h3⟩ := eqLs_append l l' xs ys r' he
          simp only [he, Option.map_some, Option.some.injEq] at h
          exact ⟨_, r2, by simp only [List.length_cons, List.take_succ_cons, eqLs, h1, Option.map_some]; rfl, by simpa using h2, by rw [← h, h3, Bool.and_assoc]⟩

/-- A value out of its cells, as a type has it. -/
def valOf (P : Program) (t : Nat) (cs : List Value) : Option Value :=
  match P.underlying t with
  | some (.struct _) => some (.agg cs.toArray)
  | some (.array _ _) => some (.agg cs.toArray)
  | _ => match cs with
    | [c] => some c
    | _ => none

theorem leafs_size {P : Program} {n t : Nat} {l : List LK} (h : leafs P n t = some l) (hs : ∀ fs, P.underlying t = some (.struct fs) → False) : l.length = 1 := by
  cases n with
  | zero => simp [leafs] at h
  | succ n =>
    simp only [leafs] at h
    split at h <;> first | (cases h; rfl) | (cases h; done) | (exact absurd ‹_› (fun q => hs _ q))

theorem eq_run {P : Program} : ∀ (n t : Nat) (ks : List LK), leafs P n t = some ks →  ∀ (xs ys : List Value) (r : Bool) (x y : Value), eqLs ks xs ys = some r → valOf P t xs = some x → valOf P t ys = some y → ∀ (d : Nat) (w : World), (Op.equalIn (n + d) t x y).run P w = .ok r w
  | 0, t, ks, h, xs, ys, r, x, y, he, hx, hy, d, w => by simp [leafs] at h
  | n + 1, t, ks, h, xs, ys, r, x, y, he, hx, hy, d, w => by
    rw [show n + 1 + d = (n + d) + 1 by omega]
    simp only [leafs] at h
    split at h
    · rename_i k hu
      cases h
      simp only [valOf, hu] at hx hy
      match xs, ys, hx, hy, eqLs_len _ _ _ _ he with
      | [a], [b], hx, hy, _ =>
        cases hx; cases hy
        cases x <;> cases y <;> simp only [eqLs] at he <;> try (cases he; done)
        split at he
        · rename_i hk
          subst hk
          simp at he
          subst he
          exact run_equalIn_int w _ t _ _ _ _ hu
        · cases he
    · rename_i hu
      cases h
      simp only [valOf, hu] at hx hy
      match xs, ys, hx, hy, eqLs_len _ _ _ _ he with
      | [a], [b], hx, hy, _ =>
        cases hx; cases hy
        cases x <;> cases y <;> simp only [eqLs] at he <;> try (cases he; done)
        simp at he
        subst he
        exact run_equalIn_bool' w _ t _ _ hu
    · rename_i hu
      cases h
      simp only [valOf, hu] at hx hy
      match xs, ys, hx, hy, eqLs_len _ _ _ _ he with
      | [a], [b], hx, hy, _ =>
        cases hx; cases hy
        cases x <;> cases y <;> simp only [eqLs] at he <;> try (cases he; done)
        simp at he
        subst he
        have := run_equalIn_string (P := P) w (n + d) t
        simpa using this _ _ hu
    · rename_i fs hu
      split at h
      · cases h
      · rename_i hst
        simp only [valOf, hu, Option.some.injEq] at hx hy
        subst hx; subst hy
        have hfo : P.fieldsOf t = fs := by simp [Program.fieldsOf, hu]
        rw [run_equalIn_struct w (n + d) t _ _ (by rw [hfo]; exact hu) (by simpa using hst), hfo]
        have key : ∀ (l : List Field) (off : Nat) (ks : List LK) (r : Bool), leafsF P (leafs P n) l off = some ks → eqLs ks (xs.drop off) (ys.drop off) = some r → (Op.eqFields (n + d) xs.toArray ys.toArray l).run P w = .ok r w := by
          intro l
          induction l with
          | nil =>
            intro off ks r h1 h2
            cases h1
            have := eqLs_len _ _ _ _ h2
            have hr : r = true := by
              rw [List.eq_nil_of_length_eq_zero this.1, List.eq_nil_of_length_eq_zero this.2] at h2
              simpa [eqLs] using h2.symm
            subst hr
            simp [Op.eqFields]
          | cons f l ih =>
            intro off ks r h1 h2
            simp only [leafsF] at h1
            split at h1
            · cases h1
            · rename_i hnm
              simp only [Bool.or_eq_true, beq_iff_eq, bne_iff_ne, ne_eq, not_or, Decidable.not_not] at hnm
              obtain ⟨hname, hoff⟩ := hnm
              split at h1
              · rename_i lk hlk
                by_cases hsz : (P.info? f.type).map (·.size) = some lk.length
                case neg => simp [hsz] at h1
                simp only [hsz, bne_self_eq_false, Bool.false_eq_true, if_false] at h1
                split at h1
                · rename_i lr hlr
                  cases h1
                  obtain ⟨r1, r2, e1, e2, e3⟩ := eqLs_append _ _ _ _ _ h2
                  have hl1 := eqLs_len _ _ _ _ e1
                  rw [List.drop_drop, List.drop_drop] at e2
                  have ih' := ih (off + lk.length) lr r2 hlr e2
                  obtain ⟨q, hq, hqs⟩ : ∃ q, P.info? f.type = some q ∧ q.size = lk.length := by
                    cases hi : P.info? f.type with
                    | none => simp [hi] at hsz
                    | some q => simp [hi] at hsz; exact ⟨q, rfl, hsz⟩
                  have hpart : ∀ (zs : List Value), ((zs.drop off).take lk.length).length = lk.length → ∃ v, (part f.type zs.toArray f.offset).run P w = .ok v w ∧ valOf P f.type ((zs.drop off).take lk.length) = some v := by
                    intro zs hzl
                    have hso : (Go.sizeOf f.type).run P w = .ok q.size w := by simp [Go.sizeOf, typeInfo, hq]
                    cases hd : P.underlying f.type with
                    | none =>
                      cases n with
                      | zero => simp [leafs] at hlk
                      | succ n => simp [leafs, hd] at hlk
                    | some dd =>
                      by_cases hag : ∃ gs, dd = .struct gs
                      · obtain ⟨gs, rfl⟩ := hag
                        refine ⟨.agg ((zs.drop off).take lk.length).toArray, ?_, by simp [valOf, hd]⟩
                        simp [part, isAgg, run_underlying hd, hso, hqs, hoff]
                      · have hone := leafs_size hlk (fun gs hgs => hag ⟨gs, by rw [hd] at hgs; exact Option.some.inj hgs⟩)
                        have hnarr : ∀ k e, dd ≠ .array k e := by
                          rintro k e rfl
                          cases n with
                          | zero => simp [leafs] at hlk
                          | succ n => simp [leafs, hd] at hlk
                        have hlt : off < zs.length := by simp at hzl; omega
                        refine ⟨zs[off], ?_, ?_⟩
                        · have hia : (isAgg f.type).run P w = .ok false w := by
                            simp only [isAgg, Sem.run_bind, run_underlying hd, Result.andThen_ok]
                            cases dd <;> first | rfl | (exact absurd rfl (hnarr _ _)) | (exact absurd ⟨_, rfl⟩ hag)
                          simp [part, hia, hoff, hlt]
                        · rw [hone, List.drop_eq_getElem_cons hlt]
                          simp only [List.take_succ_cons, List.take_zero]
                          unfold valOf
                          rw [hd]
                          cases dd <;> first | rfl | (exact absurd rfl (hnarr _ _)) | (exact absurd ⟨_, rfl⟩ hag)
                  obtain ⟨u, hu1, hu2⟩ := hpart xs hl1.1
                  obtain ⟨v, hv1, hv2⟩ := hpart ys hl1.2
                  have hev := eq_run n f.type lk hlk _ _ r1 u v e1 hu2 hv2 d w
                  rw [Op.eqFields]
                  simp only [ne_eq, hname, not_false_eq_true, if_true, Sem.run_bind, hu1, hv1, hev, Result.andThen_ok]
                  cases r1
                  · simp [e3]
                  · simp [ih', e3]
                · cases h1
              · cases h1
        exact key fs.toList 0 ks r h (by simpa using he)
    · cases h
end Mq
