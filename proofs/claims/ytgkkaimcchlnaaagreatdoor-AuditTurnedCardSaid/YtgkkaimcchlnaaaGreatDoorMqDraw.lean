/- A region in whatever order comes to what it comes to in its text. Part of a verified reader of code, common to this project's claims. -/
import Derived.Test.YtgkkaimcchlnaaaGreatDoorMqRun
import Derived.Orders
set_option linter.unusedVariables false
set_option linter.unusedSimpArgs false
namespace Mq
open Go Go.RowKit
set_option linter.unusedSectionVars false
variable [Glob]
/-! A region whose order is drawn: what it comes to in the text's order, it comes to in every order. -/
mutual
/-- The names that a value leads to. -/
def nm : AV → List Nat
  | .own n _ | .ptr n _ | .rptr n _ _ _ _ | .mp n => [n]
  | .ag l | .tp l | .clo _ l => nmL l
  | .gd _ a => nm a
  | _ => []
def nmL : List AV → List Nat
  | [] => []
  | x :: r => nm x ++ nmL r
end
def X.sl : X → List Nat
  | .t n => [n]
  | _ => []
def sls : List X → List Nat
  | [] => []
  | x :: r => x.sl ++ sls r
def slB : List ((Nat × Nat) × X) → List Nat
  | [] => []
  | x :: r => x.2.sl ++ slB r
def oSl : Option X → List Nat
  | some x => x.sl
  | none => []
def PO.reads : PO → List Nat
  | .slc _ _ x lo hi => x.sl ++ oSl lo ++ oSl hi
  | .mv _ x | .fa _ _ x | .ld _ _ _ x | .no _ x | .beqn _ _ x | .bsn _ _ x | .mln _ _ _ x | .len _ x | .bx _ x | .ext _ x _ | .cv _ _ x | .cvs _ x | .mki _ _ x | .mks _ _ _ _ _ x | .nck _ x => x.sl
  | .pick _ c a b => c.sl ++ a.sl ++ b.sl
  | .ia _ _ x y | .st _ x y | .bo _ _ x y | .app _ _ _ _ x y | .beq _ _ _ x y | .beqs _ _ _ x y | .mx _ _ x y | .lkp _ _ _ _ _ _ x y | .iap _ _ _ x y | .idx _ _ _ _ x y => x.sl ++ y.sl
  | .mup _ _ _ _ x y z => x.sl ++ y.sl ++ z.sl
  | .al _ _ | .mkm _ _ _ => []
  | .bld _ _ l => slB l
  | .bsl _ _ _ l | .bslF _ _ _ l => sls l
  | .mkf _ _ l => sls l
def PG.reads : PG → List Nat
  | .u o => o.reads
  | .g j _ o => j :: o.reads
  | .uc _ _ xs => sls xs
  | .uv _ t xs => t :: sls xs
  | .gc j _ _ _ xs => j :: sls xs
def PG.dst : PG → Option Nat
  | .u o | .g _ _ o => o.dst
  | .uc d _ _ | .uv d _ _ | .gc _ _ d _ _ => some d
def foot (gs : Nat → Option AV) (g : PG) : List Nat := nmL (g.reads.map fun t => (gs t).getD .un) ++ g.dst.toList
def wrs (gs : Nat → Option AV) (go : Nat → Option AO) : PG → Option Nat
  | .u o | .g _ _ o => match stp gs go o with
    | some q => q.upd.map (·.1)
    | none => none
  | _ => none
theorem mem_nmL {l : List AV} {n : Nat} : n ∈ nmL l ↔ ∃ x ∈ l, n ∈ nm x := by
  induction l with
  | nil => simp [nmL]
  | cons a r ih => simp [nmL, ih]
theorem nm_strip {n : Nat} : ∀ (a : AV), n ∈ nm (strip a).2 → n ∈ nm a
  | .gd l a, h => by simp only [strip] at h; simpa [nm] using nm_strip a h
  | .d _, h => h
  | .own .., h => h
  | .ptr .., h => h
  | .rptr .., h => h
  | .mp _, h => h
  | .ag _, h => h
  | .tp _, h => h
  | .clo .., h => h
  | .nl _, h => h
  | .un, h => h
section
variable {gs gs' : Nat → Option AV} {go go' : Nat → Option AO}
theorem evX_congr {x : X} (h : ∀ t ∈ x.sl, gs t = gs' t) : evX gs x = evX gs' x := by
  cases x <;> simp [evX, X.sl] at h ⊢
  rw [h]
theorem evs_congr {x : X} (h : ∀ t ∈ x.sl, gs t = gs' t) : evs gs x = evs gs' x := by
  simp only [evs, evX_congr h]
theorem nm_evs {x : X} {n : Nat} (h : n ∈ nm (evs gs x).2) : n ∈ nmL (x.sl.map fun t => (gs t).getD .un) := by
  have := nm_strip _ h
  cases x <;> simp [evX, X.sl, nmL, nm] at this ⊢
  exact this
theorem bldF_congr : ∀ (l : List ((Nat × Nat) × X)) (z : List AV), (∀ t ∈ slB l, gs t = gs' t) → bldF gs z l = bldF gs' z l
  | [], _, _ => rfl
  | ((a, b), x) :: r, z, h => by
    simp only [bldF]
    rw [evs_congr (x := x) (fun t ht => h t (by simp [slB, ht]))]
    exact bldF_congr r _ (fun t ht => h t (by simp [slB, ht]))
theorem bldS_congr {n : Nat} : ∀ (l : List ((Nat × Nat) × X)), (∀ t ∈ slB l, gs t = gs' t) → bldS gs n l = bldS gs' n l
  | [], _ => rfl
  | ((a, b), x) :: r, h => by
    simp only [bldS]
    rw [evs_congr (x := x) (fun t ht => h t (by simp [slB, ht])), bldS_congr r (fun t ht => h t (by simp [slB, ht]))]
theorem bsl_congr {s : Nat} : ∀ (l : List X), (∀ t ∈ sls l, gs t = gs' t) → bslD gs l = bslD gs' l ∧ bslS gs s l = bslS gs' s l
  | [], _ => ⟨rfl, rfl⟩
  | x :: r, h => by
    have hx := evs_congr (gs := gs) (gs' := gs') (x := x) (fun t ht => h t (by simp [sls, ht]))
    obtain ⟨h1, h2⟩ := bsl_congr (s := s) r (fun t ht => h t (by simp [sls, ht]))
    simp only [bslD, bslS, hx, h1, h2, and_self]
theorem avL_congr : ∀ (l : List X), (∀ t ∈ sls l, gs t = gs' t) → avL gs l = avL gs' l ∧ avS gs l = avS gs' l
  | [], _ => ⟨rfl, rfl⟩
  | x :: r, h => by
    have hx := evs_congr (gs := gs) (gs' := gs') (x := x) (fun t ht => h t (by simp [sls, ht]))
    obtain ⟨h1, h2⟩ := avL_congr r (fun t ht => h t (by simp [sls, ht]))
    simp only [avL, avS, hx, h1, h2, and_self]
theorem elemsOf_congr {s : Nat} {a : AV} (h : ∀ n ∈ nm a, go n = go' n) : elemsOf go s a = elemsOf go' s a := by
  cases a <;> first | rfl | (rename_i y; cases y <;> rfl) | (simp [nm] at h; simp [elemsOf, h])
theorem bndV_congr {dflt : Nat} {lo : Option X} (h : ∀ t ∈ oSl lo, gs t = gs' t) : bndV gs dflt lo = bndV gs' dflt lo := by
  cases lo with
  | none => rfl
  | some x => simp only [bndV, evs_congr (x := x) (fun t ht => h t ht)]
theorem mentries_congr {ka ea : Bool} {a : AV} (h : ∀ n ∈ nm a, go n = go' n) : mentries go ka ea a = mentries go' ka ea a := by
  cases a <;> first | rfl | (rename_i y; cases y <;> rfl) | (simp [nm] at h; simp [mentries, h])
/-- Where the rows that an operation reads, and the names that it follows, are the same, it comes to the same. -/
theorem stp_congr {o : PO} (hr : ∀ t ∈ o.reads, gs t = gs' t) (hn : ∀ n ∈ nmL (o.reads.map fun t => (gs t).getD .un) ++ o.dst.toList, go n = go' n) : stp gs go o = stp gs' go' o := by
  have key : ∀ (x : X), (∀ t ∈ x.sl, t ∈ o.reads) → evs gs x = evs gs' x ∧ ∀ n ∈ nm (evs gs' x).2, go n = go' n := fun x hx =>
    ⟨evs_congr (fun t ht => hr t (hx t ht)), fun n h => hn n (by
      rw [← evs_congr (fun t ht => hr t (hx t ht))] at h
      have := nm_evs h
      rw [mem_nmL] at this
      obtain ⟨a, ha, hna⟩ := this
      simp only [List.mem_append, mem_nmL]
      refine .inl ⟨a, ?_, hna⟩
      simp only [List.mem_map] at ha ⊢
      obtain ⟨t, ht, rfl⟩ := ha
      exact ⟨t, hx t ht, rfl⟩)⟩
  cases o with
  | mv d x => simp only [stp]; rw [evX_congr (fun t ht => hr t (by simpa [PO.reads] using ht))]
  | pick d c a b =>
    simp only [stp]
    rw [(key c (fun t ht => by simp [PO.reads, ht])).1, (key a (fun t ht => by simp [PO.reads, ht])).1, (key b (fun t ht => by simp [PO.reads, ht])).1]
  | fa d off x =>
    obtain ⟨h1, h2⟩ := key x (fun t ht => by simp [PO.reads, ht])
    simp only [stp]; rw [h1]
    generalize evs gs' x = q at h2
    obtain ⟨p, a⟩ := q
    cases a <;> first | rfl | (rename_i y; cases y <;> rfl) | (simp [nm] at h2; simp [h2])
  | ld d size agg x =>
    obtain ⟨h1, h2⟩ := key x (fun t ht => by simp [PO.reads, ht])
    simp only [stp]; rw [h1]
    generalize evs gs' x = q at h2
    obtain ⟨p, a⟩ := q
    cases a <;> first | rfl | (rename_i y; cases y <;> rfl) | (simp [nm] at h2; simp [h2])
  | ia d s x i =>
    obtain ⟨h1, h2⟩ := key x (fun t ht => by simp [PO.reads, ht])
    obtain ⟨h3, _⟩ := key i (fun t ht => by simp [PO.reads, ht])
    simp only [stp]; rw [h1, h3]
    generalize evs gs' x = q at h2
    obtain ⟨p, a⟩ := q
    generalize evs gs' i = q2
    obtain ⟨p2, a2⟩ := q2
    cases a2 <;> first | (cases a <;> first | rfl | (rename_i y; cases y <;> rfl)) | skip
    rename_i y2
    cases y2 <;> first | (cases a <;> first | rfl | (rename_i y; cases y <;> rfl)) | skip
    rename_i v2
    cases v2 <;> first | (cases a <;> first | rfl | (rename_i y; cases y <;> rfl)) | skip
    cases a <;> first | rfl | (rename_i y; cases y <;> rfl) | (simp [nm] at h2; simp [h2])
  | st size x y =>
    obtain ⟨h1, h2⟩ := key x (fun t ht => by simp [PO.reads, ht])
    obtain ⟨h3, _⟩ := key y (fun t ht => by simp [PO.reads, ht])
    simp only [stp]; rw [h1, h3]
    generalize evs gs' x = q at h2
    obtain ⟨p, a⟩ := q
    cases a <;> first | rfl | (rename_i y; cases y <;> rfl) | (simp [nm] at h2; simp [h2])
  | bo d op x y =>
    simp only [stp]; rw [(key x (fun t ht => by simp [PO.reads, ht])).1, (key y (fun t ht => by simp [PO.reads, ht])).1]
  | beq d neq bl x y =>
    simp only [stp]; rw [(key x (fun t ht => by simp [PO.reads, ht])).1, (key y (fun t ht => by simp [PO.reads, ht])).1]
  | beqs d neq ks x y =>
    simp only [stp]; rw [(key x (fun t ht => by simp [PO.reads, ht])).1, (key y (fun t ht => by simp [PO.reads, ht])).1]
  | mx d mn x y =>
    simp only [stp]; rw [(key x (fun t ht => by simp [PO.reads, ht])).1, (key y (fun t ht => by simp [PO.reads, ht])).1]
  | bld d z l =>
    simp only [stp]; rw [bldF_congr l z (fun t ht => hr t (by simpa [PO.reads] using ht)), bldS_congr l (fun t ht => hr t (by simpa [PO.reads] using ht))]
  | nck d x => simp only [stp]; rw [(key x (fun t ht => by simp [PO.reads, ht])).1]
  | iap d n s x y => simp only [stp]; rw [(key x (fun t ht => by simp [PO.reads, ht])).1, (key y (fun t ht => by simp [PO.reads, ht])).1]
  | idx d n s ag x y => simp only [stp]; rw [(key x (fun t ht => by simp [PO.reads, ht])).1, (key y (fun t ht => by simp [PO.reads, ht])).1]
  | ext d x i => simp only [stp]; rw [(key x (fun t ht => by simp [PO.reads, ht])).1]
  | cv d k x => simp only [stp]; rw [(key x (fun t ht => by simp [PO.reads, ht])).1]
  | cvs d x => simp only [stp]; rw [(key x (fun t ht => by simp [PO.reads, ht])).1]
  | mki d t x => simp only [stp]; rw [(key x (fun t ht => by simp [PO.reads, ht])).1]
  | no d x => simp only [stp]; rw [(key x (fun t ht => by simp [PO.reads, ht])).1]
  | slc d s x lo hi =>
    simp only [stp, bndV_congr (gs := gs) (gs' := gs') (lo := lo) (fun t ht => hr t (by simp [PO.reads, ht])), bndV_congr (gs := gs) (gs' := gs') (lo := hi) (fun t ht => hr t (by simp [PO.reads, ht]))]
    rw [(key x (fun t ht => by simp [PO.reads, ht])).1]
  | beqn d neq x => simp only [stp]; rw [(key x (fun t ht => by simp [PO.reads, ht])).1]
  | bsn d neq x => simp only [stp]; rw [(key x (fun t ht => by simp [PO.reads, ht])).1]
  | len d x =>
    obtain ⟨h1, h2⟩ := key x (fun t ht => by simp [PO.reads, ht])
    simp only [stp]; rw [h1]
    generalize evs gs' x = q at h2
    obtain ⟨p, a⟩ := q
    cases a <;> first | rfl | (rename_i y; cases y <;> rfl) | (simp [nm] at h2; simp [h2])
  | al d z => simp only [stp]; rw [hn d (by simp [PO.dst])]
  | bx d x => simp only [stp]; rw [(key x (fun t ht => by simp [PO.reads, ht])).1, hn d (by simp [PO.dst])]
  | mkf d f l =>
    obtain ⟨h1, h2⟩ := avL_congr (gs := gs) (gs' := gs') l (fun t ht => hr t (by simpa [PO.reads] using ht))
    simp only [stp]; rw [h1, h2]
  | bsl d e s l =>
    obtain ⟨h1, h2⟩ := bsl_congr (gs := gs) (gs' := gs') (s := s) l (fun t ht => hr t (by simpa [PO.reads] using ht))
    simp only [stp]; rw [h1, h2, hn d (by simp [PO.dst])]
  | bslF d e s l =>
    obtain ⟨h1, h2⟩ := bsl_congr (gs := gs) (gs' := gs') (s := s) l (fun t ht => hr t (by simpa [PO.reads] using ht))
    simp only [stp]; rw [h1, h2]
  | app d e s b x y =>
    obtain ⟨h1, h2⟩ := key x (fun t ht => by simp [PO.reads, ht])
    obtain ⟨h3, h4⟩ := key y (fun t ht => by simp [PO.reads, ht])
    have hd := hn d (by simp [PO.dst])
    simp only [stp]; rw [h1, h3, elemsOf_congr h4]
    generalize evs gs' x = q at h2
    obtain ⟨p, a⟩ := q
    cases he : elemsOf go' s (evs gs' y).2 with
    | none => rfl
    | some z =>
      obtain ⟨ys, qy⟩ := z
      cases a <;> first | rfl | (simp [nm] at h2; simp [h2]; done) | (simp only [hd])
  | mks d e s b z n =>
    simp only [stp]; rw [(key n (fun t ht => by simp [PO.reads, ht])).1, hn d (by simp [PO.dst])]
  | mkm d ka ea => simp only [stp]; rw [hn d (by simp [PO.dst])]
  | mln d ka ea x =>
    obtain ⟨h1, h2⟩ := key x (fun t ht => by simp [PO.reads, ht])
    simp only [stp]; rw [h1, mentries_congr h2]
  | lkp d ka ea ks z ok x k =>
    obtain ⟨h1, h2⟩ := key x (fun t ht => by simp [PO.reads, ht])
    obtain ⟨h3, _⟩ := key k (fun t ht => by simp [PO.reads, ht])
    simp only [stp]; rw [h1, h3, mentries_congr h2]
  | mup ka ea ks size x k y =>
    obtain ⟨h1, h2⟩ := key x (fun t ht => by simp [PO.reads, ht])
    obtain ⟨h3, _⟩ := key k (fun t ht => by simp [PO.reads, ht])
    obtain ⟨h4, _⟩ := key y (fun t ht => by simp [PO.reads, ht])
    simp only [stp]; rw [h1, h3, h4]
    generalize evs gs' x = q at h2
    obtain ⟨p, a⟩ := q
    cases a <;> first | rfl | skip
    rename_i n'
    simp only [nm, List.mem_singleton, forall_eq] at h2
    dsimp only
    cases toVals (cells (evs gs' k).2) <;> cases toDs (cells (evs gs' y).2) <;> first | rfl | (simp only [h2])
end
structure Row where
  dst : Option Nat
  val : AV
  upd : Option (Nat × AO)
  deriving Inhabited
instance : Inhabited PG := ⟨.u (.mv 0 (.t 0))⟩
/-- One operation, told: what it comes to. -/
def step1 (P : Program) (g : PG) (sl : Sl) (os : Os) (v : AV) (u : Option (Nat × AO)) : Prop := match g with
  | .u o => ∃ q, stp (lget sl) (lget os) o = some q ∧ q.side ∧ v = q.val ∧ u = q.upd
  | .g j w o => ∃ l t x u0 s, guardOf ((lget sl j).getD .un) = some (l, t) ∧ stp (lget sl) (lget os) o = some ⟨x, u0, s⟩ ∧
      (u0 = none ∧ (okL ((t, w) :: l) → s ∧ (strip x).1) ∧ v = .gd ((t, w) :: l) (strip x).2 ∧ u = none ∨ u0 ≠ none ∧ (okL ((t, w) :: l) ∧ s) ∧ v = x ∧ u = u0)
  | .uc _ f xs => sides (lget sl) xs ∧ FnA P f (argsOf (lget sl) (lget os) xs) (argsN (lget sl) (lget os) xs) v ∧ okF P True f (argsOf (lget sl) (lget os) xs) (ownsL (rawOf (lget sl) xs)) v ∧ u = none
  | .uv _ t xs => ∃ f l, lget sl t = some (.clo f l) ∧ sides (lget sl) xs ∧ FnS P f (argsOf (lget sl) (lget os) xs ++ dvL (lget os) l) v ∧ okF P True f (argsOf (lget sl) (lget os) xs ++ dvL (lget os) l) (ownsL (rawOf (lget sl) xs) || ownsL l) v ∧ u = none
  | .gc j w _ f xs => ∃ l t rv, guardOf ((lget sl j).getD .un) = some (l, t) ∧ (okL ((t, w) :: l) → sides (lget sl) xs) ∧ (okL ((t, w) :: l) → FnA P f (argsOf (lget sl) (lget os) xs) (argsN (lget sl) (lget os) xs) rv) ∧
      okF P (okL ((t, w) :: l)) f (argsOf (lget sl) (lget os) xs) (ownsL (rawOf (lget sl) xs)) rv ∧ v = .gd ((t, w) :: l) rv ∧ u = none
section
variable {P : Program}
theorem runG_step {g : PG} {r : List PG} {K : Sl → Os → Prop} {sl : Sl} {os : Os} : runG P (g :: r) K sl os ↔ ∃ v u, step1 P g sl os v u ∧ runG P r K (putO sl g.dst v) (updO os u) := by
  cases g with
  | u o =>
    simp only [runG, step1, PG.dst]
    cases h : stp (lget sl) (lget os) o with
    | none => simp
    | some q =>
      constructor
      · rintro ⟨h1, h2⟩; exact ⟨q.val, q.upd, ⟨q, rfl, h1, rfl, rfl⟩, h2⟩
      · rintro ⟨v, u, ⟨q', h0, h1, rfl, rfl⟩, h2⟩; cases h0; exact ⟨h1, h2⟩
  | g j w o =>
    simp only [runG, step1, PG.dst]
    cases hg : guardOf ((lget sl j).getD .un) with
    | none => simp
    | some gt =>
      obtain ⟨l, t⟩ := gt
      cases h : stp (lget sl) (lget os) o with
      | none => simp
      | some q =>
        obtain ⟨x, u0, sd⟩ := q
        cases u0 with
        | some y =>
          constructor
          · rintro ⟨h1, h2⟩; exact ⟨x, some y, ⟨l, t, x, some y, sd, rfl, rfl, .inr ⟨by simp, h1, rfl, rfl⟩⟩, h2⟩
          · rintro ⟨v, u, ⟨l', t', x', u', s', h0, h1, h2⟩, h3⟩
            cases h0; cases h1
            rcases h2 with ⟨q, _⟩ | ⟨_, h2, rfl, rfl⟩
            · cases q
            · exact ⟨h2, h3⟩
        | none =>
          constructor
          · rintro ⟨h1, h2⟩; exact ⟨_, none, ⟨l, t, x, none, sd, rfl, rfl, .inl ⟨rfl, h1, rfl, rfl⟩⟩, h2⟩
          · rintro ⟨v, u, ⟨l', t', x', u', s', h0, h1, h2⟩, h3⟩
            cases h0; cases h1
            rcases h2 with ⟨_, h2, rfl, rfl⟩ | ⟨q, _⟩
            · exact ⟨h2, h3⟩
            · exact absurd rfl q
  | uc d f xs =>
    simp only [runG, step1, PG.dst, CallK, forall_const, id_eq]
    constructor
    · rintro ⟨h1, rv, h2, h3, h4⟩; exact ⟨rv, none, ⟨h1, h2, h3, rfl⟩, h4⟩
    · rintro ⟨v, u, ⟨h1, h2, h3, rfl⟩, h4⟩; exact ⟨h1, v, h2, h3, h4⟩
  | uv d t xs =>
    simp only [runG, step1, PG.dst, CallK, forall_const, id_eq]
    cases hl : lget sl t with
    | none => simp
    | some y =>
      cases y with
      | clo f l =>
        constructor
        · rintro ⟨h1, rv, h2, h3, h4⟩; exact ⟨rv, none, ⟨f, l, rfl, h1, h2.elim id id, h3, rfl⟩, h4⟩
        · rintro ⟨v, u, ⟨f', l', h0, h1, h2, h3, rfl⟩, h4⟩; cases h0; exact ⟨h1, v, .inl h2, h3, h4⟩
      | _ => simp
  | gc j w d f xs =>
    simp only [runG, step1, PG.dst, CallK]
    cases hg : guardOf ((lget sl j).getD .un) with
    | none => simp
    | some gt =>
      obtain ⟨l, t⟩ := gt
      constructor
      · rintro ⟨h1, rv, h2, h3, h4⟩; exact ⟨_, none, ⟨l, t, rv, rfl, h1, h2, h3, rfl, rfl⟩, h4⟩
      · rintro ⟨v, u, ⟨l', t', rv, h0, h1, h2, h3, rfl, rfl⟩, h4⟩; cases h0; exact ⟨h1, rv, h2, h3, h4⟩
def apS (sl : Sl) : List Row → Sl
  | [] => sl
  | x :: r => apS (putO sl x.dst x.val) r
def apO (os : Os) : List Row → Os
  | [] => os
  | x :: r => apO (updO os x.upd) r
def Tr (P : Program) : List PG → List Row → Sl → Os → Prop
  | [], [], _, _ => True
  | g :: r, x :: xs, sl, os => x.dst = g.dst ∧ step1 P g sl os x.val x.upd ∧ Tr P r xs (putO sl x.dst x.val) (updO os x.upd)
  | _, _, _, _ => False
theorem runG_tr {K : Sl → Os → Prop} : ∀ (l : List PG) (sl : Sl) (os : Os), runG P l K sl os ↔ ∃ rows, Tr P l rows sl os ∧ K (apS sl rows) (apO os rows)
  | [], sl, os => ⟨fun h => ⟨[], trivial, h⟩, fun ⟨rows, h1, h2⟩ => by cases rows with | nil => exact h2 | cons _ _ => exact h1.elim⟩
  | g :: r, sl, os => by
    rw [runG_step]
    constructor
    · rintro ⟨v, u, h1, h2⟩
      obtain ⟨rows, h3, h4⟩ := (runG_tr r _ _).1 h2
      exact ⟨⟨g.dst, v, u⟩ :: rows, ⟨rfl, h1, h3⟩, h4⟩
    · rintro ⟨rows, h1, h2⟩
      cases rows with
      | nil => exact h1.elim
      | cons x xs =>
        obtain ⟨h3, h4, h5⟩ := h1
        exact ⟨x.val, x.upd, h4, (runG_tr r _ _).2 ⟨xs, h3 ▸ h5, h3 ▸ h2⟩⟩
theorem Tr.len : ∀ {l : List PG} {rows : List Row} {sl : Sl} {os : Os}, Tr P l rows sl os → rows.length = l.length
  | [], [], _, _, _ => rfl
  | _ :: _, _ :: _, _, _, h => by simp [h.2.2.len]
  | [], _ :: _, _, _, h => h.elim
  | _ :: _, [], _, _, h => h.elim
theorem Tr.at : ∀ {l : List PG} {rows : List Row} {sl : Sl} {os : Os}, Tr P l rows sl os → ∀ i, i < l.length →
    (rows.getD i default).dst = (l.getD i default).dst ∧ step1 P (l.getD i default) (apS sl (rows.take i)) (apO os (rows.take i)) (rows.getD i default).val (rows.getD i default).upd
  | g :: r, x :: xs, sl, os, h, 0, _ => ⟨h.1, by simpa [apS, apO] using h.2.1⟩
  | g :: r, x :: xs, sl, os, h, i + 1, hi => by simpa [apS, apO] using h.2.2.at i (by simpa using hi)
  | [], [], _, _, _, i, hi => by simp at hi
  | [], _ :: _, _, _, h, _, _ => h.elim
  | _ :: _, [], _, _, h, _, _ => h.elim
/-- A tab of what each operation touches, and what object it turns. -/
abbrev Tab := List (List Nat × Option Nat)
def tabOf : List PG → List Row → Sl → Tab
  | g :: r, x :: xs, sl => (foot (lget sl) g, x.upd.map (·.1)) :: tabOf r xs (putO sl x.dst x.val)
  | _, _, _ => []
theorem tabOf_at : ∀ {l : List PG} {rows : List Row} {sl : Sl}, rows.length = l.length → ∀ i, i < l.length →
    (tabOf l rows sl).getD i default = (foot (lget (apS sl (rows.take i))) (l.getD i default), (rows.getD i default).upd.map (·.1))
  | g :: r, x :: xs, sl, _, 0, _ => by simp [tabOf, apS]
  | g :: r, x :: xs, sl, h, i + 1, hi => by simpa [tabOf, apS] using tabOf_at (l := r) (rows := xs) (by simpa using h) i (by simpa using hi)
  | [], _, _, _, i, hi => by simp at hi
  | _ :: _, [], _, h, _, _ => by simp at h
def runF (P : Program) (l : List PG) (tab : Tab) (K : Tab → Sl → Os → Prop) (sl : Sl) (os : Os) : Prop := match l with
  | [] => K tab sl os
  | g :: r => runG P [g] (fun sl' os' => runF P r (tab ++ [(foot (lget sl) g, wrs (lget sl) (lget os) g)]) K sl' os') sl os
def KF (P : Program) (r : List PG) (tab : Tab) (K : Tab → Sl → Os → Prop) (sl : Sl) (os : Os) : Prop := runF P r tab K sl os
theorem runF_nil {P : Program} {tab : Tab} {K : Tab → Sl → Os → Prop} {sl : Sl} {os : Os} (h : K tab sl os) : runF P [] tab K sl os := h
theorem runF_cons {P : Program} {g : PG} {r : List PG} {tab : Tab} {K : Tab → Sl → Os → Prop} {sl : Sl} {os : Os} (h : runG P [g] (KF P r (tab ++ [(foot (lget sl) g, wrs (lget sl) (lget os) g)]) K) sl os) : runF P (g :: r) tab K sl os := h
theorem KF_of {P : Program} {r : List PG} {tab : Tab} {K : Tab → Sl → Os → Prop} {sl : Sl} {os : Os} (h : runF P r tab K sl os) : KF P r tab K sl os := h
theorem step1_wrs {g : PG} {sl : Sl} {os : Os} {v : AV} {u : Option (Nat × AO)} (h : step1 P g sl os v u) : wrs (lget sl) (lget os) g = u.map (·.1) := by
  cases g with
  | u o => obtain ⟨q, h1, _, _, rfl⟩ := h; simp [wrs, h1]
  | g j w o =>
    obtain ⟨_, _, _, _, _, _, h1, h2⟩ := h
    rcases h2 with ⟨rfl, _, _, rfl⟩ | ⟨_, _, _, rfl⟩ <;> simp [wrs, h1]
  | uc d f xs => obtain ⟨_, _, _, rfl⟩ := h; rfl
  | uv d t xs => obtain ⟨_, _, _, _, _, _, rfl⟩ := h; rfl
  | gc j w d f xs => obtain ⟨_, _, _, _, _, _, _, _, rfl⟩ := h; rfl
theorem runF_tr {K : Tab → Sl → Os → Prop} : ∀ (l : List PG) (tab : Tab) (sl : Sl) (os : Os), runF P l tab K sl os → ∃ rows, Tr P l rows sl os ∧ K (tab ++ tabOf l rows sl) (apS sl rows) (apO os rows)
  | [], tab, sl, os, h => ⟨[], trivial, by simpa [tabOf, apS, apO] using (show K tab sl os from h)⟩
  | g :: r, tab, sl, os, h => by
    simp only [runF] at h
    obtain ⟨v, u, h1, h2⟩ := runG_step.1 h
    obtain ⟨rows, h3, h4⟩ := runF_tr r _ _ _ h2
    refine ⟨⟨g.dst, v, u⟩ :: rows, ⟨rfl, h1, h3⟩, ?_⟩
    rw [step1_wrs h1] at h4
    simpa [tabOf, apS, apO, List.append_assoc] using h4
mutual
theorem dv_congr {go go' : Nat → Option AO} : ∀ (a : AV), (∀ n ∈ nm a, go n = go' n) → dv go a = dv go' a
  | .own n g, h => by simp only [dv]; rw [h n (by simp [nm])]
  | .nl _, _ => rfl
  | .d _, _ => rfl
  | .ag l, h => by simp only [dv]; rw [dvL_congr l (by simpa [nm] using h)]
  | .clo f l, h => by simp only [dv]; rw [dvL_congr l (by simpa [nm] using h)]
  | .ptr .., _ => rfl
  | .rptr .., _ => rfl
  | .mp n, h => by simp only [dv]; rw [h n (by simp [nm])]
  | .tp _, _ => rfl
  | .gd .., _ => rfl
  | .un, _ => rfl
theorem dvL_congr {go go' : Nat → Option AO} : ∀ (l : List AV), (∀ n ∈ nmL l, go n = go' n) → dvL go l = dvL go' l
  | [], _ => rfl
  | x :: r, h => by simp only [dvL]; rw [dv_congr x (fun n hn => h n (by simp [nmL, hn])), dvL_congr r (fun n hn => h n (by simp [nmL, hn]))]
end
theorem xs_congr {gs gs' : Nat → Option AV} {go go' : Nat → Option AO} : ∀ (xs : List X), (∀ t ∈ sls xs, gs t = gs' t) → (∀ n ∈ nmL ((sls xs).map fun t => (gs t).getD .un), go n = go' n) →
    sides gs xs = sides gs' xs ∧ argsOf gs go xs = argsOf gs' go' xs ∧ rawOf gs xs = rawOf gs' xs ∧ argsN gs go xs = argsN gs' go' xs
  | [], _, _ => ⟨rfl, rfl, rfl, rfl⟩
  | x :: r, h1, h2 => by
    have hx := evs_congr (gs := gs) (gs' := gs') (x := x) (fun t ht => h1 t (by simp [sls, ht]))
    obtain ⟨a, b, c, d⟩ := xs_congr r (fun t ht => h1 t (by simp [sls, ht])) (fun n hn => h2 n (by
      rw [mem_nmL] at hn ⊢
      obtain ⟨y, hy, hn⟩ := hn
      simp only [List.mem_map] at hy ⊢
      obtain ⟨t, ht, rfl⟩ := hy
      exact ⟨_, ⟨t, by simp [sls, ht], rfl⟩, hn⟩))
    have hdv := dv_congr (go := go) (go' := go') (evs gs x).2 (fun n hn => h2 n (by
      have := nm_evs hn
      rw [mem_nmL] at this ⊢
      obtain ⟨y, hy, hn⟩ := this
      simp only [List.mem_map] at hy ⊢
      obtain ⟨t, ht, rfl⟩ := hy
      exact ⟨_, ⟨t, by simp [sls, ht], rfl⟩, hn⟩))
    refine ⟨by simp only [sides, hx, a], by simp only [argsOf, b, ← hx, hdv], by simp only [rawOf, hx, c], ?_⟩
    simp only [argsN, d, ← hx]
    congr 1
    generalize (evs gs x).2 = y at hdv
    cases y <;> first | rfl | exact hdv
theorem step1_congr {g : PG} {sl sl' : Sl} {os os' : Os} {v : AV} {u : Option (Nat × AO)} (hr : ∀ t ∈ g.reads, lget sl t = lget sl' t) (hn : ∀ n ∈ foot (lget sl) g, lget os n = lget os' n)
    (h : step1 P g sl os v u) : step1 P g sl' os' v u := by
  cases g with
  | u o =>
    obtain ⟨q, h1, h2⟩ := h
    exact ⟨q, by rw [← stp_congr hr hn]; exact h1, h2⟩
  | g j w o =>
    obtain ⟨l, t, x, u0, s, h1, h2, h3⟩ := h
    refine ⟨l, t, x, u0, s, by rw [← hr j (by simp [PG.reads])]; exact h1, ?_, h3⟩
    rw [← stp_congr (fun t ht => hr t (by simp [PG.reads, ht])) (fun n hn' => hn n ?_)]
    · exact h2
    · simp only [foot, PG.reads, List.map_cons, nmL, List.mem_append, PG.dst] at hn' ⊢
      exact hn'.imp .inr id
  | uc d f xs =>
    obtain ⟨a, b, c, d'⟩ := xs_congr (go := lget os) (go' := lget os') xs hr (fun n hn' => hn n (by simp only [foot, PG.reads, List.mem_append]; exact .inl hn'))
    simp only [step1] at h ⊢
    rw [← a, ← b, ← c, ← d']; exact h
  | uv d t xs =>
    obtain ⟨a, b, c, d'⟩ := xs_congr (go := lget os) (go' := lget os') xs (fun t' ht => hr t' (by simp [PG.reads, ht])) (fun n hn' => hn n (by
      simp only [foot, PG.reads, List.map_cons, nmL, List.mem_append]; exact .inl (.inr hn')))
    obtain ⟨f, l, h0, h1⟩ := h
    have hl : dvL (lget os) l = dvL (lget os') l := dvL_congr l (fun n hn' => hn n (by
      simp only [foot, PG.reads, List.map_cons, nmL, List.mem_append, h0, Option.getD_some, nm]; exact .inl (.inl hn')))
    refine ⟨f, l, by rw [← hr t (by simp [PG.reads])]; exact h0, ?_⟩
    rw [← a, ← b, ← c, ← hl]; exact h1
  | gc j w d f xs =>
    obtain ⟨a, b, c, d'⟩ := xs_congr (go := lget os) (go' := lget os') xs (fun t ht => hr t (by simp [PG.reads, ht])) (fun n hn' => hn n (by
      simp only [foot, PG.reads, List.map_cons, nmL, List.mem_append]; exact .inl (.inr hn')))
    simp only [step1] at h ⊢
    rw [← a, ← b, ← c, ← d', ← hr j (by simp [PG.reads])]; exact h
theorem get_putO (sl : Sl) (d : Option Nat) (v : AV) (t : Nat) : lget (putO sl d v) t = if d = some t then some v else lget sl t := by
  cases d with
  | none => simp [putO]
  | some d =>
    simp only [putO, get_put]
    by_cases h : t = d
    · simp [h]
    · simp [h, Ne.symm h]
theorem get_updO (os : Os) (u : Option (Nat × AO)) (n : Nat) : lget (updO os u) n = if u.map (·.1) = some n then u.map (·.2) else lget os n := by
  cases u with
  | none => simp [updO]
  | some p =>
    obtain ⟨m, o⟩ := p
    simp only [updO, get_put]
    by_cases h : n = m
    · simp [h]
    · simp [h, Ne.symm h]
theorem apS_get (t : Nat) : ∀ (rows : List Row) (sl sl' : Sl), lget sl t = lget sl' t → lget (apS sl rows) t = lget (apS sl' (rows.filter fun x => x.dst == some t)) t
  | [], _, _, h => h
  | x :: r, sl, sl', h => by
    by_cases c : x.dst = some t
    · simp only [apS, List.filter_cons, c, beq_self_eq_true, if_true]
      exact apS_get t r _ _ (by simp [get_putO])
    · simp only [apS, List.filter_cons]
      rw [if_neg (by simpa using c)]
      exact apS_get t r _ _ (by rw [get_putO, if_neg c, h])
theorem apO_get (n : Nat) : ∀ (rows : List Row) (os os' : Os), lget os n = lget os' n → lget (apO os rows) n = lget (apO os' (rows.filter fun x => x.upd.map (·.1) == some n)) n
  | [], _, _, h => h
  | x :: r, sl, sl', h => by
    by_cases c : x.upd.map (·.1) = some n
    · simp only [apO, List.filter_cons, c, beq_self_eq_true, if_true]
      exact apO_get n r _ _ (by simp only [get_updO, c, if_true])
    · simp only [apO, List.filter_cons]
      rw [if_neg (by simpa using c)]
      exact apO_get n r _ _ (by rw [get_updO, if_neg c, h])
end
/-! Orders. 'B': of each operation the bits of those that it must follow. -/
def slotOk (x y : PG) : Bool := (match x.dst with | some d => !y.reads.elem d && !(y.dst == some d) | none => true) && (match y.dst with | some d => !x.reads.elem d | none => true)
def PO.writes : PO → Bool
  | .st .. | .al .. | .bx .. | .app .. | .mks .. | .bsl .. | .mkm .. | .mup .. => true
  | _ => false
def PG.writes : PG → Bool
  | .u o | .g _ _ o => o.writes
  | _ => false
theorem stp_quiet {gs : Nat → Option AV} {go : Nat → Option AO} {o : PO} {q : Res} (h : stp gs go o = some q) (hw : o.writes = false) : q.upd = none := by
  cases o <;> simp only [PO.writes, Bool.true_eq_false] at hw <;> simp only [stp] at h <;> (repeat' split at h) <;> first
    | (cases h; rfl)
    | (cases h; done)
    | (simp only [okR] at h; cases h; rfl)
    | (obtain ⟨_, _, h⟩ := Option.bind_eq_some_iff.1 h; simp only [okR] at h; cases h; rfl)
def befs : List (List Nat) → List Nat → List Nat
  | [], acc => acc
  | e :: r, acc => befs r (acc ++ [e.foldr (fun j m => m ||| 2 ^ j ||| acc.getD j 0) 0])
/-- The pairs that no order binds. -/
def unord (B : List Nat) : List (Nat × Nat) := (List.range B.length).flatMap fun i => (List.range i).filterMap fun j => if (B.getD i 0).testBit j then none else some (j, i)
def memOk (x y : List Nat × Option Nat) : Bool := (match x.2 with | some n => !y.1.elem n | none => true) && (match y.2 with | some n => !x.1.elem n | none => true)
def chk (ps : List (Nat × Nat)) (tab : Tab) : Bool := ps.all fun p => memOk (tab.getD p.1 default) (tab.getD p.2 default)
theorem befs_len : ∀ (es : List (List Nat)) (acc : List Nat), (befs es acc).length = acc.length + es.length
  | [], acc => rfl
  | e :: r, acc => by simp [befs, befs_len r]; omega
theorem befs_old : ∀ (es : List (List Nat)) (acc : List Nat) (i : Nat), i < acc.length → (befs es acc).getD i 0 = acc.getD i 0
  | [], acc, i, _ => rfl
  | e :: r, acc, i, h => by
    rw [befs, befs_old r _ i (by simp; omega)]
    simp [List.getD, List.getElem?_append_left h]
theorem fold_bit (acc : List Nat) (j : Nat) : ∀ (e : List Nat), (e.foldr (fun j m => m ||| 2 ^ j ||| acc.getD j 0) 0).testBit j = true → ∃ k ∈ e, j = k ∨ (acc.getD k 0).testBit j = true
  | [], h => by simp at h
  | k :: r, h => by
    simp only [List.foldr_cons, Nat.testBit_or, Bool.or_eq_true, Nat.testBit_two_pow] at h
    rcases h with (h | h) | h
    · obtain ⟨m, hm, h⟩ := fold_bit acc j r h; exact ⟨m, by simp [hm], h⟩
    · exact ⟨k, by simp, .inl (by simpa [eq_comm] using h)⟩
    · exact ⟨k, by simp, .inr h⟩
theorem befs_bit : ∀ (es : List (List Nat)) (acc : List Nat) (i j : Nat), acc.length ≤ i → ((befs es acc).getD i 0).testBit j = true → (∀ (m : Nat) (e : List Nat), es[m]? = some e → ∀ k ∈ e, k < acc.length + m) →
    ∃ k ∈ es.getD (i - acc.length) [], j = k ∨ ((befs es acc).getD k 0).testBit j = true
  | [], acc, i, j, hi, h, _ => by simp [befs, List.getD, List.getElem?_eq_none hi] at h
  | e :: r, acc, i, j, hi, h, hlt => by
    by_cases c : i = acc.length
    · subst c
      rw [befs, befs_old r _ _ (by simp)] at h
      simp only [List.getD, List.getElem?_append_right (Nat.le_refl _), Nat.sub_self, List.getElem?_cons_zero, Option.getD_some] at h
      obtain ⟨k, hk, h⟩ := fold_bit acc j e h
      refine ⟨k, by simpa using hk, h.imp id (fun h => ?_)⟩
      have hk' := hlt 0 e (by simp) k hk
      rw [befs, befs_old r _ _ (by simp; omega)]
      simpa [List.getD, List.getElem?_append_left (show k < acc.length by omega)] using h
    · have := befs_bit r (acc ++ [e.foldr (fun j m => m ||| 2 ^ j ||| acc.getD j 0) 0]) i j (by simp; omega) h (fun m e' hm k hk => by
        have := hlt (m + 1) e' (by simpa using hm) k hk
        simp; omega)
      obtain ⟨k, hk, h⟩ := this
      refine ⟨k, ?_, h⟩
      have he : i - acc.length = (i - (acc.length + 1)) + 1 := by omega
      rw [he]
      simpa using hk
theorem sorted_ext : ∀ {l l' : List Nat}, l.Pairwise (· < ·) → l'.Pairwise (· < ·) → (∀ x, x ∈ l ↔ x ∈ l') → l = l'
  | [], [], _, _, _ => rfl
  | [], b :: l', _, _, h => absurd ((h b).2 (by simp)) (by simp)
  | a :: l, [], _, _, h => absurd ((h a).1 (by simp)) (by simp)
  | a :: l, b :: l', h1, h2, h => by
    have h1' := List.pairwise_cons.1 h1
    have h2' := List.pairwise_cons.1 h2
    have hab : a = b := by
      have ha := (h a).1 (by simp)
      have hb := (h b).2 (by simp)
      simp only [List.mem_cons] at ha hb
      rcases ha with rfl | ha
      · rfl
      · rcases hb with rfl | hb
        · rfl
        · have := h2'.1 a ha; have := h1'.1 b hb; omega
    subst hab
    rw [sorted_ext h1'.2 h2'.2 (fun x => ?_)]
    constructor
    · intro hx
      have := (h x).1 (by simp [hx])
      have := h1'.1 x hx
      simp only [List.mem_cons] at *
      rcases ‹x = a ∨ x ∈ l'› with rfl | q
      · omega
      · exact q
    · intro hx
      have := (h x).2 (by simp [hx])
      have := h2'.1 x hx
      simp only [List.mem_cons] at *
      rcases ‹x = a ∨ x ∈ l› with rfl | q
      · omega
      · exact q
theorem nodup_inj {l : List Nat} (h : l.Nodup) {p q : Nat} (hp : p < l.length) (hq : q < l.length) (e : l[p] = l[q]) : p = q := by
  rcases Nat.lt_trichotomy p q with c | c | c
  · exact absurd e (List.pairwise_iff_getElem.1 h p q hp hq c)
  · exact c
  · exact absurd e.symm (List.pairwise_iff_getElem.1 h q p hq hp c)
theorem split_at {l : List Nat} {p : Nat} (hp : p < l.length) : l = l.take p ++ l[p] :: l.drop (p + 1) := by
  rw [← List.drop_eq_getElem_cons hp, List.take_append_drop]
/-- An order that keeps to 'B'. -/
structure Ord (B : List Nat) (n : Nat) (σ : List Nat) : Prop where
  nodup : σ.Nodup
  all : ∀ i, i ∈ σ ↔ i < n
  keeps : ∀ X i Y, σ = X ++ i :: Y → ∀ j, (B.getD i 0).testBit j = true → j ∈ X
  back : ∀ i j, (B.getD i 0).testBit j = true → j < i
/-- Those of a kind that are ordered among themselves, and each with 'i', stand ahead of 'i' as in the text. -/
theorem Ord.same {B : List Nat} {n : Nat} {σ X Y : List Nat} {i : Nat} {W : Nat → Bool} (o : Ord B n σ) (hX : σ = X ++ i :: Y) (hW : ∀ j, j < n → W j = true → j ≠ i → (B.getD i 0).testBit j = true ∨ (B.getD j 0).testBit i = true)
    (hWW : ∀ j k, j < n → k < n → W j = true → W k = true → j ≠ k → (B.getD k 0).testBit j = true ∨ (B.getD j 0).testBit k = true) : X.filter W = (List.range i).filter W := by
  have hiX : i ∉ X := by
    have := o.nodup; rw [hX] at this
    exact fun h => (List.nodup_append.1 this).2.2 i h i (by simp) rfl
  have hin : i < n := (o.all i).1 (by rw [hX]; simp)
  have hXn : ∀ j ∈ X, j < n := fun j hj => (o.all j).1 (by rw [hX]; simp [hj])
  refine sorted_ext ?_ (List.Pairwise.filter _ List.pairwise_lt_range) (fun j => ?_)
  · rw [List.pairwise_filter]
    rw [List.pairwise_iff_getElem]
    intro p q hp hq hpq h1 h2
    have hne : X[p] ≠ X[q] := by
      have hnd : X.Nodup := by have := o.nodup; rw [hX] at this; exact (List.nodup_append.1 this).1
      intro e
      have := nodup_inj hnd _ _ e
      omega
    rcases hWW X[p] X[q] (hXn _ (List.getElem_mem _)) (hXn _ (List.getElem_mem _)) h1 h2 hne with h | h
    · exact o.back _ _ h
    · exfalso
      have hs : σ = X.take p ++ X[p] :: (X.drop (p + 1) ++ i :: Y) := by
        rw [hX]
        exact (congrArg (· ++ i :: Y) (split_at hp)).trans (by simp only [List.append_assoc, List.cons_append])
      have hmem := o.keeps _ _ _ hs _ h
      obtain ⟨r, hr, hre⟩ := List.getElem_of_mem hmem
      have hnd : X.Nodup := by have := o.nodup; rw [hX] at this; exact (List.nodup_append.1 this).1
      rw [List.getElem_take] at hre
      have hr' : r < p := by simp at hr; omega
      have := nodup_inj hnd _ _ hre
      omega
  · simp only [List.mem_filter, List.mem_range]
    constructor
    · rintro ⟨h1, h2⟩
      refine ⟨?_, h2⟩
      rcases hW j (hXn j h1) h2 (fun e => hiX (e ▸ h1)) with h | h
      · exact o.back _ _ h
      · exfalso
        obtain ⟨X1, X2, hs⟩ := List.append_of_mem h1
        have := o.keeps X1 j (X2 ++ i :: Y) (by rw [hX, hs]; simp) i h
        exact hiX (by rw [hs]; simp [this])
    · rintro ⟨h1, h2⟩
      refine ⟨?_, h2⟩
      rcases hW j (by omega) h2 (by omega) with h | h
      · exact o.keeps X i Y hX j h
      · have := o.back _ _ h; omega
theorem Ord.same_all {B : List Nat} {n : Nat} {σ : List Nat} {W : Nat → Bool} (o : Ord B n σ)
    (hWW : ∀ j k, j < n → k < n → W j = true → W k = true → j ≠ k → (B.getD k 0).testBit j = true ∨ (B.getD j 0).testBit k = true) : σ.filter W = (List.range n).filter W := by
  refine sorted_ext ?_ (List.Pairwise.filter _ List.pairwise_lt_range) (fun j => ?_)
  · rw [List.pairwise_filter]
    rw [List.pairwise_iff_getElem]
    intro p q hp hq hpq h1 h2
    have hne : σ[p] ≠ σ[q] := by
      intro e
      have := nodup_inj o.nodup _ _ e
      omega
    rcases hWW σ[p] σ[q] ((o.all _).1 (List.getElem_mem _)) ((o.all _).1 (List.getElem_mem _)) h1 h2 hne with h | h
    · exact o.back _ _ h
    · exfalso
      have hs : σ = σ.take p ++ σ[p] :: σ.drop (p + 1) := split_at hp
      have hmem := o.keeps _ _ _ hs _ h
      obtain ⟨r, hr, hre⟩ := List.getElem_of_mem hmem
      rw [List.getElem_take] at hre
      have hr' : r < p := by simp at hr; omega
      have := nodup_inj o.nodup _ _ hre
      omega
  · simp only [List.mem_filter, List.mem_range, o.all]
theorem upd_foot0 {o : PO} {sl : Sl} {os : Os} {q : Res} (h1 : stp (lget sl) (lget os) o = some q) {n : Nat} (hu : q.upd.map (·.1) = some n) : n ∈ foot (lget sl) (.u o) := by
    by_cases hw : o.writes = true
    · cases o <;> simp only [PO.writes, Bool.false_eq_true] at hw
      case st size x y =>
        simp only [stp] at h1
        split at h1
        · rename_i p n' off q' y' hx hy
          split at h1
          · cases h1
            simp only [Option.map_some, Option.some.injEq] at hu
            subst hu
            have : n' ∈ nm (evs (lget sl) x).2 := by rw [hx]; simp [nm]
            have := nm_evs this
            rw [mem_nmL] at this
            obtain ⟨a, ha, hn⟩ := this
            simp only [foot, PG.reads, PO.reads, List.mem_append, mem_nmL]
            refine .inl ⟨a, ?_, hn⟩
            simp only [List.mem_map, List.mem_append] at ha ⊢
            obtain ⟨t, ht, rfl⟩ := ha
            exact ⟨t, .inl ht, rfl⟩
          · cases h1
        · rename_i p n' g s i off q' y' hx hy
          split at h1
          · cases h1
            simp only [Option.map_some, Option.some.injEq] at hu
            subst hu
            have : n' ∈ nm (evs (lget sl) x).2 := by rw [hx]; simp [nm]
            have := nm_evs this
            rw [mem_nmL] at this
            obtain ⟨a, ha, hn⟩ := this
            simp only [foot, PG.reads, PO.reads, List.mem_append, mem_nmL]
            refine .inl ⟨a, ?_, hn⟩
            simp only [List.mem_map, List.mem_append] at ha ⊢
            obtain ⟨t, ht, rfl⟩ := ha
            exact ⟨t, .inl ht, rfl⟩
          · cases h1
            simp only [Option.map_some, Option.some.injEq] at hu
            subst hu
            have : n' ∈ nm (evs (lget sl) x).2 := by rw [hx]; simp [nm]
            have := nm_evs this
            rw [mem_nmL] at this
            obtain ⟨a, ha, hn⟩ := this
            simp only [foot, PG.reads, PO.reads, List.mem_append, mem_nmL]
            refine .inl ⟨a, ?_, hn⟩
            simp only [List.mem_map, List.mem_append] at ha ⊢
            obtain ⟨t, ht, rfl⟩ := ha
            exact ⟨t, .inl ht, rfl⟩
          · cases h1
            simp only [Option.map_some, Option.some.injEq] at hu
            subst hu
            have : n' ∈ nm (evs (lget sl) x).2 := by rw [hx]; simp [nm]
            have := nm_evs this
            rw [mem_nmL] at this
            obtain ⟨a, ha, hn⟩ := this
            simp only [foot, PG.reads, PO.reads, List.mem_append, mem_nmL]
            refine .inl ⟨a, ?_, hn⟩
            simp only [List.mem_map, List.mem_append] at ha ⊢
            obtain ⟨t, ht, rfl⟩ := ha
            exact ⟨t, .inl ht, rfl⟩
          · cases h1
            simp only [Option.map_some, Option.some.injEq] at hu
            subst hu
            have : n' ∈ nm (evs (lget sl) x).2 := by rw [hx]; simp [nm]
            have := nm_evs this
            rw [mem_nmL] at this
            obtain ⟨a, ha, hn⟩ := this
            simp only [foot, PG.reads, PO.reads, List.mem_append, mem_nmL]
            refine .inl ⟨a, ?_, hn⟩
            simp only [List.mem_map, List.mem_append] at ha ⊢
            obtain ⟨t, ht, rfl⟩ := ha
            exact ⟨t, .inl ht, rfl⟩
          · cases h1
        · cases h1
      case al d z =>
        simp only [stp] at h1; cases h1
        simp only [Option.map_some, Option.some.injEq] at hu; subst hu
        simp [foot, PG.dst, PO.dst]
      case bx d x =>
        simp only [stp] at h1; cases h1
        simp only [Option.map_some, Option.some.injEq] at hu; subst hu
        simp [foot, PG.dst, PO.dst]
      case app d e s b x y =>
        simp only [stp] at h1
        split at h1
        · split at h1
          · cases h1
            simp only [Option.map_some, Option.some.injEq] at hu; subst hu
            simp [foot, PG.dst, PO.dst]
          · rename_i p n' g hx
            split at h1
            · cases h1
              simp only [Option.map_some, Option.some.injEq] at hu
              subst hu
              have : n' ∈ nm (evs (lget sl) x).2 := by rw [hx]; simp [nm]
              have := nm_evs this
              rw [mem_nmL] at this
              obtain ⟨a, ha, hn⟩ := this
              simp only [foot, PG.reads, PO.reads, List.mem_append, mem_nmL]
              refine .inl ⟨a, ?_, hn⟩
              simp only [List.mem_map, List.mem_append] at ha ⊢
              obtain ⟨t, ht, rfl⟩ := ha
              exact ⟨t, .inl ht, rfl⟩
            · cases h1
              simp only [Option.map_some, Option.some.injEq] at hu
              subst hu
              have : n' ∈ nm (evs (lget sl) x).2 := by rw [hx]; simp [nm]
              have := nm_evs this
              rw [mem_nmL] at this
              obtain ⟨a, ha, hn⟩ := this
              simp only [foot, PG.reads, PO.reads, List.mem_append, mem_nmL]
              refine .inl ⟨a, ?_, hn⟩
              simp only [List.mem_map, List.mem_append] at ha ⊢
              obtain ⟨t, ht, rfl⟩ := ha
              exact ⟨t, .inl ht, rfl⟩
            · split at h1
              · cases h1
                simp only [Option.map_some, Option.some.injEq] at hu
                subst hu
                have : n' ∈ nm (evs (lget sl) x).2 := by rw [hx]; simp [nm]
                have := nm_evs this
                rw [mem_nmL] at this
                obtain ⟨a, ha, hn⟩ := this
                simp only [foot, PG.reads, PO.reads, List.mem_append, mem_nmL]
                refine .inl ⟨a, ?_, hn⟩
                simp only [List.mem_map, List.mem_append] at ha ⊢
                obtain ⟨t, ht, rfl⟩ := ha
                exact ⟨t, .inl ht, rfl⟩
              · cases h1
            · cases h1
          · cases h1
        · cases h1
      case bsl d e s l =>
        simp only [stp] at h1
        split at h1
        · cases h1
          simp only [Option.map_some, Option.some.injEq] at hu; subst hu
          simp [foot, PG.dst, PO.dst]
        · cases h1
      case mkm d ka ea =>
        simp only [stp] at h1; cases h1
        simp only [Option.map_some, Option.some.injEq] at hu; subst hu
        simp [foot, PG.dst, PO.dst]
      case mup ka ea ks size x k y =>
        simp only [stp] at h1
        split at h1
        · rename_i n' kc yd hx _ _
          split at h1
          · cases h1
            simp only [Option.map_some, Option.some.injEq] at hu
            subst hu
            have : n' ∈ nm (evs (lget sl) x).2 := by rw [hx]; simp [nm]
            have := nm_evs this
            rw [mem_nmL] at this
            obtain ⟨a, ha, hn⟩ := this
            simp only [foot, PG.reads, PO.reads, List.mem_append, mem_nmL]
            refine .inl ⟨a, ?_, hn⟩
            simp only [List.mem_map, List.mem_append] at ha ⊢
            obtain ⟨t, ht, rfl⟩ := ha
            exact ⟨t, .inl (.inl ht), rfl⟩
          · cases h1
        · cases h1
      case mks d e s b z n' =>
        simp only [stp] at h1
        split at h1
        · cases h1
          simp only [Option.map_some, Option.some.injEq] at hu; subst hu
          simp [foot, PG.dst, PO.dst]
        · cases h1
    · rw [stp_quiet h1 (by simpa using hw)] at hu; cases hu
theorem upd_foot {P : Program} {g : PG} {sl : Sl} {os : Os} {v : AV} {u : Option (Nat × AO)} (h : step1 P g sl os v u) {n : Nat} (hu : u.map (·.1) = some n) : n ∈ foot (lget sl) g := by
  cases g with
  | g j w o =>
    obtain ⟨_, _, _, _, _, _, h1, h2⟩ := h
    rcases h2 with ⟨rfl, _, _, rfl⟩ | ⟨_, _, _, rfl⟩
    · cases hu
    · have := upd_foot0 h1 hu
      simp only [foot, PG.reads, List.map_cons, nmL, List.mem_append, PG.dst] at this ⊢
      exact this.imp .inr id
  | uc d f xs => obtain ⟨_, _, _, rfl⟩ := h; cases hu
  | uv d t xs => obtain ⟨_, _, _, _, _, _, rfl⟩ := h; cases hu
  | gc j w d f xs => obtain ⟨_, _, _, _, _, _, _, _, rfl⟩ := h; cases hu
  | u o =>
    obtain ⟨q, h1, _, _, rfl⟩ := h
    exact upd_foot0 h1 hu
theorem slotOk_spec {x y : PG} (h : slotOk x y = true) : (∀ d, x.dst = some d → d ∉ y.reads ∧ y.dst ≠ some d) ∧ ∀ d, y.dst = some d → d ∉ x.reads := by
  refine ⟨fun d hd => ?_, fun d hd => ?_⟩
  · simp [slotOk, hd] at h; exact h.1
  · simp [slotOk, hd] at h; exact h.2
theorem Tr.perm {P : Program} {B : List Nat} {n : Nat} {σ : List Nat} (o : Ord B n σ) {l : List PG} {rows : List Row} {sl : Sl} {os : Os} (h : Tr P l rows sl os) (hn : l.length = n)
    (hs : ∀ i j, j < i → i < n → (B.getD i 0).testBit j = false → slotOk (l.getD j default) (l.getD i default) = true ∧ memOk ((tabOf l rows sl).getD j default) ((tabOf l rows sl).getD i default) = true) :
    Tr P (σ.map fun i => l.getD i default) (σ.map fun i => rows.getD i default) sl os ∧ (∀ t, lget (apS sl (σ.map fun i => rows.getD i default)) t = lget (apS sl rows) t) ∧
      ∀ m, lget (apO os (σ.map fun i => rows.getD i default)) m = lget (apO os rows) m := by
  have hlen : rows.length = n := by rw [h.len, hn]
  have hrow : rows = (List.range n).map fun i => rows.getD i default := by
    apply List.ext_getElem
    · simp [hlen]
    · intro i h1 h2; simp [List.getD, List.getElem?_eq_getElem h1]
  have htake : ∀ i, i ≤ n → rows.take i = (List.range i).map fun i => rows.getD i default := by
    intro i hi
    apply List.ext_getElem
    · simp [hlen]; omega
    · intro k h1 h2; simp at h1; simp [List.getD, List.getElem?_eq_getElem (show k < rows.length by omega)]
  have hbit : ∀ i j, j < i → i < n → ((B.getD i 0).testBit j = true) ∨ slotOk (l.getD j default) (l.getD i default) = true ∧ memOk ((tabOf l rows sl).getD j default) ((tabOf l rows sl).getD i default) = true := by
    intro i j h1 h2
    cases hb : (B.getD i 0).testBit j with
    | true => exact .inl rfl
    | false => exact .inr (hs i j h1 h2 hb)
  have hat := fun i (hi : i < n) => h.at i (hn ▸ hi)
  have htab := fun i (hi : i < n) => tabOf_at (sl := sl) h.len i (hn ▸ hi)
  -- slots
  have sWW : ∀ t j k, j < n → k < n → ((rows.getD j default).dst == some t) = true → ((rows.getD k default).dst == some t) = true → j ≠ k → (B.getD k 0).testBit j = true ∨ (B.getD j 0).testBit k = true := by
    intro t j k hj hk h1 h2 hne
    rw [(hat j hj).1] at h1
    rw [(hat k hk).1] at h2
    simp only [beq_iff_eq] at h1 h2
    rcases Nat.lt_or_gt_of_ne hne with c | c
    · rcases hbit k j c hk with hb | ⟨hb, _⟩
      · exact .inl hb
      · exact absurd h2 ((slotOk_spec hb).1 t h1).2
    · rcases hbit j k c hj with hb | ⟨hb, _⟩
      · exact .inr hb
      · exact absurd h1 ((slotOk_spec hb).1 t h2).2
  have sW : ∀ i t, i < n → t ∈ (l.getD i default).reads → ∀ j, j < n → ((rows.getD j default).dst == some t) = true → j ≠ i → (B.getD i 0).testBit j = true ∨ (B.getD j 0).testBit i = true := by
    intro i t hi ht j hj h1 hne
    rw [(hat j hj).1] at h1
    simp only [beq_iff_eq] at h1
    rcases Nat.lt_or_gt_of_ne hne with c | c
    · rcases hbit i j c hi with hb | ⟨hb, _⟩
      · exact .inl hb
      · exact absurd ht ((slotOk_spec hb).1 t h1).1
    · rcases hbit j i c hj with hb | ⟨hb, _⟩
      · exact .inr hb
      · exact absurd ht ((slotOk_spec hb).2 t h1)
  -- memory
  have hfoot : ∀ j m, j < n → (rows.getD j default).upd.map (·.1) = some m → m ∈ ((tabOf l rows sl).getD j default).1 := by
    intro j m hj hm
    rw [htab j hj]
    exact upd_foot (hat j hj).2 hm
  have mW : ∀ i m, i < n → m ∈ ((tabOf l rows sl).getD i default).1 → ∀ j, j < n → ((rows.getD j default).upd.map (·.1) == some m) = true → j ≠ i → (B.getD i 0).testBit j = true ∨ (B.getD j 0).testBit i = true := by
    intro i m hi ht j hj h1 hne
    simp only [beq_iff_eq] at h1
    have h2 : ((tabOf l rows sl).getD j default).2 = some m := by rw [htab j hj]; exact h1
    rcases Nat.lt_or_gt_of_ne hne with c | c
    · rcases hbit i j c hi with hb | ⟨_, hb⟩
      · exact .inl hb
      · simp only [memOk, h2, Bool.and_eq_true, Bool.not_eq_true'] at hb
        have := hb.1
        rw [List.elem_eq_mem] at this; simp at this; exact absurd ht this
    · rcases hbit j i c hj with hb | ⟨_, hb⟩
      · exact .inr hb
      · simp only [memOk, h2, Bool.and_eq_true, Bool.not_eq_true'] at hb
        have := hb.2
        rw [List.elem_eq_mem] at this; simp at this; exact absurd ht this
  have mWW : ∀ m j k, j < n → k < n → ((rows.getD j default).upd.map (·.1) == some m) = true → ((rows.getD k default).upd.map (·.1) == some m) = true → j ≠ k → (B.getD k 0).testBit j = true ∨ (B.getD j 0).testBit k = true :=
    fun m j k hj hk h1 h2 hne => mW k m hk (hfoot k m hk (by simpa using h2)) j hj h1 hne
  have fm : ∀ (p : Row → Bool) (X : List Nat), (X.map fun i => rows.getD i default).filter p = (X.filter fun i => p (rows.getD i default)).map fun i => rows.getD i default := by
    intro p X; rw [List.filter_map]; rfl
  refine ⟨?_, fun t => ?_, fun m => ?_⟩
  · have key : ∀ Y X, σ = X ++ Y → Tr P (Y.map fun i => l.getD i default) (Y.map fun i => rows.getD i default) (apS sl (X.map fun i => rows.getD i default)) (apO os (X.map fun i => rows.getD i default)) := by
      intro Y
      induction Y with
      | nil => intro X _; exact trivial
      | cons i Y ih =>
        intro X hX
        have hi : i < n := (o.all i).1 (by rw [hX]; simp)
        obtain ⟨h1, h2⟩ := hat i hi
        have hsl : ∀ t ∈ (l.getD i default).reads, lget (apS sl (rows.take i)) t = lget (apS sl (X.map fun i => rows.getD i default)) t := by
          intro t ht
          rw [htake i (by omega), apS_get t _ sl sl rfl, apS_get t (X.map _) sl sl rfl, fm, fm, o.same (W := fun j => (rows.getD j default).dst == some t) hX (fun j hj hw hne => sW i t hi ht j hj hw hne) (fun j k hj hk h1 h2 hne => sWW t j k hj hk h1 h2 hne)]
        have hos : ∀ m ∈ foot (lget (apS sl (rows.take i))) (l.getD i default), lget (apO os (rows.take i)) m = lget (apO os (X.map fun i => rows.getD i default)) m := by
          intro m hm
          have hm' : m ∈ ((tabOf l rows sl).getD i default).1 := by rw [htab i hi]; exact hm
          rw [htake i (by omega), apO_get m _ os os rfl, apO_get m (X.map _) os os rfl, fm, fm, o.same (W := fun j => (rows.getD j default).upd.map (·.1) == some m) hX (fun j hj hw hne => mW i m hi hm' j hj hw hne) (fun j k hj hk h1 h2 hne => mWW m j k hj hk h1 h2 hne)]
        refine ⟨h1, step1_congr hsl hos h2, ?_⟩
        have := ih (X ++ [i]) (by rw [hX]; simp)
        have e1 : ∀ (r : List Row) (x : Row) (s : Sl), apS s (r ++ [x]) = putO (apS s r) x.dst x.val := by
          intro r; induction r with
          | nil => intro x s; rfl
          | cons y r ih => intro x s; exact ih x _
        have e2 : ∀ (r : List Row) (x : Row) (s : Os), apO s (r ++ [x]) = updO (apO s r) x.upd := by
          intro r; induction r with
          | nil => intro x s; rfl
          | cons y r ih => intro x s; exact ih x _
        simpa [e1, e2] using this
    simpa [apS, apO] using key σ [] rfl
  · conv => rhs; rw [hrow]
    rw [apS_get t _ sl sl rfl, apS_get t ((List.range n).map _) sl sl rfl, fm, fm, o.same_all (W := fun j => (rows.getD j default).dst == some t) (fun j k hj hk h1 h2 hne => sWW t j k hj hk h1 h2 hne)]
  · conv => rhs; rw [hrow]
    rw [apO_get m _ os os rfl, apO_get m ((List.range n).map _) os os rfl, fm, fm, o.same_all (W := fun j => (rows.getD j default).upd.map (·.1) == some m) (fun j k hj hk h1 h2 hne => mWW m j k hj hk h1 h2 hne)]
def edges (ops : Array Oper) : List (List Nat) := ops.toList.map fun o => (o.after.toList.filter (Region.binds .any ·)).map (·.on)
def backOk (ops : Array Oper) : Bool := (List.range ops.size).all fun i => match ops[i]? with | some o => o.after.toList.all fun e => !(Region.binds .any e) || decide (e.on < i) | none => true
/-- An order in which each operation stands behind those that it must follow. -/
def topGo (md : Region.Mode) (ops : Array Oper) : List Nat → List Nat → Bool
  | [], _ => true
  | i :: r, seen => decide (i < ops.size) && (match ops[i]? with | some o => o.after.toList.all (fun e => !(Region.binds md e) || seen.elem e.on) | none => true) && topGo md ops r (i :: seen)
def topOk (ops : Array Oper) (md : Region.Mode) : Bool := topGo md ops (Region.linearise md ops 0) [] && (List.range ops.size).all (fun i => (Region.linearise md ops 0).elem i)
theorem top_least {md : Region.Mode} {ops : Array Oper} {listed : Array Bool} (hsz : listed.size = ops.size) : ∀ (σ seen : List Nat), topGo md ops σ seen = true → (∀ j ∈ seen, listed.getD j false = true) → (∃ i ∈ σ, listed.getD i true = false) →
    ∃ k, k < ops.size ∧ listed.getD k true = false ∧ ∀ o, ops[k]? = some o → ∀ e ∈ o.after, Region.binds md e = true → listed.getD e.on false = true
  | [], _, _, _, h => by obtain ⟨i, hi, _⟩ := h; cases hi
  | i :: r, seen, ht, hs, h => by
    simp only [topGo, Bool.and_eq_true, decide_eq_true_eq] at ht
    obtain ⟨⟨h1, h2⟩, h3⟩ := ht
    cases hl : listed.getD i true with
    | false =>
      refine ⟨i, h1, hl, fun o ho e he hb => ?_⟩
      rw [ho] at h2
      have := List.all_eq_true.1 h2 e (by simpa using he)
      simp only [hb, Bool.not_true, Bool.false_or] at this
      exact hs _ (by simpa using this)
    | true =>
      refine top_least hsz r (i :: seen) h3 (fun j hj => ?_) ?_
      · rcases List.mem_cons.1 hj with rfl | hj
        · have hin : j < listed.size := by omega
          simpa [Array.getD, hin] using hl
        · exact hs j hj
      · obtain ⟨j, hj, hjl⟩ := h
        rcases List.mem_cons.1 hj with rfl | hj
        · rw [hl] at hjl; cases hjl
        · exact ⟨j, hj, hjl⟩
theorem filt_le {α : Type} {p q : α → Bool} (h : ∀ x, q x = true → p x = true) : ∀ (l : List α), (l.filter q).length ≤ (l.filter p).length
  | [] => Nat.le_refl _
  | a :: l => by
    have ih := filt_le h l
    cases hq : q a with
    | true => simp [hq, h a hq, ih]
    | false => cases hp : p a <;> simp [hq, hp] <;> omega
theorem filt_lt {α : Type} {p q : α → Bool} (h : ∀ x, q x = true → p x = true) {x : α} (hp : p x = true) (hq : q x = false) : ∀ (l : List α), x ∈ l → (l.filter q).length < (l.filter p).length
  | a :: l, hx => by
    rcases List.mem_cons.1 hx with rfl | hx
    · have := filt_le h l
      simp [hp, hq]; omega
    · have ih := filt_lt h hp hq l hx
      cases hqa : q a with
      | true => simp [hqa, h a hqa, ih]
      | false => cases hpa : p a <;> simp [hqa, hpa] <;> omega
theorem getD_set (listed : Array Bool) (i k : Nat) (d : Bool) (hi : i < listed.size) : (listed.setIfInBounds i true).getD k d = if k = i then true else listed.getD k d := by
  by_cases h : k = i
  · subst h; simp [Array.getD_eq_getD_getElem?, hi]
  · simp [Array.getD_eq_getD_getElem?, h, Array.getElem?_setIfInBounds_ne (Ne.symm h)]
theorem lin_spec (md : Region.Mode) (ops : Array Oper) (hb : topOk ops md = true) : ∀ (fuel t : Nat) (listed : Array Bool), listed.size = ops.size →
    (∀ i ∈ Region.linearise.go md ops fuel t listed [], i < ops.size ∧ listed.getD i true = false) ∧ (Region.linearise.go md ops fuel t listed []).Nodup ∧
    (∀ X i Y, Region.linearise.go md ops fuel t listed [] = X ++ i :: Y → ∀ o, ops[i]? = some o → ∀ e ∈ o.after, Region.binds md e = true → listed.getD e.on false = true ∨ e.on ∈ X) ∧
    (((List.range ops.size).filter fun i => !listed.getD i true).length ≤ fuel → ∀ i, i < ops.size → listed.getD i true = false → i ∈ Region.linearise.go md ops fuel t listed [])
  | 0, t, listed, hsz => by
    refine ⟨by simp [Region.linearise.go], by simp [Region.linearise.go], fun X i Y h => by simp [Region.linearise.go] at h, fun h i hi hl => ?_⟩
    have : i ∈ (List.range ops.size).filter fun i => !listed.getD i true := List.mem_filter.2 ⟨List.mem_range.2 hi, by rw [hl]; rfl⟩
    rw [List.eq_nil_of_length_eq_zero (Nat.le_zero.1 h)] at this
    cases this
  | fuel + 1, t, listed, hsz => by
    have hgo : Region.linearise.go md ops (fuel + 1) t listed [] = match (Region.ready md ops listed)[t % (Region.ready md ops listed).length]? with
      | some i => i :: Region.linearise.go md ops fuel (t / (Region.ready md ops listed).length) (listed.setIfInBounds i true) []
      | none => [] := by
      simp only [Region.linearise.go]
      change (match (Region.ready md ops listed)[t % (Region.ready md ops listed).length]? with
        | some i => Region.linearise.go md ops fuel (t / (Region.ready md ops listed).length) (listed.setIfInBounds i true) [i]
        | none => [].reverse) = _
      split
      · rw [linearise_go_acc]; rfl
      · rfl
    rw [hgo]
    cases hi : (Region.ready md ops listed)[t % (Region.ready md ops listed).length]? with
    | none =>
      simp only
      have hnil : Region.ready md ops listed = [] := by
        cases hr : Region.ready md ops listed with
        | nil => rfl
        | cons x xs =>
          rw [hr] at hi
          have hlt : t % (x :: xs).length < (x :: xs).length := Nat.mod_lt _ (by simp)
          rw [List.getElem?_eq_none_iff] at hi
          omega
      refine ⟨by simp, by simp, fun X i Y h => by simp at h, fun _ i hi hl => ?_⟩
      exfalso
      simp only [topOk, Bool.and_eq_true] at hb
      obtain ⟨k, hk1, hk2, hk3⟩ := top_least hsz _ [] hb.1 (by simp) ⟨i, by simpa using List.all_eq_true.1 hb.2 i (by simp [hi]), hl⟩
      have : k ∈ Region.ready md ops listed := by
        simp only [Region.ready, List.mem_filter, List.mem_range, Bool.and_eq_true, Bool.not_eq_true']
        refine ⟨hk1, hk2, ?_⟩
        have hk' : ops[k]? = some ops[k] := Array.getElem?_eq_getElem hk1
        simp only [hk', Option.map_some, Option.getD_some]
        rw [Array.all_eq_true']
        intro e he
        cases hbd : Region.binds md e with
        | false => rfl
        | true => rw [hk3 _ hk' e he hbd]; rfl
      rw [hnil] at this
      cases this
    | some i =>
      simp only
      have hrd := List.mem_of_getElem? hi
      simp only [Region.ready, List.mem_filter, List.mem_range, Bool.and_eq_true, Bool.not_eq_true'] at hrd
      obtain ⟨hin, hil, hia⟩ := hrd
      obtain ⟨h1, h2, h3, h4⟩ := lin_spec md ops hb fuel (t / (Region.ready md ops listed).length) (listed.setIfInBounds i true) (by simpa using hsz)
      have hg := fun k d => getD_set listed i k d (by omega)
      refine ⟨fun k hk => ?_, ?_, ?_, ?_⟩
      · rcases List.mem_cons.1 hk with rfl | hk
        · exact ⟨hin, hil⟩
        · obtain ⟨g1, g2⟩ := h1 k hk
          rw [hg] at g2
          split at g2
          · cases g2
          · exact ⟨g1, g2⟩
      · refine List.nodup_cons.2 ⟨fun hm => ?_, h2⟩
        have := (h1 i hm).2
        rw [hg] at this; simp at this
      · intro X k Y hX o ho e he hbd
        cases X with
        | nil =>
          simp only [List.nil_append, List.cons.injEq] at hX
          obtain ⟨rfl, _⟩ := hX
          rw [ho] at hia
          simp only [Option.map_some, Option.getD_some] at hia
          have := Array.all_eq_true'.1 hia e he
          simp only [hbd, Bool.not_true, Bool.false_or] at this
          exact .inl this
        | cons x X =>
          simp only [List.cons_append, List.cons.injEq] at hX
          obtain ⟨rfl, hX⟩ := hX
          rcases h3 X k Y hX o ho e he hbd with h | h
          · rw [hg] at h
            split at h
            · rename_i c; exact .inr (by simp [c])
            · exact .inl h
          · exact .inr (by simp [h])
      · intro hle k hk hkl
        by_cases c : k = i
        · simp [c]
        · refine List.mem_cons_of_mem _ (h4 ?_ k hk (by rw [hg, if_neg c]; exact hkl))
          have := filt_lt (p := fun k => !listed.getD k true) (q := fun k => !(listed.setIfInBounds i true).getD k true) (fun k hq => by
            simp only [hg] at hq
            split at hq
            · simp at hq
            · exact hq) (x := i) (by simp [hil]) (by simp [hg]) (List.range ops.size) (by simp [hin])
          omega
theorem lin_ord (md : Region.Mode) (ops : Array Oper) (hb : backOk ops = true) (htop : topOk ops md = true) (t : Nat) : Ord (befs (edges ops) []) ops.size (Region.linearise md ops t) := by
  obtain ⟨h1, h2, h3, h4⟩ := lin_spec md ops htop ops.size t (Array.replicate ops.size false) (by simp)
  have hrep : ∀ i, i < ops.size → (Array.replicate ops.size false).getD i true = false := by
    intro i hi; simp [Array.getD, hi]
  have hbk : ∀ (m : Nat) (e : List Nat), (edges ops)[m]? = some e → ∀ k ∈ e, k < ([] : List Nat).length + m := by
    intro m e hm k hk
    simp only [edges, List.getElem?_map, Array.getElem?_toList, Option.map_eq_some_iff] at hm
    obtain ⟨o, ho, rfl⟩ := hm
    simp only [List.mem_map, List.mem_filter, Array.mem_toList_iff] at hk
    obtain ⟨e, ⟨he, hbd⟩, rfl⟩ := hk
    have hm : m < ops.size := (Array.getElem?_eq_some_iff.1 ho).1
    have := List.all_eq_true.1 hb m (by simp [hm])
    rw [ho] at this
    have := List.all_eq_true.1 this e (by simpa using he)
    simp only [hbd, Bool.not_true, Bool.false_or, decide_eq_true_eq] at this
    simpa using this
  have hstep : ∀ i j, ((befs (edges ops) []).getD i 0).testBit j = true → ∃ o, ops[i]? = some o ∧ ∃ e ∈ o.after, Region.binds .any e = true ∧ e.on < i ∧ (j = e.on ∨ ((befs (edges ops) []).getD e.on 0).testBit j = true) := by
    intro i j h
    obtain ⟨k, hk, h'⟩ := befs_bit (edges ops) [] i j (Nat.zero_le _) h hbk
    simp only [List.length_nil, Nat.sub_zero] at hk
    have hlt : ∃ es, (edges ops)[i]? = some es ∧ k ∈ es := by
      cases he : (edges ops)[i]? with
      | none => simp [List.getD, he] at hk
      | some es => exact ⟨es, rfl, by simpa [List.getD, he] using hk⟩
    obtain ⟨es, hes, hk⟩ := hlt
    have hki := hbk i es hes k hk
    simp only [edges, List.getElem?_map, Array.getElem?_toList, Option.map_eq_some_iff] at hes
    obtain ⟨o, ho, rfl⟩ := hes
    simp only [List.mem_map, List.mem_filter, Array.mem_toList_iff] at hk
    obtain ⟨e, ⟨he, hbd⟩, rfl⟩ := hk
    exact ⟨o, ho, e, he, hbd, by simpa using hki, h'⟩
  refine ⟨h2, fun i => ⟨fun h => (h1 i h).1, fun h => h4 (by have := List.length_filter_le (fun i => !(Array.replicate ops.size false).getD i true) (List.range ops.size); simpa using this) i h (hrep i h)⟩, ?_, ?_⟩
  · intro X i
    induction i using Nat.strongRecOn generalizing X with
    | _ i ih =>
      intro Y hX j hj
      obtain ⟨o, ho, e, he, hbd, hlt, h⟩ := hstep i j hj
      have hmd : Region.binds md e = true := by
        unfold Region.binds at hbd ⊢
        cases hg : e.ground <;> rw [hg] at hbd <;> first | rfl | (simp at hbd)
      have hin : e.on ∈ X := by
        rcases h3 X i Y hX o ho e he hmd with q | q
        · exfalso
          rw [Array.getD_eq_getD_getElem?, Array.getElem?_replicate] at q
          split at q <;> simp at q
        · exact q
      rcases h with rfl | h
      · exact hin
      · obtain ⟨X1, X2, rfl⟩ := List.append_of_mem hin
        have := ih e.on hlt X1 (X2 ++ i :: Y) (by rw [hX]; simp) j h
        simp [this]
  · intro i
    induction i using Nat.strongRecOn with
    | _ i ih =>
      intro j hj
      obtain ⟨o, ho, e, he, hbd, hlt, h⟩ := hstep i j hj
      rcases h with rfl | h
      · exact hlt
      · exact Nat.lt_trans (ih e.on hlt j h) hlt
def drawOk (ops : Array Oper) (l : List PG) : Bool := (backOk ops && topOk ops .any && topOk ops .text && topOk ops .gc) && (unord (befs (edges ops) [])).all fun p => slotOk (l.getD p.1 default) (l.getD p.2 default)
def dyn (ops : Array Oper) (l : List PG) : List (Nat × Nat) := (unord (befs (edges ops) [])).filter fun p => (l.getD p.1 default).writes || (l.getD p.2 default).writes
def chkQ (ps : List (Nat × Nat)) (K : Sl → Os → Prop) (tab : Tab) (sl : Sl) (os : Os) : Prop := chk ps tab = true ∧ K sl os
def runD (P : Program) (l : List PG) (ps : List (Nat × Nat)) (K : Sl → Os → Prop) (sl : Sl) (os : Os) : Prop := match ps with
  | [] => runG P l K sl os
  | p :: r => runF P l [] (chkQ (p :: r) K) sl os
theorem mem_unord {B : List Nat} {i j : Nat} (hi : i < B.length) (hj : j < i) (hb : (B.getD i 0).testBit j = false) : (j, i) ∈ unord B := by
  simp only [unord, List.mem_flatMap, List.mem_range, List.mem_filterMap]
  exact ⟨i, hi, j, hj, by rw [hb]; rfl⟩
theorem step1_quiet {P : Program} {g : PG} {sl : Sl} {os : Os} {v : AV} {u : Option (Nat × AO)} (h : step1 P g sl os v u) (hw : g.writes = false) : u = none := by
  cases g with
  | u o => obtain ⟨q, h1, _, _, rfl⟩ := h; exact stp_quiet h1 hw
  | g j w o =>
    obtain ⟨_, _, _, _, _, _, h1, h2⟩ := h
    rcases h2 with ⟨rfl, _, _, rfl⟩ | ⟨q, _, _, rfl⟩
    · rfl
    · exact absurd (stp_quiet h1 hw) q
  | uc d f xs => obtain ⟨_, _, _, rfl⟩ := h; rfl
  | uv d t xs => obtain ⟨_, _, _, _, _, _, rfl⟩ := h; rfl
  | gc j w d f xs => obtain ⟨_, _, _, _, _, _, _, _, rfl⟩ := h; rfl
theorem cGs_at {te : TE} {nt : Nat} {ops : Array Oper} : ∀ {l : List Oper} {pl : List PG}, cGs te nt ops l = some pl → pl.length = l.length ∧ ∀ (i : Nat) o, l[i]? = some o → ∃ g, pl[i]? = some g ∧ cG te nt ops o = some g
  | [], pl, h => by simp only [cGs, Option.some.injEq] at h; subst h; simp
  | o :: r, pl, h => by
    simp only [cGs] at h
    cases hg : cG te nt ops o with
    | none => simp [hg] at h
    | some g =>
      cases hr : cGs te nt ops r with
      | none => simp [hg, hr] at h
      | some l =>
        simp only [hg, hr, Option.some.injEq] at h
        subst h
        obtain ⟨h1, h2⟩ := cGs_at hr
        refine ⟨by simp [h1], fun i o' hi => ?_⟩
        cases i with
        | zero => simp at hi; subst hi; exact ⟨g, by simp, hg⟩
        | succ i => simpa using h2 i o' (by simpa using hi)
theorem cGs_of {te : TE} {nt : Nat} {ops : Array Oper} (f : Nat → Oper) (g : Nat → PG) : ∀ (σ : List Nat), (∀ i ∈ σ, cG te nt ops (f i) = some (g i)) → cGs te nt ops (σ.map f) = some (σ.map g)
  | [], _ => rfl
  | i :: r, h => by simp only [List.map_cons, cGs, h i (by simp), cGs_of f g r (fun j hj => h j (by simp [hj]))]
theorem R.ext {cx : Cx} {sl sl' : Sl} {os os' : Os} {a : Act} {w : World} (r : R cx sl os a w) (h1 : ∀ t, lget sl t = lget sl' t) (h2 : ∀ n, lget os n = lget os' n) : R cx sl' os' a w := by
  obtain ⟨h, e, rr⟩ := r
  exact ⟨h, e, ⟨rr.st.vis, fun n o hn => rr.st.obj n o (by rw [h2]; exact hn), fun n x hx => by obtain ⟨o, ho⟩ := rr.st.dom n x hx; exact ⟨o, by rw [← h2]; exact ho⟩, rr.st.sep, rr.st.excl, fun n o x hn hx hp => rr.st.lone n o x (by rw [h2]; exact hn) hx hp⟩, rr.fr,
    fun t x hx => rr.slots t x (by rw [h1]; exact hx), rr.size, rr.defers⟩
theorem wpOps_list {P : Program} {ops : Array Oper} {Q : Exit → Act → World → Prop} (f : Nat → Oper) : ∀ (σ : List Nat), (∀ i ∈ σ, ops[i]? = some (f i)) → wpOps P ops Q σ = wpList P ops Q (σ.map f)
  | [], _ => by funext a w; rfl
  | i :: r, h => by
    funext a w
    simp only [wpOps, List.map_cons, wpList, h i (by simp), wpOps_list f r (fun j hj => h j (by simp [hj]))]
theorem runD_tr {P : Program} {ops : Array Oper} {l : List PG} {K : Sl → Os → Prop} {sl : Sl} {os : Os} (hn : l.length = ops.size) (hok : drawOk ops l = true) (h : runD P l (dyn ops l) K sl os) :
    ∃ rows, Tr P l rows sl os ∧ K (apS sl rows) (apO os rows) ∧ ∀ i j, j < i → i < ops.size → ((befs (edges ops) []).getD i 0).testBit j = false →
      slotOk (l.getD j default) (l.getD i default) = true ∧ memOk ((tabOf l rows sl).getD j default) ((tabOf l rows sl).getD i default) = true := by
  have hBl : (befs (edges ops) []).length = ops.size := by rw [befs_len]; simp [edges]
  have hquiet : ∀ {rows : List Row}, Tr P l rows sl os → ∀ i, i < ops.size → (l.getD i default).writes = false → ((tabOf l rows sl).getD i default).2 = none := by
    intro rows ht i hi hw
    rw [tabOf_at ht.len i (by omega)]
    have := step1_quiet (ht.at i (by omega)).2 hw
    rw [this]; rfl
  have fin : ∀ {rows : List Row}, Tr P l rows sl os → (∀ p ∈ dyn ops l, memOk ((tabOf l rows sl).getD p.1 default) ((tabOf l rows sl).getD p.2 default) = true) → ∀ i j, j < i → i < ops.size → ((befs (edges ops) []).getD i 0).testBit j = false →
      slotOk (l.getD j default) (l.getD i default) = true ∧ memOk ((tabOf l rows sl).getD j default) ((tabOf l rows sl).getD i default) = true := by
    intro rows ht hd i j hji hi hb
    have hm := mem_unord (B := befs (edges ops) []) (by omega) hji hb
    simp only [drawOk, Bool.and_eq_true] at hok
    refine ⟨List.all_eq_true.1 hok.2 _ hm, ?_⟩
    cases hw : (l.getD j default).writes || (l.getD i default).writes with
    | true => exact hd (j, i) (List.mem_filter.2 ⟨hm, hw⟩)
    | false =>
      simp only [Bool.or_eq_false_iff] at hw
      simp only [memOk, hquiet ht j (by omega) hw.1, hquiet ht i hi hw.2, Bool.and_self]
  unfold runD at h
  split at h
  · rename_i hps
    obtain ⟨rows, ht, hk⟩ := (runG_tr l sl os).1 h
    exact ⟨rows, ht, hk, fin ht (by rw [hps]; simp)⟩
  · rename_i p r hps
    obtain ⟨rows, ht, hc, hk⟩ := runF_tr l [] sl os h
    refine ⟨rows, ht, hk, fin ht (fun q hq => ?_)⟩
    rw [hps] at hq
    exact List.all_eq_true.1 hc q hq
theorem draw_sound {P : Program} {te : TE} {cx : Cx} (hte : TEok P te) (ops : Array Oper) {Q : Exit → Act → World → Prop} {K : Sl → Os → Prop} (hK : ∀ sl os a w, K sl os → R cx sl os a w → Q .normal a w)
    (pl : List PG) (hc : cGs te cx.nt ops ops.toList = some pl) (hok : drawOk ops pl = true) {sl : Sl} {os : Os} {a : Act} {w : World} (hr : runD P pl (dyn ops pl) K sl os) (hR : R cx sl os a w) {id : Nat} :
    (Code.region id ops true).wp P Q a w := by
  refine wp_region_draw fun t => ?_
  obtain ⟨hl, hat⟩ := cGs_at hc
  have hl : pl.length = ops.size := by simpa using hl
  obtain ⟨rows, ht, hk, hs⟩ := runD_tr hl hok hr
  have hord : ∃ σ, Region.schedule (P.follows .mixedOrders) ops t = σ ∧ Ord (befs (edges ops) []) ops.size σ := by
    refine ⟨_, rfl, ?_⟩
    simp only [drawOk, Bool.and_eq_true] at hok
    unfold Region.schedule
    split
    · exact lin_ord _ ops hok.1.1.1.1 hok.1.1.1.2 _
    · refine lin_ord _ ops hok.1.1.1.1 ?_ _
      split
      · exact hok.1.1.2
      · exact hok.1.2
  obtain ⟨σ, hσ, o⟩ := hord
  rw [hσ]
  obtain ⟨p1, p2, p3⟩ := ht.perm o hl hs
  have hget : ∀ i ∈ σ, ops[i]? = some ((fun i => ops.toList.getD i default) i) := by
    intro i hi
    have := (o.all i).1 hi
    simp [List.getD, this]
  rw [wpOps_list _ σ hget]
  refine region_sound hte ops (K := fun sl' os' => (∀ t, lget sl' t = lget (apS sl rows) t) ∧ ∀ m, lget os' m = lget (apO os rows) m) (fun sl' os' a w hk' hr' => hK _ _ a w hk (hr'.ext hk'.1 hk'.2)) _ (σ.map fun i => pl.getD i default)
    (cGs_of _ _ σ (fun i hi => ?_)) sl os a _ ((runG_tr _ sl os).2 ⟨_, p1, p2, p3⟩) ?_
  · have := (o.all i).1 hi
    obtain ⟨g, hg, hcg⟩ := hat i ops[i] (by simp [this])
    simp only [List.getD, hg, Option.getD_some]
    simpa [this] using hcg
  · obtain ⟨h, e, rr⟩ := hR
    exact ⟨h, e, rr.grown ⟨rfl, rfl, rfl, Nat.le_refl _, fun _ _ _ => rfl⟩⟩
end Mq
