/- What the numbers of a statement make: prefixes, clauses, edges, networks. Part of a verified reader of code, common to this project's claims. -/
import Derived.Test.YtipekfhpcjcabaaDoorMqPl2
set_option linter.unusedVariables false
set_option linter.unusedSimpArgs false
namespace Mq
open Go
set_option linter.unusedVariables false
set_option linter.unusedSimpArgs false
structure Rule where
  to : Int
  wit : Int
  out : Int
  act : Int
  more : Int
  pref : Int
structure Wire where
  src : Int
  cost : Int
  exp : List Rule
  imp : List Rule
abbrev Rule.row (r : Rule) : List D := [.v (.int .u8 r.to), .v (.int .u8 r.wit), .v (.int .u8 r.out), .v (.int .u8 r.act), .v (.int .u8 r.more), .v (.int .u8 r.pref)]
abbrev Rule.box (r : Rule) : List AV := [.d (.v (.int .u8 r.to)), .d (.v (.int .u8 r.wit)), .d (.v (.int .u8 r.out)), .d (.v (.int .u8 r.act)), .d (.v (.int .u8 r.more)), .d (.v (.int .u8 r.pref))]
abbrev Wire.row (w : Wire) : List D := [.v (.int .u8 w.src), .v (.int .u8 w.cost), .sl 6 (w.exp.map Rule.row), .sl 6 (w.imp.map Rule.row)]
abbrev Wire.box (w : Wire) : List AV := [.d (.v (.int .u8 w.src)), .d (.v (.int .u8 w.cost)), .d (.sl 6 (w.exp.map Rule.row)), .d (.sl 6 (w.imp.map Rule.row))]
abbrev wsD (ws : List Wire) : List D := [.sl 4 (ws.map Wire.row)]
/-! layer 5: Make -/
def mkBits (n : Int) : Int := ([0, 8, 16, 24, 32, 9, 17, 30] : List Int).getD (n.tmod 8).toNat 0
theorem mk_row {n : Int} (h : 0 ≤ n) : ([[D.v (.int .i64 0)], [D.v (.int .i64 8)], [D.v (.int .i64 16)], [D.v (.int .i64 24)], [D.v (.int .i64 32)], [D.v (.int .i64 9)], [D.v (.int .i64 17)], [D.v (.int .i64 30)]] : List (List D)).getD (n.tmod 8).toNat [] = iD (mkBits n) ∧
    0 ≤ n.tmod 8 ∧ n.tmod 8 < 8 ∧ 0 ≤ mkBits n ∧ mkBits n ≤ 32 := by
  have h1 : n.tmod 8 = n % 8 := Int.tmod_eq_emod_of_nonneg h
  have h2 : 0 ≤ n % 8 ∧ n % 8 < 8 := ⟨Int.emod_nonneg _ (by decide), Int.emod_lt_of_pos _ (by decide)⟩
  unfold mkBits
  rw [h1]
  obtain ⟨m, hm⟩ := Int.eq_ofNat_of_zero_le h2.1
  rw [hm] at h2 ⊢
  have : m < 8 := by omega
  match m, this with
  | 0, _ => simp
  | 1, _ => simp
  | 2, _ => simp
  | 3, _ => simp
  | 4, _ => simp
  | 5, _ => simp
  | 6, _ => simp
  | 7, _ => simp
def mkStep (k a : Int) : Int := bitV .andNot .u32 a (IntKind.u32.wrap (1 * 2 ^ (min (IntKind.i64.wrap (31 - k)).toNat IntKind.u32.bits)))
def mkGo : Nat → Int → Int → Int
  | 0, _, a => a
  | f + 1, k, a => if k < 32 then mkGo f (k + 1) (mkStep k a) else a
def mkAddr0 (n : Int) : Int :=
  IntKind.u32.wrap (IntKind.u32.wrap (IntKind.u32.wrap (167772160 + IntKind.u32.wrap (IntKind.u32.wrap (IntKind.u8.wrap (n.tdiv 64)) * 2 ^ (min 16 IntKind.u32.bits))) +
    IntKind.u32.wrap (IntKind.u32.wrap ((IntKind.u8.wrap (n.tdiv 16)).tmod 4) * 2 ^ (min 8 IntKind.u32.bits))) + IntKind.u32.wrap ((IntKind.u8.wrap (n.tdiv 8)).tmod 2))
def mkAddr (n : Int) : Int := mkGo (32 - mkBits n).toNat (mkBits n) (mkAddr0 n)
theorem mkGo_step {k a : Int} (h : k < 32) : mkGo (32 - k).toNat k a = mkGo (32 - (k + 1)).toNat (k + 1) (mkStep k a) := by
  rw [show (32 - k).toNat = (32 - (k + 1)).toNat + 1 by omega, mkGo, if_pos h]
/-! layer 7: Rule.Clause, Clauses -/
def Rule.c0 (r : Rule) : Clause := ⟨r.to.tmod 3 == 0, 0, 0, r.wit.tmod 16, r.out.tmod 16, r.act.tmod 4 == 3, IntKind.u8.wrap (r.act.tdiv 16), IntKind.u8.wrap (r.more.tdiv 16), IntKind.i64.wrap (r.more.tmod 4), IntKind.i64.wrap r.pref⟩
def Rule.c1 (r : Rule) : Clause := { r.c0 with wit := if 100 < r.wit then 0 else r.c0.wit }
def Rule.c2 (r : Rule) : Clause := { r.c1 with out := if 60 < r.out then 0 else r.c1.out }
def Rule.c3 (r : Rule) : Clause := { r.c2 with pref := if r.pref < 200 then 0 else r.c2.pref }
def Rule.c4 (r : Rule) : Clause := { r.c3 with addr := if r.c3.any then 0 else mkAddr r.to, bits := if r.c3.any then 0 else mkBits r.to }
def clsGo : List Rule → Nat → List Clause → List Clause
  | [], _, out => out
  | r :: rs, i, out => clsGo rs (i + 1) (if i < 5 then out ++ [r.c4] else out)
def clausesL (rs : List Rule) : List Clause := clsGo rs 0 []
theorem clsGo_len : ∀ (rs : List Rule) (i : Nat) (out : List Clause), out.length ≤ 5 → (i < 5 → out.length ≤ i) → (clsGo rs i out).length ≤ 5
  | [], _, _, h, _ => h
  | r :: rs, i, out, h, h2 => by
    simp only [clsGo]
    refine clsGo_len rs _ _ ?_ ?_
    · split
      · rename_i hi; have := h2 hi; simp; omega
      · exact h
    · intro hi
      split
      · rename_i hj; have := h2 hj; simp; omega
      · omega
theorem clausesL_len (rs : List Rule) : (clausesL rs).length ≤ 5 := clsGo_len rs 0 [] (by simp) (by simp)
/-! layer 11: For -/
def Clause.free (c : Clause) : Clause := { c with any := true, addr := 0, bits := 0 }
def forGo (a b : Int) : List Clause → List Clause → List Clause
  | [], out => out
  | c :: r, out => if !c.any && !covers c.addr c.bits a b then forGo a b r out else if c.wit == 0 && c.out == 0 then out ++ [c.free] else forGo a b r (out ++ [c.free])
def forL (cs : List Clause) (a b : Int) : List Clause := forGo a b cs []
theorem forGo_len (a b : Int) : ∀ (cs out : List Clause), (forGo a b cs out).length ≤ out.length + cs.length
  | [], out => by simp [forGo]
  | c :: r, out => by
    simp only [forGo]
    split
    · have := forGo_len a b r out; simp; omega
    · split
      · simp
      · have := forGo_len a b r (out ++ [c.free]); simp at this ⊢; omega
theorem forL_len (cs : List Clause) (a b : Int) : (forL cs a b).length ≤ cs.length := by simpa [forL] using forGo_len a b cs []
/-! layer 12: Wire.Edge -/
def plainL (rs : List Rule) : List Clause := forL (clausesL rs) 167772160 32
theorem plainL_len (rs : List Rule) : (plainL rs).length ≤ 5 := Nat.le_trans (forL_len _ _ _) (clausesL_len rs)
def Wire.arc (w : Wire) : Arc := ⟨IntKind.i64.wrap w.src, IntKind.i64.wrap (1 + IntKind.i64.wrap (w.cost.tmod 3)), plainL w.exp, plainL w.imp⟩
/-! layer 15: Wires -/
def arcsGo : List Wire → Nat → List Arc → List Arc
  | [], _, out => out
  | w :: ws, i, out => arcsGo ws (i + 1) (if i < 5 then out ++ [w.arc] else out)
def wVia (st : List Int) (k : Nat) : Int := if k < st.length then IntKind.i64.wrap (st.getD k 0) else -1
def wArcs (ws : List (List Wire)) (k : Nat) : List Arc := if k < ws.length then arcsGo (ws.getD k []) 0 [] else []
def wiresGo (st : List Int) (ws : List (List Wire)) : List Bool → Nat → Net → Net
  | [], _, out => out
  | o :: r, k, out => if k = 8 then out else wiresGo st ws r (k + 1) ⟨out.origin ++ [o], out.static ++ [wVia st k], out.edges ++ [wArcs ws k]⟩
def wiresV (o : List Bool) (st : List Int) (ws : List (List Wire)) : Net := wiresGo st ws o 0 ⟨[], [], []⟩
theorem arcsGo_spec : ∀ (ws : List Wire) (i : Nat) (out : List Arc), out.length ≤ 5 → (i < 5 → out.length ≤ i) → (∀ e ∈ out, e.exp.length ≤ 5 ∧ e.imp.length ≤ 5) →
    (arcsGo ws i out).length ≤ 5 ∧ ∀ e ∈ arcsGo ws i out, e.exp.length ≤ 5 ∧ e.imp.length ≤ 5
  | [], _, _, h, _, h3 => ⟨h, h3⟩
  | w :: ws, i, out, h, h2, h3 => by
    simp only [arcsGo]
    refine arcsGo_spec ws _ _ ?_ ?_ ?_
    · split
      · rename_i hi; have := h2 hi; simp; omega
      · exact h
    · intro hi
      split
      · rename_i hj; have := h2 hj; simp; omega
      · omega
    · split
      · intro e he
        rcases List.mem_append.1 he with he | he
        · exact h3 e he
        · simp at he; subst he; exact ⟨plainL_len _, plainL_len _⟩
      · exact h3
theorem wArcs_spec (ws : List (List Wire)) (k : Nat) : (wArcs ws k).length ≤ 5 ∧ ∀ e ∈ wArcs ws k, e.exp.length ≤ 5 ∧ e.imp.length ≤ 5 := by
  unfold wArcs
  split
  · exact arcsGo_spec _ _ _ (by simp) (by simp) (by simp)
  · simp
structure Net.tiny (n : Net) : Prop where
  origin : n.origin.length ≤ 8
  static : n.static.length = n.origin.length
  edges : n.edges.length = n.origin.length
  row : ∀ es ∈ n.edges, es.length ≤ 5
  edge : ∀ es ∈ n.edges, ∀ e ∈ es, e.exp.length ≤ 5 ∧ e.imp.length ≤ 5
theorem wiresGo_spec (st : List Int) (ws : List (List Wire)) : ∀ (o : List Bool) (k : Nat) (out : Net), out.origin.length = k → k ≤ 8 → out.tiny → (wiresGo st ws o k out).tiny
  | [], _, _, _, _, h => h
  | b :: r, k, out, hk, h8, h => by
    simp only [wiresGo]
    split
    · exact h
    · refine wiresGo_spec st ws r (k + 1) _ (by simp [hk]) (by omega) ?_
      have := h.static
      have := h.edges
      obtain ⟨a1, a2⟩ := wArcs_spec ws k
      refine ⟨by simp; omega, by simp; omega, by simp; omega, fun es hes => ?_, fun es hes e he => ?_⟩
      · rcases List.mem_append.1 hes with q | q
        · exact h.row es q
        · simp at q; subst q; exact a1
      · rcases List.mem_append.1 hes with q | q
        · exact h.edge es q e he
        · simp at q; subst q; exact a2 e he
theorem wiresV_tiny (o : List Bool) (st : List Int) (ws : List (List Wire)) : (wiresV o st ws).tiny := wiresGo_spec st ws o 0 _ rfl (by decide) ⟨by simp, rfl, rfl, by simp, by simp⟩
theorem Net.tiny.small {n : Net} (h : n.tiny) : n.small := by
  have h1 := h.origin
  have h2 := h.static
  have h3 := h.edges
  exact ⟨by omega, by omega, by omega, fun es he => Nat.le_trans (h.row es he) (by decide), fun es he e hm => Nat.le_trans (h.edge es he e hm).1 (by decide), fun es he e hm => Nat.le_trans (h.edge es he e hm).2 (by decide)⟩
/-! the law StableMay's own reckoning -/
def lawE (N k st : Int) (es : List Arc) : List Arc → Nat → Bool → Bool → Bool × Bool
  | [], _, via, want => (via, want)
  | e :: r, i, via, want => lawE N k st es r (i + 1) (via || e.src == st)
      (if (es.take i).any (fun f => f.src == e.src) then false else if decide (e.src < 0) || decide (N ≤ e.src) || e.src == k then false else want)
def lawN (N : Int) : List (List Arc) → List Int → Int → Bool → Bool
  | es :: r, st :: sr, k, want => lawN N r sr (k + 1) ((lawE N k st es es 0 (decide (st < 0)) want).2 && (lawE N k st es es 0 (decide (st < 0)) want).1)
  | _, _, _, want => want
theorem lawE_false {N k st : Int} {es : List Arc} : ∀ (r : List Arc) (i : Nat) (via : Bool), (lawE N k st es r i via false).2 = false
  | [], _, _ => rfl
  | e :: r, i, via => by simp only [lawE]; split <;> (try split) <;> exact lawE_false r _ _
theorem lawE_eq {N k st : Int} {es : List Arc} : ∀ (r : List Arc) (i : Nat) (seen : List Int) (via : Bool), es.drop i = r → (∀ x, x ∈ seen ↔ ∃ f ∈ es.take i, f.src = x) →
    goE N k st r seen via = ((lawE N k st es r i via true).2 && (lawE N k st es r i via true).1)
  | [], _, _, _, _, _ => by simp [goE, lawE]
  | e :: r, i, seen, via, hd, hs => by
    have hlt : i < es.length := by
      by_cases h : i < es.length
      · exact h
      · rw [List.drop_eq_nil_of_le (by omega)] at hd; cases hd
    have hd2 := List.drop_eq_getElem_cons hlt
    rw [hd] at hd2
    injection hd2 with e1 e2
    have hany : (es.take i).any (fun f => f.src == e.src) = seen.elem e.src := by
      by_cases hm : e.src ∈ seen
      · obtain ⟨f, hf, hfs⟩ := (hs _).1 hm
        simp only [List.elem_eq_mem, hm, decide_true]
        exact List.any_eq_true.2 ⟨f, hf, by simp [hfs]⟩
      · simp only [List.elem_eq_mem, hm, decide_false]
        rw [List.any_eq_false]
        intro f hf hq
        exact hm ((hs _).2 ⟨f, hf, by simpa using hq⟩)
    simp only [goE, lawE, hany]
    by_cases hm : e.src ∈ seen
    · simp [hm, lawE_false]
    · simp only [List.elem_eq_mem, hm, decide_false, Bool.or_false, Bool.false_eq_true, if_false]
      split
      · simp [lawE_false]
      · refine lawE_eq r (i + 1) (sadd seen e.src) _ e2.symm (fun x => ?_)
        rw [mem_sadd, List.take_succ_eq_append_getElem hlt, ← e1, hs x]
        constructor
        · rintro (⟨f, hf, rfl⟩ | rfl)
          · exact ⟨f, by simp [hf], rfl⟩
          · exact ⟨e, by simp, rfl⟩
        · rintro ⟨f, hf, rfl⟩
          rcases List.mem_append.1 hf with q | q
          · exact .inl ⟨f, q, rfl⟩
          · simp at q; subst q; exact .inr rfl
theorem lawN_false {N : Int} : ∀ (E : List (List Arc)) (S : List Int) (k : Int), lawN N E S k false = false
  | [], _, _ => by simp [lawN]
  | _ :: _, [], _ => by simp [lawN]
  | es :: E, st :: S, k => by simp only [lawN, lawE_false, Bool.false_and]; exact lawN_false E S _
theorem lawN_eq {N : Int} : ∀ (E : List (List Arc)) (S : List Int) (k : Int), lawN N E S k true = goN N E S k
  | [], _, _ => by simp [lawN, goN]
  | _ :: _, [], _ => by simp [lawN, goN]
  | es :: E, st :: S, k => by
    simp only [lawN, goN]
    rw [← lawE_eq (N := N) (k := k) (st := st) (es := es) es 0 [] (decide (st < 0)) (by simp) (by simp)]
    cases goE N k st es [] (decide (st < 0)) with
    | true => simp [lawN_eq E S (k + 1)]
    | false => simp [lawN_false]
theorem Net.tiny.may {n : Net} (h : n.tiny) : n.may = lawN n.origin.length n.edges n.static 0 true := by
  have h1 := h.origin
  have h2 := h.static
  have h3 := h.edges
  rw [Net.may, if_neg (by omega), lawN_eq]
theorem may_longer {n : Net} {x : Int} (h : n.tiny) : (Net.may ⟨n.origin, x :: n.static, n.edges⟩) = false := by
  have h2 := h.static
  rw [Net.may, if_pos (by simp; omega)]
end Mq
