/- What an operation comes to, told. Part of a verified reader of code, common to this project's claims. -/
import Derived.Test.YtgkkaimcchlnaaaGreatDoorMqBase
import Derived.Test.YtgkkaimcchlnaaaGreatDoorMqEq
set_option linter.unusedVariables false
set_option linter.unusedSimpArgs false
namespace Mq
open Go Go.RowKit
/-- What is told of a type. -/
inductive TK where
  | int (k : IntKind) | bool | str | sl (e : Nat) | st (fs : List (Nat × Nat)) | arr (n e : Nat) | mp (k e : Nat) | iface | ptr (e : Nat) | oth
structure TI where
  size : Nat
  bytes : Nat
  agg : Bool
  zero : List AV
  kind : TK
  eq : Option (List LK)
abbrev TE := Nat → Option TI
def TK.fits : TypeDesc → TK → Prop
  | .int k, .int k' => k = k'
  | .bool, .bool => True
  | .string, .str => True
  | .slice e, .sl e' => e = e'
  | .struct fs, .st l => fs.toList.map (fun f => (f.offset, f.type)) = l
  | .array n e, .arr n' e' => n = n' ∧ e = e'
  | .map k e, .mp k' e' => k = k' ∧ e = e'
  | .interface _, .iface => True
  | .pointer e, .ptr e' => e = e'
  | _, .oth => True
  | _, _ => False
def TK.fitsB : TypeDesc → TK → Bool
  | .int k, .int k' => decide (k = k')
  | .bool, .bool => true
  | .string, .str => true
  | .slice e, .sl e' => e == e'
  | .struct fs, .st l => fs.toList.map (fun f => (f.offset, f.type)) == l
  | .array n e, .arr n' e' => n == n' && e == e'
  | .map k e, .mp k' e' => k == k' && e == e'
  | .interface _, .iface => true
  | .pointer e, .ptr e' => e == e'
  | _, .oth => true
  | _, _ => false
theorem TK.fits_of {d : TypeDesc} {k : TK} (h : TK.fitsB d k = true) : k.fits d := by
  cases d <;> cases k <;> simp_all [TK.fitsB, TK.fits]
def isAggD : TypeDesc → Bool
  | .struct _ | .array _ _ => true
  | _ => false
def noE : Env := fun _ => none
structure TIok (P : Program) (t : Nat) (i : TI) : Prop where
  info : ∃ q, P.info? t = some q ∧ q.size = i.size ∧ q.bytes = i.bytes ∧
    ∃ z, q.zero = some z ∧ z.cells.size = i.size ∧ i.zero.length = i.size ∧ (∀ (j : Nat) (a : AV), i.zero[j]? = some a → ∀ h, VRep h noE (z.cells.getD j undef) a) ∧
      (∀ j, j < z.cells.size → (z.cells.getD j undef).oneCell' = true) ∧ (if i.agg then z = .agg z.cells else z.oneCell' = true)
  und : ∃ d, P.underlying t = some d ∧ isAggD d = i.agg ∧ i.kind.fits d
  eqs : ∀ ks, i.eq = some ks → leafs P 8 t = some ks ∧ P.eqGuardType P.depth t = false ∧ i.agg = true
def TEok (P : Program) (te : TE) : Prop := ∀ t i, te t = some i → TIok P t i
inductive X where
  | t (n : Nat) | k (v : Value) | nl (s : Nat) | fn (f : Nat)
inductive PO where
  | mv (d : Nat) (x : X)
  | pick (d : Nat) (c a b : X)
  | fa (d off : Nat) (x : X)
  | ia (d s : Nat) (x i : X)
  | ld (d size : Nat) (agg : Bool) (x : X)
  | st (size : Nat) (x y : X)
  | bo (d : Nat) (op : BinOp) (x y : X)
  | no (d : Nat) (x : X)
  | len (d : Nat) (x : X)
  | al (d : Nat) (z : List AV)
  | bx (d : Nat) (x : X)
  | bld (d : Nat) (z : List AV) (l : List ((Nat × Nat) × X))
  | bsl (d e s : Nat) (l : List X)
  | bslF (d e s : Nat) (l : List X)
  | app (d e s bytes : Nat) (x y : X)
  | mks (d e s bytes : Nat) (z : List AV) (n : X)
  | ext (d : Nat) (x : X) (i : Nat)
  | cv (d : Nat) (k : IntKind) (x : X)
  | cvs (d : Nat) (x : X)
  | mki (d t : Nat) (x : X)
  | beq (d : Nat) (neq bl : Bool) (x y : X)
  | beqs (d : Nat) (neq : Bool) (ks : List LK) (x y : X)
  | mx (d : Nat) (mn : Bool) (x y : X)
  | mkm (d : Nat) (ka ea : Bool)
  | beqn (d : Nat) (neq : Bool) (x : X)
  | slc (d s : Nat) (x : X) (lo hi : Option X)
  | lkp (d : Nat) (ka ea : Bool) (ks : List LK) (z : List AV) (ok : Bool) (x k : X)
  | mup (ka ea : Bool) (ks : List LK) (size : Nat) (x k y : X)
  | mkf (d f : Nat) (xs : List X)
  | nck (d : Nat) (x : X)
  | iap (d n s : Nat) (x i : X)
  | idx (d n s : Nat) (agg : Bool) (x i : X)
  | bsn (d : Nat) (neq : Bool) (x : X)
  | mln (d : Nat) (ka ea : Bool) (x : X)
structure Res where
  val : AV
  upd : Option (Nat × AO)
  side : Prop
def PO.dst : PO → Option Nat
  | .mv d _ | .pick d _ _ _ | .fa d _ _ | .ia d _ _ _ | .ld d _ _ _ | .bo d _ _ _ | .no d _ | .len d _ | .al d _ | .bx d _ | .bld d _ _ | .bsl d _ _ _ | .bslF d _ _ _ | .app d _ _ _ _ _
  | .mks d _ _ _ _ _ | .ext d _ _ | .cv d _ _ | .cvs d _ | .mki d _ _ | .beq d _ _ _ _ | .beqs d _ _ _ _ | .mx d _ _ _ | .mkm d _ _ | .beqn d _ _ | .slc d _ _ _ _ | .lkp d _ _ _ _ _ _ _ | .mkf d _ _ | .nck d _ | .iap d _ _ _ _ | .idx d _ _ _ _ _ | .bsn d _ _ | .mln d _ _ _ => some d
  | .st _ _ _ | .mup _ _ _ _ _ _ _ => none
def evX (gs : Nat → Option AV) : X → AV
  | .t n => (gs n).getD .un
  | .k v => .d (.v v)
  | .nl s => .nl s
  | .fn f => .clo f []
/-- Behind what was made only under a test. -/
def strip : AV → Prop × AV
  | .gd l a => ((okL l ∧ (strip a).1), (strip a).2)
  | a => (True, a)
def evs (gs : Nat → Option AV) (x : X) : Prop × AV := strip (evX gs x)
def cells : AV → List AV
  | .ag l => l
  | a => [a]
def splice {α : Type} (l : List α) (off : Nat) : List α → List α
  | [] => l
  | x :: r => splice (l.set off x) (off + 1) r
def toD : AV → Option D
  | .d x => some x
  | .nl s => some (.sl s [])
  | _ => none
def toDs : List AV → Option (List D)
  | [] => some []
  | a :: r => match toD a, toDs r with
    | some d, some l => some (d :: l)
    | _, _ => none
/-- The bits of two numbers, put together. -/
def bitV (op : BinOp) (k : IntKind) (x y : Int) : Int :=
  let a := BitVec.ofInt k.bits x
  let b := BitVec.ofInt k.bits y
  match op with
  | .and => k.wrap (a &&& b).toNat
  | .or => k.wrap (a ||| b).toNat
  | .xor => k.wrap (a ^^^ b).toNat
  | .andNot => k.wrap (a &&& ~~~b).toNat
  | _ => 0
def binV (op : BinOp) : Value → Value → Option Value
  | .int k a, .int _ b => match op with
    | .add => some (.int k (k.wrap (a + b)))
    | .sub => some (.int k (k.wrap (a - b)))
    | .mul => some (.int k (k.wrap (a * b)))
    | .lss => some (.bool (decide (a < b)))
    | .gtr => some (.bool (decide (b < a)))
    | .leq => some (.bool (decide (a ≤ b)))
    | .geq => some (.bool (decide (b ≤ a)))
    | .and => some (.int k (bitV .and k a b))
    | .or => some (.int k (bitV .or k a b))
    | .xor => some (.int k (bitV .xor k a b))
    | .andNot => some (.int k (bitV .andNot k a b))
    | .shl => some (.int k (k.wrap (a * 2 ^ (min b.toNat k.bits))))
    | .shr => some (.int k (a.fdiv (2 ^ (min b.toNat k.bits))))
    | .quo => some (.int k (k.wrap (a.tdiv b)))
    | .rem => some (.int k (a.tmod b))
    | _ => none
  | .string a, .string b => match op with
    | .add => some (.string (a ++ b))
    | _ => none
  | _, _ => none
def sameK (op : BinOp) : Value → Value → Prop
  | .int k _, .int k' b => match op with
    | .shl => 0 ≤ b
    | .shr => 0 ≤ b
    | .quo => k = k' ∧ b ≠ 0
    | .rem => k = k' ∧ b ≠ 0
    | _ => k = k'
  | .string a, .string b => a.size + b.size ≤ maxLen
  | _, _ => True
def toVals : List AV → Option (List Value)
  | [] => some []
  | .d (.v x) :: r => match toVals r with
    | some l => some (x :: l)
    | none => none
  | _ => none
/-- A struct's cells, part by part. -/
def bldF (gs : Nat → Option AV) : List AV → List ((Nat × Nat) × X) → List AV
  | z, [] => z
  | z, ((off, _), x) :: r => bldF gs (splice z off (cells (evs gs x).2)) r
def bldS (gs : Nat → Option AV) (n : Nat) : List ((Nat × Nat) × X) → Prop
  | [] => True
  | ((off, size), x) :: r => ((evs gs x).1 ∧ (cells (evs gs x).2).length = size ∧ off + size ≤ n ∧ (cells (evs gs x).2).all AV.cell = true) ∧ bldS gs n r
def okR (v : AV) (p : Prop) : Option Res := some ⟨v, none, p⟩
def pickV (t : Bool) : AV → AV → AV
  | .d (.v (.bool x)), .d (.v (.bool y)) => .d (.v (.bool (if t then x else y)))
  | x, y => if t then x else y
/-- The elements of a row that is read. -/
def elemsOf (go : Nat → Option AO) (s : Nat) : AV → Option (List (List D) × Prop)
  | .d (.sl s' l) => some (l, s' = s)
  | .nl _ => some ([], True)
  | .own n g => match go n with
    | some (.row _ s' g' l) => some (l, g = g' ∧ s' = s)
    | _ => none
  | _ => none
/-- The elements of a row that is built. -/
def bslD (gs : Nat → Option AV) : List X → Option (List (List D))
  | [] => some []
  | x :: r => match toDs (cells (evs gs x).2), bslD gs r with
    | some d, some l => some (d :: l)
    | _, _ => none
def bslS (gs : Nat → Option AV) (s : Nat) : List X → Prop
  | [] => True
  | x :: r => (evs gs x).1 ∧ (cells (evs gs x).2).length = s ∧ bslS gs s r
/-! A map's entries. -/
abbrev ML := List (List Value × List D)
/-- Is a key as long as it should be? -/
def lenB : List LK → List Value → Bool
  | [], [] => true
  | _ :: a, _ :: b => lenB a b
  | _, _ => false
theorem lenB_len : ∀ {ks : List LK} {k : List Value}, lenB ks k = true → k.length = ks.length
  | [], [], _ => rfl
  | _ :: a, _ :: b, h => by simp only [lenB] at h; simp [lenB_len h]
  | [], _ :: _, h => by simp [lenB] at h
  | _ :: _, [], h => by simp [lenB] at h
def mcmp (ks : List LK) (k : List Value) : ML → Bool
  | [] => true
  | (k', _) :: r => match eqLs ks k k' with
    | some true => true
    | some false => mcmp ks k r
    | none => false
def mget (ks : List LK) (k : List Value) : ML → Option (List D)
  | [] => none
  | (k', v) :: r => if eqLs ks k k' = some true then some v else mget ks k r
def mput (ks : List LK) (k : List Value) (v : List D) : ML → ML
  | [] => [(k, v)]
  | (k', v') :: r => if eqLs ks k k' = some true then (k, v) :: r else (k', v') :: mput ks k v r
def mentries (go : Nat → Option AO) (ka ea : Bool) : AV → Option (Prop × ML)
  | .d (.mp ka' ea' l) => some (ka' = ka ∧ ea' = ea, l)
  | .mp n => match go n with
    | some (.map ka' ea' l) => some (ka' = ka ∧ ea' = ea, l)
    | _ => none
  | _ => none
def isAgV : AV → Bool
  | .ag _ => true
  | _ => false
def asA (agg : Bool) (l : List D) : AV := if agg then .ag (l.map .d) else .d (l.headD (.v undef))
def TI.lks (i : TI) : Option (List LK) := if i.agg then i.eq else match i.kind with
  | .int _ => some [.i]
  | .bool => some [.b]
  | .str => some [.s]
  | _ => none
/-- A bound of a part of a row. -/
def bndV (gs : Nat → Option AV) (dflt : Nat) : Option X → Option (Prop × Nat)
  | none => some (True, dflt)
  | some x => match evs gs x with
    | (p, .d (.v (.int _ i))) => some (p ∧ 0 ≤ i, i.toNat)
    | _ => none
def avL (gs : Nat → Option AV) : List X → List AV
  | [] => []
  | x :: r => (evs gs x).2 :: avL gs r
def avS (gs : Nat → Option AV) : List X → Prop
  | [] => True
  | x :: r => (evs gs x).1 ∧ avS gs r
/-- What an operation (no call) comes to. -/
def stp (gs : Nat → Option AV) (go : Nat → Option AO) : PO → Option Res
  | .mv _ x => okR (evX gs x) True
  | .mkf _ f xs => okR (.clo f (avL gs xs)) (avS gs xs)
  | .nck _ x => match evs gs x with
    | (p, .ptr n o) => okR (.ptr n o) p
    | (p, .d (.cp l o)) => okR (.d (.cp l o)) p
    | _ => none
  | .iap _ n s x i => match evs gs x, evs gs i with
    | (p, .ptr m o), (q, .d (.v (.int _ i))) => okR (.ptr m (o + i.toNat * s)) (p ∧ q ∧ 0 ≤ i ∧ i < n)
    | _, _ => none
  | .idx _ n s agg x i => match evs gs x, evs gs i with
    | (p, .ag l), (q, .d (.v (.int _ i))) => okR (if agg then .ag ((l.drop (i.toNat * s)).take s) else l.getD (i.toNat * s) .un) (p ∧ q ∧ 0 ≤ i ∧ i < n ∧ n * s = l.length ∧ 0 < s)
    | _, _ => none
  | .fa _ off x => match evs gs x with
    | (p, .ptr n o) => okR (.ptr n (o + off)) p
    | (p, .rptr n g s i o) => match go n with
      | some (.row _ _ g' _) => okR (.rptr n g s i (o + off)) (p ∧ g = g')
      | _ => none
    | (p, .d (.cp l o)) => okR (.d (.cp l (o + off))) p
    | _ => none
  | .ia _ s x i => match evs gs x, evs gs i with
    | (p, .d (.sl s' l)), (q, .d (.v (.int _ i))) => okR (.d (.cp (l.getD i.toNat []) 0)) (p ∧ q ∧ s' = s ∧ 0 ≤ i ∧ i < l.length)
    | (p, .own n g), (q, .d (.v (.int _ i))) => match go n with
      | some (.row _ s' g' l) => okR (.rptr n g s i.toNat 0) (p ∧ q ∧ g = g' ∧ s' = s ∧ 0 ≤ i ∧ i < l.length)
      | some (.rov _ g' l _ _) => okR (.rptr n g s i.toNat 0) (p ∧ q ∧ g = g' ∧ 1 = s ∧ 0 ≤ i ∧ i < l.length)
      | some (.pol _ _ _ g' l _) => okR (.rptr n g s i.toNat 0) (p ∧ q ∧ g = g' ∧ 1 = s ∧ 0 ≤ i ∧ i < l.length)
      | _ => none
    | _, _ => none
  | .ld _ size agg x => match evs gs x with
    | (p, .ptr n off) => match go n with
      | some (.box l) => okR (if agg then .ag ((l.drop off).take size) else l.getD off .un) (p ∧ off + size ≤ l.length)
      | _ => none
    | (p, .rptr n g s i off) => match go n with
      | some (.row _ s' g' l) => okR (if agg then .ag ((((l.getD i []).drop off).take size).map .d) else .d ((l.getD i []).getD off (.v undef))) (p ∧ g = g' ∧ s' = s ∧ i < l.length ∧ off + size ≤ s)
      | some (.rov _ g' _ j b) => okR b (p ∧ g = g' ∧ 1 = s ∧ i = j ∧ off = 0 ∧ size = 1 ∧ agg = false)
      | some (.pol _ _ _ g' l (some (j, b))) => okR b (p ∧ g = g' ∧ 1 = s ∧ i = j ∧ i < l.length ∧ off = 0 ∧ size = 1 ∧ agg = false)
      | _ => none
    | (p, .d (.cp l off)) => okR (if agg then .ag (((l.drop off).take size).map .d) else .d (l.getD off (.v undef))) (p ∧ off + size ≤ l.length)
    | _ => none
  | .st size x y => match evs gs x, evs gs y with
    | (p, .ptr n off), (q, y) => match go n with
      | some (.box l) => some ⟨.un, some (n, .box (splice l off (cells y))), p ∧ q ∧ (cells y).length = size ∧ off + size ≤ l.length ∧ (cells y).all AV.cell = true⟩
      | _ => none
    | (p, .rptr n g s i off), (q, y) => match go n, toDs (cells y) with
      | some (.row e s' g' l), some ds => some ⟨.un, some (n, .row e s' g' (l.set i (splice (l.getD i []) off ds))), p ∧ q ∧ g = g' ∧ s' = s ∧ ds.length = size ∧ i < l.length ∧ off + size ≤ s⟩
      | some (.row e s' g' l), none => some ⟨.un, some (n, .rov e g' l i y), p ∧ q ∧ g = g' ∧ s' = s ∧ s = 1 ∧ i < l.length ∧ off = 0 ∧ size = 1 ∧ y.cell = true⟩
      | some (.rov e g' l j _), _ => some ⟨.un, some (n, .rov e g' l j y), p ∧ q ∧ g = g' ∧ 1 = s ∧ i = j ∧ off = 0 ∧ size = 1 ∧ y.cell = true⟩
      | some (.pol e e2 s2 g' l (some (j, _))), _ => some ⟨.un, some (n, .pol e e2 s2 g' l (some (j, y))), p ∧ q ∧ g = g' ∧ 1 = s ∧ i = j ∧ i < l.length ∧ off = 0 ∧ size = 1 ∧ y.cell = true⟩
      | _, _ => none
    | _, _ => none
  | .bo _ op x y => match evs gs x, evs gs y with
    | (p, .d (.v a)), (q, .d (.v b)) => (binV op a b).bind fun v => okR (.d (.v v)) (p ∧ q ∧ sameK op a b)
    | _, _ => none
  | .beq _ neq bl x y => match evs gs x, evs gs y with
    | (p, .d (.v (.int k a))), (q, .d (.v (.int k' b))) => okR (.d (.v (.bool ((a == b) != neq)))) (p ∧ q ∧ k = k')
    | (p, .d (.v (.bool a))), (q, .d (.v (.bool b))) => okR (.d (.v (.bool ((a == b) != neq)))) (p ∧ q ∧ bl = true)
    | (p, .d (.v (.string a))), (q, .d (.v (.string b))) => okR (.d (.v (.bool (decide (a = b) != neq)))) (p ∧ q)
    | _, _ => none
  | .mx _ mn x y => match evs gs x, evs gs y with
    | (p, .d (.v (.int k a))), (q, .d (.v (.int _ b))) => okR (.d (.v (.int k (if mn then (if b < a then b else a) else (if b > a then b else a))))) (p ∧ q)
    | _, _ => none
  | .pick _ c a b => match evs gs c with
    | (p, .d (.v (.bool t))) => okR (pickV t (evs gs a).2 (evs gs b).2) (p ∧ (t = true → (evs gs a).1) ∧ (t = false → (evs gs b).1))
    | _ => none
  | .beqs _ neq ks x y => match evs gs x, evs gs y with
    | (p, .ag la), (q, .ag lb) => match toVals la, toVals lb with
      | some us, some vs => (eqLs ks us vs).bind fun r => okR (.d (.v (.bool (r != neq)))) (p ∧ q)
      | _, _ => none
    | _, _ => none
  | .bld _ z l => okR (.ag (bldF gs z l)) (bldS gs z.length l)
  | .ext _ x i => match evs gs x with
    | (p, .tp l) => match l[i]? with
      | some v => okR v p
      | none => none
    | _ => none
  | .cv _ k x => match evs gs x with
    | (p, .d (.v (.int _ n))) => okR (.d (.v (.int k (k.wrap n)))) p
    | _ => none
  | .cvs _ x => match evs gs x with
    | (p, .d (.v (.int _ n))) => okR (.d (.v (.string (Utf8.encode n)))) p
    | _ => none
  | .mki _ t x => match evs gs x with
    | (p, .d (.v v)) => okR (.d (.v (.iface t v))) p
    | _ => none
  | .no _ x => match evs gs x with
    | (p, .d (.v (.bool t))) => okR (.d (.v (.bool !t))) p
    | _ => none
  | .len _ x => match evs gs x with
    | (p, .d (.sl _ l)) => okR (.d (.v (.int .i64 l.length))) p
    | (p, .nl _) => okR (.d (.v (.int .i64 0))) p
    | (p, .own n g) => match go n with
      | some (.row _ _ g' l) => okR (.d (.v (.int .i64 l.length))) (p ∧ g = g')
      | some (.rov _ g' l _ _) => okR (.d (.v (.int .i64 l.length))) (p ∧ g = g')
      | some (.pol _ _ _ g' l _) => okR (.d (.v (.int .i64 l.length))) (p ∧ g = g')
      | _ => none
    | _ => none
  | .al d z => some ⟨.ptr d 0, some (d, .box z), (go d).isNone = true⟩
  | .bx d x => match evs gs x with
    | (p, a) => some ⟨.ptr d 0, some (d, .box (cells a)), p ∧ (go d).isNone = true ∧ (cells a).all AV.cell = true⟩
  | .bsl d el s l => match bslD gs l with
    | some ds => some ⟨.own d 0, some (d, .row el s 0 ds), bslS gs s l ∧ (go d).isNone = true⟩
    | none => none
  | .bslF _ _ s l => match bslD gs l with
    | some ds => okR (.d (.sl s ds)) (bslS gs s l)
    | none => none
  | .mks d el s bytes z n => match evs gs n, toDs z with
    | (p, .d (.v (.int _ m))), some zs => some ⟨.own d 0, some (d, .row el s 0 (List.replicate m.toNat zs)), p ∧ 0 ≤ m ∧ (go d).isNone = true ∧ bytes * m.toNat ≤ 281474976710656 ∧ m.toNat ≤ maxLen⟩
    | _, _ => none
  | .beqn _ neq x => match evs gs x with
    | (p, .d (.v .nilIface)) => okR (.d (.v (.bool (true != neq)))) p
    | (p, .d (.v (.iface _ _))) => okR (.d (.v (.bool (false != neq)))) p
    | _ => none
  | .bsn _ neq x => match evs gs x with
    | (p, .nl _) => okR (.d (.v (.bool (true != neq)))) p
    | (p, .d (.sl _ (_ :: _))) => okR (.d (.v (.bool (false != neq)))) p
    | _ => none
  | .slc _ s x lo hi => match evs gs x with
    | (p, .d (.sl s' l)) => match bndV gs 0 lo, bndV gs l.length hi with
      | some (q, a), some (r, b) => okR (.d (.sl s ((l.take b).drop a))) (p ∧ q ∧ r ∧ s' = s ∧ 0 < s ∧ a ≤ b ∧ b ≤ l.length)
      | _, _ => none
    | (p, .d (.v (.string t))) => match bndV gs 0 lo, bndV gs t.size hi with
      | some (q, a), some (r, b) => okR (.d (.v (.string (t.extract a b)))) (p ∧ q ∧ r ∧ s = 0 ∧ a ≤ b ∧ b ≤ t.size)
      | _, _ => none
    | _ => none
  | .mln _ ka ea x => match mentries go ka ea (evs gs x).2 with
    | some (q, l) => okR (.d (.v (.int .i64 l.length))) ((evs gs x).1 ∧ q)
    | none => none
  | .mkm d ka ea => some ⟨.mp d, some (d, .map ka ea []), (go d).isNone = true⟩
  | .lkp _ ka ea ks z ok x k => match mentries go ka ea (evs gs x).2, toVals (cells (evs gs k).2), toDs z with
    | some (q, l), some kc, some zd => okR (if ok then .tp [asA ea ((mget ks kc l).getD zd), .d (.v (.bool (mget ks kc l).isSome))] else asA ea ((mget ks kc l).getD zd))
        ((evs gs x).1 ∧ (evs gs k).1 ∧ q ∧ isAgV (evs gs k).2 = ka ∧ lenB ks kc = true ∧ mcmp ks kc l = true)
    | _, _, _ => none
  | .mup ka ea ks size x k y => match (evs gs x).2, toVals (cells (evs gs k).2), toDs (cells (evs gs y).2) with
    | .mp n, some kc, some yd => match go n with
      | some (.map ka' ea' l) => some ⟨.un, some (n, .map ka ea (mput ks kc yd l)), (evs gs x).1 ∧ (evs gs k).1 ∧ (evs gs y).1 ∧ ka' = ka ∧ ea' = ea ∧ isAgV (evs gs k).2 = ka ∧ isAgV (evs gs y).2 = ea ∧ yd.length = size ∧ lenB ks kc = true ∧ mcmp ks kc l = true⟩
      | _ => none
    | _, _, _ => none
  | .app d el s bytes x y => match elemsOf go s (evs gs y).2 with
    | some (ys, q) => match evs gs x with
      | (p, .nl _) => some ⟨.own d 0, some (d, .row el s 0 ys), p ∧ (evs gs y).1 ∧ q ∧ (go d).isNone = true ∧ ys.length * bytes ≤ 140737488355328 ∧ ys.length ≤ maxLen⟩
      | (p, .own n g) => match go n with
        | some (.row e' s' g' l) => some ⟨.own n (g + 1), some (n, .row el s (g + 1) (l ++ ys)), p ∧ (evs gs y).1 ∧ q ∧ g = g' ∧ s' = s ∧ e' = el ∧ (l.length + ys.length) * bytes ≤ 140737488355328 ∧ l.length + ys.length ≤ maxLen⟩
        | some (.rov e' g' l i b) => some ⟨.own n (g + 1), some (n, .rov el (g + 1) (l ++ ys) i b), p ∧ (evs gs y).1 ∧ q ∧ g = g' ∧ 1 = s ∧ e' = el ∧ (l.length + ys.length) * bytes ≤ 140737488355328 ∧ l.length + ys.length ≤ maxLen⟩
        | some (.pol e' e2 s2 g' l none) => match ys with
          | [[.v (.slice none 0 0)]] => some ⟨.own n (g + 1), some (n, .pol el e2 s2 (g + 1) (l ++ [[]]) none), p ∧ (evs gs y).1 ∧ q ∧ g = g' ∧ 1 = s ∧ e' = el ∧ (l.length + 1) * bytes ≤ 140737488355328 ∧ l.length + 1 ≤ maxLen⟩
          | _ => none
        | _ => none
      | _ => none
    | none => none
/-- An operand, told; 't': the type that is expected of it. -/
def cX (te : TE) (t : Nat) : Operand → Option X
  | .tmp n => some (.t n)
  | .const (.slice none 0 0) => match te t with
    | some ⟨_, _, _, _, .sl e, _⟩ => (te e).map fun i => .nl i.size
    | _ => none
  | .const v => if v.oneCell' then some (.k v) else none
  | .func f => some (.fn f)
  | .global _ => none
def cXs (te : TE) (t : Nat) : List Operand → Option (List X)
  | [] => some []
  | x :: r => match cX te t x, cXs te t r with
    | some y, some l => some (y :: l)
    | _, _ => none
/-- The elements of a row that is written out; the literal nil, alone, as it is. -/
def cXn (te : TE) (t : Nat) : List Operand → Option (List X)
  | [.const (.slice none 0 0)] => some [.k (.slice none 0 0)]
  | l => cXs te t l
/-- A row of one element that was just made is read alone; others may turn. -/
def bslK (d e s : Nat) : List X → PO
  | [.t n] => .bslF d e s [.t n]
  | l => .bsl d e s l
def eqK : TK → Bool
  | .int _ | .bool | .str => true
  | _ => false
def isB : TK → Bool
  | .bool => true
  | _ => false
def isI : TK → Bool
  | .iface | .oth => true
  | _ => false
/-- Where a struct's fields lie, how many cells each has, and their types. -/
def places (te : TE) : List (Nat × Nat) → Option (List (Nat × Nat))
  | [] => some []
  | (off, t) :: r => match te t, places te r with
    | some i, some l => some ((off, i.size) :: l)
    | _, _ => none
def cParts (te : TE) (fs : List (Nat × Nat)) (ps : List (Nat × Nat)) : List (Nat × Operand) → Option (List ((Nat × Nat) × X))
  | [] => some []
  | (i, x) :: r => match fs[i]?, ps[i]?, cParts te fs ps r with
    | some (_, t), some p, some l => match cX te t x with
      | some y => some ((p, y) :: l)
      | none => none
    | _, _, _ => none
def cXo (te : TE) : Option Operand → Option (Option X)
  | none => some none
  | some x => (cX te 0 x).map some
/-- Is it a comparison of an interface with the literal nil? -/
def isNilC (te : TE) (t : Nat) : Operand → BinOp → Option Bool
  | .const .nilIface, op => match te t with
    | some ⟨_, _, _, _, .iface, _⟩ => match op with
      | .eql => some false
      | .neq => some true
      | _ => none
    | _ => none
  | _, _ => none
def isNilS (te : TE) (t : Nat) : Operand → BinOp → Option Bool
  | .const (.slice none 0 0), op => match te t with
    | some ⟨_, _, _, _, .sl _, _⟩ => match op with
      | .eql => some false
      | .neq => some true
      | _ => none
    | _ => none
  | _, _ => none
/-- Is it a slice's type? -/
def isSl (te : TE) (t : Nat) : Bool := match te t with
  | some ⟨_, _, _, _, .sl _, _⟩ => true
  | _ => false
/-- An operation, told. -/
def cop (te : TE) (o : Oper) : Option PO :=
  match o.op, o.dst with
  | .move x, some d => (cX te o.type x).map (.mv d)
  | .assign x, some d => (cX te o.type x).map (.mv d)
  | .fieldAddr s x f, some d => match te s with
    | some ⟨_, _, _, _, .st fs, _⟩ => match fs[f]? with
      | some (off, ft) => match te ft, cX te 0 x with
        | some i, some y => if i.size = 0 then none else some (.fa d off y)
        | _, _ => none
      | none => none
    | _ => none
  | .indexAddr t x i, some d => match te t with
    | some ⟨_, _, _, _, .sl e, _⟩ => match te e, cX te t x, cX te 0 i with
      | some q, some y, some z => some (.ia d q.size y z)
      | _, _, _ => none
    | some ⟨_, _, _, _, .arr n e, _⟩ => match te e, cX te 0 x, cX te 0 i with
      | some q, some y, some z => if 1 < n then some (.iap d n q.size y z) else none
      | _, _, _ => none
    | _ => none
  | .index t x i, some d => match te t with
    | some ⟨_, _, _, _, .arr n e, _⟩ => match te e, cX te 0 x, cX te 0 i with
      | some q, some y, some z => some (.idx d n q.size q.agg y z)
      | _, _, _ => none
    | _ => none
  | .nilCheck x, some d => (cX te 0 x).map (.nck d)
  | .makeSlice t (.const (.int k m)) (.const (.int k' m')), some d => if k = k' ∧ m = m' then match te t with
    | some ⟨_, _, _, _, .sl e, _⟩ => match te e with
      | some q => if 0 < q.size then some (.mks d e q.size q.bytes q.zero (.k (.int k m))) else none
      | none => none
    | _ => none
    else none
  | .load t x, some d => match te t, cX te 0 x with
    | some i, some y => some (.ld d i.size i.agg y)
    | _, _ => none
  | .store t x y, none => match te t, cX te 0 x, cX te t y with
    | some i, some x, some y => some (.st i.size x y)
    | _, _, _ => none
  | .binOp op t x y _, some d => match isNilC te t y op with
   | some neq => (cX te t x).map (.beqn d neq)
   | none => match isNilS te t y op with
    | some neq => (cX te t x).map (.bsn d neq)
    | none => match cX te t x, cX te t y with
    | some x, some y => match op with
      | .eql => match te t with | some i => if eqK i.kind then some (.beq d false (isB i.kind) x y) else i.eq.map (.beqs d false · x y) | none => none
      | .neq => match te t with | some i => if eqK i.kind then some (.beq d true (isB i.kind) x y) else i.eq.map (.beqs d true · x y) | none => none
      | op => some (.bo d op x y)
    | _, _ => none
  | .unOp .not _ x, some d => (cX te 0 x).map (.no d)
  | .call { callee := .builtin .len, args := as, argTypes := ts }, some d => match as.toList, ts.toList with
    | [x], [t] => match te t, cX te t x with
      | some ⟨_, _, _, _, .sl _, _⟩, some y => some (.len d y)
      | some ⟨_, _, _, _, .mp k e, _⟩, some y => match te k, te e with
        | some i, some j => some (.mln d i.agg j.agg y)
        | _, _ => none
      | _, _ => none
    | _, _ => none
  | .call { callee := .builtin .max, args := as, argTypes := _ }, some d => match as.toList with
    | [x, y] => match cX te o.type x, cX te o.type y with
      | some x, some y => some (.mx d false x y)
      | _, _ => none
    | _ => none
  | .call { callee := .builtin .min, args := as, argTypes := _ }, some d => match as.toList with
    | [x, y] => match cX te o.type x, cX te o.type y with
      | some x, some y => some (.mx d true x y)
      | _, _ => none
    | _ => none
  | .makeSlice t (.tmp l) (.tmp c), some d => match te t with
    | some ⟨_, _, _, _, .sl e, _⟩ => match te e with
      | some q => if 0 < q.size ∧ l = c then some (.mks d e q.size q.bytes q.zero (.t l)) else none
      | none => none
    | _ => none
  | .buildSlice t n parts, some d => match te t with
    | some ⟨_, _, _, _, .sl e, _⟩ => match te e with
      | some q => if 0 < q.size ∧ parts.toList.map (·.1) = List.range n ∧ n * q.size ≤ 2 ^ 24 then (cXn te e (parts.toList.map (·.2))).map (bslK d e q.size) else none
      | none => none
    | _ => none
  | .call { callee := .builtin .append, args := as, argTypes := ts }, some d => match as.toList, ts.toList with
    | [x, y], [t, t'] => if isSl te t' = true then match te t with
        | some ⟨_, _, _, _, .sl e, _⟩ => match te e, cX te t x, cX te t y with
          | some q, some x, some y => if 0 < q.size then some (.app d e q.size q.bytes x y) else none
          | _, _, _ => none
        | _ => none
      else none
    | _, _ => none
  | .alloc t, some d => (te t).map fun i => .al d i.zero
  | .box t x, some d => match te t, cX te t x with
    | some _, some y => some (.bx d y)
    | _, _ => none
  | .build t parts, some d => match te t with
    | some ⟨_, _, _, z, .st fs, _⟩ => match places te fs with
      | some ps => (cParts te fs ps parts.toList).map (.bld d z)
      | none => none
    | some ⟨_, _, _, z, .arr _ e, _⟩ => match te e, parts.toList with
      | some _, [] => some (.bld d z [])
      | _, _ => none
    | _ => none
  | .extract x i, some d => (cX te 0 x).map fun y => .ext d y i
  | .convert s t x, some d => match te s, te t, cX te s x with
    | some ⟨_, _, _, _, .int _, _⟩, some ⟨_, _, _, _, .int k, _⟩, some y => some (.cv d k y)
    | some ⟨_, _, _, _, .int _, _⟩, some ⟨_, _, _, _, .str, _⟩, some y => some (.cvs d y)
    | _, _, _ => none
  | .makeInterface t x, some d => match te t, cX te t x with
    | some ⟨_, _, _, _, k, _⟩, some y => if isI k then none else some (.mki d t y)
    | _, _ => none
  | .slice t x lo hi none, some d => match te t with
    | some ⟨_, _, _, _, .sl e, _⟩ => match te e, cX te t x, cXo te lo, cXo te hi with
      | some q, some x, some lo, some hi => if 0 < q.size then some (.slc d q.size x lo hi) else none
      | _, _, _, _ => none
    | some ⟨_, _, _, _, .str, _⟩ => match cX te t x, cXo te lo, cXo te hi with
      | some x, some lo, some hi => some (.slc d 0 x lo hi)
      | _, _, _ => none
    | _ => none
  | .makeMap t none, some d => match te t with
    | some ⟨_, _, _, _, .mp k e, _⟩ => match te k, te e with
      | some i, some j => some (.mkm d i.agg j.agg)
      | _, _ => none
    | _ => none
  | .lookup t x y ok, some d => match te t with
    | some ⟨_, _, _, _, .mp k e, _⟩ => match te k, te e, cX te t x, cX te k y with
      | some i, some j, some x, some y => i.lks.map fun ks => .lkp d i.agg j.agg ks j.zero ok x y
      | _, _, _, _ => none
    | _ => none
  | .mapUpdate t x y z, none => match te t with
    | some ⟨_, _, _, _, .mp k e, _⟩ => match te k, te e, cX te t x, cX te k y, cX te e z with
      | some i, some j, some x, some y, some z => i.lks.map fun ks => .mup i.agg j.agg ks j.size x y z
      | _, _, _, _, _ => none
    | _ => none
  | .insert t x y z, none => match te t with
    | some ⟨_, _, _, _, .mp k e, _⟩ => match te k, te e, cX te t x, cX te k y, cX te e z with
      | some i, some j, some x, some y, some z => i.lks.map fun ks => .mup i.agg j.agg ks j.size x y z
      | _, _, _, _, _ => none
    | _ => none
  | .makeFunc (.func f) first caps, some d => if first.size = 0 then (cXs te 0 caps.toList).map (.mkf d f) else none
  | .pick c a b, some d => match cX te 0 c, cX te o.type a, cX te o.type b with
    | some c, some a, some b => some (.pick d c a b)
    | _, _, _ => none
  | _, _ => none
end Mq
