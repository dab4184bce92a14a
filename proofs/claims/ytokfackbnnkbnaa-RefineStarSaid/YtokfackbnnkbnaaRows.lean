/-
  No cell of these rows narrows 'for every input' (looked for: loops, veiled, ifaces, maps, wideKeys, modest, calm, conditions, laid).
  DERIVED. THE GIVEN ROWS OF THIS SEAT. 7 by the template 'for every input the law returns true; each argument reads behind the call as it read before'; 0 by the template 'total and deterministic' (their statements: YtokfackbnnkbnaaTotals.lean).
  GIVEN WITH THE SEED: the statements are not yours to turn. If you find one false, say at which input.
  Laid BY PROGRAM, IN A SANDBOX (cutbox-rows.mjs): the forced cells as the released guide's own fill.sh prints them over the translation ae2b2201aec8d9bc… (all of the seat's roots in one cut). By AI agents, Wed Nov 11 2026. No macro, syntax, notation, axiom, sorry.
-/
import Derived.Test.YtokfackbnnkbnaaChecked
import GoSem.Claim
import GoSem.ClaimJoined
import GoSem.ClaimMapViews
import Derived.JoinedTies
import Derived.KernelRfl
namespace Go.Proofs.Ytokfackbnnkbnaa
/- THE CELL 'sum', in the pinned program and in every row, IS THE sha256 OF THE DUMP (.gsa) THAT YtokfackbnnkbnaaProg.lean LOADS. Nothing in Lean hashes anything: it is a label: what it is worth is what the hold of that sum in a sandbox is worth. -/
noncomputable def Try.pinned : Pinned := { name := "ytokfackbnnkbnaa", sum := "ae2b2201aec8d9bc61ddee73165bf79ebe7092ad3b0abde6d29e048f24d93923", checked := Try.checked }
namespace Rows
def none {H : Type} : Left H := { results := [], args := [] }

/-- 'maquettelaw17.RefineStar': WHATEVER THE INPUT: true; the input reads as it did. -/
def refineStarSpec : ChangeSpec := { name := "refineStar", fn := fun _ => fun
  | [d1, d2] => { results := [.lit (.bool true)], args := [d1, d2] }
  | _ => none }
def refineStarRow : OpenClaim := { program := "ytokfackbnnkbnaa", sum := "ae2b2201aec8d9bc61ddee73165bf79ebe7092ad3b0abde6d29e048f24d93923", func := "maquette/maquettelaw17.RefineStar", spec := "refineStar", unfollowed := true, recurses := true, plainKeys := false, apart := false }
def RefineStarSaid : Prop := refineStarRow.holds Try.pinned (OpenSpec.ofChange refineStarSpec)

/-- ITS FALSE NEIGHBOUR: 'it returns false'. Refute it at one input. -/
def refineStarWrong : ChangeSpec := { name := "refineStar", fn := fun _ => fun
  | [d1, d2] => { results := [.lit (.bool false)], args := [d1, d2] }
  | _ => none }
def RefineStarWrongFalsely : Prop := refineStarRow.holds Try.pinned (OpenSpec.ofChange refineStarWrong)

/-- 'maquettelaw17.RefineCount': WHATEVER THE INPUT: true; the input reads as it did. -/
def refineCountSpec : ChangeSpec := { name := "refineCount", fn := fun _ => fun
  | [d1, d2, d3] => { results := [.lit (.bool true)], args := [d1, d2, d3] }
  | _ => none }
def refineCountRow : OpenClaim := { program := "ytokfackbnnkbnaa", sum := "ae2b2201aec8d9bc61ddee73165bf79ebe7092ad3b0abde6d29e048f24d93923", func := "maquette/maquettelaw17.RefineCount", spec := "refineCount", unfollowed := true, recurses := true, plainKeys := false, apart := false }
def RefineCountSaid : Prop := refineCountRow.holds Try.pinned (OpenSpec.ofChange refineCountSpec)

/-- ITS FALSE NEIGHBOUR: 'it returns false'. Refute it at one input. -/
def refineCountWrong : ChangeSpec := { name := "refineCount", fn := fun _ => fun
  | [d1, d2, d3] => { results := [.lit (.bool false)], args := [d1, d2, d3] }
  | _ => none }
def RefineCountWrongFalsely : Prop := refineCountRow.holds Try.pinned (OpenSpec.ofChange refineCountWrong)

/-- 'maquettelaw17.RefineOf': WHATEVER THE INPUT: true; the input reads as it did. -/
def refineOfSpec : ChangeSpec := { name := "refineOf", fn := fun _ => fun
  | [d1, d2] => { results := [.lit (.bool true)], args := [d1, d2] }
  | _ => none }
def refineOfRow : OpenClaim := { program := "ytokfackbnnkbnaa", sum := "ae2b2201aec8d9bc61ddee73165bf79ebe7092ad3b0abde6d29e048f24d93923", func := "maquette/maquettelaw17.RefineOf", spec := "refineOf", unfollowed := true, recurses := true, plainKeys := false, apart := false }
def RefineOfSaid : Prop := refineOfRow.holds Try.pinned (OpenSpec.ofChange refineOfSpec)

/-- ITS FALSE NEIGHBOUR: 'it returns false'. Refute it at one input. -/
def refineOfWrong : ChangeSpec := { name := "refineOf", fn := fun _ => fun
  | [d1, d2] => { results := [.lit (.bool false)], args := [d1, d2] }
  | _ => none }
def RefineOfWrongFalsely : Prop := refineOfRow.holds Try.pinned (OpenSpec.ofChange refineOfWrong)

/-- 'maquettelaw17.RefineFair': WHATEVER THE INPUT: true; the input reads as it did. -/
def refineFairSpec : ChangeSpec := { name := "refineFair", fn := fun _ => fun
  | [d1, d2] => { results := [.lit (.bool true)], args := [d1, d2] }
  | _ => none }
def refineFairRow : OpenClaim := { program := "ytokfackbnnkbnaa", sum := "ae2b2201aec8d9bc61ddee73165bf79ebe7092ad3b0abde6d29e048f24d93923", func := "maquette/maquettelaw17.RefineFair", spec := "refineFair", unfollowed := true, recurses := true, plainKeys := false, apart := false }
def RefineFairSaid : Prop := refineFairRow.holds Try.pinned (OpenSpec.ofChange refineFairSpec)

/-- ITS FALSE NEIGHBOUR: 'it returns false'. Refute it at one input. -/
def refineFairWrong : ChangeSpec := { name := "refineFair", fn := fun _ => fun
  | [d1, d2] => { results := [.lit (.bool false)], args := [d1, d2] }
  | _ => none }
def RefineFairWrongFalsely : Prop := refineFairRow.holds Try.pinned (OpenSpec.ofChange refineFairWrong)

/-- 'maquettelaw18.QuotientMay': WHATEVER THE INPUT: true; the input reads as it did. -/
def quotientMaySpec : ChangeSpec := { name := "quotientMay", fn := fun _ => fun
  | [d1, d2] => { results := [.lit (.bool true)], args := [d1, d2] }
  | _ => none }
def quotientMayRow : OpenClaim := { program := "ytokfackbnnkbnaa", sum := "ae2b2201aec8d9bc61ddee73165bf79ebe7092ad3b0abde6d29e048f24d93923", func := "maquette/maquettelaw18.QuotientMay", spec := "quotientMay", unfollowed := true, recurses := true, plainKeys := false, apart := false }
def QuotientMaySaid : Prop := quotientMayRow.holds Try.pinned (OpenSpec.ofChange quotientMaySpec)

/-- ITS FALSE NEIGHBOUR: 'it returns false'. Refute it at one input. -/
def quotientMayWrong : ChangeSpec := { name := "quotientMay", fn := fun _ => fun
  | [d1, d2] => { results := [.lit (.bool false)], args := [d1, d2] }
  | _ => none }
def QuotientMayWrongFalsely : Prop := quotientMayRow.holds Try.pinned (OpenSpec.ofChange quotientMayWrong)

/-- 'maquettelaw18.QuotientSmall': WHATEVER THE INPUT: true; the input reads as it did. -/
def quotientSmallSpec : ChangeSpec := { name := "quotientSmall", fn := fun _ => fun
  | [d1, d2] => { results := [.lit (.bool true)], args := [d1, d2] }
  | _ => none }
def quotientSmallRow : OpenClaim := { program := "ytokfackbnnkbnaa", sum := "ae2b2201aec8d9bc61ddee73165bf79ebe7092ad3b0abde6d29e048f24d93923", func := "maquette/maquettelaw18.QuotientSmall", spec := "quotientSmall", unfollowed := true, recurses := true, plainKeys := false, apart := false }
def QuotientSmallSaid : Prop := quotientSmallRow.holds Try.pinned (OpenSpec.ofChange quotientSmallSpec)

/-- ITS FALSE NEIGHBOUR: 'it returns false'. Refute it at one input. -/
def quotientSmallWrong : ChangeSpec := { name := "quotientSmall", fn := fun _ => fun
  | [d1, d2] => { results := [.lit (.bool false)], args := [d1, d2] }
  | _ => none }
def QuotientSmallWrongFalsely : Prop := quotientSmallRow.holds Try.pinned (OpenSpec.ofChange quotientSmallWrong)

/-- 'maquettelaw18.QuotientBack': WHATEVER THE INPUT: true; the input reads as it did. -/
def quotientBackSpec : ChangeSpec := { name := "quotientBack", fn := fun _ => fun
  | [d1, d2, d3] => { results := [.lit (.bool true)], args := [d1, d2, d3] }
  | _ => none }
def quotientBackRow : OpenClaim := { program := "ytokfackbnnkbnaa", sum := "ae2b2201aec8d9bc61ddee73165bf79ebe7092ad3b0abde6d29e048f24d93923", func := "maquette/maquettelaw18.QuotientBack", spec := "quotientBack", unfollowed := true, recurses := true, plainKeys := false, apart := false }
def QuotientBackSaid : Prop := quotientBackRow.holds Try.pinned (OpenSpec.ofChange quotientBackSpec)

/-- ITS FALSE NEIGHBOUR: 'it returns false'. Refute it at one input. -/
def quotientBackWrong : ChangeSpec := { name := "quotientBack", fn := fun _ => fun
  | [d1, d2, d3] => { results := [.lit (.bool false)], args := [d1, d2, d3] }
  | _ => none }
def QuotientBackWrongFalsely : Prop := quotientBackRow.holds Try.pinned (OpenSpec.ofChange quotientBackWrong)

/- THE SECOND FORM. 'bulk': how many values and letters a reading holds, each counted each time it is reached (what is shared counts as often as it is met; a slice's spare places count too). A statement '..UptoSaid' is the law's where the arguments, and the package variables that the reading takes, are together of bulk at most 1048576: NARROWER than '..Said'. Prove '..Said' where nothing that the law and all that it calls make is longer than what came in: it says more and counts as full. Else prove '..UptoSaid'. A law counts once. -/
mutual
def uptoBulk {H : Type} : DataW H → Nat
  | .lit (.string bytes) => bytes.length + 1
  | .lit _ => 1
  | .nil => 1
  | .ptr d => uptoBulk d + 1
  | .slice elems spare => uptoBulkAll elems + uptoBulkAll spare + 1
  | .agg parts => uptoBulkAll parts + 1
  | .iface _ d => uptoBulk d + 1
  | .map entries => uptoBulkEntries entries + 1
  | .held _ => 1
def uptoBulkAll {H : Type} : List (DataW H) → Nat
  | [] => 0
  | d :: r => uptoBulk d + uptoBulkAll r
def uptoBulkEntries {H : Type} : List (Lit × DataW H) → Nat
  | [] => 0
  | x :: r => uptoBulkEntry x + uptoBulkEntries r
def uptoBulkEntry {H : Type} : Lit × DataW H → Nat
  | (.string bytes, d) => bytes.length + uptoBulk d + 1
  | (_, d) => uptoBulk d + 1
 end
def uptoSmall : (H : Type) → List (DataW H) → Bool := fun _ ds => decide (uptoBulkAll ds ≤ 1048576)
def OpenSpec.upto (s : _root_.Go.ChangeSpec) : _root_.Go.OpenSpec := { _root_.Go.OpenSpec.ofChange s with cond := some uptoSmall }

/-- 'maquettelaw17.RefineStar', WHERE WHAT IT READS IS OF BULK AT MOST 1048576: true; the input reads as it did. -/
def refineStarUptoRow : OpenClaim := { program := "ytokfackbnnkbnaa", sum := "ae2b2201aec8d9bc61ddee73165bf79ebe7092ad3b0abde6d29e048f24d93923", func := "maquette/maquettelaw17.RefineStar", spec := "refineStar", unfollowed := true, recurses := true, plainKeys := false, apart := false, narrowed := true }
def RefineStarUptoSaid : Prop := refineStarUptoRow.holds Try.pinned (OpenSpec.upto refineStarSpec)

/-- 'maquettelaw17.RefineCount', WHERE WHAT IT READS IS OF BULK AT MOST 1048576: true; the input reads as it did. -/
def refineCountUptoRow : OpenClaim := { program := "ytokfackbnnkbnaa", sum := "ae2b2201aec8d9bc61ddee73165bf79ebe7092ad3b0abde6d29e048f24d93923", func := "maquette/maquettelaw17.RefineCount", spec := "refineCount", unfollowed := true, recurses := true, plainKeys := false, apart := false, narrowed := true }
def RefineCountUptoSaid : Prop := refineCountUptoRow.holds Try.pinned (OpenSpec.upto refineCountSpec)

/-- 'maquettelaw17.RefineOf', WHERE WHAT IT READS IS OF BULK AT MOST 1048576: true; the input reads as it did. -/
def refineOfUptoRow : OpenClaim := { program := "ytokfackbnnkbnaa", sum := "ae2b2201aec8d9bc61ddee73165bf79ebe7092ad3b0abde6d29e048f24d93923", func := "maquette/maquettelaw17.RefineOf", spec := "refineOf", unfollowed := true, recurses := true, plainKeys := false, apart := false, narrowed := true }
def RefineOfUptoSaid : Prop := refineOfUptoRow.holds Try.pinned (OpenSpec.upto refineOfSpec)

/-- 'maquettelaw17.RefineFair', WHERE WHAT IT READS IS OF BULK AT MOST 1048576: true; the input reads as it did. -/
def refineFairUptoRow : OpenClaim := { program := "ytokfackbnnkbnaa", sum := "ae2b2201aec8d9bc61ddee73165bf79ebe7092ad3b0abde6d29e048f24d93923", func := "maquette/maquettelaw17.RefineFair", spec := "refineFair", unfollowed := true, recurses := true, plainKeys := false, apart := false, narrowed := true }
def RefineFairUptoSaid : Prop := refineFairUptoRow.holds Try.pinned (OpenSpec.upto refineFairSpec)

/-- 'maquettelaw18.QuotientMay', WHERE WHAT IT READS IS OF BULK AT MOST 1048576: true; the input reads as it did. -/
def quotientMayUptoRow : OpenClaim := { program := "ytokfackbnnkbnaa", sum := "ae2b2201aec8d9bc61ddee73165bf79ebe7092ad3b0abde6d29e048f24d93923", func := "maquette/maquettelaw18.QuotientMay", spec := "quotientMay", unfollowed := true, recurses := true, plainKeys := false, apart := false, narrowed := true }
def QuotientMayUptoSaid : Prop := quotientMayUptoRow.holds Try.pinned (OpenSpec.upto quotientMaySpec)

/-- 'maquettelaw18.QuotientSmall', WHERE WHAT IT READS IS OF BULK AT MOST 1048576: true; the input reads as it did. -/
def quotientSmallUptoRow : OpenClaim := { program := "ytokfackbnnkbnaa", sum := "ae2b2201aec8d9bc61ddee73165bf79ebe7092ad3b0abde6d29e048f24d93923", func := "maquette/maquettelaw18.QuotientSmall", spec := "quotientSmall", unfollowed := true, recurses := true, plainKeys := false, apart := false, narrowed := true }
def QuotientSmallUptoSaid : Prop := quotientSmallUptoRow.holds Try.pinned (OpenSpec.upto quotientSmallSpec)

/-- 'maquettelaw18.QuotientBack', WHERE WHAT IT READS IS OF BULK AT MOST 1048576: true; the input reads as it did. -/
def quotientBackUptoRow : OpenClaim := { program := "ytokfackbnnkbnaa", sum := "ae2b2201aec8d9bc61ddee73165bf79ebe7092ad3b0abde6d29e048f24d93923", func := "maquette/maquettelaw18.QuotientBack", spec := "quotientBack", unfollowed := true, recurses := true, plainKeys := false, apart := false, narrowed := true }
def QuotientBackUptoSaid : Prop := quotientBackUptoRow.holds Try.pinned (OpenSpec.upto quotientBackSpec)

end Rows
end Go.Proofs.Ytokfackbnnkbnaa
