/-
  No cell of these rows narrows 'for every input' (looked for: loops, veiled, ifaces, maps, wideKeys, modest, calm, conditions, laid).
  DERIVED. THE GIVEN ROWS OF THIS SEAT. 5 by the template 'for every input the law returns true; each argument reads behind the call as it read before'; 0 by the template 'total and deterministic' (their statements: YtiknbnkngmfdgaaTotals.lean).
  GIVEN WITH THE SEED: the statements are not yours to turn. If you find one false, say at which input.
  Laid BY PROGRAM, IN A SANDBOX (cutbox-rows.mjs): the forced cells as the released guide's own fill.sh prints them over the translation cf889477b2c7706b… (all of the seat's roots in one cut). By AI agents, Wed Nov 11 2026. No macro, syntax, notation, axiom, sorry.
-/
import Derived.Test.YtiknbnkngmfdgaaChecked
import GoSem.Claim
import GoSem.ClaimJoined
import GoSem.ClaimMapViews
import Derived.JoinedTies
import Derived.KernelRfl
namespace Go.Proofs.Ytiknbnkngmfdgaa
/- THE CELL 'sum', in the pinned program and in every row, IS THE sha256 OF THE DUMP (.gsa) THAT YtiknbnkngmfdgaaProg.lean LOADS. Nothing in Lean hashes anything: it is a label: what it is worth is what the hold of that sum in a sandbox is worth. -/
noncomputable def Try.pinned : Pinned := { name := "ytiknbnkngmfdgaa", sum := "cf889477b2c7706beafb784c5b1b11844841f088301ef0635693e294ec2fe962", checked := Try.checked }
namespace Rows
def none {H : Type} : Left H := { results := [], args := [] }

/-- 'maquettelaw18.QuotientRoutes': WHATEVER THE INPUT: true; the input reads as it did. -/
def quotientRoutesSpec : ChangeSpec := { name := "quotientRoutes", fn := fun _ => fun
  | [d1, d2] => { results := [.lit (.bool true)], args := [d1, d2] }
  | _ => none }
def quotientRoutesRow : OpenClaim := { program := "ytiknbnkngmfdgaa", sum := "cf889477b2c7706beafb784c5b1b11844841f088301ef0635693e294ec2fe962", func := "maquette/maquettelaw18.QuotientRoutes", spec := "quotientRoutes", plainKeys := false, apart := false }
def QuotientRoutesSaid : Prop := quotientRoutesRow.holds Try.pinned (OpenSpec.ofChange quotientRoutesSpec)

/-- ITS FALSE NEIGHBOUR: 'it returns false'. Refute it at one input. -/
def quotientRoutesWrong : ChangeSpec := { name := "quotientRoutes", fn := fun _ => fun
  | [d1, d2] => { results := [.lit (.bool false)], args := [d1, d2] }
  | _ => none }
def QuotientRoutesWrongFalsely : Prop := quotientRoutesRow.holds Try.pinned (OpenSpec.ofChange quotientRoutesWrong)

/-- 'maquettelaw15.StableRaw': WHATEVER THE INPUT: true; the input reads as it did. -/
def stableRawSpec : ChangeSpec := { name := "stableRaw", fn := fun _ => fun
  | [d1, d2, d3] => { results := [.lit (.bool true)], args := [d1, d2, d3] }
  | _ => none }
def stableRawRow : OpenClaim := { program := "ytiknbnkngmfdgaa", sum := "cf889477b2c7706beafb784c5b1b11844841f088301ef0635693e294ec2fe962", func := "maquette/maquettelaw15.StableRaw", spec := "stableRaw", plainKeys := false, apart := false }
def StableRawSaid : Prop := stableRawRow.holds Try.pinned (OpenSpec.ofChange stableRawSpec)

/-- ITS FALSE NEIGHBOUR: 'it returns false'. Refute it at one input. -/
def stableRawWrong : ChangeSpec := { name := "stableRaw", fn := fun _ => fun
  | [d1, d2, d3] => { results := [.lit (.bool false)], args := [d1, d2, d3] }
  | _ => none }
def StableRawWrongFalsely : Prop := stableRawRow.holds Try.pinned (OpenSpec.ofChange stableRawWrong)

/-- 'maquettelaw15.StableMay': WHATEVER THE INPUT: true; the input reads as it did. -/
def stableMaySpec : ChangeSpec := { name := "stableMay", fn := fun _ => fun
  | [d1, d2, d3] => { results := [.lit (.bool true)], args := [d1, d2, d3] }
  | _ => none }
def stableMayRow : OpenClaim := { program := "ytiknbnkngmfdgaa", sum := "cf889477b2c7706beafb784c5b1b11844841f088301ef0635693e294ec2fe962", func := "maquette/maquettelaw15.StableMay", spec := "stableMay", plainKeys := false, apart := false }
def StableMaySaid : Prop := stableMayRow.holds Try.pinned (OpenSpec.ofChange stableMaySpec)

/-- ITS FALSE NEIGHBOUR: 'it returns false'. Refute it at one input. -/
def stableMayWrong : ChangeSpec := { name := "stableMay", fn := fun _ => fun
  | [d1, d2, d3] => { results := [.lit (.bool false)], args := [d1, d2, d3] }
  | _ => none }
def StableMayWrongFalsely : Prop := stableMayRow.holds Try.pinned (OpenSpec.ofChange stableMayWrong)

/-- 'maquettelaw16.SolveRaw': WHATEVER THE INPUT: true; the input reads as it did. -/
def solveRawSpec : ChangeSpec := { name := "solveRaw", fn := fun _ => fun
  | [d1, d2, d3] => { results := [.lit (.bool true)], args := [d1, d2, d3] }
  | _ => none }
def solveRawRow : OpenClaim := { program := "ytiknbnkngmfdgaa", sum := "cf889477b2c7706beafb784c5b1b11844841f088301ef0635693e294ec2fe962", func := "maquette/maquettelaw16.SolveRaw", spec := "solveRaw", plainKeys := false, apart := false }
def SolveRawSaid : Prop := solveRawRow.holds Try.pinned (OpenSpec.ofChange solveRawSpec)

/-- ITS FALSE NEIGHBOUR: 'it returns false'. Refute it at one input. -/
def solveRawWrong : ChangeSpec := { name := "solveRaw", fn := fun _ => fun
  | [d1, d2, d3] => { results := [.lit (.bool false)], args := [d1, d2, d3] }
  | _ => none }
def SolveRawWrongFalsely : Prop := solveRawRow.holds Try.pinned (OpenSpec.ofChange solveRawWrong)

/-- 'maquettelaw17.RefineStar': WHATEVER THE INPUT: true; the input reads as it did. -/
def refineStarSpec : ChangeSpec := { name := "refineStar", fn := fun _ => fun
  | [d1, d2] => { results := [.lit (.bool true)], args := [d1, d2] }
  | _ => none }
def refineStarRow : OpenClaim := { program := "ytiknbnkngmfdgaa", sum := "cf889477b2c7706beafb784c5b1b11844841f088301ef0635693e294ec2fe962", func := "maquette/maquettelaw17.RefineStar", spec := "refineStar", unfollowed := true, recurses := true, plainKeys := false, apart := false }
def RefineStarSaid : Prop := refineStarRow.holds Try.pinned (OpenSpec.ofChange refineStarSpec)

/-- ITS FALSE NEIGHBOUR: 'it returns false'. Refute it at one input. -/
def refineStarWrong : ChangeSpec := { name := "refineStar", fn := fun _ => fun
  | [d1, d2] => { results := [.lit (.bool false)], args := [d1, d2] }
  | _ => none }
def RefineStarWrongFalsely : Prop := refineStarRow.holds Try.pinned (OpenSpec.ofChange refineStarWrong)

/- THE SECOND FORM. 'bulk': how many values and letters a reading holds, each counted each time it is reached (what is shared counts as often as it is met; a slice's spare places count too). A statement '..UptoSaid' is the law's where the arguments, and the package variables that the reading takes, are together of bulk at most 1048576: NARROWER than '..Said'. Prove '..Said' where nothing that the law and all that it calls make is longer than what came in: it says more and counts as full. Else prove '..UptoSaid'. A law counts once. -/
mutual
def uptoBulk {H : Type} : DataW H → Nat
  | .lit (.string bytes) => bytes.length + 1
  | .lit _ => 1
  | .nil => 1
  | .ptr d => uptoBulk d + 1
  | .slice elems spare => uptoBulkAll elems + uptoBulkAll spare + 1
  | .agg parts => uptoBulkAll parts + 1
  | .iface _ d => uptoBulk d + 1
  | .map entries => uptoBulkEntries entries + 1
  | .held _ => 1
def uptoBulkAll {H : Type} : List (DataW H) → Nat
  | [] => 0
  | d :: r => uptoBulk d + uptoBulkAll r
def uptoBulkEntries {H : Type} : List (Lit × DataW H) → Nat
  | [] => 0
  | x :: r => uptoBulkEntry x + uptoBulkEntries r
def uptoBulkEntry {H : Type} : Lit × DataW H → Nat
  | (.string bytes, d) => bytes.length + uptoBulk d + 1
  | (_, d) => uptoBulk d + 1
 end
def uptoSmall : (H : Type) → List (DataW H) → Bool := fun _ ds => decide (uptoBulkAll ds ≤ 1048576)
def OpenSpec.upto (s : _root_.Go.ChangeSpec) : _root_.Go.OpenSpec := { _root_.Go.OpenSpec.ofChange s with cond := some uptoSmall }

/-- 'maquettelaw18.QuotientRoutes', WHERE WHAT IT READS IS OF BULK AT MOST 1048576: true; the input reads as it did. -/
def quotientRoutesUptoRow : OpenClaim := { program := "ytiknbnkngmfdgaa", sum := "cf889477b2c7706beafb784c5b1b11844841f088301ef0635693e294ec2fe962", func := "maquette/maquettelaw18.QuotientRoutes", spec := "quotientRoutes", plainKeys := false, apart := false, narrowed := true }
def QuotientRoutesUptoSaid : Prop := quotientRoutesUptoRow.holds Try.pinned (OpenSpec.upto quotientRoutesSpec)

/-- 'maquettelaw15.StableRaw', WHERE WHAT IT READS IS OF BULK AT MOST 1048576: true; the input reads as it did. -/
def stableRawUptoRow : OpenClaim := { program := "ytiknbnkngmfdgaa", sum := "cf889477b2c7706beafb784c5b1b11844841f088301ef0635693e294ec2fe962", func := "maquette/maquettelaw15.StableRaw", spec := "stableRaw", plainKeys := false, apart := false, narrowed := true }
def StableRawUptoSaid : Prop := stableRawUptoRow.holds Try.pinned (OpenSpec.upto stableRawSpec)

/-- 'maquettelaw15.StableMay', WHERE WHAT IT READS IS OF BULK AT MOST 1048576: true; the input reads as it did. -/
def stableMayUptoRow : OpenClaim := { program := "ytiknbnkngmfdgaa", sum := "cf889477b2c7706beafb784c5b1b11844841f088301ef0635693e294ec2fe962", func := "maquette/maquettelaw15.StableMay", spec := "stableMay", plainKeys := false, apart := false, narrowed := true }
def StableMayUptoSaid : Prop := stableMayUptoRow.holds Try.pinned (OpenSpec.upto stableMaySpec)

/-- 'maquettelaw16.SolveRaw', WHERE WHAT IT READS IS OF BULK AT MOST 1048576: true; the input reads as it did. -/
def solveRawUptoRow : OpenClaim := { program := "ytiknbnkngmfdgaa", sum := "cf889477b2c7706beafb784c5b1b11844841f088301ef0635693e294ec2fe962", func := "maquette/maquettelaw16.SolveRaw", spec := "solveRaw", plainKeys := false, apart := false, narrowed := true }
def SolveRawUptoSaid : Prop := solveRawUptoRow.holds Try.pinned (OpenSpec.upto solveRawSpec)

/-- 'maquettelaw17.RefineStar', WHERE WHAT IT READS IS OF BULK AT MOST 1048576: true; the input reads as it did. -/
def refineStarUptoRow : OpenClaim := { program := "ytiknbnkngmfdgaa", sum := "cf889477b2c7706beafb784c5b1b11844841f088301ef0635693e294ec2fe962", func := "maquette/maquettelaw17.RefineStar", spec := "refineStar", unfollowed := true, recurses := true, plainKeys := false, apart := false, narrowed := true }
def RefineStarUptoSaid : Prop := refineStarUptoRow.holds Try.pinned (OpenSpec.upto refineStarSpec)

end Rows
end Go.Proofs.Ytiknbnkngmfdgaa
