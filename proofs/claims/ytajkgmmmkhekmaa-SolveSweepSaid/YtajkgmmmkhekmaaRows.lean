/-
  No cell of these rows narrows 'for every input' (looked for: loops, veiled, ifaces, maps, wideKeys, modest, calm, conditions, laid).
  DERIVED. THE GIVEN ROWS OF THIS SEAT. 10 by the template 'for every input the law returns true; each argument reads behind the call as it read before'; 0 by the template 'total and deterministic' (their statements: YtajkgmmmkhekmaaTotals.lean).
  GIVEN WITH THE SEED: the statements are not yours to turn. If you find one false, say at which input.
  Laid BY PROGRAM, IN A SANDBOX (cutbox-rows.mjs): the forced cells as the released guide's own fill.sh prints them over the translation bf6878feb09d85c4… (all of the seat's roots in one cut). By AI agents, Wed Nov 11 2026. No macro, syntax, notation, axiom, sorry.
-/
import Derived.Test.YtajkgmmmkhekmaaChecked
import GoSem.Claim
import GoSem.ClaimJoined
import GoSem.ClaimMapViews
import Derived.JoinedTies
import Derived.KernelRfl
namespace Go.Proofs.Ytajkgmmmkhekmaa
/- THE CELL 'sum', in the pinned program and in every row, IS THE sha256 OF THE DUMP (.gsa) THAT YtajkgmmmkhekmaaProg.lean LOADS. Nothing in Lean hashes anything: it is a label: what it is worth is what the hold of that sum in a sandbox is worth. -/
noncomputable def Try.pinned : Pinned := { name := "ytajkgmmmkhekmaa", sum := "bf6878feb09d85c4080e16069918382e48e110364b9c9b77621c0f61f324f09c", checked := Try.checked }
namespace Rows
def none {H : Type} : Left H := { results := [], args := [] }

/-- 'maquettelaw15.StableChoice': WHATEVER THE INPUT: true; the input reads as it did. -/
def stableChoiceSpec : ChangeSpec := { name := "stableChoice", fn := fun _ => fun
  | [d1, d2, d3, d4] => { results := [.lit (.bool true)], args := [d1, d2, d3, d4] }
  | _ => none }
def stableChoiceRow : OpenClaim := { program := "ytajkgmmmkhekmaa", sum := "bf6878feb09d85c4080e16069918382e48e110364b9c9b77621c0f61f324f09c", func := "maquette/maquettelaw15.StableChoice", spec := "stableChoice", unfollowed := true, recurses := true, apart := false }
def StableChoiceSaid : Prop := stableChoiceRow.holds Try.pinned (OpenSpec.ofChange stableChoiceSpec)

/-- ITS FALSE NEIGHBOUR: 'it returns false'. Refute it at one input. -/
def stableChoiceWrong : ChangeSpec := { name := "stableChoice", fn := fun _ => fun
  | [d1, d2, d3, d4] => { results := [.lit (.bool false)], args := [d1, d2, d3, d4] }
  | _ => none }
def StableChoiceWrongFalsely : Prop := stableChoiceRow.holds Try.pinned (OpenSpec.ofChange stableChoiceWrong)

/-- 'maquettelaw15.StableIs': WHATEVER THE INPUT: true; the input reads as it did. -/
def stableIsSpec : ChangeSpec := { name := "stableIs", fn := fun _ => fun
  | [d1, d2, d3, d4] => { results := [.lit (.bool true)], args := [d1, d2, d3, d4] }
  | _ => none }
def stableIsRow : OpenClaim := { program := "ytajkgmmmkhekmaa", sum := "bf6878feb09d85c4080e16069918382e48e110364b9c9b77621c0f61f324f09c", func := "maquette/maquettelaw15.StableIs", spec := "stableIs", unfollowed := true, recurses := true, apart := false }
def StableIsSaid : Prop := stableIsRow.holds Try.pinned (OpenSpec.ofChange stableIsSpec)

/-- ITS FALSE NEIGHBOUR: 'it returns false'. Refute it at one input. -/
def stableIsWrong : ChangeSpec := { name := "stableIs", fn := fun _ => fun
  | [d1, d2, d3, d4] => { results := [.lit (.bool false)], args := [d1, d2, d3, d4] }
  | _ => none }
def StableIsWrongFalsely : Prop := stableIsRow.holds Try.pinned (OpenSpec.ofChange stableIsWrong)

/-- 'maquettelaw15.StableFixed': WHATEVER THE INPUT: true; the input reads as it did. -/
def stableFixedSpec : ChangeSpec := { name := "stableFixed", fn := fun _ => fun
  | [d1, d2, d3, d4] => { results := [.lit (.bool true)], args := [d1, d2, d3, d4] }
  | _ => none }
def stableFixedRow : OpenClaim := { program := "ytajkgmmmkhekmaa", sum := "bf6878feb09d85c4080e16069918382e48e110364b9c9b77621c0f61f324f09c", func := "maquette/maquettelaw15.StableFixed", spec := "stableFixed", unfollowed := true, recurses := true, apart := false }
def StableFixedSaid : Prop := stableFixedRow.holds Try.pinned (OpenSpec.ofChange stableFixedSpec)

/-- ITS FALSE NEIGHBOUR: 'it returns false'. Refute it at one input. -/
def stableFixedWrong : ChangeSpec := { name := "stableFixed", fn := fun _ => fun
  | [d1, d2, d3, d4] => { results := [.lit (.bool false)], args := [d1, d2, d3, d4] }
  | _ => none }
def StableFixedWrongFalsely : Prop := stableFixedRow.holds Try.pinned (OpenSpec.ofChange stableFixedWrong)

/-- 'maquettelaw15.StableOrigin': WHATEVER THE INPUT: true; the input reads as it did. -/
def stableOriginSpec : ChangeSpec := { name := "stableOrigin", fn := fun _ => fun
  | [d1, d2, d3] => { results := [.lit (.bool true)], args := [d1, d2, d3] }
  | _ => none }
def stableOriginRow : OpenClaim := { program := "ytajkgmmmkhekmaa", sum := "bf6878feb09d85c4080e16069918382e48e110364b9c9b77621c0f61f324f09c", func := "maquette/maquettelaw15.StableOrigin", spec := "stableOrigin", unfollowed := true, recurses := true, apart := false }
def StableOriginSaid : Prop := stableOriginRow.holds Try.pinned (OpenSpec.ofChange stableOriginSpec)

/-- ITS FALSE NEIGHBOUR: 'it returns false'. Refute it at one input. -/
def stableOriginWrong : ChangeSpec := { name := "stableOrigin", fn := fun _ => fun
  | [d1, d2, d3] => { results := [.lit (.bool false)], args := [d1, d2, d3] }
  | _ => none }
def StableOriginWrongFalsely : Prop := stableOriginRow.holds Try.pinned (OpenSpec.ofChange stableOriginWrong)

/-- 'maquettelaw16.SolveLikes': WHATEVER THE INPUT: true; the input reads as it did. -/
def solveLikesSpec : ChangeSpec := { name := "solveLikes", fn := fun _ => fun
  | [d1, d2] => { results := [.lit (.bool true)], args := [d1, d2] }
  | _ => none }
def solveLikesRow : OpenClaim := { program := "ytajkgmmmkhekmaa", sum := "bf6878feb09d85c4080e16069918382e48e110364b9c9b77621c0f61f324f09c", func := "maquette/maquettelaw16.SolveLikes", spec := "solveLikes", unfollowed := true, recurses := true, apart := false }
def SolveLikesSaid : Prop := solveLikesRow.holds Try.pinned (OpenSpec.ofChange solveLikesSpec)

/-- ITS FALSE NEIGHBOUR: 'it returns false'. Refute it at one input. -/
def solveLikesWrong : ChangeSpec := { name := "solveLikes", fn := fun _ => fun
  | [d1, d2] => { results := [.lit (.bool false)], args := [d1, d2] }
  | _ => none }
def SolveLikesWrongFalsely : Prop := solveLikesRow.holds Try.pinned (OpenSpec.ofChange solveLikesWrong)

/-- 'maquettelaw16.SolveNothing': WHATEVER THE INPUT: true; the input reads as it did. -/
def solveNothingSpec : ChangeSpec := { name := "solveNothing", fn := fun _ => fun
  | [d1, d2] => { results := [.lit (.bool true)], args := [d1, d2] }
  | _ => none }
def solveNothingRow : OpenClaim := { program := "ytajkgmmmkhekmaa", sum := "bf6878feb09d85c4080e16069918382e48e110364b9c9b77621c0f61f324f09c", func := "maquette/maquettelaw16.SolveNothing", spec := "solveNothing", unfollowed := true, recurses := true, apart := false }
def SolveNothingSaid : Prop := solveNothingRow.holds Try.pinned (OpenSpec.ofChange solveNothingSpec)

/-- ITS FALSE NEIGHBOUR: 'it returns false'. Refute it at one input. -/
def solveNothingWrong : ChangeSpec := { name := "solveNothing", fn := fun _ => fun
  | [d1, d2] => { results := [.lit (.bool false)], args := [d1, d2] }
  | _ => none }
def SolveNothingWrongFalsely : Prop := solveNothingRow.holds Try.pinned (OpenSpec.ofChange solveNothingWrong)

/-- 'maquettelaw16.SolveOrder': WHATEVER THE INPUT: true; the input reads as it did. -/
def solveOrderSpec : ChangeSpec := { name := "solveOrder", fn := fun _ => fun
  | [d1, d2] => { results := [.lit (.bool true)], args := [d1, d2] }
  | _ => none }
def solveOrderRow : OpenClaim := { program := "ytajkgmmmkhekmaa", sum := "bf6878feb09d85c4080e16069918382e48e110364b9c9b77621c0f61f324f09c", func := "maquette/maquettelaw16.SolveOrder", spec := "solveOrder", unfollowed := true, recurses := true, apart := false }
def SolveOrderSaid : Prop := solveOrderRow.holds Try.pinned (OpenSpec.ofChange solveOrderSpec)

/-- ITS FALSE NEIGHBOUR: 'it returns false'. Refute it at one input. -/
def solveOrderWrong : ChangeSpec := { name := "solveOrder", fn := fun _ => fun
  | [d1, d2] => { results := [.lit (.bool false)], args := [d1, d2] }
  | _ => none }
def SolveOrderWrongFalsely : Prop := solveOrderRow.holds Try.pinned (OpenSpec.ofChange solveOrderWrong)

/-- 'maquettelaw16.SolveGreedy': WHATEVER THE INPUT: true; the input reads as it did. -/
def solveGreedySpec : ChangeSpec := { name := "solveGreedy", fn := fun _ => fun
  | [d1, d2, d3, d4] => { results := [.lit (.bool true)], args := [d1, d2, d3, d4] }
  | _ => none }
def solveGreedyRow : OpenClaim := { program := "ytajkgmmmkhekmaa", sum := "bf6878feb09d85c4080e16069918382e48e110364b9c9b77621c0f61f324f09c", func := "maquette/maquettelaw16.SolveGreedy", spec := "solveGreedy", unfollowed := true, recurses := true, apart := false }
def SolveGreedySaid : Prop := solveGreedyRow.holds Try.pinned (OpenSpec.ofChange solveGreedySpec)

/-- ITS FALSE NEIGHBOUR: 'it returns false'. Refute it at one input. -/
def solveGreedyWrong : ChangeSpec := { name := "solveGreedy", fn := fun _ => fun
  | [d1, d2, d3, d4] => { results := [.lit (.bool false)], args := [d1, d2, d3, d4] }
  | _ => none }
def SolveGreedyWrongFalsely : Prop := solveGreedyRow.holds Try.pinned (OpenSpec.ofChange solveGreedyWrong)

/-- 'maquettelaw16.SolveSweep': WHATEVER THE INPUT: true; the input reads as it did. -/
def solveSweepSpec : ChangeSpec := { name := "solveSweep", fn := fun _ => fun
  | [d1, d2, d3, d4] => { results := [.lit (.bool true)], args := [d1, d2, d3, d4] }
  | _ => none }
def solveSweepRow : OpenClaim := { program := "ytajkgmmmkhekmaa", sum := "bf6878feb09d85c4080e16069918382e48e110364b9c9b77621c0f61f324f09c", func := "maquette/maquettelaw16.SolveSweep", spec := "solveSweep", unfollowed := true, recurses := true, apart := false }
def SolveSweepSaid : Prop := solveSweepRow.holds Try.pinned (OpenSpec.ofChange solveSweepSpec)

/-- ITS FALSE NEIGHBOUR: 'it returns false'. Refute it at one input. -/
def solveSweepWrong : ChangeSpec := { name := "solveSweep", fn := fun _ => fun
  | [d1, d2, d3, d4] => { results := [.lit (.bool false)], args := [d1, d2, d3, d4] }
  | _ => none }
def SolveSweepWrongFalsely : Prop := solveSweepRow.holds Try.pinned (OpenSpec.ofChange solveSweepWrong)

/-- 'maquettelaw16.SolveBare': WHATEVER THE INPUT: true; the input reads as it did. -/
def solveBareSpec : ChangeSpec := { name := "solveBare", fn := fun _ => fun
  | [d1, d2] => { results := [.lit (.bool true)], args := [d1, d2] }
  | _ => none }
def solveBareRow : OpenClaim := { program := "ytajkgmmmkhekmaa", sum := "bf6878feb09d85c4080e16069918382e48e110364b9c9b77621c0f61f324f09c", func := "maquette/maquettelaw16.SolveBare", spec := "solveBare", unfollowed := true, recurses := true, apart := false }
def SolveBareSaid : Prop := solveBareRow.holds Try.pinned (OpenSpec.ofChange solveBareSpec)

/-- ITS FALSE NEIGHBOUR: 'it returns false'. Refute it at one input. -/
def solveBareWrong : ChangeSpec := { name := "solveBare", fn := fun _ => fun
  | [d1, d2] => { results := [.lit (.bool false)], args := [d1, d2] }
  | _ => none }
def SolveBareWrongFalsely : Prop := solveBareRow.holds Try.pinned (OpenSpec.ofChange solveBareWrong)

/- THE SECOND FORM. 'bulk': how many values and letters a reading holds, each counted each time it is reached (what is shared counts as often as it is met; a slice's spare places count too). A statement '..UptoSaid' is the law's where the arguments, and the package variables that the reading takes, are together of bulk at most 1048576: NARROWER than '..Said'. Prove '..Said' where nothing that the law and all that it calls make is longer than what came in: it says more and counts as full. Else prove '..UptoSaid'. A law counts once. -/
mutual
def uptoBulk {H : Type} : DataW H → Nat
  | .lit (.string bytes) => bytes.length + 1
  | .lit _ => 1
  | .nil => 1
  | .ptr d => uptoBulk d + 1
  | .slice elems spare => uptoBulkAll elems + uptoBulkAll spare + 1
  | .agg parts => uptoBulkAll parts + 1
  | .iface _ d => uptoBulk d + 1
  | .map entries => uptoBulkEntries entries + 1
  | .held _ => 1
def uptoBulkAll {H : Type} : List (DataW H) → Nat
  | [] => 0
  | d :: r => uptoBulk d + uptoBulkAll r
def uptoBulkEntries {H : Type} : List (Lit × DataW H) → Nat
  | [] => 0
  | x :: r => uptoBulkEntry x + uptoBulkEntries r
def uptoBulkEntry {H : Type} : Lit × DataW H → Nat
  | (.string bytes, d) => bytes.length + uptoBulk d + 1
  | (_, d) => uptoBulk d + 1
 end
def uptoSmall : (H : Type) → List (DataW H) → Bool := fun _ ds => decide (uptoBulkAll ds ≤ 1048576)
def OpenSpec.upto (s : _root_.Go.ChangeSpec) : _root_.Go.OpenSpec := { _root_.Go.OpenSpec.ofChange s with cond := some uptoSmall }

/-- 'maquettelaw15.StableChoice', WHERE WHAT IT READS IS OF BULK AT MOST 1048576: true; the input reads as it did. -/
def stableChoiceUptoRow : OpenClaim := { program := "ytajkgmmmkhekmaa", sum := "bf6878feb09d85c4080e16069918382e48e110364b9c9b77621c0f61f324f09c", func := "maquette/maquettelaw15.StableChoice", spec := "stableChoice", unfollowed := true, recurses := true, apart := false, narrowed := true }
def StableChoiceUptoSaid : Prop := stableChoiceUptoRow.holds Try.pinned (OpenSpec.upto stableChoiceSpec)

/-- 'maquettelaw15.StableIs', WHERE WHAT IT READS IS OF BULK AT MOST 1048576: true; the input reads as it did. -/
def stableIsUptoRow : OpenClaim := { program := "ytajkgmmmkhekmaa", sum := "bf6878feb09d85c4080e16069918382e48e110364b9c9b77621c0f61f324f09c", func := "maquette/maquettelaw15.StableIs", spec := "stableIs", unfollowed := true, recurses := true, apart := false, narrowed := true }
def StableIsUptoSaid : Prop := stableIsUptoRow.holds Try.pinned (OpenSpec.upto stableIsSpec)

/-- 'maquettelaw15.StableFixed', WHERE WHAT IT READS IS OF BULK AT MOST 1048576: true; the input reads as it did. -/
def stableFixedUptoRow : OpenClaim := { program := "ytajkgmmmkhekmaa", sum := "bf6878feb09d85c4080e16069918382e48e110364b9c9b77621c0f61f324f09c", func := "maquette/maquettelaw15.StableFixed", spec := "stableFixed", unfollowed := true, recurses := true, apart := false, narrowed := true }
def StableFixedUptoSaid : Prop := stableFixedUptoRow.holds Try.pinned (OpenSpec.upto stableFixedSpec)

/-- 'maquettelaw15.StableOrigin', WHERE WHAT IT READS IS OF BULK AT MOST 1048576: true; the input reads as it did. -/
def stableOriginUptoRow : OpenClaim := { program := "ytajkgmmmkhekmaa", sum := "bf6878feb09d85c4080e16069918382e48e110364b9c9b77621c0f61f324f09c", func := "maquette/maquettelaw15.StableOrigin", spec := "stableOrigin", unfollowed := true, recurses := true, apart := false, narrowed := true }
def StableOriginUptoSaid : Prop := stableOriginUptoRow.holds Try.pinned (OpenSpec.upto stableOriginSpec)

/-- 'maquettelaw16.SolveLikes', WHERE WHAT IT READS IS OF BULK AT MOST 1048576: true; the input reads as it did. -/
def solveLikesUptoRow : OpenClaim := { program := "ytajkgmmmkhekmaa", sum := "bf6878feb09d85c4080e16069918382e48e110364b9c9b77621c0f61f324f09c", func := "maquette/maquettelaw16.SolveLikes", spec := "solveLikes", unfollowed := true, recurses := true, apart := false, narrowed := true }
def SolveLikesUptoSaid : Prop := solveLikesUptoRow.holds Try.pinned (OpenSpec.upto solveLikesSpec)

/-- 'maquettelaw16.SolveNothing', WHERE WHAT IT READS IS OF BULK AT MOST 1048576: true; the input reads as it did. -/
def solveNothingUptoRow : OpenClaim := { program := "ytajkgmmmkhekmaa", sum := "bf6878feb09d85c4080e16069918382e48e110364b9c9b77621c0f61f324f09c", func := "maquette/maquettelaw16.SolveNothing", spec := "solveNothing", unfollowed := true, recurses := true, apart := false, narrowed := true }
def SolveNothingUptoSaid : Prop := solveNothingUptoRow.holds Try.pinned (OpenSpec.upto solveNothingSpec)

/-- 'maquettelaw16.SolveOrder', WHERE WHAT IT READS IS OF BULK AT MOST 1048576: true; the input reads as it did. -/
def solveOrderUptoRow : OpenClaim := { program := "ytajkgmmmkhekmaa", sum := "bf6878feb09d85c4080e16069918382e48e110364b9c9b77621c0f61f324f09c", func := "maquette/maquettelaw16.SolveOrder", spec := "solveOrder", unfollowed := true, recurses := true, apart := false, narrowed := true }
def SolveOrderUptoSaid : Prop := solveOrderUptoRow.holds Try.pinned (OpenSpec.upto solveOrderSpec)

/-- 'maquettelaw16.SolveGreedy', WHERE WHAT IT READS IS OF BULK AT MOST 1048576: true; the input reads as it did. -/
def solveGreedyUptoRow : OpenClaim := { program := "ytajkgmmmkhekmaa", sum := "bf6878feb09d85c4080e16069918382e48e110364b9c9b77621c0f61f324f09c", func := "maquette/maquettelaw16.SolveGreedy", spec := "solveGreedy", unfollowed := true, recurses := true, apart := false, narrowed := true }
def SolveGreedyUptoSaid : Prop := solveGreedyUptoRow.holds Try.pinned (OpenSpec.upto solveGreedySpec)

/-- 'maquettelaw16.SolveSweep', WHERE WHAT IT READS IS OF BULK AT MOST 1048576: true; the input reads as it did. -/
def solveSweepUptoRow : OpenClaim := { program := "ytajkgmmmkhekmaa", sum := "bf6878feb09d85c4080e16069918382e48e110364b9c9b77621c0f61f324f09c", func := "maquette/maquettelaw16.SolveSweep", spec := "solveSweep", unfollowed := true, recurses := true, apart := false, narrowed := true }
def SolveSweepUptoSaid : Prop := solveSweepUptoRow.holds Try.pinned (OpenSpec.upto solveSweepSpec)

/-- 'maquettelaw16.SolveBare', WHERE WHAT IT READS IS OF BULK AT MOST 1048576: true; the input reads as it did. -/
def solveBareUptoRow : OpenClaim := { program := "ytajkgmmmkhekmaa", sum := "bf6878feb09d85c4080e16069918382e48e110364b9c9b77621c0f61f324f09c", func := "maquette/maquettelaw16.SolveBare", spec := "solveBare", unfollowed := true, recurses := true, apart := false, narrowed := true }
def SolveBareUptoSaid : Prop := solveBareUptoRow.holds Try.pinned (OpenSpec.upto solveBareSpec)

end Rows
end Go.Proofs.Ytajkgmmmkhekmaa
