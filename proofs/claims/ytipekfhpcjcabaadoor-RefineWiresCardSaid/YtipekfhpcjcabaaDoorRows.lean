/-
  NARROWER THAN 'FOR EVERY INPUT', by the rows' own cells (each row's printed sentence says how): QuotientSelf: laid · SimMay: laid · AuditRaw: laid · AuditSelf: laid · RefineWires: laid · QuotientOf: laid.
  DERIVED. THE GIVEN ROWS OF THIS SEAT. 6 by the template 'for every input the law returns true; each argument reads behind the call as it read before'; 0 by the template 'total and deterministic' (their statements: YtipekfhpcjcabaaDoorTotals.lean).
  GIVEN WITH THE SEED: the statements are not yours to turn. If you find one false, say at which input.
  Laid BY PROGRAM, IN A SANDBOX (cutbox-rows.mjs): the forced cells as the released guide's own fill.sh prints them over the translation 09b5d0b3b1e21388… (all of the seat's roots in one cut). By AI agents, Wed Nov 11 2026. No macro, syntax, notation, axiom, sorry.
-/
import Derived.Test.YtipekfhpcjcabaaDoorChecked
import GoSem.Claim
import GoSem.ClaimJoined
import GoSem.ClaimMapViews
import Derived.JoinedTies
import Derived.KernelRfl
namespace Go.Proofs.YtipekfhpcjcabaaDoor
/- THE CELL 'sum', in the pinned program and in every row, IS THE sha256 OF THE DUMP (.gsa) THAT YtipekfhpcjcabaaDoorProg.lean LOADS. Nothing in Lean hashes anything: it is a label: what it is worth is what the hold of that sum in a sandbox is worth. -/
noncomputable def Tryd.pinned : Pinned := { name := "ytipekfhpcjcabaadoor", sum := "09b5d0b3b1e21388acc9356d5400b24e01332ee36f76ab3f6461e6d381f6dd68", checked := Tryd.checked }
namespace Rows
def none {H : Type} : Left H := { results := [], args := [] }

/- WHAT THE LISTED PACKAGE-LEVEL VARIABLES READ AS WHEN THE CALL BEGINS. Each datum BY PROGRAM (the guide's laid-datum.mjs) off the statement by which the dump's own 'gosem.cut.vars' lays the variable. In a bare row this is a premise. The card (YtipekfhpcjcabaaDoorCards.lean) ties it to the program's text. -/
def laid_errors_errorType {H : Type} : DataW H := .iface "internal/reflectlite.rtype" (.agg [.ptr (.lit (.string [101, 114, 114, 111, 114]))])

/-- 'maquettelaw18.QuotientSelf': WHATEVER THE INPUT: true; the input reads as it did. -/
def quotientSelfSpec : ChangeSpec := { name := "quotientSelf", fn := fun _ => fun
  | [d1, d2, d3] => { results := [.lit (.bool true)], args := [d1, d2, d3] }
  | _ => none }
def quotientSelfRow : OpenClaim := { program := "ytipekfhpcjcabaadoor", sum := "09b5d0b3b1e21388acc9356d5400b24e01332ee36f76ab3f6461e6d381f6dd68", func := "maquette/maquettelaw18.QuotientSelf", spec := "quotientSelf", inPlace := ["internal/reflectlite.ValueOf", "(internal/reflectlite.Value).Type", "(internal/reflectlite.Value).IsNil", "internal/reflectlite.TypeOf", "(internal/reflectlite.Value).Elem", "(internal/reflectlite.Value).Set"], unfollowed := true, recurses := true, named := ["errors.errorType"], plainKeys := false, leaving := true, apart := false, laid := [("errors.errorType", laid_errors_errorType)] }
def QuotientSelfSaid : Prop := quotientSelfRow.holds Tryd.pinned (OpenSpec.ofChange quotientSelfSpec)

/-- ITS FALSE NEIGHBOUR: 'it returns false'. Refute it at one input. -/
def quotientSelfWrong : ChangeSpec := { name := "quotientSelf", fn := fun _ => fun
  | [d1, d2, d3] => { results := [.lit (.bool false)], args := [d1, d2, d3] }
  | _ => none }
def QuotientSelfWrongFalsely : Prop := quotientSelfRow.holds Tryd.pinned (OpenSpec.ofChange quotientSelfWrong)

/-- 'maquettelaw22.SimMay': WHATEVER THE INPUT: true; the input reads as it did. -/
def simMaySpec : ChangeSpec := { name := "simMay", fn := fun _ => fun
  | [d1, d2, d3] => { results := [.lit (.bool true)], args := [d1, d2, d3] }
  | _ => none }
def simMayRow : OpenClaim := { program := "ytipekfhpcjcabaadoor", sum := "09b5d0b3b1e21388acc9356d5400b24e01332ee36f76ab3f6461e6d381f6dd68", func := "maquette/maquettelaw22.SimMay", spec := "simMay", inPlace := ["internal/reflectlite.ValueOf", "(internal/reflectlite.Value).Type", "(internal/reflectlite.Value).IsNil", "internal/reflectlite.TypeOf", "(internal/reflectlite.Value).Elem", "(internal/reflectlite.Value).Set"], unfollowed := true, recurses := true, named := ["errors.errorType"], plainKeys := false, leaving := true, apart := false, laid := [("errors.errorType", laid_errors_errorType)] }
def SimMaySaid : Prop := simMayRow.holds Tryd.pinned (OpenSpec.ofChange simMaySpec)

/-- ITS FALSE NEIGHBOUR: 'it returns false'. Refute it at one input. -/
def simMayWrong : ChangeSpec := { name := "simMay", fn := fun _ => fun
  | [d1, d2, d3] => { results := [.lit (.bool false)], args := [d1, d2, d3] }
  | _ => none }
def SimMayWrongFalsely : Prop := simMayRow.holds Tryd.pinned (OpenSpec.ofChange simMayWrong)

/-- 'maquettelaw19.AuditRaw': WHATEVER THE INPUT: true; the input reads as it did. -/
def auditRawSpec : ChangeSpec := { name := "auditRaw", fn := fun _ => fun
  | [d1, d2, d3] => { results := [.lit (.bool true)], args := [d1, d2, d3] }
  | _ => none }
def auditRawRow : OpenClaim := { program := "ytipekfhpcjcabaadoor", sum := "09b5d0b3b1e21388acc9356d5400b24e01332ee36f76ab3f6461e6d381f6dd68", func := "maquette/maquettelaw19.AuditRaw", spec := "auditRaw", inPlace := ["internal/reflectlite.ValueOf", "(internal/reflectlite.Value).Type", "(internal/reflectlite.Value).IsNil", "internal/reflectlite.TypeOf", "(internal/reflectlite.Value).Elem", "(internal/reflectlite.Value).Set"], unfollowed := true, recurses := true, named := ["errors.errorType"], plainKeys := false, leaving := true, apart := false, laid := [("errors.errorType", laid_errors_errorType)] }
def AuditRawSaid : Prop := auditRawRow.holds Tryd.pinned (OpenSpec.ofChange auditRawSpec)

/-- ITS FALSE NEIGHBOUR: 'it returns false'. Refute it at one input. -/
def auditRawWrong : ChangeSpec := { name := "auditRaw", fn := fun _ => fun
  | [d1, d2, d3] => { results := [.lit (.bool false)], args := [d1, d2, d3] }
  | _ => none }
def AuditRawWrongFalsely : Prop := auditRawRow.holds Tryd.pinned (OpenSpec.ofChange auditRawWrong)

/-- 'maquettelaw19.AuditSelf': WHATEVER THE INPUT: true; the input reads as it did. -/
def auditSelfSpec : ChangeSpec := { name := "auditSelf", fn := fun _ => fun
  | [d1, d2, d3] => { results := [.lit (.bool true)], args := [d1, d2, d3] }
  | _ => none }
def auditSelfRow : OpenClaim := { program := "ytipekfhpcjcabaadoor", sum := "09b5d0b3b1e21388acc9356d5400b24e01332ee36f76ab3f6461e6d381f6dd68", func := "maquette/maquettelaw19.AuditSelf", spec := "auditSelf", inPlace := ["internal/reflectlite.ValueOf", "(internal/reflectlite.Value).Type", "(internal/reflectlite.Value).IsNil", "internal/reflectlite.TypeOf", "(internal/reflectlite.Value).Elem", "(internal/reflectlite.Value).Set"], unfollowed := true, recurses := true, named := ["errors.errorType"], plainKeys := false, leaving := true, apart := false, laid := [("errors.errorType", laid_errors_errorType)] }
def AuditSelfSaid : Prop := auditSelfRow.holds Tryd.pinned (OpenSpec.ofChange auditSelfSpec)

/-- ITS FALSE NEIGHBOUR: 'it returns false'. Refute it at one input. -/
def auditSelfWrong : ChangeSpec := { name := "auditSelf", fn := fun _ => fun
  | [d1, d2, d3] => { results := [.lit (.bool false)], args := [d1, d2, d3] }
  | _ => none }
def AuditSelfWrongFalsely : Prop := auditSelfRow.holds Tryd.pinned (OpenSpec.ofChange auditSelfWrong)

/-- 'maquettelaw17.RefineWires': WHATEVER THE INPUT: true; the input reads as it did. -/
def refineWiresSpec : ChangeSpec := { name := "refineWires", fn := fun _ => fun
  | [d1, d2, d3] => { results := [.lit (.bool true)], args := [d1, d2, d3] }
  | _ => none }
def refineWiresRow : OpenClaim := { program := "ytipekfhpcjcabaadoor", sum := "09b5d0b3b1e21388acc9356d5400b24e01332ee36f76ab3f6461e6d381f6dd68", func := "maquette/maquettelaw17.RefineWires", spec := "refineWires", inPlace := ["internal/reflectlite.ValueOf", "(internal/reflectlite.Value).Type", "(internal/reflectlite.Value).IsNil", "internal/reflectlite.TypeOf", "(internal/reflectlite.Value).Elem", "(internal/reflectlite.Value).Set"], unfollowed := true, recurses := true, named := ["errors.errorType"], plainKeys := false, leaving := true, apart := false, laid := [("errors.errorType", laid_errors_errorType)] }
def RefineWiresSaid : Prop := refineWiresRow.holds Tryd.pinned (OpenSpec.ofChange refineWiresSpec)

/-- ITS FALSE NEIGHBOUR: 'it returns false'. Refute it at one input. -/
def refineWiresWrong : ChangeSpec := { name := "refineWires", fn := fun _ => fun
  | [d1, d2, d3] => { results := [.lit (.bool false)], args := [d1, d2, d3] }
  | _ => none }
def RefineWiresWrongFalsely : Prop := refineWiresRow.holds Tryd.pinned (OpenSpec.ofChange refineWiresWrong)

/-- 'maquettelaw18.QuotientOf': WHATEVER THE INPUT: true; the input reads as it did. -/
def quotientOfSpec : ChangeSpec := { name := "quotientOf", fn := fun _ => fun
  | [d1, d2, d3] => { results := [.lit (.bool true)], args := [d1, d2, d3] }
  | _ => none }
def quotientOfRow : OpenClaim := { program := "ytipekfhpcjcabaadoor", sum := "09b5d0b3b1e21388acc9356d5400b24e01332ee36f76ab3f6461e6d381f6dd68", func := "maquette/maquettelaw18.QuotientOf", spec := "quotientOf", inPlace := ["internal/reflectlite.ValueOf", "(internal/reflectlite.Value).Type", "(internal/reflectlite.Value).IsNil", "internal/reflectlite.TypeOf", "(internal/reflectlite.Value).Elem", "(internal/reflectlite.Value).Set"], unfollowed := true, recurses := true, named := ["errors.errorType"], plainKeys := false, leaving := true, apart := false, laid := [("errors.errorType", laid_errors_errorType)] }
def QuotientOfSaid : Prop := quotientOfRow.holds Tryd.pinned (OpenSpec.ofChange quotientOfSpec)

/-- ITS FALSE NEIGHBOUR: 'it returns false'. Refute it at one input. -/
def quotientOfWrong : ChangeSpec := { name := "quotientOf", fn := fun _ => fun
  | [d1, d2, d3] => { results := [.lit (.bool false)], args := [d1, d2, d3] }
  | _ => none }
def QuotientOfWrongFalsely : Prop := quotientOfRow.holds Tryd.pinned (OpenSpec.ofChange quotientOfWrong)

/- THE SECOND FORM. 'bulk': how many values and letters a reading holds, each counted each time it is reached (what is shared counts as often as it is met; a slice's spare places count too). A statement '..UptoSaid' is the law's where the arguments, and the package variables that the reading takes, are together of bulk at most 1048576: NARROWER than '..Said'. Prove '..Said' where nothing that the law and all that it calls make is longer than what came in: it says more and counts as full. Else prove '..UptoSaid'. A law counts once. -/
mutual
def uptoBulk {H : Type} : DataW H → Nat
  | .lit (.string bytes) => bytes.length + 1
  | .lit _ => 1
  | .nil => 1
  | .ptr d => uptoBulk d + 1
  | .slice elems spare => uptoBulkAll elems + uptoBulkAll spare + 1
  | .agg parts => uptoBulkAll parts + 1
  | .iface _ d => uptoBulk d + 1
  | .map entries => uptoBulkEntries entries + 1
  | .held _ => 1
def uptoBulkAll {H : Type} : List (DataW H) → Nat
  | [] => 0
  | d :: r => uptoBulk d + uptoBulkAll r
def uptoBulkEntries {H : Type} : List (Lit × DataW H) → Nat
  | [] => 0
  | x :: r => uptoBulkEntry x + uptoBulkEntries r
def uptoBulkEntry {H : Type} : Lit × DataW H → Nat
  | (.string bytes, d) => bytes.length + uptoBulk d + 1
  | (_, d) => uptoBulk d + 1
 end
def uptoSmall : (H : Type) → List (DataW H) → Bool := fun _ ds => decide (uptoBulkAll ds ≤ 1048576)
def OpenSpec.upto (s : _root_.Go.ChangeSpec) : _root_.Go.OpenSpec := { _root_.Go.OpenSpec.ofChange s with cond := some uptoSmall }

/-- 'maquettelaw18.QuotientSelf', WHERE WHAT IT READS IS OF BULK AT MOST 1048576: true; the input reads as it did. -/
def quotientSelfUptoRow : OpenClaim := { program := "ytipekfhpcjcabaadoor", sum := "09b5d0b3b1e21388acc9356d5400b24e01332ee36f76ab3f6461e6d381f6dd68", func := "maquette/maquettelaw18.QuotientSelf", spec := "quotientSelf", inPlace := ["internal/reflectlite.ValueOf", "(internal/reflectlite.Value).Type", "(internal/reflectlite.Value).IsNil", "internal/reflectlite.TypeOf", "(internal/reflectlite.Value).Elem", "(internal/reflectlite.Value).Set"], unfollowed := true, recurses := true, named := ["errors.errorType"], plainKeys := false, leaving := true, apart := false, laid := [("errors.errorType", laid_errors_errorType)], narrowed := true }
def QuotientSelfUptoSaid : Prop := quotientSelfUptoRow.holds Tryd.pinned (OpenSpec.upto quotientSelfSpec)

/-- 'maquettelaw22.SimMay', WHERE WHAT IT READS IS OF BULK AT MOST 1048576: true; the input reads as it did. -/
def simMayUptoRow : OpenClaim := { program := "ytipekfhpcjcabaadoor", sum := "09b5d0b3b1e21388acc9356d5400b24e01332ee36f76ab3f6461e6d381f6dd68", func := "maquette/maquettelaw22.SimMay", spec := "simMay", inPlace := ["internal/reflectlite.ValueOf", "(internal/reflectlite.Value).Type", "(internal/reflectlite.Value).IsNil", "internal/reflectlite.TypeOf", "(internal/reflectlite.Value).Elem", "(internal/reflectlite.Value).Set"], unfollowed := true, recurses := true, named := ["errors.errorType"], plainKeys := false, leaving := true, apart := false, laid := [("errors.errorType", laid_errors_errorType)], narrowed := true }
def SimMayUptoSaid : Prop := simMayUptoRow.holds Tryd.pinned (OpenSpec.upto simMaySpec)

/-- 'maquettelaw19.AuditRaw', WHERE WHAT IT READS IS OF BULK AT MOST 1048576: true; the input reads as it did. -/
def auditRawUptoRow : OpenClaim := { program := "ytipekfhpcjcabaadoor", sum := "09b5d0b3b1e21388acc9356d5400b24e01332ee36f76ab3f6461e6d381f6dd68", func := "maquette/maquettelaw19.AuditRaw", spec := "auditRaw", inPlace := ["internal/reflectlite.ValueOf", "(internal/reflectlite.Value).Type", "(internal/reflectlite.Value).IsNil", "internal/reflectlite.TypeOf", "(internal/reflectlite.Value).Elem", "(internal/reflectlite.Value).Set"], unfollowed := true, recurses := true, named := ["errors.errorType"], plainKeys := false, leaving := true, apart := false, laid := [("errors.errorType", laid_errors_errorType)], narrowed := true }
def AuditRawUptoSaid : Prop := auditRawUptoRow.holds Tryd.pinned (OpenSpec.upto auditRawSpec)

/-- 'maquettelaw19.AuditSelf', WHERE WHAT IT READS IS OF BULK AT MOST 1048576: true; the input reads as it did. -/
def auditSelfUptoRow : OpenClaim := { program := "ytipekfhpcjcabaadoor", sum := "09b5d0b3b1e21388acc9356d5400b24e01332ee36f76ab3f6461e6d381f6dd68", func := "maquette/maquettelaw19.AuditSelf", spec := "auditSelf", inPlace := ["internal/reflectlite.ValueOf", "(internal/reflectlite.Value).Type", "(internal/reflectlite.Value).IsNil", "internal/reflectlite.TypeOf", "(internal/reflectlite.Value).Elem", "(internal/reflectlite.Value).Set"], unfollowed := true, recurses := true, named := ["errors.errorType"], plainKeys := false, leaving := true, apart := false, laid := [("errors.errorType", laid_errors_errorType)], narrowed := true }
def AuditSelfUptoSaid : Prop := auditSelfUptoRow.holds Tryd.pinned (OpenSpec.upto auditSelfSpec)

/-- 'maquettelaw17.RefineWires', WHERE WHAT IT READS IS OF BULK AT MOST 1048576: true; the input reads as it did. -/
def refineWiresUptoRow : OpenClaim := { program := "ytipekfhpcjcabaadoor", sum := "09b5d0b3b1e21388acc9356d5400b24e01332ee36f76ab3f6461e6d381f6dd68", func := "maquette/maquettelaw17.RefineWires", spec := "refineWires", inPlace := ["internal/reflectlite.ValueOf", "(internal/reflectlite.Value).Type", "(internal/reflectlite.Value).IsNil", "internal/reflectlite.TypeOf", "(internal/reflectlite.Value).Elem", "(internal/reflectlite.Value).Set"], unfollowed := true, recurses := true, named := ["errors.errorType"], plainKeys := false, leaving := true, apart := false, laid := [("errors.errorType", laid_errors_errorType)], narrowed := true }
def RefineWiresUptoSaid : Prop := refineWiresUptoRow.holds Tryd.pinned (OpenSpec.upto refineWiresSpec)

/-- 'maquettelaw18.QuotientOf', WHERE WHAT IT READS IS OF BULK AT MOST 1048576: true; the input reads as it did. -/
def quotientOfUptoRow : OpenClaim := { program := "ytipekfhpcjcabaadoor", sum := "09b5d0b3b1e21388acc9356d5400b24e01332ee36f76ab3f6461e6d381f6dd68", func := "maquette/maquettelaw18.QuotientOf", spec := "quotientOf", inPlace := ["internal/reflectlite.ValueOf", "(internal/reflectlite.Value).Type", "(internal/reflectlite.Value).IsNil", "internal/reflectlite.TypeOf", "(internal/reflectlite.Value).Elem", "(internal/reflectlite.Value).Set"], unfollowed := true, recurses := true, named := ["errors.errorType"], plainKeys := false, leaving := true, apart := false, laid := [("errors.errorType", laid_errors_errorType)], narrowed := true }
def QuotientOfUptoSaid : Prop := quotientOfUptoRow.holds Tryd.pinned (OpenSpec.upto quotientOfSpec)

end Rows
end Go.Proofs.YtipekfhpcjcabaaDoor
