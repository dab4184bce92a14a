/-
  No cell of these rows narrows 'for every input' (looked for: loops, veiled, ifaces, maps, wideKeys, modest, calm, conditions, laid).
  DERIVED. THE GIVEN ROWS OF THIS SEAT. 5 by the template 'for every input the law returns true; each argument reads behind the call as it read before'; 0 by the template 'total and deterministic' (their statements: YtdnpmfkicgooaaaTotals.lean).
  GIVEN WITH THE SEED: the statements are not yours to turn. If you find one false, say at which input.
  Laid BY PROGRAM, IN A SANDBOX (cutbox-rows.mjs): the forced cells as the released guide's own fill.sh prints them over the translation c35cd04f8e346826… (all of the seat's roots in one cut). By AI agents, Wed Nov 11 2026. No macro, syntax, notation, axiom, sorry.
-/
import Derived.Test.YtdnpmfkicgooaaaChecked
import GoSem.Claim
import GoSem.ClaimJoined
import GoSem.ClaimMapViews
import Derived.JoinedTies
import Derived.KernelRfl
namespace Go.Proofs.Ytdnpmfkicgooaaa
/- THE CELL 'sum', in the pinned program and in every row, IS THE sha256 OF THE DUMP (.gsa) THAT YtdnpmfkicgooaaaProg.lean LOADS. Nothing in Lean hashes anything: it is a label: what it is worth is what the hold of that sum in a sandbox is worth. -/
noncomputable def Try.pinned : Pinned := { name := "ytdnpmfkicgooaaa", sum := "c35cd04f8e346826eb55acfdc2786cfc2b418eb3349f9fcc6d3925e6ca7cb3d0", checked := Try.checked }
namespace Rows
def none {H : Type} : Left H := { results := [], args := [] }

/-- 'maquettelaw10.AttrBetter': WHATEVER THE INPUT: true; the input reads as it did. -/
def attrBetterSpec : ChangeSpec := { name := "attrBetter", fn := fun _ => fun
  | [d1, d2] => { results := [.lit (.bool true)], args := [d1, d2] }
  | _ => none }
def attrBetterRow : OpenClaim := { program := "ytdnpmfkicgooaaa", sum := "c35cd04f8e346826eb55acfdc2786cfc2b418eb3349f9fcc6d3925e6ca7cb3d0", func := "maquette/maquettelaw10.AttrBetter", spec := "attrBetter", apart := false }
def AttrBetterSaid : Prop := attrBetterRow.holds Try.pinned (OpenSpec.ofChange attrBetterSpec)

/-- ITS FALSE NEIGHBOUR: 'it returns false'. Refute it at one input. -/
def attrBetterWrong : ChangeSpec := { name := "attrBetter", fn := fun _ => fun
  | [d1, d2] => { results := [.lit (.bool false)], args := [d1, d2] }
  | _ => none }
def AttrBetterWrongFalsely : Prop := attrBetterRow.holds Try.pinned (OpenSpec.ofChange attrBetterWrong)

/-- 'maquettelaw10.AttrOrder': WHATEVER THE INPUT: true; the input reads as it did. -/
def attrOrderSpec : ChangeSpec := { name := "attrOrder", fn := fun _ => fun
  | [d1, d2, d3] => { results := [.lit (.bool true)], args := [d1, d2, d3] }
  | _ => none }
def attrOrderRow : OpenClaim := { program := "ytdnpmfkicgooaaa", sum := "c35cd04f8e346826eb55acfdc2786cfc2b418eb3349f9fcc6d3925e6ca7cb3d0", func := "maquette/maquettelaw10.AttrOrder", spec := "attrOrder", apart := false }
def AttrOrderSaid : Prop := attrOrderRow.holds Try.pinned (OpenSpec.ofChange attrOrderSpec)

/-- ITS FALSE NEIGHBOUR: 'it returns false'. Refute it at one input. -/
def attrOrderWrong : ChangeSpec := { name := "attrOrder", fn := fun _ => fun
  | [d1, d2, d3] => { results := [.lit (.bool false)], args := [d1, d2, d3] }
  | _ => none }
def AttrOrderWrongFalsely : Prop := attrOrderRow.holds Try.pinned (OpenSpec.ofChange attrOrderWrong)

/-- 'maquettelaw10.AttrSame': WHATEVER THE INPUT: true; the input reads as it did. -/
def attrSameSpec : ChangeSpec := { name := "attrSame", fn := fun _ => fun
  | [d1, d2] => { results := [.lit (.bool true)], args := [d1, d2] }
  | _ => none }
def attrSameRow : OpenClaim := { program := "ytdnpmfkicgooaaa", sum := "c35cd04f8e346826eb55acfdc2786cfc2b418eb3349f9fcc6d3925e6ca7cb3d0", func := "maquette/maquettelaw10.AttrSame", spec := "attrSame", apart := false }
def AttrSameSaid : Prop := attrSameRow.holds Try.pinned (OpenSpec.ofChange attrSameSpec)

/-- ITS FALSE NEIGHBOUR: 'it returns false'. Refute it at one input. -/
def attrSameWrong : ChangeSpec := { name := "attrSame", fn := fun _ => fun
  | [d1, d2] => { results := [.lit (.bool false)], args := [d1, d2] }
  | _ => none }
def AttrSameWrongFalsely : Prop := attrSameRow.holds Try.pinned (OpenSpec.ofChange attrSameWrong)

/-- 'maquettelaw10.AttrBest': WHATEVER THE INPUT: true; the input reads as it did. -/
def attrBestSpec : ChangeSpec := { name := "attrBest", fn := fun _ => fun
  | [d] => { results := [.lit (.bool true)], args := [d] }
  | _ => none }
def attrBestRow : OpenClaim := { program := "ytdnpmfkicgooaaa", sum := "c35cd04f8e346826eb55acfdc2786cfc2b418eb3349f9fcc6d3925e6ca7cb3d0", func := "maquette/maquettelaw10.AttrBest", spec := "attrBest", apart := false }
def AttrBestSaid : Prop := attrBestRow.holds Try.pinned (OpenSpec.ofChange attrBestSpec)

/-- ITS FALSE NEIGHBOUR: 'it returns false'. Refute it at one input. -/
def attrBestWrong : ChangeSpec := { name := "attrBest", fn := fun _ => fun
  | [d] => { results := [.lit (.bool false)], args := [d] }
  | _ => none }
def AttrBestWrongFalsely : Prop := attrBestRow.holds Try.pinned (OpenSpec.ofChange attrBestWrong)

/-- 'maquettelaw10.AttrParts': WHATEVER THE INPUT: true; the input reads as it did. -/
def attrPartsSpec : ChangeSpec := { name := "attrParts", fn := fun _ => fun
  | [d1, d2] => { results := [.lit (.bool true)], args := [d1, d2] }
  | _ => none }
def attrPartsRow : OpenClaim := { program := "ytdnpmfkicgooaaa", sum := "c35cd04f8e346826eb55acfdc2786cfc2b418eb3349f9fcc6d3925e6ca7cb3d0", func := "maquette/maquettelaw10.AttrParts", spec := "attrParts", apart := false }
def AttrPartsSaid : Prop := attrPartsRow.holds Try.pinned (OpenSpec.ofChange attrPartsSpec)

/-- ITS FALSE NEIGHBOUR: 'it returns false'. Refute it at one input. -/
def attrPartsWrong : ChangeSpec := { name := "attrParts", fn := fun _ => fun
  | [d1, d2] => { results := [.lit (.bool false)], args := [d1, d2] }
  | _ => none }
def AttrPartsWrongFalsely : Prop := attrPartsRow.holds Try.pinned (OpenSpec.ofChange attrPartsWrong)

/- THE SECOND FORM. 'bulk': how many values and letters a reading holds, each counted each time it is reached (what is shared counts as often as it is met; a slice's spare places count too). A statement '..UptoSaid' is the law's where the arguments, and the package variables that the reading takes, are together of bulk at most 1048576: NARROWER than '..Said'. Prove '..Said' where nothing that the law and all that it calls make is longer than what came in: it says more and counts as full. Else prove '..UptoSaid'. A law counts once. -/
mutual
def uptoBulk {H : Type} : DataW H → Nat
  | .lit (.string bytes) => bytes.length + 1
  | .lit _ => 1
  | .nil => 1
  | .ptr d => uptoBulk d + 1
  | .slice elems spare => uptoBulkAll elems + uptoBulkAll spare + 1
  | .agg parts => uptoBulkAll parts + 1
  | .iface _ d => uptoBulk d + 1
  | .map entries => uptoBulkEntries entries + 1
  | .held _ => 1
def uptoBulkAll {H : Type} : List (DataW H) → Nat
  | [] => 0
  | d :: r => uptoBulk d + uptoBulkAll r
def uptoBulkEntries {H : Type} : List (Lit × DataW H) → Nat
  | [] => 0
  | x :: r => uptoBulkEntry x + uptoBulkEntries r
def uptoBulkEntry {H : Type} : Lit × DataW H → Nat
  | (.string bytes, d) => bytes.length + uptoBulk d + 1
  | (_, d) => uptoBulk d + 1
 end
def uptoSmall : (H : Type) → List (DataW H) → Bool := fun _ ds => decide (uptoBulkAll ds ≤ 1048576)
def OpenSpec.upto (s : _root_.Go.ChangeSpec) : _root_.Go.OpenSpec := { _root_.Go.OpenSpec.ofChange s with cond := some uptoSmall }

/-- 'maquettelaw10.AttrBetter', WHERE WHAT IT READS IS OF BULK AT MOST 1048576: true; the input reads as it did. -/
def attrBetterUptoRow : OpenClaim := { program := "ytdnpmfkicgooaaa", sum := "c35cd04f8e346826eb55acfdc2786cfc2b418eb3349f9fcc6d3925e6ca7cb3d0", func := "maquette/maquettelaw10.AttrBetter", spec := "attrBetter", apart := false, narrowed := true }
def AttrBetterUptoSaid : Prop := attrBetterUptoRow.holds Try.pinned (OpenSpec.upto attrBetterSpec)

/-- 'maquettelaw10.AttrOrder', WHERE WHAT IT READS IS OF BULK AT MOST 1048576: true; the input reads as it did. -/
def attrOrderUptoRow : OpenClaim := { program := "ytdnpmfkicgooaaa", sum := "c35cd04f8e346826eb55acfdc2786cfc2b418eb3349f9fcc6d3925e6ca7cb3d0", func := "maquette/maquettelaw10.AttrOrder", spec := "attrOrder", apart := false, narrowed := true }
def AttrOrderUptoSaid : Prop := attrOrderUptoRow.holds Try.pinned (OpenSpec.upto attrOrderSpec)

/-- 'maquettelaw10.AttrSame', WHERE WHAT IT READS IS OF BULK AT MOST 1048576: true; the input reads as it did. -/
def attrSameUptoRow : OpenClaim := { program := "ytdnpmfkicgooaaa", sum := "c35cd04f8e346826eb55acfdc2786cfc2b418eb3349f9fcc6d3925e6ca7cb3d0", func := "maquette/maquettelaw10.AttrSame", spec := "attrSame", apart := false, narrowed := true }
def AttrSameUptoSaid : Prop := attrSameUptoRow.holds Try.pinned (OpenSpec.upto attrSameSpec)

/-- 'maquettelaw10.AttrBest', WHERE WHAT IT READS IS OF BULK AT MOST 1048576: true; the input reads as it did. -/
def attrBestUptoRow : OpenClaim := { program := "ytdnpmfkicgooaaa", sum := "c35cd04f8e346826eb55acfdc2786cfc2b418eb3349f9fcc6d3925e6ca7cb3d0", func := "maquette/maquettelaw10.AttrBest", spec := "attrBest", apart := false, narrowed := true }
def AttrBestUptoSaid : Prop := attrBestUptoRow.holds Try.pinned (OpenSpec.upto attrBestSpec)

/-- 'maquettelaw10.AttrParts', WHERE WHAT IT READS IS OF BULK AT MOST 1048576: true; the input reads as it did. -/
def attrPartsUptoRow : OpenClaim := { program := "ytdnpmfkicgooaaa", sum := "c35cd04f8e346826eb55acfdc2786cfc2b418eb3349f9fcc6d3925e6ca7cb3d0", func := "maquette/maquettelaw10.AttrParts", spec := "attrParts", apart := false, narrowed := true }
def AttrPartsUptoSaid : Prop := attrPartsUptoRow.holds Try.pinned (OpenSpec.upto attrPartsSpec)

end Rows
end Go.Proofs.Ytdnpmfkicgooaaa
