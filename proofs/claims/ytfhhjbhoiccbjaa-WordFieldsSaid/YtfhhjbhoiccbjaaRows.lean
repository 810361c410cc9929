/-
  No cell of these rows narrows 'for every input' (looked for: loops, veiled, ifaces, maps, wideKeys, modest, calm, conditions, laid).
  DERIVED. THE GIVEN ROWS OF THIS SEAT. 6 by the template 'for every input the law returns true; each argument reads behind the call as it read before'; 0 by the template 'total and deterministic' (their statements: YtfhhjbhoiccbjaaTotals.lean).
  GIVEN WITH THE SEED: the statements are not yours to turn. If you find one false, say at which input.
  Laid BY PROGRAM, IN A SANDBOX (cutbox-rows.mjs): the forced cells as the released guide's own fill.sh prints them over the translation 7c0d11ade5b564fe… (all of the seat's roots in one cut). By AI agents, Wed Nov 11 2026. No macro, syntax, notation, axiom, sorry.
-/
import Derived.Test.YtfhhjbhoiccbjaaChecked
import GoSem.Claim
import GoSem.ClaimJoined
import GoSem.ClaimMapViews
import Derived.JoinedTies
import Derived.KernelRfl
namespace Go.Proofs.Ytfhhjbhoiccbjaa
/- THE CELL 'sum', in the pinned program and in every row, IS THE sha256 OF THE DUMP (.gsa) THAT YtfhhjbhoiccbjaaProg.lean LOADS. Nothing in Lean hashes anything: it is a label: what it is worth is what the hold of that sum in a sandbox is worth. -/
noncomputable def Try.pinned : Pinned := { name := "ytfhhjbhoiccbjaa", sum := "7c0d11ade5b564fe45b3d4e8cdc9fe2bed4ccb250e165e949f125897b067b72d", checked := Try.checked }
namespace Rows
def none {H : Type} : Left H := { results := [], args := [] }

/-- 'typecaselaw01.WordHalves': WHATEVER THE INPUT: true; the input reads as it did. -/
def wordHalvesSpec : ChangeSpec := { name := "wordHalves", fn := fun _ => fun
  | [d] => { results := [.lit (.bool true)], args := [d] }
  | _ => none }
def wordHalvesRow : OpenClaim := { program := "ytfhhjbhoiccbjaa", sum := "7c0d11ade5b564fe45b3d4e8cdc9fe2bed4ccb250e165e949f125897b067b72d", func := "typecase/typecaselaw01.WordHalves", spec := "wordHalves", apart := false }
def WordHalvesSaid : Prop := wordHalvesRow.holds Try.pinned (OpenSpec.ofChange wordHalvesSpec)

/-- ITS FALSE NEIGHBOUR: 'it returns false'. Refute it at one input. -/
def wordHalvesWrong : ChangeSpec := { name := "wordHalves", fn := fun _ => fun
  | [d] => { results := [.lit (.bool false)], args := [d] }
  | _ => none }
def WordHalvesWrongFalsely : Prop := wordHalvesRow.holds Try.pinned (OpenSpec.ofChange wordHalvesWrong)

/-- 'typecaselaw01.WordBack': WHATEVER THE INPUT: true; the input reads as it did. -/
def wordBackSpec : ChangeSpec := { name := "wordBack", fn := fun _ => fun
  | [d1, d2] => { results := [.lit (.bool true)], args := [d1, d2] }
  | _ => none }
def wordBackRow : OpenClaim := { program := "ytfhhjbhoiccbjaa", sum := "7c0d11ade5b564fe45b3d4e8cdc9fe2bed4ccb250e165e949f125897b067b72d", func := "typecase/typecaselaw01.WordBack", spec := "wordBack", apart := false }
def WordBackSaid : Prop := wordBackRow.holds Try.pinned (OpenSpec.ofChange wordBackSpec)

/-- ITS FALSE NEIGHBOUR: 'it returns false'. Refute it at one input. -/
def wordBackWrong : ChangeSpec := { name := "wordBack", fn := fun _ => fun
  | [d1, d2] => { results := [.lit (.bool false)], args := [d1, d2] }
  | _ => none }
def WordBackWrongFalsely : Prop := wordBackRow.holds Try.pinned (OpenSpec.ofChange wordBackWrong)

/-- 'typecaselaw01.WordFields': WHATEVER THE INPUT: true; the input reads as it did. -/
def wordFieldsSpec : ChangeSpec := { name := "wordFields", fn := fun _ => fun
  | [d1, d2, d3] => { results := [.lit (.bool true)], args := [d1, d2, d3] }
  | _ => none }
def wordFieldsRow : OpenClaim := { program := "ytfhhjbhoiccbjaa", sum := "7c0d11ade5b564fe45b3d4e8cdc9fe2bed4ccb250e165e949f125897b067b72d", func := "typecase/typecaselaw01.WordFields", spec := "wordFields", apart := false }
def WordFieldsSaid : Prop := wordFieldsRow.holds Try.pinned (OpenSpec.ofChange wordFieldsSpec)

/-- ITS FALSE NEIGHBOUR: 'it returns false'. Refute it at one input. -/
def wordFieldsWrong : ChangeSpec := { name := "wordFields", fn := fun _ => fun
  | [d1, d2, d3] => { results := [.lit (.bool false)], args := [d1, d2, d3] }
  | _ => none }
def WordFieldsWrongFalsely : Prop := wordFieldsRow.holds Try.pinned (OpenSpec.ofChange wordFieldsWrong)

/-- 'typecaselaw01.WordFitting': WHATEVER THE INPUT: true; the input reads as it did. -/
def wordFittingSpec : ChangeSpec := { name := "wordFitting", fn := fun _ => fun
  | [d1, d2, d3] => { results := [.lit (.bool true)], args := [d1, d2, d3] }
  | _ => none }
def wordFittingRow : OpenClaim := { program := "ytfhhjbhoiccbjaa", sum := "7c0d11ade5b564fe45b3d4e8cdc9fe2bed4ccb250e165e949f125897b067b72d", func := "typecase/typecaselaw01.WordFitting", spec := "wordFitting", apart := false }
def WordFittingSaid : Prop := wordFittingRow.holds Try.pinned (OpenSpec.ofChange wordFittingSpec)

/-- ITS FALSE NEIGHBOUR: 'it returns false'. Refute it at one input. -/
def wordFittingWrong : ChangeSpec := { name := "wordFitting", fn := fun _ => fun
  | [d1, d2, d3] => { results := [.lit (.bool false)], args := [d1, d2, d3] }
  | _ => none }
def WordFittingWrongFalsely : Prop := wordFittingRow.holds Try.pinned (OpenSpec.ofChange wordFittingWrong)

/-- 'typecaselaw01.WordDivides': WHATEVER THE INPUT: true; the input reads as it did. -/
def wordDividesSpec : ChangeSpec := { name := "wordDivides", fn := fun _ => fun
  | [d1, d2, d3, d4] => { results := [.lit (.bool true)], args := [d1, d2, d3, d4] }
  | _ => none }
def wordDividesRow : OpenClaim := { program := "ytfhhjbhoiccbjaa", sum := "7c0d11ade5b564fe45b3d4e8cdc9fe2bed4ccb250e165e949f125897b067b72d", func := "typecase/typecaselaw01.WordDivides", spec := "wordDivides", apart := false }
def WordDividesSaid : Prop := wordDividesRow.holds Try.pinned (OpenSpec.ofChange wordDividesSpec)

/-- ITS FALSE NEIGHBOUR: 'it returns false'. Refute it at one input. -/
def wordDividesWrong : ChangeSpec := { name := "wordDivides", fn := fun _ => fun
  | [d1, d2, d3, d4] => { results := [.lit (.bool false)], args := [d1, d2, d3, d4] }
  | _ => none }
def WordDividesWrongFalsely : Prop := wordDividesRow.holds Try.pinned (OpenSpec.ofChange wordDividesWrong)

/-- 'typecaselaw01.WordProducts': WHATEVER THE INPUT: true; the input reads as it did. -/
def wordProductsSpec : ChangeSpec := { name := "wordProducts", fn := fun _ => fun
  | [d1, d2] => { results := [.lit (.bool true)], args := [d1, d2] }
  | _ => none }
def wordProductsRow : OpenClaim := { program := "ytfhhjbhoiccbjaa", sum := "7c0d11ade5b564fe45b3d4e8cdc9fe2bed4ccb250e165e949f125897b067b72d", func := "typecase/typecaselaw01.WordProducts", spec := "wordProducts", apart := false }
def WordProductsSaid : Prop := wordProductsRow.holds Try.pinned (OpenSpec.ofChange wordProductsSpec)

/-- ITS FALSE NEIGHBOUR: 'it returns false'. Refute it at one input. -/
def wordProductsWrong : ChangeSpec := { name := "wordProducts", fn := fun _ => fun
  | [d1, d2] => { results := [.lit (.bool false)], args := [d1, d2] }
  | _ => none }
def WordProductsWrongFalsely : Prop := wordProductsRow.holds Try.pinned (OpenSpec.ofChange wordProductsWrong)

/- THE SECOND FORM. 'bulk': how many values and letters a reading holds, each counted each time it is reached (what is shared counts as often as it is met; a slice's spare places count too). A statement '..UptoSaid' is the law's where the arguments, and the package variables that the reading takes, are together of bulk at most 1048576: NARROWER than '..Said'. Prove '..Said' where nothing that the law and all that it calls make is longer than what came in: it says more and counts as full. Else prove '..UptoSaid'. A law counts once. -/
mutual
def uptoBulk {H : Type} : DataW H → Nat
  | .lit (.string bytes) => bytes.length + 1
  | .lit _ => 1
  | .nil => 1
  | .ptr d => uptoBulk d + 1
  | .slice elems spare => uptoBulkAll elems + uptoBulkAll spare + 1
  | .agg parts => uptoBulkAll parts + 1
  | .iface _ d => uptoBulk d + 1
  | .map entries => uptoBulkEntries entries + 1
  | .held _ => 1
def uptoBulkAll {H : Type} : List (DataW H) → Nat
  | [] => 0
  | d :: r => uptoBulk d + uptoBulkAll r
def uptoBulkEntries {H : Type} : List (Lit × DataW H) → Nat
  | [] => 0
  | x :: r => uptoBulkEntry x + uptoBulkEntries r
def uptoBulkEntry {H : Type} : Lit × DataW H → Nat
  | (.string bytes, d) => bytes.length + uptoBulk d + 1
  | (_, d) => uptoBulk d + 1
 end
def uptoSmall : (H : Type) → List (DataW H) → Bool := fun _ ds => decide (uptoBulkAll ds ≤ 1048576)
def OpenSpec.upto (s : _root_.Go.ChangeSpec) : _root_.Go.OpenSpec := { _root_.Go.OpenSpec.ofChange s with cond := some uptoSmall }

/-- 'typecaselaw01.WordHalves', WHERE WHAT IT READS IS OF BULK AT MOST 1048576: true; the input reads as it did. -/
def wordHalvesUptoRow : OpenClaim := { program := "ytfhhjbhoiccbjaa", sum := "7c0d11ade5b564fe45b3d4e8cdc9fe2bed4ccb250e165e949f125897b067b72d", func := "typecase/typecaselaw01.WordHalves", spec := "wordHalves", apart := false, narrowed := true }
def WordHalvesUptoSaid : Prop := wordHalvesUptoRow.holds Try.pinned (OpenSpec.upto wordHalvesSpec)

/-- 'typecaselaw01.WordBack', WHERE WHAT IT READS IS OF BULK AT MOST 1048576: true; the input reads as it did. -/
def wordBackUptoRow : OpenClaim := { program := "ytfhhjbhoiccbjaa", sum := "7c0d11ade5b564fe45b3d4e8cdc9fe2bed4ccb250e165e949f125897b067b72d", func := "typecase/typecaselaw01.WordBack", spec := "wordBack", apart := false, narrowed := true }
def WordBackUptoSaid : Prop := wordBackUptoRow.holds Try.pinned (OpenSpec.upto wordBackSpec)

/-- 'typecaselaw01.WordFields', WHERE WHAT IT READS IS OF BULK AT MOST 1048576: true; the input reads as it did. -/
def wordFieldsUptoRow : OpenClaim := { program := "ytfhhjbhoiccbjaa", sum := "7c0d11ade5b564fe45b3d4e8cdc9fe2bed4ccb250e165e949f125897b067b72d", func := "typecase/typecaselaw01.WordFields", spec := "wordFields", apart := false, narrowed := true }
def WordFieldsUptoSaid : Prop := wordFieldsUptoRow.holds Try.pinned (OpenSpec.upto wordFieldsSpec)

/-- 'typecaselaw01.WordFitting', WHERE WHAT IT READS IS OF BULK AT MOST 1048576: true; the input reads as it did. -/
def wordFittingUptoRow : OpenClaim := { program := "ytfhhjbhoiccbjaa", sum := "7c0d11ade5b564fe45b3d4e8cdc9fe2bed4ccb250e165e949f125897b067b72d", func := "typecase/typecaselaw01.WordFitting", spec := "wordFitting", apart := false, narrowed := true }
def WordFittingUptoSaid : Prop := wordFittingUptoRow.holds Try.pinned (OpenSpec.upto wordFittingSpec)

/-- 'typecaselaw01.WordDivides', WHERE WHAT IT READS IS OF BULK AT MOST 1048576: true; the input reads as it did. -/
def wordDividesUptoRow : OpenClaim := { program := "ytfhhjbhoiccbjaa", sum := "7c0d11ade5b564fe45b3d4e8cdc9fe2bed4ccb250e165e949f125897b067b72d", func := "typecase/typecaselaw01.WordDivides", spec := "wordDivides", apart := false, narrowed := true }
def WordDividesUptoSaid : Prop := wordDividesUptoRow.holds Try.pinned (OpenSpec.upto wordDividesSpec)

/-- 'typecaselaw01.WordProducts', WHERE WHAT IT READS IS OF BULK AT MOST 1048576: true; the input reads as it did. -/
def wordProductsUptoRow : OpenClaim := { program := "ytfhhjbhoiccbjaa", sum := "7c0d11ade5b564fe45b3d4e8cdc9fe2bed4ccb250e165e949f125897b067b72d", func := "typecase/typecaselaw01.WordProducts", spec := "wordProducts", apart := false, narrowed := true }
def WordProductsUptoSaid : Prop := wordProductsUptoRow.holds Try.pinned (OpenSpec.upto wordProductsSpec)

end Rows
end Go.Proofs.Ytfhhjbhoiccbjaa
