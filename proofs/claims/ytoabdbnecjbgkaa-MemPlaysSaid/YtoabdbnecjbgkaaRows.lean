/-
  No cell of these rows narrows 'for every input' (looked for: loops, veiled, ifaces, maps, wideKeys, modest, calm, conditions, laid).
  DERIVED. THE GIVEN ROWS OF THIS SEAT. 5 by the template 'for every input the law returns true; each argument reads behind the call as it read before'; 0 by the template 'total and deterministic' (their statements: YtoabdbnecjbgkaaTotals.lean).
  GIVEN WITH THE SEED: the statements are not yours to turn. If you find one false, say at which input.
  Laid BY PROGRAM, IN A SANDBOX (cutbox-rows.mjs): the forced cells as the released guide's own fill.sh prints them over the translation e8064531d2e83f9e… (all of the seat's roots in one cut). By AI agents, Wed Nov 11 2026. No macro, syntax, notation, axiom, sorry.
-/
import Derived.Test.YtoabdbnecjbgkaaChecked
import GoSem.Claim
import GoSem.ClaimJoined
import GoSem.ClaimMapViews
import Derived.JoinedTies
import Derived.KernelRfl
namespace Go.Proofs.Ytoabdbnecjbgkaa
/- THE CELL 'sum', in the pinned program and in every row, IS THE sha256 OF THE DUMP (.gsa) THAT YtoabdbnecjbgkaaProg.lean LOADS. Nothing in Lean hashes anything: it is a label: what it is worth is what the hold of that sum in a sandbox is worth. -/
noncomputable def Try.pinned : Pinned := { name := "ytoabdbnecjbgkaa", sum := "e8064531d2e83f9ed5baafc29c5e03c43120eb7f927c523154fee4ef03d33100", checked := Try.checked }
namespace Rows
def none {H : Type} : Left H := { results := [], args := [] }

/-- 'typecaselaw02.MemParts': WHATEVER THE INPUT: true; the input reads as it did. -/
def memPartsSpec : ChangeSpec := { name := "memParts", fn := fun _ => fun
  | [d1, d2, d3] => { results := [.lit (.bool true)], args := [d1, d2, d3] }
  | _ => none }
def memPartsRow : OpenClaim := { program := "ytoabdbnecjbgkaa", sum := "e8064531d2e83f9ed5baafc29c5e03c43120eb7f927c523154fee4ef03d33100", func := "typecase/typecaselaw02.MemParts", spec := "memParts", unfollowed := true, recurses := true, apart := false }
def MemPartsSaid : Prop := memPartsRow.holds Try.pinned (OpenSpec.ofChange memPartsSpec)

/-- ITS FALSE NEIGHBOUR: 'it returns false'. Refute it at one input. -/
def memPartsWrong : ChangeSpec := { name := "memParts", fn := fun _ => fun
  | [d1, d2, d3] => { results := [.lit (.bool false)], args := [d1, d2, d3] }
  | _ => none }
def MemPartsWrongFalsely : Prop := memPartsRow.holds Try.pinned (OpenSpec.ofChange memPartsWrong)

/-- 'typecaselaw02.MemAgain': WHATEVER THE INPUT: true; the input reads as it did. -/
def memAgainSpec : ChangeSpec := { name := "memAgain", fn := fun _ => fun
  | [d] => { results := [.lit (.bool true)], args := [d] }
  | _ => none }
def memAgainRow : OpenClaim := { program := "ytoabdbnecjbgkaa", sum := "e8064531d2e83f9ed5baafc29c5e03c43120eb7f927c523154fee4ef03d33100", func := "typecase/typecaselaw02.MemAgain", spec := "memAgain", unfollowed := true, recurses := true, apart := false }
def MemAgainSaid : Prop := memAgainRow.holds Try.pinned (OpenSpec.ofChange memAgainSpec)

/-- ITS FALSE NEIGHBOUR: 'it returns false'. Refute it at one input. -/
def memAgainWrong : ChangeSpec := { name := "memAgain", fn := fun _ => fun
  | [d] => { results := [.lit (.bool false)], args := [d] }
  | _ => none }
def MemAgainWrongFalsely : Prop := memAgainRow.holds Try.pinned (OpenSpec.ofChange memAgainWrong)

/-- 'typecaselaw02.MemPlays': WHATEVER THE INPUT: true; the input reads as it did. -/
def memPlaysSpec : ChangeSpec := { name := "memPlays", fn := fun _ => fun
  | [d1, d2, d3, d4] => { results := [.lit (.bool true)], args := [d1, d2, d3, d4] }
  | _ => none }
def memPlaysRow : OpenClaim := { program := "ytoabdbnecjbgkaa", sum := "e8064531d2e83f9ed5baafc29c5e03c43120eb7f927c523154fee4ef03d33100", func := "typecase/typecaselaw02.MemPlays", spec := "memPlays", unfollowed := true, recurses := true, apart := false }
def MemPlaysSaid : Prop := memPlaysRow.holds Try.pinned (OpenSpec.ofChange memPlaysSpec)

/-- ITS FALSE NEIGHBOUR: 'it returns false'. Refute it at one input. -/
def memPlaysWrong : ChangeSpec := { name := "memPlays", fn := fun _ => fun
  | [d1, d2, d3, d4] => { results := [.lit (.bool false)], args := [d1, d2, d3, d4] }
  | _ => none }
def MemPlaysWrongFalsely : Prop := memPlaysRow.holds Try.pinned (OpenSpec.ofChange memPlaysWrong)

/-- 'typecaselaw02.MemBytes': WHATEVER THE INPUT: true; the input reads as it did. -/
def memBytesSpec : ChangeSpec := { name := "memBytes", fn := fun _ => fun
  | [d1, d2, d3, d4] => { results := [.lit (.bool true)], args := [d1, d2, d3, d4] }
  | _ => none }
def memBytesRow : OpenClaim := { program := "ytoabdbnecjbgkaa", sum := "e8064531d2e83f9ed5baafc29c5e03c43120eb7f927c523154fee4ef03d33100", func := "typecase/typecaselaw02.MemBytes", spec := "memBytes", inPlace := ["maps.clone"], unfollowed := true, recurses := true, apart := false }
def MemBytesSaid : Prop := memBytesRow.holds Try.pinned (OpenSpec.ofChange memBytesSpec)

/-- ITS FALSE NEIGHBOUR: 'it returns false'. Refute it at one input. -/
def memBytesWrong : ChangeSpec := { name := "memBytes", fn := fun _ => fun
  | [d1, d2, d3, d4] => { results := [.lit (.bool false)], args := [d1, d2, d3, d4] }
  | _ => none }
def MemBytesWrongFalsely : Prop := memBytesRow.holds Try.pinned (OpenSpec.ofChange memBytesWrong)

/-- 'typecaselaw07.MachineLittle': WHATEVER THE INPUT: true; the input reads as it did. -/
def machineLittleSpec : ChangeSpec := { name := "machineLittle", fn := fun _ => fun
  | [d] => { results := [.lit (.bool true)], args := [d] }
  | _ => none }
def machineLittleRow : OpenClaim := { program := "ytoabdbnecjbgkaa", sum := "e8064531d2e83f9ed5baafc29c5e03c43120eb7f927c523154fee4ef03d33100", func := "typecase/typecaselaw07.MachineLittle", spec := "machineLittle", unfollowed := true, recurses := true, apart := false }
def MachineLittleSaid : Prop := machineLittleRow.holds Try.pinned (OpenSpec.ofChange machineLittleSpec)

/-- ITS FALSE NEIGHBOUR: 'it returns false'. Refute it at one input. -/
def machineLittleWrong : ChangeSpec := { name := "machineLittle", fn := fun _ => fun
  | [d] => { results := [.lit (.bool false)], args := [d] }
  | _ => none }
def MachineLittleWrongFalsely : Prop := machineLittleRow.holds Try.pinned (OpenSpec.ofChange machineLittleWrong)

/- THE SECOND FORM. 'bulk': how many values and letters a reading holds, each counted each time it is reached (what is shared counts as often as it is met; a slice's spare places count too). A statement '..UptoSaid' is the law's where the arguments, and the package variables that the reading takes, are together of bulk at most 1048576: NARROWER than '..Said'. Prove '..Said' where nothing that the law and all that it calls make is longer than what came in: it says more and counts as full. Else prove '..UptoSaid'. A law counts once. -/
mutual
def uptoBulk {H : Type} : DataW H → Nat
  | .lit (.string bytes) => bytes.length + 1
  | .lit _ => 1
  | .nil => 1
  | .ptr d => uptoBulk d + 1
  | .slice elems spare => uptoBulkAll elems + uptoBulkAll spare + 1
  | .agg parts => uptoBulkAll parts + 1
  | .iface _ d => uptoBulk d + 1
  | .map entries => uptoBulkEntries entries + 1
  | .held _ => 1
def uptoBulkAll {H : Type} : List (DataW H) → Nat
  | [] => 0
  | d :: r => uptoBulk d + uptoBulkAll r
def uptoBulkEntries {H : Type} : List (Lit × DataW H) → Nat
  | [] => 0
  | x :: r => uptoBulkEntry x + uptoBulkEntries r
def uptoBulkEntry {H : Type} : Lit × DataW H → Nat
  | (.string bytes, d) => bytes.length + uptoBulk d + 1
  | (_, d) => uptoBulk d + 1
 end
def uptoSmall : (H : Type) → List (DataW H) → Bool := fun _ ds => decide (uptoBulkAll ds ≤ 1048576)
def OpenSpec.upto (s : _root_.Go.ChangeSpec) : _root_.Go.OpenSpec := { _root_.Go.OpenSpec.ofChange s with cond := some uptoSmall }

/-- 'typecaselaw02.MemParts', WHERE WHAT IT READS IS OF BULK AT MOST 1048576: true; the input reads as it did. -/
def memPartsUptoRow : OpenClaim := { program := "ytoabdbnecjbgkaa", sum := "e8064531d2e83f9ed5baafc29c5e03c43120eb7f927c523154fee4ef03d33100", func := "typecase/typecaselaw02.MemParts", spec := "memParts", unfollowed := true, recurses := true, apart := false, narrowed := true }
def MemPartsUptoSaid : Prop := memPartsUptoRow.holds Try.pinned (OpenSpec.upto memPartsSpec)

/-- 'typecaselaw02.MemAgain', WHERE WHAT IT READS IS OF BULK AT MOST 1048576: true; the input reads as it did. -/
def memAgainUptoRow : OpenClaim := { program := "ytoabdbnecjbgkaa", sum := "e8064531d2e83f9ed5baafc29c5e03c43120eb7f927c523154fee4ef03d33100", func := "typecase/typecaselaw02.MemAgain", spec := "memAgain", unfollowed := true, recurses := true, apart := false, narrowed := true }
def MemAgainUptoSaid : Prop := memAgainUptoRow.holds Try.pinned (OpenSpec.upto memAgainSpec)

/-- 'typecaselaw02.MemPlays', WHERE WHAT IT READS IS OF BULK AT MOST 1048576: true; the input reads as it did. -/
def memPlaysUptoRow : OpenClaim := { program := "ytoabdbnecjbgkaa", sum := "e8064531d2e83f9ed5baafc29c5e03c43120eb7f927c523154fee4ef03d33100", func := "typecase/typecaselaw02.MemPlays", spec := "memPlays", unfollowed := true, recurses := true, apart := false, narrowed := true }
def MemPlaysUptoSaid : Prop := memPlaysUptoRow.holds Try.pinned (OpenSpec.upto memPlaysSpec)

/-- 'typecaselaw02.MemBytes', WHERE WHAT IT READS IS OF BULK AT MOST 1048576: true; the input reads as it did. -/
def memBytesUptoRow : OpenClaim := { program := "ytoabdbnecjbgkaa", sum := "e8064531d2e83f9ed5baafc29c5e03c43120eb7f927c523154fee4ef03d33100", func := "typecase/typecaselaw02.MemBytes", spec := "memBytes", inPlace := ["maps.clone"], unfollowed := true, recurses := true, apart := false, narrowed := true }
def MemBytesUptoSaid : Prop := memBytesUptoRow.holds Try.pinned (OpenSpec.upto memBytesSpec)

/-- 'typecaselaw07.MachineLittle', WHERE WHAT IT READS IS OF BULK AT MOST 1048576: true; the input reads as it did. -/
def machineLittleUptoRow : OpenClaim := { program := "ytoabdbnecjbgkaa", sum := "e8064531d2e83f9ed5baafc29c5e03c43120eb7f927c523154fee4ef03d33100", func := "typecase/typecaselaw07.MachineLittle", spec := "machineLittle", unfollowed := true, recurses := true, apart := false, narrowed := true }
def MachineLittleUptoSaid : Prop := machineLittleUptoRow.holds Try.pinned (OpenSpec.upto machineLittleSpec)

end Rows
end Go.Proofs.Ytoabdbnecjbgkaa
