/-
  NARROWER THAN 'FOR EVERY INPUT', by the rows' own cells (each row's printed sentence says how): InsMay: laid · InsNames: laid · InsRegs: laid · ShowTexts: laid · ShowApart: laid · ShowNames: laid.
  DERIVED. THE GIVEN ROWS OF THIS SEAT. 6 by the template 'for every input the law returns true; each argument reads behind the call as it read before'; 0 by the template 'total and deterministic' (their statements: YtcbibefbjfhdcaaDoorTotals.lean).
  GIVEN WITH THE SEED: the statements are not yours to turn. If you find one false, say at which input.
  Laid BY PROGRAM, IN A SANDBOX (cutbox-rows.mjs): the forced cells as the released guide's own fill.sh prints them over the translation 3a554d3b24fca68a… (all of the seat's roots in one cut). By AI agents, Wed Nov 11 2026. No macro, syntax, notation, axiom, sorry.
-/
import Derived.Test.YtcbibefbjfhdcaaDoorChecked
import GoSem.Claim
import GoSem.ClaimJoined
import GoSem.ClaimMapViews
import Derived.JoinedTies
import Derived.KernelRfl
namespace Go.Proofs.YtcbibefbjfhdcaaDoor
/- THE CELL 'sum', in the pinned program and in every row, IS THE sha256 OF THE DUMP (.gsa) THAT YtcbibefbjfhdcaaDoorProg.lean LOADS. Nothing in Lean hashes anything: it is a label: what it is worth is what the hold of that sum in a sandbox is worth. -/
noncomputable def Tryd.pinned : Pinned := { name := "ytcbibefbjfhdcaadoor", sum := "3a554d3b24fca68a4e1828dc4e43a268e8200c89ffb83d48520aadf0a2bf9400", checked := Tryd.checked }
namespace Rows
def none {H : Type} : Left H := { results := [], args := [] }

/- WHAT THE LISTED PACKAGE-LEVEL VARIABLES READ AS WHEN THE CALL BEGINS. Each datum BY PROGRAM (the guide's laid-datum.mjs) off the statement by which the dump's own 'gosem.cut.vars' lays the variable. In a bare row this is a premise. The card (YtcbibefbjfhdcaaDoorCards.lean) ties it to the program's text. -/
def laid_math_bits_deBruijn32tab {H : Type} : DataW H := .agg [.lit (.int .u8 0), .lit (.int .u8 1), .lit (.int .u8 28), .lit (.int .u8 2), .lit (.int .u8 29), .lit (.int .u8 14), .lit (.int .u8 24), .lit (.int .u8 3), .lit (.int .u8 30), .lit (.int .u8 22), .lit (.int .u8 20), .lit (.int .u8 15), .lit (.int .u8 25), .lit (.int .u8 17), .lit (.int .u8 4), .lit (.int .u8 8), .lit (.int .u8 31), .lit (.int .u8 27), .lit (.int .u8 13), .lit (.int .u8 23), .lit (.int .u8 21), .lit (.int .u8 19), .lit (.int .u8 16), .lit (.int .u8 7), .lit (.int .u8 26), .lit (.int .u8 12), .lit (.int .u8 18), .lit (.int .u8 6), .lit (.int .u8 11), .lit (.int .u8 5), .lit (.int .u8 10), .lit (.int .u8 9)]
def laid_math_bits_deBruijn64tab {H : Type} : DataW H := .agg [.lit (.int .u8 0), .lit (.int .u8 1), .lit (.int .u8 56), .lit (.int .u8 2), .lit (.int .u8 57), .lit (.int .u8 49), .lit (.int .u8 28), .lit (.int .u8 3), .lit (.int .u8 61), .lit (.int .u8 58), .lit (.int .u8 42), .lit (.int .u8 50), .lit (.int .u8 38), .lit (.int .u8 29), .lit (.int .u8 17), .lit (.int .u8 4), .lit (.int .u8 62), .lit (.int .u8 47), .lit (.int .u8 59), .lit (.int .u8 36), .lit (.int .u8 45), .lit (.int .u8 43), .lit (.int .u8 51), .lit (.int .u8 22), .lit (.int .u8 53), .lit (.int .u8 39), .lit (.int .u8 33), .lit (.int .u8 30), .lit (.int .u8 24), .lit (.int .u8 18), .lit (.int .u8 12), .lit (.int .u8 5), .lit (.int .u8 63), .lit (.int .u8 55), .lit (.int .u8 48), .lit (.int .u8 27), .lit (.int .u8 60), .lit (.int .u8 41), .lit (.int .u8 37), .lit (.int .u8 16), .lit (.int .u8 46), .lit (.int .u8 35), .lit (.int .u8 44), .lit (.int .u8 21), .lit (.int .u8 52), .lit (.int .u8 32), .lit (.int .u8 23), .lit (.int .u8 11), .lit (.int .u8 54), .lit (.int .u8 26), .lit (.int .u8 40), .lit (.int .u8 15), .lit (.int .u8 34), .lit (.int .u8 20), .lit (.int .u8 31), .lit (.int .u8 10), .lit (.int .u8 25), .lit (.int .u8 14), .lit (.int .u8 19), .lit (.int .u8 9), .lit (.int .u8 13), .lit (.int .u8 8), .lit (.int .u8 7), .lit (.int .u8 6)]
def laid_internal_strconv_uint64pow10 {H : Type} : DataW H := .agg [.lit (.int .u64 1), .lit (.int .u64 10), .lit (.int .u64 100), .lit (.int .u64 1000), .lit (.int .u64 10000), .lit (.int .u64 100000), .lit (.int .u64 1000000), .lit (.int .u64 10000000), .lit (.int .u64 100000000), .lit (.int .u64 1000000000), .lit (.int .u64 10000000000), .lit (.int .u64 100000000000), .lit (.int .u64 1000000000000), .lit (.int .u64 10000000000000), .lit (.int .u64 100000000000000), .lit (.int .u64 1000000000000000), .lit (.int .u64 10000000000000000), .lit (.int .u64 100000000000000000), .lit (.int .u64 1000000000000000000), .lit (.int .u64 10000000000000000000)]
def laid_typecase_ins_names {H : Type} : DataW H := .agg [.lit (.string []), .lit (.string [108, 117, 105]), .lit (.string [97, 117, 105, 112, 99]), .lit (.string [106, 97, 108]), .lit (.string [106, 97, 108, 114]), .lit (.string [98, 101, 113]), .lit (.string [98, 110, 101]), .lit (.string [98, 108, 116]), .lit (.string [98, 103, 101]), .lit (.string [98, 108, 116, 117]), .lit (.string [98, 103, 101, 117]), .lit (.string [108, 98]), .lit (.string [108, 104]), .lit (.string [108, 119]), .lit (.string [108, 98, 117]), .lit (.string [108, 104, 117]), .lit (.string [115, 98]), .lit (.string [115, 104]), .lit (.string [115, 119]), .lit (.string [97, 100, 100, 105]), .lit (.string [115, 108, 116, 105]), .lit (.string [115, 108, 116, 105, 117]), .lit (.string [120, 111, 114, 105]), .lit (.string [111, 114, 105]), .lit (.string [97, 110, 100, 105]), .lit (.string [115, 108, 108, 105]), .lit (.string [115, 114, 108, 105]), .lit (.string [115, 114, 97, 105]), .lit (.string [97, 100, 100]), .lit (.string [115, 117, 98]), .lit (.string [115, 108, 108]), .lit (.string [115, 108, 116]), .lit (.string [115, 108, 116, 117]), .lit (.string [120, 111, 114]), .lit (.string [115, 114, 108]), .lit (.string [115, 114, 97]), .lit (.string [111, 114]), .lit (.string [97, 110, 100]), .lit (.string [102, 101, 110, 99, 101]), .lit (.string [101, 99, 97, 108, 108]), .lit (.string [101, 98, 114, 101, 97, 107]), .lit (.string [109, 117, 108]), .lit (.string [109, 117, 108, 104]), .lit (.string [109, 117, 108, 104, 115, 117]), .lit (.string [109, 117, 108, 104, 117]), .lit (.string [100, 105, 118]), .lit (.string [100, 105, 118, 117]), .lit (.string [114, 101, 109]), .lit (.string [114, 101, 109, 117])]
def laid_typecase_ins_called {H : Type} : DataW H := .agg [.lit (.string [122, 101, 114, 111]), .lit (.string [114, 97]), .lit (.string [115, 112]), .lit (.string [103, 112]), .lit (.string [116, 112]), .lit (.string [116, 48]), .lit (.string [116, 49]), .lit (.string [116, 50]), .lit (.string [115, 48]), .lit (.string [115, 49]), .lit (.string [97, 48]), .lit (.string [97, 49]), .lit (.string [97, 50]), .lit (.string [97, 51]), .lit (.string [97, 52]), .lit (.string [97, 53]), .lit (.string [97, 54]), .lit (.string [97, 55]), .lit (.string [115, 50]), .lit (.string [115, 51]), .lit (.string [115, 52]), .lit (.string [115, 53]), .lit (.string [115, 54]), .lit (.string [115, 55]), .lit (.string [115, 56]), .lit (.string [115, 57]), .lit (.string [115, 49, 48]), .lit (.string [115, 49, 49]), .lit (.string [116, 51]), .lit (.string [116, 52]), .lit (.string [116, 53]), .lit (.string [116, 54])]

/-- 'typecaselaw03.InsMay': WHATEVER THE INPUT: true; the input reads as it did. -/
def insMaySpec : ChangeSpec := { name := "insMay", fn := fun _ => fun
  | [d] => { results := [.lit (.bool true)], args := [d] }
  | _ => none }
def insMayRow : OpenClaim := { program := "ytcbibefbjfhdcaadoor", sum := "3a554d3b24fca68a4e1828dc4e43a268e8200c89ffb83d48520aadf0a2bf9400", func := "typecase/typecaselaw03.InsMay", spec := "insMay", named := ["typecase/ins.called", "internal/strconv.uint64pow10", "math/bits.deBruijn32tab", "math/bits.deBruijn64tab", "typecase/ins.names"], apart := false, laid := [("math/bits.deBruijn32tab", laid_math_bits_deBruijn32tab), ("math/bits.deBruijn64tab", laid_math_bits_deBruijn64tab), ("internal/strconv.uint64pow10", laid_internal_strconv_uint64pow10), ("typecase/ins.names", laid_typecase_ins_names), ("typecase/ins.called", laid_typecase_ins_called)] }
def InsMaySaid : Prop := insMayRow.holds Tryd.pinned (OpenSpec.ofChange insMaySpec)

/-- ITS FALSE NEIGHBOUR: 'it returns false'. Refute it at one input. -/
def insMayWrong : ChangeSpec := { name := "insMay", fn := fun _ => fun
  | [d] => { results := [.lit (.bool false)], args := [d] }
  | _ => none }
def InsMayWrongFalsely : Prop := insMayRow.holds Tryd.pinned (OpenSpec.ofChange insMayWrong)

/-- 'typecaselaw03.InsNames': WHATEVER THE INPUT: true; the input reads as it did. -/
def insNamesSpec : ChangeSpec := { name := "insNames", fn := fun _ => fun
  | [d1, d2] => { results := [.lit (.bool true)], args := [d1, d2] }
  | _ => none }
def insNamesRow : OpenClaim := { program := "ytcbibefbjfhdcaadoor", sum := "3a554d3b24fca68a4e1828dc4e43a268e8200c89ffb83d48520aadf0a2bf9400", func := "typecase/typecaselaw03.InsNames", spec := "insNames", named := ["typecase/ins.called", "internal/strconv.uint64pow10", "math/bits.deBruijn32tab", "math/bits.deBruijn64tab", "typecase/ins.names"], apart := false, laid := [("math/bits.deBruijn32tab", laid_math_bits_deBruijn32tab), ("math/bits.deBruijn64tab", laid_math_bits_deBruijn64tab), ("internal/strconv.uint64pow10", laid_internal_strconv_uint64pow10), ("typecase/ins.names", laid_typecase_ins_names), ("typecase/ins.called", laid_typecase_ins_called)] }
def InsNamesSaid : Prop := insNamesRow.holds Tryd.pinned (OpenSpec.ofChange insNamesSpec)

/-- ITS FALSE NEIGHBOUR: 'it returns false'. Refute it at one input. -/
def insNamesWrong : ChangeSpec := { name := "insNames", fn := fun _ => fun
  | [d1, d2] => { results := [.lit (.bool false)], args := [d1, d2] }
  | _ => none }
def InsNamesWrongFalsely : Prop := insNamesRow.holds Tryd.pinned (OpenSpec.ofChange insNamesWrong)

/-- 'typecaselaw03.InsRegs': WHATEVER THE INPUT: true; the input reads as it did. -/
def insRegsSpec : ChangeSpec := { name := "insRegs", fn := fun _ => fun
  | [d1, d2] => { results := [.lit (.bool true)], args := [d1, d2] }
  | _ => none }
def insRegsRow : OpenClaim := { program := "ytcbibefbjfhdcaadoor", sum := "3a554d3b24fca68a4e1828dc4e43a268e8200c89ffb83d48520aadf0a2bf9400", func := "typecase/typecaselaw03.InsRegs", spec := "insRegs", named := ["typecase/ins.called", "internal/strconv.uint64pow10", "math/bits.deBruijn32tab", "math/bits.deBruijn64tab", "typecase/ins.names"], apart := false, laid := [("math/bits.deBruijn32tab", laid_math_bits_deBruijn32tab), ("math/bits.deBruijn64tab", laid_math_bits_deBruijn64tab), ("internal/strconv.uint64pow10", laid_internal_strconv_uint64pow10), ("typecase/ins.names", laid_typecase_ins_names), ("typecase/ins.called", laid_typecase_ins_called)] }
def InsRegsSaid : Prop := insRegsRow.holds Tryd.pinned (OpenSpec.ofChange insRegsSpec)

/-- ITS FALSE NEIGHBOUR: 'it returns false'. Refute it at one input. -/
def insRegsWrong : ChangeSpec := { name := "insRegs", fn := fun _ => fun
  | [d1, d2] => { results := [.lit (.bool false)], args := [d1, d2] }
  | _ => none }
def InsRegsWrongFalsely : Prop := insRegsRow.holds Tryd.pinned (OpenSpec.ofChange insRegsWrong)

/-- 'typecaselaw23.ShowTexts': WHATEVER THE INPUT: true; the input reads as it did. -/
def showTextsSpec : ChangeSpec := { name := "showTexts", fn := fun _ => fun
  | [d1, d2] => { results := [.lit (.bool true)], args := [d1, d2] }
  | _ => none }
def showTextsRow : OpenClaim := { program := "ytcbibefbjfhdcaadoor", sum := "3a554d3b24fca68a4e1828dc4e43a268e8200c89ffb83d48520aadf0a2bf9400", func := "typecase/typecaselaw23.ShowTexts", spec := "showTexts", inPlace := ["internal/abi.NoEscape", "internal/bytealg.MakeNoZero"], named := ["typecase/ins.names", "typecase/ins.called", "internal/strconv.uint64pow10", "math/bits.deBruijn32tab", "math/bits.deBruijn64tab"], apart := false, laid := [("math/bits.deBruijn32tab", laid_math_bits_deBruijn32tab), ("math/bits.deBruijn64tab", laid_math_bits_deBruijn64tab), ("internal/strconv.uint64pow10", laid_internal_strconv_uint64pow10), ("typecase/ins.names", laid_typecase_ins_names), ("typecase/ins.called", laid_typecase_ins_called)] }
def ShowTextsSaid : Prop := showTextsRow.holds Tryd.pinned (OpenSpec.ofChange showTextsSpec)

/-- ITS FALSE NEIGHBOUR: 'it returns false'. Refute it at one input. -/
def showTextsWrong : ChangeSpec := { name := "showTexts", fn := fun _ => fun
  | [d1, d2] => { results := [.lit (.bool false)], args := [d1, d2] }
  | _ => none }
def ShowTextsWrongFalsely : Prop := showTextsRow.holds Tryd.pinned (OpenSpec.ofChange showTextsWrong)

/-- 'typecaselaw23.ShowApart': WHATEVER THE INPUT: true; the input reads as it did. -/
def showApartSpec : ChangeSpec := { name := "showApart", fn := fun _ => fun
  | [d1, d2] => { results := [.lit (.bool true)], args := [d1, d2] }
  | _ => none }
def showApartRow : OpenClaim := { program := "ytcbibefbjfhdcaadoor", sum := "3a554d3b24fca68a4e1828dc4e43a268e8200c89ffb83d48520aadf0a2bf9400", func := "typecase/typecaselaw23.ShowApart", spec := "showApart", inPlace := ["internal/abi.NoEscape", "internal/bytealg.MakeNoZero"], named := ["typecase/ins.names", "typecase/ins.called", "internal/strconv.uint64pow10", "math/bits.deBruijn32tab", "math/bits.deBruijn64tab"], apart := false, laid := [("math/bits.deBruijn32tab", laid_math_bits_deBruijn32tab), ("math/bits.deBruijn64tab", laid_math_bits_deBruijn64tab), ("internal/strconv.uint64pow10", laid_internal_strconv_uint64pow10), ("typecase/ins.names", laid_typecase_ins_names), ("typecase/ins.called", laid_typecase_ins_called)] }
def ShowApartSaid : Prop := showApartRow.holds Tryd.pinned (OpenSpec.ofChange showApartSpec)

/-- ITS FALSE NEIGHBOUR: 'it returns false'. Refute it at one input. -/
def showApartWrong : ChangeSpec := { name := "showApart", fn := fun _ => fun
  | [d1, d2] => { results := [.lit (.bool false)], args := [d1, d2] }
  | _ => none }
def ShowApartWrongFalsely : Prop := showApartRow.holds Tryd.pinned (OpenSpec.ofChange showApartWrong)

/-- 'typecaselaw23.ShowNames': WHATEVER THE INPUT: true; the input reads as it did. -/
def showNamesSpec : ChangeSpec := { name := "showNames", fn := fun _ => fun
  | [d1, d2] => { results := [.lit (.bool true)], args := [d1, d2] }
  | _ => none }
def showNamesRow : OpenClaim := { program := "ytcbibefbjfhdcaadoor", sum := "3a554d3b24fca68a4e1828dc4e43a268e8200c89ffb83d48520aadf0a2bf9400", func := "typecase/typecaselaw23.ShowNames", spec := "showNames", inPlace := ["internal/abi.NoEscape", "internal/bytealg.MakeNoZero"], named := ["typecase/ins.names", "typecase/ins.called", "internal/strconv.uint64pow10", "math/bits.deBruijn32tab", "math/bits.deBruijn64tab"], apart := false, laid := [("math/bits.deBruijn32tab", laid_math_bits_deBruijn32tab), ("math/bits.deBruijn64tab", laid_math_bits_deBruijn64tab), ("internal/strconv.uint64pow10", laid_internal_strconv_uint64pow10), ("typecase/ins.names", laid_typecase_ins_names), ("typecase/ins.called", laid_typecase_ins_called)] }
def ShowNamesSaid : Prop := showNamesRow.holds Tryd.pinned (OpenSpec.ofChange showNamesSpec)

/-- ITS FALSE NEIGHBOUR: 'it returns false'. Refute it at one input. -/
def showNamesWrong : ChangeSpec := { name := "showNames", fn := fun _ => fun
  | [d1, d2] => { results := [.lit (.bool false)], args := [d1, d2] }
  | _ => none }
def ShowNamesWrongFalsely : Prop := showNamesRow.holds Tryd.pinned (OpenSpec.ofChange showNamesWrong)

/- THE SECOND FORM. 'bulk': how many values and letters a reading holds, each counted each time it is reached (what is shared counts as often as it is met; a slice's spare places count too). A statement '..UptoSaid' is the law's where the arguments, and the package variables that the reading takes, are together of bulk at most 1048576: NARROWER than '..Said'. Prove '..Said' where nothing that the law and all that it calls make is longer than what came in: it says more and counts as full. Else prove '..UptoSaid'. A law counts once. -/
mutual
def uptoBulk {H : Type} : DataW H → Nat
  | .lit (.string bytes) => bytes.length + 1
  | .lit _ => 1
  | .nil => 1
  | .ptr d => uptoBulk d + 1
  | .slice elems spare => uptoBulkAll elems + uptoBulkAll spare + 1
  | .agg parts => uptoBulkAll parts + 1
  | .iface _ d => uptoBulk d + 1
  | .map entries => uptoBulkEntries entries + 1
  | .held _ => 1
def uptoBulkAll {H : Type} : List (DataW H) → Nat
  | [] => 0
  | d :: r => uptoBulk d + uptoBulkAll r
def uptoBulkEntries {H : Type} : List (Lit × DataW H) → Nat
  | [] => 0
  | x :: r => uptoBulkEntry x + uptoBulkEntries r
def uptoBulkEntry {H : Type} : Lit × DataW H → Nat
  | (.string bytes, d) => bytes.length + uptoBulk d + 1
  | (_, d) => uptoBulk d + 1
 end
def uptoSmall : (H : Type) → List (DataW H) → Bool := fun _ ds => decide (uptoBulkAll ds ≤ 1048576)
def OpenSpec.upto (s : _root_.Go.ChangeSpec) : _root_.Go.OpenSpec := { _root_.Go.OpenSpec.ofChange s with cond := some uptoSmall }

/-- 'typecaselaw03.InsMay', WHERE WHAT IT READS IS OF BULK AT MOST 1048576: true; the input reads as it did. -/
def insMayUptoRow : OpenClaim := { program := "ytcbibefbjfhdcaadoor", sum := "3a554d3b24fca68a4e1828dc4e43a268e8200c89ffb83d48520aadf0a2bf9400", func := "typecase/typecaselaw03.InsMay", spec := "insMay", named := ["typecase/ins.called", "internal/strconv.uint64pow10", "math/bits.deBruijn32tab", "math/bits.deBruijn64tab", "typecase/ins.names"], apart := false, laid := [("math/bits.deBruijn32tab", laid_math_bits_deBruijn32tab), ("math/bits.deBruijn64tab", laid_math_bits_deBruijn64tab), ("internal/strconv.uint64pow10", laid_internal_strconv_uint64pow10), ("typecase/ins.names", laid_typecase_ins_names), ("typecase/ins.called", laid_typecase_ins_called)], narrowed := true }
def InsMayUptoSaid : Prop := insMayUptoRow.holds Tryd.pinned (OpenSpec.upto insMaySpec)

/-- 'typecaselaw03.InsNames', WHERE WHAT IT READS IS OF BULK AT MOST 1048576: true; the input reads as it did. -/
def insNamesUptoRow : OpenClaim := { program := "ytcbibefbjfhdcaadoor", sum := "3a554d3b24fca68a4e1828dc4e43a268e8200c89ffb83d48520aadf0a2bf9400", func := "typecase/typecaselaw03.InsNames", spec := "insNames", named := ["typecase/ins.called", "internal/strconv.uint64pow10", "math/bits.deBruijn32tab", "math/bits.deBruijn64tab", "typecase/ins.names"], apart := false, laid := [("math/bits.deBruijn32tab", laid_math_bits_deBruijn32tab), ("math/bits.deBruijn64tab", laid_math_bits_deBruijn64tab), ("internal/strconv.uint64pow10", laid_internal_strconv_uint64pow10), ("typecase/ins.names", laid_typecase_ins_names), ("typecase/ins.called", laid_typecase_ins_called)], narrowed := true }
def InsNamesUptoSaid : Prop := insNamesUptoRow.holds Tryd.pinned (OpenSpec.upto insNamesSpec)

/-- 'typecaselaw03.InsRegs', WHERE WHAT IT READS IS OF BULK AT MOST 1048576: true; the input reads as it did. -/
def insRegsUptoRow : OpenClaim := { program := "ytcbibefbjfhdcaadoor", sum := "3a554d3b24fca68a4e1828dc4e43a268e8200c89ffb83d48520aadf0a2bf9400", func := "typecase/typecaselaw03.InsRegs", spec := "insRegs", named := ["typecase/ins.called", "internal/strconv.uint64pow10", "math/bits.deBruijn32tab", "math/bits.deBruijn64tab", "typecase/ins.names"], apart := false, laid := [("math/bits.deBruijn32tab", laid_math_bits_deBruijn32tab), ("math/bits.deBruijn64tab", laid_math_bits_deBruijn64tab), ("internal/strconv.uint64pow10", laid_internal_strconv_uint64pow10), ("typecase/ins.names", laid_typecase_ins_names), ("typecase/ins.called", laid_typecase_ins_called)], narrowed := true }
def InsRegsUptoSaid : Prop := insRegsUptoRow.holds Tryd.pinned (OpenSpec.upto insRegsSpec)

/-- 'typecaselaw23.ShowTexts', WHERE WHAT IT READS IS OF BULK AT MOST 1048576: true; the input reads as it did. -/
def showTextsUptoRow : OpenClaim := { program := "ytcbibefbjfhdcaadoor", sum := "3a554d3b24fca68a4e1828dc4e43a268e8200c89ffb83d48520aadf0a2bf9400", func := "typecase/typecaselaw23.ShowTexts", spec := "showTexts", inPlace := ["internal/abi.NoEscape", "internal/bytealg.MakeNoZero"], named := ["typecase/ins.names", "typecase/ins.called", "internal/strconv.uint64pow10", "math/bits.deBruijn32tab", "math/bits.deBruijn64tab"], apart := false, laid := [("math/bits.deBruijn32tab", laid_math_bits_deBruijn32tab), ("math/bits.deBruijn64tab", laid_math_bits_deBruijn64tab), ("internal/strconv.uint64pow10", laid_internal_strconv_uint64pow10), ("typecase/ins.names", laid_typecase_ins_names), ("typecase/ins.called", laid_typecase_ins_called)], narrowed := true }
def ShowTextsUptoSaid : Prop := showTextsUptoRow.holds Tryd.pinned (OpenSpec.upto showTextsSpec)

/-- 'typecaselaw23.ShowApart', WHERE WHAT IT READS IS OF BULK AT MOST 1048576: true; the input reads as it did. -/
def showApartUptoRow : OpenClaim := { program := "ytcbibefbjfhdcaadoor", sum := "3a554d3b24fca68a4e1828dc4e43a268e8200c89ffb83d48520aadf0a2bf9400", func := "typecase/typecaselaw23.ShowApart", spec := "showApart", inPlace := ["internal/abi.NoEscape", "internal/bytealg.MakeNoZero"], named := ["typecase/ins.names", "typecase/ins.called", "internal/strconv.uint64pow10", "math/bits.deBruijn32tab", "math/bits.deBruijn64tab"], apart := false, laid := [("math/bits.deBruijn32tab", laid_math_bits_deBruijn32tab), ("math/bits.deBruijn64tab", laid_math_bits_deBruijn64tab), ("internal/strconv.uint64pow10", laid_internal_strconv_uint64pow10), ("typecase/ins.names", laid_typecase_ins_names), ("typecase/ins.called", laid_typecase_ins_called)], narrowed := true }
def ShowApartUptoSaid : Prop := showApartUptoRow.holds Tryd.pinned (OpenSpec.upto showApartSpec)

/-- 'typecaselaw23.ShowNames', WHERE WHAT IT READS IS OF BULK AT MOST 1048576: true; the input reads as it did. -/
def showNamesUptoRow : OpenClaim := { program := "ytcbibefbjfhdcaadoor", sum := "3a554d3b24fca68a4e1828dc4e43a268e8200c89ffb83d48520aadf0a2bf9400", func := "typecase/typecaselaw23.ShowNames", spec := "showNames", inPlace := ["internal/abi.NoEscape", "internal/bytealg.MakeNoZero"], named := ["typecase/ins.names", "typecase/ins.called", "internal/strconv.uint64pow10", "math/bits.deBruijn32tab", "math/bits.deBruijn64tab"], apart := false, laid := [("math/bits.deBruijn32tab", laid_math_bits_deBruijn32tab), ("math/bits.deBruijn64tab", laid_math_bits_deBruijn64tab), ("internal/strconv.uint64pow10", laid_internal_strconv_uint64pow10), ("typecase/ins.names", laid_typecase_ins_names), ("typecase/ins.called", laid_typecase_ins_called)], narrowed := true }
def ShowNamesUptoSaid : Prop := showNamesUptoRow.holds Tryd.pinned (OpenSpec.upto showNamesSpec)

end Rows
end Go.Proofs.YtcbibefbjfhdcaaDoor
