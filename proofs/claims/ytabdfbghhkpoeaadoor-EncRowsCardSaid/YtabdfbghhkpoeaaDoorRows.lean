/-
  NARROWER THAN 'FOR EVERY INPUT', by the rows' own cells (each row's printed sentence says how): EncPuts: laid · EncGets: laid · EncRows: laid · EncApart: laid.
  DERIVED. THE GIVEN ROWS OF THIS SEAT. 4 by the template 'for every input the law returns true; each argument reads behind the call as it read before'; 0 by the template 'total and deterministic' (their statements: YtabdfbghhkpoeaaDoorTotals.lean).
  GIVEN WITH THE SEED: the statements are not yours to turn. If you find one false, say at which input.
  Laid BY PROGRAM, IN A SANDBOX (cutbox-rows.mjs): the forced cells as the released guide's own fill.sh prints them over the translation b52f1f5ae88e2a9c… (all of the seat's roots in one cut). By AI agents, Wed Nov 11 2026. No macro, syntax, notation, axiom, sorry.
-/
import Derived.Test.YtabdfbghhkpoeaaDoorChecked
import GoSem.Claim
import GoSem.ClaimJoined
import GoSem.ClaimMapViews
import Derived.JoinedTies
import Derived.KernelRfl
namespace Go.Proofs.YtabdfbghhkpoeaaDoor
/- THE CELL 'sum', in the pinned program and in every row, IS THE sha256 OF THE DUMP (.gsa) THAT YtabdfbghhkpoeaaDoorProg.lean LOADS. Nothing in Lean hashes anything: it is a label: what it is worth is what the hold of that sum in a sandbox is worth. -/
noncomputable def Tryd.pinned : Pinned := { name := "ytabdfbghhkpoeaadoor", sum := "b52f1f5ae88e2a9c8c1c99246cbac1caa67c18a8fd958e13d0d131584c48719c", checked := Tryd.checked }
namespace Rows
def none {H : Type} : Left H := { results := [], args := [] }

/- WHAT THE LISTED PACKAGE-LEVEL VARIABLES READ AS WHEN THE CALL BEGINS. Each datum BY PROGRAM (the guide's laid-datum.mjs) off the statement by which the dump's own 'gosem.cut.vars' lays the variable. In a bare row this is a premise. The card (YtabdfbghhkpoeaaDoorCards.lean) ties it to the program's text. -/
def laid_typecase_enc_spans {H : Type} : DataW H := .agg [.agg [.lit (.int .i64 0), .lit (.int .i64 0), .lit (.int .i64 0), .lit (.int .i64 0), .lit (.int .i64 0), .lit (.int .i64 0), .lit (.int .i64 0), .lit (.int .i64 0), .lit (.int .i64 0), .lit (.int .i64 0), .lit (.int .i64 0), .lit (.int .i64 0)], .agg [.lit (.int .i64 12), .lit (.int .i64 12), .lit (.int .i64 20), .lit (.int .i64 0), .lit (.int .i64 0), .lit (.int .i64 0), .lit (.int .i64 0), .lit (.int .i64 0), .lit (.int .i64 0), .lit (.int .i64 0), .lit (.int .i64 0), .lit (.int .i64 0)], .agg [.lit (.int .i64 21), .lit (.int .i64 1), .lit (.int .i64 10), .lit (.int .i64 20), .lit (.int .i64 11), .lit (.int .i64 1), .lit (.int .i64 12), .lit (.int .i64 12), .lit (.int .i64 8), .lit (.int .i64 31), .lit (.int .i64 20), .lit (.int .i64 1)], .agg [.lit (.int .i64 8), .lit (.int .i64 1), .lit (.int .i64 4), .lit (.int .i64 25), .lit (.int .i64 5), .lit (.int .i64 6), .lit (.int .i64 7), .lit (.int .i64 11), .lit (.int .i64 1), .lit (.int .i64 31), .lit (.int .i64 12), .lit (.int .i64 1)], .agg [.lit (.int .i64 20), .lit (.int .i64 0), .lit (.int .i64 12), .lit (.int .i64 0), .lit (.int .i64 0), .lit (.int .i64 0), .lit (.int .i64 0), .lit (.int .i64 0), .lit (.int .i64 0), .lit (.int .i64 0), .lit (.int .i64 0), .lit (.int .i64 0)], .agg [.lit (.int .i64 7), .lit (.int .i64 0), .lit (.int .i64 5), .lit (.int .i64 25), .lit (.int .i64 5), .lit (.int .i64 7), .lit (.int .i64 0), .lit (.int .i64 0), .lit (.int .i64 0), .lit (.int .i64 0), .lit (.int .i64 0), .lit (.int .i64 0)], .agg [.lit (.int .i64 20), .lit (.int .i64 0), .lit (.int .i64 12), .lit (.int .i64 0), .lit (.int .i64 0), .lit (.int .i64 0), .lit (.int .i64 0), .lit (.int .i64 0), .lit (.int .i64 0), .lit (.int .i64 0), .lit (.int .i64 0), .lit (.int .i64 0)], .agg [.lit (.int .i64 20), .lit (.int .i64 0), .lit (.int .i64 5), .lit (.int .i64 0), .lit (.int .i64 0), .lit (.int .i64 0), .lit (.int .i64 0), .lit (.int .i64 0), .lit (.int .i64 0), .lit (.int .i64 0), .lit (.int .i64 0), .lit (.int .i64 0)], .agg [.lit (.int .i64 0), .lit (.int .i64 0), .lit (.int .i64 0), .lit (.int .i64 0), .lit (.int .i64 0), .lit (.int .i64 0), .lit (.int .i64 0), .lit (.int .i64 0), .lit (.int .i64 0), .lit (.int .i64 0), .lit (.int .i64 0), .lit (.int .i64 0)], .agg [.lit (.int .i64 0), .lit (.int .i64 0), .lit (.int .i64 0), .lit (.int .i64 0), .lit (.int .i64 0), .lit (.int .i64 0), .lit (.int .i64 0), .lit (.int .i64 0), .lit (.int .i64 0), .lit (.int .i64 0), .lit (.int .i64 0), .lit (.int .i64 0)]]
def laid_typecase_enc_widths {H : Type} : DataW H := .agg [.lit (.int .i64 0), .lit (.int .i64 32), .lit (.int .i64 21), .lit (.int .i64 13), .lit (.int .i64 12), .lit (.int .i64 12), .lit (.int .i64 12), .lit (.int .i64 0), .lit (.int .i64 0), .lit (.int .i64 0)]
def laid_typecase_enc_regs {H : Type} : DataW H := .agg [.lit (.int .i64 0), .lit (.int .i64 1), .lit (.int .i64 1), .lit (.int .i64 6), .lit (.int .i64 3), .lit (.int .i64 6), .lit (.int .i64 3), .lit (.int .i64 3), .lit (.int .i64 7), .lit (.int .i64 0)]

/-- 'typecaselaw08.EncPuts': WHATEVER THE INPUT: true; the input reads as it did. -/
def encPutsSpec : ChangeSpec := { name := "encPuts", fn := fun _ => fun
  | [d] => { results := [.lit (.bool true)], args := [d] }
  | _ => none }
def encPutsRow : OpenClaim := { program := "ytabdfbghhkpoeaadoor", sum := "b52f1f5ae88e2a9c8c1c99246cbac1caa67c18a8fd958e13d0d131584c48719c", func := "typecase/typecaselaw08.EncPuts", spec := "encPuts", unfollowed := true, recurses := true, named := ["typecase/enc.spans", "typecase/enc.regs", "typecase/enc.widths"], apart := false, laid := [("typecase/enc.spans", laid_typecase_enc_spans), ("typecase/enc.widths", laid_typecase_enc_widths), ("typecase/enc.regs", laid_typecase_enc_regs)] }
def EncPutsSaid : Prop := encPutsRow.holds Tryd.pinned (OpenSpec.ofChange encPutsSpec)

/-- ITS FALSE NEIGHBOUR: 'it returns false'. Refute it at one input. -/
def encPutsWrong : ChangeSpec := { name := "encPuts", fn := fun _ => fun
  | [d] => { results := [.lit (.bool false)], args := [d] }
  | _ => none }
def EncPutsWrongFalsely : Prop := encPutsRow.holds Tryd.pinned (OpenSpec.ofChange encPutsWrong)

/-- 'typecaselaw08.EncGets': WHATEVER THE INPUT: true; the input reads as it did. -/
def encGetsSpec : ChangeSpec := { name := "encGets", fn := fun _ => fun
  | [d] => { results := [.lit (.bool true)], args := [d] }
  | _ => none }
def encGetsRow : OpenClaim := { program := "ytabdfbghhkpoeaadoor", sum := "b52f1f5ae88e2a9c8c1c99246cbac1caa67c18a8fd958e13d0d131584c48719c", func := "typecase/typecaselaw08.EncGets", spec := "encGets", unfollowed := true, recurses := true, named := ["typecase/enc.spans", "typecase/enc.regs", "typecase/enc.widths"], apart := false, laid := [("typecase/enc.spans", laid_typecase_enc_spans), ("typecase/enc.widths", laid_typecase_enc_widths), ("typecase/enc.regs", laid_typecase_enc_regs)] }
def EncGetsSaid : Prop := encGetsRow.holds Tryd.pinned (OpenSpec.ofChange encGetsSpec)

/-- ITS FALSE NEIGHBOUR: 'it returns false'. Refute it at one input. -/
def encGetsWrong : ChangeSpec := { name := "encGets", fn := fun _ => fun
  | [d] => { results := [.lit (.bool false)], args := [d] }
  | _ => none }
def EncGetsWrongFalsely : Prop := encGetsRow.holds Tryd.pinned (OpenSpec.ofChange encGetsWrong)

/-- 'typecaselaw08.EncRows': WHATEVER THE INPUT: true; the input reads as it did. -/
def encRowsSpec : ChangeSpec := { name := "encRows", fn := fun _ => fun
  | [d1, d2] => { results := [.lit (.bool true)], args := [d1, d2] }
  | _ => none }
def encRowsRow : OpenClaim := { program := "ytabdfbghhkpoeaadoor", sum := "b52f1f5ae88e2a9c8c1c99246cbac1caa67c18a8fd958e13d0d131584c48719c", func := "typecase/typecaselaw08.EncRows", spec := "encRows", unfollowed := true, recurses := true, named := ["typecase/enc.spans", "typecase/enc.regs", "typecase/enc.widths"], apart := false, laid := [("typecase/enc.spans", laid_typecase_enc_spans), ("typecase/enc.widths", laid_typecase_enc_widths), ("typecase/enc.regs", laid_typecase_enc_regs)] }
def EncRowsSaid : Prop := encRowsRow.holds Tryd.pinned (OpenSpec.ofChange encRowsSpec)

/-- ITS FALSE NEIGHBOUR: 'it returns false'. Refute it at one input. -/
def encRowsWrong : ChangeSpec := { name := "encRows", fn := fun _ => fun
  | [d1, d2] => { results := [.lit (.bool false)], args := [d1, d2] }
  | _ => none }
def EncRowsWrongFalsely : Prop := encRowsRow.holds Tryd.pinned (OpenSpec.ofChange encRowsWrong)

/-- 'typecaselaw08.EncApart': WHATEVER THE INPUT: true; the input reads as it did. -/
def encApartSpec : ChangeSpec := { name := "encApart", fn := fun _ => fun
  | [d1, d2] => { results := [.lit (.bool true)], args := [d1, d2] }
  | _ => none }
def encApartRow : OpenClaim := { program := "ytabdfbghhkpoeaadoor", sum := "b52f1f5ae88e2a9c8c1c99246cbac1caa67c18a8fd958e13d0d131584c48719c", func := "typecase/typecaselaw08.EncApart", spec := "encApart", unfollowed := true, recurses := true, named := ["typecase/enc.spans", "typecase/enc.regs", "typecase/enc.widths"], apart := false, laid := [("typecase/enc.spans", laid_typecase_enc_spans), ("typecase/enc.widths", laid_typecase_enc_widths), ("typecase/enc.regs", laid_typecase_enc_regs)] }
def EncApartSaid : Prop := encApartRow.holds Tryd.pinned (OpenSpec.ofChange encApartSpec)

/-- ITS FALSE NEIGHBOUR: 'it returns false'. Refute it at one input. -/
def encApartWrong : ChangeSpec := { name := "encApart", fn := fun _ => fun
  | [d1, d2] => { results := [.lit (.bool false)], args := [d1, d2] }
  | _ => none }
def EncApartWrongFalsely : Prop := encApartRow.holds Tryd.pinned (OpenSpec.ofChange encApartWrong)

/- THE SECOND FORM. 'bulk': how many values and letters a reading holds, each counted each time it is reached (what is shared counts as often as it is met; a slice's spare places count too). A statement '..UptoSaid' is the law's where the arguments, and the package variables that the reading takes, are together of bulk at most 1048576: NARROWER than '..Said'. Prove '..Said' where nothing that the law and all that it calls make is longer than what came in: it says more and counts as full. Else prove '..UptoSaid'. A law counts once. -/
mutual
def uptoBulk {H : Type} : DataW H → Nat
  | .lit (.string bytes) => bytes.length + 1
  | .lit _ => 1
  | .nil => 1
  | .ptr d => uptoBulk d + 1
  | .slice elems spare => uptoBulkAll elems + uptoBulkAll spare + 1
  | .agg parts => uptoBulkAll parts + 1
  | .iface _ d => uptoBulk d + 1
  | .map entries => uptoBulkEntries entries + 1
  | .held _ => 1
def uptoBulkAll {H : Type} : List (DataW H) → Nat
  | [] => 0
  | d :: r => uptoBulk d + uptoBulkAll r
def uptoBulkEntries {H : Type} : List (Lit × DataW H) → Nat
  | [] => 0
  | x :: r => uptoBulkEntry x + uptoBulkEntries r
def uptoBulkEntry {H : Type} : Lit × DataW H → Nat
  | (.string bytes, d) => bytes.length + uptoBulk d + 1
  | (_, d) => uptoBulk d + 1
 end
def uptoSmall : (H : Type) → List (DataW H) → Bool := fun _ ds => decide (uptoBulkAll ds ≤ 1048576)
def OpenSpec.upto (s : _root_.Go.ChangeSpec) : _root_.Go.OpenSpec := { _root_.Go.OpenSpec.ofChange s with cond := some uptoSmall }

/-- 'typecaselaw08.EncPuts', WHERE WHAT IT READS IS OF BULK AT MOST 1048576: true; the input reads as it did. -/
def encPutsUptoRow : OpenClaim := { program := "ytabdfbghhkpoeaadoor", sum := "b52f1f5ae88e2a9c8c1c99246cbac1caa67c18a8fd958e13d0d131584c48719c", func := "typecase/typecaselaw08.EncPuts", spec := "encPuts", unfollowed := true, recurses := true, named := ["typecase/enc.spans", "typecase/enc.regs", "typecase/enc.widths"], apart := false, laid := [("typecase/enc.spans", laid_typecase_enc_spans), ("typecase/enc.widths", laid_typecase_enc_widths), ("typecase/enc.regs", laid_typecase_enc_regs)], narrowed := true }
def EncPutsUptoSaid : Prop := encPutsUptoRow.holds Tryd.pinned (OpenSpec.upto encPutsSpec)

/-- 'typecaselaw08.EncGets', WHERE WHAT IT READS IS OF BULK AT MOST 1048576: true; the input reads as it did. -/
def encGetsUptoRow : OpenClaim := { program := "ytabdfbghhkpoeaadoor", sum := "b52f1f5ae88e2a9c8c1c99246cbac1caa67c18a8fd958e13d0d131584c48719c", func := "typecase/typecaselaw08.EncGets", spec := "encGets", unfollowed := true, recurses := true, named := ["typecase/enc.spans", "typecase/enc.regs", "typecase/enc.widths"], apart := false, laid := [("typecase/enc.spans", laid_typecase_enc_spans), ("typecase/enc.widths", laid_typecase_enc_widths), ("typecase/enc.regs", laid_typecase_enc_regs)], narrowed := true }
def EncGetsUptoSaid : Prop := encGetsUptoRow.holds Tryd.pinned (OpenSpec.upto encGetsSpec)

/-- 'typecaselaw08.EncRows', WHERE WHAT IT READS IS OF BULK AT MOST 1048576: true; the input reads as it did. -/
def encRowsUptoRow : OpenClaim := { program := "ytabdfbghhkpoeaadoor", sum := "b52f1f5ae88e2a9c8c1c99246cbac1caa67c18a8fd958e13d0d131584c48719c", func := "typecase/typecaselaw08.EncRows", spec := "encRows", unfollowed := true, recurses := true, named := ["typecase/enc.spans", "typecase/enc.regs", "typecase/enc.widths"], apart := false, laid := [("typecase/enc.spans", laid_typecase_enc_spans), ("typecase/enc.widths", laid_typecase_enc_widths), ("typecase/enc.regs", laid_typecase_enc_regs)], narrowed := true }
def EncRowsUptoSaid : Prop := encRowsUptoRow.holds Tryd.pinned (OpenSpec.upto encRowsSpec)

/-- 'typecaselaw08.EncApart', WHERE WHAT IT READS IS OF BULK AT MOST 1048576: true; the input reads as it did. -/
def encApartUptoRow : OpenClaim := { program := "ytabdfbghhkpoeaadoor", sum := "b52f1f5ae88e2a9c8c1c99246cbac1caa67c18a8fd958e13d0d131584c48719c", func := "typecase/typecaselaw08.EncApart", spec := "encApart", unfollowed := true, recurses := true, named := ["typecase/enc.spans", "typecase/enc.regs", "typecase/enc.widths"], apart := false, laid := [("typecase/enc.spans", laid_typecase_enc_spans), ("typecase/enc.widths", laid_typecase_enc_widths), ("typecase/enc.regs", laid_typecase_enc_regs)], narrowed := true }
def EncApartUptoSaid : Prop := encApartUptoRow.holds Tryd.pinned (OpenSpec.upto encApartSpec)

end Rows
end Go.Proofs.YtabdfbghhkpoeaaDoor
