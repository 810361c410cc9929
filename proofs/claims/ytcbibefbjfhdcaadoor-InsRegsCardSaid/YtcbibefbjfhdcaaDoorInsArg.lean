/- An instruction that comes in: its operation, its registers, its number. -/
import Derived.Test.YtcbibefbjfhdcaaDoorWord
import Derived.Lib.SmallJoins
namespace Go.Proofs.YtcbibefbjfhdcaaDoor.W
set_option linter.unusedVariables false
open Go.Joins Go.ChangeShapes Go.WideShapes Go.RowKit Go.Deep

/-- the bounds of an instruction's fields -/
def InsB (op rd rs1 rs2 imm : Int) : Prop :=
  (-9223372036854775808 ≤ op ∧ op < 9223372036854775808) ∧ (-9223372036854775808 ≤ rd ∧ rd < 9223372036854775808) ∧ (-9223372036854775808 ≤ rs1 ∧ rs1 < 9223372036854775808) ∧ (-9223372036854775808 ≤ rs2 ∧ rs2 < 9223372036854775808) ∧ (-2147483648 ≤ imm ∧ imm < 2147483648)
theorem wf64 {n : Int} (h : (Lit.int .i64 n).wf = true) : -9223372036854775808 ≤ n ∧ n < 9223372036854775808 := by
  have : -9223372036854775808 ≤ n ∧ n ≤ 9223372036854775807 := by simpa [Lit.wf, IntKind.min, IntKind.max, IntKind.signed, IntKind.bits] using h
  omega
theorem wf32 {n : Int} (h : (Lit.int .i32 n).wf = true) : -2147483648 ≤ n ∧ n < 2147483648 := by
  have : -2147483648 ≤ n ∧ n ≤ 2147483647 := by simpa [Lit.wf, IntKind.min, IntKind.max, IntKind.signed, IntKind.bits] using h
  omega
theorem cellsIns : Tryd.prog.cellsOf 23 = 5 := by kernel_rfl
set_option maxRecDepth 100000 in
theorem open_ins {H : Type} {enc : TypeId × Value → H} {w : World} {base : Nat} {spare : Nat → Bool} {held : Bool} {r : Reach} {b0 : Nat} {v : Value} {d : DataW H} {p : List MemPlace}
    (hv : Value.okWide Tryd.prog w r b0 23 v) (h : DataW.Trod enc Tryd.prog w base spare held 23 v d p) :
    ∃ op rd rs1 rs2 imm : Int, v = .agg #[.int .i64 op, .int .i64 rd, .int .i64 rs1, .int .i64 rs2, .int .i32 imm] ∧ InsB op rd rs1 rs2 imm := by
  have hs := Tryd.underlying23
  obtain ⟨cs, rfl, hsz⟩ := okWide_struct hs hv
  obtain ⟨l⟩ := cs
  match l, hsz.trans cellsIns with
  | [c0, c1, c2, c3, c4], _ =>
    obtain ⟨fuel, hf⟩ := h
    obtain ⟨xs, n, _, hx, _, hlen, hg⟩ := DataW.trod_struct hs hf
    match xs, hlen with
    | [y0, y1, y2, y3, y4], _ =>
      have g0 : DataW.trod enc Tryd.prog w base spare held n 3 [c0] = some y0 := hg 0 _ rfl
      have g1 : DataW.trod enc Tryd.prog w base spare held n 3 [c1] = some y1 := hg 1 _ rfl
      have g2 : DataW.trod enc Tryd.prog w base spare held n 3 [c2] = some y2 := hg 2 _ rfl
      have g3 : DataW.trod enc Tryd.prog w base spare held n 3 [c3] = some y3 := hg 3 _ rfl
      have g4 : DataW.trod enc Tryd.prog w base spare held n 21 [c4] = some y4 := hg 4 _ rfl
      obtain ⟨m0, e0, _, w0⟩ := DataW.trod_int Tryd.underlying3 g0
      obtain ⟨m1, e1, _, w1⟩ := DataW.trod_int Tryd.underlying3 g1
      obtain ⟨m2, e2, _, w2⟩ := DataW.trod_int Tryd.underlying3 g2
      obtain ⟨m3, e3, _, w3⟩ := DataW.trod_int Tryd.underlying3 g3
      obtain ⟨m4, e4, _, w4⟩ := DataW.trod_int Tryd.underlying21 g4
      injection e0 with e0 _; injection e1 with e1 _; injection e2 with e2 _; injection e3 with e3 _; injection e4 with e4 _
      subst e0 e1 e2 e3 e4
      exact ⟨m0, m1, m2, m3, m4, rfl, wf64 w0, wf64 w1, wf64 w2, wf64 w3, wf32 w4⟩
end Go.Proofs.YtcbibefbjfhdcaaDoor.W
