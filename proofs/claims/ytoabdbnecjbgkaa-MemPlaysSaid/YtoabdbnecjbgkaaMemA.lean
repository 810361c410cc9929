/- Cells that come in as an argument: what they are. -/
import Derived.Test.YtoabdbnecjbgkaaWord
import Derived.Test.YtoabdbnecjbgkaaMemP
import Derived.Deep.SlicePairs
import Derived.WalkKit
namespace Go.Proofs.Ytoabdbnecjbgkaa.M
set_option linter.unusedVariables false
open Go.ChangeShapes Go.WideShapes Go.RowKit Go.Proofs.Ytoabdbnecjbgkaa.P Go.Deep

/-- a slice of cells that came in, or was made: what it reads as -/
def CellsAt (w : World) (v : Value) (l : List (Int × Int)) : Prop :=
  ∃ (ao : Option Addr) (cap : Nat), v = .slice ao l.length cap ∧ ∀ i, i < l.length → ∃ b o, ao = some ⟨b, o, none⟩ ∧
    w.cell? ⟨b, o + i * 2, none⟩ = some (.int .u32 (l.getD i (0, 0)).1) ∧ w.cell? ⟨b, o + i * 2 + 1, none⟩ = some (.int .u8 (l.getD i (0, 0)).2)
theorem add_block (a : Addr) (j : Nat) : (a.add j).block = a.block := by unfold Addr.add; split <;> rfl
theorem CellsAt.kept {w w' : World} {v : Value} {l : List (Int × Int)} {row : Option Nat} (h : CellsAt w v l) (hg : w.grownBy w' row) (hr : ∀ a n c, v = .slice (some a) n c → some a.block ≠ row) : CellsAt w' v l := by
  obtain ⟨ao, cap, h1, h3⟩ := h
  refine ⟨ao, cap, h1, fun i hi => ?_⟩
  obtain ⟨b, o, rfl, g0, g1⟩ := h3 i hi
  have h2 := World.block_lt_of_cell? w _ g0
  have hb : w'.heap[b]? = w.heap[b]? := hg.block b h2 (hr _ _ _ h1)
  have hc : ∀ j, w'.cell? ⟨b, j, none⟩ = w.cell? ⟨b, j, none⟩ := fun j => by unfold World.cell?; rw [hb]
  exact ⟨b, o, rfl, (hc _).trans g0, (hc _).trans g1⟩
theorem CellsAt.old {w w' : World} {v : Value} {l : List (Int × Int)} (h : CellsAt w v l) (hb : Below w.heap.size w w') : CellsAt w' v l :=
  h.kept (row := none) ⟨hb.os, hb.tape, hb.output, hb.size, fun k hk _ => hb.block k hk⟩ (fun _ _ _ _ => by simp)
theorem wf32 {n : Int} (h : (Lit.int .u32 n).wf = true) : okA n := by
  have : 0 ≤ n ∧ n ≤ 4294967295 := by simpa [Lit.wf, IntKind.min, IntKind.max, IntKind.signed, IntKind.bits] using h
  unfold okA; omega
theorem wf8 {n : Int} (h : (Lit.int .u8 n).wf = true) : 0 ≤ n ∧ n < 256 := by
  have : 0 ≤ n ∧ n ≤ 255 := by simpa [Lit.wf, IntKind.min, IntKind.max, IntKind.signed, IntKind.bits] using h
  omega
theorem cellsCell : Try.prog.cellsOf 33 = 2 := by kernel_rfl
theorem cellsU32 : Try.prog.cellsOf 23 = 1 := by kernel_rfl
theorem cellsU8 : Try.prog.cellsOf 5 = 1 := by kernel_rfl
set_option maxRecDepth 100000 in
theorem open_cells {H : Type} {enc : TypeId × Value → H} {w : World} {base : Nat} {spare : Nat → Bool} {held : Bool} {r : Reach} {b0 : Nat} {v : Value} {d : DataW H} {p : List MemPlace}
    (hv : Value.okWide Try.prog w r b0 22 v) (h : DataW.Trod enc Try.prog w base spare held 22 v d p) : ∃ l : List (Int × Int), CellsAt w v l ∧ (∀ c ∈ l, okC c) ∧ l.length ≤ maxLen := by
  obtain ⟨a0, len0, cap0, rfl⟩ := okWide_slice Try.underlying22 hv
  have hcl : (Value.slice a0 len0 cap0).cells.toList = [Value.slice a0 len0 cap0] := rfl
  obtain ⟨fuel, hf⟩ := h
  rw [hcl] at hf
  rcases open_slice_pairs Try.underlying22 Try.underlying33 cellsCell rfl rfl cellsU32 cellsU8 hf with ⟨h1, _⟩ | ⟨a, len, cap, m, n, V0, V1, D0, D1, P0, P1, h1, h2, h3, h4, h5, h6, h7⟩
  · exact ⟨[], ⟨none, 0, by simpa using h1, fun i hi => by simp at hi⟩, by simp, by simp⟩
  · have hlm : len ≤ m := by rw [h5]; split <;> omega
    have each : ∀ i, i < len → ∃ c : Int × Int, V0 i = .int .u32 c.1 ∧ V1 i = .int .u8 c.2 ∧ okC c := fun i hi => by
      obtain ⟨g0, g1, g2, g3⟩ := h7 i (by omega)
      obtain ⟨x, e1, e2, e3⟩ := DataW.trod_int Try.underlying23 g2
      obtain ⟨y, f1, f2, f3⟩ := DataW.trod_int Try.underlying5 g3
      exact ⟨(x, y), by simpa using e1, by simpa using f1, wf32 e3, wf8 f3⟩
    obtain ⟨q, hq⟩ := choose_lt each
    refine ⟨(List.range len).map q, ⟨some a, cap, by simpa using h1, fun i hi => ?_⟩, ?_, by simp; omega⟩
    · have hi2 : i < len := by simpa using hi
      have e : ((List.range len).map q).getD i (0, 0) = q i := by simp [List.getD, hi2]
      obtain ⟨g0, g1, -, -⟩ := h7 i (by omega)
      have hsp : a.spot = none := by
        have g := (h7 0 (by omega)).1
        have := World.cell?_spot g
        simpa [Addr.add] using this
      have hadd : ∀ n, a.add n = ⟨a.block, a.off + n, none⟩ := fun n => by unfold Addr.add; split <;> (cases a; simp_all)
      refine ⟨a.block, a.off, by cases a; simp_all, ?_, ?_⟩
      · rw [e, ← hadd, g0, (hq i hi2).1]
      · rw [e, show a.off + i * 2 + 1 = a.off + (i * 2 + 1) by omega, ← hadd, g1, (hq i hi2).2.1]
    · intro c hc
      obtain ⟨i, hi, rfl⟩ := List.mem_map.1 hc
      exact (hq i (by simpa using hi)).2.2
end Go.Proofs.Ytoabdbnecjbgkaa.M
