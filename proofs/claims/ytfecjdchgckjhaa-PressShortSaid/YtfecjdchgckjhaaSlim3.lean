/- What the functions of package slim compute: the instructions. -/
import Derived.Test.YtfecjdchgckjhaaSlim2
import Derived.Deep.DrawnRows
namespace Go.Proofs.Ytfecjdchgckjhaa.S
set_option linter.unusedVariables false
set_option linter.unusedSimpArgs false
open Go.ChangeShapes Go.WideShapes Go.ChangeAt Go.RowKit Go.Proofs.Ytfecjdchgckjhaa.P Go.Proofs.Ytfecjdchgckjhaa.W
attribute [local go_sem ↓] Go.wp_at_zero Go.wp_at_succ

theorem bd1 (x : Int) (l : Nat) : 0 ≤ fld x l 1 ∧ fld x l 1 < 2 := fld_bd x l 1
theorem bd2 (x : Int) (l : Nat) : 0 ≤ fld x l 2 ∧ fld x l 2 < 4 := fld_bd x l 2
theorem bd5 (x : Int) (l : Nat) : 0 ≤ fld x l 5 ∧ fld x l 5 < 32 := fld_bd x l 5

theorem joinL (x : Int) : bits .or .i64 (fld x 2 2 * 64) (fld x 12 1 * 32) = fld x 2 2 * 64 + fld x 12 1 * 32 ∧ bits .or .i64 (fld x 2 2 * 64 + fld x 12 1 * 32) (fld x 4 3 * 4) = sL x ∧ 0 ≤ sL x ∧ sL x < 256 := by
  obtain ⟨a0, a1⟩ := bd2 x 2
  obtain ⟨b0, b1⟩ := bd1 x 12
  obtain ⟨c0, c1⟩ := f3_lt x 4
  have e : sL x = (fld x 2 2 * 16 + fld x 12 1 * 8 + fld x 4 3) * 4 := by unfold sL; rw [lwsp_joined]
  rw [e]
  generalize fld x 2 2 = a at *
  generalize fld x 12 1 = b at *
  generalize fld x 4 3 = c at *
  have j1 := or_join64 a (b * 32) 6 (by omega) (by simp; omega) a0 (by simp; omega)
  have j2 := or_join64 (a * 2 + b) (c * 4) 5 (by omega) (by simp; omega) (by omega) (by simp; omega)
  simp at j1 j2
  refine ⟨j1, ?_, by omega, by omega⟩
  have e2 : a * 64 + b * 32 = (a * 2 + b) * 32 := by omega
  rw [e2, j2]; omega
theorem joinS (x : Int) : bits .or .i64 (fld x 7 2 * 64) (fld x 9 4 * 4) = sS x ∧ 0 ≤ sS x ∧ sS x < 256 := by
  obtain ⟨a0, a1⟩ := bd2 x 7
  have hc : 0 ≤ fld x 9 4 ∧ fld x 9 4 < 16 := fld_bd x 9 4
  obtain ⟨c0, c1⟩ := hc
  have e : sS x = (fld x 7 2 * 16 + fld x 9 4) * 4 := by unfold sS; rw [swsp_joined]
  rw [e]
  generalize fld x 7 2 = a at *
  generalize fld x 9 4 = c at *
  have j1 := or_join64 a (c * 4) 6 (by omega) (by simp; omega) a0 (by simp; omega)
  simp at j1
  refine ⟨by rw [j1]; omega, by omega, by omega⟩

end Go.Proofs.Ytfecjdchgckjhaa.S
