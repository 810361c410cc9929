/- What the functions of package enc compute: its tables. -/
import Derived.Test.YtabdfbghhkpoeaaDoorEnc4
import Derived.Below
import Derived.Test.YtabdfbghhkpoeaaDoorWord
namespace Go.Proofs.YtabdfbghhkpoeaaDoor.E
set_option linter.unusedVariables false
set_option linter.unusedSimpArgs false
open Go.ChangeShapes Go.WideShapes Go.ChangeAt Go.RowKit Go.Proofs.YtabdfbghhkpoeaaDoor.P Go.Proofs.YtabdfbghhkpoeaaDoor.W

/-- what the tables of package enc hold -/
structure Tabs (w : World) : Prop where
  g0 : 1 < w.heap.size
  g1 : 2 < w.heap.size
  g2 : 0 < w.heap.size
  s1 : w.cell? ⟨1, 12, none⟩ = some (.int .i64 12) ∧ w.cell? ⟨1, 13, none⟩ = some (.int .i64 12) ∧ w.cell? ⟨1, 14, none⟩ = some (.int .i64 20) ∧ w.cell? ⟨1, 15, none⟩ = some (.int .i64 0) ∧ w.cell? ⟨1, 16, none⟩ = some (.int .i64 0) ∧ w.cell? ⟨1, 17, none⟩ = some (.int .i64 0) ∧ w.cell? ⟨1, 18, none⟩ = some (.int .i64 0) ∧ w.cell? ⟨1, 19, none⟩ = some (.int .i64 0) ∧ w.cell? ⟨1, 20, none⟩ = some (.int .i64 0) ∧ w.cell? ⟨1, 21, none⟩ = some (.int .i64 0) ∧ w.cell? ⟨1, 22, none⟩ = some (.int .i64 0) ∧ w.cell? ⟨1, 23, none⟩ = some (.int .i64 0)
  s2 : w.cell? ⟨1, 24, none⟩ = some (.int .i64 21) ∧ w.cell? ⟨1, 25, none⟩ = some (.int .i64 1) ∧ w.cell? ⟨1, 26, none⟩ = some (.int .i64 10) ∧ w.cell? ⟨1, 27, none⟩ = some (.int .i64 20) ∧ w.cell? ⟨1, 28, none⟩ = some (.int .i64 11) ∧ w.cell? ⟨1, 29, none⟩ = some (.int .i64 1) ∧ w.cell? ⟨1, 30, none⟩ = some (.int .i64 12) ∧ w.cell? ⟨1, 31, none⟩ = some (.int .i64 12) ∧ w.cell? ⟨1, 32, none⟩ = some (.int .i64 8) ∧ w.cell? ⟨1, 33, none⟩ = some (.int .i64 31) ∧ w.cell? ⟨1, 34, none⟩ = some (.int .i64 20) ∧ w.cell? ⟨1, 35, none⟩ = some (.int .i64 1)
  s3 : w.cell? ⟨1, 36, none⟩ = some (.int .i64 8) ∧ w.cell? ⟨1, 37, none⟩ = some (.int .i64 1) ∧ w.cell? ⟨1, 38, none⟩ = some (.int .i64 4) ∧ w.cell? ⟨1, 39, none⟩ = some (.int .i64 25) ∧ w.cell? ⟨1, 40, none⟩ = some (.int .i64 5) ∧ w.cell? ⟨1, 41, none⟩ = some (.int .i64 6) ∧ w.cell? ⟨1, 42, none⟩ = some (.int .i64 7) ∧ w.cell? ⟨1, 43, none⟩ = some (.int .i64 11) ∧ w.cell? ⟨1, 44, none⟩ = some (.int .i64 1) ∧ w.cell? ⟨1, 45, none⟩ = some (.int .i64 31) ∧ w.cell? ⟨1, 46, none⟩ = some (.int .i64 12) ∧ w.cell? ⟨1, 47, none⟩ = some (.int .i64 1)
  s4 : w.cell? ⟨1, 48, none⟩ = some (.int .i64 20) ∧ w.cell? ⟨1, 49, none⟩ = some (.int .i64 0) ∧ w.cell? ⟨1, 50, none⟩ = some (.int .i64 12) ∧ w.cell? ⟨1, 51, none⟩ = some (.int .i64 0) ∧ w.cell? ⟨1, 52, none⟩ = some (.int .i64 0) ∧ w.cell? ⟨1, 53, none⟩ = some (.int .i64 0) ∧ w.cell? ⟨1, 54, none⟩ = some (.int .i64 0) ∧ w.cell? ⟨1, 55, none⟩ = some (.int .i64 0) ∧ w.cell? ⟨1, 56, none⟩ = some (.int .i64 0) ∧ w.cell? ⟨1, 57, none⟩ = some (.int .i64 0) ∧ w.cell? ⟨1, 58, none⟩ = some (.int .i64 0) ∧ w.cell? ⟨1, 59, none⟩ = some (.int .i64 0)
  s5 : w.cell? ⟨1, 60, none⟩ = some (.int .i64 7) ∧ w.cell? ⟨1, 61, none⟩ = some (.int .i64 0) ∧ w.cell? ⟨1, 62, none⟩ = some (.int .i64 5) ∧ w.cell? ⟨1, 63, none⟩ = some (.int .i64 25) ∧ w.cell? ⟨1, 64, none⟩ = some (.int .i64 5) ∧ w.cell? ⟨1, 65, none⟩ = some (.int .i64 7) ∧ w.cell? ⟨1, 66, none⟩ = some (.int .i64 0) ∧ w.cell? ⟨1, 67, none⟩ = some (.int .i64 0) ∧ w.cell? ⟨1, 68, none⟩ = some (.int .i64 0) ∧ w.cell? ⟨1, 69, none⟩ = some (.int .i64 0) ∧ w.cell? ⟨1, 70, none⟩ = some (.int .i64 0) ∧ w.cell? ⟨1, 71, none⟩ = some (.int .i64 0)
  s6 : w.cell? ⟨1, 72, none⟩ = some (.int .i64 20) ∧ w.cell? ⟨1, 73, none⟩ = some (.int .i64 0) ∧ w.cell? ⟨1, 74, none⟩ = some (.int .i64 12) ∧ w.cell? ⟨1, 75, none⟩ = some (.int .i64 0) ∧ w.cell? ⟨1, 76, none⟩ = some (.int .i64 0) ∧ w.cell? ⟨1, 77, none⟩ = some (.int .i64 0) ∧ w.cell? ⟨1, 78, none⟩ = some (.int .i64 0) ∧ w.cell? ⟨1, 79, none⟩ = some (.int .i64 0) ∧ w.cell? ⟨1, 80, none⟩ = some (.int .i64 0) ∧ w.cell? ⟨1, 81, none⟩ = some (.int .i64 0) ∧ w.cell? ⟨1, 82, none⟩ = some (.int .i64 0) ∧ w.cell? ⟨1, 83, none⟩ = some (.int .i64 0)
  s7 : w.cell? ⟨1, 84, none⟩ = some (.int .i64 20) ∧ w.cell? ⟨1, 85, none⟩ = some (.int .i64 0) ∧ w.cell? ⟨1, 86, none⟩ = some (.int .i64 5) ∧ w.cell? ⟨1, 87, none⟩ = some (.int .i64 0) ∧ w.cell? ⟨1, 88, none⟩ = some (.int .i64 0) ∧ w.cell? ⟨1, 89, none⟩ = some (.int .i64 0) ∧ w.cell? ⟨1, 90, none⟩ = some (.int .i64 0) ∧ w.cell? ⟨1, 91, none⟩ = some (.int .i64 0) ∧ w.cell? ⟨1, 92, none⟩ = some (.int .i64 0) ∧ w.cell? ⟨1, 93, none⟩ = some (.int .i64 0) ∧ w.cell? ⟨1, 94, none⟩ = some (.int .i64 0) ∧ w.cell? ⟨1, 95, none⟩ = some (.int .i64 0)
  w1 : w.cell? ⟨2, 1, none⟩ = some (.int .i64 32)
  w2 : w.cell? ⟨2, 2, none⟩ = some (.int .i64 21)
  w3 : w.cell? ⟨2, 3, none⟩ = some (.int .i64 13)
  w4 : w.cell? ⟨2, 4, none⟩ = some (.int .i64 12)
  w5 : w.cell? ⟨2, 5, none⟩ = some (.int .i64 12)
  w6 : w.cell? ⟨2, 6, none⟩ = some (.int .i64 12)
  w7 : w.cell? ⟨2, 7, none⟩ = some (.int .i64 0)
  r1 : w.cell? ⟨0, 1, none⟩ = some (.int .i64 1)
  r2 : w.cell? ⟨0, 2, none⟩ = some (.int .i64 1)
  r3 : w.cell? ⟨0, 3, none⟩ = some (.int .i64 6)
  r4 : w.cell? ⟨0, 4, none⟩ = some (.int .i64 3)
  r5 : w.cell? ⟨0, 5, none⟩ = some (.int .i64 6)
  r6 : w.cell? ⟨0, 6, none⟩ = some (.int .i64 3)
  r7 : w.cell? ⟨0, 7, none⟩ = some (.int .i64 3)
  r8 : w.cell? ⟨0, 8, none⟩ = some (.int .i64 7)
  r9 : w.cell? ⟨0, 9, none⟩ = some (.int .i64 0)
theorem Tabs.below {w w' : World} (h : Tabs w) (hb : Below w.heap.size w w') : Tabs w' := by
  have e0 : ∀ j, w'.cell? ⟨1, j, none⟩ = w.cell? ⟨1, j, none⟩ := fun j => hb.cell (p := ⟨1, j, none⟩) h.g0
  have e1 : ∀ j, w'.cell? ⟨2, j, none⟩ = w.cell? ⟨2, j, none⟩ := fun j => hb.cell (p := ⟨2, j, none⟩) h.g1
  have e2 : ∀ j, w'.cell? ⟨0, j, none⟩ = w.cell? ⟨0, j, none⟩ := fun j => hb.cell (p := ⟨0, j, none⟩) h.g2
  have hs := hb.size
  obtain ⟨g0, g1, g2, s1, s2, s3, s4, s5, s6, s7, w1, w2, w3, w4, w5, w6, w7, r1, r2, r3, r4, r5, r6, r7, r8, r9⟩ := h
  refine ⟨Nat.lt_of_lt_of_le g0 hs, Nat.lt_of_lt_of_le g1 hs, Nat.lt_of_lt_of_le g2 hs, ?_, ?_, ?_, ?_, ?_, ?_, ?_, ?_, ?_, ?_, ?_, ?_, ?_, ?_, ?_, ?_, ?_, ?_, ?_, ?_, ?_, ?_, ?_⟩ <;> (simp only [e0, e1, e2]; assumption)
end Go.Proofs.YtabdfbghhkpoeaaDoor.E
