/- What typecaseref08.codes computes, operation by operation. -/
import Derived.Test.YtabdfbghhkpoeaaDoorEncP
import Derived.Test.YtabdfbghhkpoeaaDoorWord
import Derived.Test.YtabdfbghhkpoeaaDoorCells
import Derived.RegionTactic
import Derived.BigRegion
namespace Go.Proofs.YtabdfbghhkpoeaaDoor.R8
set_option linter.unusedVariables false
set_option linter.unusedSimpArgs false
open Go.ChangeShapes Go.WideShapes Go.ChangeAt Go.RowKit Go.Proofs.YtabdfbghhkpoeaaDoor.P Go.Proofs.YtabdfbghhkpoeaaDoor.W

theorem codes1 (w : World) : Calls Tryd.prog 39 #[.int .i64 1] w fun e w' => e = .returned (.agg #[.int .u32 55, .int .u32 0, .int .u32 0, .int .u32 1]) ∧ Below w.heap.size w w' := by
  go_enter Tryd.func39, Tryd.ntmps39
  go_wp2
  go_returns
  exact ⟨rfl, by go_grown⟩
theorem codes2 (w : World) : Calls Tryd.prog 39 #[.int .i64 2] w fun e w' => e = .returned (.agg #[.int .u32 23, .int .u32 0, .int .u32 0, .int .u32 1]) ∧ Below w.heap.size w w' := by
  go_enter Tryd.func39, Tryd.ntmps39
  go_wp2
  go_returns
  exact ⟨rfl, by go_grown⟩
theorem codes3 (w : World) : Calls Tryd.prog 39 #[.int .i64 3] w fun e w' => e = .returned (.agg #[.int .u32 111, .int .u32 0, .int .u32 0, .int .u32 1]) ∧ Below w.heap.size w w' := by
  go_enter Tryd.func39, Tryd.ntmps39
  go_wp2
  go_returns
  exact ⟨rfl, by go_grown⟩
theorem codes4 (w : World) : Calls Tryd.prog 39 #[.int .i64 4] w fun e w' => e = .returned (.agg #[.int .u32 103, .int .u32 0, .int .u32 0, .int .u32 2]) ∧ Below w.heap.size w w' := by
  go_enter Tryd.func39, Tryd.ntmps39
  go_wp2
  go_returns
  exact ⟨rfl, by go_grown⟩
theorem codes5 (w : World) : Calls Tryd.prog 39 #[.int .i64 5] w fun e w' => e = .returned (.agg #[.int .u32 99, .int .u32 0, .int .u32 0, .int .u32 2]) ∧ Below w.heap.size w w' := by
  go_enter Tryd.func39, Tryd.ntmps39
  go_wp2
  go_returns
  exact ⟨rfl, by go_grown⟩
theorem codes6 (w : World) : Calls Tryd.prog 39 #[.int .i64 6] w fun e w' => e = .returned (.agg #[.int .u32 99, .int .u32 1, .int .u32 0, .int .u32 2]) ∧ Below w.heap.size w w' := by
  go_enter Tryd.func39, Tryd.ntmps39
  go_wp2
  go_returns
  exact ⟨rfl, by go_grown⟩
theorem codes7 (w : World) : Calls Tryd.prog 39 #[.int .i64 7] w fun e w' => e = .returned (.agg #[.int .u32 99, .int .u32 4, .int .u32 0, .int .u32 2]) ∧ Below w.heap.size w w' := by
  go_enter Tryd.func39, Tryd.ntmps39
  go_wp2
  go_returns
  exact ⟨rfl, by go_grown⟩
theorem codes8 (w : World) : Calls Tryd.prog 39 #[.int .i64 8] w fun e w' => e = .returned (.agg #[.int .u32 99, .int .u32 5, .int .u32 0, .int .u32 2]) ∧ Below w.heap.size w w' := by
  go_enter Tryd.func39, Tryd.ntmps39
  go_wp2
  go_returns
  exact ⟨rfl, by go_grown⟩
theorem codes9 (w : World) : Calls Tryd.prog 39 #[.int .i64 9] w fun e w' => e = .returned (.agg #[.int .u32 99, .int .u32 6, .int .u32 0, .int .u32 2]) ∧ Below w.heap.size w w' := by
  go_enter Tryd.func39, Tryd.ntmps39
  go_wp2
  go_returns
  exact ⟨rfl, by go_grown⟩
theorem codes10 (w : World) : Calls Tryd.prog 39 #[.int .i64 10] w fun e w' => e = .returned (.agg #[.int .u32 99, .int .u32 7, .int .u32 0, .int .u32 2]) ∧ Below w.heap.size w w' := by
  go_enter Tryd.func39, Tryd.ntmps39
  go_wp2
  go_returns
  exact ⟨rfl, by go_grown⟩
theorem codes11 (w : World) : Calls Tryd.prog 39 #[.int .i64 11] w fun e w' => e = .returned (.agg #[.int .u32 3, .int .u32 0, .int .u32 0, .int .u32 2]) ∧ Below w.heap.size w w' := by
  go_enter Tryd.func39, Tryd.ntmps39
  go_wp2
  go_returns
  exact ⟨rfl, by go_grown⟩
theorem codes12 (w : World) : Calls Tryd.prog 39 #[.int .i64 12] w fun e w' => e = .returned (.agg #[.int .u32 3, .int .u32 1, .int .u32 0, .int .u32 2]) ∧ Below w.heap.size w w' := by
  go_enter Tryd.func39, Tryd.ntmps39
  go_wp2
  go_returns
  exact ⟨rfl, by go_grown⟩
theorem codes13 (w : World) : Calls Tryd.prog 39 #[.int .i64 13] w fun e w' => e = .returned (.agg #[.int .u32 3, .int .u32 2, .int .u32 0, .int .u32 2]) ∧ Below w.heap.size w w' := by
  go_enter Tryd.func39, Tryd.ntmps39
  go_wp2
  go_returns
  exact ⟨rfl, by go_grown⟩
theorem codes14 (w : World) : Calls Tryd.prog 39 #[.int .i64 14] w fun e w' => e = .returned (.agg #[.int .u32 3, .int .u32 4, .int .u32 0, .int .u32 2]) ∧ Below w.heap.size w w' := by
  go_enter Tryd.func39, Tryd.ntmps39
  go_wp2
  go_returns
  exact ⟨rfl, by go_grown⟩
theorem codes15 (w : World) : Calls Tryd.prog 39 #[.int .i64 15] w fun e w' => e = .returned (.agg #[.int .u32 3, .int .u32 5, .int .u32 0, .int .u32 2]) ∧ Below w.heap.size w w' := by
  go_enter Tryd.func39, Tryd.ntmps39
  go_wp2
  go_returns
  exact ⟨rfl, by go_grown⟩
theorem codes16 (w : World) : Calls Tryd.prog 39 #[.int .i64 16] w fun e w' => e = .returned (.agg #[.int .u32 35, .int .u32 0, .int .u32 0, .int .u32 2]) ∧ Below w.heap.size w w' := by
  go_enter Tryd.func39, Tryd.ntmps39
  go_wp2
  go_returns
  exact ⟨rfl, by go_grown⟩
theorem codes17 (w : World) : Calls Tryd.prog 39 #[.int .i64 17] w fun e w' => e = .returned (.agg #[.int .u32 35, .int .u32 1, .int .u32 0, .int .u32 2]) ∧ Below w.heap.size w w' := by
  go_enter Tryd.func39, Tryd.ntmps39
  go_wp2
  go_returns
  exact ⟨rfl, by go_grown⟩
theorem codes18 (w : World) : Calls Tryd.prog 39 #[.int .i64 18] w fun e w' => e = .returned (.agg #[.int .u32 35, .int .u32 2, .int .u32 0, .int .u32 2]) ∧ Below w.heap.size w w' := by
  go_enter Tryd.func39, Tryd.ntmps39
  go_wp2
  go_returns
  exact ⟨rfl, by go_grown⟩
theorem codes19 (w : World) : Calls Tryd.prog 39 #[.int .i64 19] w fun e w' => e = .returned (.agg #[.int .u32 19, .int .u32 0, .int .u32 0, .int .u32 2]) ∧ Below w.heap.size w w' := by
  go_enter Tryd.func39, Tryd.ntmps39
  go_wp2
  go_returns
  exact ⟨rfl, by go_grown⟩
theorem codes20 (w : World) : Calls Tryd.prog 39 #[.int .i64 20] w fun e w' => e = .returned (.agg #[.int .u32 19, .int .u32 2, .int .u32 0, .int .u32 2]) ∧ Below w.heap.size w w' := by
  go_enter Tryd.func39, Tryd.ntmps39
  go_wp2
  go_returns
  exact ⟨rfl, by go_grown⟩
theorem codes21 (w : World) : Calls Tryd.prog 39 #[.int .i64 21] w fun e w' => e = .returned (.agg #[.int .u32 19, .int .u32 3, .int .u32 0, .int .u32 2]) ∧ Below w.heap.size w w' := by
  go_enter Tryd.func39, Tryd.ntmps39
  go_wp2
  go_returns
  exact ⟨rfl, by go_grown⟩
theorem codes22 (w : World) : Calls Tryd.prog 39 #[.int .i64 22] w fun e w' => e = .returned (.agg #[.int .u32 19, .int .u32 4, .int .u32 0, .int .u32 2]) ∧ Below w.heap.size w w' := by
  go_enter Tryd.func39, Tryd.ntmps39
  go_wp2
  go_returns
  exact ⟨rfl, by go_grown⟩
theorem codes23 (w : World) : Calls Tryd.prog 39 #[.int .i64 23] w fun e w' => e = .returned (.agg #[.int .u32 19, .int .u32 6, .int .u32 0, .int .u32 2]) ∧ Below w.heap.size w w' := by
  go_enter Tryd.func39, Tryd.ntmps39
  go_wp2
  go_returns
  exact ⟨rfl, by go_grown⟩
theorem codes24 (w : World) : Calls Tryd.prog 39 #[.int .i64 24] w fun e w' => e = .returned (.agg #[.int .u32 19, .int .u32 7, .int .u32 0, .int .u32 2]) ∧ Below w.heap.size w w' := by
  go_enter Tryd.func39, Tryd.ntmps39
  go_wp2
  go_returns
  exact ⟨rfl, by go_grown⟩
theorem codes38 (w : World) : Calls Tryd.prog 39 #[.int .i64 38] w fun e w' => e = .returned (.agg #[.int .u32 267386895, .int .u32 0, .int .u32 0, .int .u32 4]) ∧ Below w.heap.size w w' := by
  go_enter Tryd.func39, Tryd.ntmps39
  go_wp2
  go_returns
  exact ⟨rfl, by go_grown⟩
theorem codes39 (w : World) : Calls Tryd.prog 39 #[.int .i64 39] w fun e w' => e = .returned (.agg #[.int .u32 115, .int .u32 0, .int .u32 0, .int .u32 4]) ∧ Below w.heap.size w w' := by
  go_enter Tryd.func39, Tryd.ntmps39
  go_wp2
  go_returns
  exact ⟨rfl, by go_grown⟩
theorem codes40 (w : World) : Calls Tryd.prog 39 #[.int .i64 40] w fun e w' => e = .returned (.agg #[.int .u32 1048691, .int .u32 0, .int .u32 0, .int .u32 4]) ∧ Below w.heap.size w w' := by
  go_enter Tryd.func39, Tryd.ntmps39
  go_wp2
  go_returns
  exact ⟨rfl, by go_grown⟩
theorem codes41 (w : World) : Calls Tryd.prog 39 #[.int .i64 41] w fun e w' => e = .returned (.agg #[.int .u32 51, .int .u32 0, .int .u32 1, .int .u32 3]) ∧ Below w.heap.size w w' := by
  go_enter Tryd.func39, Tryd.ntmps39
  go_wp2
  go_returns
  exact ⟨rfl, by go_grown⟩
theorem codes42 (w : World) : Calls Tryd.prog 39 #[.int .i64 42] w fun e w' => e = .returned (.agg #[.int .u32 51, .int .u32 1, .int .u32 1, .int .u32 3]) ∧ Below w.heap.size w w' := by
  go_enter Tryd.func39, Tryd.ntmps39
  go_wp2
  go_returns
  exact ⟨rfl, by go_grown⟩
theorem codes43 (w : World) : Calls Tryd.prog 39 #[.int .i64 43] w fun e w' => e = .returned (.agg #[.int .u32 51, .int .u32 2, .int .u32 1, .int .u32 3]) ∧ Below w.heap.size w w' := by
  go_enter Tryd.func39, Tryd.ntmps39
  go_wp2
  go_returns
  exact ⟨rfl, by go_grown⟩
theorem codes44 (w : World) : Calls Tryd.prog 39 #[.int .i64 44] w fun e w' => e = .returned (.agg #[.int .u32 51, .int .u32 3, .int .u32 1, .int .u32 3]) ∧ Below w.heap.size w w' := by
  go_enter Tryd.func39, Tryd.ntmps39
  go_wp2
  go_returns
  exact ⟨rfl, by go_grown⟩
theorem codes45 (w : World) : Calls Tryd.prog 39 #[.int .i64 45] w fun e w' => e = .returned (.agg #[.int .u32 51, .int .u32 4, .int .u32 1, .int .u32 3]) ∧ Below w.heap.size w w' := by
  go_enter Tryd.func39, Tryd.ntmps39
  go_wp2
  go_returns
  exact ⟨rfl, by go_grown⟩
theorem codes46 (w : World) : Calls Tryd.prog 39 #[.int .i64 46] w fun e w' => e = .returned (.agg #[.int .u32 51, .int .u32 5, .int .u32 1, .int .u32 3]) ∧ Below w.heap.size w w' := by
  go_enter Tryd.func39, Tryd.ntmps39
  go_wp2
  go_returns
  exact ⟨rfl, by go_grown⟩
theorem codes47 (w : World) : Calls Tryd.prog 39 #[.int .i64 47] w fun e w' => e = .returned (.agg #[.int .u32 51, .int .u32 6, .int .u32 1, .int .u32 3]) ∧ Below w.heap.size w w' := by
  go_enter Tryd.func39, Tryd.ntmps39
  go_wp2
  go_returns
  exact ⟨rfl, by go_grown⟩
theorem codes48 (w : World) : Calls Tryd.prog 39 #[.int .i64 48] w fun e w' => e = .returned (.agg #[.int .u32 51, .int .u32 7, .int .u32 1, .int .u32 3]) ∧ Below w.heap.size w w' := by
  go_enter Tryd.func39, Tryd.ntmps39
  go_wp2
  go_returns
  exact ⟨rfl, by go_grown⟩
end Go.Proofs.YtabdfbghhkpoeaaDoor.R8
