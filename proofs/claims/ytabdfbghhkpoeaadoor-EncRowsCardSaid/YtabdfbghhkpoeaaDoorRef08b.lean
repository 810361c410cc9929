/- What typecaseref08.codes computes, operation by operation. -/
import Derived.Test.YtabdfbghhkpoeaaDoorEncP
import Derived.Test.YtabdfbghhkpoeaaDoorWord
import Derived.Test.YtabdfbghhkpoeaaDoorCells
import Derived.RegionTactic
import Derived.BigRegion
namespace Go.Proofs.YtabdfbghhkpoeaaDoor.R8
set_option linter.unusedVariables false
set_option linter.unusedSimpArgs false
open Go.ChangeShapes Go.WideShapes Go.ChangeAt Go.RowKit Go.Proofs.YtabdfbghhkpoeaaDoor.P Go.Proofs.YtabdfbghhkpoeaaDoor.W

theorem codes25 (w : World) : Calls Tryd.prog 39 #[.int .i64 25] w fun e w' => e = .returned (.agg #[.int .u32 19, .int .u32 1, .int .u32 0, .int .u32 3]) ∧ Below w.heap.size w w' := by
  go_enter Tryd.func39, Tryd.ntmps39
  go_wp2
  go_region
  all_goals go_wp2
  all_goals go_returns
  all_goals exact ⟨rfl, by go_grown⟩
theorem codes26 (w : World) : Calls Tryd.prog 39 #[.int .i64 26] w fun e w' => e = .returned (.agg #[.int .u32 19, .int .u32 5, .int .u32 0, .int .u32 3]) ∧ Below w.heap.size w w' := by
  go_enter Tryd.func39, Tryd.ntmps39
  go_wp2
  go_region
  all_goals go_wp2
  all_goals go_returns
  all_goals exact ⟨rfl, by go_grown⟩
theorem codes27 (w : World) : Calls Tryd.prog 39 #[.int .i64 27] w fun e w' => e = .returned (.agg #[.int .u32 19, .int .u32 5, .int .u32 32, .int .u32 3]) ∧ Below w.heap.size w w' := by
  go_enter Tryd.func39, Tryd.ntmps39
  go_wp2
  go_region
  all_goals go_wp2
  all_goals go_returns
  all_goals exact ⟨rfl, by go_grown⟩
theorem codes28 (w : World) : Calls Tryd.prog 39 #[.int .i64 28] w fun e w' => e = .returned (.agg #[.int .u32 51, .int .u32 0, .int .u32 0, .int .u32 3]) ∧ Below w.heap.size w w' := by
  go_enter Tryd.func39, Tryd.ntmps39
  go_wp2
  go_region
  all_goals go_wp2
  all_goals go_returns
  all_goals exact ⟨rfl, by go_grown⟩
theorem codes29 (w : World) : Calls Tryd.prog 39 #[.int .i64 29] w fun e w' => e = .returned (.agg #[.int .u32 51, .int .u32 0, .int .u32 32, .int .u32 3]) ∧ Below w.heap.size w w' := by
  go_enter Tryd.func39, Tryd.ntmps39
  go_wp2
  go_region
  all_goals go_wp2
  all_goals go_returns
  all_goals exact ⟨rfl, by go_grown⟩
theorem codes30 (w : World) : Calls Tryd.prog 39 #[.int .i64 30] w fun e w' => e = .returned (.agg #[.int .u32 51, .int .u32 1, .int .u32 0, .int .u32 3]) ∧ Below w.heap.size w w' := by
  go_enter Tryd.func39, Tryd.ntmps39
  go_wp2
  go_region
  all_goals go_wp2
  all_goals go_returns
  all_goals exact ⟨rfl, by go_grown⟩
theorem codes31 (w : World) : Calls Tryd.prog 39 #[.int .i64 31] w fun e w' => e = .returned (.agg #[.int .u32 51, .int .u32 2, .int .u32 0, .int .u32 3]) ∧ Below w.heap.size w w' := by
  go_enter Tryd.func39, Tryd.ntmps39
  go_wp2
  go_region
  all_goals go_wp2
  all_goals go_returns
  all_goals exact ⟨rfl, by go_grown⟩
end Go.Proofs.YtabdfbghhkpoeaaDoor.R8
