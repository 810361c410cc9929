/- What typecaseref08.codes computes, operation by operation. -/
import Derived.Test.YtabdfbghhkpoeaaDoorEncP
import Derived.Test.YtabdfbghhkpoeaaDoorWord
import Derived.Test.YtabdfbghhkpoeaaDoorCells
import Derived.RegionTactic
import Derived.BigRegion
namespace Go.Proofs.YtabdfbghhkpoeaaDoor.R8
set_option linter.unusedVariables false
set_option linter.unusedSimpArgs false
open Go.ChangeShapes Go.WideShapes Go.ChangeAt Go.RowKit Go.Proofs.YtabdfbghhkpoeaaDoor.P Go.Proofs.YtabdfbghhkpoeaaDoor.W

theorem codes32 (w : World) : Calls Tryd.prog 39 #[.int .i64 32] w fun e w' => e = .returned (.agg #[.int .u32 51, .int .u32 3, .int .u32 0, .int .u32 3]) ∧ Below w.heap.size w w' := by
  go_enter Tryd.func39, Tryd.ntmps39
  go_wp2
  go_region
  all_goals go_wp2
  all_goals go_returns
  all_goals exact ⟨rfl, by go_grown⟩
theorem codes33 (w : World) : Calls Tryd.prog 39 #[.int .i64 33] w fun e w' => e = .returned (.agg #[.int .u32 51, .int .u32 4, .int .u32 0, .int .u32 3]) ∧ Below w.heap.size w w' := by
  go_enter Tryd.func39, Tryd.ntmps39
  go_wp2
  go_region
  all_goals go_wp2
  all_goals go_returns
  all_goals exact ⟨rfl, by go_grown⟩
theorem codes34 (w : World) : Calls Tryd.prog 39 #[.int .i64 34] w fun e w' => e = .returned (.agg #[.int .u32 51, .int .u32 5, .int .u32 0, .int .u32 3]) ∧ Below w.heap.size w w' := by
  go_enter Tryd.func39, Tryd.ntmps39
  go_wp2
  go_region
  all_goals go_wp2
  all_goals go_returns
  all_goals exact ⟨rfl, by go_grown⟩
theorem codes35 (w : World) : Calls Tryd.prog 39 #[.int .i64 35] w fun e w' => e = .returned (.agg #[.int .u32 51, .int .u32 5, .int .u32 32, .int .u32 3]) ∧ Below w.heap.size w w' := by
  go_enter Tryd.func39, Tryd.ntmps39
  go_wp2
  go_region
  all_goals go_wp2
  all_goals go_returns
  all_goals exact ⟨rfl, by go_grown⟩
theorem codes36 (w : World) : Calls Tryd.prog 39 #[.int .i64 36] w fun e w' => e = .returned (.agg #[.int .u32 51, .int .u32 6, .int .u32 0, .int .u32 3]) ∧ Below w.heap.size w w' := by
  go_enter Tryd.func39, Tryd.ntmps39
  go_wp2
  go_region
  all_goals go_wp2
  all_goals go_returns
  all_goals exact ⟨rfl, by go_grown⟩
theorem codes37 (w : World) : Calls Tryd.prog 39 #[.int .i64 37] w fun e w' => e = .returned (.agg #[.int .u32 51, .int .u32 7, .int .u32 0, .int .u32 3]) ∧ Below w.heap.size w w' := by
  go_enter Tryd.func39, Tryd.ntmps39
  go_wp2
  go_region
  all_goals go_wp2
  all_goals go_returns
  all_goals exact ⟨rfl, by go_grown⟩
end Go.Proofs.YtabdfbghhkpoeaaDoor.R8
