/- What small functions of typecaseref09 compute. -/
import Derived.Test.YtfecjdchgckjhaaPress7
import Derived.Test.YtfecjdchgckjhaaMay03
import Derived.Test.YtfecjdchgckjhaaNames
import Derived.Deep.RegionHeld3
namespace Go.Proofs.Ytfecjdchgckjhaa.R9
set_option linter.unusedVariables false
set_option linter.unusedSimpArgs false
open Go.ChangeShapes Go.WideShapes Go.ChangeAt Go.RowKit Go.Proofs.Ytfecjdchgckjhaa.P Go.Proofs.Ytfecjdchgckjhaa.W Go.Proofs.Ytfecjdchgckjhaa.F

def fewB (r : Int) : Bool := decide (8 ≤ r) && decide (r ≤ 15)
def fromB (v u lo hi : Int) : Bool := decide (lo ≤ v) && decide (v ≤ hi) && (v % u == 0)
theorem few (r : Int) (w : World) : Calls Try.prog 28 #[.int .i64 r] w fun e w' => e = .returned (.bool (fewB r)) ∧ w = w' := by
  go_enter Try.func28, Try.ntmps28
  go_wp2
  all_goals (go_ret; refine ⟨ret_bool ?_, rfl⟩)
  all_goals (simp [fewB, *] <;> (try omega))
theorem from_ (v u lo hi : Int) (w : World) (u0 : 0 < u) (v0 : -2147483648 ≤ v) (v1 : v < 2147483648) : Calls Try.prog 29 #[.int .i32 v, .int .i32 u, .int .i32 lo, .int .i32 hi] w fun e w' => e = .returned (.bool (fromB v u lo hi)) ∧ w = w' := by
  have ht := F.tmod_zero v u u0
  have hf : Hid (fromB v u lo hi = (decide (lo ≤ v) && decide (v ≤ hi) && (v.tmod u == 0))) := hid (by rw [ht]; rfl)
  clear ht
  go_enter Try.func29, Try.ntmps29
  go_wp2
  all_goals (go_ret; refine ⟨ret_bool ?_, rfl⟩)
  all_goals (rw [hf.out]; clear hf; simp [*] <;> (intros; omega))
end Go.Proofs.Ytfecjdchgckjhaa.R9
