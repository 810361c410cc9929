/- What small functions of typecaseref09 compute. What typecaseref09.Names computes. -/
import Derived.Test.YtfecjdchgckjhaaPress7
import Derived.Test.YtfecjdchgckjhaaMay03
import Derived.Test.YtfecjdchgckjhaaNames
import Derived.Deep.RegionHeld3
namespace Go.Proofs.Ytfecjdchgckjhaa.R9
set_option linter.unusedVariables false
set_option linter.unusedSimpArgs false
open Go.ChangeShapes Go.WideShapes Go.ChangeAt Go.RowKit Go.Proofs.Ytfecjdchgckjhaa.P Go.Proofs.Ytfecjdchgckjhaa.W Go.Proofs.Ytfecjdchgckjhaa.F

def fewB (r : Int) : Bool := decide (8 ≤ r) && decide (r ≤ 15)
def fromB (v u lo hi : Int) : Bool := decide (lo ≤ v) && decide (v ≤ hi) && (v % u == 0)
theorem few (r : Int) (w : World) : Calls Try.prog 28 #[.int .i64 r] w fun e w' => e = .returned (.bool (fewB r)) ∧ w = w' := by
  go_enter Try.func28, Try.ntmps28
  go_wp2
  all_goals (go_ret; refine ⟨ret_bool ?_, rfl⟩)
  all_goals (simp [fewB, *] <;> (try omega))
theorem from_ (v u lo hi : Int) (w : World) (u0 : 0 < u) (v0 : -2147483648 ≤ v) (v1 : v < 2147483648) : Calls Try.prog 29 #[.int .i32 v, .int .i32 u, .int .i32 lo, .int .i32 hi] w fun e w' => e = .returned (.bool (fromB v u lo hi)) ∧ w = w' := by
  have ht := F.tmod_zero v u u0
  have hf : Hid (fromB v u lo hi = (decide (lo ≤ v) && decide (v ≤ hi) && (v.tmod u == 0))) := hid (by rw [ht]; rfl)
  clear ht
  go_enter Try.func29, Try.ntmps29
  go_wp2
  all_goals (go_ret; refine ⟨ret_bool ?_, rfl⟩)
  all_goals (rw [hf.out]; clear hf; simp [*] <;> (intros; omega))
end Go.Proofs.Ytfecjdchgckjhaa.R9

namespace Go.Proofs.Ytfecjdchgckjhaa.R9
set_option linter.unusedVariables false
set_option linter.unusedSimpArgs false
open Go.ChangeShapes Go.WideShapes Go.ChangeAt Go.RowKit Go.Proofs.Ytfecjdchgckjhaa.P Go.Proofs.Ytfecjdchgckjhaa.W Go.Proofs.Ytfecjdchgckjhaa.F

def names9 : List ByteArray := prL.map (·.nm)
theorem names9_at (k : Nat) (hk : k < 27) : names9.getD k ⟨#[]⟩ = (prAt k).nm := by
  have : ∀ k, k < 27 → names9.getD k ⟨#[]⟩ = (prAt k).nm := by
    intro k hk
    have e : names9.length = 27 := rfl
    unfold names9 prAt
    have hl : k < prL.length := by rw [prL_length]; exact hk
    simp [List.getD, hl]
  exact this k hk
theorem Names (w : World) : Calls Try.prog 16 #[] w
    fun e w' => ∃ b, e = .returned (.slice (some ⟨b, 0, none⟩) 27 27) ∧ Below w.heap.size w w' ∧ R3.StrsAt w' b names9 := by
  go_enter Try.func16, Try.ntmps16
  go_wp2
  go_ret
  exact ⟨_, rfl, (by repeat' (first | (with_reducible exact Below.refl _ _) | (with_reducible assumption) | (with_reducible refine below_drewN ?_ _) | (with_reducible refine Below.alloc ?_ ?_ _) | (with_reducible refine Below.drew ?_) | (with_reducible refine Below.setCell ?_ ?_ _) | (with_reducible exact Below.size (by assumption)) | go_size)), R3.StrsAt.new w names9 _⟩
end Go.Proofs.Ytfecjdchgckjhaa.R9
