/- What typecaseref09.Names computes. -/
import Derived.Test.YtfecjdchgckjhaaRef09a
namespace Go.Proofs.Ytfecjdchgckjhaa.R9
set_option linter.unusedVariables false
set_option linter.unusedSimpArgs false
open Go.ChangeShapes Go.WideShapes Go.ChangeAt Go.RowKit Go.Proofs.Ytfecjdchgckjhaa.P Go.Proofs.Ytfecjdchgckjhaa.W Go.Proofs.Ytfecjdchgckjhaa.F

def names9 : List ByteArray := prL.map (·.nm)
theorem names9_at (k : Nat) (hk : k < 27) : names9.getD k ⟨#[]⟩ = (prAt k).nm := by
  have : ∀ k, k < 27 → names9.getD k ⟨#[]⟩ = (prAt k).nm := by
    intro k hk
    have e : names9.length = 27 := rfl
    unfold names9 prAt
    have hl : k < prL.length := by rw [prL_length]; exact hk
    simp [List.getD, hl]
  exact this k hk
theorem Names (w : World) : Calls Try.prog 16 #[] w
    fun e w' => ∃ b, e = .returned (.slice (some ⟨b, 0, none⟩) 27 27) ∧ Below w.heap.size w w' ∧ R3.StrsAt w' b names9 := by
  go_enter Try.func16, Try.ntmps16
  go_wp2
  go_ret
  exact ⟨_, rfl, (by repeat' (first | (with_reducible exact Below.refl _ _) | (with_reducible assumption) | (with_reducible refine below_drewN ?_ _) | (with_reducible refine Below.alloc ?_ ?_ _) | (with_reducible refine Below.drew ?_) | (with_reducible refine Below.setCell ?_ ?_ _) | (with_reducible exact Below.size (by assumption)) | go_size)), R3.StrsAt.new w names9 _⟩
end Go.Proofs.Ytfecjdchgckjhaa.R9
