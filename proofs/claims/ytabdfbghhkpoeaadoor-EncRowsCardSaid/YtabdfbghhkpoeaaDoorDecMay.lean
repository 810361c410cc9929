/- What is decoded may be. No program is in sight. -/
import Derived.Test.YtabdfbghhkpoeaaDoorImmP
import Derived.Test.YtabdfbghhkpoeaaDoorDecP
namespace Go.Proofs.YtabdfbghhkpoeaaDoor.P
set_option linter.unusedVariables false
set_option linter.unusedSimpArgs false
open Go Go.RowKit

theorem opN_rng (x : Int) : 0 ≤ opN x ∧ opN x ≤ 48 := by
  by_cases h : opN x = 0
  · omega
  · obtain ⟨_, _, _, _, _, p1, p2⟩ := opN_code h
    omega
theorem form_zero_op {o : Int} (h : 0 ≤ o ∧ o ≤ 48) (e : form o = 0) : o = 0 := by
  unfold form at e
  revert e
  repeat' split
  all_goals omega
theorem sgn12 (v : Int) (h0 : -2048 ≤ v) (h1 : v < 2048) : sgn (v % 4294967296) 12 = v := by
  have e : (2 : Int) ^ 12 = 4096 := by decide
  unfold sgn; rw [e]; split <;> omega
theorem sgn13 (v : Int) (h0 : -4096 ≤ v) (h1 : v < 4096) : sgn (v % 4294967296) 13 = v := by
  have e : (2 : Int) ^ 13 = 8192 := by decide
  unfold sgn; rw [e]; split <;> omega
theorem sgn21 (v : Int) (h0 : -1048576 ≤ v) (h1 : v < 1048576) : sgn (v % 4294967296) 21 = v := by
  have e : (2 : Int) ^ 21 = 2097152 := by decide
  unfold sgn; rw [e]; split <;> omega
set_option maxHeartbeats 4000000 in
theorem may_dec (x : Int) (h : opN x ≠ 0) : mayB (opN x) (dRd x) (dRs1 x) (dRs2 x) (dImm x) = true := by
  obtain ⟨_, _, _, _, _, p1, p2⟩ := opN_code h
  have hf : form (opN x) ≠ 0 := fun e => h (form_zero_op (opN_rng x) e)
  have hb := form_bd (opN x)
  have i := immI_eq x
  have s := immS_eq x
  have b := immB_eq x
  have u := immU_eq x
  have j := immJ_eq x
  obtain ⟨r0, r1⟩ := r5_bd x 7
  obtain ⟨r2, r3⟩ := r5_bd x 15
  obtain ⟨r4, r5⟩ := r5_bd x 20
  have hff : form (opN x) = 1 ∨ form (opN x) = 2 ∨ form (opN x) = 3 ∨ form (opN x) = 4 ∨ form (opN x) = 5 ∨ form (opN x) = 6 ∨ form (opN x) = 7 ∨ form (opN x) = 8 ∨ form (opN x) = 9 := by omega
  unfold mayB dRd dRs1 dRs2 dImm
  generalize form (opN x) = f at *
  have si : sgn (immI x % 4294967296) 12 = immI x := sgn12 _ (by rw [i]; omega) (by rw [i]; omega)
  have ss : sgn (immS x % 4294967296) 12 = immS x := sgn12 _ (by rw [s]; omega) (by rw [s]; omega)
  have sb : sgn (immB x % 4294967296) 13 = immB x := sgn13 _ (by rw [b]; omega) (by rw [b]; omega)
  have sj : sgn (immJ x % 4294967296) 21 = immJ x := sgn21 _ (by rw [j]; omega) (by rw [j]; omega)
  have mb : immB x % 2 = 0 := by rw [b]; omega
  have mj : immJ x % 2 = 0 := by rw [j]; omega
  have mu : immU x % 4096 = 0 := by rw [u]; omega
  clear i s b u j h hf hb
  rcases hff with rfl | rfl | rfl | rfl | rfl | rfl | rfl | rfl | rfl
  all_goals simp [hasRd, hasRs1, hasRs2, regB, numB, immOf]
  all_goals (repeat' (apply And.intro)) <;> assumption

theorem dImm_bd (x : Int) (h0 : 0 ≤ x) (h1 : x < 4294967296) : -2147483648 ≤ dImm x ∧ dImm x < 2147483648 := by
  have i := immI_eq x
  have s := immS_eq x
  have b := immB_eq x
  have u := immU_eq x
  have j := immJ_eq x
  obtain ⟨r4, r5⟩ := r5_bd x 20
  unfold dImm immOf
  repeat' split
  all_goals first | (rw [i]; omega) | (rw [s]; omega) | (rw [b]; omega) | (rw [u]; omega) | (rw [j]; omega) | omega

end Go.Proofs.YtabdfbghhkpoeaaDoor.P
