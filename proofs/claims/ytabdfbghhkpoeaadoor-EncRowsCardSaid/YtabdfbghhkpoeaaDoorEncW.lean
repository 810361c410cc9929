/- Words that are put together of pieces, in plain terms. No program is in sight. -/
import Derived.Test.YtabdfbghhkpoeaaDoorEncP
namespace Go.Proofs.YtabdfbghhkpoeaaDoor.P
set_option linter.unusedVariables false
set_option linter.unusedSimpArgs false
open Go Go.RowKit

/-- bits in the midst of others -/
theorem or_mid (hi mid lo : Int) (K L : Nat) (l0 : 0 ≤ lo) (l1 : lo < 2 ^ K) (m0 : 0 ≤ mid) (m1 : mid < 2 ^ L) (h0 : 0 ≤ hi) (h1 : hi * 2 ^ (K + L) + mid * 2 ^ K + lo < 4294967296) :
    bits .or .u32 (hi * 2 ^ (K + L) + lo) (mid * 2 ^ K) = hi * 2 ^ (K + L) + mid * 2 ^ K + lo := by
  have pK := p2pos K
  have pKL := p2pos (K + L)
  have hM : 0 ≤ mid * 2 ^ K := Int.mul_nonneg m0 (Int.le_of_lt pK)
  have hH : 0 ≤ hi * 2 ^ (K + L) := Int.mul_nonneg h0 (Int.le_of_lt pKL)
  rw [u32_or _ _ (by omega) (by omega) hM (by omega)]
  obtain ⟨l, rfl⟩ := Int.eq_ofNat_of_zero_le l0
  obtain ⟨m, rfl⟩ := Int.eq_ofNat_of_zero_le m0
  obtain ⟨h, rfl⟩ := Int.eq_ofNat_of_zero_le h0
  have l2 : l < 2 ^ K := by rw [p2nat] at l1; exact_mod_cast l1
  have m2 : m < 2 ^ L := by rw [p2nat] at m1; exact_mod_cast m1
  have e1 : ((h : Int) * 2 ^ (K + L)) = ((h * 2 ^ (K + L) : Nat) : Int) := by rw [p2nat, Int.natCast_mul]
  have e2 : ((m : Int) * 2 ^ K) = ((m * 2 ^ K : Nat) : Int) := by rw [p2nat, Int.natCast_mul]
  have hml : m * 2 ^ K + l < 2 ^ (K + L) := by
    have : (m + 1) * 2 ^ K ≤ 2 ^ L * 2 ^ K := Nat.mul_le_mul_right _ m2
    rw [Nat.add_mul, Nat.one_mul] at this
    rw [Nat.pow_add, Nat.mul_comm (2 ^ K)]
    omega
  have hlt : l < 2 ^ (K + L) := by omega
  rw [e1, e2, ← Int.natCast_add, Int.toNat_natCast, Int.toNat_natCast]
  rw [← nat_join (K + L) (h * 2 ^ (K + L)) l (Nat.mul_mod_left _ _) hlt, Nat.or_assoc, Nat.or_comm l, nat_join K (m * 2 ^ K) l (Nat.mul_mod_left _ _) l2,
    nat_join (K + L) (h * 2 ^ (K + L)) _ (Nat.mul_mod_left _ _) hml]
  omega
/-- the number's bits in a word, by the form -/
def laidV (f v : Int) : Int :=
  if f = 1 then fld v 12 20 * 4096
  else if f = 2 then fld v 1 10 * 2097152 + fld v 11 1 * 1048576 + fld v 12 8 * 4096 + fld v 20 1 * 2147483648
  else if f = 3 then fld v 1 4 * 256 + fld v 5 6 * 33554432 + fld v 11 1 * 128 + fld v 12 1 * 2147483648
  else if f = 4 ∨ f = 6 then fld v 0 12 * 1048576
  else if f = 5 then fld v 0 5 * 128 + fld v 5 7 * 33554432
  else if f = 7 then fld v 0 5 * 1048576 else 0
/-- pieces that a word gets one behind the other -/
theorem or_zero (x : Int) (h0 : 0 ≤ x) (h1 : x < 4294967296) : bits .or .u32 0 x = x := by
  rw [u32_or 0 x (by omega) (by omega) h0 h1]; simp; omega
theorem or_zero' (x : Int) (h0 : 0 ≤ x) (h1 : x < 4294967296) : bits .or .u32 x 0 = x := by
  rw [u32_or x 0 h0 h1 (by omega) (by omega)]; simp; omega
theorem jump_steps (a b c d : Int) (a0 : 0 ≤ a ∧ a < 1024) (b0 : 0 ≤ b ∧ b < 2) (c0 : 0 ≤ c ∧ c < 256) (d0 : 0 ≤ d ∧ d < 2) :
    bits .or .u32 (a * 2097152) (b * 1048576) = a * 2097152 + b * 1048576 ∧ bits .or .u32 (a * 2097152 + b * 1048576) (c * 4096) = a * 2097152 + b * 1048576 + c * 4096 ∧
    bits .or .u32 (a * 2097152 + b * 1048576 + c * 4096) (d * 2147483648) = a * 2097152 + b * 1048576 + c * 4096 + d * 2147483648 := by
  have h1 := or_mid a b 0 20 1 (by omega) (by decide) b0.1 (by simpa using b0.2) a0.1 (by simp; omega)
  have h2 := or_mid (a * 2 + b) c 0 12 8 (by omega) (by decide) c0.1 (by simpa using c0.2) (by omega) (by simp; omega)
  have h3 := or_mid 0 d (a * 2097152 + b * 1048576 + c * 4096) 31 1 (by omega) (by simp; omega) d0.1 (by simpa using d0.2) (by omega) (by simp; omega)
  simp at h1 h2 h3
  refine ⟨h1, ?_, ?_⟩
  · have e : (a * 2 + b) * 1048576 = a * 2097152 + b * 1048576 := by omega
    rw [e] at h2; exact h2
  · rw [h3]; omega
theorem branch_steps (a b c d : Int) (a0 : 0 ≤ a ∧ a < 16) (b0 : 0 ≤ b ∧ b < 64) (c0 : 0 ≤ c ∧ c < 2) (d0 : 0 ≤ d ∧ d < 2) :
    bits .or .u32 (a * 256) (b * 33554432) = a * 256 + b * 33554432 ∧ bits .or .u32 (a * 256 + b * 33554432) (c * 128) = a * 256 + b * 33554432 + c * 128 ∧
    bits .or .u32 (a * 256 + b * 33554432 + c * 128) (d * 2147483648) = a * 256 + b * 33554432 + c * 128 + d * 2147483648 := by
  have h1 := or_mid 0 b (a * 256) 25 6 (by omega) (by simp; omega) b0.1 (by simpa using b0.2) (by omega) (by simp; omega)
  have h2 := or_mid (a + b * 131072) c 0 7 1 (by omega) (by decide) c0.1 (by simpa using c0.2) (by omega) (by simp; omega)
  have h3 := or_mid 0 d (a * 256 + b * 33554432 + c * 128) 31 1 (by omega) (by simp; omega) d0.1 (by simpa using d0.2) (by omega) (by simp; omega)
  simp at h1 h2 h3
  refine ⟨by rw [h1]; omega, ?_, by rw [h3]; omega⟩
  have e : (a + b * 131072) * 256 = a * 256 + b * 33554432 := by omega
  rw [e] at h2; exact h2
theorem store_steps (a b : Int) (a0 : 0 ≤ a ∧ a < 32) (b0 : 0 ≤ b ∧ b < 128) : bits .or .u32 (a * 128) (b * 33554432) = a * 128 + b * 33554432 := by
  have h1 := or_mid 0 b (a * 128) 25 7 (by omega) (by simp; omega) b0.1 (by simpa using b0.2) (by omega) (by simp; omega)
  simp at h1
  rw [h1]; omega
end Go.Proofs.YtabdfbghhkpoeaaDoor.P
