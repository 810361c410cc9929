/- The word of an instruction, in plain terms: pieces that don't meet. No program is in sight. -/
import Derived.Test.YtabdfbghhkpoeaaDoorEncW
namespace Go.Proofs.YtabdfbghhkpoeaaDoor.P
set_option linter.unusedVariables false
set_option linter.unusedSimpArgs false
open Go Go.RowKit

/-- the word of an instruction -/
def encW (op rd rs1 rs2 imm : Int) : Int := matchV op + rd * 128 + rs1 * 32768 + rs2 * 1048576 + laidV (form op) (imm % 4294967296)
/-- the parts of what is fixed -/
def mC (op : Int) : Int := matchV op % 128
def m3 (op : Int) : Int := matchV op / 4096 % 8
def m7 (op : Int) : Int := matchV op / 33554432
theorem match_all : ∀ k : Nat, k < 48 → ¬ (37 ≤ k ∧ k ≤ 39) → matchV ((k : Int) + 1) = mC ((k : Int) + 1) + m3 ((k : Int) + 1) * 4096 + m7 ((k : Int) + 1) * 33554432 ∧ 0 ≤ m7 ((k : Int) + 1) ∧ m7 ((k : Int) + 1) < 128 ∧ (m7 ((k : Int) + 1) = 0 ∨ form ((k : Int) + 1) = 7 ∨ form ((k : Int) + 1) = 8) := by decide
theorem match_parts (op : Int) (h0 : 1 ≤ op) (h1 : op ≤ 48) (h : form op ≠ 9) : matchV op = mC op + m3 op * 4096 + m7 op * 33554432 ∧ 0 ≤ m7 op ∧ m7 op < 128 ∧ (m7 op = 0 ∨ form op = 7 ∨ form op = 8) := by
  have := match_all (op - 1).toNat (by omega) (by
    intro hk
    exact h (form_bare (by omega)))
  have e : (((op - 1).toNat : Nat) : Int) + 1 = op := by omega
  rw [e] at this; exact this
theorem mC_bd (op : Int) : 0 ≤ mC op ∧ mC op < 128 := by unfold mC; omega
theorem m3_bd (op : Int) : 0 ≤ m3 op ∧ m3 op < 8 := by unfold m3; omega
/-- registers, one behind the other -/
theorem reg_steps (c f3 f7 rd rs1 rs2 : Int) (hc : 0 ≤ c ∧ c < 128) (h3 : 0 ≤ f3 ∧ f3 < 8) (h7 : 0 ≤ f7 ∧ f7 < 128) (a : rg rd) (b : rg rs1) (d : rg rs2) :
    bits .or .u32 (c + f3 * 4096 + f7 * 33554432) (rd * 128) = c + f3 * 4096 + f7 * 33554432 + rd * 128 ∧
    bits .or .u32 (c + f3 * 4096 + f7 * 33554432 + rd * 128) (rs1 * 32768) = c + f3 * 4096 + f7 * 33554432 + rd * 128 + rs1 * 32768 ∧
    bits .or .u32 (c + f3 * 4096 + f7 * 33554432 + rd * 128 + rs1 * 32768) (rs2 * 1048576) = c + f3 * 4096 + f7 * 33554432 + rd * 128 + rs1 * 32768 + rs2 * 1048576 := by
  obtain ⟨a0, a1⟩ := a; obtain ⟨b0, b1⟩ := b; obtain ⟨d0, d1⟩ := d
  have h1 := or_mid (f3 + f7 * 8192) rd c 7 5 hc.1 (by simpa using hc.2) a0 (by simpa using a1) (by omega) (by simp; omega)
  have h2 := or_mid (f7 * 32) rs1 (c + f3 * 4096 + rd * 128) 15 5 (by omega) (by simp; omega) b0 (by simpa using b1) (by omega) (by simp; omega)
  have h4 := or_mid f7 rs2 (c + f3 * 4096 + rd * 128 + rs1 * 32768) 20 5 (by omega) (by simp; omega) d0 (by simpa using d1) (by omega) (by simp; omega)
  simp at h1 h2 h4
  refine ⟨?_, ?_, ?_⟩
  · rw [show c + f3 * 4096 + f7 * 33554432 = (f3 + f7 * 8192) * 4096 + c by omega, h1]; omega
  · rw [show c + f3 * 4096 + f7 * 33554432 + rd * 128 = f7 * 32 * 1048576 + (c + f3 * 4096 + rd * 128) by omega, h2]; omega
  · rw [show c + f3 * 4096 + f7 * 33554432 + rd * 128 + rs1 * 32768 = f7 * 33554432 + (c + f3 * 4096 + rd * 128 + rs1 * 32768) by omega, h4]; omega
theorem nat_or_assoc_u32 (a b c : Int) (a0 : 0 ≤ a) (a1 : a < 4294967296) (b0 : 0 ≤ b) (b1 : b < 4294967296) (c0 : 0 ≤ c) (c1 : c < 4294967296) : bits .or .u32 a (bits .or .u32 b c) = bits .or .u32 (bits .or .u32 a b) c := by
  obtain ⟨A, rfl⟩ := Int.eq_ofNat_of_zero_le a0
  obtain ⟨B, rfl⟩ := Int.eq_ofNat_of_zero_le b0
  obtain ⟨C, rfl⟩ := Int.eq_ofNat_of_zero_le c0
  have e : (2 : Nat) ^ 32 = 4294967296 := by decide
  have h1 : A ||| B < 4294967296 := by rw [← e]; exact Nat.or_lt_two_pow (by omega) (by omega)
  have h2 : B ||| C < 4294967296 := by rw [← e]; exact Nat.or_lt_two_pow (by omega) (by omega)
  rw [u32_or_nat B C (by omega) (by omega), u32_or_nat A B (by omega) (by omega), u32_or_nat A _ (by omega) h2, u32_or_nat _ C h1 (by omega), Nat.or_assoc]
/-- two pieces at once, about the registers -/
theorem two_pieces (w lo hi : Int) (w0 : 0 ≤ w) (w1 : w < 33554432) (wl : w % 4096 < 128) (l0 : 0 ≤ lo ∧ lo < 32) (h0 : 0 ≤ hi ∧ hi < 128) : bits .or .u32 w (lo * 128 + hi * 33554432) = w + (lo * 128 + hi * 33554432) := by
  have h1 := or_mid 0 hi (lo * 128) 25 7 (by omega) (by simp; omega) h0.1 (by simpa using h0.2) (by omega) (by simp; omega)
  have h2 := or_mid (w / 4096) lo (w % 4096) 7 5 (by omega) (by simpa using wl) l0.1 (by simpa using l0.2) (by omega) (by simp; omega)
  have h3 := or_mid 0 hi (w + lo * 128) 25 7 (by omega) (by simp; omega) h0.1 (by simpa using h0.2) (by omega) (by simp; omega)
  simp at h1 h2 h3
  rw [show lo * 128 + hi * 33554432 = hi * 33554432 + lo * 128 by omega, ← h1, nat_or_assoc_u32 w _ _ (by omega) (by omega) (by omega) (by omega) (by omega) (by omega)]
  rw [show w / 4096 * 4096 + w % 4096 = w by omega] at h2
  rw [h2, show w / 4096 * 4096 + lo * 128 + w % 4096 = w + lo * 128 by omega, h3, h1]
  omega
theorem match_wide : ∀ k : Nat, k < 3 → m3 ((k : Int) + 1) = 0 := by decide
/-- the number's bits, about the registers -/
theorem laid_step (c f3 f7 rd rs1 rs2 f v : Int) (hc : 0 ≤ c ∧ c < 128) (h3 : 0 ≤ f3 ∧ f3 < 8) (h7 : 0 ≤ f7 ∧ f7 < 128) (a : rg rd) (b : rg rs1) (d : rg rs2) (v0 : 0 ≤ v) (v1 : v < 4294967296)
    (hf : 1 ≤ f ∧ f ≤ 7) (hd : hasRd f = false → rd = 0) (hs : hasRs1 f = false → rs1 = 0) (ht : hasRs2 f = false → rs2 = 0) (h70 : f7 = 0 ∨ f = 7) (h30 : f = 1 ∨ f = 2 → f3 = 0) :
    bits .or .u32 (c + f3 * 4096 + f7 * 33554432 + rd * 128 + rs1 * 32768 + rs2 * 1048576) (laidV f v) = c + f3 * 4096 + f7 * 33554432 + rd * 128 + rs1 * 32768 + rs2 * 1048576 + laidV f v := by
  obtain ⟨a0, a1⟩ := a; obtain ⟨b0, b1⟩ := b; obtain ⟨d0, d1⟩ := d
  have hcase : f = 1 ∨ f = 2 ∨ f = 3 ∨ f = 4 ∨ f = 5 ∨ f = 6 ∨ f = 7 := by omega
  rcases hcase with rfl | rfl | rfl | rfl | rfl | rfl | rfl
  · obtain rfl := hs rfl; obtain rfl := ht rfl; obtain rfl := h30 (.inl rfl)
    obtain rfl : f7 = 0 := by omega
    have x : 0 ≤ fld v 12 20 ∧ fld v 12 20 < 1048576 := fld_bd v 12 20
    show bits .or .u32 _ (fld v 12 20 * 4096) = _ + fld v 12 20 * 4096
    generalize fld v 12 20 = q at *
    have h := or_mid 0 q (c + rd * 128) 12 20 (by omega) (by simp; omega) x.1 (by simpa using x.2) (by omega) (by simp; omega)
    simp at h ⊢
    rw [h]; omega
  · obtain rfl := hs rfl; obtain rfl := ht rfl; obtain rfl := h30 (.inr rfl)
    obtain rfl : f7 = 0 := by omega
    have x1 : 0 ≤ fld v 1 10 ∧ fld v 1 10 < 1024 := fld_bd v 1 10
    have x2 : 0 ≤ fld v 11 1 ∧ fld v 11 1 < 2 := fld_bd v 11 1
    have x3 : 0 ≤ fld v 12 8 ∧ fld v 12 8 < 256 := fld_bd v 12 8
    have x4 : 0 ≤ fld v 20 1 ∧ fld v 20 1 < 2 := fld_bd v 20 1
    show bits .or .u32 _ (fld v 1 10 * 2097152 + fld v 11 1 * 1048576 + fld v 12 8 * 4096 + fld v 20 1 * 2147483648) = _ + (fld v 1 10 * 2097152 + fld v 11 1 * 1048576 + fld v 12 8 * 4096 + fld v 20 1 * 2147483648)
    generalize fld v 1 10 = q1 at *; generalize fld v 11 1 = q2 at *; generalize fld v 12 8 = q3 at *; generalize fld v 20 1 = q4 at *
    have h := or_mid 0 (q1 * 512 + q2 * 256 + q3 + q4 * 524288) (c + rd * 128) 12 20 (by omega) (by simp; omega) (by omega) (by simp; omega) (by omega) (by simp; omega)
    simp at h ⊢
    rw [show q1 * 2097152 + q2 * 1048576 + q3 * 4096 + q4 * 2147483648 = (q1 * 512 + q2 * 256 + q3 + q4 * 524288) * 4096 by omega, h]; omega
  · obtain rfl := hd rfl
    obtain rfl : f7 = 0 := by omega
    have x1 : 0 ≤ fld v 1 4 ∧ fld v 1 4 < 16 := fld_bd v 1 4
    have x2 : 0 ≤ fld v 5 6 ∧ fld v 5 6 < 64 := fld_bd v 5 6
    have x3 : 0 ≤ fld v 11 1 ∧ fld v 11 1 < 2 := fld_bd v 11 1
    have x4 : 0 ≤ fld v 12 1 ∧ fld v 12 1 < 2 := fld_bd v 12 1
    show bits .or .u32 _ (fld v 1 4 * 256 + fld v 5 6 * 33554432 + fld v 11 1 * 128 + fld v 12 1 * 2147483648) = _ + (fld v 1 4 * 256 + fld v 5 6 * 33554432 + fld v 11 1 * 128 + fld v 12 1 * 2147483648)
    generalize fld v 1 4 = q1 at *; generalize fld v 5 6 = q2 at *; generalize fld v 11 1 = q3 at *; generalize fld v 12 1 = q4 at *
    have h := two_pieces (c + f3 * 4096 + rs1 * 32768 + rs2 * 1048576) (q1 * 2 + q3) (q2 + q4 * 64) (by omega) (by omega) (by omega) (by omega) (by omega)
    simp at h ⊢
    rw [show q1 * 256 + q2 * 33554432 + q3 * 128 + q4 * 2147483648 = (q1 * 2 + q3) * 128 + (q2 + q4 * 64) * 33554432 by omega, h]
  · obtain rfl := ht rfl
    obtain rfl : f7 = 0 := by omega
    have x : 0 ≤ fld v 0 12 ∧ fld v 0 12 < 4096 := fld_bd v 0 12
    show bits .or .u32 _ (fld v 0 12 * 1048576) = _ + fld v 0 12 * 1048576
    generalize fld v 0 12 = q at *
    have h := or_mid 0 q (c + f3 * 4096 + rd * 128 + rs1 * 32768) 20 12 (by omega) (by simp; omega) x.1 (by simpa using x.2) (by omega) (by simp; omega)
    simp at h ⊢
    rw [h]; omega
  · obtain rfl := hd rfl
    obtain rfl : f7 = 0 := by omega
    have x1 : 0 ≤ fld v 0 5 ∧ fld v 0 5 < 32 := fld_bd v 0 5
    have x2 : 0 ≤ fld v 5 7 ∧ fld v 5 7 < 128 := fld_bd v 5 7
    show bits .or .u32 _ (fld v 0 5 * 128 + fld v 5 7 * 33554432) = _ + (fld v 0 5 * 128 + fld v 5 7 * 33554432)
    generalize fld v 0 5 = q1 at *; generalize fld v 5 7 = q2 at *
    have h := two_pieces (c + f3 * 4096 + rs1 * 32768 + rs2 * 1048576) q1 q2 (by omega) (by omega) (by omega) x1 x2
    simp at h ⊢
    rw [h]
  · obtain rfl := ht rfl
    obtain rfl : f7 = 0 := by omega
    have x : 0 ≤ fld v 0 12 ∧ fld v 0 12 < 4096 := fld_bd v 0 12
    show bits .or .u32 _ (fld v 0 12 * 1048576) = _ + fld v 0 12 * 1048576
    generalize fld v 0 12 = q at *
    have h := or_mid 0 q (c + f3 * 4096 + rd * 128 + rs1 * 32768) 20 12 (by omega) (by simp; omega) x.1 (by simpa using x.2) (by omega) (by simp; omega)
    simp at h ⊢
    rw [h]; omega
  · obtain rfl := ht rfl
    have x : 0 ≤ fld v 0 5 ∧ fld v 0 5 < 32 := fld_bd v 0 5
    show bits .or .u32 _ (fld v 0 5 * 1048576) = _ + fld v 0 5 * 1048576
    generalize fld v 0 5 = q at *
    have h := or_mid f7 q (c + f3 * 4096 + rd * 128 + rs1 * 32768) 20 5 (by omega) (by simp; omega) x.1 (by simpa using x.2) (by omega) (by simp; omega)
    simp at h ⊢
    rw [show c + f3 * 4096 + f7 * 33554432 + rd * 128 + rs1 * 32768 = f7 * 33554432 + (c + f3 * 4096 + rd * 128 + rs1 * 32768) by omega, h]; omega
end Go.Proofs.YtabdfbghhkpoeaaDoor.P
