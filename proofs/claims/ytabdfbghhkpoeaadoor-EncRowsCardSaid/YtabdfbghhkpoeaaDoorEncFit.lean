/- Which words fit a row of the table; what is got, in plain terms. No program is in sight. -/
import Derived.Test.YtabdfbghhkpoeaaDoorEncDec
import Derived.Test.YtabdfbghhkpoeaaDoorEnc6
import Derived.Test.YtabdfbghhkpoeaaDoorDecMay
namespace Go.Proofs.YtabdfbghhkpoeaaDoor.P
set_option linter.unusedVariables false
set_option linter.unusedSimpArgs false
open Go Go.RowKit Go.Proofs.YtabdfbghhkpoeaaDoor.E

theorem nat_and_cut (X Y k : Nat) : X &&& Y = (X / 2 ^ k &&& Y / 2 ^ k) * 2 ^ k + (X % 2 ^ k &&& Y % 2 ^ k) := by
  have h := Nat.div_add_mod (X &&& Y) (2 ^ k)
  rw [Nat.and_div_two_pow, Nat.and_mod_two_pow, Nat.mul_comm] at h
  exact h.symm
theorem u32_and_nat (X Y : Nat) (hX : X < 4294967296) (hY : Y < 4294967296) : bits .and .u32 (X : Int) (Y : Int) = ((X &&& Y : Nat) : Int) := by
  rw [u32_and _ _ (by omega) (by omega) (by omega) (by omega)]; simp
theorem and_code (x : Int) (h0 : 0 ≤ x) (h1 : x < 4294967296) : bits .and .u32 x 127 = x % 128 := and_maskI x 7 h0 h1 (by decide)
theorem and_three (x : Int) (h0 : 0 ≤ x) (h1 : x < 4294967296) : bits .and .u32 x 28799 = x / 4096 % 8 * 4096 + x % 128 := by
  obtain ⟨X, rfl⟩ := Int.eq_ofNat_of_zero_le h0
  have e := nat_and_cut X 28799 12
  have a1 := Nat.and_two_pow_sub_one_eq_mod (X / 2 ^ 12) 3
  have a2 := Nat.and_two_pow_sub_one_eq_mod (X % 2 ^ 12) 7
  rw [show (28799 : Nat) / 2 ^ 12 = 2 ^ 3 - 1 by decide, show (28799 : Nat) % 2 ^ 12 = 2 ^ 7 - 1 by decide, a1, a2] at e
  rw [show (28799 : Int) = ((28799 : Nat) : Int) from rfl, u32_and_nat X 28799 (by omega) (by decide), e]
  simp only [Nat.reducePow]
  omega
theorem and_seven (x : Int) (h0 : 0 ≤ x) (h1 : x < 4294967296) : bits .and .u32 x 4261441663 = x / 33554432 * 33554432 + x / 4096 % 8 * 4096 + x % 128 := by
  obtain ⟨X, rfl⟩ := Int.eq_ofNat_of_zero_le h0
  have hX : X < 4294967296 := by omega
  have e := nat_and_cut X 4261441663 25
  have a0 := Nat.and_two_pow_sub_one_eq_mod (X / 2 ^ 25) 7
  rw [show (4261441663 : Nat) / 2 ^ 25 = 2 ^ 7 - 1 by decide, show (4261441663 : Nat) % 2 ^ 25 = 28799 by decide, a0, Nat.mod_eq_of_lt (show X / 2 ^ 25 < 2 ^ 7 by simp only [Nat.reducePow]; omega)] at e
  have h3 := and_three ((X % 2 ^ 25 : Nat) : Int) (by omega) (by have : X % 2 ^ 25 < 2 ^ 25 := Nat.mod_lt _ (by decide); simp only [Nat.reducePow] at this ⊢; omega)
  rw [show (28799 : Int) = ((28799 : Nat) : Int) from rfl, u32_and_nat _ 28799 (by have : X % 2 ^ 25 < 2 ^ 25 := Nat.mod_lt _ (by decide); simp only [Nat.reducePow] at this ⊢; omega) (by decide)] at h3
  rw [show (4261441663 : Int) = ((4261441663 : Nat) : Int) from rfl, u32_and_nat X 4261441663 hX (by decide), e]
  simp only [Nat.reducePow] at h3 ⊢
  omega
theorem and_all (x : Int) (h0 : 0 ≤ x) (h1 : x < 4294967296) : bits .and .u32 x 4294967295 = x := by
  have := and_maskI x 32 h0 h1 (by decide)
  have e : (2 : Int) ^ 32 = 4294967296 := by decide
  rw [e] at this
  rw [show (4294967295 : Int) = 4294967296 - 1 by decide, this]; omega
/-- the mask of an operation -/
theorem mask_all : ∀ k : Nat, k < 48 → maskV ((k : Int) + 1) = (if k < 3 then 127 else if k < 24 then 28799 else if 37 ≤ k ∧ k ≤ 39 then 4294967295 else 4261441663) ∧
    (¬ (37 ≤ k ∧ k ≤ 39) → matchV ((k : Int) + 1) = lowOf ((k : Int) + 1) + (if k < 3 then 0 else f3Of ((k : Int) + 1)) * 4096 + (if k < 24 then 0 else f7Of ((k : Int) + 1)) * 33554432) ∧
    (0 ≤ lowOf ((k : Int) + 1) ∧ lowOf ((k : Int) + 1) < 128) ∧ (0 ≤ f3Of ((k : Int) + 1) ∧ f3Of ((k : Int) + 1) < 8) ∧ (0 ≤ f7Of ((k : Int) + 1) ∧ f7Of ((k : Int) + 1) < 128) := by decide
theorem fitB_mask (x : Int) (k : Nat) : fitB x k = (bits .and .u32 x (maskV ((k : Int) + 1)) == matchV ((k : Int) + 1)) := by
  unfold fitB maskV matchV
  rw [show ((k : Int) + 1 - 1).toNat = k by omega]
/-- A ROW FITS: the bits are those of its operation -/
theorem fit_code {x : Int} (h0 : 0 ≤ x) (h1 : x < 4294967296) (k : Nat) (hk : k < 48) (h : fitB x k = true) : opN x = (k : Int) + 1 ∧ ((k : Int) + 1 = 38 → x = 267386895) := by
  rw [fitB_mask, beq_iff_eq] at h
  obtain ⟨hm, hv, ⟨l0, l1⟩, ⟨t0, t1⟩, ⟨s0, s1⟩⟩ := mask_all k hk
  by_cases hb : 37 ≤ k ∧ k ≤ 39
  · rw [hm, if_neg (by omega), if_neg (by omega), if_pos hb, and_all x h0 h1] at h
    have hc : k = 37 ∨ k = 38 ∨ k = 39 := by omega
    rcases hc with rfl | rfl | rfl <;> (rw [h]; exact ⟨by decide, by decide⟩)
  · have hv := hv hb
    have f3 : fld x 12 3 = x / 4096 % 8 := rfl
    have f7 : fld x 25 7 = x / 33554432 % 128 := rfl
    have n38 : (k : Int) + 1 ≠ 38 := by omega
    refine ⟨?_, fun e => absurd e n38⟩
    rw [hm, hv] at h
    clear hm hv
    refine opN_of (o := (k : Int) + 1) (by omega) (by omega) ?_ (fun a _ _ => ?_) (fun a _ _ _ => ?_) (fun e => absurd e (by omega)) (fun e => absurd e (by omega))
    all_goals try rw [f3]
    all_goals try rw [f7]
    all_goals
      generalize lowOf ((k : Int) + 1) = c at *
      generalize f3Of ((k : Int) + 1) = d at *
      generalize f7Of ((k : Int) + 1) = e at *
      by_cases k3 : k < 3
      · rw [if_pos k3, if_pos k3, if_pos (show k < 24 by omega), and_code x h0 h1] at h
        omega
      by_cases k24 : k < 24
      · rw [if_neg k3, if_neg k3, if_pos k24, if_pos k24, and_three x h0 h1] at h
        omega
      · rw [if_neg k3, if_neg k3, if_neg k24, if_neg k24, if_neg hb, and_seven x h0 h1] at h
        omega
/-- .. and where a word has an operation, its row fits, but for a fence -/
theorem code_fit {x : Int} (h0 : 0 ≤ x) (h1 : x < 4294967296) (h : opN x ≠ 0) (h38 : opN x = 38 → x = 267386895) : fitB x (opN x - 1).toNat = true := by
  obtain ⟨p1, p2, p3, p4, p5, r0, r1⟩ := opN_code h
  generalize opN x = o at *
  obtain ⟨k, hk⟩ : ∃ k : Nat, o = (k : Int) + 1 := ⟨(o - 1).toNat, by omega⟩
  subst hk
  rw [show ((k : Int) + 1 - 1).toNat = k by omega, fitB_mask, beq_iff_eq]
  obtain ⟨hm, hv, ⟨l0, l1⟩, ⟨t0, t1⟩, ⟨s0, s1⟩⟩ := mask_all k (by omega)
  by_cases hb : 37 ≤ k ∧ k ≤ 39
  · rw [hm, if_neg (by omega), if_neg (by omega), if_pos hb, and_all x h0 h1]
    have hc : k = 37 ∨ k = 38 ∨ k = 39 := by omega
    rcases hc with rfl | rfl | rfl
    · rw [h38 rfl]; decide
    · rw [p4 rfl]; decide
    · rw [p5 rfl]; decide
  · rw [hm, hv hb]
    have q2 : ¬ k < 3 → f3Of ((k : Int) + 1) = x / 4096 % 8 := fun a => p2 (by omega) (by omega) (by omega)
    have q3 : ¬ k < 24 → f7Of ((k : Int) + 1) = x / 33554432 % 128 := fun a => p3 (by omega) (by omega) (by omega) (by omega)
    clear p2 p3 p4 p5 hm hv h38
    generalize lowOf ((k : Int) + 1) = c at *
    generalize f3Of ((k : Int) + 1) = d at *
    generalize f7Of ((k : Int) + 1) = e at *
    by_cases k3 : k < 3
    · rw [if_pos k3, if_pos k3, if_pos (show k < 24 by omega), and_code x h0 h1]
      omega
    by_cases k24 : k < 24
    · rw [if_neg k3, if_neg k3, if_pos k24, if_pos k24, and_three x h0 h1]
      have := q2 k3
      omega
    · rw [if_neg k3, if_neg k3, if_neg k24, if_neg k24, if_neg hb, and_seven x h0 h1]
      have := q2 k3
      have := q3 k24
      omega
/-- at most one row fits -/
theorem fit_one {x : Int} (h0 : 0 ≤ x) (h1 : x < 4294967296) (k l : Nat) (hk : k < 48) (hl : l < 48) (a : fitB x k = true) (b : fitB x l = true) : k = l := by
  have e1 := (fit_code h0 h1 k hk a).1
  have e2 := (fit_code h0 h1 l hl b).1
  omega
/-- the number that is read is the one that is decoded -/
theorem read_imm (f x : Int) (h0 : 0 ≤ x) (h1 : x < 4294967296) (hf : 1 ≤ f ∧ f ≤ 9) : (if f = 8 ∨ f = 9 then 0 else readV f x) = immOf f x := by
  have hc : f = 1 ∨ f = 2 ∨ f = 3 ∨ f = 4 ∨ f = 5 ∨ f = 6 ∨ f = 7 ∨ f = 8 ∨ f = 9 := by omega
  rcases hc with rfl | rfl | rfl | rfl | rfl | rfl | rfl | rfl | rfl
  · show sgn (fld x 12 20 * 4096) 32 = immU x
    rw [immU_places, bitsV_noughts]; simp [places, bitsV_dn]
  · show sgn (fld x 21 10 * 2 + fld x 20 1 * 2048 + fld x 12 8 * 4096 + fld x 31 1 * 1048576) 21 = immJ x
    rw [immJ_places, bitsV_noughts]; simp [places, bitsV_append, bitsV_dn, dn_length]
    congr 1; omega
  · show sgn (fld x 8 4 * 2 + fld x 25 6 * 32 + fld x 7 1 * 2048 + fld x 31 1 * 4096) 13 = immB x
    rw [immB_places, bitsV_noughts]; simp [places, bitsV_append, bitsV_dn, dn_length]
    congr 1; omega
  · show sgn (fld x 20 12) 12 = sgn (bitsV x (dn 20 12)) 12
    rw [bitsV_dn]
  · show sgn (fld x 7 5 + fld x 25 7 * 32) 12 = sgn (bitsV x (dn 25 7 ++ dn 7 5)) 12
    rw [bitsV_append, bitsV_dn, bitsV_dn, dn_length]
    congr 1; show _ = fld x 25 7 * 32 + fld x 7 5; omega
  · show sgn (fld x 20 12) 12 = sgn (bitsV x (dn 20 12)) 12
    rw [bitsV_dn]
  · simp [readV, immOf]
  · simp [immOf]
  · simp [immOf]
/-- WHAT IS GOT, where a row fits, is what is decoded, and is put as it was -/
theorem get_fit {x : Int} (h0 : 0 ≤ x) (h1 : x < 4294967296) (k : Nat) (hk : k < 48) (h : fitB x k = true) :
    opN x = (k : Int) + 1 ∧ gRd ((k : Int) + 1) x = dRd x ∧ gRs1 ((k : Int) + 1) x = dRs1 x ∧ gRs2 ((k : Int) + 1) x = dRs2 x ∧ gImm ((k : Int) + 1) x = dImm x ∧ encW (opN x) (dRd x) (dRs1 x) (dRs2 x) (dImm x) = x ∧ mayB (opN x) (dRd x) (dRs1 x) (dRs2 x) (dImm x) = true := by
  obtain ⟨e, h38⟩ := fit_code h0 h1 k hk h
  have hne : opN x ≠ 0 := by omega
  have hmay := may_dec x hne
  have hi := dImm_bd x h0 h1
  have hf : 1 ≤ form (opN x) ∧ form (opN x) ≤ 9 := (may_rg hmay).2.1
  refine ⟨e, ?_, ?_, ?_, ?_, ?_, hmay⟩
  · unfold gRd dRd; rw [e]
  · unfold gRs1 dRs1; rw [e]
  · unfold gRs2 dRs2; rw [e]
  · unfold gImm dImm; rw [← e]; exact read_imm _ x h0 h1 hf
  · obtain ⟨⟨a0, a1⟩, b1, b2, b3, b4, b5⟩ := dec_enc hmay hi.1 hi.2
    by_cases h8 : opN x = 38
    · have hx := h38 (e.symm.trans h8)
      rw [hx]; decide
    · exact dec_apart a0 a1 h0 h1 (by rw [b1]; exact hne) hne b1 (by rw [b1]; exact h8) b2 b3 b4 b5
/-- where no row fits, no instruction is decoded, or a fence that is put otherwise -/
theorem get_none {x : Int} (h0 : 0 ≤ x) (h1 : x < 4294967296) (h : ∀ k, k < 48 → fitB x k = false) (hne : opN x ≠ 0) : encW (opN x) (dRd x) (dRs1 x) (dRs2 x) (dImm x) ≠ x := by
  intro hx
  by_cases h8 : opN x = 38
  · have e : encW (opN x) (dRd x) (dRs1 x) (dRs2 x) (dImm x) = 267386895 := by
      unfold dRd dRs1 dRs2 dImm; rw [h8]; show encW 38 0 0 0 0 = _; decide
    have := code_fit h0 h1 hne (fun _ => hx.symm.trans e)
    have r := opN_rng x
    rw [h _ (by omega)] at this
    cases this
  · have := code_fit h0 h1 hne (fun k => absurd k h8)
    have r := opN_rng x
    rw [h _ (by omega)] at this
    cases this
end Go.Proofs.YtabdfbghhkpoeaaDoor.P
