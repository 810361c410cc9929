/- The numbers of a word as sums of its pieces; unlike words, unlike instructions. No program is in sight. -/
import Derived.Test.YtplhoiokfjjcdaaDecP
namespace Go.Proofs.Ytplhoiokfjjcdaa.P
set_option linter.unusedVariables false
open Go Go.RowKit

theorem sgn_cons (w i : Int) (t : List Int) (n : Nat) (hn : n = t.length) : sgn (bitsV w (i :: t)) (n + 1) = bitsV w t - bi w i * 2 ^ n := by
  subst hn
  have h1 := bitsV_cons w i t
  have h2 := bitsV_bd w t
  have h3 := bi_bd w i
  have h4 := p2succ t.length
  unfold sgn
  generalize bitsV w (i :: t) = v at *
  generalize bitsV w t = r at *
  generalize bi w i = k at *
  rw [h4]
  generalize (2 : Int) ^ t.length = p at *
  have hk : k = 0 ∨ k = 1 := by omega
  rcases hk with rfl | rfl
  · have e : v = r := by omega
    rw [Int.emod_eq_of_lt (by omega) (by omega)]
    split <;> omega
  · have e : v = p + r := by omega
    rw [Int.emod_eq_of_lt (by omega) (by omega)]
    split <;> omega
theorem bitsV_last (x : Int) (l : List Int) : bitsV x (l ++ [-1]) = 2 * bitsV x l := by
  rw [bitsV_snoc]; simp [bi]

theorem immI_eq (w : Int) : immI w = w / 1048576 % 2048 - 2048 * (w / 2147483648 % 2) := by
  have e : immI w = bitsV w (dn 20 11) - bi w 31 * 2 ^ 11 := sgn_cons w 31 (dn 20 11) 11 rfl
  rw [e, bitsV_dn]
  have h : fld w 20 11 = w / 1048576 % 2048 := rfl
  have h2 : bi w 31 = w / 2147483648 % 2 := rfl
  rw [h, h2]; omega
theorem immS_eq (w : Int) : immS w = w / 33554432 % 64 * 32 + w / 128 % 32 - 2048 * (w / 2147483648 % 2) := by
  have e : immS w = bitsV w (dn 25 6 ++ dn 7 5) - bi w 31 * 2 ^ 11 := sgn_cons w 31 (dn 25 6 ++ dn 7 5) 11 rfl
  rw [e, bitsV_append, bitsV_dn, bitsV_dn, dn_length]
  have h : fld w 25 6 = w / 33554432 % 64 := rfl
  have h1 : fld w 7 5 = w / 128 % 32 := rfl
  have h2 : bi w 31 = w / 2147483648 % 2 := rfl
  rw [h, h1, h2]; omega
theorem immB_eq (w : Int) : immB w = 2048 * (w / 128 % 2) + w / 33554432 % 64 * 32 + w / 256 % 16 * 2 - 4096 * (w / 2147483648 % 2) := by
  have l : [31, 7] ++ dn 25 6 ++ (dn 8 4 ++ [-1]) = 31 :: (7 :: (dn 25 6 ++ (dn 8 4 ++ [-1]))) := rfl
  have e : immB w = bitsV w (7 :: (dn 25 6 ++ (dn 8 4 ++ [-1]))) - bi w 31 * 2 ^ 12 := by unfold immB; rw [l]; exact sgn_cons w 31 (7 :: (dn 25 6 ++ (dn 8 4 ++ [-1]))) 12 rfl
  rw [e, bitsV_cons, bitsV_append, bitsV_last, bitsV_dn, bitsV_dn]
  have h : fld w 25 6 = w / 33554432 % 64 := rfl
  have h1 : fld w 8 4 = w / 256 % 16 := rfl
  have h2 : bi w 31 = w / 2147483648 % 2 := rfl
  have h3 : bi w 7 = w / 128 % 2 := rfl
  have l1 : (dn 25 6 ++ (dn 8 4 ++ [-1])).length = 11 := rfl
  have l2 : (dn 8 4 ++ [-1]).length = 5 := rfl
  rw [h, h1, h2, h3, l1, l2]; omega
theorem immU_eq (w : Int) : immU w = w / 4096 % 524288 * 4096 - 2147483648 * (w / 2147483648 % 2) := by
  have l : dn 12 20 ++ [-1, -1, -1, -1, -1, -1, -1, -1, -1, -1, -1, -1] = 31 :: (dn 12 19 ++ no 12) := rfl
  have e : immU w = bitsV w (dn 12 19 ++ no 12) - bi w 31 * 2 ^ 31 := by
    have k := sgn_cons w 31 (dn 12 19 ++ no 12) 31 (by decide)
    unfold immU; rw [l]; exact k
  rw [e, bitsV_noughts, bitsV_dn]
  have h : fld w 12 19 = w / 4096 % 524288 := rfl
  have h2 : bi w 31 = w / 2147483648 % 2 := rfl
  rw [h, h2]; omega
theorem immJ_eq (w : Int) : immJ w = w / 4096 % 256 * 4096 + 2048 * (w / 1048576 % 2) + w / 2097152 % 1024 * 2 - 1048576 * (w / 2147483648 % 2) := by
  have l : ([31] ++ dn 12 8) ++ [20] ++ (dn 21 10 ++ [-1]) = 31 :: (dn 12 8 ++ (20 :: (dn 21 10 ++ [-1]))) := rfl
  have e : immJ w = bitsV w (dn 12 8 ++ (20 :: (dn 21 10 ++ [-1]))) - bi w 31 * 2 ^ 20 := by unfold immJ; rw [l]; exact sgn_cons w 31 (dn 12 8 ++ (20 :: (dn 21 10 ++ [-1]))) 20 rfl
  rw [e, bitsV_append, bitsV_cons, bitsV_last, bitsV_dn, bitsV_dn]
  have h : fld w 12 8 = w / 4096 % 256 := rfl
  have h1 : fld w 21 10 = w / 2097152 % 1024 := rfl
  have h2 : bi w 31 = w / 2147483648 % 2 := rfl
  have h3 : bi w 20 = w / 1048576 % 2 := rfl
  have l1 : (20 :: (dn 21 10 ++ [-1])).length = 12 := rfl
  have l2 : (dn 21 10 ++ [-1]).length = 11 := rfl
  rw [h, h1, h2, h3, l1, l2]; omega

/-- the operation's place in the code: the lowest seven bits, the three, the seven -/
def lowOf (o : Int) : Int :=
  if o = 1 then 55 else if o = 2 then 23 else if o = 3 then 111 else if o = 4 then 103 else if o ≤ 10 then 99 else if o ≤ 15 then 3 else if o ≤ 18 then 35 else if o ≤ 27 then 19
  else if o ≤ 37 ∨ 41 ≤ o then 51 else if o = 38 then 15 else 115
def f3Of (o : Int) : Int := ([0, 0, 0, 0, 0, 0, 1, 4, 5, 6, 7, 0, 1, 2, 4, 5, 0, 1, 2, 0, 2, 3, 4, 6, 7, 1, 5, 5, 0, 0, 1, 2, 3, 4, 5, 5, 6, 7, 0, 0, 0, 0, 1, 2, 3, 4, 5, 6, 7] : List Int).getD o.toNat 0
def f7Of (o : Int) : Int := if o = 27 ∨ o = 29 ∨ o = 35 then 32 else if 41 ≤ o then 1 else 0

/-- a word's bits that tell its operation are the operation's -/
theorem opN_code {w : Int} (h : opN w ≠ 0) : lowOf (opN w) = w % 128 ∧ (3 < opN w → opN w ≠ 39 → opN w ≠ 40 → f3Of (opN w) = w / 4096 % 8) ∧
    (24 < opN w → opN w ≠ 38 → opN w ≠ 39 → opN w ≠ 40 → f7Of (opN w) = w / 33554432 % 128) ∧ (opN w = 39 → w = 115) ∧ (opN w = 40 → w = 1048691) ∧ 1 ≤ opN w ∧ opN w ≤ 48 := by
  have hk : fld w 12 3 = w / 4096 % 8 := rfl
  have hf : fld w 25 7 = w / 33554432 % 128 := rfl
  have k8 : fld w 12 3 = 0 ∨ fld w 12 3 = 1 ∨ fld w 12 3 = 2 ∨ fld w 12 3 = 3 ∨ fld w 12 3 = 4 ∨ fld w 12 3 = 5 ∨ fld w 12 3 = 6 ∨ fld w 12 3 = 7 := by omega
  rw [← hk, ← hf]
  by_cases c1 : w % 128 = 55
  · rw [opN_lui c1, c1]; (refine ⟨?_, ?_, ?_, ?_, ?_, ?_, ?_⟩ <;> first | decide | (intro h; exact absurd h (by decide)) | (intro _ h; exact absurd rfl h) | (intro _ _ h; exact absurd rfl h) | (intro _ _ _ h; exact absurd rfl h) | (intro _; assumption))
  by_cases c2 : w % 128 = 23
  · rw [opN_auipc c2, c2]; (refine ⟨?_, ?_, ?_, ?_, ?_, ?_, ?_⟩ <;> first | decide | (intro h; exact absurd h (by decide)) | (intro _ h; exact absurd rfl h) | (intro _ _ h; exact absurd rfl h) | (intro _ _ _ h; exact absurd rfl h) | (intro _; assumption))
  by_cases c3 : w % 128 = 111
  · rw [opN_jal c3, c3]; (refine ⟨?_, ?_, ?_, ?_, ?_, ?_, ?_⟩ <;> first | decide | (intro h; exact absurd h (by decide)) | (intro _ h; exact absurd rfl h) | (intro _ _ h; exact absurd rfl h) | (intro _ _ _ h; exact absurd rfl h) | (intro _; assumption))
  by_cases c4 : w % 128 = 103
  · rw [opN_jalr c4] at h ⊢
    rw [c4]
    rcases k8 with e | e | e | e | e | e | e | e <;> rw [e] at h ⊢ <;> first | exact absurd rfl h | (refine ⟨?_, ?_, ?_, ?_, ?_, ?_, ?_⟩ <;> first | decide | (intro h; exact absurd h (by decide)) | (intro _ h; exact absurd rfl h) | (intro _ _ h; exact absurd rfl h) | (intro _ _ _ h; exact absurd rfl h) | (intro _; assumption))
  by_cases c5 : w % 128 = 3
  · rw [opN_load c5] at h ⊢
    rw [c5]
    rcases k8 with e | e | e | e | e | e | e | e <;> rw [e] at h ⊢ <;> first | exact absurd rfl h | (refine ⟨?_, ?_, ?_, ?_, ?_, ?_, ?_⟩ <;> first | decide | (intro h; exact absurd h (by decide)) | (intro _ h; exact absurd rfl h) | (intro _ _ h; exact absurd rfl h) | (intro _ _ _ h; exact absurd rfl h) | (intro _; assumption))
  by_cases c6 : w % 128 = 99
  · rw [opN_branch c6] at h ⊢
    rw [c6]
    rcases k8 with e | e | e | e | e | e | e | e <;> rw [e] at h ⊢ <;> first | exact absurd rfl h | (refine ⟨?_, ?_, ?_, ?_, ?_, ?_, ?_⟩ <;> first | decide | (intro h; exact absurd h (by decide)) | (intro _ h; exact absurd rfl h) | (intro _ _ h; exact absurd rfl h) | (intro _ _ _ h; exact absurd rfl h) | (intro _; assumption))
  by_cases c7 : w % 128 = 35
  · rw [opN_store c7] at h ⊢
    rw [c7]
    rcases k8 with e | e | e | e | e | e | e | e <;> rw [e] at h ⊢ <;> first | exact absurd rfl h | (refine ⟨?_, ?_, ?_, ?_, ?_, ?_, ?_⟩ <;> first | decide | (intro h; exact absurd h (by decide)) | (intro _ h; exact absurd rfl h) | (intro _ _ h; exact absurd rfl h) | (intro _ _ _ h; exact absurd rfl h) | (intro _; assumption))
  by_cases c8 : w % 128 = 19
  · rw [opN_number c8] at h ⊢
    rw [c8]
    by_cases d1 : fld w 25 7 = 32
    · rcases k8 with e | e | e | e | e | e | e | e <;> rw [e, d1] at h ⊢ <;> first | exact absurd rfl h | (refine ⟨?_, ?_, ?_, ?_, ?_, ?_, ?_⟩ <;> first | decide | (intro h; exact absurd h (by decide)) | (intro _ h; exact absurd rfl h) | (intro _ _ h; exact absurd rfl h) | (intro _ _ _ h; exact absurd rfl h) | (intro _; assumption))
    by_cases d2 : fld w 25 7 = 0
    · rcases k8 with e | e | e | e | e | e | e | e <;> rw [e, d2] at h ⊢ <;> first | exact absurd rfl h | (refine ⟨?_, ?_, ?_, ?_, ?_, ?_, ?_⟩ <;> first | decide | (intro h; exact absurd h (by decide)) | (intro _ h; exact absurd rfl h) | (intro _ _ h; exact absurd rfl h) | (intro _ _ _ h; exact absurd rfl h) | (intro _; assumption))
    · have n1 : ¬ (fld w 12 3 = 5 ∧ fld w 25 7 = 32) := fun x => d1 x.2
      rw [if_neg n1] at h ⊢
      by_cases d3 : fld w 12 3 = 1 ∨ fld w 12 3 = 5
      · rw [if_pos ⟨d3, d2⟩] at h; exact absurd rfl h
      · rw [if_neg (fun x => d3 x.1)] at h ⊢
        rcases k8 with e | e | e | e | e | e | e | e <;> rw [e] at h d3 ⊢ <;> first | exact absurd rfl h | exact absurd (by decide) d3 | (refine ⟨?_, ?_, ?_, ?_, ?_, ?_, ?_⟩ <;> first | decide | (intro h; exact absurd h (by decide)) | (intro _ h; exact absurd rfl h) | (intro _ _ h; exact absurd rfl h) | (intro _ _ _ h; exact absurd rfl h) | (intro _; assumption))
  by_cases c9 : w % 128 = 51
  · rw [opN_register c9] at h ⊢
    rw [c9]
    by_cases d1 : fld w 25 7 = 32
    · rcases k8 with e | e | e | e | e | e | e | e <;> rw [e, d1] at h ⊢ <;> first | exact absurd rfl h | (refine ⟨?_, ?_, ?_, ?_, ?_, ?_, ?_⟩ <;> first | decide | (intro h; exact absurd h (by decide)) | (intro _ h; exact absurd rfl h) | (intro _ _ h; exact absurd rfl h) | (intro _ _ _ h; exact absurd rfl h) | (intro _; assumption))
    by_cases d2 : fld w 25 7 = 0
    · rcases k8 with e | e | e | e | e | e | e | e <;> rw [e, d2] at h ⊢ <;> first | exact absurd rfl h | (refine ⟨?_, ?_, ?_, ?_, ?_, ?_, ?_⟩ <;> first | decide | (intro h; exact absurd h (by decide)) | (intro _ h; exact absurd rfl h) | (intro _ _ h; exact absurd rfl h) | (intro _ _ _ h; exact absurd rfl h) | (intro _; assumption))
    by_cases d3 : fld w 25 7 = 1
    · rcases k8 with e | e | e | e | e | e | e | e <;> rw [e, d3] at h ⊢ <;> first | exact absurd rfl h | (refine ⟨?_, ?_, ?_, ?_, ?_, ?_, ?_⟩ <;> first | decide | (intro h; exact absurd h (by decide)) | (intro _ h; exact absurd rfl h) | (intro _ _ h; exact absurd rfl h) | (intro _ _ _ h; exact absurd rfl h) | (intro _; assumption))
    · rw [if_neg d2, if_neg d3, if_neg d1] at h; exact absurd rfl h
  by_cases c10 : w % 128 = 15
  · rw [opN_fence c10] at h ⊢
    rw [c10]
    rcases k8 with e | e | e | e | e | e | e | e <;> rw [e] at h ⊢ <;> first | exact absurd rfl h | (refine ⟨?_, ?_, ?_, ?_, ?_, ?_, ?_⟩ <;> first | decide | (intro h; exact absurd h (by decide)) | (intro _ h; exact absurd rfl h) | (intro _ _ h; exact absurd rfl h) | (intro _ _ _ h; exact absurd rfl h) | (intro _; assumption))
  by_cases c11 : w % 128 = 115
  · rw [opN_bare c11] at h ⊢
    rw [c11]
    by_cases d1 : w = 115
    · rw [if_pos d1]; (refine ⟨?_, ?_, ?_, ?_, ?_, ?_, ?_⟩ <;> first | decide | (intro h; exact absurd h (by decide)) | (intro _ h; exact absurd rfl h) | (intro _ _ h; exact absurd rfl h) | (intro _ _ _ h; exact absurd rfl h) | (intro _; assumption))
    · rw [if_neg d1] at h ⊢
      by_cases d2 : w = 1048691
      · rw [if_pos d2]; (refine ⟨?_, ?_, ?_, ?_, ?_, ?_, ?_⟩ <;> first | decide | (intro h; exact absurd h (by decide)) | (intro _ h; exact absurd rfl h) | (intro _ _ h; exact absurd rfl h) | (intro _ _ _ h; exact absurd rfl h) | (intro _; assumption))
      · rw [if_neg d2] at h; exact absurd rfl h
  · exact absurd (opN_else ⟨c1, c2, c3, c4, c5, c6, c7, c8, c9, c10, c11⟩) h
theorem cutU (w : Int) (h0 : 0 ≤ w) (h1 : w < 4294967296) : w = w % 128 + 128 * (w / 128 % 32) + 4096 * (w / 4096 % 524288) + 2147483648 * (w / 2147483648 % 2) := by
  have e0 : w = w % 128 + 128 * (w / 128) := by omega
  have e1 : w / 128 = w / 128 % 32 + 32 * (w / 4096) := by omega
  have e2 : w / 4096 = w / 4096 % 524288 + 524288 * (w / 2147483648) := by omega
  have e3 : w / 2147483648 = w / 2147483648 % 2 := by omega
  generalize w / 2147483648 % 2 = a3 at *
  generalize w / 2147483648 = c3 at *
  generalize w / 4096 % 524288 = a2 at *
  generalize w / 4096 = c2 at *
  generalize w / 128 % 32 = a1 at *
  generalize w / 128 = c1 at *
  generalize w % 128 = a0 at *
  omega
theorem apU {a b : Int} (a0 : 0 ≤ a) (a1 : a < 4294967296) (b0 : 0 ≤ b) (b1 : b < 4294967296) (q0 : a % 128 = b % 128) (q1 : a / 128 % 32 = b / 128 % 32) (h : immU a = immU b) : a = b := by
  have ca := cutU a a0 a1
  have cb := cutU b b0 b1
  rw [immU_eq, immU_eq] at h
  have ka0 : 0 ≤ a % 128 ∧ a % 128 < 128 := by omega
  have ka1 : 0 ≤ a / 128 % 32 ∧ a / 128 % 32 < 32 := by omega
  have ka2 : 0 ≤ a / 4096 % 524288 ∧ a / 4096 % 524288 < 524288 := by omega
  have ka3 : 0 ≤ a / 2147483648 % 2 ∧ a / 2147483648 % 2 < 2 := by omega
  have kb0 : 0 ≤ b % 128 ∧ b % 128 < 128 := by omega
  have kb1 : 0 ≤ b / 128 % 32 ∧ b / 128 % 32 < 32 := by omega
  have kb2 : 0 ≤ b / 4096 % 524288 ∧ b / 4096 % 524288 < 524288 := by omega
  have kb3 : 0 ≤ b / 2147483648 % 2 ∧ b / 2147483648 % 2 < 2 := by omega
  generalize a % 128 = ax0 at *
  generalize a / 128 % 32 = ax1 at *
  generalize a / 4096 % 524288 = ax2 at *
  generalize a / 2147483648 % 2 = ax3 at *
  generalize b % 128 = bx0 at *
  generalize b / 128 % 32 = bx1 at *
  generalize b / 4096 % 524288 = bx2 at *
  generalize b / 2147483648 % 2 = bx3 at *
  clear a0 a1 b0 b1
  have r2 : ax2 = bx2 := by clear ca cb; omega
  have r3 : ax3 = bx3 := by clear ca cb; omega
  rw [ca, cb, q0, q1, r2, r3]

theorem cutJ (w : Int) (h0 : 0 ≤ w) (h1 : w < 4294967296) : w = w % 128 + 128 * (w / 128 % 32) + 4096 * (w / 4096 % 256) + 1048576 * (w / 1048576 % 2) + 2097152 * (w / 2097152 % 1024) + 2147483648 * (w / 2147483648 % 2) := by
  have e0 : w = w % 128 + 128 * (w / 128) := by omega
  have e1 : w / 128 = w / 128 % 32 + 32 * (w / 4096) := by omega
  have e2 : w / 4096 = w / 4096 % 256 + 256 * (w / 1048576) := by omega
  have e3 : w / 1048576 = w / 1048576 % 2 + 2 * (w / 2097152) := by omega
  have e4 : w / 2097152 = w / 2097152 % 1024 + 1024 * (w / 2147483648) := by omega
  have e5 : w / 2147483648 = w / 2147483648 % 2 := by omega
  generalize w / 2147483648 % 2 = a5 at *
  generalize w / 2147483648 = c5 at *
  generalize w / 2097152 % 1024 = a4 at *
  generalize w / 2097152 = c4 at *
  generalize w / 1048576 % 2 = a3 at *
  generalize w / 1048576 = c3 at *
  generalize w / 4096 % 256 = a2 at *
  generalize w / 4096 = c2 at *
  generalize w / 128 % 32 = a1 at *
  generalize w / 128 = c1 at *
  generalize w % 128 = a0 at *
  omega
theorem apJ {a b : Int} (a0 : 0 ≤ a) (a1 : a < 4294967296) (b0 : 0 ≤ b) (b1 : b < 4294967296) (q0 : a % 128 = b % 128) (q1 : a / 128 % 32 = b / 128 % 32) (h : immJ a = immJ b) : a = b := by
  have ca := cutJ a a0 a1
  have cb := cutJ b b0 b1
  rw [immJ_eq, immJ_eq] at h
  have ka0 : 0 ≤ a % 128 ∧ a % 128 < 128 := by omega
  have ka1 : 0 ≤ a / 128 % 32 ∧ a / 128 % 32 < 32 := by omega
  have ka2 : 0 ≤ a / 4096 % 256 ∧ a / 4096 % 256 < 256 := by omega
  have ka3 : 0 ≤ a / 1048576 % 2 ∧ a / 1048576 % 2 < 2 := by omega
  have ka4 : 0 ≤ a / 2097152 % 1024 ∧ a / 2097152 % 1024 < 1024 := by omega
  have ka5 : 0 ≤ a / 2147483648 % 2 ∧ a / 2147483648 % 2 < 2 := by omega
  have kb0 : 0 ≤ b % 128 ∧ b % 128 < 128 := by omega
  have kb1 : 0 ≤ b / 128 % 32 ∧ b / 128 % 32 < 32 := by omega
  have kb2 : 0 ≤ b / 4096 % 256 ∧ b / 4096 % 256 < 256 := by omega
  have kb3 : 0 ≤ b / 1048576 % 2 ∧ b / 1048576 % 2 < 2 := by omega
  have kb4 : 0 ≤ b / 2097152 % 1024 ∧ b / 2097152 % 1024 < 1024 := by omega
  have kb5 : 0 ≤ b / 2147483648 % 2 ∧ b / 2147483648 % 2 < 2 := by omega
  generalize a % 128 = ax0 at *
  generalize a / 128 % 32 = ax1 at *
  generalize a / 4096 % 256 = ax2 at *
  generalize a / 1048576 % 2 = ax3 at *
  generalize a / 2097152 % 1024 = ax4 at *
  generalize a / 2147483648 % 2 = ax5 at *
  generalize b % 128 = bx0 at *
  generalize b / 128 % 32 = bx1 at *
  generalize b / 4096 % 256 = bx2 at *
  generalize b / 1048576 % 2 = bx3 at *
  generalize b / 2097152 % 1024 = bx4 at *
  generalize b / 2147483648 % 2 = bx5 at *
  clear a0 a1 b0 b1
  have r2 : ax2 = bx2 := by clear ca cb; omega
  have r3 : ax3 = bx3 := by clear ca cb; omega
  have r4 : ax4 = bx4 := by clear ca cb; omega
  have r5 : ax5 = bx5 := by clear ca cb; omega
  rw [ca, cb, q0, q1, r2, r3, r4, r5]

theorem cutI (w : Int) (h0 : 0 ≤ w) (h1 : w < 4294967296) : w = w % 128 + 128 * (w / 128 % 32) + 4096 * (w / 4096 % 8) + 32768 * (w / 32768 % 32) + 1048576 * (w / 1048576 % 2048) + 2147483648 * (w / 2147483648 % 2) := by
  have e0 : w = w % 128 + 128 * (w / 128) := by omega
  have e1 : w / 128 = w / 128 % 32 + 32 * (w / 4096) := by omega
  have e2 : w / 4096 = w / 4096 % 8 + 8 * (w / 32768) := by omega
  have e3 : w / 32768 = w / 32768 % 32 + 32 * (w / 1048576) := by omega
  have e4 : w / 1048576 = w / 1048576 % 2048 + 2048 * (w / 2147483648) := by omega
  have e5 : w / 2147483648 = w / 2147483648 % 2 := by omega
  generalize w / 2147483648 % 2 = a5 at *
  generalize w / 2147483648 = c5 at *
  generalize w / 1048576 % 2048 = a4 at *
  generalize w / 1048576 = c4 at *
  generalize w / 32768 % 32 = a3 at *
  generalize w / 32768 = c3 at *
  generalize w / 4096 % 8 = a2 at *
  generalize w / 4096 = c2 at *
  generalize w / 128 % 32 = a1 at *
  generalize w / 128 = c1 at *
  generalize w % 128 = a0 at *
  omega
theorem apI {a b : Int} (a0 : 0 ≤ a) (a1 : a < 4294967296) (b0 : 0 ≤ b) (b1 : b < 4294967296) (q0 : a % 128 = b % 128) (q1 : a / 128 % 32 = b / 128 % 32) (q2 : a / 4096 % 8 = b / 4096 % 8) (q3 : a / 32768 % 32 = b / 32768 % 32) (h : immI a = immI b) : a = b := by
  have ca := cutI a a0 a1
  have cb := cutI b b0 b1
  rw [immI_eq, immI_eq] at h
  have ka0 : 0 ≤ a % 128 ∧ a % 128 < 128 := by omega
  have ka1 : 0 ≤ a / 128 % 32 ∧ a / 128 % 32 < 32 := by omega
  have ka2 : 0 ≤ a / 4096 % 8 ∧ a / 4096 % 8 < 8 := by omega
  have ka3 : 0 ≤ a / 32768 % 32 ∧ a / 32768 % 32 < 32 := by omega
  have ka4 : 0 ≤ a / 1048576 % 2048 ∧ a / 1048576 % 2048 < 2048 := by omega
  have ka5 : 0 ≤ a / 2147483648 % 2 ∧ a / 2147483648 % 2 < 2 := by omega
  have kb0 : 0 ≤ b % 128 ∧ b % 128 < 128 := by omega
  have kb1 : 0 ≤ b / 128 % 32 ∧ b / 128 % 32 < 32 := by omega
  have kb2 : 0 ≤ b / 4096 % 8 ∧ b / 4096 % 8 < 8 := by omega
  have kb3 : 0 ≤ b / 32768 % 32 ∧ b / 32768 % 32 < 32 := by omega
  have kb4 : 0 ≤ b / 1048576 % 2048 ∧ b / 1048576 % 2048 < 2048 := by omega
  have kb5 : 0 ≤ b / 2147483648 % 2 ∧ b / 2147483648 % 2 < 2 := by omega
  generalize a % 128 = ax0 at *
  generalize a / 128 % 32 = ax1 at *
  generalize a / 4096 % 8 = ax2 at *
  generalize a / 32768 % 32 = ax3 at *
  generalize a / 1048576 % 2048 = ax4 at *
  generalize a / 2147483648 % 2 = ax5 at *
  generalize b % 128 = bx0 at *
  generalize b / 128 % 32 = bx1 at *
  generalize b / 4096 % 8 = bx2 at *
  generalize b / 32768 % 32 = bx3 at *
  generalize b / 1048576 % 2048 = bx4 at *
  generalize b / 2147483648 % 2 = bx5 at *
  clear a0 a1 b0 b1
  have r4 : ax4 = bx4 := by clear ca cb; omega
  have r5 : ax5 = bx5 := by clear ca cb; omega
  rw [ca, cb, q0, q1, q2, q3, r4, r5]

theorem cutB (w : Int) (h0 : 0 ≤ w) (h1 : w < 4294967296) : w = w % 128 + 128 * (w / 128 % 2) + 256 * (w / 256 % 16) + 4096 * (w / 4096 % 8) + 32768 * (w / 32768 % 32) + 1048576 * (w / 1048576 % 32) + 33554432 * (w / 33554432 % 64) + 2147483648 * (w / 2147483648 % 2) := by
  have e0 : w = w % 128 + 128 * (w / 128) := by omega
  have e1 : w / 128 = w / 128 % 2 + 2 * (w / 256) := by omega
  have e2 : w / 256 = w / 256 % 16 + 16 * (w / 4096) := by omega
  have e3 : w / 4096 = w / 4096 % 8 + 8 * (w / 32768) := by omega
  have e4 : w / 32768 = w / 32768 % 32 + 32 * (w / 1048576) := by omega
  have e5 : w / 1048576 = w / 1048576 % 32 + 32 * (w / 33554432) := by omega
  have e6 : w / 33554432 = w / 33554432 % 64 + 64 * (w / 2147483648) := by omega
  have e7 : w / 2147483648 = w / 2147483648 % 2 := by omega
  generalize w / 2147483648 % 2 = a7 at *
  generalize w / 2147483648 = c7 at *
  generalize w / 33554432 % 64 = a6 at *
  generalize w / 33554432 = c6 at *
  generalize w / 1048576 % 32 = a5 at *
  generalize w / 1048576 = c5 at *
  generalize w / 32768 % 32 = a4 at *
  generalize w / 32768 = c4 at *
  generalize w / 4096 % 8 = a3 at *
  generalize w / 4096 = c3 at *
  generalize w / 256 % 16 = a2 at *
  generalize w / 256 = c2 at *
  generalize w / 128 % 2 = a1 at *
  generalize w / 128 = c1 at *
  generalize w % 128 = a0 at *
  omega
theorem apB {a b : Int} (a0 : 0 ≤ a) (a1 : a < 4294967296) (b0 : 0 ≤ b) (b1 : b < 4294967296) (q0 : a % 128 = b % 128) (q3 : a / 4096 % 8 = b / 4096 % 8) (q4 : a / 32768 % 32 = b / 32768 % 32) (q5 : a / 1048576 % 32 = b / 1048576 % 32) (h : immB a = immB b) : a = b := by
  have ca := cutB a a0 a1
  have cb := cutB b b0 b1
  rw [immB_eq, immB_eq] at h
  have ka0 : 0 ≤ a % 128 ∧ a % 128 < 128 := by omega
  have ka1 : 0 ≤ a / 128 % 2 ∧ a / 128 % 2 < 2 := by omega
  have ka2 : 0 ≤ a / 256 % 16 ∧ a / 256 % 16 < 16 := by omega
  have ka3 : 0 ≤ a / 4096 % 8 ∧ a / 4096 % 8 < 8 := by omega
  have ka4 : 0 ≤ a / 32768 % 32 ∧ a / 32768 % 32 < 32 := by omega
  have ka5 : 0 ≤ a / 1048576 % 32 ∧ a / 1048576 % 32 < 32 := by omega
  have ka6 : 0 ≤ a / 33554432 % 64 ∧ a / 33554432 % 64 < 64 := by omega
  have ka7 : 0 ≤ a / 2147483648 % 2 ∧ a / 2147483648 % 2 < 2 := by omega
  have kb0 : 0 ≤ b % 128 ∧ b % 128 < 128 := by omega
  have kb1 : 0 ≤ b / 128 % 2 ∧ b / 128 % 2 < 2 := by omega
  have kb2 : 0 ≤ b / 256 % 16 ∧ b / 256 % 16 < 16 := by omega
  have kb3 : 0 ≤ b / 4096 % 8 ∧ b / 4096 % 8 < 8 := by omega
  have kb4 : 0 ≤ b / 32768 % 32 ∧ b / 32768 % 32 < 32 := by omega
  have kb5 : 0 ≤ b / 1048576 % 32 ∧ b / 1048576 % 32 < 32 := by omega
  have kb6 : 0 ≤ b / 33554432 % 64 ∧ b / 33554432 % 64 < 64 := by omega
  have kb7 : 0 ≤ b / 2147483648 % 2 ∧ b / 2147483648 % 2 < 2 := by omega
  generalize a % 128 = ax0 at *
  generalize a / 128 % 2 = ax1 at *
  generalize a / 256 % 16 = ax2 at *
  generalize a / 4096 % 8 = ax3 at *
  generalize a / 32768 % 32 = ax4 at *
  generalize a / 1048576 % 32 = ax5 at *
  generalize a / 33554432 % 64 = ax6 at *
  generalize a / 2147483648 % 2 = ax7 at *
  generalize b % 128 = bx0 at *
  generalize b / 128 % 2 = bx1 at *
  generalize b / 256 % 16 = bx2 at *
  generalize b / 4096 % 8 = bx3 at *
  generalize b / 32768 % 32 = bx4 at *
  generalize b / 1048576 % 32 = bx5 at *
  generalize b / 33554432 % 64 = bx6 at *
  generalize b / 2147483648 % 2 = bx7 at *
  clear a0 a1 b0 b1
  have r1 : ax1 = bx1 := by clear ca cb; omega
  have r2 : ax2 = bx2 := by clear ca cb; omega
  have r6 : ax6 = bx6 := by clear ca cb; omega
  have r7 : ax7 = bx7 := by clear ca cb; omega
  rw [ca, cb, q0, r1, r2, q3, q4, q5, r6, r7]

theorem cutS (w : Int) (h0 : 0 ≤ w) (h1 : w < 4294967296) : w = w % 128 + 128 * (w / 128 % 32) + 4096 * (w / 4096 % 8) + 32768 * (w / 32768 % 32) + 1048576 * (w / 1048576 % 32) + 33554432 * (w / 33554432 % 64) + 2147483648 * (w / 2147483648 % 2) := by
  have e0 : w = w % 128 + 128 * (w / 128) := by omega
  have e1 : w / 128 = w / 128 % 32 + 32 * (w / 4096) := by omega
  have e2 : w / 4096 = w / 4096 % 8 + 8 * (w / 32768) := by omega
  have e3 : w / 32768 = w / 32768 % 32 + 32 * (w / 1048576) := by omega
  have e4 : w / 1048576 = w / 1048576 % 32 + 32 * (w / 33554432) := by omega
  have e5 : w / 33554432 = w / 33554432 % 64 + 64 * (w / 2147483648) := by omega
  have e6 : w / 2147483648 = w / 2147483648 % 2 := by omega
  generalize w / 2147483648 % 2 = a6 at *
  generalize w / 2147483648 = c6 at *
  generalize w / 33554432 % 64 = a5 at *
  generalize w / 33554432 = c5 at *
  generalize w / 1048576 % 32 = a4 at *
  generalize w / 1048576 = c4 at *
  generalize w / 32768 % 32 = a3 at *
  generalize w / 32768 = c3 at *
  generalize w / 4096 % 8 = a2 at *
  generalize w / 4096 = c2 at *
  generalize w / 128 % 32 = a1 at *
  generalize w / 128 = c1 at *
  generalize w % 128 = a0 at *
  omega
theorem apS {a b : Int} (a0 : 0 ≤ a) (a1 : a < 4294967296) (b0 : 0 ≤ b) (b1 : b < 4294967296) (q0 : a % 128 = b % 128) (q2 : a / 4096 % 8 = b / 4096 % 8) (q3 : a / 32768 % 32 = b / 32768 % 32) (q4 : a / 1048576 % 32 = b / 1048576 % 32) (h : immS a = immS b) : a = b := by
  have ca := cutS a a0 a1
  have cb := cutS b b0 b1
  rw [immS_eq, immS_eq] at h
  have ka0 : 0 ≤ a % 128 ∧ a % 128 < 128 := by omega
  have ka1 : 0 ≤ a / 128 % 32 ∧ a / 128 % 32 < 32 := by omega
  have ka2 : 0 ≤ a / 4096 % 8 ∧ a / 4096 % 8 < 8 := by omega
  have ka3 : 0 ≤ a / 32768 % 32 ∧ a / 32768 % 32 < 32 := by omega
  have ka4 : 0 ≤ a / 1048576 % 32 ∧ a / 1048576 % 32 < 32 := by omega
  have ka5 : 0 ≤ a / 33554432 % 64 ∧ a / 33554432 % 64 < 64 := by omega
  have ka6 : 0 ≤ a / 2147483648 % 2 ∧ a / 2147483648 % 2 < 2 := by omega
  have kb0 : 0 ≤ b % 128 ∧ b % 128 < 128 := by omega
  have kb1 : 0 ≤ b / 128 % 32 ∧ b / 128 % 32 < 32 := by omega
  have kb2 : 0 ≤ b / 4096 % 8 ∧ b / 4096 % 8 < 8 := by omega
  have kb3 : 0 ≤ b / 32768 % 32 ∧ b / 32768 % 32 < 32 := by omega
  have kb4 : 0 ≤ b / 1048576 % 32 ∧ b / 1048576 % 32 < 32 := by omega
  have kb5 : 0 ≤ b / 33554432 % 64 ∧ b / 33554432 % 64 < 64 := by omega
  have kb6 : 0 ≤ b / 2147483648 % 2 ∧ b / 2147483648 % 2 < 2 := by omega
  generalize a % 128 = ax0 at *
  generalize a / 128 % 32 = ax1 at *
  generalize a / 4096 % 8 = ax2 at *
  generalize a / 32768 % 32 = ax3 at *
  generalize a / 1048576 % 32 = ax4 at *
  generalize a / 33554432 % 64 = ax5 at *
  generalize a / 2147483648 % 2 = ax6 at *
  generalize b % 128 = bx0 at *
  generalize b / 128 % 32 = bx1 at *
  generalize b / 4096 % 8 = bx2 at *
  generalize b / 32768 % 32 = bx3 at *
  generalize b / 1048576 % 32 = bx4 at *
  generalize b / 33554432 % 64 = bx5 at *
  generalize b / 2147483648 % 2 = bx6 at *
  clear a0 a1 b0 b1
  have r1 : ax1 = bx1 := by clear ca cb; omega
  have r5 : ax5 = bx5 := by clear ca cb; omega
  have r6 : ax6 = bx6 := by clear ca cb; omega
  rw [ca, cb, q0, r1, q2, q3, q4, r5, r6]

theorem cutR (w : Int) (h0 : 0 ≤ w) (h1 : w < 4294967296) : w = w % 128 + 128 * (w / 128 % 32) + 4096 * (w / 4096 % 8) + 32768 * (w / 32768 % 32) + 1048576 * (w / 1048576 % 32) + 33554432 * (w / 33554432 % 128) := by
  have e0 : w = w % 128 + 128 * (w / 128) := by omega
  have e1 : w / 128 = w / 128 % 32 + 32 * (w / 4096) := by omega
  have e2 : w / 4096 = w / 4096 % 8 + 8 * (w / 32768) := by omega
  have e3 : w / 32768 = w / 32768 % 32 + 32 * (w / 1048576) := by omega
  have e4 : w / 1048576 = w / 1048576 % 32 + 32 * (w / 33554432) := by omega
  have e5 : w / 33554432 = w / 33554432 % 128 := by omega
  generalize w / 33554432 % 128 = a5 at *
  generalize w / 33554432 = c5 at *
  generalize w / 1048576 % 32 = a4 at *
  generalize w / 1048576 = c4 at *
  generalize w / 32768 % 32 = a3 at *
  generalize w / 32768 = c3 at *
  generalize w / 4096 % 8 = a2 at *
  generalize w / 4096 = c2 at *
  generalize w / 128 % 32 = a1 at *
  generalize w / 128 = c1 at *
  generalize w % 128 = a0 at *
  omega
theorem apR {a b : Int} (a0 : 0 ≤ a) (a1 : a < 4294967296) (b0 : 0 ≤ b) (b1 : b < 4294967296) (q0 : a % 128 = b % 128) (q1 : a / 128 % 32 = b / 128 % 32) (q2 : a / 4096 % 8 = b / 4096 % 8) (q3 : a / 32768 % 32 = b / 32768 % 32) (q4 : a / 1048576 % 32 = b / 1048576 % 32) (q5 : a / 33554432 % 128 = b / 33554432 % 128) : a = b := by
  have ca := cutR a a0 a1
  have cb := cutR b b0 b1
  rw [ca, cb, q0, q1, q2, q3, q4, q5]
/-- unlike words that are decoded are unlike instructions, but for fences -/
theorem dec_apart {a b : Int} (a0 : 0 ≤ a) (a1 : a < 4294967296) (b0 : 0 ≤ b) (b1 : b < 4294967296) (ha : opN a ≠ 0) (hb : opN b ≠ 0) (ho : opN a = opN b) (hf : opN a ≠ 38)
    (h1 : dRd a = dRd b) (h2 : dRs1 a = dRs1 b) (h3 : dRs2 a = dRs2 b) (h4 : dImm a = dImm b) : a = b := by
  obtain ⟨p1, p2, p3, p4, p5, r0, r1⟩ := opN_code ha
  obtain ⟨q1, q2, q3, q4, q5, r2, r3⟩ := opN_code hb
  unfold dRd at h1
  unfold dRs1 at h2
  unfold dRs2 at h3
  unfold dImm at h4
  rw [← ho] at q1 q2 q3 q4 q5 h1 h2 h3 h4
  generalize opN a = o at *
  have e1 : ∀ w, fld w 7 5 = w / 128 % 32 := fun _ => rfl
  have e2 : ∀ w, fld w 15 5 = w / 32768 % 32 := fun _ => rfl
  have e3 : ∀ w, fld w 20 5 = w / 1048576 % 32 := fun _ => rfl
  rw [e1, e1] at h1
  rw [e2, e2] at h2
  rw [e3, e3] at h3
  have p1 := p1.symm.trans q1
  have g2 : 3 < o → o ≠ 39 → o ≠ 40 → a / 4096 % 8 = b / 4096 % 8 := fun x y z => (p2 x y z).symm.trans (q2 x y z)
  have g3 : 24 < o → o ≠ 38 → o ≠ 39 → o ≠ 40 → a / 33554432 % 128 = b / 33554432 % 128 := fun x y z t => (p3 x y z t).symm.trans (q3 x y z t)
  clear p2 p3 q1 q2 q3 e1 e2 e3
  have r : (1 ≤ o ∧ o ≤ 2) ∨ o = 3 ∨ o = 4 ∨ (5 ≤ o ∧ o ≤ 10) ∨ (11 ≤ o ∧ o ≤ 15) ∨ (16 ≤ o ∧ o ≤ 18) ∨ (19 ≤ o ∧ o ≤ 24) ∨ (25 ≤ o ∧ o ≤ 27) ∨ o = 39 ∨ o = 40 ∨ (28 ≤ o ∧ o ≤ 37 ∨ 41 ≤ o ∧ o ≤ 48) := by
    clear g2 g3 p4 p5 q4 q5 p1 h1 h2 h3 h4 a0 a1 b0 b1 ho ha hb r2 r3
    omega
  rcases r with r | r | r | r | r | r | r | r | r | r | r
  · rw [form_upper r] at h1 h2 h3 h4
    exact apU a0 a1 b0 b1 p1 h1 h4
  · rw [(r ▸ form_jump : form o = 2)] at h1 h2 h3 h4
    exact apJ a0 a1 b0 b1 p1 h1 h4
  · rw [(r ▸ form_jalr : form o = 4)] at h1 h2 h3 h4
    exact apI a0 a1 b0 b1 p1 h1 (g2 (by clear g2 g3 h1 h2 h3 h4 p1 a0 a1 b0 b1 p4 p5 q4 q5 ho; omega) (by clear g2 g3 h1 h2 h3 h4 p1 a0 a1 b0 b1 p4 p5 q4 q5 ho; omega) (by clear g2 g3 h1 h2 h3 h4 p1 a0 a1 b0 b1 p4 p5 q4 q5 ho; omega)) h2 h4
  · rw [form_branch r] at h1 h2 h3 h4
    exact apB a0 a1 b0 b1 p1 (g2 (by clear g2 g3 h1 h2 h3 h4 p1 a0 a1 b0 b1 p4 p5 q4 q5 ho; omega) (by clear g2 g3 h1 h2 h3 h4 p1 a0 a1 b0 b1 p4 p5 q4 q5 ho; omega) (by clear g2 g3 h1 h2 h3 h4 p1 a0 a1 b0 b1 p4 p5 q4 q5 ho; omega)) h2 h3 h4
  · rw [form_load r] at h1 h2 h3 h4
    exact apI a0 a1 b0 b1 p1 h1 (g2 (by clear g2 g3 h1 h2 h3 h4 p1 a0 a1 b0 b1 p4 p5 q4 q5 ho; omega) (by clear g2 g3 h1 h2 h3 h4 p1 a0 a1 b0 b1 p4 p5 q4 q5 ho; omega) (by clear g2 g3 h1 h2 h3 h4 p1 a0 a1 b0 b1 p4 p5 q4 q5 ho; omega)) h2 h4
  · rw [form_store r] at h1 h2 h3 h4
    exact apS a0 a1 b0 b1 p1 (g2 (by clear g2 g3 h1 h2 h3 h4 p1 a0 a1 b0 b1 p4 p5 q4 q5 ho; omega) (by clear g2 g3 h1 h2 h3 h4 p1 a0 a1 b0 b1 p4 p5 q4 q5 ho; omega) (by clear g2 g3 h1 h2 h3 h4 p1 a0 a1 b0 b1 p4 p5 q4 q5 ho; omega)) h2 h3 h4
  · rw [form_number r] at h1 h2 h3 h4
    exact apI a0 a1 b0 b1 p1 h1 (g2 (by clear g2 g3 h1 h2 h3 h4 p1 a0 a1 b0 b1 p4 p5 q4 q5 ho; omega) (by clear g2 g3 h1 h2 h3 h4 p1 a0 a1 b0 b1 p4 p5 q4 q5 ho; omega) (by clear g2 g3 h1 h2 h3 h4 p1 a0 a1 b0 b1 p4 p5 q4 q5 ho; omega)) h2 h4
  · rw [form_shift r] at h1 h2 h3 h4
    exact apR a0 a1 b0 b1 p1 h1 (g2 (by clear g2 g3 h1 h2 h3 h4 p1 a0 a1 b0 b1 p4 p5 q4 q5 ho; omega) (by clear g2 g3 h1 h2 h3 h4 p1 a0 a1 b0 b1 p4 p5 q4 q5 ho; omega) (by clear g2 g3 h1 h2 h3 h4 p1 a0 a1 b0 b1 p4 p5 q4 q5 ho; omega)) h2 h4 (g3 (by clear g2 g3 h1 h2 h3 h4 p1 a0 a1 b0 b1 p4 p5 q4 q5 ho; omega) (by clear g2 g3 h1 h2 h3 h4 p1 a0 a1 b0 b1 p4 p5 q4 q5 ho; omega) (by clear g2 g3 h1 h2 h3 h4 p1 a0 a1 b0 b1 p4 p5 q4 q5 ho; omega) (by clear g2 g3 h1 h2 h3 h4 p1 a0 a1 b0 b1 p4 p5 q4 q5 ho; omega))
  · exact (p4 r).trans (q4 r).symm
  · exact (p5 r).trans (q5 r).symm
  · rw [form_register r] at h1 h2 h3 h4
    exact apR a0 a1 b0 b1 p1 h1 (g2 (by clear g2 g3 h1 h2 h3 h4 p1 a0 a1 b0 b1 p4 p5 q4 q5 ho; omega) (by clear g2 g3 h1 h2 h3 h4 p1 a0 a1 b0 b1 p4 p5 q4 q5 ho; omega) (by clear g2 g3 h1 h2 h3 h4 p1 a0 a1 b0 b1 p4 p5 q4 q5 ho; omega)) h2 h3 (g3 (by clear g2 g3 h1 h2 h3 h4 p1 a0 a1 b0 b1 p4 p5 q4 q5 ho; omega) (by clear g2 g3 h1 h2 h3 h4 p1 a0 a1 b0 b1 p4 p5 q4 q5 ho; omega) (by clear g2 g3 h1 h2 h3 h4 p1 a0 a1 b0 b1 p4 p5 q4 q5 ho; omega) (by clear g2 g3 h1 h2 h3 h4 p1 a0 a1 b0 b1 p4 p5 q4 q5 ho; omega))
end Go.Proofs.Ytplhoiokfjjcdaa.P
