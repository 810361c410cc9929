/- For every number and any two numbers of bits: what is a signed number of the fewer bits is one of the more, too, and is its own lowest bits. -/
import Derived.Test.YtfhhjbhoiccbjaaRows
import Derived.WalkKit
import Derived.ProofKit
import Derived.OpenShut
import Derived.ShutString
import Derived.ChangeOld
import Derived.Below
import Derived.Test.YtfhhjbhoiccbjaaAwake01
namespace Go.Proofs.Ytfhhjbhoiccbjaa.wordFitting
open Go.ChangeShapes Go.WideShapes Go.ChangeAt Go.RowKit
open Go.ChangeMaps (open_string shut_string)
set_option linter.unusedVariables false

open Go.Proofs.Ytfhhjbhoiccbjaa.P Go.Proofs.Ytfhhjbhoiccbjaa.W

theorem mod_mod (x : Int) {h k : Nat} (hk : h ≤ k) : x % 2 ^ k % 2 ^ h = x % 2 ^ h := by
  refine Int.emod_emod_of_dvd x ?_
  refine ⟨2 ^ (k - h), ?_⟩
  rw [← Int.pow_add, show h + (k - h) = k by omega]
theorem sgn_mod (x : Int) (h : Nat) : (sgn x h - x) % 2 ^ h = 0 := by
  unfold sgn
  split
  · rw [Int.sub_emod, Int.emod_emod, Int.sub_self]; simp
  · rw [Int.sub_emod, Int.sub_emod (x % 2 ^ h), Int.emod_self, Int.emod_emod]; simp
theorem sgn_low (x : Int) (h : Nat) : sgn x h % 2 ^ h = x % 2 ^ h := by
  have e := sgn_mod x h
  have := Int.emod_emod_of_dvd x (Int.dvd_refl (2 ^ h))
  exact Int.emod_eq_emod_iff_emod_sub_eq_zero.2 e
theorem m32 : (4294967296 : Int) = 2 ^ 32 := by decide
/-- the lowest bits of a number, as a word -/
theorem low_word (x : Int) {h : Nat} (hh : h ≤ 32) : x % 4294967296 % 2 ^ h = x % 2 ^ h := by rw [m32]; exact mod_mod x hh
theorem sgn_congr {x y : Int} {h : Nat} (e : x % 2 ^ h = y % 2 ^ h) : sgn x h = sgn y h := by unfold sgn; rw [e]
theorem sgn_word (x : Int) {h : Nat} (hh : h ≤ 32) : sgn (x % 4294967296) h = sgn x h := sgn_congr (low_word x hh)
/-- a signed number of some bits lies in their range -/
theorem sgn_range (x : Int) (h : Nat) : -(2 ^ h) ≤ 2 * sgn x h ∧ 2 * sgn x h < 2 ^ h := by
  have hp := p2pos h
  have b0 : 0 ≤ x % 2 ^ h := Int.emod_nonneg _ (Int.ne_of_gt hp)
  have b1 : x % 2 ^ h < 2 ^ h := Int.emod_lt_of_pos _ hp
  unfold sgn; split <;> omega
theorem sgn_of_range (x : Int) (h : Nat) (h0 : -(2 ^ h) ≤ 2 * x) (h1 : 2 * x < 2 ^ h) : sgn x h = x := by
  have hp := p2pos h
  unfold sgn
  by_cases hx : 0 ≤ x
  · rw [Int.emod_eq_of_lt hx (by omega), if_pos h1]
  · have e : x % 2 ^ h = x + 2 ^ h := by
      rw [← Int.add_emod_right]; exact Int.emod_eq_of_lt (by omega) (by omega)
    rw [e, if_neg (by omega)]; omega
theorem sgn_more (x : Int) {h k : Nat} (hk : h ≤ k) (e : sgn x h = x) : sgn x k = x := by
  have r := sgn_range x h
  rw [e] at r
  have := p2le hk
  exact sgn_of_range x k (by omega) (by omega)
theorem sgn_again (x : Int) (h : Nat) : sgn (sgn x h) h = sgn x h := sgn_congr (sgn_low x h)
theorem held_mono {a b : Int} (h : a ≤ b) : held a ≤ held b := by unfold held; omega
theorem fld_low (x : Int) (h : Nat) : fld x 0 h = x % 2 ^ h := by unfold fld; simp

theorem fits (v a : Int) : (sgn (v % 4294967296) (held a) == v) = (sgn v (held a) == v) := by rw [sgn_word v (held_le a)]
theorem again (v a : Int) : sgn (sgn (v % 4294967296) (held a) % 4294967296) (held a) = sgn (v % 4294967296) (held a) := by
  rw [sgn_word _ (held_le a), sgn_again]
theorem own_bits (v a : Int) : fld (sgn (v % 4294967296) (held a) % 4294967296) 0 (held a) = fld (v % 4294967296) 0 (held a) := by
  rw [fld_low, fld_low, low_word _ (held_le a), sgn_low]
theorem more (v a b : Int) (h : a ≤ b) (e : sgn (v % 4294967296) (held a) = v) : sgn (v % 4294967296) (held b) = v := by
  rw [sgn_word v (held_le a)] at e
  rw [sgn_word v (held_le b)]
  exact sgn_more v (held_mono h) e

theorem main (a0 : Int) (b0 : -2147483648 ≤ a0 ∧ a0 < 2147483648) (a1 : Int) (b1 : 0 ≤ a1 ∧ a1 < 256) (a2 : Int) (b2 : 0 ≤ a2 ∧ a2 < 256) (w : World) :
    Calls Try.prog 6 #[.int .i32 a0, .int .u8 a1, .int .u8 a2] w fun e w' => e = .returned (.bool true) ∧ Below w.heap.size w w' := by
  obtain ⟨h0, h1⟩ := b0
  by_cases hab : a1 < a2
  · have g1 := again a0 a1
    have g2 := own_bits a0 a1
    by_cases hf : sgn (a0 % 4294967296) (held a1) = a0
    · have hm := more a0 a1 a2 (by omega) hf
      go_enter Try.func6, Try.ntmps6
      go_wp2_with (first | (go_at_call 9; refine (A1.awake _).mono ?_; rintro e w' ⟨rfl, _, rfl⟩) | (go_at_call 27; refine (W.within _ _ _ _).mono ?_; rintro e w' ⟨rfl, rfl⟩) | (go_at_call 26; refine (W.mask _ _).mono ?_; rintro e w' ⟨rfl, rfl⟩) | (go_at_call 15; refine (W.Sign _ _ _).mono ?_; rintro e w' ⟨rfl, rfl⟩) | (go_at_call 12; refine (W.Lo _ _).mono ?_; rintro e w' ⟨rfl, rfl⟩) | (go_at_call 10; refine (W.Hi _ _).mono ?_; rintro e w' ⟨rfl, rfl⟩) | (go_at_call 17; refine (W.Fits _ _ _).mono ?_; rintro e w' ⟨rfl, rfl⟩) | (go_at_call 14; refine (W.Field _ _ _ _ (by omega) (by omega)).mono ?_; rintro e w' ⟨rfl, _, rfl⟩) | (go_at_call 20; refine (W.MulHigh _ _ _ _ _ (by omega) (by omega) (by omega) (by omega)).mono ?_; rintro e w' ⟨rfl, rfl⟩) | (go_at_call 18; refine (W.Div _ _ _ _ (by omega) (by omega) (by omega) (by omega)).mono ?_; rintro e w' ⟨rfl, rfl⟩) | (go_at_call 19; refine (W.Rem _ _ _ _ (by omega) (by omega) (by omega) (by omega)).mono ?_; rintro e w' ⟨rfl, rfl⟩) | (go_at_call 24; refine (R1.Held _ _).mono ?_; rintro e w' ⟨rfl, rfl⟩) | (go_at_call 25; refine (R1.Bit _ _ _ (by omega) (by omega)).mono ?_; rintro e w' ⟨rfl, rfl⟩) | (go_at_call 16; refine (R1.Field _ _ _ _ (by omega) (by omega)).mono ?_; rintro e w' ⟨rfl, rfl⟩) | (go_at_call 13; refine (R1.Sign _ _ _ (by omega) (by omega)).mono ?_; rintro e w' ⟨rfl, rfl⟩) | (go_at_call 11; refine (R1.Hi _ _ (by omega) (by omega)).mono ?_; rintro e w' ⟨rfl, rfl⟩) | (go_at_call 21; refine (R1.MulHigh _ _ _ _ _ (by omega) (by omega) (by omega) (by omega)).mono ?_; rintro e w' ⟨rfl, rfl⟩) | (go_at_call 22; refine (R1.Div _ _ _ _ (by omega) (by omega) (by omega) (by omega)).mono ?_; rintro e w' ⟨rfl, rfl⟩) | (go_at_call 23; refine (R1.Rem _ _ _ _ (by omega) (by omega) (by omega) (by omega)).mono ?_; rintro e w' ⟨rfl, rfl⟩))
      all_goals go_ret
      all_goals exact ⟨rfl, below_drewN (Below.refl _ _) _⟩
    · go_enter Try.func6, Try.ntmps6
      go_wp2_with (first | (go_at_call 9; refine (A1.awake _).mono ?_; rintro e w' ⟨rfl, _, rfl⟩) | (go_at_call 27; refine (W.within _ _ _ _).mono ?_; rintro e w' ⟨rfl, rfl⟩) | (go_at_call 26; refine (W.mask _ _).mono ?_; rintro e w' ⟨rfl, rfl⟩) | (go_at_call 15; refine (W.Sign _ _ _).mono ?_; rintro e w' ⟨rfl, rfl⟩) | (go_at_call 12; refine (W.Lo _ _).mono ?_; rintro e w' ⟨rfl, rfl⟩) | (go_at_call 10; refine (W.Hi _ _).mono ?_; rintro e w' ⟨rfl, rfl⟩) | (go_at_call 17; refine (W.Fits _ _ _).mono ?_; rintro e w' ⟨rfl, rfl⟩) | (go_at_call 14; refine (W.Field _ _ _ _ (by omega) (by omega)).mono ?_; rintro e w' ⟨rfl, _, rfl⟩) | (go_at_call 20; refine (W.MulHigh _ _ _ _ _ (by omega) (by omega) (by omega) (by omega)).mono ?_; rintro e w' ⟨rfl, rfl⟩) | (go_at_call 18; refine (W.Div _ _ _ _ (by omega) (by omega) (by omega) (by omega)).mono ?_; rintro e w' ⟨rfl, rfl⟩) | (go_at_call 19; refine (W.Rem _ _ _ _ (by omega) (by omega) (by omega) (by omega)).mono ?_; rintro e w' ⟨rfl, rfl⟩) | (go_at_call 24; refine (R1.Held _ _).mono ?_; rintro e w' ⟨rfl, rfl⟩) | (go_at_call 25; refine (R1.Bit _ _ _ (by omega) (by omega)).mono ?_; rintro e w' ⟨rfl, rfl⟩) | (go_at_call 16; refine (R1.Field _ _ _ _ (by omega) (by omega)).mono ?_; rintro e w' ⟨rfl, rfl⟩) | (go_at_call 13; refine (R1.Sign _ _ _ (by omega) (by omega)).mono ?_; rintro e w' ⟨rfl, rfl⟩) | (go_at_call 11; refine (R1.Hi _ _ (by omega) (by omega)).mono ?_; rintro e w' ⟨rfl, rfl⟩) | (go_at_call 21; refine (R1.MulHigh _ _ _ _ _ (by omega) (by omega) (by omega) (by omega)).mono ?_; rintro e w' ⟨rfl, rfl⟩) | (go_at_call 22; refine (R1.Div _ _ _ _ (by omega) (by omega) (by omega) (by omega)).mono ?_; rintro e w' ⟨rfl, rfl⟩) | (go_at_call 23; refine (R1.Rem _ _ _ _ (by omega) (by omega) (by omega) (by omega)).mono ?_; rintro e w' ⟨rfl, rfl⟩))
      all_goals go_ret
      all_goals exact ⟨rfl, below_drewN (Below.refl _ _) _⟩
  by_cases hba : a2 < a1
  · have g1 := again a0 a2
    have g2 := own_bits a0 a2
    by_cases hf : sgn (a0 % 4294967296) (held a2) = a0
    · have hm := more a0 a2 a1 (by omega) hf
      go_enter Try.func6, Try.ntmps6
      go_wp2_with (first | (go_at_call 9; refine (A1.awake _).mono ?_; rintro e w' ⟨rfl, _, rfl⟩) | (go_at_call 27; refine (W.within _ _ _ _).mono ?_; rintro e w' ⟨rfl, rfl⟩) | (go_at_call 26; refine (W.mask _ _).mono ?_; rintro e w' ⟨rfl, rfl⟩) | (go_at_call 15; refine (W.Sign _ _ _).mono ?_; rintro e w' ⟨rfl, rfl⟩) | (go_at_call 12; refine (W.Lo _ _).mono ?_; rintro e w' ⟨rfl, rfl⟩) | (go_at_call 10; refine (W.Hi _ _).mono ?_; rintro e w' ⟨rfl, rfl⟩) | (go_at_call 17; refine (W.Fits _ _ _).mono ?_; rintro e w' ⟨rfl, rfl⟩) | (go_at_call 14; refine (W.Field _ _ _ _ (by omega) (by omega)).mono ?_; rintro e w' ⟨rfl, _, rfl⟩) | (go_at_call 20; refine (W.MulHigh _ _ _ _ _ (by omega) (by omega) (by omega) (by omega)).mono ?_; rintro e w' ⟨rfl, rfl⟩) | (go_at_call 18; refine (W.Div _ _ _ _ (by omega) (by omega) (by omega) (by omega)).mono ?_; rintro e w' ⟨rfl, rfl⟩) | (go_at_call 19; refine (W.Rem _ _ _ _ (by omega) (by omega) (by omega) (by omega)).mono ?_; rintro e w' ⟨rfl, rfl⟩) | (go_at_call 24; refine (R1.Held _ _).mono ?_; rintro e w' ⟨rfl, rfl⟩) | (go_at_call 25; refine (R1.Bit _ _ _ (by omega) (by omega)).mono ?_; rintro e w' ⟨rfl, rfl⟩) | (go_at_call 16; refine (R1.Field _ _ _ _ (by omega) (by omega)).mono ?_; rintro e w' ⟨rfl, rfl⟩) | (go_at_call 13; refine (R1.Sign _ _ _ (by omega) (by omega)).mono ?_; rintro e w' ⟨rfl, rfl⟩) | (go_at_call 11; refine (R1.Hi _ _ (by omega) (by omega)).mono ?_; rintro e w' ⟨rfl, rfl⟩) | (go_at_call 21; refine (R1.MulHigh _ _ _ _ _ (by omega) (by omega) (by omega) (by omega)).mono ?_; rintro e w' ⟨rfl, rfl⟩) | (go_at_call 22; refine (R1.Div _ _ _ _ (by omega) (by omega) (by omega) (by omega)).mono ?_; rintro e w' ⟨rfl, rfl⟩) | (go_at_call 23; refine (R1.Rem _ _ _ _ (by omega) (by omega) (by omega) (by omega)).mono ?_; rintro e w' ⟨rfl, rfl⟩))
      all_goals go_ret
      all_goals exact ⟨rfl, below_drewN (Below.refl _ _) _⟩
    · go_enter Try.func6, Try.ntmps6
      go_wp2_with (first | (go_at_call 9; refine (A1.awake _).mono ?_; rintro e w' ⟨rfl, _, rfl⟩) | (go_at_call 27; refine (W.within _ _ _ _).mono ?_; rintro e w' ⟨rfl, rfl⟩) | (go_at_call 26; refine (W.mask _ _).mono ?_; rintro e w' ⟨rfl, rfl⟩) | (go_at_call 15; refine (W.Sign _ _ _).mono ?_; rintro e w' ⟨rfl, rfl⟩) | (go_at_call 12; refine (W.Lo _ _).mono ?_; rintro e w' ⟨rfl, rfl⟩) | (go_at_call 10; refine (W.Hi _ _).mono ?_; rintro e w' ⟨rfl, rfl⟩) | (go_at_call 17; refine (W.Fits _ _ _).mono ?_; rintro e w' ⟨rfl, rfl⟩) | (go_at_call 14; refine (W.Field _ _ _ _ (by omega) (by omega)).mono ?_; rintro e w' ⟨rfl, _, rfl⟩) | (go_at_call 20; refine (W.MulHigh _ _ _ _ _ (by omega) (by omega) (by omega) (by omega)).mono ?_; rintro e w' ⟨rfl, rfl⟩) | (go_at_call 18; refine (W.Div _ _ _ _ (by omega) (by omega) (by omega) (by omega)).mono ?_; rintro e w' ⟨rfl, rfl⟩) | (go_at_call 19; refine (W.Rem _ _ _ _ (by omega) (by omega) (by omega) (by omega)).mono ?_; rintro e w' ⟨rfl, rfl⟩) | (go_at_call 24; refine (R1.Held _ _).mono ?_; rintro e w' ⟨rfl, rfl⟩) | (go_at_call 25; refine (R1.Bit _ _ _ (by omega) (by omega)).mono ?_; rintro e w' ⟨rfl, rfl⟩) | (go_at_call 16; refine (R1.Field _ _ _ _ (by omega) (by omega)).mono ?_; rintro e w' ⟨rfl, rfl⟩) | (go_at_call 13; refine (R1.Sign _ _ _ (by omega) (by omega)).mono ?_; rintro e w' ⟨rfl, rfl⟩) | (go_at_call 11; refine (R1.Hi _ _ (by omega) (by omega)).mono ?_; rintro e w' ⟨rfl, rfl⟩) | (go_at_call 21; refine (R1.MulHigh _ _ _ _ _ (by omega) (by omega) (by omega) (by omega)).mono ?_; rintro e w' ⟨rfl, rfl⟩) | (go_at_call 22; refine (R1.Div _ _ _ _ (by omega) (by omega) (by omega) (by omega)).mono ?_; rintro e w' ⟨rfl, rfl⟩) | (go_at_call 23; refine (R1.Rem _ _ _ _ (by omega) (by omega) (by omega) (by omega)).mono ?_; rintro e w' ⟨rfl, rfl⟩))
      all_goals go_ret
      all_goals exact ⟨rfl, below_drewN (Below.refl _ _) _⟩
  obtain rfl : a1 = a2 := by omega
  clear hab hba
  by_cases hq : a1 = a1
  · clear hq
    have g1 := again a0 a1
    have g2 := own_bits a0 a1
    by_cases hf : sgn (a0 % 4294967296) (held a1) = a0
    · have hm := more a0 a1 a1 (by omega) hf
      go_enter Try.func6, Try.ntmps6
      go_wp2_with (first | (go_at_call 9; refine (A1.awake _).mono ?_; rintro e w' ⟨rfl, _, rfl⟩) | (go_at_call 27; refine (W.within _ _ _ _).mono ?_; rintro e w' ⟨rfl, rfl⟩) | (go_at_call 26; refine (W.mask _ _).mono ?_; rintro e w' ⟨rfl, rfl⟩) | (go_at_call 15; refine (W.Sign _ _ _).mono ?_; rintro e w' ⟨rfl, rfl⟩) | (go_at_call 12; refine (W.Lo _ _).mono ?_; rintro e w' ⟨rfl, rfl⟩) | (go_at_call 10; refine (W.Hi _ _).mono ?_; rintro e w' ⟨rfl, rfl⟩) | (go_at_call 17; refine (W.Fits _ _ _).mono ?_; rintro e w' ⟨rfl, rfl⟩) | (go_at_call 14; refine (W.Field _ _ _ _ (by omega) (by omega)).mono ?_; rintro e w' ⟨rfl, _, rfl⟩) | (go_at_call 20; refine (W.MulHigh _ _ _ _ _ (by omega) (by omega) (by omega) (by omega)).mono ?_; rintro e w' ⟨rfl, rfl⟩) | (go_at_call 18; refine (W.Div _ _ _ _ (by omega) (by omega) (by omega) (by omega)).mono ?_; rintro e w' ⟨rfl, rfl⟩) | (go_at_call 19; refine (W.Rem _ _ _ _ (by omega) (by omega) (by omega) (by omega)).mono ?_; rintro e w' ⟨rfl, rfl⟩) | (go_at_call 24; refine (R1.Held _ _).mono ?_; rintro e w' ⟨rfl, rfl⟩) | (go_at_call 25; refine (R1.Bit _ _ _ (by omega) (by omega)).mono ?_; rintro e w' ⟨rfl, rfl⟩) | (go_at_call 16; refine (R1.Field _ _ _ _ (by omega) (by omega)).mono ?_; rintro e w' ⟨rfl, rfl⟩) | (go_at_call 13; refine (R1.Sign _ _ _ (by omega) (by omega)).mono ?_; rintro e w' ⟨rfl, rfl⟩) | (go_at_call 11; refine (R1.Hi _ _ (by omega) (by omega)).mono ?_; rintro e w' ⟨rfl, rfl⟩) | (go_at_call 21; refine (R1.MulHigh _ _ _ _ _ (by omega) (by omega) (by omega) (by omega)).mono ?_; rintro e w' ⟨rfl, rfl⟩) | (go_at_call 22; refine (R1.Div _ _ _ _ (by omega) (by omega) (by omega) (by omega)).mono ?_; rintro e w' ⟨rfl, rfl⟩) | (go_at_call 23; refine (R1.Rem _ _ _ _ (by omega) (by omega) (by omega) (by omega)).mono ?_; rintro e w' ⟨rfl, rfl⟩))
      all_goals go_ret
      all_goals exact ⟨rfl, below_drewN (Below.refl _ _) _⟩
    · go_enter Try.func6, Try.ntmps6
      go_wp2_with (first | (go_at_call 9; refine (A1.awake _).mono ?_; rintro e w' ⟨rfl, _, rfl⟩) | (go_at_call 27; refine (W.within _ _ _ _).mono ?_; rintro e w' ⟨rfl, rfl⟩) | (go_at_call 26; refine (W.mask _ _).mono ?_; rintro e w' ⟨rfl, rfl⟩) | (go_at_call 15; refine (W.Sign _ _ _).mono ?_; rintro e w' ⟨rfl, rfl⟩) | (go_at_call 12; refine (W.Lo _ _).mono ?_; rintro e w' ⟨rfl, rfl⟩) | (go_at_call 10; refine (W.Hi _ _).mono ?_; rintro e w' ⟨rfl, rfl⟩) | (go_at_call 17; refine (W.Fits _ _ _).mono ?_; rintro e w' ⟨rfl, rfl⟩) | (go_at_call 14; refine (W.Field _ _ _ _ (by omega) (by omega)).mono ?_; rintro e w' ⟨rfl, _, rfl⟩) | (go_at_call 20; refine (W.MulHigh _ _ _ _ _ (by omega) (by omega) (by omega) (by omega)).mono ?_; rintro e w' ⟨rfl, rfl⟩) | (go_at_call 18; refine (W.Div _ _ _ _ (by omega) (by omega) (by omega) (by omega)).mono ?_; rintro e w' ⟨rfl, rfl⟩) | (go_at_call 19; refine (W.Rem _ _ _ _ (by omega) (by omega) (by omega) (by omega)).mono ?_; rintro e w' ⟨rfl, rfl⟩) | (go_at_call 24; refine (R1.Held _ _).mono ?_; rintro e w' ⟨rfl, rfl⟩) | (go_at_call 25; refine (R1.Bit _ _ _ (by omega) (by omega)).mono ?_; rintro e w' ⟨rfl, rfl⟩) | (go_at_call 16; refine (R1.Field _ _ _ _ (by omega) (by omega)).mono ?_; rintro e w' ⟨rfl, rfl⟩) | (go_at_call 13; refine (R1.Sign _ _ _ (by omega) (by omega)).mono ?_; rintro e w' ⟨rfl, rfl⟩) | (go_at_call 11; refine (R1.Hi _ _ (by omega) (by omega)).mono ?_; rintro e w' ⟨rfl, rfl⟩) | (go_at_call 21; refine (R1.MulHigh _ _ _ _ _ (by omega) (by omega) (by omega) (by omega)).mono ?_; rintro e w' ⟨rfl, rfl⟩) | (go_at_call 22; refine (R1.Div _ _ _ _ (by omega) (by omega) (by omega) (by omega)).mono ?_; rintro e w' ⟨rfl, rfl⟩) | (go_at_call 23; refine (R1.Rem _ _ _ _ (by omega) (by omega) (by omega) (by omega)).mono ?_; rintro e w' ⟨rfl, rfl⟩))
      all_goals go_ret
      all_goals exact ⟨rfl, below_drewN (Below.refl _ _) _⟩
  · exact absurd rfl hq

theorem own : ownKnob Try.prog.godebug = none := by kernel_rfl
theorem laidOut : laidOutB Try.prog = true := by kernel_rfl

set_option maxRecDepth 100000 in
theorem lifted (os : Os) (started : os.Started) (H : Type) (enc : TypeId × Value → H) :
    ReturnsInHanded {} Try.checked os 6 .any (Rows.wordFittingSpec.pre6 enc Try.prog Try.f6 Rows.wordFittingRow.domain false) (Rows.wordFittingSpec.post enc Try.prog Try.f6 false true false false) := by
  refine returnsInHanded_of_change (C := Try.checked) own started (by kernel_rfl) Try.func6
    (ChangeSpec.witness6 (enc := enc) (C := Try.checked) false ⟨#[], #[.int .i32 0, .int .u8 0, .int .u8 0], []⟩ 8 (by kernel_rfl) (by kernel_rfl) (by kernel_rfl) (by kernel_rfl)) ?_
  intro W base args ds gs before hval0 hW hcnd _
  have hval : ∀ (j : Nat) t v, Try.f6.params[j]? = some t → args[j]? = some v → Value.okWide Try.prog W .any base t v := hval0
  have hW' := hW
  obtain ⟨p, q, hA0, hV, rfl, hfz, hnd⟩ := hW
  have hA : DataW.TrodAll enc Try.prog W 0 (fun _ => true) true Try.f6.params.toList args.toList ds p := hA0
  rw [Try.params6] at hA hval
  obtain ⟨v0, vs0, d0, ds0, p0, q0, hargs, rfl, rfl, h0, r0⟩ := trodAll_cons hA
  obtain ⟨v1, vs1, d1, ds1, p1, q1, rfl, rfl, rfl, h1, r1⟩ := trodAll_cons r0
  obtain ⟨v2, vs2, d2, ds2, p2, q2, rfl, rfl, rfl, h2, r2⟩ := trodAll_cons r1
  obtain ⟨rfl, rfl, rfl⟩ := trodAll_nil r2
  obtain rfl : args = #[v0, v1, v2] := by cases args; simp_all
  obtain ⟨rfl, rfl⟩ := trodVars_none hV
  obtain ⟨a0, rfl, rfl, rfl, w0⟩ := open_int Try.underlying21 (hval 0 21 v0 rfl rfl) h0
  have b0 : -2147483648 ≤ a0 ∧ a0 < 2147483648 := by
    have : -2147483648 ≤ a0 ∧ a0 ≤ 2147483647 := by simpa [Lit.wf, IntKind.min, IntKind.max, IntKind.signed, IntKind.bits] using w0
    omega
  obtain ⟨a1, rfl, rfl, rfl, w1⟩ := open_int Try.underlying5 (hval 1 5 v1 rfl rfl) h1
  have b1 : 0 ≤ a1 ∧ a1 < 256 := by
    have : 0 ≤ a1 ∧ a1 ≤ 255 := by simpa [Lit.wf, IntKind.min, IntKind.max, IntKind.signed, IntKind.bits] using w1
    omega
  obtain ⟨a2, rfl, rfl, rfl, w2⟩ := open_int Try.underlying5 (hval 2 5 v2 rfl rfl) h2
  have b2 : 0 ≤ a2 ∧ a2 < 256 := by
    have : 0 ≤ a2 ∧ a2 ≤ 255 := by simpa [Lit.wf, IntKind.min, IntKind.max, IntKind.signed, IntKind.bits] using w2
    omega
  clear hA0 hval0
  simp only [List.append_nil] at hW'
  refine (main a0 b0 a1 b1 a2 b2 W).mono fun e W' ⟨he, bel⟩ => ?_
  subst he
  exact ⟨_, rfl, _, _, _, [], _, [], hW', trodAll_mk1 (shut_bool Try.underlying4 _), (trodAll_cons_mk (shut_int Try.underlying21 w0) (trodAll_cons_mk (shut_int Try.underlying5 w1) (trodAll_cons_mk (shut_int Try.underlying5 w2) trodAll_mk0))), rfl, by simpa using bel.frame _, fun h => by cases h⟩

theorem over : Rows.wordFittingRow.holds Try.pinned (OpenSpec.ofChange Rows.wordFittingSpec) :=
  OpenClaim.holds_of_wide 6 Try.f6 rfl rfl rfl rfl rfl rfl rfl ⟨rfl, rfl, rfl, rfl, rfl⟩ rfl rfl rfl rfl rfl (by kernel_rfl) Try.func6 (by kernel_rfl)
    (of_decide_eq_true (by kernel_rfl)) (by unfold Func.isWrapper; first | (rw [if_pos (by decide +kernel)]; kernel_rfl) | (rw [if_neg (by decide +kernel)]; exact ⟨rfl, rfl⟩))
    (fun os started H enc _ => lifted os started H enc)

theorem proved : Rows.WordFittingSaid :=
  over
#print axioms proved
end Go.Proofs.Ytfhhjbhoiccbjaa.wordFitting
