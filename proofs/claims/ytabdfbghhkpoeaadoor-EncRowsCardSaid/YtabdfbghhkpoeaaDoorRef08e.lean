/- What typecaseref08.unit and typecaseref08.places compute. -/
import Derived.Test.YtabdfbghhkpoeaaDoorRef04
import Derived.Test.YtabdfbghhkpoeaaDoorEncW
namespace Go.Proofs.YtabdfbghhkpoeaaDoor.R8
set_option linter.unusedVariables false
set_option linter.unusedSimpArgs false
open Go.ChangeShapes Go.WideShapes Go.ChangeAt Go.RowKit Go.Proofs.YtabdfbghhkpoeaaDoor.P Go.Proofs.YtabdfbghhkpoeaaDoor.W Go.Proofs.YtabdfbghhkpoeaaDoor.O Go.Proofs.YtabdfbghhkpoeaaDoor.R4

theorem p2wrap (k : Nat) (h : k < 31) : (2 : Int) * 2 ^ k % 4294967296 = 2 ^ (k + 1) ∧ (0 : Int) < 2 ^ k ∧ (2 : Int) ^ k < 2147483648 := by
  have h2 : (2 : Int) ^ (k + 1) ≤ 2 ^ 31 := p2le (by omega)
  have h3 : (2 : Int) ^ 31 = 2147483648 := by decide
  have h4 := p2pos k
  have h5 := p2succ k
  refine ⟨?_, h4, by omega⟩
  rw [← h5]; exact Int.emod_eq_of_lt (by omega) (by omega)
theorem unit (k : Int) (w : World) (k0 : 0 ≤ k) (k1 : k ≤ 31) :
    Calls Tryd.prog 21 #[.int .i64 k] w fun e w' => e = .returned (.int .u32 (2 ^ k.toNat)) ∧ w = w' := by
  obtain ⟨n, rfl⟩ := Int.eq_ofNat_of_zero_le k0
  rw [Int.toNat_natCast]
  go_enter Tryd.func21, Tryd.ntmps21
  go_wp2
  go_loop [3, 4] (fun u i => ∃ j : Nat, j ≤ n ∧ i = .int .i64 j ∧ u = .int .u32 (2 ^ j)) (fun _ i => n - (intOf i).toNat)
  case atStart => exact ⟨0, by omega, rfl, rfl⟩
  case round =>
    obtain ⟨j, hj, rfl, rfl⟩ := hrel
    by_cases hs : j < n
    · obtain ⟨q1, q2, q3⟩ := p2wrap j (by omega)
      have HQ := hid q1
      clear q1
      have hlt : (j : Int) < n := by omega
      generalize hp : (2 : Int) ^ j = p at *
      have HP := hid hp
      clear hp
      go_wp2
      go_round
      case rel => exact ⟨j + 1, by omega, by go_num, by rw [← HQ.out]; go_num⟩
      case measure => simp [intOf]; omega
    · obtain rfl : j = n := by omega
      go_wp2
      go_ret
      exact ⟨rfl, rfl⟩

/-- the places of the bits of a form's number -/
def plc (f : Int) : List Int :=
  if f = 1 then dn 12 20 ++ [-1, -1, -1, -1, -1, -1, -1, -1, -1, -1, -1, -1] else if f = 2 then ([31] ++ dn 12 8) ++ [20] ++ (dn 21 10 ++ [-1]) else if f = 3 then [31, 7] ++ dn 25 6 ++ (dn 8 4 ++ [-1])
  else if f = 4 ∨ f = 6 then dn 20 12 else if f = 5 then dn 25 7 ++ dn 7 5 else if f = 7 then dn 20 5 else []
set_option maxHeartbeats 1000000 in
theorem places (f : Int) (w : World) (f0 : 1 ≤ f) (f1 : f ≤ 9) :
    Calls Tryd.prog 22 #[.int .i64 f] w (Gives w (plc f)) := by
  have hst0 := Stack.start w
  have hc : f = 1 ∨ f = 2 ∨ f = 3 ∨ f = 4 ∨ f = 5 ∨ f = 6 ∨ f = 7 ∨ f = 8 ∨ f = 9 := by omega
  rcases hc with rfl | rfl | rfl | rfl | rfl | rfl | rfl | rfl | rfl
  · go_enter Tryd.func22, Tryd.ntmps22
    go_wp2_with fail
    refine (Down _ _ 12 20 _ rfl rfl (by decide) (by decide)).mono ?_
    rintro e w1 ⟨v1, rfl, hi1, hb1⟩
    have hst1 := Stack.call (by exact hst0) hb1 hi1
    go_wp2_with (first | (at_builtin; refine app rfl _ _ rfl rfl rfl (by exact (hst1.lit [-1, -1, -1, -1, -1, -1, -1, -1, -1, -1, -1, -1] _ _ rfl rfl (by decide))) (by decide) (by decide) ?_; intro v2 w2 hst2))
    go_ret
    exact ⟨_, rfl, hst2.top, hst2.bel⟩
  · go_enter Tryd.func22, Tryd.ntmps22
    go_wp2_with fail
    refine (Down _ _ 12 8 _ rfl rfl (by decide) (by decide)).mono ?_
    rintro e w1 ⟨v1, rfl, hi1, hb1⟩
    have hst1 := Stack.call (by exact (hst0.lit [31] _ _ rfl rfl (by decide))) hb1 hi1
    go_wp2_with (first | (at_builtin; refine app rfl _ _ rfl rfl rfl (by exact (hst2.lit [20] _ _ rfl rfl (by decide))) (by decide) (by decide) ?_; intro v3 w3 hst3) | (at_builtin; refine app rfl _ _ rfl rfl rfl (by exact hst1) (by decide) (by decide) ?_; intro v2 w2 hst2))
    go_wp2_with fail
    refine (Down _ _ 21 10 _ rfl rfl (by decide) (by decide)).mono ?_
    rintro e w4 ⟨v4, rfl, hi4, hb4⟩
    have hst4 := Stack.call (by exact hst3) hb4 hi4
    go_wp2_with (first | (at_builtin; refine app rfl _ _ rfl rfl rfl (by exact hst5) (by decide) (by decide) ?_; intro v6 w6 hst6) | (at_builtin; refine app rfl _ _ rfl rfl rfl (by exact (hst4.lit [-1] _ _ rfl rfl (by decide))) (by decide) (by decide) ?_; intro v5 w5 hst5))
    go_ret
    exact ⟨_, rfl, hst6.top, hst6.bel⟩
  · go_enter Tryd.func22, Tryd.ntmps22
    go_wp2_with fail
    refine (Down _ _ 25 6 _ rfl rfl (by decide) (by decide)).mono ?_
    rintro e w1 ⟨v1, rfl, hi1, hb1⟩
    have hst1 := Stack.call (by exact (hst0.lit [31, 7] _ _ rfl rfl (by decide))) hb1 hi1
    go_wp2_with (first | (at_builtin; refine app rfl _ _ rfl rfl rfl (by exact hst1) (by decide) (by decide) ?_; intro v2 w2 hst2))
    go_wp2_with fail
    refine (Down _ _ 8 4 _ rfl rfl (by decide) (by decide)).mono ?_
    rintro e w3 ⟨v3, rfl, hi3, hb3⟩
    have hst3 := Stack.call (by exact hst2) hb3 hi3
    go_wp2_with (first | (at_builtin; refine app rfl _ _ rfl rfl rfl (by exact hst4) (by decide) (by decide) ?_; intro v5 w5 hst5) | (at_builtin; refine app rfl _ _ rfl rfl rfl (by exact (hst3.lit [-1] _ _ rfl rfl (by decide))) (by decide) (by decide) ?_; intro v4 w4 hst4))
    go_ret
    exact ⟨_, rfl, hst5.top, hst5.bel⟩
  · go_enter Tryd.func22, Tryd.ntmps22
    go_wp2_with fail
    refine (Down _ _ 20 12 _ rfl rfl (by decide) (by decide)).mono ?_
    rintro e w1 ⟨v1, rfl, hi1, hb1⟩
    have hst1 := Stack.call (by exact hst0) hb1 hi1
    go_wp2
    go_ret
    exact ⟨_, rfl, hst1.top, hst1.bel⟩
  · go_enter Tryd.func22, Tryd.ntmps22
    go_wp2_with fail
    refine (Down _ _ 25 7 _ rfl rfl (by decide) (by decide)).mono ?_
    rintro e w1 ⟨v1, rfl, hi1, hb1⟩
    have hst1 := Stack.call (by exact hst0) hb1 hi1
    go_wp2_with fail
    refine (Down _ _ 7 5 _ rfl rfl (by decide) (by decide)).mono ?_
    rintro e w2 ⟨v2, rfl, hi2, hb2⟩
    have hst2 := Stack.call (by exact hst1) hb2 hi2
    go_wp2_with (first | (at_builtin; refine app rfl _ _ rfl rfl rfl (by exact hst2) (by decide) (by decide) ?_; intro v3 w3 hst3))
    go_ret
    exact ⟨_, rfl, hst3.top, hst3.bel⟩
  · go_enter Tryd.func22, Tryd.ntmps22
    go_wp2_with fail
    refine (Down _ _ 20 12 _ rfl rfl (by decide) (by decide)).mono ?_
    rintro e w1 ⟨v1, rfl, hi1, hb1⟩
    have hst1 := Stack.call (by exact hst0) hb1 hi1
    go_wp2
    go_ret
    exact ⟨_, rfl, hst1.top, hst1.bel⟩
  · go_enter Tryd.func22, Tryd.ntmps22
    go_wp2_with fail
    refine (Down _ _ 20 5 _ rfl rfl (by decide) (by decide)).mono ?_
    rintro e w1 ⟨v1, rfl, hi1, hb1⟩
    have hst1 := Stack.call (by exact hst0) hb1 hi1
    go_wp2
    go_ret
    exact ⟨_, rfl, hst1.top, hst1.bel⟩
  · go_enter Tryd.func22, Tryd.ntmps22
    go_wp2
    go_ret
    exact ⟨_, rfl, IntsAt.nil _ _, Below.refl _ _⟩
  · go_enter Tryd.func22, Tryd.ntmps22
    go_wp2
    go_ret
    exact ⟨_, rfl, IntsAt.nil _ _, Below.refl _ _⟩

/-- the bits of a number, each where a list has it -/
def bsum (v : Int) : List Int → Int
  | [] => 0
  | i :: t => (if 0 ≤ i then v / 2 ^ t.length % 2 * 2 ^ i.toNat else 0) + bsum v t
theorem bsum_dn (v : Int) (l n : Nat) (t : List Int) : bsum v (dn l n ++ t) = fld v t.length n * 2 ^ l + bsum v t := by
  induction n with
  | zero => rw [fld_zero]; simp [dn]
  | succ n ih =>
    show (if (0 : Int) ≤ ((l + n : Nat) : Int) then v / 2 ^ (dn l n ++ t).length % 2 * 2 ^ ((l + n : Nat) : Int).toNat else 0) + bsum v (dn l n ++ t) = _
    have e1 : (2 : Int) ^ (l + n) = 2 ^ l * 2 ^ n := Int.pow_add 2 l n
    rw [ih, if_pos (by omega), fld_succ, List.length_append, dn_length, Int.toNat_natCast, Nat.add_comm n t.length, Int.add_mul, e1]
    generalize v / 2 ^ (t.length + n) % 2 = b
    have e2 : b * (2 ^ l * 2 ^ n) = 2 ^ n * b * 2 ^ l := by rw [Int.mul_comm (2 ^ l), ← Int.mul_assoc, Int.mul_comm b]
    omega
theorem bsum_nonneg (v : Int) (l : List Int) : 0 ≤ bsum v l := by
  induction l with
  | nil => simp [bsum]
  | cons i t ih =>
    unfold bsum
    split
    · have : 0 ≤ v / 2 ^ t.length % 2 * 2 ^ i.toNat := Int.mul_nonneg (by omega) (Int.le_of_lt (p2pos _))
      omega
    · omega
theorem bsum_laid (f v : Int) (f0 : 1 ≤ f) (f1 : f ≤ 9) : bsum v (plc f) = laidV f v := by
  have hc : f = 1 ∨ f = 2 ∨ f = 3 ∨ f = 4 ∨ f = 5 ∨ f = 6 ∨ f = 7 ∨ f = 8 ∨ f = 9 := by omega
  have s : ∀ k : Nat, v / 2 ^ k % 2 = fld v k 1 := fun k => rfl
  rcases hc with rfl | rfl | rfl | rfl | rfl | rfl | rfl | rfl | rfl
  · show bsum v (dn 12 20 ++ [-1, -1, -1, -1, -1, -1, -1, -1, -1, -1, -1, -1]) = fld v 12 20 * 4096
    rw [bsum_dn]; simp [bsum]
  · show bsum v ([31] ++ (dn 12 8 ++ ([20] ++ (dn 21 10 ++ [-1])))) = fld v 1 10 * 2097152 + fld v 11 1 * 1048576 + fld v 12 8 * 4096 + fld v 20 1 * 2147483648
    rw [List.singleton_append, bsum, bsum_dn, List.singleton_append, bsum, bsum_dn, s, s]; simp [bsum, dn_length]; omega
  · show bsum v ([31, 7] ++ (dn 25 6 ++ (dn 8 4 ++ [-1]))) = fld v 1 4 * 256 + fld v 5 6 * 33554432 + fld v 11 1 * 128 + fld v 12 1 * 2147483648
    rw [List.cons_append, bsum, List.cons_append, bsum, List.nil_append, bsum_dn, bsum_dn, s, s]; simp [bsum, dn_length]; omega
  · show bsum v (dn 20 12) = fld v 0 12 * 1048576
    rw [← List.append_nil (dn 20 12), bsum_dn]; simp [bsum]
  · show bsum v (dn 25 7 ++ dn 7 5) = fld v 0 5 * 128 + fld v 5 7 * 33554432
    rw [bsum_dn, ← List.append_nil (dn 7 5), bsum_dn]; simp [bsum, dn_length]; omega
  · show bsum v (dn 20 12) = fld v 0 12 * 1048576
    rw [← List.append_nil (dn 20 12), bsum_dn]; simp [bsum]
  · show bsum v (dn 20 5) = fld v 0 5 * 1048576
    rw [← List.append_nil (dn 20 5), bsum_dn]; simp [bsum]
  · rfl
  · rfl
end Go.Proofs.YtabdfbghhkpoeaaDoor.R8
