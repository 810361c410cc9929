/- What the functions of package word compute: one contract each. -/
import Derived.Test.YtfhhjbhoiccbjaaRows
import Derived.Test.YtfhhjbhoiccbjaaWordP
import Derived.WalkKit
import Derived.ProofKit
import Derived.OpenShut
import Derived.Deep.QuietTactic
import Derived.BigQuiet
namespace Go.Proofs.Ytfhhjbhoiccbjaa.W
set_option linter.unusedVariables false
open Go.ChangeShapes Go.WideShapes Go.ChangeAt Go.RowKit Go.Proofs.Ytfhhjbhoiccbjaa.P

theorem ret_int {k : IntKind} {a b : Int} (h : a = b) : Ending.returned (.int k a) = .returned (.int k b) := by rw [h]
theorem ret_bool {a b : Bool} (h : a = b) : Ending.returned (.bool a) = .returned (.bool b) := by rw [h]

theorem below_drewN {B : Nat} {a w : World} (h : Below B a w) (n : Nat) : Below B a (w.drewN n) := h.trans ⟨rfl, rfl, rfl, Nat.le_refl _, fun _ _ => rfl⟩

theorem within (n a b : Int) (w : World) :
    Calls Try.prog 27 #[.int .i64 n, .int .i64 a, .int .i64 b] w fun e w' => e = .returned (.int .i64 (min (max n a) b)) ∧ w = w' := by
  go_enter Try.func27, Try.ntmps27
  go_wp2
  all_goals (go_ret; exact ⟨ret_int (by first | omega | simp ; omega), rfl⟩)

theorem mask (n : Int) (w : World) :
    Calls Try.prog 26 #[.int .i64 n] w fun e w' => e = .returned (.int .u32 (2 ^ held n - 1)) ∧ w = w' := by
  have hb : (1 : Int) ≤ 2 ^ held n := by have := p2pos (held n); omega
  have hc : (2 : Int) ^ held n ≤ 4294967296 := by
    have h1 : (2 : Int) ^ held n ≤ 2 ^ 32 := p2le (held_le n)
    have h3 : (2 : Int) ^ 32 = 4294967296 := by decide
    omega
  go_enter Try.func26, Try.ntmps26
  go_wp2_with (go_at_call 27; refine (within _ _ _ _).mono ?_; rintro e w' ⟨rfl, rfl⟩)
  go_ret
  exact ⟨ret_int (by
    show ((2 : Int) ^ held n % 4294967296 - 1) % 4294967296 = _
    generalize (2 : Int) ^ held n = q at *
    omega), rfl⟩

theorem Sign (x n : Int) (w : World) :
    Calls Try.prog 15 #[.int .u32 x, .int .i64 n] w fun e w' => e = .returned (.int .i32 (sgn x (held n))) ∧ w = w' := by
  go_enter Try.func15, Try.ntmps15
  go_wp2_with (go_at_call 27; refine (within _ _ _ _).mono ?_; rintro e w' ⟨rfl, rfl⟩)
  · have h : (min (max n 0) 32 == 0) = true := by assumption
    go_ret
    exact ⟨ret_int (by
      have : held n = 0 := by unfold held; simp at h; omega
      rw [this, sgn_zero]), rfl⟩
  · have h : (min (max n 0) 32 == 0) = false := by assumption
    go_ret
    exact ⟨ret_int (by
      have h1 : 1 ≤ held n := by unfold held; simp at h; omega
      have h2 := held_le n
      have h3 : (32 - min (max n 0) 32).toNat = 32 - held n := by unfold held; omega
      show wrap32 (x * 2 ^ (32 - min (max n 0) 32).toNat % 4294967296) / 2 ^ (32 - min (max n 0) 32).toNat = _
      rw [h3, sgn_shift x _ h1 h2]), rfl⟩

theorem Lo (x : Int) (w : World) :
    Calls Try.prog 12 #[.int .u32 x] w fun e w' => e = .returned (.int .i32 (sgn x 12)) ∧ w = w' := by
  go_enter Try.func12, Try.ntmps12
  go_wp2_with (go_at_call 15; refine (Sign _ _ _).mono ?_; rintro e w' ⟨rfl, rfl⟩)
  go_ret
  exact ⟨rfl, rfl⟩

theorem Hi (x : Int) (w : World) :
    Calls Try.prog 10 #[.int .u32 x] w fun e w' => e = .returned (.int .u32 ((x - sgn x 12) % 4294967296 / 4096)) ∧ w = w' := by
  go_enter Try.func10, Try.ntmps10
  go_wp2_with (go_at_call 12; refine (Lo _ _).mono ?_; rintro e w' ⟨rfl, rfl⟩)
  go_ret
  exact ⟨ret_int (by simp), rfl⟩

theorem Field (x l n : Int) (w : World) (h0 : 0 ≤ x) (h1 : x < 4294967296) :
    Calls Try.prog 14 #[.int .u32 x, .int .i64 l, .int .i64 n] w fun e w' => e = .returned (.int .u32 (fld x (max l 0).toNat (held n))) ∧ ∃ n, w' = w.drewN n := by
  go_enter Try.func14, Try.ntmps14
  by_cases hl : 31 < l
  · go_wp2
    go_ret
    exact ⟨ret_int (by rw [fld_big x _ _ h0 h1 (by omega)]), 0, rfl⟩
  · go_wp2_with fail
    go_quiet ((go_at_call 26; exact Calls.quiet_of_same ((mask _ _).mono fun _ _ h => ⟨h.1, h.2.symm⟩)))
    go_wp2
    all_goals go_ret
    · have h : l < 0 := by assumption
      refine ⟨ret_int ?_, _, rfl⟩
      have e : (max l 0).toNat = 0 := by omega
      rw [e]
      show bits .and .u32 x (2 ^ held n - 1) = _
      rw [and_maskI x _ h0 h1 (held_le n)]; simp [fld]
    · have h : 0 ≤ l := by assumption
      refine ⟨ret_int ?_, _, rfl⟩
      have e : (max l 0).toNat = l.toNat := by omega
      rw [e]
      show bits .and .u32 (x / 2 ^ l.toNat) (2 ^ held n - 1) = _
      have hb := div_bd x l.toNat h0 h1
      rw [and_maskI _ _ hb.1 hb.2 (held_le n)]; rfl

theorem Fits (v n : Int) (w : World) :
    Calls Try.prog 17 #[.int .i32 v, .int .i64 n] w fun e w' => e = .returned (.bool (sgn (v % 4294967296) (held n) == v)) ∧ w = w' := by
  go_enter Try.func17, Try.ntmps17
  go_wp2_with (go_at_call 15; refine (Sign _ _ _).mono ?_; rintro e w' ⟨rfl, rfl⟩)
  go_ret
  exact ⟨rfl, rfl⟩

theorem wide (x : Int) (s : Bool) (w : World) (h0 : 0 ≤ x) (h1 : x < 4294967296) :
    Calls Try.prog 29 #[.int .u32 x, .bool s] w fun e w' => e = .returned (.int .i64 (wid x s)) ∧ w = w' := by
  go_enter Try.func29, Try.ntmps29
  cases s
  · go_wp2
    go_ret
    exact ⟨ret_int (by simp [wid]), rfl⟩
  · go_wp2
    go_ret
    refine ⟨ret_int ?_, rfl⟩
    have := wid_bd_s x h0 h1
    rw [wrap32_wid x h0 h1]
    exact IntWalk.wrap64_in _ (by omega)

theorem MulHigh (a b : Int) (sa sb : Bool) (w : World) (a0 : 0 ≤ a) (a1 : a < 4294967296) (b0 : 0 ≤ b) (b1 : b < 4294967296) :
    Calls Try.prog 20 #[.int .u32 a, .int .u32 b, .bool sa, .bool sb] w fun e w' => e = .returned (.int .u32 (mulh a b sa sb)) ∧ w = w' := by
  have hp : 0 ≤ a * b ∧ a * b ≤ 18446744073709551615 := by
    have := mul_bd (x := a) (y := b) (X := 4294967295) (Y := 4294967295) (by omega) (by omega) (by omega) (by omega)
    have := Int.mul_nonneg a0 b0
    omega
  have ha := wid_bd a sa a0 a1
  have hb := wid_bd b sb b0 b1
  have hq : (sa = true ∨ sb = true) → -9223372036854775808 ≤ wid a sa * wid b sb ∧ wid a sa * wid b sb ≤ 9223372036854775807 := by
    intro h
    refine mul_fit ha.1 ha.2 hb.1 hb.2 ?_
    rcases h with rfl | rfl
    · exact .inl (wid_bd_s a a0 a1).2
    · exact .inr (wid_bd_s b b0 b1).2
  go_enter Try.func20, Try.ntmps20
  cases sa
  · cases sb
    · clear hq
      go_wp2
      go_ret
      refine ⟨ret_int ?_, rfl⟩
      simp [mulh, wid]
      omega
    · have hq := hq (.inr rfl)
      go_wp2_with (go_at_call 29; refine (wide _ _ _ (by assumption) (by assumption)).mono ?_; rintro e w' ⟨rfl, rfl⟩)
      go_ret
      refine ⟨ret_int ?_, rfl⟩
      simp [mulh]
  · have hq := hq (.inl rfl)
    go_wp2_with (go_at_call 29; refine (wide _ _ _ (by assumption) (by assumption)).mono ?_; rintro e w' ⟨rfl, rfl⟩)
    go_ret
    refine ⟨ret_int ?_, rfl⟩
    simp [mulh]

theorem Div (a b : Int) (s : Bool) (w : World) (a0 : 0 ≤ a) (a1 : a < 4294967296) (b0 : 0 ≤ b) (b1 : b < 4294967296) :
    Calls Try.prog 18 #[.int .u32 a, .int .u32 b, .bool s] w fun e w' => e = .returned (.int .u32 (quo a b s)) ∧ w = w' := by
  go_enter Try.func18, Try.ntmps18
  by_cases hb : b = 0
  · subst hb
    go_wp2
    go_ret
    exact ⟨ret_int (by simp [quo]), rfl⟩
  · have hw : ¬ wrap32 b = 0 := by unfold wrap32; omega
    cases s
    · go_wp2
      go_ret
      exact ⟨ret_int (quo_un a b hb a0 a1 b0).symm, rfl⟩
    · by_cases ho : a = 2147483648 ∧ b = 4294967295
      · obtain ⟨rfl, rfl⟩ := ho
        go_wp2
        go_ret
        exact ⟨ret_int (by simp [quo, wid]), rfl⟩
      · have key := quo_si a b hb a0 a1 b0 b1
        by_cases ha : a = 2147483648
        · subst ha
          go_wp2
          go_ret
          exact ⟨rfl, rfl⟩
        · go_wp2
          go_ret
          exact ⟨ret_int key, rfl⟩

theorem Rem (a b : Int) (s : Bool) (w : World) (a0 : 0 ≤ a) (a1 : a < 4294967296) (b0 : 0 ≤ b) (b1 : b < 4294967296) :
    Calls Try.prog 19 #[.int .u32 a, .int .u32 b, .bool s] w fun e w' => e = .returned (.int .u32 (rem a b s)) ∧ w = w' := by
  go_enter Try.func19, Try.ntmps19
  by_cases hb : b = 0
  · subst hb
    go_wp2
    go_ret
    exact ⟨ret_int (by simp [rem]), rfl⟩
  · have hw : ¬ wrap32 b = 0 := by unfold wrap32; omega
    cases s
    · go_wp2
      go_ret
      exact ⟨ret_int (rem_un a b hb a0 b0 b1).symm, rfl⟩
    · by_cases ho : a = 2147483648 ∧ b = 4294967295
      · obtain ⟨rfl, rfl⟩ := ho
        go_wp2
        go_ret
        exact ⟨ret_int (by simp [rem, wid]), rfl⟩
      · have key := rem_si a b hb a0 a1 b0 b1
        by_cases ha : a = 2147483648
        · subst ha
          go_wp2
          go_ret
          exact ⟨rfl, rfl⟩
        · go_wp2
          go_ret
          exact ⟨ret_int key, rfl⟩
end Go.Proofs.Ytfhhjbhoiccbjaa.W
