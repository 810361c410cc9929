/- What the functions of package typecaseref01 compute: the same plain functions as those of package word. -/
import Derived.Test.YtfecjdchgckjhaaWord
namespace Go.Proofs.Ytfecjdchgckjhaa.R1
set_option linter.unusedVariables false
open Go.ChangeShapes Go.WideShapes Go.ChangeAt Go.RowKit Go.Proofs.Ytfecjdchgckjhaa.P Go.Proofs.Ytfecjdchgckjhaa.W

theorem Held (n : Int) (w : World) :
    Calls Try.prog 65 #[.int .i64 n] w fun e w' => e = .returned (.int .i64 (held n)) ∧ w = w' := by
  go_enter Try.func65, Try.ntmps65
  go_wp2
  all_goals (go_ret; exact ⟨ret_int (by unfold held; first | omega | (simp; omega)), rfl⟩)

theorem bit_end (x n : Int) (k : Nat) (h0 : 0 ≤ x) (h1 : x < 4294967296) (hk : k ≤ 40) (hn : (k : Int) ≤ max n 0) (hs : ¬ ((k : Int) < n ∧ (k : Int) < 40)) :
    x / 2 ^ k % 2 = x / 2 ^ n.toNat % 2 := by
  by_cases h : k = n.toNat
  · rw [h]
  · rw [div_big x k h0 h1 (by omega), div_big x n.toNat h0 h1 (by omega)]

theorem Bit (x n : Int) (w : World) (h0 : 0 ≤ x) (h1 : x < 4294967296) :
    Calls Try.prog 59 #[.int .u32 x, .int .i64 n] w fun e w' => e = .returned (.int .u32 (x / 2 ^ n.toNat % 2)) ∧ w = w' := by
  go_enter Try.func59, Try.ntmps59
  go_wp2
  go_loop [0, 5] (fun y i => ∃ k : Nat, k ≤ 40 ∧ (k : Int) ≤ max n 0 ∧ i = .int .i64 k ∧ y = .int .u32 (x / 2 ^ k)) (fun _ i => 40 - (intOf i).toNat)
  case atStart => exact ⟨0, by omega, by omega, rfl, by simp⟩
  case round =>
    obtain ⟨k, hk, hn, rfl, rfl⟩ := hrel
    have hb := div_bd x k h0 h1
    by_cases hs : (k : Int) < n ∧ (k : Int) < 40
    · obtain ⟨hs1, hs2⟩ := hs
      have hd := div_succ x k
      go_wp2
      go_round
      case rel => exact ⟨k + 1, by omega, by omega, by go_num, by first | rfl | (rw [← hd]) | (rw [hd])⟩
      case measure => simp [intOf]; omega
    · have he := bit_end x n k h0 h1 hk hn hs
      by_cases hs1 : (k : Int) < n
      · have hs2 : ¬ (k : Int) < 40 := fun h => hs ⟨hs1, h⟩
        go_wp2
        go_ret
        first | exact ⟨ret_int he, rfl⟩ | exact ⟨rfl, rfl⟩
      · go_wp2
        go_ret
        first | exact ⟨ret_int he, rfl⟩ | exact ⟨rfl, rfl⟩

theorem out_round (x l : Int) (k : Nat) (l0 : 0 ≤ l) (hk : k < 32) :
    (fld x l.toNat k + 2 ^ k % 4294967296 * (x / 2 ^ (l + ↑k).toNat % 2) % 4294967296) % 4294967296 = fld x l.toNat (k + 1) := by
  have e1 : (l + (k : Int)).toNat = l.toNat + k := by omega
  have hp := p2pos k
  have h2 : (2 : Int) ^ k < 2 ^ 32 := p2lt hk
  have h3 : (2 : Int) ^ 32 = 4294967296 := by decide
  have e2 : (2 : Int) ^ k % 4294967296 = 2 ^ k := Int.emod_eq_of_lt (by omega) (by omega)
  have b1 := fld_bd x l.toNat k
  have b2 := fld_lt32 x l.toNat (b := k + 1) (by omega)
  have hs := fld_succ x l.toNat k
  rw [e1, e2]
  have c : 0 ≤ 2 ^ k * (x / 2 ^ (l.toNat + k) % 2) := Int.mul_nonneg (Int.le_of_lt hp) (by omega)
  generalize 2 ^ k * (x / 2 ^ (l.toNat + k) % 2) = q at *
  omega
theorem unit_round (k : Nat) : 2 * (2 ^ k % 4294967296) % 4294967296 = (2 : Int) ^ (k + 1) % 4294967296 := by
  rw [p2succ]; omega

theorem out_round' (x l L : Int) (k : Nat) (hL : L = min (max l 0) 32) (hk : k < 32) (h0 : 0 ≤ x) (h1 : x < 4294967296) :
    (fld x (max l 0).toNat k + 2 ^ k % 4294967296 * (x / 2 ^ (L + ↑k).toNat % 2) % 4294967296) % 4294967296 = fld x (max l 0).toNat (k + 1) := by
  by_cases h : 32 < l
  · rw [div_big x (L + k).toNat h0 h1 (by omega), fld_big x _ k h0 h1 (by omega), fld_big x _ (k + 1) h0 h1 (by omega)]; simp
  · rw [show (max l 0).toNat = L.toNat by omega]; exact out_round x L k (by omega) hk

theorem Field (x l n : Int) (w : World) (h0 : 0 ≤ x) (h1 : x < 4294967296) :
    Calls Try.prog 58 #[.int .u32 x, .int .i64 l, .int .i64 n] w fun e w' => e = .returned (.int .u32 (fld x (max l 0).toNat (held n))) ∧ w = w' := by
  go_enter Try.func58, Try.ntmps58
  by_cases l0 : l < 0
  · go_wp2
    go_loop [7, 8, 9] (fun o u i => ∃ k : Nat, k ≤ held n ∧ i = .int .i64 k ∧ o = .int .u32 (fld x (max l 0).toNat k) ∧ u = .int .u32 (2 ^ k % 4294967296)) (fun _ _ i => held n - (intOf i).toNat)
    case atStart => exact ⟨0, by omega, rfl, by rw [fld_zero], rfl⟩
    case round =>
      obtain ⟨k, hk, rfl, rfl, rfl⟩ := hrel
      have hl := held_le n
      by_cases hs : k < held n
      · go_wp2_with (first | (go_at_call 65; refine (Held _ _).mono ?_; rintro e w' ⟨rfl, rfl⟩) | (go_at_call 59; refine (Bit _ _ _ h0 h1).mono ?_; rintro e w' ⟨rfl, rfl⟩))
        go_round
        case rel => exact ⟨k + 1, by omega, by go_num, congrArg _ (by have := out_round' x l 0 k (by omega) (by omega) h0 h1; simpa using this), congrArg _ (unit_round k)⟩
        case measure => simp [intOf]; omega
      · go_wp2_with (first | (go_at_call 65; refine (Held _ _).mono ?_; rintro e w' ⟨rfl, rfl⟩) | (go_at_call 59; refine (Bit _ _ _ h0 h1).mono ?_; rintro e w' ⟨rfl, rfl⟩))
        go_ret
        have : k = held n := by omega
        subst this
        exact ⟨rfl, rfl⟩
  by_cases l1 : 32 < l
  · go_wp2
    go_loop [7, 8, 9] (fun o u i => ∃ k : Nat, k ≤ held n ∧ i = .int .i64 k ∧ o = .int .u32 (fld x (max l 0).toNat k) ∧ u = .int .u32 (2 ^ k % 4294967296)) (fun _ _ i => held n - (intOf i).toNat)
    case atStart => exact ⟨0, by omega, rfl, by rw [fld_zero], rfl⟩
    case round =>
      obtain ⟨k, hk, rfl, rfl, rfl⟩ := hrel
      have hl := held_le n
      by_cases hs : k < held n
      · go_wp2_with (first | (go_at_call 65; refine (Held _ _).mono ?_; rintro e w' ⟨rfl, rfl⟩) | (go_at_call 59; refine (Bit _ _ _ h0 h1).mono ?_; rintro e w' ⟨rfl, rfl⟩))
        go_round
        case rel => exact ⟨k + 1, by omega, by go_num, congrArg _ (out_round' x l 32 k (by omega) (by omega) h0 h1), congrArg _ (unit_round k)⟩
        case measure => simp [intOf]; omega
      · go_wp2_with (first | (go_at_call 65; refine (Held _ _).mono ?_; rintro e w' ⟨rfl, rfl⟩) | (go_at_call 59; refine (Bit _ _ _ h0 h1).mono ?_; rintro e w' ⟨rfl, rfl⟩))
        go_ret
        have : k = held n := by omega
        subst this
        exact ⟨rfl, rfl⟩
  · go_wp2
    go_loop [7, 8, 9] (fun o u i => ∃ k : Nat, k ≤ held n ∧ i = .int .i64 k ∧ o = .int .u32 (fld x (max l 0).toNat k) ∧ u = .int .u32 (2 ^ k % 4294967296)) (fun _ _ i => held n - (intOf i).toNat)
    case atStart => exact ⟨0, by omega, rfl, by rw [fld_zero], rfl⟩
    case round =>
      obtain ⟨k, hk, rfl, rfl, rfl⟩ := hrel
      have hl := held_le n
      by_cases hs : k < held n
      · go_wp2_with (first | (go_at_call 65; refine (Held _ _).mono ?_; rintro e w' ⟨rfl, rfl⟩) | (go_at_call 59; refine (Bit _ _ _ h0 h1).mono ?_; rintro e w' ⟨rfl, rfl⟩))
        go_round
        case rel => exact ⟨k + 1, by omega, by go_num, congrArg _ (out_round' x l l k (by omega) (by omega) h0 h1), congrArg _ (unit_round k)⟩
        case measure => simp [intOf]; omega
      · go_wp2_with (first | (go_at_call 65; refine (Held _ _).mono ?_; rintro e w' ⟨rfl, rfl⟩) | (go_at_call 59; refine (Bit _ _ _ h0 h1).mono ?_; rintro e w' ⟨rfl, rfl⟩))
        go_ret
        have : k = held n := by omega
        subst this
        exact ⟨rfl, rfl⟩

theorem bit_top (x : Int) (h : Nat) (h1 : 1 ≤ h) : (x / 2 ^ (h - 1) % 2 = 1 ↔ ¬ 2 * (x % 2 ^ h) < 2 ^ h) := by
  obtain ⟨k, rfl⟩ : ∃ k, h = k + 1 := ⟨h - 1, by omega⟩
  have hs := fld_succ x 0 k
  have b1 := fld_bd x 0 k
  unfold fld at hs b1
  simp only [Int.pow_zero, Int.ediv_one, Nat.zero_add] at hs b1
  rw [hs, Nat.add_sub_cancel, p2succ]
  have hb : x / 2 ^ k % 2 = 0 ∨ x / 2 ^ k % 2 = 1 := by omega
  rcases hb with h | h <;> rw [h] <;> constructor <;> intro _ <;> omega

theorem held_held (n : Int) : held (held n : Int) = held n := by have := held_le n; generalize held n = h at *; unfold held; omega
theorem sgn_neg (x : Int) (h : Nat) (hl : h ≤ 32) (hn : ¬ 2 * (x % 2 ^ h) < 2 ^ h) : wrap32 (fld x 0 h - 2 ^ h) = sgn x h := by
  have b := sgn_bd x hl
  have e : sgn x h = fld x 0 h - 2 ^ h := by unfold sgn fld; rw [if_neg hn]; simp
  rw [← e]; exact IntWalk.wrap32_in _ b
theorem sgn_pos (x : Int) (h : Nat) (hl : h ≤ 32) (hn : 2 * (x % 2 ^ h) < 2 ^ h) : wrap32 (fld x 0 h) = sgn x h := by
  have b := sgn_bd x hl
  have e : sgn x h = fld x 0 h := by unfold sgn fld; rw [if_pos hn]; simp
  rw [← e]; exact IntWalk.wrap32_in _ b
theorem p2le32 {k : Nat} (h : k ≤ 32) : (2 : Int) ^ k ≤ 4294967296 := by
  have h2 : (2 : Int) ^ k ≤ 2 ^ 32 := p2le h
  have h3 : (2 : Int) ^ 32 = 4294967296 := by decide
  omega

theorem Sign (x n : Int) (w : World) (h0 : 0 ≤ x) (h1 : x < 4294967296) :
    Calls Try.prog 60 #[.int .u32 x, .int .i64 n] w fun e w' => e = .returned (.int .i32 (sgn x (held n))) ∧ w = w' := by
  go_enter Try.func60, Try.ntmps60
  have hl := held_le n
  by_cases hz : held n = 0
  · have hz0 : ((held n : Int) == 0) = true := by simp [hz]
    have HZ : Hid _ := hz
    clear hz
    go_wp2_with (go_at_call 65; refine (Held _ _).mono ?_; rintro e w' ⟨rfl, rfl⟩)
    go_ret
    exact ⟨ret_int (by rw [HZ.out, sgn_zero]), rfl⟩
  · have hz0 : ((held n : Int) == 0) = false := by simp [hz]
    have hf := fld_lt32 x 0 hl
    have hf0 := hf.1
    have hf1 := hf.2
    clear hf
    have hh := held_held n
    have hbt := bit_top x (held n) (by omega)
    by_cases hb : 2 * (x % 2 ^ held n) < 2 ^ held n
    · have hb2 : (x / 2 ^ (held n - 1) % 2 == 1) = false := by simp [hbt]; omega
      have hfin := sgn_pos x _ hl hb
      clear hbt hb
      have HF : Hid _ := hfin
      clear hfin
      go_wp2_with (first | (go_at_call 65; refine (Held _ _).mono ?_; rintro e w' ⟨rfl, rfl⟩) | (go_at_call 58; refine (Field _ _ _ _ h0 h1).mono ?_; rintro e w' ⟨rfl, rfl⟩) | (go_at_call 59; refine (Bit _ _ _ h0 h1).mono ?_; rintro e w' ⟨rfl, rfl⟩))
      go_ret
      exact ⟨ret_int HF.out, rfl⟩
    · have hb2 : (x / 2 ^ (held n - 1) % 2 == 1) = true := by simp [hbt]; omega
      have hfin := sgn_neg x _ hl hb
      clear hbt hb
      have HF : Hid _ := hfin
      clear hfin
      go_wp2_with (first | (go_at_call 65; refine (Held _ _).mono ?_; rintro e w' ⟨rfl, rfl⟩) | (go_at_call 58; refine (Field _ _ _ _ h0 h1).mono ?_; rintro e w' ⟨rfl, rfl⟩) | (go_at_call 59; refine (Bit _ _ _ h0 h1).mono ?_; rintro e w' ⟨rfl, rfl⟩))
      go_loop [6, 7] (fun u i => ∃ k : Nat, k ≤ held n ∧ i = .int .i64 k ∧ u = .int .i64 (2 ^ k)) (fun _ i => held n - (intOf i).toNat)
      case atStart => exact ⟨0, by omega, rfl, rfl⟩
      case round =>
        obtain ⟨k, hk, rfl, rfl⟩ := hrel
        have hp0 := p2pos k
        have hp1 := p2le32 (k := k) (by omega)
        by_cases hs : k < held n
        · go_wp2
          go_round
          case rel => exact ⟨k + 1, by omega, by go_num, by rw [p2succ]⟩
          case measure => simp [intOf]; omega
        · go_wp2
          go_ret
          have : k = held n := by omega
          subst this
          exact ⟨ret_int HF.out, rfl⟩

theorem halves (x b : Int) (sb : Bool) (b0 : 0 ≤ b) (b1 : b < 4294967296) (hb : Int) (hh : hb = if sb = true ∧ 2147483648 ≤ b then b / 65536 - 65536 else b / 65536) :
    (x * hb + x * (b % 65536) / 65536) / 65536 = x * wid b sb / 4294967296 := by
  have e : wid b sb = hb * 65536 + b % 65536 := by unfold wid; rw [hh]; split <;> omega
  rw [e, Int.mul_add, ← Int.mul_assoc]
  omega

end Go.Proofs.Ytfecjdchgckjhaa.R1
