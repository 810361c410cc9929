/- What the functions of package mem compute: a byte, some bytes. -/
import Derived.Test.YtoabdbnecjbgkaaMemD
import Derived.Test.YtoabdbnecjbgkaaMemA
import Derived.BigQuiet
import Derived.Deep.QuietTactic
import Derived.Deep.Cut
namespace Go.Proofs.Ytoabdbnecjbgkaa.M
set_option linter.unusedVariables false
set_option linter.unusedSimpArgs false
open Go.ChangeShapes Go.WideShapes Go.ChangeAt Go.RowKit Go.Proofs.Ytoabdbnecjbgkaa.P Go.Proofs.Ytoabdbnecjbgkaa.W Go.Maps

theorem ld_or {M : Int → Int} (hM : Byt M) (a : Int) (k : Nat) (hk : k < 4) {c : Int} (hc : c = M (adr a k)) :
    bits .or .u32 (ldN M a k) (c % 4294967296 * 2 ^ (8 * k) % 4294967296) = ldN M a (k + 1) := by
  subst hc
  obtain ⟨h0, h1⟩ := ldN_bd hM a k
  obtain ⟨g0, g1⟩ := ldN_bd hM a (k + 1)
  obtain ⟨b0, b1⟩ := hM (adr a k)
  have hstep : ldN M a (k + 1) = ldN M a k + M (adr a k) * 256 ^ k := rfl
  have hp : (256 : Int) ^ k = 2 ^ (8 * k) := by rw [Int.pow_mul]; rfl
  have hp4 : (256 : Int) ^ (k + 1) ≤ 4294967296 := by
    have hc : k = 0 ∨ k = 1 ∨ k = 2 ∨ k = 3 := by omega
    rcases hc with rfl | rfl | rfl | rfl <;> decide
  have hpk : (256 : Int) ^ k ≤ 256 ^ (k + 1) := by rw [p256succ]; have := p256pos k; omega
  rw [hp] at hstep h1 hpk
  generalize ldN M a (k + 1) = y at *
  generalize ldN M a k = x at *
  generalize M (adr a k) = b at *
  have hb : b % 4294967296 = b := by omega
  have hq0 : 0 ≤ b * 2 ^ (8 * k) := Int.mul_nonneg b0 (Int.le_of_lt (p2pos _))
  have hq : b * 2 ^ (8 * k) % 4294967296 = b * 2 ^ (8 * k) := by
    rw [Int.emod_eq_of_lt hq0 (by omega)]
  rw [hb, hq, u32_or _ _ h0 (by omega) hq0 (by omega), hstep]
  have e2 : (b * 2 ^ (8 * k)).toNat = b.toNat <<< (8 * k) := by
    rw [Nat.shiftLeft_eq]
    apply Int.ofNat_inj.1
    rw [Int.toNat_of_nonneg hq0]
    push_cast
    rw [Int.toNat_of_nonneg b0]
  have hx : x.toNat < 2 ^ (8 * k) := by
    have : (x.toNat : Int) < ((2 ^ (8 * k) : Nat) : Int) := by rw [Int.toNat_of_nonneg h0]; exact_mod_cast h1
    exact_mod_cast this
  rw [e2, Nat.or_comm, ← Nat.shiftLeft_add_eq_or_of_lt hx, ← e2]
  push_cast
  rw [Int.toNat_of_nonneg hq0, Int.toNat_of_nonneg h0, Int.add_comm]
set_option maxRecDepth 100000 in
theorem put (w : World) (p B n : Nat) (M : Int → Int) (a b : Int) (h : MemAt w p B n M) (ha : okA a) (hb : 0 ≤ b ∧ b < 256) (hn : n < maxLen) :
    Calls Try.prog 28 #[.pointer (some ⟨p, 0, none⟩), .int .u32 a, .int .u8 b] w fun e w' => e = .returned (.tuple #[]) ∧ MemAt w' p B (n + 1) (upd M a b) ∧ w.grownBy w' (some B) := by
  obtain ⟨c0, byt, D, hown, hD⟩ := id h
  have hne := h.ne
  have hkey := keyK ha
  have H0 := hid (hD.del a)
  have H1 := hid (hD.put a b)
  have HB := hid (byt.upd (a := a) (b := b) hb)
  have HH := hid h
  have HE := elemE hb
  clear h hD byt
  go_enter Try.func28, Try.ntmps28
  go_wp2_with (first
    | (at_delete; refine wpList_delete_own _ rfl _ _ 58 23 rfl 5 lawK Try.underlying58 _ B n D rfl hown _ _ rfl hkey ?_; intro w1 hown1 hturn1)
    | (at_mapUpdate; refine wpList_mapUpdate_in _ rfl _ _ _ 58 rfl 23 5 lawK Try.underlying58 _ B n D rfl hown hn _ _ _ rfl rfl hkey _ [] HE ?_; intro w1 hown1 hturn1))
  · have hb0 : b = 0 := by simpa using (by assumption : (b == 0) = true)
    subst hb0
    refine bodyPost_ret (results_none rfl _ _ _) rfl ?_
    exact ⟨rfl, ⟨(cell_grown hturn1.grown HH.out.ltp (by simpa using hne)).trans c0, HB.out, _, hown1.mono (by omega), H0.out⟩, hturn1.grown⟩
  · have hb0 : b ≠ 0 := by simpa using (by assumption : (b == 0) = false)
    go_end0
    exact ⟨rfl, ⟨(cell_grown hturn1.grown HH.out.ltp (by simpa using hne)).trans c0, HB.out, _, hown1, H1.out hb0⟩, hturn1.grown⟩
set_option maxRecDepth 100000 in
set_option maxHeartbeats 1000000 in
theorem Load (w : World) (p B m : Nat) (M : Int → Int) (a n : Int) (h : MemAt w p B m M) (ha : okA a) (hn : -9223372036854775808 ≤ n ∧ n < 9223372036854775808) :
    Calls Try.prog 13 #[.pointer (some ⟨p, 0, none⟩), .int .u32 a, .int .i64 n] w fun e w' => e = .returned (.int .u32 (ldN M a (hl4 n))) ∧ w = w' := by
  obtain ⟨c0, byt, D, hown, hD⟩ := id h
  have HD := hid hD
  have HY := hid byt
  clear h hD byt
  have hl := hl4_le n
  have hlo : (0 : Int) ≤ hl4 n := by omega
  have hn4 : (n ≤ 4 ∧ ((hl4 n : Int) = n ∨ (n < 0 ∧ hl4 n = 0))) ∨ (4 < n ∧ hl4 n = 4) := by unfold hl4; omega
  rcases hn4 with ⟨h4, h5⟩ | ⟨h4, h5⟩
  all_goals
    go_enter Try.func13, Try.ntmps13
    go_wp2
    go_loop [7, 11] (fun v i => ∃ k : Nat, k ≤ hl4 n ∧ v = .int .u32 (ldN M a k) ∧ i = .int .i64 k) (fun v i => hl4 n - (intOf i).toNat)
    case atStart => exact ⟨0, by omega, rfl, rfl⟩
    case round =>
      obtain ⟨k, hk, rfl, rfl⟩ := hrel
      by_cases hk2 : k < hl4 n
      · have hbd := ldN_bd HY.out a k
        have hkey := keyK (adr_ok a k)
        have hkn : (k : Int) < n := by omega
        have hk4 : (k : Int) < 4 := by omega
        clear h4 h5 hl hlo
        go_wp2_with (at_lookup; refine wpList_lookup_own_int _ rfl _ _ 58 rfl 23 5 .u8 lawK Try.underlying58 Try.underlying5 (zeroE _) B m D rfl hown _ _ rfl hkey ?_; intro c hat hwc)
        go_round
        case rel => exact ⟨k + 1, by omega, by rw [ld_or HY.out a k (by omega) (bd_inj (hat.symm.trans (HD.out.look _ (adr_ok a k))))], by go_num⟩
        case measure => simp [intOf]; omega
      · obtain rfl : k = hl4 n := by omega
        (first | (have hx : n ≤ (hl4 n : Int) := by omega) | (have hx : (4 : Int) ≤ (hl4 n : Int) := by omega))
        go_wp2
        go_ret
        exact ⟨rfl, rfl⟩
end Go.Proofs.Ytoabdbnecjbgkaa.M
