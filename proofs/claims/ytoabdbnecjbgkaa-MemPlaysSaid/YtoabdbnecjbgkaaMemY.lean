/- What typecaseref02.Load and Store compute. -/
import Derived.Test.YtoabdbnecjbgkaaMemV
import Derived.Test.YtoabdbnecjbgkaaMemX
namespace Go.Proofs.Ytoabdbnecjbgkaa.M
set_option linter.unusedVariables false
set_option linter.unusedSimpArgs false
open Go.ChangeShapes Go.WideShapes Go.ChangeAt Go.RowKit Go.Proofs.Ytoabdbnecjbgkaa.P Go.Proofs.Ytoabdbnecjbgkaa.W

theorem rd_byt : ∀ {l : List (Int × Int)}, (∀ c ∈ l, okC c) → Byt (rd l)
  | [], _ => fun a => by show (0 : Int) ≤ 0 ∧ (0 : Int) < 256; omega
  | c :: t, h => fun a => by
    show 0 ≤ (if c.1 = a then c.2 else rd t a) ∧ (if c.1 = a then c.2 else rd t a) < 256
    split
    · exact (h c (by simp)).2
    · exact rd_byt (fun d hd => h d (by simp [hd])) a
/-- the number from its lowest byte on -/
theorem ld_front (M : Int → Int) (a : Int) (m : Nat) : ldN M a (m + 1) = M (adr a 0) + 256 * ldN M (adr a 1) m := by
  induction m with
  | zero => show ldN M a 0 + M (adr a 0) * 256 ^ 0 = _; unfold ldN; rw [Int.pow_zero]; omega
  | succ m ih =>
    show ldN M a (m + 1) + M (adr a (m + 1)) * 256 ^ (m + 1) = M (adr a 0) + 256 * (ldN M (adr a 1) m + M (adr (adr a 1) m) * 256 ^ m)
    rw [ih, adr_add, p256succ, show 1 + m = m + 1 by omega]
    generalize M (adr a (m + 1)) = b
    generalize ldN M (adr a 1) m = x
    generalize (256 : Int) ^ m = q
    rw [Int.mul_add, ← Int.mul_assoc, ← Int.mul_assoc, Int.mul_comm b 256]
    omega
theorem ld_step (M : Int → Int) (a : Int) (k N : Nat) (h : k < N) : ldN M (adr a k) (N - k) = 256 * ldN M (adr a (k + 1)) (N - (k + 1)) + M (adr a k) := by
  have e : N - k = (N - (k + 1)) + 1 := by omega
  rw [e, ld_front, adr_add, adr_add, Nat.add_zero]
  omega
set_option maxRecDepth 100000 in
set_option maxHeartbeats 1000000 in
theorem refLoad (w : World) (p : Nat) (l : List (Int × Int)) (a n : Int) (h : RefAt w p l) (hl : l.length < 5000000000) (ha : okA a) (hn : -9223372036854775808 ≤ n ∧ n < 9223372036854775808) :
    Calls Try.prog 19 #[.pointer (some ⟨p, 0, none⟩), .int .u32 a, .int .i64 n] w fun e w' => e = .returned (.int .u32 (ldN (rd l) a (hl4 n))) ∧ w = w' := by
  have hN := hl4_le n
  have HB := hid (rd_byt h.ok)
  have HA := hid (fun k => At w p l (adr a k) h hl)
  have hstart : ldN (rd l) (adr a (hl4 n)) (hl4 n - hl4 n) = 0 := by rw [Nat.sub_self]; rfl
  have HE : Hid (ldN (rd l) (adr a 0) (hl4 n - 0) = ldN (rd l) a (hl4 n)) := hid (by rw [adr_self ha]; rfl)
  go_enter Try.func19, Try.ntmps19
  go_wp2_with (go_at_call 32; refine (Held n _).mono ?_; rintro e w' ⟨rfl, rfl⟩)
  generalize hNN : hl4 n = N at *
  have HNN := hid hNN
  clear hNN
  have HS := hid hstart
  clear hstart
  go_loop [7, 8] (fun v i => ∃ k : Nat, k ≤ N ∧ v = .int .u32 (ldN (rd l) (adr a k) (N - k)) ∧ i = .int .i64 ((k : Int) - 1)) (fun v i => (intOf i + 1).toNat)
  case atStart => exact ⟨N, by omega, by rw [HS.out], rfl⟩
  case round =>
    obtain ⟨k, hk, rfl, rfl⟩ := hrel
    cases k with
    | zero =>
      go_wp2
      go_ret
      exact ⟨by rw [HNN.out, ← HE.out]; rfl, rfl⟩
    | succ k =>
      have hbd := ldN_bd HB.out (adr a (k + 1)) (N - (k + 1))
      have hbk := HB.out (adr a k)
      have hp : (256 : Int) ^ (N - (k + 1)) ≤ 16777216 := by
        have hc : N - (k + 1) = 0 ∨ N - (k + 1) = 1 ∨ N - (k + 1) = 2 ∨ N - (k + 1) = 3 := by omega
        rcases hc with e | e | e | e <;> rw [e] <;> decide
      have HST := hid (ld_step (rd l) a k N (by omega))
      have hu : ldN (rd l) (adr a (k + 1)) (N - (k + 1)) < 16777216 := by omega
      have hu0 := hbd.1
      have e1 : ((k + 1 : Nat) : Int) - 1 = k := by omega
      have HAK := hid (HA.out k)
      clear hbd hp
      rw [e1]
      generalize ldN (rd l) (adr a (k + 1)) (N - (k + 1)) = v at *
      generalize hbb : rd l (adr a k) = b at *
      go_wp2_with (go_at_call 23; refine HAK.out.mono ?_; rintro e w' ⟨rfl, rfl⟩)
      go_round
      case rel => exact ⟨k, by omega, by rw [HST.out], rfl⟩
      case measure => simp [intOf] <;> omega
set_option maxRecDepth 100000 in
set_option maxHeartbeats 1000000 in
theorem refStore (w : World) (p : Nat) (l : List (Int × Int)) (a n v : Int) (h : RefAt w p l) (hl : l.length < 4999999990) (ha : okA a) (hn : -9223372036854775808 ≤ n ∧ n < 9223372036854775808) (hv : 0 ≤ v ∧ v < 4294967296) :
    Calls Try.prog 16 #[.pointer (some ⟨p, 0, none⟩), .int .u32 a, .int .i64 n, .int .u32 v] w fun e w' => e = .returned (.tuple #[]) ∧ ∃ m, RefAt w' p m ∧ rd m = stN (rd l) a v (hl4 n) ∧ m.length ≤ l.length + 4 ∧ Below p w w' ∧ ∀ k, k < w.heap.size → Apart w p k → w'.heap[k]? = w.heap[k]? ∧ Apart w' p k := by
  have hN := hl4_le n
  have HH := hid h
  have HHE := hid (fun w => Held n w)
  have HNN : Hid (hl4 n = hl4 n) := hid rfl
  have h0 : v / 256 ^ 0 = v := by rw [Int.pow_zero, Int.ediv_one]
  have H0 := hid h0
  clear h h0
  go_enter Try.func16, Try.ntmps16
  go_wp2
  generalize hNN : hl4 n = N at HHE hN
  have HNN := hid hNN
  clear hNN
  go_loopw [8, 3] (fun i x wr => ∃ (k : Nat) (m : List (Int × Int)), k ≤ N ∧ i = .int .i64 k ∧ x = .int .u32 (v / 256 ^ k) ∧ RefAt wr p m ∧ rd m = stN (rd l) a v k ∧ m.length ≤ l.length + k ∧ Below p w wr ∧ (∀ k, k < w.heap.size → Apart w p k → wr.heap[k]? = w.heap[k]? ∧ Apart wr p k)) (fun i x wr => N - (intOf i).toNat)
  case atStart => exact ⟨0, l, by omega, rfl, by rw [H0.out], HH.out, rfl, by omega, Below.refl _ _, fun k _ h => ⟨rfl, h⟩⟩
  case round =>
    obtain ⟨k, m, hk, rfl, rfl, hR, hrd, hml, hbw, hap⟩ := hrel
    have HAP := hid hap
    clear hap
    have HRR := hid hR
    have HRD := hid hrd
    have HBW := hid hbw
    clear hR hrd hbw
    have hx0 : 0 ≤ v / 256 ^ k := Int.ediv_nonneg hv.1 (Int.le_of_lt (p256pos k))
    have hx1 : v / 256 ^ k < 4294967296 := Int.lt_of_le_of_lt (Int.ediv_le_self _ hv.1) hv.2
    have HX : Hid (v / 256 ^ (k + 1) = v / 256 ^ k / 256) := hid (by rw [p256succ, Int.mul_comm, Int.ediv_ediv_of_nonneg (Int.le_of_lt (p256pos k))])
    by_cases hk2 : k < N
    · have hkN : (k : Int) < N := by omega
      have HP := hid (Put wr p m (adr a k) (v / 256 ^ k % 256) HRR.out (by omega) (adr_ok a k) (by omega))
      have HST : Hid (upd (stN (rd l) a v k) (adr a k) (v / 256 ^ k % 256) = stN (rd l) a v (k + 1)) := hid rfl
      generalize hxx : v / 256 ^ k = x at *
      go_wp2_with (first
        | (go_at_call 32; refine (HHE.out _).mono ?_; rintro e w' ⟨rfl, rfl⟩)
        | (go_at_call 18; refine HP.out.mono ?_; rintro e w' ⟨rfl, m', hR', hrd', hml', hbp, hap'⟩))
      go_roundw
      case rel => exact ⟨k + 1, m', by omega, by go_num, by rw [HX.out], hR', by rw [hrd', HRD.out, HST.out], by omega, HBW.out.trans hbp, fun k' hk' ha' => by
        obtain ⟨g1, g2⟩ := HAP.out k' hk' ha'
        have hsz : k' < wr.heap.size := by
          have : w.heap[k']? ≠ none := by rw [Array.getElem?_eq_getElem hk']; simp
          rw [← g1] at this
          exact Nat.lt_of_not_le fun hh => this (Array.getElem?_eq_none hh)
        obtain ⟨g3, g4⟩ := hap' k' hsz g2
        exact ⟨g3.trans g1, g4⟩⟩
      case measure => simp [intOf]; omega
    · obtain rfl : k = N := by omega
      generalize v / 256 ^ k = x at *
      go_wp2_with (go_at_call 32; refine (HHE.out _).mono ?_; rintro e w' ⟨rfl, rfl⟩)
      go_end0
      exact ⟨rfl, m, HRR.out, by rw [HRD.out, HNN.out], by omega, HBW.out, HAP.out⟩
end Go.Proofs.Ytoabdbnecjbgkaa.M
