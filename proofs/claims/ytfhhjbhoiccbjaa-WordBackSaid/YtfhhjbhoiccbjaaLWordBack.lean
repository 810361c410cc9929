/- For every word and every number of bits up to 32: its lowest bits, and those above, are the word together. -/
import Derived.Test.YtfhhjbhoiccbjaaRows
import Derived.WalkKit
import Derived.ProofKit
import Derived.OpenShut
import Derived.ShutString
import Derived.ChangeOld
import Derived.Below
import Derived.Test.YtfhhjbhoiccbjaaAwake01
namespace Go.Proofs.Ytfhhjbhoiccbjaa.wordBack
open Go.ChangeShapes Go.WideShapes Go.ChangeAt Go.RowKit
open Go.ChangeMaps (open_string shut_string)
set_option linter.unusedVariables false

open Go.Proofs.Ytfhhjbhoiccbjaa.P Go.Proofs.Ytfhhjbhoiccbjaa.W

theorem back (x k : Int) (h0 : 0 ≤ x) (h1 : x < 4294967296) (k0 : 0 ≤ k) (k1 : k ≤ 31) :
    bits BinOp.or IntKind.u32 (fld x 0 (held k)) (fld x (max k 0).toNat (held (32 - k)) * 2 ^ k.toNat % 4294967296) = x
    ∧ fld (fld x 0 (held k)) (max k 0).toNat (held 32) = 0 := by
  obtain ⟨K, rfl⟩ := Int.eq_ofNat_of_zero_le k0
  have e1 : held (K : Int) = K := by unfold held; omega
  have e2 : held (32 - (K : Int)) = 32 - K := by unfold held; omega
  have e3 : (max (K : Int) 0).toNat = K := by omega
  have e4 : held 32 = 32 := by decide
  rw [e1, e2, e3, e4, Int.toNat_natCast]
  have hp := p2pos K
  have f0 : fld x 0 K = x % 2 ^ K := by unfold fld; simp
  have b0 : 0 ≤ x % 2 ^ K := Int.emod_nonneg _ (Int.ne_of_gt hp)
  have b1 : x % 2 ^ K < 2 ^ K := Int.emod_lt_of_pos _ hp
  have hd := div_bd x K h0 h1
  have e : (4294967296 : Int) = 2 ^ (32 - K) * 2 ^ K := by
    rw [← Int.pow_add, show 32 - K + K = 32 by omega]; decide
  have dm := Int.mul_ediv_add_emod x (2 ^ K)
  rw [Int.mul_comm] at dm
  have hlt : x / 2 ^ K < 2 ^ (32 - K) := by
    have : x / 2 ^ K * 2 ^ K < 2 ^ (32 - K) * 2 ^ K := by rw [← e]; omega
    exact Int.lt_of_mul_lt_mul_right this (Int.le_of_lt hp)
  have f1 : fld x K (32 - K) = x / 2 ^ K := by unfold fld; exact Int.emod_eq_of_lt hd.1 hlt
  have c0 : 0 ≤ x / 2 ^ K * 2 ^ K := Int.mul_nonneg hd.1 (Int.le_of_lt hp)
  have f2 : x / 2 ^ K * 2 ^ K % 4294967296 = x / 2 ^ K * 2 ^ K := Int.emod_eq_of_lt c0 (by omega)
  refine ⟨?_, ?_⟩
  · rw [f0, f1, f2, or_join _ _ K b0 b1 hd.1 (by omega)]
    omega
  · rw [f0]; unfold fld; rw [Int.ediv_eq_zero_of_lt b0 b1]; simp

theorem main (a0 : Int) (b0 : 0 ≤ a0 ∧ a0 < 4294967296) (a1 : Int) (b1 : 0 ≤ a1 ∧ a1 < 256) (w : World) :
    Calls Try.prog 4 #[.int .u32 a0, .int .u8 a1] w fun e w' => e = .returned (.bool true) ∧ Below w.heap.size w w' := by
  obtain ⟨h0, h1⟩ := b0
  go_enter Try.func4, Try.ntmps4
  obtain ⟨k, hk⟩ : ∃ k, a1 % 33 = k := ⟨_, rfl⟩
  have k0 : 0 ≤ k := by omega
  have k1 : k ≤ 32 := by omega
  by_cases k2 : k = 32
  · subst k2
    have f1 : fld a0 (max 0 0 : Int).toNat (held 32) = a0 := by
      have e : (max 0 0 : Int).toNat = 0 := by decide
      have e2 : held 32 = 32 := by decide
      have e3 : (2 : Int) ^ 32 = 4294967296 := by decide
      rw [e, e2]; unfold fld; rw [e3]; simp; omega
    have f2 : fld a0 (max 32 0 : Int).toNat (held 0) = 0 := by
      have e2 : held 0 = 0 := by decide
      rw [e2, fld_zero]
    go_wp2_with (first | (go_at_call 9; refine (A1.awake _).mono ?_; rintro e w' ⟨rfl, _, rfl⟩) | (go_at_call 27; refine (W.within _ _ _ _).mono ?_; rintro e w' ⟨rfl, rfl⟩) | (go_at_call 26; refine (W.mask _ _).mono ?_; rintro e w' ⟨rfl, rfl⟩) | (go_at_call 15; refine (W.Sign _ _ _).mono ?_; rintro e w' ⟨rfl, rfl⟩) | (go_at_call 12; refine (W.Lo _ _).mono ?_; rintro e w' ⟨rfl, rfl⟩) | (go_at_call 10; refine (W.Hi _ _).mono ?_; rintro e w' ⟨rfl, rfl⟩) | (go_at_call 17; refine (W.Fits _ _ _).mono ?_; rintro e w' ⟨rfl, rfl⟩) | (go_at_call 14; refine (W.Field _ _ _ _ (by omega) (by omega)).mono ?_; rintro e w' ⟨rfl, _, rfl⟩) | (go_at_call 20; refine (W.MulHigh _ _ _ _ _ (by omega) (by omega) (by omega) (by omega)).mono ?_; rintro e w' ⟨rfl, rfl⟩) | (go_at_call 18; refine (W.Div _ _ _ _ (by omega) (by omega) (by omega) (by omega)).mono ?_; rintro e w' ⟨rfl, rfl⟩) | (go_at_call 19; refine (W.Rem _ _ _ _ (by omega) (by omega) (by omega) (by omega)).mono ?_; rintro e w' ⟨rfl, rfl⟩) | (go_at_call 24; refine (R1.Held _ _).mono ?_; rintro e w' ⟨rfl, rfl⟩) | (go_at_call 25; refine (R1.Bit _ _ _ (by omega) (by omega)).mono ?_; rintro e w' ⟨rfl, rfl⟩) | (go_at_call 16; refine (R1.Field _ _ _ _ (by omega) (by omega)).mono ?_; rintro e w' ⟨rfl, rfl⟩) | (go_at_call 13; refine (R1.Sign _ _ _ (by omega) (by omega)).mono ?_; rintro e w' ⟨rfl, rfl⟩) | (go_at_call 11; refine (R1.Hi _ _ (by omega) (by omega)).mono ?_; rintro e w' ⟨rfl, rfl⟩) | (go_at_call 21; refine (R1.MulHigh _ _ _ _ _ (by omega) (by omega) (by omega) (by omega)).mono ?_; rintro e w' ⟨rfl, rfl⟩) | (go_at_call 22; refine (R1.Div _ _ _ _ (by omega) (by omega) (by omega) (by omega)).mono ?_; rintro e w' ⟨rfl, rfl⟩) | (go_at_call 23; refine (R1.Rem _ _ _ _ (by omega) (by omega) (by omega) (by omega)).mono ?_; rintro e w' ⟨rfl, rfl⟩))
    go_ret
    exact ⟨rfl, below_drewN (Below.refl _ _) _⟩
  · have k3 : k ≤ 31 := by omega
    have k4 : (k == 32) = false := by rw [beq_eq_false_iff_ne]; exact k2
    have bl := fld_lt32 a0 0 (held_le k)
    obtain ⟨bl0, bl1⟩ := bl
    have bk := back a0 k h0 h1 k0 k3
    obtain ⟨bk1, bk2⟩ := bk
    go_wp2_with (first | (go_at_call 9; refine (A1.awake _).mono ?_; rintro e w' ⟨rfl, _, rfl⟩) | (go_at_call 27; refine (W.within _ _ _ _).mono ?_; rintro e w' ⟨rfl, rfl⟩) | (go_at_call 26; refine (W.mask _ _).mono ?_; rintro e w' ⟨rfl, rfl⟩) | (go_at_call 15; refine (W.Sign _ _ _).mono ?_; rintro e w' ⟨rfl, rfl⟩) | (go_at_call 12; refine (W.Lo _ _).mono ?_; rintro e w' ⟨rfl, rfl⟩) | (go_at_call 10; refine (W.Hi _ _).mono ?_; rintro e w' ⟨rfl, rfl⟩) | (go_at_call 17; refine (W.Fits _ _ _).mono ?_; rintro e w' ⟨rfl, rfl⟩) | (go_at_call 14; refine (W.Field _ _ _ _ (by omega) (by omega)).mono ?_; rintro e w' ⟨rfl, _, rfl⟩) | (go_at_call 20; refine (W.MulHigh _ _ _ _ _ (by omega) (by omega) (by omega) (by omega)).mono ?_; rintro e w' ⟨rfl, rfl⟩) | (go_at_call 18; refine (W.Div _ _ _ _ (by omega) (by omega) (by omega) (by omega)).mono ?_; rintro e w' ⟨rfl, rfl⟩) | (go_at_call 19; refine (W.Rem _ _ _ _ (by omega) (by omega) (by omega) (by omega)).mono ?_; rintro e w' ⟨rfl, rfl⟩) | (go_at_call 24; refine (R1.Held _ _).mono ?_; rintro e w' ⟨rfl, rfl⟩) | (go_at_call 25; refine (R1.Bit _ _ _ (by omega) (by omega)).mono ?_; rintro e w' ⟨rfl, rfl⟩) | (go_at_call 16; refine (R1.Field _ _ _ _ (by omega) (by omega)).mono ?_; rintro e w' ⟨rfl, rfl⟩) | (go_at_call 13; refine (R1.Sign _ _ _ (by omega) (by omega)).mono ?_; rintro e w' ⟨rfl, rfl⟩) | (go_at_call 11; refine (R1.Hi _ _ (by omega) (by omega)).mono ?_; rintro e w' ⟨rfl, rfl⟩) | (go_at_call 21; refine (R1.MulHigh _ _ _ _ _ (by omega) (by omega) (by omega) (by omega)).mono ?_; rintro e w' ⟨rfl, rfl⟩) | (go_at_call 22; refine (R1.Div _ _ _ _ (by omega) (by omega) (by omega) (by omega)).mono ?_; rintro e w' ⟨rfl, rfl⟩) | (go_at_call 23; refine (R1.Rem _ _ _ _ (by omega) (by omega) (by omega) (by omega)).mono ?_; rintro e w' ⟨rfl, rfl⟩))
    go_ret
    exact ⟨rfl, below_drewN (Below.refl _ _) _⟩

theorem own : ownKnob Try.prog.godebug = none := by kernel_rfl
theorem laidOut : laidOutB Try.prog = true := by kernel_rfl

set_option maxRecDepth 100000 in
theorem lifted (os : Os) (started : os.Started) (H : Type) (enc : TypeId × Value → H) :
    ReturnsInHanded {} Try.checked os 4 .any (Rows.wordBackSpec.pre6 enc Try.prog Try.f4 Rows.wordBackRow.domain false) (Rows.wordBackSpec.post enc Try.prog Try.f4 false true false false) := by
  refine returnsInHanded_of_change (C := Try.checked) own started (by kernel_rfl) Try.func4
    (ChangeSpec.witness6 (enc := enc) (C := Try.checked) false ⟨#[], #[.int .u32 0, .int .u8 0], []⟩ 8 (by kernel_rfl) (by kernel_rfl) (by kernel_rfl) (by kernel_rfl)) ?_
  intro W base args ds gs before hval0 hW hcnd _
  have hval : ∀ (j : Nat) t v, Try.f4.params[j]? = some t → args[j]? = some v → Value.okWide Try.prog W .any base t v := hval0
  have hW' := hW
  obtain ⟨p, q, hA0, hV, rfl, hfz, hnd⟩ := hW
  have hA : DataW.TrodAll enc Try.prog W 0 (fun _ => true) true Try.f4.params.toList args.toList ds p := hA0
  rw [Try.params4] at hA hval
  obtain ⟨v0, vs0, d0, ds0, p0, q0, hargs, rfl, rfl, h0, r0⟩ := trodAll_cons hA
  obtain ⟨v1, vs1, d1, ds1, p1, q1, rfl, rfl, rfl, h1, r1⟩ := trodAll_cons r0
  obtain ⟨rfl, rfl, rfl⟩ := trodAll_nil r1
  obtain rfl : args = #[v0, v1] := by cases args; simp_all
  obtain ⟨rfl, rfl⟩ := trodVars_none hV
  obtain ⟨a0, rfl, rfl, rfl, w0⟩ := open_int Try.underlying22 (hval 0 22 v0 rfl rfl) h0
  have b0 : 0 ≤ a0 ∧ a0 < 4294967296 := by
    have : 0 ≤ a0 ∧ a0 ≤ 4294967295 := by simpa [Lit.wf, IntKind.min, IntKind.max, IntKind.signed, IntKind.bits] using w0
    omega
  obtain ⟨a1, rfl, rfl, rfl, w1⟩ := open_int Try.underlying5 (hval 1 5 v1 rfl rfl) h1
  have b1 : 0 ≤ a1 ∧ a1 < 256 := by
    have : 0 ≤ a1 ∧ a1 ≤ 255 := by simpa [Lit.wf, IntKind.min, IntKind.max, IntKind.signed, IntKind.bits] using w1
    omega
  clear hA0 hval0
  simp only [List.append_nil] at hW'
  refine (main a0 b0 a1 b1 W).mono fun e W' ⟨he, bel⟩ => ?_
  subst he
  exact ⟨_, rfl, _, _, _, [], _, [], hW', trodAll_mk1 (shut_bool Try.underlying4 _), (trodAll_cons_mk (shut_int Try.underlying22 w0) (trodAll_cons_mk (shut_int Try.underlying5 w1) trodAll_mk0)), rfl, by simpa using bel.frame _, fun h => by cases h⟩

theorem over : Rows.wordBackRow.holds Try.pinned (OpenSpec.ofChange Rows.wordBackSpec) :=
  OpenClaim.holds_of_wide 4 Try.f4 rfl rfl rfl rfl rfl rfl rfl ⟨rfl, rfl, rfl, rfl, rfl⟩ rfl rfl rfl rfl rfl (by kernel_rfl) Try.func4 (by kernel_rfl)
    (of_decide_eq_true (by kernel_rfl)) (by unfold Func.isWrapper; first | (rw [if_pos (by decide +kernel)]; kernel_rfl) | (rw [if_neg (by decide +kernel)]; exact ⟨rfl, rfl⟩))
    (fun os started H enc _ => lifted os started H enc)

theorem proved : Rows.WordBackSaid :=
  over
#print axioms proved
end Go.Proofs.Ytfhhjbhoiccbjaa.wordBack
