/- For all words: the highest half of a product, and its lowest, are the product; of signed numbers the highest half is that of unsigned ones, less the other one for each that is below 0. -/
import Derived.Test.YtfhhjbhoiccbjaaRows
import Derived.WalkKit
import Derived.ProofKit
import Derived.OpenShut
import Derived.ShutString
import Derived.ChangeOld
import Derived.Below
import Derived.Test.YtfhhjbhoiccbjaaAwake01
namespace Go.Proofs.Ytfhhjbhoiccbjaa.wordProducts
open Go.ChangeShapes Go.WideShapes Go.ChangeAt Go.RowKit
open Go.ChangeMaps (open_string shut_string)
set_option linter.unusedVariables false

open Go.Proofs.Ytfhhjbhoiccbjaa.P Go.Proofs.Ytfhhjbhoiccbjaa.W

theorem mulh_bd (a b : Int) (s t : Bool) : 0 ≤ mulh a b s t ∧ mulh a b s t < 4294967296 := by unfold mulh; omega
theorem prod_bd (a b : Int) (a0 : 0 ≤ a) (a1 : a < 4294967296) (b0 : 0 ≤ b) (b1 : b < 4294967296) : 0 ≤ a * b ∧ a * b ≤ 18446744065119617025 := by
  have := mul_bd (x := a) (y := b) (X := 4294967295) (Y := 4294967295) (by omega) (by omega) (by omega) (by omega)
  have := Int.mul_nonneg a0 b0
  omega
theorem whole (a b : Int) (a0 : 0 ≤ a) (a1 : a < 4294967296) (b0 : 0 ≤ b) (b1 : b < 4294967296) : mulh a b false false * 4294967296 + a * b % 4294967296 = a * b := by
  have h := prod_bd a b a0 a1 b0 b1
  unfold mulh; rw [wid_un, wid_un]; omega
theorem one (a b : Int) (ha : ¬ 2147483648 ≤ a) : mulh a b true false = mulh a b false false := by
  unfold mulh wid; simp [ha]
theorem one' (a b : Int) (ha : 2147483648 ≤ a) : mulh a b true false = (mulh a b false false - b) % 4294967296 := by
  unfold mulh wid; simp [ha]; rw [Int.sub_mul]; omega
theorem two (a b : Int) (hb : ¬ 2147483648 ≤ b) : mulh a b true true = mulh a b true false := by
  unfold mulh wid; simp [hb]
theorem two' (a b : Int) (ha : ¬ 2147483648 ≤ a) (hb : 2147483648 ≤ b) : mulh a b true true = (mulh a b false false - a) % 4294967296 := by
  unfold mulh wid; simp [hb, ha]; rw [Int.mul_sub]; omega
theorem two'' (a b : Int) (ha : 2147483648 ≤ a) (hb : 2147483648 ≤ b) : mulh a b true true = (mulh a b false false - b - a) % 4294967296 := by
  unfold mulh wid; simp [hb, ha]; rw [Int.mul_sub, Int.sub_mul, Int.sub_mul]; omega

theorem main (a0 : Int) (b0 : 0 ≤ a0 ∧ a0 < 4294967296) (a1 : Int) (b1 : 0 ≤ a1 ∧ a1 < 4294967296) (w : World) :
    Calls Try.prog 8 #[.int .u32 a0, .int .u32 a1] w fun e w' => e = .returned (.bool true) ∧ Below w.heap.size w w' := by
  obtain ⟨h0, h1⟩ := b0
  obtain ⟨h2, h3⟩ := b1
  obtain ⟨m0, m1⟩ := mulh_bd a0 a1 false false
  obtain ⟨p0, p1⟩ := prod_bd a0 a1 h0 h1 h2 h3
  have hw : (mulh a0 a1 false false * 4294967296 + a0 * a1 % 4294967296 != a0 * a1) = false := by
    rw [whole a0 a1 h0 h1 h2 h3]; simp
  by_cases ha : 2147483648 ≤ a0
  · have e1 := one' a0 a1 ha
    by_cases hb : 2147483648 ≤ a1
    · have e2 := two'' a0 a1 ha hb
      go_enter Try.func8, Try.ntmps8
      go_wp2_with (first | (go_at_call 9; refine (A1.awake _).mono ?_; rintro e w' ⟨rfl, _, rfl⟩) | (go_at_call 27; refine (W.within _ _ _ _).mono ?_; rintro e w' ⟨rfl, rfl⟩) | (go_at_call 26; refine (W.mask _ _).mono ?_; rintro e w' ⟨rfl, rfl⟩) | (go_at_call 15; refine (W.Sign _ _ _).mono ?_; rintro e w' ⟨rfl, rfl⟩) | (go_at_call 12; refine (W.Lo _ _).mono ?_; rintro e w' ⟨rfl, rfl⟩) | (go_at_call 10; refine (W.Hi _ _).mono ?_; rintro e w' ⟨rfl, rfl⟩) | (go_at_call 17; refine (W.Fits _ _ _).mono ?_; rintro e w' ⟨rfl, rfl⟩) | (go_at_call 14; refine (W.Field _ _ _ _ (by omega) (by omega)).mono ?_; rintro e w' ⟨rfl, _, rfl⟩) | (go_at_call 20; refine (W.MulHigh _ _ _ _ _ (by omega) (by omega) (by omega) (by omega)).mono ?_; rintro e w' ⟨rfl, rfl⟩) | (go_at_call 18; refine (W.Div _ _ _ _ (by omega) (by omega) (by omega) (by omega)).mono ?_; rintro e w' ⟨rfl, rfl⟩) | (go_at_call 19; refine (W.Rem _ _ _ _ (by omega) (by omega) (by omega) (by omega)).mono ?_; rintro e w' ⟨rfl, rfl⟩) | (go_at_call 24; refine (R1.Held _ _).mono ?_; rintro e w' ⟨rfl, rfl⟩) | (go_at_call 25; refine (R1.Bit _ _ _ (by omega) (by omega)).mono ?_; rintro e w' ⟨rfl, rfl⟩) | (go_at_call 16; refine (R1.Field _ _ _ _ (by omega) (by omega)).mono ?_; rintro e w' ⟨rfl, rfl⟩) | (go_at_call 13; refine (R1.Sign _ _ _ (by omega) (by omega)).mono ?_; rintro e w' ⟨rfl, rfl⟩) | (go_at_call 11; refine (R1.Hi _ _ (by omega) (by omega)).mono ?_; rintro e w' ⟨rfl, rfl⟩) | (go_at_call 21; refine (R1.MulHigh _ _ _ _ _ (by omega) (by omega) (by omega) (by omega)).mono ?_; rintro e w' ⟨rfl, rfl⟩) | (go_at_call 22; refine (R1.Div _ _ _ _ (by omega) (by omega) (by omega) (by omega)).mono ?_; rintro e w' ⟨rfl, rfl⟩) | (go_at_call 23; refine (R1.Rem _ _ _ _ (by omega) (by omega) (by omega) (by omega)).mono ?_; rintro e w' ⟨rfl, rfl⟩))
      go_ret
      exact ⟨rfl, below_drewN (Below.refl _ _) _⟩
    · have e2 := (two a0 a1 hb).trans e1
      go_enter Try.func8, Try.ntmps8
      go_wp2_with (first | (go_at_call 9; refine (A1.awake _).mono ?_; rintro e w' ⟨rfl, _, rfl⟩) | (go_at_call 27; refine (W.within _ _ _ _).mono ?_; rintro e w' ⟨rfl, rfl⟩) | (go_at_call 26; refine (W.mask _ _).mono ?_; rintro e w' ⟨rfl, rfl⟩) | (go_at_call 15; refine (W.Sign _ _ _).mono ?_; rintro e w' ⟨rfl, rfl⟩) | (go_at_call 12; refine (W.Lo _ _).mono ?_; rintro e w' ⟨rfl, rfl⟩) | (go_at_call 10; refine (W.Hi _ _).mono ?_; rintro e w' ⟨rfl, rfl⟩) | (go_at_call 17; refine (W.Fits _ _ _).mono ?_; rintro e w' ⟨rfl, rfl⟩) | (go_at_call 14; refine (W.Field _ _ _ _ (by omega) (by omega)).mono ?_; rintro e w' ⟨rfl, _, rfl⟩) | (go_at_call 20; refine (W.MulHigh _ _ _ _ _ (by omega) (by omega) (by omega) (by omega)).mono ?_; rintro e w' ⟨rfl, rfl⟩) | (go_at_call 18; refine (W.Div _ _ _ _ (by omega) (by omega) (by omega) (by omega)).mono ?_; rintro e w' ⟨rfl, rfl⟩) | (go_at_call 19; refine (W.Rem _ _ _ _ (by omega) (by omega) (by omega) (by omega)).mono ?_; rintro e w' ⟨rfl, rfl⟩) | (go_at_call 24; refine (R1.Held _ _).mono ?_; rintro e w' ⟨rfl, rfl⟩) | (go_at_call 25; refine (R1.Bit _ _ _ (by omega) (by omega)).mono ?_; rintro e w' ⟨rfl, rfl⟩) | (go_at_call 16; refine (R1.Field _ _ _ _ (by omega) (by omega)).mono ?_; rintro e w' ⟨rfl, rfl⟩) | (go_at_call 13; refine (R1.Sign _ _ _ (by omega) (by omega)).mono ?_; rintro e w' ⟨rfl, rfl⟩) | (go_at_call 11; refine (R1.Hi _ _ (by omega) (by omega)).mono ?_; rintro e w' ⟨rfl, rfl⟩) | (go_at_call 21; refine (R1.MulHigh _ _ _ _ _ (by omega) (by omega) (by omega) (by omega)).mono ?_; rintro e w' ⟨rfl, rfl⟩) | (go_at_call 22; refine (R1.Div _ _ _ _ (by omega) (by omega) (by omega) (by omega)).mono ?_; rintro e w' ⟨rfl, rfl⟩) | (go_at_call 23; refine (R1.Rem _ _ _ _ (by omega) (by omega) (by omega) (by omega)).mono ?_; rintro e w' ⟨rfl, rfl⟩))
      go_ret
      exact ⟨rfl, below_drewN (Below.refl _ _) _⟩
  · have e1 := one a0 a1 ha
    by_cases hb : 2147483648 ≤ a1
    · have e2 := two' a0 a1 ha hb
      go_enter Try.func8, Try.ntmps8
      go_wp2_with (first | (go_at_call 9; refine (A1.awake _).mono ?_; rintro e w' ⟨rfl, _, rfl⟩) | (go_at_call 27; refine (W.within _ _ _ _).mono ?_; rintro e w' ⟨rfl, rfl⟩) | (go_at_call 26; refine (W.mask _ _).mono ?_; rintro e w' ⟨rfl, rfl⟩) | (go_at_call 15; refine (W.Sign _ _ _).mono ?_; rintro e w' ⟨rfl, rfl⟩) | (go_at_call 12; refine (W.Lo _ _).mono ?_; rintro e w' ⟨rfl, rfl⟩) | (go_at_call 10; refine (W.Hi _ _).mono ?_; rintro e w' ⟨rfl, rfl⟩) | (go_at_call 17; refine (W.Fits _ _ _).mono ?_; rintro e w' ⟨rfl, rfl⟩) | (go_at_call 14; refine (W.Field _ _ _ _ (by omega) (by omega)).mono ?_; rintro e w' ⟨rfl, _, rfl⟩) | (go_at_call 20; refine (W.MulHigh _ _ _ _ _ (by omega) (by omega) (by omega) (by omega)).mono ?_; rintro e w' ⟨rfl, rfl⟩) | (go_at_call 18; refine (W.Div _ _ _ _ (by omega) (by omega) (by omega) (by omega)).mono ?_; rintro e w' ⟨rfl, rfl⟩) | (go_at_call 19; refine (W.Rem _ _ _ _ (by omega) (by omega) (by omega) (by omega)).mono ?_; rintro e w' ⟨rfl, rfl⟩) | (go_at_call 24; refine (R1.Held _ _).mono ?_; rintro e w' ⟨rfl, rfl⟩) | (go_at_call 25; refine (R1.Bit _ _ _ (by omega) (by omega)).mono ?_; rintro e w' ⟨rfl, rfl⟩) | (go_at_call 16; refine (R1.Field _ _ _ _ (by omega) (by omega)).mono ?_; rintro e w' ⟨rfl, rfl⟩) | (go_at_call 13; refine (R1.Sign _ _ _ (by omega) (by omega)).mono ?_; rintro e w' ⟨rfl, rfl⟩) | (go_at_call 11; refine (R1.Hi _ _ (by omega) (by omega)).mono ?_; rintro e w' ⟨rfl, rfl⟩) | (go_at_call 21; refine (R1.MulHigh _ _ _ _ _ (by omega) (by omega) (by omega) (by omega)).mono ?_; rintro e w' ⟨rfl, rfl⟩) | (go_at_call 22; refine (R1.Div _ _ _ _ (by omega) (by omega) (by omega) (by omega)).mono ?_; rintro e w' ⟨rfl, rfl⟩) | (go_at_call 23; refine (R1.Rem _ _ _ _ (by omega) (by omega) (by omega) (by omega)).mono ?_; rintro e w' ⟨rfl, rfl⟩))
      go_ret
      exact ⟨rfl, below_drewN (Below.refl _ _) _⟩
    · have e2 := (two a0 a1 hb).trans e1
      go_enter Try.func8, Try.ntmps8
      go_wp2_with (first | (go_at_call 9; refine (A1.awake _).mono ?_; rintro e w' ⟨rfl, _, rfl⟩) | (go_at_call 27; refine (W.within _ _ _ _).mono ?_; rintro e w' ⟨rfl, rfl⟩) | (go_at_call 26; refine (W.mask _ _).mono ?_; rintro e w' ⟨rfl, rfl⟩) | (go_at_call 15; refine (W.Sign _ _ _).mono ?_; rintro e w' ⟨rfl, rfl⟩) | (go_at_call 12; refine (W.Lo _ _).mono ?_; rintro e w' ⟨rfl, rfl⟩) | (go_at_call 10; refine (W.Hi _ _).mono ?_; rintro e w' ⟨rfl, rfl⟩) | (go_at_call 17; refine (W.Fits _ _ _).mono ?_; rintro e w' ⟨rfl, rfl⟩) | (go_at_call 14; refine (W.Field _ _ _ _ (by omega) (by omega)).mono ?_; rintro e w' ⟨rfl, _, rfl⟩) | (go_at_call 20; refine (W.MulHigh _ _ _ _ _ (by omega) (by omega) (by omega) (by omega)).mono ?_; rintro e w' ⟨rfl, rfl⟩) | (go_at_call 18; refine (W.Div _ _ _ _ (by omega) (by omega) (by omega) (by omega)).mono ?_; rintro e w' ⟨rfl, rfl⟩) | (go_at_call 19; refine (W.Rem _ _ _ _ (by omega) (by omega) (by omega) (by omega)).mono ?_; rintro e w' ⟨rfl, rfl⟩) | (go_at_call 24; refine (R1.Held _ _).mono ?_; rintro e w' ⟨rfl, rfl⟩) | (go_at_call 25; refine (R1.Bit _ _ _ (by omega) (by omega)).mono ?_; rintro e w' ⟨rfl, rfl⟩) | (go_at_call 16; refine (R1.Field _ _ _ _ (by omega) (by omega)).mono ?_; rintro e w' ⟨rfl, rfl⟩) | (go_at_call 13; refine (R1.Sign _ _ _ (by omega) (by omega)).mono ?_; rintro e w' ⟨rfl, rfl⟩) | (go_at_call 11; refine (R1.Hi _ _ (by omega) (by omega)).mono ?_; rintro e w' ⟨rfl, rfl⟩) | (go_at_call 21; refine (R1.MulHigh _ _ _ _ _ (by omega) (by omega) (by omega) (by omega)).mono ?_; rintro e w' ⟨rfl, rfl⟩) | (go_at_call 22; refine (R1.Div _ _ _ _ (by omega) (by omega) (by omega) (by omega)).mono ?_; rintro e w' ⟨rfl, rfl⟩) | (go_at_call 23; refine (R1.Rem _ _ _ _ (by omega) (by omega) (by omega) (by omega)).mono ?_; rintro e w' ⟨rfl, rfl⟩))
      go_ret
      exact ⟨rfl, below_drewN (Below.refl _ _) _⟩

theorem own : ownKnob Try.prog.godebug = none := by kernel_rfl
theorem laidOut : laidOutB Try.prog = true := by kernel_rfl

set_option maxRecDepth 100000 in
theorem lifted (os : Os) (started : os.Started) (H : Type) (enc : TypeId × Value → H) :
    ReturnsInHanded {} Try.checked os 8 .any (Rows.wordProductsSpec.pre6 enc Try.prog Try.f8 Rows.wordProductsRow.domain false) (Rows.wordProductsSpec.post enc Try.prog Try.f8 false true false false) := by
  refine returnsInHanded_of_change (C := Try.checked) own started (by kernel_rfl) Try.func8
    (ChangeSpec.witness6 (enc := enc) (C := Try.checked) false ⟨#[], #[.int .u32 0, .int .u32 0], []⟩ 8 (by kernel_rfl) (by kernel_rfl) (by kernel_rfl) (by kernel_rfl)) ?_
  intro W base args ds gs before hval0 hW hcnd _
  have hval : ∀ (j : Nat) t v, Try.f8.params[j]? = some t → args[j]? = some v → Value.okWide Try.prog W .any base t v := hval0
  have hW' := hW
  obtain ⟨p, q, hA0, hV, rfl, hfz, hnd⟩ := hW
  have hA : DataW.TrodAll enc Try.prog W 0 (fun _ => true) true Try.f8.params.toList args.toList ds p := hA0
  rw [Try.params8] at hA hval
  obtain ⟨v0, vs0, d0, ds0, p0, q0, hargs, rfl, rfl, h0, r0⟩ := trodAll_cons hA
  obtain ⟨v1, vs1, d1, ds1, p1, q1, rfl, rfl, rfl, h1, r1⟩ := trodAll_cons r0
  obtain ⟨rfl, rfl, rfl⟩ := trodAll_nil r1
  obtain rfl : args = #[v0, v1] := by cases args; simp_all
  obtain ⟨rfl, rfl⟩ := trodVars_none hV
  obtain ⟨a0, rfl, rfl, rfl, w0⟩ := open_int Try.underlying22 (hval 0 22 v0 rfl rfl) h0
  have b0 : 0 ≤ a0 ∧ a0 < 4294967296 := by
    have : 0 ≤ a0 ∧ a0 ≤ 4294967295 := by simpa [Lit.wf, IntKind.min, IntKind.max, IntKind.signed, IntKind.bits] using w0
    omega
  obtain ⟨a1, rfl, rfl, rfl, w1⟩ := open_int Try.underlying22 (hval 1 22 v1 rfl rfl) h1
  have b1 : 0 ≤ a1 ∧ a1 < 4294967296 := by
    have : 0 ≤ a1 ∧ a1 ≤ 4294967295 := by simpa [Lit.wf, IntKind.min, IntKind.max, IntKind.signed, IntKind.bits] using w1
    omega
  clear hA0 hval0
  simp only [List.append_nil] at hW'
  refine (main a0 b0 a1 b1 W).mono fun e W' ⟨he, bel⟩ => ?_
  subst he
  exact ⟨_, rfl, _, _, _, [], _, [], hW', trodAll_mk1 (shut_bool Try.underlying4 _), (trodAll_cons_mk (shut_int Try.underlying22 w0) (trodAll_cons_mk (shut_int Try.underlying22 w1) trodAll_mk0)), rfl, by simpa using bel.frame _, fun h => by cases h⟩

theorem over : Rows.wordProductsRow.holds Try.pinned (OpenSpec.ofChange Rows.wordProductsSpec) :=
  OpenClaim.holds_of_wide 8 Try.f8 rfl rfl rfl rfl rfl rfl rfl ⟨rfl, rfl, rfl, rfl, rfl⟩ rfl rfl rfl rfl rfl (by kernel_rfl) Try.func8 (by kernel_rfl)
    (of_decide_eq_true (by kernel_rfl)) (by unfold Func.isWrapper; first | (rw [if_pos (by decide +kernel)]; kernel_rfl) | (rw [if_neg (by decide +kernel)]; exact ⟨rfl, rfl⟩))
    (fun os started H enc _ => lifted os started H enc)

theorem proved : Rows.WordProductsSaid :=
  over
#print axioms proved
end Go.Proofs.Ytfhhjbhoiccbjaa.wordProducts
