/- For all words: the highest half of any product, any quotient, and what is left, signed and unsigned, are the reference's; quotient times divisor, and what is left, come to the dividend. -/
import Derived.Test.YtfhhjbhoiccbjaaRows
import Derived.WalkKit
import Derived.ProofKit
import Derived.OpenShut
import Derived.ShutString
import Derived.ChangeOld
import Derived.Below
import Derived.Test.YtfhhjbhoiccbjaaAwake01
namespace Go.Proofs.Ytfhhjbhoiccbjaa.wordDivides
open Go.ChangeShapes Go.WideShapes Go.ChangeAt Go.RowKit
open Go.ChangeMaps (open_string shut_string)
set_option linter.unusedVariables false

open Go.Proofs.Ytfhhjbhoiccbjaa.P Go.Proofs.Ytfhhjbhoiccbjaa.W

theorem quo_rem (a b : Int) (s : Bool) (a0 : 0 ≤ a) (a1 : a < 4294967296) : (quo a b s * b + rem a b s) % 4294967296 = a := by
  unfold quo rem
  by_cases hb : b = 0
  · subst hb; simp; omega
  · rw [if_neg hb, if_neg hb]
    have e1 : wid a s % 4294967296 = a := by unfold wid; split <;> omega
    have e2 : wid b s % 4294967296 = b % 4294967296 := by unfold wid; split <;> omega
    have h := Int.mul_tdiv_add_tmod (wid a s) (wid b s)
    generalize wid a s = x at *
    generalize wid b s = y at *
    have h2 : (x.tdiv y % 4294967296 * b + x.tmod y % 4294967296) % 4294967296 = (y * x.tdiv y + x.tmod y) % 4294967296 := by
      rw [Int.add_emod, Int.mul_emod, Int.emod_emod, ← e2, Int.emod_emod, ← Int.mul_emod, ← Int.add_emod, Int.mul_comm]
    rw [h2, h, e1]

theorem main (a0 : Int) (b0 : 0 ≤ a0 ∧ a0 < 4294967296) (a1 : Int) (b1 : 0 ≤ a1 ∧ a1 < 4294967296) (a2 a3 : Bool) (w : World) :
    Calls Try.prog 7 #[.int .u32 a0, .int .u32 a1, .bool a2, .bool a3] w fun e w' => e = .returned (.bool true) ∧ Below w.heap.size w w' := by
  obtain ⟨h0, h1⟩ := b0
  obtain ⟨h2, h3⟩ := b1
  have hq := quo_rem a0 a1 a2 h0 h1
  go_enter Try.func7, Try.ntmps7
  go_wp2_with (first | (go_at_call 9; refine (A1.awake _).mono ?_; rintro e w' ⟨rfl, _, rfl⟩) | (go_at_call 27; refine (W.within _ _ _ _).mono ?_; rintro e w' ⟨rfl, rfl⟩) | (go_at_call 26; refine (W.mask _ _).mono ?_; rintro e w' ⟨rfl, rfl⟩) | (go_at_call 15; refine (W.Sign _ _ _).mono ?_; rintro e w' ⟨rfl, rfl⟩) | (go_at_call 12; refine (W.Lo _ _).mono ?_; rintro e w' ⟨rfl, rfl⟩) | (go_at_call 10; refine (W.Hi _ _).mono ?_; rintro e w' ⟨rfl, rfl⟩) | (go_at_call 17; refine (W.Fits _ _ _).mono ?_; rintro e w' ⟨rfl, rfl⟩) | (go_at_call 14; refine (W.Field _ _ _ _ (by omega) (by omega)).mono ?_; rintro e w' ⟨rfl, _, rfl⟩) | (go_at_call 20; refine (W.MulHigh _ _ _ _ _ (by omega) (by omega) (by omega) (by omega)).mono ?_; rintro e w' ⟨rfl, rfl⟩) | (go_at_call 18; refine (W.Div _ _ _ _ (by omega) (by omega) (by omega) (by omega)).mono ?_; rintro e w' ⟨rfl, rfl⟩) | (go_at_call 19; refine (W.Rem _ _ _ _ (by omega) (by omega) (by omega) (by omega)).mono ?_; rintro e w' ⟨rfl, rfl⟩) | (go_at_call 24; refine (R1.Held _ _).mono ?_; rintro e w' ⟨rfl, rfl⟩) | (go_at_call 25; refine (R1.Bit _ _ _ (by omega) (by omega)).mono ?_; rintro e w' ⟨rfl, rfl⟩) | (go_at_call 16; refine (R1.Field _ _ _ _ (by omega) (by omega)).mono ?_; rintro e w' ⟨rfl, rfl⟩) | (go_at_call 13; refine (R1.Sign _ _ _ (by omega) (by omega)).mono ?_; rintro e w' ⟨rfl, rfl⟩) | (go_at_call 11; refine (R1.Hi _ _ (by omega) (by omega)).mono ?_; rintro e w' ⟨rfl, rfl⟩) | (go_at_call 21; refine (R1.MulHigh _ _ _ _ _ (by omega) (by omega) (by omega) (by omega)).mono ?_; rintro e w' ⟨rfl, rfl⟩) | (go_at_call 22; refine (R1.Div _ _ _ _ (by omega) (by omega) (by omega) (by omega)).mono ?_; rintro e w' ⟨rfl, rfl⟩) | (go_at_call 23; refine (R1.Rem _ _ _ _ (by omega) (by omega) (by omega) (by omega)).mono ?_; rintro e w' ⟨rfl, rfl⟩))
  all_goals go_ret
  all_goals trace_state
  exact ⟨rfl, below_drewN (Below.refl _ _) _⟩

theorem own : ownKnob Try.prog.godebug = none := by kernel_rfl
theorem laidOut : laidOutB Try.prog = true := by kernel_rfl

set_option maxRecDepth 100000 in
theorem lifted (os : Os) (started : os.Started) (H : Type) (enc : TypeId × Value → H) :
    ReturnsInHanded {} Try.checked os 7 .any (Rows.wordDividesSpec.pre6 enc Try.prog Try.f7 Rows.wordDividesRow.domain false) (Rows.wordDividesSpec.post enc Try.prog Try.f7 false true false false) := by
  refine returnsInHanded_of_change (C := Try.checked) own started (by kernel_rfl) Try.func7
    (ChangeSpec.witness6 (enc := enc) (C := Try.checked) false ⟨#[], #[.int .u32 0, .int .u32 0, .bool false, .bool false], []⟩ 8 (by kernel_rfl) (by kernel_rfl) (by kernel_rfl) (by kernel_rfl)) ?_
  intro W base args ds gs before hval0 hW hcnd _
  have hval : ∀ (j : Nat) t v, Try.f7.params[j]? = some t → args[j]? = some v → Value.okWide Try.prog W .any base t v := hval0
  have hW' := hW
  obtain ⟨p, q, hA0, hV, rfl, hfz, hnd⟩ := hW
  have hA : DataW.TrodAll enc Try.prog W 0 (fun _ => true) true Try.f7.params.toList args.toList ds p := hA0
  rw [Try.params7] at hA hval
  obtain ⟨v0, vs0, d0, ds0, p0, q0, hargs, rfl, rfl, h0, r0⟩ := trodAll_cons hA
  obtain ⟨v1, vs1, d1, ds1, p1, q1, rfl, rfl, rfl, h1, r1⟩ := trodAll_cons r0
  obtain ⟨v2, vs2, d2, ds2, p2, q2, rfl, rfl, rfl, h2, r2⟩ := trodAll_cons r1
  obtain ⟨v3, vs3, d3, ds3, p3, q3, rfl, rfl, rfl, h3, r3⟩ := trodAll_cons r2
  obtain ⟨rfl, rfl, rfl⟩ := trodAll_nil r3
  obtain rfl : args = #[v0, v1, v2, v3] := by cases args; simp_all
  obtain ⟨rfl, rfl⟩ := trodVars_none hV
  obtain ⟨a0, rfl, rfl, rfl, w0⟩ := open_int Try.underlying22 (hval 0 22 v0 rfl rfl) h0
  have b0 : 0 ≤ a0 ∧ a0 < 4294967296 := by
    have : 0 ≤ a0 ∧ a0 ≤ 4294967295 := by simpa [Lit.wf, IntKind.min, IntKind.max, IntKind.signed, IntKind.bits] using w0
    omega
  obtain ⟨a1, rfl, rfl, rfl, w1⟩ := open_int Try.underlying22 (hval 1 22 v1 rfl rfl) h1
  have b1 : 0 ≤ a1 ∧ a1 < 4294967296 := by
    have : 0 ≤ a1 ∧ a1 ≤ 4294967295 := by simpa [Lit.wf, IntKind.min, IntKind.max, IntKind.signed, IntKind.bits] using w1
    omega
  obtain ⟨a2, rfl, rfl, rfl⟩ := open_bool Try.underlying4 (hval 2 4 v2 rfl rfl) h2
  obtain ⟨a3, rfl, rfl, rfl⟩ := open_bool Try.underlying4 (hval 3 4 v3 rfl rfl) h3
  clear hA0 hval0
  simp only [List.append_nil] at hW'
  refine (main a0 b0 a1 b1 a2 a3 W).mono fun e W' ⟨he, bel⟩ => ?_
  subst he
  exact ⟨_, rfl, _, _, _, [], _, [], hW', trodAll_mk1 (shut_bool Try.underlying4 _), (trodAll_cons_mk (shut_int Try.underlying22 w0) (trodAll_cons_mk (shut_int Try.underlying22 w1) (trodAll_cons_mk (shut_bool Try.underlying4 _) (trodAll_cons_mk (shut_bool Try.underlying4 _) trodAll_mk0)))), rfl, by simpa using bel.frame _, fun h => by cases h⟩

theorem over : Rows.wordDividesRow.holds Try.pinned (OpenSpec.ofChange Rows.wordDividesSpec) :=
  OpenClaim.holds_of_wide 7 Try.f7 rfl rfl rfl rfl rfl rfl rfl ⟨rfl, rfl, rfl, rfl, rfl⟩ rfl rfl rfl rfl rfl (by kernel_rfl) Try.func7 (by kernel_rfl)
    (of_decide_eq_true (by kernel_rfl)) (by unfold Func.isWrapper; first | (rw [if_pos (by decide +kernel)]; kernel_rfl) | (rw [if_neg (by decide +kernel)]; exact ⟨rfl, rfl⟩))
    (fun os started H enc _ => lifted os started H enc)

theorem proved : Rows.WordDividesSaid :=
  over
#print axioms proved
end Go.Proofs.Ytfhhjbhoiccbjaa.wordDivides
