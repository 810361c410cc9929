/- For every word: its highest 20 bits and its lowest 12 as a signed number are the reference's, and come to the word. -/
import Derived.Test.YtfhhjbhoiccbjaaRows
import Derived.WalkKit
import Derived.ProofKit
import Derived.OpenShut
import Derived.ShutString
import Derived.ChangeOld
import Derived.Below
import Derived.Test.YtfhhjbhoiccbjaaAwake01
namespace Go.Proofs.Ytfhhjbhoiccbjaa.wordHalves
open Go.ChangeShapes Go.WideShapes Go.ChangeAt Go.RowKit
open Go.ChangeMaps (open_string shut_string)
set_option linter.unusedVariables false

open Go.Proofs.Ytfhhjbhoiccbjaa.P Go.Proofs.Ytfhhjbhoiccbjaa.W

theorem sgn12_mod (x : Int) : (x - sgn x 12) % 4096 = 0 := by
  unfold sgn
  have e : (2 : Int) ^ 12 = 4096 := by decide
  rw [e]; split <;> omega

theorem main (a0 : Int) (b0 : 0 ≤ a0 ∧ a0 < 4294967296) (w : World) :
    Calls Try.prog 3 #[.int .u32 a0] w fun e w' => e = .returned (.bool true) ∧ Below w.heap.size w w' := by
  obtain ⟨h0, h1⟩ := b0
  have e12 := held12
  have hm := sgn12_mod a0
  have hlt : (a0 - sgn a0 12) % 4294967296 / 4096 < 1048576 := by omega
  have hfin : (((a0 - sgn a0 12) % 4294967296 / 4096 * 4096 + sgn a0 12) % 4294967296 == a0) = true := by
    rw [beq_iff_eq]; omega
  clear hm
  go_enter Try.func3, Try.ntmps3
  go_wp2_with (first | (go_at_call 9; refine (A1.awake _).mono ?_; rintro e w' ⟨rfl, _, rfl⟩) | (go_at_call 27; refine (W.within _ _ _ _).mono ?_; rintro e w' ⟨rfl, rfl⟩) | (go_at_call 26; refine (W.mask _ _).mono ?_; rintro e w' ⟨rfl, rfl⟩) | (go_at_call 15; refine (W.Sign _ _ _).mono ?_; rintro e w' ⟨rfl, rfl⟩) | (go_at_call 12; refine (W.Lo _ _).mono ?_; rintro e w' ⟨rfl, rfl⟩) | (go_at_call 10; refine (W.Hi _ _).mono ?_; rintro e w' ⟨rfl, rfl⟩) | (go_at_call 17; refine (W.Fits _ _ _).mono ?_; rintro e w' ⟨rfl, rfl⟩) | (go_at_call 14; refine (W.Field _ _ _ _ (by omega) (by omega)).mono ?_; rintro e w' ⟨rfl, _, rfl⟩) | (go_at_call 20; refine (W.MulHigh _ _ _ _ _ (by omega) (by omega) (by omega) (by omega)).mono ?_; rintro e w' ⟨rfl, rfl⟩) | (go_at_call 18; refine (W.Div _ _ _ _ (by omega) (by omega) (by omega) (by omega)).mono ?_; rintro e w' ⟨rfl, rfl⟩) | (go_at_call 19; refine (W.Rem _ _ _ _ (by omega) (by omega) (by omega) (by omega)).mono ?_; rintro e w' ⟨rfl, rfl⟩) | (go_at_call 24; refine (R1.Held _ _).mono ?_; rintro e w' ⟨rfl, rfl⟩) | (go_at_call 25; refine (R1.Bit _ _ _ (by omega) (by omega)).mono ?_; rintro e w' ⟨rfl, rfl⟩) | (go_at_call 16; refine (R1.Field _ _ _ _ (by omega) (by omega)).mono ?_; rintro e w' ⟨rfl, rfl⟩) | (go_at_call 13; refine (R1.Sign _ _ _ (by omega) (by omega)).mono ?_; rintro e w' ⟨rfl, rfl⟩) | (go_at_call 11; refine (R1.Hi _ _ (by omega) (by omega)).mono ?_; rintro e w' ⟨rfl, rfl⟩) | (go_at_call 21; refine (R1.MulHigh _ _ _ _ _ (by omega) (by omega) (by omega) (by omega)).mono ?_; rintro e w' ⟨rfl, rfl⟩) | (go_at_call 22; refine (R1.Div _ _ _ _ (by omega) (by omega) (by omega) (by omega)).mono ?_; rintro e w' ⟨rfl, rfl⟩) | (go_at_call 23; refine (R1.Rem _ _ _ _ (by omega) (by omega) (by omega) (by omega)).mono ?_; rintro e w' ⟨rfl, rfl⟩))
  go_ret
  exact ⟨rfl, below_drewN (Below.refl _ _) _⟩

theorem own : ownKnob Try.prog.godebug = none := by kernel_rfl
theorem laidOut : laidOutB Try.prog = true := by kernel_rfl

set_option maxRecDepth 100000 in
theorem lifted (os : Os) (started : os.Started) (H : Type) (enc : TypeId × Value → H) :
    ReturnsInHanded {} Try.checked os 3 .any (Rows.wordHalvesSpec.pre6 enc Try.prog Try.f3 Rows.wordHalvesRow.domain false) (Rows.wordHalvesSpec.post enc Try.prog Try.f3 false true false false) := by
  refine returnsInHanded_of_change (C := Try.checked) own started (by kernel_rfl) Try.func3
    (ChangeSpec.witness6 (enc := enc) (C := Try.checked) false ⟨#[], #[.int .u32 0], []⟩ 8 (by kernel_rfl) (by kernel_rfl) (by kernel_rfl) (by kernel_rfl)) ?_
  intro W base args ds gs before hval0 hW hcnd _
  have hval : ∀ (j : Nat) t v, Try.f3.params[j]? = some t → args[j]? = some v → Value.okWide Try.prog W .any base t v := hval0
  have hW' := hW
  obtain ⟨p, q, hA0, hV, rfl, hfz, hnd⟩ := hW
  have hA : DataW.TrodAll enc Try.prog W 0 (fun _ => true) true Try.f3.params.toList args.toList ds p := hA0
  rw [Try.params3] at hA hval
  obtain ⟨v0, vs0, d0, ds0, p0, q0, hargs, rfl, rfl, h0, r0⟩ := trodAll_cons hA
  obtain ⟨rfl, rfl, rfl⟩ := trodAll_nil r0
  obtain rfl : args = #[v0] := by cases args; simp_all
  obtain ⟨rfl, rfl⟩ := trodVars_none hV
  obtain ⟨a0, rfl, rfl, rfl, w0⟩ := open_int Try.underlying22 (hval 0 22 v0 rfl rfl) h0
  have b0 : 0 ≤ a0 ∧ a0 < 4294967296 := by
    have : 0 ≤ a0 ∧ a0 ≤ 4294967295 := by simpa [Lit.wf, IntKind.min, IntKind.max, IntKind.signed, IntKind.bits] using w0
    omega
  clear hA0 hval0
  simp only [List.append_nil] at hW'
  refine (main a0 b0 W).mono fun e W' ⟨he, bel⟩ => ?_
  subst he
  exact ⟨_, rfl, _, _, _, [], _, [], hW', trodAll_mk1 (shut_bool Try.underlying4 _), (trodAll_cons_mk (shut_int Try.underlying22 w0) trodAll_mk0), rfl, by simpa using bel.frame _, fun h => by cases h⟩

theorem over : Rows.wordHalvesRow.holds Try.pinned (OpenSpec.ofChange Rows.wordHalvesSpec) :=
  OpenClaim.holds_of_wide 3 Try.f3 rfl rfl rfl rfl rfl rfl rfl ⟨rfl, rfl, rfl, rfl, rfl⟩ rfl rfl rfl rfl rfl (by kernel_rfl) Try.func3 (by kernel_rfl)
    (of_decide_eq_true (by kernel_rfl)) (by unfold Func.isWrapper; first | (rw [if_pos (by decide +kernel)]; kernel_rfl) | (rw [if_neg (by decide +kernel)]; exact ⟨rfl, rfl⟩))
    (fun os started H enc _ => lifted os started H enc)

theorem proved : Rows.WordHalvesSaid :=
  over
#print axioms proved
end Go.Proofs.Ytfhhjbhoiccbjaa.wordHalves
