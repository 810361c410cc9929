/- For every two words: unlike words that are decoded are unlike instructions, but for fences. -/
import Derived.Test.YtplhoiokfjjcdaaRows
import Derived.WalkKit
import Derived.ProofKit
import Derived.OpenShut
import Derived.ShutString
import Derived.ChangeOld
import Derived.Below
import Derived.Test.YtplhoiokfjjcdaaAwake04
import Derived.Test.YtplhoiokfjjcdaaImmP
namespace Go.Proofs.Ytplhoiokfjjcdaa.wideApart
open Go.ChangeShapes Go.WideShapes Go.ChangeAt Go.RowKit
open Go.ChangeMaps (open_string shut_string)
set_option linter.unusedVariables false

open Go.Proofs.Ytplhoiokfjjcdaa.P Go.Proofs.Ytplhoiokfjjcdaa.W Go.Proofs.Ytplhoiokfjjcdaa.A4

set_option maxHeartbeats 1000000 in
theorem main (x : Int) (b0 : 0 ≤ x ∧ x < 4294967296) (y : Int) (b1 : 0 ≤ y ∧ y < 4294967296) (w : World) :
    Calls Try.prog 5 #[.int .u32 x, .int .u32 y] w fun e w' => e = .returned (.bool true) ∧ Below w.heap.size w w' := by
  obtain ⟨h0, h1⟩ := b0
  obtain ⟨h2, h3⟩ := b1
  have hap := @dec_apart x y h0 h1 h2 h3
  go_enter Try.func5, Try.ntmps5
  go_wp2_with fail
  refine (A4.awake _).mono ?_
  rintro e w1 ⟨rfl, hb1⟩
  go_wp2_with fail
  refine (V.Decode _ _ h0 h1).mono ?_
  rintro e w2 ⟨rfl, hb2⟩
  have hb3 := bel_step hb1 hb2
  clear hb1 hb2 w1
  unfold decV
  generalize opN x = o1 at *
  generalize dRd x = p1 at *
  generalize dRs1 x = p2 at *
  generalize dRs2 x = p3 at *
  generalize dImm x = p4 at *
  have hk1 : (!(o1 == 0)) = true → o1 ≠ 0 := by simp
  generalize (!(o1 == 0)) = k1 at *
  go_wp2_with fail
  have z1 := Inst.new w2 25 (.int .i64 o1) (.int .i64 p1) (.int .i64 p2) (.int .i64 p3) (.int .i32 p4)
  have hb4 := bel_step hb3 (below_alloc w2 (.cells #[.int .i64 o1, .int .i64 p1, .int .i64 p2, .int .i64 p3, .int .i32 p4] 25))
  generalize w2.alloc (.cells #[.int .i64 o1, .int .i64 p1, .int .i64 p2, .int .i64 p3, .int .i32 p4] 25) = w3 at *
  generalize w2.heap.size = a1 at *
  refine (V.Decode _ _ h2 h3).mono ?_
  rintro e w4 ⟨rfl, hb5⟩
  have hb6 := bel_step hb4 hb5
  replace z1 := z1.below hb5 z1.lt
  clear hb3 hb4 hb5 w2 w3
  unfold decV
  generalize opN y = o2 at *
  generalize dRd y = q1 at *
  generalize dRs1 y = q2 at *
  generalize dRs2 y = q3 at *
  generalize dImm y = q4 at *
  have hk2 : (!(o2 == 0)) = true → o2 ≠ 0 := by simp
  generalize (!(o2 == 0)) = k2 at *
  obtain ⟨zl, c0, c1, c2, c3, c4⟩ := z1
  have hbs := hb6.size
  have hap2 : k1 = true → k2 = true → (x == y) = false → (o1 == 38) = false → (o1 == o2) = true → (p1 == q1) = true → (p2 == q2) = true → (p3 == q3) = true → (p4 == q4) = true → False := by
    simp only [beq_iff_eq, beq_eq_false_iff_ne]
    intro e1 e2 e3 e4 e5 e6 e7 e8 e9
    exact e3 (hap (hk1 e1) (hk2 e2) e5 e4 e6 e7 e8 e9)
  replace hap2 := hid hap2
  clear hap hk1 hk2
  cases k1 <;> cases k2 <;> cases hxy : (x == y)
  all_goals go_wp2
  all_goals (try (go_ret; exact ⟨rfl, (by repeat' (first | (with_reducible exact Below.refl _ _) | (with_reducible assumption) | (with_reducible refine below_drewN ?_ _) | (with_reducible refine Below.alloc ?_ ?_ _) | (with_reducible refine Below.drew ?_) | (with_reducible refine Below.setCell ?_ ?_ _) | (with_reducible exact Below.size (by assumption)) | go_size))⟩))
  rename_i g1 g2 g3 g4 g5
  subst g1 g2 g3 g4 g5
  have h38 : (o1 == 38) = true := by
    cases hz : o1 == 38 with
    | true => rfl
    | false => exact (hap2.out trivial trivial hxy hz (beq_self_eq_true _) (beq_self_eq_true _) (beq_self_eq_true _) (beq_self_eq_true _) (beq_self_eq_true _)).elim
  rw [h38]
  go_ret
  exact ⟨rfl, (by repeat' (first | (with_reducible exact Below.refl _ _) | (with_reducible assumption) | (with_reducible refine below_drewN ?_ _) | (with_reducible refine Below.alloc ?_ ?_ _) | (with_reducible refine Below.drew ?_) | (with_reducible refine Below.setCell ?_ ?_ _) | (with_reducible exact Below.size (by assumption)) | go_size))⟩

theorem own : ownKnob Try.prog.godebug = none := by kernel_rfl
theorem laidOut : laidOutB Try.prog = true := by kernel_rfl

set_option maxRecDepth 100000 in
theorem lifted (os : Os) (started : os.Started) (H : Type) (enc : TypeId × Value → H) :
    ReturnsInHanded {} Try.checked os 5 .any (Rows.wideApartSpec.pre6 enc Try.prog Try.f5 Rows.wideApartRow.domain false) (Rows.wideApartSpec.post enc Try.prog Try.f5 false true false false) := by
  refine returnsInHanded_of_change (C := Try.checked) own started (by kernel_rfl) Try.func5
    (ChangeSpec.witness6 (enc := enc) (C := Try.checked) false ⟨#[], #[.int .u32 0, .int .u32 0], []⟩ 8 (by kernel_rfl) (by kernel_rfl) (by kernel_rfl) (by kernel_rfl)) ?_
  intro W base args ds gs before hval0 hW hcnd _
  have hval : ∀ (j : Nat) t v, Try.f5.params[j]? = some t → args[j]? = some v → Value.okWide Try.prog W .any base t v := hval0
  have hW' := hW
  obtain ⟨p, q, hA0, hV, rfl, hfz, hnd⟩ := hW
  have hA : DataW.TrodAll enc Try.prog W 0 (fun _ => true) true Try.f5.params.toList args.toList ds p := hA0
  rw [Try.params5] at hA hval
  obtain ⟨v0, vs0, d0, ds0, p0, q0, hargs, rfl, rfl, h0, r0⟩ := trodAll_cons hA
  obtain ⟨v1, vs1, d1, ds1, p1, q1, rfl, rfl, rfl, h1, r1⟩ := trodAll_cons r0
  obtain ⟨rfl, rfl, rfl⟩ := trodAll_nil r1
  obtain rfl : args = #[v0, v1] := by cases args; simp_all
  obtain ⟨rfl, rfl⟩ := trodVars_none hV
  obtain ⟨a0, rfl, rfl, rfl, w0⟩ := open_int Try.underlying22 (hval 0 22 v0 rfl rfl) h0
  have b0 : 0 ≤ a0 ∧ a0 < 4294967296 := by
    have : 0 ≤ a0 ∧ a0 ≤ 4294967295 := by simpa [Lit.wf, IntKind.min, IntKind.max, IntKind.signed, IntKind.bits] using w0
    omega
  obtain ⟨a1, rfl, rfl, rfl, w1⟩ := open_int Try.underlying22 (hval 1 22 v1 rfl rfl) h1
  have b1 : 0 ≤ a1 ∧ a1 < 4294967296 := by
    have : 0 ≤ a1 ∧ a1 ≤ 4294967295 := by simpa [Lit.wf, IntKind.min, IntKind.max, IntKind.signed, IntKind.bits] using w1
    omega
  clear hA0 hval0
  simp only [List.append_nil] at hW'
  refine (main a0 b0 a1 b1 W).mono fun e W' ⟨he, bel⟩ => ?_
  subst he
  exact ⟨_, rfl, _, _, _, [], _, [], hW', trodAll_mk1 (shut_bool Try.underlying4 _), (trodAll_cons_mk (shut_int Try.underlying22 w0) (trodAll_cons_mk (shut_int Try.underlying22 w1) trodAll_mk0)), rfl, by simpa using bel.frame _, fun h => by cases h⟩

theorem over : Rows.wideApartRow.holds Try.pinned (OpenSpec.ofChange Rows.wideApartSpec) :=
  OpenClaim.holds_of_wide 5 Try.f5 rfl rfl rfl rfl rfl rfl rfl ⟨rfl, rfl, rfl, rfl, rfl⟩ rfl rfl rfl rfl rfl (by kernel_rfl) Try.func5 (by kernel_rfl)
    (of_decide_eq_true (by kernel_rfl)) (by unfold Func.isWrapper; first | (rw [if_pos (by decide +kernel)]; kernel_rfl) | (rw [if_neg (by decide +kernel)]; exact ⟨rfl, rfl⟩))
    (fun os started H enc _ => lifted os started H enc)

theorem proved : Rows.WideApartSaid :=
  over
#print axioms proved
end Go.Proofs.Ytplhoiokfjjcdaa.wideApart
