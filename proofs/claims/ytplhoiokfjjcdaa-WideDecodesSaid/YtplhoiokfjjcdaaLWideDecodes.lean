/- For every word: it is the instruction that the reference says, or none; what is decoded may be. -/
import Derived.Test.YtplhoiokfjjcdaaRows
import Derived.WalkKit
import Derived.ProofKit
import Derived.OpenShut
import Derived.ShutString
import Derived.ChangeOld
import Derived.Below
import Derived.Test.YtplhoiokfjjcdaaAwake04
import Derived.Test.YtplhoiokfjjcdaaDec04
import Derived.Test.YtplhoiokfjjcdaaMay03
namespace Go.Proofs.Ytplhoiokfjjcdaa.wideDecodes
open Go.ChangeShapes Go.WideShapes Go.ChangeAt Go.RowKit
open Go.ChangeMaps (open_string shut_string)
set_option linter.unusedVariables false

open Go.Proofs.Ytplhoiokfjjcdaa.P Go.Proofs.Ytplhoiokfjjcdaa.W

theorem sgn12 (v : Int) (h0 : -2048 ≤ v) (h1 : v < 2048) : sgn (v % 4294967296) 12 = v := by
  have e : (2 : Int) ^ 12 = 4096 := by decide
  unfold sgn; rw [e]; split <;> omega
theorem sgn13 (v : Int) (h0 : -4096 ≤ v) (h1 : v < 4096) : sgn (v % 4294967296) 13 = v := by
  have e : (2 : Int) ^ 13 = 8192 := by decide
  unfold sgn; rw [e]; split <;> omega
theorem sgn21 (v : Int) (h0 : -1048576 ≤ v) (h1 : v < 1048576) : sgn (v % 4294967296) 21 = v := by
  have e : (2 : Int) ^ 21 = 2097152 := by decide
  unfold sgn; rw [e]; split <;> omega
set_option maxHeartbeats 4000000 in
theorem may_dec (x : Int) (h : opN x ≠ 0) : mayB (opN x) (dRd x) (dRs1 x) (dRs2 x) (dImm x) = true := by
  obtain ⟨_, _, _, _, _, p1, p2⟩ := opN_code h
  have hf : form (opN x) ≠ 0 := fun e => h (R4.form_zero (R4.opN_rng x) e)
  have hb := form_bd (opN x)
  have i := immI_eq x
  have s := immS_eq x
  have b := immB_eq x
  have u := immU_eq x
  have j := immJ_eq x
  obtain ⟨r0, r1⟩ := r5_bd x 7
  obtain ⟨r2, r3⟩ := r5_bd x 15
  obtain ⟨r4, r5⟩ := r5_bd x 20
  have hff : form (opN x) = 1 ∨ form (opN x) = 2 ∨ form (opN x) = 3 ∨ form (opN x) = 4 ∨ form (opN x) = 5 ∨ form (opN x) = 6 ∨ form (opN x) = 7 ∨ form (opN x) = 8 ∨ form (opN x) = 9 := by omega
  unfold mayB dRd dRs1 dRs2 dImm
  generalize form (opN x) = f at *
  have si : sgn (immI x % 4294967296) 12 = immI x := sgn12 _ (by rw [i]; omega) (by rw [i]; omega)
  have ss : sgn (immS x % 4294967296) 12 = immS x := sgn12 _ (by rw [s]; omega) (by rw [s]; omega)
  have sb : sgn (immB x % 4294967296) 13 = immB x := sgn13 _ (by rw [b]; omega) (by rw [b]; omega)
  have sj : sgn (immJ x % 4294967296) 21 = immJ x := sgn21 _ (by rw [j]; omega) (by rw [j]; omega)
  have mb : immB x % 2 = 0 := by rw [b]; omega
  have mj : immJ x % 2 = 0 := by rw [j]; omega
  have mu : immU x % 4096 = 0 := by rw [u]; omega
  clear i s b u j h hf hb
  rcases hff with rfl | rfl | rfl | rfl | rfl | rfl | rfl | rfl | rfl
  all_goals simp [hasRd, hasRs1, hasRs2, regB, numB, immOf]
  all_goals (repeat' (apply And.intro)) <;> assumption

theorem dImm_bd (x : Int) (h0 : 0 ≤ x) (h1 : x < 4294967296) : -2147483648 ≤ dImm x ∧ dImm x < 2147483648 := by
  have i := immI_eq x
  have s := immS_eq x
  have b := immB_eq x
  have u := immU_eq x
  have j := immJ_eq x
  obtain ⟨r4, r5⟩ := r5_bd x 20
  unfold dImm immOf
  repeat' split
  all_goals first | (rw [i]; omega) | (rw [s]; omega) | (rw [b]; omega) | (rw [u]; omega) | (rw [j]; omega) | omega

open Go.Proofs.Ytplhoiokfjjcdaa.W in
set_option maxHeartbeats 1000000 in
theorem main (x : Int) (b0 : 0 ≤ x ∧ x < 4294967296) (w : World) :
    Calls Try.prog 3 #[.int .u32 x] w fun e w' => e = .returned (.bool true) ∧ Below w.heap.size w w' := by
  obtain ⟨h0, h1⟩ := b0
  have hmay : Hid (opN x ≠ 0 → mayB (opN x) (dRd x) (dRs1 x) (dRs2 x) (dImm x) = true) := hid (may_dec x)
  have hr := R4.opN_rng x
  have hi0 : -2147483648 ≤ dImm x ∧ dImm x < 2147483648 := dImm_bd x h0 h1
  go_enter Try.func3, Try.ntmps3
  go_wp2_with fail
  refine (A4.awake _).mono ?_
  rintro e w1 ⟨rfl, hb1⟩
  go_wp2_with fail
  refine (V.Decode _ _ h0 h1).mono ?_
  rintro e w2 ⟨rfl, hb2⟩
  have hb3 := bel_step hb1 hb2
  clear hb1 hb2 w1
  have hV : decV x = .tuple #[.agg #[.int .i64 (opN x), .int .i64 (dRd x), .int .i64 (dRs1 x), .int .i64 (dRs2 x), .int .i32 (dImm x)], .bool (!(opN x == 0))] := rfl
  have hD := fun w => R4.Decode x w h0 h1
  rw [hV] at hD ⊢
  replace hD := hid hD
  clear hV
  generalize opN x = o1 at *
  generalize dRd x = p1 at *
  generalize dRs1 x = p2 at *
  generalize dRs2 x = p3 at *
  generalize dImm x = p4 at *
  go_wp2_with fail
  have z1 := Inst.new w2 25 (.int .i64 o1) (.int .i64 p1) (.int .i64 p2) (.int .i64 p3) (.int .i32 p4)
  have hb4 := bel_step hb3 (below_alloc w2 (.cells #[.int .i64 o1, .int .i64 p1, .int .i64 p2, .int .i64 p3, .int .i32 p4] 25))
  generalize w2.alloc (.cells #[.int .i64 o1, .int .i64 p1, .int .i64 p2, .int .i64 p3, .int .i32 p4] 25) = w3 at *
  generalize w2.heap.size = a1 at *
  refine (hD.out _).mono ?_
  rintro e w4 ⟨rfl, hb5⟩
  have hb6 := bel_step hb4 hb5
  replace z1 := z1.below hb5 z1.lt
  clear hb3 hb4 hb5 w2 w3
  have hbs := hb6.size
  obtain ⟨zl, c0, c1, c2, c3, c4⟩ := z1
  cases hz : (o1 == 0)
  · have hm := hmay.out (beq_eq_false_iff_ne.1 hz)
    clear hmay
    go_wp2_with (go_at_call 15; refine (R3.May _ _ _ _ _ _ (by omega) (by omega) (by omega) (by omega)).mono ?_; rintro e w5 ⟨rfl, hb7⟩)
    go_ret
    exact ⟨rfl, bel_step (w := w) (by repeat' (first | (with_reducible exact Below.refl _ _) | (with_reducible assumption) | (with_reducible refine below_drewN ?_ _) | (with_reducible refine Below.alloc ?_ ?_ _) | (with_reducible refine Below.drew ?_) | (with_reducible refine Below.setCell ?_ ?_ _) | (with_reducible exact Below.size (by assumption)) | go_size)) hb7⟩
  · go_wp2
    go_ret
    exact ⟨rfl, (by repeat' (first | (with_reducible exact Below.refl _ _) | (with_reducible assumption) | (with_reducible refine below_drewN ?_ _) | (with_reducible refine Below.alloc ?_ ?_ _) | (with_reducible refine Below.drew ?_) | (with_reducible refine Below.setCell ?_ ?_ _) | (with_reducible exact Below.size (by assumption)) | go_size))⟩

theorem own : ownKnob Try.prog.godebug = none := by kernel_rfl
theorem laidOut : laidOutB Try.prog = true := by kernel_rfl

set_option maxRecDepth 100000 in
theorem lifted (os : Os) (started : os.Started) (H : Type) (enc : TypeId × Value → H) :
    ReturnsInHanded {} Try.checked os 3 .any (Rows.wideDecodesSpec.pre6 enc Try.prog Try.f3 Rows.wideDecodesRow.domain false) (Rows.wideDecodesSpec.post enc Try.prog Try.f3 false true false false) := by
  refine returnsInHanded_of_change (C := Try.checked) own started (by kernel_rfl) Try.func3
    (ChangeSpec.witness6 (enc := enc) (C := Try.checked) false ⟨#[], #[.int .u32 0], []⟩ 8 (by kernel_rfl) (by kernel_rfl) (by kernel_rfl) (by kernel_rfl)) ?_
  intro W base args ds gs before hval0 hW hcnd _
  have hval : ∀ (j : Nat) t v, Try.f3.params[j]? = some t → args[j]? = some v → Value.okWide Try.prog W .any base t v := hval0
  have hW' := hW
  obtain ⟨p, q, hA0, hV, rfl, hfz, hnd⟩ := hW
  have hA : DataW.TrodAll enc Try.prog W 0 (fun _ => true) true Try.f3.params.toList args.toList ds p := hA0
  rw [Try.params3] at hA hval
  obtain ⟨v0, vs0, d0, ds0, p0, q0, hargs, rfl, rfl, h0, r0⟩ := trodAll_cons hA
  obtain ⟨rfl, rfl, rfl⟩ := trodAll_nil r0
  obtain rfl : args = #[v0] := by cases args; simp_all
  obtain ⟨rfl, rfl⟩ := trodVars_none hV
  obtain ⟨a0, rfl, rfl, rfl, w0⟩ := open_int Try.underlying22 (hval 0 22 v0 rfl rfl) h0
  have b0 : 0 ≤ a0 ∧ a0 < 4294967296 := by
    have : 0 ≤ a0 ∧ a0 ≤ 4294967295 := by simpa [Lit.wf, IntKind.min, IntKind.max, IntKind.signed, IntKind.bits] using w0
    omega
  clear hA0 hval0
  simp only [List.append_nil] at hW'
  refine (main a0 b0 W).mono fun e W' ⟨he, bel⟩ => ?_
  subst he
  exact ⟨_, rfl, _, _, _, [], _, [], hW', trodAll_mk1 (shut_bool Try.underlying4 _), (trodAll_cons_mk (shut_int Try.underlying22 w0) trodAll_mk0), rfl, by simpa using bel.frame _, fun h => by cases h⟩

theorem over : Rows.wideDecodesRow.holds Try.pinned (OpenSpec.ofChange Rows.wideDecodesSpec) :=
  OpenClaim.holds_of_wide 3 Try.f3 rfl rfl rfl rfl rfl rfl rfl ⟨rfl, rfl, rfl, rfl, rfl⟩ rfl rfl rfl rfl rfl (by kernel_rfl) Try.func3 (by kernel_rfl)
    (of_decide_eq_true (by kernel_rfl)) (by unfold Func.isWrapper; first | (rw [if_pos (by decide +kernel)]; kernel_rfl) | (rw [if_neg (by decide +kernel)]; exact ⟨rfl, rfl⟩))
    (fun os started H enc _ => lifted os started H enc)

theorem proved : Rows.WideDecodesSaid :=
  over
#print axioms proved
end Go.Proofs.Ytplhoiokfjjcdaa.wideDecodes
