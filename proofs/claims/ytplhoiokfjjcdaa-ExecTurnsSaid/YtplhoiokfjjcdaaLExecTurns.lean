/- For all registers: of a branch, and the one that asks the other way round, just one goes where it says. -/
import Derived.Test.YtplhoiokfjjcdaaRows
import Derived.WalkKit
import Derived.ProofKit
import Derived.OpenShut
import Derived.ShutString
import Derived.ChangeOld
import Derived.Below
import Derived.Test.YtplhoiokfjjcdaaAwake06
namespace Go.Proofs.Ytplhoiokfjjcdaa.execTurns
open Go.ChangeShapes Go.WideShapes Go.ChangeAt Go.RowKit
open Go.ChangeMaps (open_string shut_string)
set_option linter.unusedVariables false

open Go.Proofs.Ytplhoiokfjjcdaa.P Go.Proofs.Ytplhoiokfjjcdaa.W Go.Proofs.Ytplhoiokfjjcdaa.X

theorem turn (op r1 r2 a b pc : Int) (h : 5 ≤ op ∧ op ≤ 10) (h1 : rg r1) (h2 : rg r2) :
    nextV op 0 r1 r2 64 a b pc 4 = if goB op a b = true then (pc + 64) % 4294967296 else (pc + 4) % 4294967296 := by
  have hm := may_branch (form_branch h) h1 h2 (imm := 64) (by decide) (by decide) (by decide)
  have e1 : (64 : Int) % 4294967296 = 64 := by decide
  have e2 : (4 : Int) % 4294967296 = 4 := by decide
  unfold nextV
  rw [hm, if_neg (by decide), e1, e2]
  by_cases g : goB op a b = true
  · rw [if_pos (.inr g), if_pos g]
  · rw [if_neg (fun h => h.elim (by omega) g), if_neg g, if_neg (by omega)]
theorem opposite (a b : Int) : goB 6 a b = !goB 5 a b ∧ goB 8 a b = !goB 7 a b ∧ goB 10 a b = !goB 9 a b := by
  refine ⟨?_, ?_, ?_⟩
  · simp [goB, bne]
  · simp [goB]
  · simp [goB]; by_cases h : a < b <;> simp [h] <;> omega

set_option maxHeartbeats 2000000 in
theorem walk (k o1 o2 which rs1 rs2 a b pc : Int) (g : Bool) (w : World) (hk : (k = 0 ∧ o1 = 5 ∧ o2 = 6) ∨ (k = 1 ∧ o1 = 7 ∧ o2 = 8) ∨ (k = 2 ∧ o1 = 9 ∧ o2 = 10)) (b0 : 0 ≤ which ∧ which < 256) (b1 : 0 ≤ rs1 ∧ rs1 < 256) (b2 : 0 ≤ rs2 ∧ rs2 < 256) (b3 : 0 ≤ a ∧ a < 4294967296) (b4 : 0 ≤ b ∧ b < 4294967296) (b5 : 0 ≤ pc ∧ pc < 4294967296)
    (hw : which % 3 = k) (hg1 : goB o1 a b = g) (hg2 : goB o2 a b = !g) :
    Calls Try.prog 9 #[.int .u8 which, .int .u8 rs1, .int .u8 rs2, .int .u32 a, .int .u32 b, .int .u32 pc] w fun e w' => e = .returned (.bool true) ∧ Below w.heap.size w w' := by
  have r1 : rg (rs1 % 32) := ⟨by omega, by omega⟩
  have r2 : rg (rs2 % 32) := ⟨by omega, by omega⟩
  have t1 := turn o1 (rs1 % 32) (rs2 % 32) a b pc (by omega) r1 r2
  have t2 := turn o2 (rs1 % 32) (rs2 % 32) a b pc (by omega) r1 r2
  have H1 := fun w => X.Next o1 0 (rs1 % 32) (rs2 % 32) 64 a b pc 4 w b3.1 b3.2 b4.1 b4.2
  have H2 := fun w => X.Next o2 0 (rs1 % 32) (rs2 % 32) 64 a b pc 4 w b3.1 b3.2 b4.1 b4.2
  rw [t1, hg1] at H1
  rw [t2, hg2] at H2
  have hne : ((pc + 64) % 4294967296 == (pc + 4) % 4294967296) = false := by simp only [beq_eq_false_iff_ne, ne_eq]; omega
  have hne2 : ((pc + 4) % 4294967296 == (pc + 64) % 4294967296) = false := by simp only [beq_eq_false_iff_ne, ne_eq]; omega
  clear t1 t2 r1 r2 hg1 hg2
  obtain ⟨m0, m1⟩ := b0
  obtain ⟨n0, n1⟩ := b1
  obtain ⟨l0, l1⟩ := b2
  replace H1 := hid H1
  replace H2 := hid H2
  rcases hk with ⟨rfl, rfl, rfl⟩ | ⟨rfl, rfl, rfl⟩ | ⟨rfl, rfl, rfl⟩ <;> cases g
  all_goals
    simp only [Bool.not_true, Bool.not_false, Bool.false_eq_true, ↓reduceIte] at H1 H2
    go_enter Try.func9, Try.ntmps9
    go_wp2_with (first | (go_at_call 30; (with_reducible refine (A6.awake _).mono ?_); rintro e w' ⟨rfl, hbel⟩; (try (with_reducible replace hbel := bel_undrew hbel)); (try (with_reducible replace hbel := bel_undrewN hbel)); have hbw := bel_step (w := w) (by repeat' (first | (with_reducible exact Below.refl _ _) | (with_reducible assumption) | (with_reducible refine below_drewN ?_ _) | (with_reducible refine Below.alloc ?_ ?_ _) | (with_reducible refine Below.drew ?_) | (with_reducible refine Below.setCell ?_ ?_ _) | (with_reducible exact Below.size (by assumption)) | go_size)) hbel; have hsw := hbw.size; have hsb := hbel.size; (try simp at hsb); (try (refine lay (p := w.heap.size < w'.heap.size) ?_ ?_; rotate_left; intro hq0; rotate_left; omega)); (try (refine lay (p := w.heap.size + 1 < w'.heap.size) ?_ ?_; rotate_left; intro hq1; rotate_left; omega)); (try (refine lay (p := w.heap.size + 2 < w'.heap.size) ?_ ?_; rotate_left; intro hq2; rotate_left; omega)); (try (refine lay (p := w.heap.size + 3 < w'.heap.size) ?_ ?_; rotate_left; intro hq3; rotate_left; omega)); (try (refine lay (p := w.heap.size + 4 < w'.heap.size) ?_ ?_; rotate_left; intro hq4; rotate_left; omega)); (try (refine lay (p := w.heap.size + 5 < w'.heap.size) ?_ ?_; rotate_left; intro hq5; rotate_left; omega)); obtain ⟨hcel, hfro⟩ := bcell hbel; clear hbel) | (go_at_call 31; (with_reducible refine (H1.out _).mono ?_); rintro e w' ⟨rfl, hbel⟩; (try (with_reducible replace hbel := bel_undrew hbel)); (try (with_reducible replace hbel := bel_undrewN hbel)); have hbw := bel_step (w := w) (by repeat' (first | (with_reducible exact Below.refl _ _) | (with_reducible assumption) | (with_reducible refine below_drewN ?_ _) | (with_reducible refine Below.alloc ?_ ?_ _) | (with_reducible refine Below.drew ?_) | (with_reducible refine Below.setCell ?_ ?_ _) | (with_reducible exact Below.size (by assumption)) | go_size)) hbel; have hsw := hbw.size; have hsb := hbel.size; (try simp at hsb); (try (refine lay (p := w.heap.size < w'.heap.size) ?_ ?_; rotate_left; intro hq0; rotate_left; omega)); (try (refine lay (p := w.heap.size + 1 < w'.heap.size) ?_ ?_; rotate_left; intro hq1; rotate_left; omega)); (try (refine lay (p := w.heap.size + 2 < w'.heap.size) ?_ ?_; rotate_left; intro hq2; rotate_left; omega)); (try (refine lay (p := w.heap.size + 3 < w'.heap.size) ?_ ?_; rotate_left; intro hq3; rotate_left; omega)); (try (refine lay (p := w.heap.size + 4 < w'.heap.size) ?_ ?_; rotate_left; intro hq4; rotate_left; omega)); (try (refine lay (p := w.heap.size + 5 < w'.heap.size) ?_ ?_; rotate_left; intro hq5; rotate_left; omega)); obtain ⟨hcel, hfro⟩ := bcell hbel; clear hbel) | (go_at_call 31; (with_reducible refine (H2.out _).mono ?_); rintro e w' ⟨rfl, hbel⟩; (try (with_reducible replace hbel := bel_undrew hbel)); (try (with_reducible replace hbel := bel_undrewN hbel)); have hbw := bel_step (w := w) (by repeat' (first | (with_reducible exact Below.refl _ _) | (with_reducible assumption) | (with_reducible refine below_drewN ?_ _) | (with_reducible refine Below.alloc ?_ ?_ _) | (with_reducible refine Below.drew ?_) | (with_reducible refine Below.setCell ?_ ?_ _) | (with_reducible exact Below.size (by assumption)) | go_size)) hbel; have hsw := hbw.size; have hsb := hbel.size; (try simp at hsb); (try (refine lay (p := w.heap.size < w'.heap.size) ?_ ?_; rotate_left; intro hq0; rotate_left; omega)); (try (refine lay (p := w.heap.size + 1 < w'.heap.size) ?_ ?_; rotate_left; intro hq1; rotate_left; omega)); (try (refine lay (p := w.heap.size + 2 < w'.heap.size) ?_ ?_; rotate_left; intro hq2; rotate_left; omega)); (try (refine lay (p := w.heap.size + 3 < w'.heap.size) ?_ ?_; rotate_left; intro hq3; rotate_left; omega)); (try (refine lay (p := w.heap.size + 4 < w'.heap.size) ?_ ?_; rotate_left; intro hq4; rotate_left; omega)); (try (refine lay (p := w.heap.size + 5 < w'.heap.size) ?_ ?_; rotate_left; intro hq5; rotate_left; omega)); obtain ⟨hcel, hfro⟩ := bcell hbel; clear hbel))
    go_ret
    exact ⟨rfl, (by repeat' (first | (with_reducible exact Below.refl _ _) | (with_reducible assumption) | (with_reducible refine below_drewN ?_ _) | (with_reducible refine Below.alloc ?_ ?_ _) | (with_reducible refine Below.drew ?_) | (with_reducible refine Below.setCell ?_ ?_ _) | (with_reducible exact Below.size (by assumption)) | go_size))⟩

theorem main (which : Int) (b0 : 0 ≤ which ∧ which < 256) (rs1 : Int) (b1 : 0 ≤ rs1 ∧ rs1 < 256) (rs2 : Int) (b2 : 0 ≤ rs2 ∧ rs2 < 256) (a : Int) (b3 : 0 ≤ a ∧ a < 4294967296) (b : Int) (b4 : 0 ≤ b ∧ b < 4294967296) (pc : Int) (b5 : 0 ≤ pc ∧ pc < 4294967296) (w : World) :
    Calls Try.prog 9 #[.int .u8 which, .int .u8 rs1, .int .u8 rs2, .int .u32 a, .int .u32 b, .int .u32 pc] w fun e w' => e = .returned (.bool true) ∧ Below w.heap.size w w' := by
  obtain ⟨o1, o2, o3⟩ := opposite a b
  have h : which % 3 = 0 ∨ which % 3 = 1 ∨ which % 3 = 2 := by omega
  rcases h with h | h | h
  · exact walk 0 5 6 which rs1 rs2 a b pc _ w (by omega) b0 b1 b2 b3 b4 b5 h rfl o1
  · exact walk 1 7 8 which rs1 rs2 a b pc _ w (by omega) b0 b1 b2 b3 b4 b5 h rfl o2
  · exact walk 2 9 10 which rs1 rs2 a b pc _ w (by omega) b0 b1 b2 b3 b4 b5 h rfl o3

theorem own : ownKnob Try.prog.godebug = none := by kernel_rfl
theorem laidOut : laidOutB Try.prog = true := by kernel_rfl

set_option maxRecDepth 100000 in
theorem lifted (os : Os) (started : os.Started) (H : Type) (enc : TypeId × Value → H) :
    ReturnsInHanded {} Try.checked os 9 .any (Rows.execTurnsSpec.pre6 enc Try.prog Try.f9 Rows.execTurnsRow.domain false) (Rows.execTurnsSpec.post enc Try.prog Try.f9 false true false false) := by
  refine returnsInHanded_of_change (C := Try.checked) own started (by kernel_rfl) Try.func9
    (ChangeSpec.witness6 (enc := enc) (C := Try.checked) false ⟨#[], #[.int .u8 0, .int .u8 0, .int .u8 0, .int .u32 0, .int .u32 0, .int .u32 0], []⟩ 8 (by kernel_rfl) (by kernel_rfl) (by kernel_rfl) (by kernel_rfl)) ?_
  intro W base args ds gs before hval0 hW hcnd _
  have hval : ∀ (j : Nat) t v, Try.f9.params[j]? = some t → args[j]? = some v → Value.okWide Try.prog W .any base t v := hval0
  have hW' := hW
  obtain ⟨p, q, hA0, hV, rfl, hfz, hnd⟩ := hW
  have hA : DataW.TrodAll enc Try.prog W 0 (fun _ => true) true Try.f9.params.toList args.toList ds p := hA0
  rw [Try.params9] at hA hval
  obtain ⟨v0, vs0, d0, ds0, p0, q0, hargs, rfl, rfl, h0, r0⟩ := trodAll_cons hA
  obtain ⟨v1, vs1, d1, ds1, p1, q1, rfl, rfl, rfl, h1, r1⟩ := trodAll_cons r0
  obtain ⟨v2, vs2, d2, ds2, p2, q2, rfl, rfl, rfl, h2, r2⟩ := trodAll_cons r1
  obtain ⟨v3, vs3, d3, ds3, p3, q3, rfl, rfl, rfl, h3, r3⟩ := trodAll_cons r2
  obtain ⟨v4, vs4, d4, ds4, p4, q4, rfl, rfl, rfl, h4, r4⟩ := trodAll_cons r3
  obtain ⟨v5, vs5, d5, ds5, p5, q5, rfl, rfl, rfl, h5, r5⟩ := trodAll_cons r4
  obtain ⟨rfl, rfl, rfl⟩ := trodAll_nil r5
  obtain rfl : args = #[v0, v1, v2, v3, v4, v5] := by cases args; simp_all
  obtain ⟨rfl, rfl⟩ := trodVars_none hV
  obtain ⟨a0, rfl, rfl, rfl, w0⟩ := open_int Try.underlying5 (hval 0 5 v0 rfl rfl) h0
  have b0 : 0 ≤ a0 ∧ a0 < 256 := by
    have : 0 ≤ a0 ∧ a0 ≤ 255 := by simpa [Lit.wf, IntKind.min, IntKind.max, IntKind.signed, IntKind.bits] using w0
    omega
  obtain ⟨a1, rfl, rfl, rfl, w1⟩ := open_int Try.underlying5 (hval 1 5 v1 rfl rfl) h1
  have b1 : 0 ≤ a1 ∧ a1 < 256 := by
    have : 0 ≤ a1 ∧ a1 ≤ 255 := by simpa [Lit.wf, IntKind.min, IntKind.max, IntKind.signed, IntKind.bits] using w1
    omega
  obtain ⟨a2, rfl, rfl, rfl, w2⟩ := open_int Try.underlying5 (hval 2 5 v2 rfl rfl) h2
  have b2 : 0 ≤ a2 ∧ a2 < 256 := by
    have : 0 ≤ a2 ∧ a2 ≤ 255 := by simpa [Lit.wf, IntKind.min, IntKind.max, IntKind.signed, IntKind.bits] using w2
    omega
  obtain ⟨a3, rfl, rfl, rfl, w3⟩ := open_int Try.underlying22 (hval 3 22 v3 rfl rfl) h3
  have b3 : 0 ≤ a3 ∧ a3 < 4294967296 := by
    have : 0 ≤ a3 ∧ a3 ≤ 4294967295 := by simpa [Lit.wf, IntKind.min, IntKind.max, IntKind.signed, IntKind.bits] using w3
    omega
  obtain ⟨a4, rfl, rfl, rfl, w4⟩ := open_int Try.underlying22 (hval 4 22 v4 rfl rfl) h4
  have b4 : 0 ≤ a4 ∧ a4 < 4294967296 := by
    have : 0 ≤ a4 ∧ a4 ≤ 4294967295 := by simpa [Lit.wf, IntKind.min, IntKind.max, IntKind.signed, IntKind.bits] using w4
    omega
  obtain ⟨a5, rfl, rfl, rfl, w5⟩ := open_int Try.underlying22 (hval 5 22 v5 rfl rfl) h5
  have b5 : 0 ≤ a5 ∧ a5 < 4294967296 := by
    have : 0 ≤ a5 ∧ a5 ≤ 4294967295 := by simpa [Lit.wf, IntKind.min, IntKind.max, IntKind.signed, IntKind.bits] using w5
    omega
  clear hA0 hval0
  simp only [List.append_nil] at hW'
  refine (main a0 b0 a1 b1 a2 b2 a3 b3 a4 b4 a5 b5 W).mono fun e W' ⟨he, bel⟩ => ?_
  subst he
  exact ⟨_, rfl, _, _, _, [], _, [], hW', trodAll_mk1 (shut_bool Try.underlying4 _), (trodAll_cons_mk (shut_int Try.underlying5 w0) (trodAll_cons_mk (shut_int Try.underlying5 w1) (trodAll_cons_mk (shut_int Try.underlying5 w2) (trodAll_cons_mk (shut_int Try.underlying22 w3) (trodAll_cons_mk (shut_int Try.underlying22 w4) (trodAll_cons_mk (shut_int Try.underlying22 w5) trodAll_mk0)))))), rfl, by simpa using bel.frame _, fun h => by cases h⟩

theorem over : Rows.execTurnsRow.holds Try.pinned (OpenSpec.ofChange Rows.execTurnsSpec) :=
  OpenClaim.holds_of_wide 9 Try.f9 rfl rfl rfl rfl rfl rfl rfl ⟨rfl, rfl, rfl, rfl, rfl⟩ rfl rfl rfl rfl rfl (by kernel_rfl) Try.func9 (by kernel_rfl)
    (of_decide_eq_true (by kernel_rfl)) (by unfold Func.isWrapper; first | (rw [if_pos (by decide +kernel)]; kernel_rfl) | (rw [if_neg (by decide +kernel)]; exact ⟨rfl, rfl⟩))
    (fun os started H enc _ => lifted os started H enc)

theorem proved : Rows.ExecTurnsSaid :=
  over
#print axioms proved
end Go.Proofs.Ytplhoiokfjjcdaa.execTurns
