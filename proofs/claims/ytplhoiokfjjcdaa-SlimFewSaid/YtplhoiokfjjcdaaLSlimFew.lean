/- For every parcel: one of the quarter 3 stands for nothing; one of the quarter 0 names registers of few, and the stack. -/
import Derived.Test.YtplhoiokfjjcdaaRows
import Derived.WalkKit
import Derived.ProofKit
import Derived.OpenShut
import Derived.ShutString
import Derived.ChangeOld
import Derived.Below
import Derived.Test.YtplhoiokfjjcdaaSlimAw
namespace Go.Proofs.Ytplhoiokfjjcdaa.slimFew
open Go.ChangeShapes Go.WideShapes Go.ChangeAt Go.RowKit
open Go.ChangeMaps (open_string shut_string)
set_option linter.unusedVariables false

open Go.Proofs.Ytplhoiokfjjcdaa.P Go.Proofs.Ytplhoiokfjjcdaa.W

theorem fld02 (x : Int) : fld x 0 2 = x % 4 := by unfold fld; simp
theorem cases4 (x : Int) : (x % 4 = 3 ∧ qAll x = .none) ∨ (x % 4 = 1 ∨ x % 4 = 2) ∨ (x % 4 = 0 ∧ (qAll x = .none ∨ (∃ r u, qAll x = ⟨19, r, 2, 0, u⟩ ∧ 8 ≤ r ∧ r < 16 ∧ 0 < u ∧ u < 1024 ∧ u % 4 = 0) ∨
    (∃ r s v, qAll x = ⟨13, r, s, 0, v⟩ ∧ 8 ≤ r ∧ r < 16 ∧ 8 ≤ s ∧ s < 16 ∧ 0 ≤ v ∧ v < 128) ∨ (∃ r s v, qAll x = ⟨18, 0, r, s, v⟩ ∧ 8 ≤ r ∧ r < 16 ∧ 8 ≤ s ∧ s < 16 ∧ 0 ≤ v ∧ v < 128))) := by
  have r1 : 8 ≤ sR1 x ∧ sR1 x < 16 := by have := S.f3_lt x 7; unfold sR1; omega
  have r2 : 8 ≤ sR2 x ∧ sR2 x < 16 := by have := S.f3_lt x 2; unfold sR2; omega
  have hu := bitsV_bd x lU
  have hv := bitsV_bd x lV
  have e1 : (2 : Int) ^ lU.length = 256 := by decide
  have e2 : (2 : Int) ^ lV.length = 32 := by decide
  rw [e1] at hu
  rw [e2] at hv
  have h4 : x % 4 = 0 ∨ x % 4 = 1 ∨ x % 4 = 2 ∨ x % 4 = 3 := by omega
  unfold qAll
  rw [fld02]
  rcases h4 with h | h | h | h
  · refine .inr (.inr ⟨h, ?_⟩)
    rw [h, if_pos rfl]
    unfold q0
    by_cases f0 : sF x = 0
    · rw [if_pos f0]
      by_cases u0 : sU x = 0
      · rw [if_pos u0]; exact .inl rfl
      · rw [if_neg u0]
        refine .inr (.inl ⟨_, _, rfl, r2.1, r2.2, ?_⟩)
        unfold sU at *
        omega
    · rw [if_neg f0]
      by_cases f2 : sF x = 2
      · rw [if_pos f2]
        refine .inr (.inr (.inl ⟨_, _, _, rfl, r2.1, r2.2, r1.1, r1.2, ?_⟩))
        unfold sV
        omega
      · rw [if_neg f2]
        by_cases f6 : sF x = 6
        · rw [if_pos f6]
          refine .inr (.inr (.inr ⟨_, _, _, rfl, r1.1, r1.2, r2.1, r2.2, ?_⟩))
          unfold sV
          omega
        · rw [if_neg f6]; exact .inl rfl
  · exact .inr (.inl (.inl h))
  · exact .inr (.inl (.inr h))
  · exact .inl ⟨h, by rw [h]; rfl⟩

theorem few (n : Int) (w : World) :
    Calls Try.prog 29 #[.int .i64 n] w fun e w' => e = .returned (.bool (decide (8 ≤ n) && decide (n < 16))) ∧ w = w' := by
  go_enter Try.func29, Try.ntmps29
  go_wp2
  all_goals go_ret
  all_goals exact ⟨ret_bool (by first | (simp_all; done) | (simp_all; omega)), rfl⟩

/-- the walk, with the instruction written out -/
theorem walk (x op rd rs1 rs2 imm : Int) (w : World) (h0 : 0 ≤ x) (h1 : x < 65536) (hq : qAll x = ⟨op, rd, rs1, rs2, imm⟩)
    (hc : (x % 4 = 3 ∧ op = 0 ∧ rd = 0 ∧ rs1 = 0 ∧ rs2 = 0 ∧ imm = 0) ∨ (x % 4 = 1 ∨ x % 4 = 2) ∨ (x % 4 = 0 ∧ ((op = 0 ∧ rd = 0 ∧ rs1 = 0 ∧ rs2 = 0 ∧ imm = 0) ∨ (op = 19 ∧ rs1 = 2 ∧ 8 ≤ rd ∧ rd < 16 ∧ 0 < imm ∧ imm < 1024 ∧ imm % 4 = 0) ∨
      (op = 13 ∧ 8 ≤ rd ∧ rd < 16 ∧ 8 ≤ rs1 ∧ rs1 < 16 ∧ 0 ≤ imm ∧ imm < 128) ∨ (op = 18 ∧ 8 ≤ rs1 ∧ rs1 < 16 ∧ 8 ≤ rs2 ∧ rs2 < 16 ∧ 0 ≤ imm ∧ imm < 128)))) :
    Calls Try.prog 8 #[.int .u16 x] w fun e w' => e = .returned (.bool true) ∧ Below w.heap.size w w' := by
  have HX : ∀ w, Calls Try.prog 27 #[.int .u16 x] w fun e w' => e = .returned (.tuple #[.agg #[.int .i64 op, .int .i64 rd, .int .i64 rs1, .int .i64 rs2, .int .i32 imm], .bool (!(op == 0))]) ∧ Below w.heap.size w w' := by
    intro w
    have := S.Expand x w h0 h1
    rw [hq] at this
    exact this
  clear hq
  have hm : 0 ≤ x % 4 ∧ x % 4 < 4 := by omega
  rcases hc with ⟨h4, rfl, rfl, rfl, rfl, rfl⟩ | (h4 | h4) | ⟨h4, ⟨rfl, rfl, rfl, rfl, rfl⟩ | ⟨rfl, rfl, a1, a2, a3, a4, a5⟩ | ⟨rfl, a1, a2, a3, a4, a5, a6⟩ | ⟨rfl, a1, a2, a3, a4, a5, a6⟩⟩
  all_goals
    replace HX := hid HX
    go_enter Try.func8, Try.ntmps8
    go_wp2_with fail
    refine (A5.awake _).mono ?_
    rintro e w1 ⟨rfl, hb1⟩
    go_wp2_with fail
    refine (HX.out _).mono ?_
    rintro e w2 ⟨rfl, hb2⟩
    have hb3 := bel_step hb1 hb2
    clear hb1 hb2
    go_wp2_with (first | (go_at_call 29; refine (few _ _).mono ?_; rintro e w' ⟨rfl, rfl⟩))
    all_goals go_ret
    all_goals exact ⟨by first | rfl | (simp; done) | (simp; omega), (by repeat' (first | (with_reducible exact Below.refl _ _) | (with_reducible assumption) | (with_reducible refine below_drewN ?_ _) | (with_reducible refine Below.alloc ?_ ?_ _) | (with_reducible refine Below.drew ?_) | (with_reducible refine Below.setCell ?_ ?_ _) | (with_reducible exact Below.size (by assumption)) | go_size))⟩

theorem main (x : Int) (b0 : 0 ≤ x ∧ x < 65536) (w : World) :
    Calls Try.prog 8 #[.int .u16 x] w fun e w' => e = .returned (.bool true) ∧ Below w.heap.size w w' := by
  obtain ⟨h0, h1⟩ := b0
  rcases cases4 x with ⟨h, e⟩ | h | ⟨h, e | ⟨r, u, e, a⟩ | ⟨r, s, v, e, a⟩ | ⟨r, s, v, e, a⟩⟩
  · exact walk x 0 0 0 0 0 w h0 h1 e (.inl ⟨h, rfl, rfl, rfl, rfl, rfl⟩)
  · exact walk x _ _ _ _ _ w h0 h1 rfl (.inr (.inl h))
  · exact walk x 0 0 0 0 0 w h0 h1 e (.inr (.inr ⟨h, .inl ⟨rfl, rfl, rfl, rfl, rfl⟩⟩))
  · exact walk x _ _ _ _ _ w h0 h1 e (.inr (.inr ⟨h, .inr (.inl ⟨rfl, rfl, a.1, a.2.1, a.2.2.1, a.2.2.2.1, a.2.2.2.2⟩)⟩))
  · exact walk x _ _ _ _ _ w h0 h1 e (.inr (.inr ⟨h, .inr (.inr (.inl ⟨rfl, a.1, a.2.1, a.2.2.1, a.2.2.2.1, a.2.2.2.2.1, a.2.2.2.2.2⟩))⟩))
  · exact walk x _ _ _ _ _ w h0 h1 e (.inr (.inr ⟨h, .inr (.inr (.inr ⟨rfl, a.1, a.2.1, a.2.2.1, a.2.2.2.1, a.2.2.2.2.1, a.2.2.2.2.2⟩))⟩))

theorem own : ownKnob Try.prog.godebug = none := by kernel_rfl
theorem laidOut : laidOutB Try.prog = true := by kernel_rfl

set_option maxRecDepth 100000 in
theorem lifted (os : Os) (started : os.Started) (H : Type) (enc : TypeId × Value → H) :
    ReturnsInHanded {} Try.checked os 8 .any (Rows.slimFewSpec.pre6 enc Try.prog Try.f8 Rows.slimFewRow.domain false) (Rows.slimFewSpec.post enc Try.prog Try.f8 false true false false) := by
  refine returnsInHanded_of_change (C := Try.checked) own started (by kernel_rfl) Try.func8
    (ChangeSpec.witness6 (enc := enc) (C := Try.checked) false ⟨#[], #[.int .u16 0], []⟩ 8 (by kernel_rfl) (by kernel_rfl) (by kernel_rfl) (by kernel_rfl)) ?_
  intro W base args ds gs before hval0 hW hcnd _
  have hval : ∀ (j : Nat) t v, Try.f8.params[j]? = some t → args[j]? = some v → Value.okWide Try.prog W .any base t v := hval0
  have hW' := hW
  obtain ⟨p, q, hA0, hV, rfl, hfz, hnd⟩ := hW
  have hA : DataW.TrodAll enc Try.prog W 0 (fun _ => true) true Try.f8.params.toList args.toList ds p := hA0
  rw [Try.params8] at hA hval
  obtain ⟨v0, vs0, d0, ds0, p0, q0, hargs, rfl, rfl, h0, r0⟩ := trodAll_cons hA
  obtain ⟨rfl, rfl, rfl⟩ := trodAll_nil r0
  obtain rfl : args = #[v0] := by cases args; simp_all
  obtain ⟨rfl, rfl⟩ := trodVars_none hV
  obtain ⟨a0, rfl, rfl, rfl, w0⟩ := open_int Try.underlying33 (hval 0 33 v0 rfl rfl) h0
  have b0 : 0 ≤ a0 ∧ a0 < 65536 := by
    have : 0 ≤ a0 ∧ a0 ≤ 65535 := by simpa [Lit.wf, IntKind.min, IntKind.max, IntKind.signed, IntKind.bits] using w0
    omega
  clear hA0 hval0
  simp only [List.append_nil] at hW'
  refine (main a0 b0 W).mono fun e W' ⟨he, bel⟩ => ?_
  subst he
  exact ⟨_, rfl, _, _, _, [], _, [], hW', trodAll_mk1 (shut_bool Try.underlying4 _), (trodAll_cons_mk (shut_int Try.underlying33 w0) trodAll_mk0), rfl, by simpa using bel.frame _, fun h => by cases h⟩

theorem over : Rows.slimFewRow.holds Try.pinned (OpenSpec.ofChange Rows.slimFewSpec) :=
  OpenClaim.holds_of_wide 8 Try.f8 rfl rfl rfl rfl rfl rfl rfl ⟨rfl, rfl, rfl, rfl, rfl⟩ rfl rfl rfl rfl rfl (by kernel_rfl) Try.func8 (by kernel_rfl)
    (of_decide_eq_true (by kernel_rfl)) (by unfold Func.isWrapper; first | (rw [if_pos (by decide +kernel)]; kernel_rfl) | (rw [if_neg (by decide +kernel)]; exact ⟨rfl, rfl⟩))
    (fun os started H enc _ => lifted os started H enc)

theorem proved : Rows.SlimFewSaid :=
  over
#print axioms proved
end Go.Proofs.Ytplhoiokfjjcdaa.slimFew
