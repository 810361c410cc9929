/- For every parcel: it stands for the instruction that the reference says, or for none; what it stands for may be. -/
import Derived.Test.YtplhoiokfjjcdaaRows
import Derived.WalkKit
import Derived.ProofKit
import Derived.OpenShut
import Derived.ShutString
import Derived.ChangeOld
import Derived.Below
import Derived.Test.YtplhoiokfjjcdaaSlimAw
import Derived.Test.YtplhoiokfjjcdaaSlimMay
import Derived.Test.YtplhoiokfjjcdaaRef05g
import Derived.Test.YtplhoiokfjjcdaaMay03
namespace Go.Proofs.Ytplhoiokfjjcdaa.slimExpands
open Go.ChangeShapes Go.WideShapes Go.ChangeAt Go.RowKit
open Go.ChangeMaps (open_string shut_string)
set_option linter.unusedVariables false

open Go.Proofs.Ytplhoiokfjjcdaa.P Go.Proofs.Ytplhoiokfjjcdaa.W

def small (i : I5) : Prop := -2147483648 ≤ i.imm ∧ i.imm < 2147483648
theorem small_of {op rd rs1 rs2 imm : Int} (h0 : -2147483648 ≤ imm) (h1 : imm < 2147483648) : small ⟨op, rd, rs1, rs2, imm⟩ := ⟨h0, h1⟩
theorem small_none : small .none := ⟨by decide, by decide⟩
theorem small_q0 (x : Int) : small (q0 x) := by
  have u := bdU x; have v := bdV x
  unfold q0
  repeat' (first | exact small_none | exact small_of (by omega) (by omega) | split)
theorem small_qUpper (x : Int) : small (qUpper x) := by
  have n := sN6_bd x; have a := bdA x
  unfold qUpper
  repeat' (first | exact small_none | exact small_of (by omega) (by omega) | split)
theorem small_qSums (x : Int) : small (qSums x) := by
  have n := sN6_bd x; have s := rg_rs2 x; unfold rg at s
  unfold qSums
  repeat' (first | exact small_none | exact small_of (by omega) (by omega) | split)
theorem small_qMoves (x : Int) : small (qMoves x) := by
  skip
  unfold qMoves
  repeat' (first | exact small_none | exact small_of (by omega) (by omega) | split)
theorem small_q1 (x : Int) : small (q1 x) := by
  have n := sN6_bd x; have j := bdJ x; have b := bdB x
  unfold q1
  repeat' (first | exact small_none | exact small_of (by omega) (by omega) | exact small_qUpper x | exact small_qSums x | split)
theorem small_q2 (x : Int) : small (q2 x) := by
  have s := rg_rs2 x; unfold rg at s; have l := bdL x; have v := bdS x
  unfold q2
  repeat' (first | exact small_none | exact small_of (by omega) (by omega) | exact small_qMoves x | split)
theorem small_qAll (x : Int) : small (qAll x) := by
  skip
  unfold qAll
  repeat' (first | exact small_none | exact small_of (by omega) (by omega) | exact small_q0 x | exact small_q1 x | exact small_q2 x | split)
set_option maxHeartbeats 1000000 in
theorem main (x : Int) (b0 : 0 ≤ x ∧ x < 65536) (w : World) :
    Calls Try.prog 7 #[.int .u16 x] w fun e w' => e = .returned (.bool true) ∧ Below w.heap.size w w' := by
  obtain ⟨h0, h1⟩ := b0
  have hok := ok_all x
  have hi := small_qAll x
  have HX : ∀ w, Calls Try.prog 27 #[.int .u16 x] w fun e w' => e = .returned (.tuple #[.agg #[.int .i64 (qAll x).op, .int .i64 (qAll x).rd, .int .i64 (qAll x).rs1, .int .i64 (qAll x).rs2, .int .i32 (qAll x).imm], .bool (!((qAll x).op == 0))]) ∧ Below w.heap.size w w' := fun w => S.Expand x w h0 h1
  have HY : ∀ w, Calls Try.prog 28 #[.int .u16 x] w fun e w' => e = .returned (.tuple #[.agg #[.int .i64 (qAll x).op, .int .i64 (qAll x).rd, .int .i64 (qAll x).rs1, .int .i64 (qAll x).rs2, .int .i32 (qAll x).imm], .bool (decide (0 < (qAll x).op))]) ∧ Below w.heap.size w w' := fun w => R5.Expand x w h0 h1
  unfold I5.ok I5.may at hok
  unfold small at hi
  generalize qAll x = i at *
  obtain ⟨o1, p1, p2, p3, p4⟩ := i
  simp only [] at hi
  have hc : (o1 = 0) ∨ (0 < o1 ∧ (o1 == 0) = false ∧ o1 < 9223372036854775808 ∧ mayB o1 p1 p2 p3 p4 = true) := by
    rcases hok with h | ⟨h, m⟩
    · left; exact congrArg I5.op h
    · right
      simp only [] at h m
      refine ⟨h, by simp; omega, ?_, m⟩
      by_cases hb : 48 < o1
      · exfalso
        have := form_none (.inr hb)
        simp [mayB, this] at m
      · omega
  clear hok
  replace HX := hid HX
  replace HY := hid HY
  replace hc := hid hc
  go_enter Try.func7, Try.ntmps7
  go_wp2_with fail
  refine (A5.awake _).mono ?_
  rintro e w1 ⟨rfl, hb1⟩
  go_wp2_with fail
  refine (HX.out _).mono ?_
  rintro e w2 ⟨rfl, hb2⟩
  have hb3 := bel_step hb1 hb2
  clear hb1 hb2 w1
  go_wp2_with fail
  have z1 := Inst.new w2 25 (.int .i64 o1) (.int .i64 p1) (.int .i64 p2) (.int .i64 p3) (.int .i32 p4)
  have hb4 := bel_step hb3 (below_alloc w2 (.cells #[.int .i64 o1, .int .i64 p1, .int .i64 p2, .int .i64 p3, .int .i32 p4] 25))
  generalize w2.alloc (.cells #[.int .i64 o1, .int .i64 p1, .int .i64 p2, .int .i64 p3, .int .i32 p4] 25) = w3 at *
  generalize w2.heap.size = a1 at *
  refine (HY.out _).mono ?_
  rintro e w4 ⟨rfl, hb5⟩
  have hb6 := bel_step hb4 hb5
  replace z1 := z1.below hb5 z1.lt
  clear hb3 hb4 hb5 w2 w3 HX HY
  have hbs := hb6.size
  obtain ⟨zl, c0, c1, c2, c3, c4⟩ := z1
  rcases hc.out with rfl | ⟨d1, d2, d3, hm⟩
  · clear hc
    go_wp2
    go_ret
    exact ⟨rfl, (by repeat' (first | (with_reducible exact Below.refl _ _) | (with_reducible assumption) | (with_reducible refine below_drewN ?_ _) | (with_reducible refine Below.alloc ?_ ?_ _) | (with_reducible refine Below.drew ?_) | (with_reducible refine Below.setCell ?_ ?_ _) | (with_reducible exact Below.size (by assumption)) | go_size))⟩
  · clear hc
    have hd : decide (0 < o1) = true := by simpa using d1
    go_wp2_with (go_at_call 15; refine (R3.May _ _ _ _ _ _ (by omega) (by omega) (by omega) (by omega)).mono ?_; rintro e w5 ⟨rfl, hb7⟩)
    go_ret
    exact ⟨rfl, bel_step (w := w) (by repeat' (first | (with_reducible exact Below.refl _ _) | (with_reducible assumption) | (with_reducible refine below_drewN ?_ _) | (with_reducible refine Below.alloc ?_ ?_ _) | (with_reducible refine Below.drew ?_) | (with_reducible refine Below.setCell ?_ ?_ _) | (with_reducible exact Below.size (by assumption)) | go_size)) hb7⟩

theorem own : ownKnob Try.prog.godebug = none := by kernel_rfl
theorem laidOut : laidOutB Try.prog = true := by kernel_rfl

set_option maxRecDepth 100000 in
theorem lifted (os : Os) (started : os.Started) (H : Type) (enc : TypeId × Value → H) :
    ReturnsInHanded {} Try.checked os 7 .any (Rows.slimExpandsSpec.pre6 enc Try.prog Try.f7 Rows.slimExpandsRow.domain false) (Rows.slimExpandsSpec.post enc Try.prog Try.f7 false true false false) := by
  refine returnsInHanded_of_change (C := Try.checked) own started (by kernel_rfl) Try.func7
    (ChangeSpec.witness6 (enc := enc) (C := Try.checked) false ⟨#[], #[.int .u16 0], []⟩ 8 (by kernel_rfl) (by kernel_rfl) (by kernel_rfl) (by kernel_rfl)) ?_
  intro W base args ds gs before hval0 hW hcnd _
  have hval : ∀ (j : Nat) t v, Try.f7.params[j]? = some t → args[j]? = some v → Value.okWide Try.prog W .any base t v := hval0
  have hW' := hW
  obtain ⟨p, q, hA0, hV, rfl, hfz, hnd⟩ := hW
  have hA : DataW.TrodAll enc Try.prog W 0 (fun _ => true) true Try.f7.params.toList args.toList ds p := hA0
  rw [Try.params7] at hA hval
  obtain ⟨v0, vs0, d0, ds0, p0, q0, hargs, rfl, rfl, h0, r0⟩ := trodAll_cons hA
  obtain ⟨rfl, rfl, rfl⟩ := trodAll_nil r0
  obtain rfl : args = #[v0] := by cases args; simp_all
  obtain ⟨rfl, rfl⟩ := trodVars_none hV
  obtain ⟨a0, rfl, rfl, rfl, w0⟩ := open_int Try.underlying33 (hval 0 33 v0 rfl rfl) h0
  have b0 : 0 ≤ a0 ∧ a0 < 65536 := by
    have : 0 ≤ a0 ∧ a0 ≤ 65535 := by simpa [Lit.wf, IntKind.min, IntKind.max, IntKind.signed, IntKind.bits] using w0
    omega
  clear hA0 hval0
  simp only [List.append_nil] at hW'
  refine (main a0 b0 W).mono fun e W' ⟨he, bel⟩ => ?_
  subst he
  exact ⟨_, rfl, _, _, _, [], _, [], hW', trodAll_mk1 (shut_bool Try.underlying4 _), (trodAll_cons_mk (shut_int Try.underlying33 w0) trodAll_mk0), rfl, by simpa using bel.frame _, fun h => by cases h⟩

theorem over : Rows.slimExpandsRow.holds Try.pinned (OpenSpec.ofChange Rows.slimExpandsSpec) :=
  OpenClaim.holds_of_wide 7 Try.f7 rfl rfl rfl rfl rfl rfl rfl ⟨rfl, rfl, rfl, rfl, rfl⟩ rfl rfl rfl rfl rfl (by kernel_rfl) Try.func7 (by kernel_rfl)
    (of_decide_eq_true (by kernel_rfl)) (by unfold Func.isWrapper; first | (rw [if_pos (by decide +kernel)]; kernel_rfl) | (rw [if_neg (by decide +kernel)]; exact ⟨rfl, rfl⟩))
    (fun os started H enc _ => lifted os started H enc)

theorem proved : Rows.SlimExpandsSaid :=
  over
#print axioms proved
end Go.Proofs.Ytplhoiokfjjcdaa.slimExpands
