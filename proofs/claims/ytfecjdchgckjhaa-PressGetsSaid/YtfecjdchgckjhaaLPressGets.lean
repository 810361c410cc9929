/- For every parcel: it is got as the document says, or not; what is got is put as it was. -/
import Derived.Test.YtfecjdchgckjhaaRows
import Derived.WalkKit
import Derived.ProofKit
import Derived.OpenShut
import Derived.ShutString
import Derived.ChangeOld
import Derived.Below
import Derived.Test.YtfecjdchgckjhaaAwake09
import Derived.Test.YtfecjdchgckjhaaRef09l
namespace Go.Proofs.Ytfecjdchgckjhaa.pressGets
open Go.ChangeShapes Go.WideShapes Go.ChangeAt Go.RowKit
open Go.ChangeMaps (open_string shut_string)
set_option linter.unusedVariables false

open Go.Proofs.Ytfecjdchgckjhaa.P Go.Proofs.Ytfecjdchgckjhaa.W Go.Proofs.Ytfecjdchgckjhaa.F

theorem gets_all (h : Int) (h0 : 0 ≤ h) (h1 : h < 65536) : ∃ (nm : ByteArray) (op rd rs1 rs2 imm x : Int) (m : Bool),
    (∀ w, Calls Try.prog 13 #[.int .u16 h] w fun e w' => e = .returned (.tuple #[.string nm, .agg #[.int .i64 op, .int .i64 rd, .int .i64 rs1, .int .i64 rs2, .int .i32 imm], .bool m]) ∧ Below w.heap.size w w') ∧
    (∀ w, Calls Try.prog 14 #[.int .u16 h] w fun e w' => e = .returned (.tuple #[.string nm, .agg #[.int .i64 op, .int .i64 rd, .int .i64 rs1, .int .i64 rs2, .int .i32 imm], .bool m]) ∧ Below w.heap.size w w') ∧
    (∀ w, Calls Try.prog 9 #[.string nm, .agg #[.int .i64 op, .int .i64 rd, .int .i64 rs1, .int .i64 rs2, .int .i32 imm]] w fun e w' => e = .returned (.tuple #[.int .u16 x, .bool m]) ∧ Below w.heap.size w w') ∧ (m = true → x = h) := by
  obtain ⟨⟨o0, o1⟩, i0, i1⟩ := A9.qAll_bd h
  have HR := fun w => R9.Get h w h0 h1 o1 o0 i0 i1
  rcases A9.got_cases h h0 h1 with ⟨k, hk, hh, hl, hg, dk, q1, q2, q3, q4, q5, hf, hp⟩ | ⟨hl, hg⟩
  · refine ⟨(prAt k).nm, (prAt k).op, gRdR (prAt k) h, gR1R (prAt k) h, gR2R (prAt k) h, gImR (prAt k) h, putR (prAt k) (gRdR (prAt k) h) (gR1R (prAt k) h) (gR2R (prAt k) h) (gImR (prAt k) h), true, fun w => Get_yes k h w hk h0 h1 hl hh, fun w => ?_, fun w => ?_, fun _ => hp⟩
    · have := HR w
      rw [if_pos hg, dk] at this
      unfold I5.val at this
      rw [q1, q2, q3, q4, q5] at this
      exact this
    · rw [q5] at i0 i1
      exact Put_yes (prAt k).nm k _ _ _ _ _ w hk (fun j hj => A9.names_unlike hk hj) (beq_self_eq_true _) i0 i1 hf
  · refine ⟨⟨#[]⟩, 0, 0, 0, 0, 0, 0, false, fun w => Get_no h w h0 h1 hl, fun w => ?_, fun w => Put_no _ _ _ _ _ _ w R9.empty_unlike, fun e => by cases e⟩
    have := HR w
    rw [if_neg (by rw [hg]; simp)] at this
    exact this
set_option maxHeartbeats 2000000 in
theorem main (x : Int) (b0 : 0 ≤ x ∧ x < 65536) (w : World) :
    Calls Try.prog 4 #[.int .u16 x] w fun e w' => e = .returned (.bool true) ∧ Below w.heap.size w w' := by
  obtain ⟨h0, h1⟩ := b0
  obtain ⟨nm, op, rd, rs1, rs2, imm, y, m, hg, hr, hp, hm⟩ := gets_all x h0 h1
  have HG := hid hg
  have HR := hid hr
  have HP := hid hp
  clear hg hr hp
  have hnn : (nm.toList != nm.toList) = false := by simp
  have hn2 : (nm.toList == nm.toList) = true := beq_self_eq_true _
  go_enter Try.func4, Try.ntmps4
  go_wp2_with fail
  refine (A9.awake _).mono ?_
  rintro e w1 ⟨rfl, hb0⟩
  go_wp2_with fail
  refine (HG.out _).mono ?_
  rintro e w2 ⟨rfl, hb1⟩
  replace hb0 := bel_step hb0 hb1
  clear hb1
  have z0 := Inst.new w2 23 (.int .i64 op) (.int .i64 rd) (.int .i64 rs1) (.int .i64 rs2) (.int .i32 imm)
  go_upto_region 4 with (fail)
  replace hb0 := bel_step hb0 (below_alloc w2 (.cells #[.int .i64 op, .int .i64 rd, .int .i64 rs1, .int .i64 rs2, .int .i32 imm] 23))
  generalize w2.alloc (.cells #[.int .i64 op, .int .i64 rd, .int .i64 rs1, .int .i64 rs2, .int .i32 imm] 23) = w3 at *
  generalize w2.heap.size = p1 at *
  go_wp2_with fail
  refine (HR.out _).mono ?_
  rintro e w4 ⟨rfl, hb1⟩
  replace z0 := z0.below hb1 z0.lt
  replace hb0 := bel_step hb0 hb1
  clear hb1
  have z1 := Inst.new w4 23 (.int .i64 op) (.int .i64 rd) (.int .i64 rs1) (.int .i64 rs2) (.int .i32 imm)
  go_upto_region 5 with (fail)
  replace z0 := z0.below (below_alloc w4 (.cells #[.int .i64 op, .int .i64 rd, .int .i64 rs1, .int .i64 rs2, .int .i32 imm] 23)) z0.lt
  replace hb0 := bel_step hb0 (below_alloc w4 (.cells #[.int .i64 op, .int .i64 rd, .int .i64 rs1, .int .i64 rs2, .int .i32 imm] 23))
  generalize w4.alloc (.cells #[.int .i64 op, .int .i64 rd, .int .i64 rs1, .int .i64 rs2, .int .i32 imm] 23) = w5 at *
  generalize w4.heap.size = p2 at *
  obtain ⟨zl, c0, c1, c2, c3, c4⟩ := z0
  obtain ⟨yl, d0, d1, d2, d3, d4⟩ := z1
  cases m
  · clear hm
    go_wp2_with fail
    refine (HP.out _).mono ?_
    rintro e w6 ⟨rfl, hb1⟩
    replace hb0 := bel_step hb0 hb1
    clear hb1
    go_wp2
    go_ret
    exact ⟨rfl, hb0⟩
  · obtain rfl := hm rfl
    go_wp2_with fail
    refine (HP.out _).mono ?_
    rintro e w6 ⟨rfl, hb1⟩
    replace hb0 := bel_step hb0 hb1
    clear hb1
    go_wp2
    go_ret
    exact ⟨rfl, hb0⟩

theorem own : ownKnob Try.prog.godebug = none := by kernel_rfl
theorem laidOut : laidOutB Try.prog = true := by kernel_rfl

set_option maxRecDepth 100000 in
theorem lifted (os : Os) (started : os.Started) (H : Type) (enc : TypeId × Value → H) :
    ReturnsInHanded {} Try.checked os 4 .any (Rows.pressGetsSpec.pre6 enc Try.prog Try.f4 Rows.pressGetsRow.domain false) (Rows.pressGetsSpec.post enc Try.prog Try.f4 false true false false) := by
  refine returnsInHanded_of_change (C := Try.checked) own started (by kernel_rfl) Try.func4
    (ChangeSpec.witness6 (enc := enc) (C := Try.checked) false ⟨#[], #[.int .u16 0], []⟩ 8 (by kernel_rfl) (by kernel_rfl) (by kernel_rfl) (by kernel_rfl)) ?_
  intro W base args ds gs before hval0 hW hcnd _
  have hval : ∀ (j : Nat) t v, Try.f4.params[j]? = some t → args[j]? = some v → Value.okWide Try.prog W .any base t v := hval0
  have hW' := hW
  obtain ⟨p, q, hA0, hV, rfl, hfz, hnd⟩ := hW
  have hA : DataW.TrodAll enc Try.prog W 0 (fun _ => true) true Try.f4.params.toList args.toList ds p := hA0
  rw [Try.params4] at hA hval
  obtain ⟨v0, vs0, d0, ds0, p0, q0, hargs, rfl, rfl, h0, r0⟩ := trodAll_cons hA
  obtain ⟨rfl, rfl, rfl⟩ := trodAll_nil r0
  obtain rfl : args = #[v0] := by cases args; simp_all
  obtain ⟨rfl, rfl⟩ := trodVars_none hV
  obtain ⟨a0, rfl, rfl, rfl, w0⟩ := open_int Try.underlying25 (hval 0 25 v0 rfl rfl) h0
  have b0 : 0 ≤ a0 ∧ a0 < 65536 := by
    have : 0 ≤ a0 ∧ a0 ≤ 65535 := by simpa [Lit.wf, IntKind.min, IntKind.max, IntKind.signed, IntKind.bits] using w0
    omega
  clear hA0 hval0
  simp only [List.append_nil] at hW'
  refine (main a0 b0 W).mono fun e W' ⟨he, bel⟩ => ?_
  subst he
  exact ⟨_, rfl, _, _, _, [], _, [], hW', trodAll_mk1 (shut_bool Try.underlying4 _), (trodAll_cons_mk (shut_int Try.underlying25 w0) trodAll_mk0), rfl, by simpa using bel.frame _, fun h => by cases h⟩

theorem over : Rows.pressGetsRow.holds Try.pinned (OpenSpec.ofChange Rows.pressGetsSpec) :=
  OpenClaim.holds_of_wide 4 Try.f4 rfl rfl rfl rfl rfl rfl rfl ⟨rfl, rfl, rfl, rfl, rfl⟩ rfl rfl rfl rfl rfl (by kernel_rfl) Try.func4 (by kernel_rfl)
    (of_decide_eq_true (by kernel_rfl)) (by unfold Func.isWrapper; first | (rw [if_pos (by decide +kernel)]; kernel_rfl) | (rw [if_neg (by decide +kernel)]; exact ⟨rfl, rfl⟩))
    (fun os started H enc _ => lifted os started H enc)

theorem proved : Rows.PressGetsSaid :=
  over
#print axioms proved
end Go.Proofs.Ytfecjdchgckjhaa.pressGets
