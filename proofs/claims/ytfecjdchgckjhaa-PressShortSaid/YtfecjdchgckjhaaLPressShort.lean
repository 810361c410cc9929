/- For every instruction: the first short that it fits has a parcel of it, which the machine expands to it. -/
import Derived.Test.YtfecjdchgckjhaaRows
import Derived.WalkKit
import Derived.ProofKit
import Derived.OpenShut
import Derived.ShutString
import Derived.ChangeOld
import Derived.Below
import Derived.Test.YtfecjdchgckjhaaAwake09
import Derived.Test.YtfecjdchgckjhaaInsArg
import Derived.Test.YtfecjdchgckjhaaRef05g
import Derived.Deep.Cut
namespace Go.Proofs.Ytfecjdchgckjhaa.pressShort
open Go.ChangeShapes Go.WideShapes Go.ChangeAt Go.RowKit
open Go.ChangeMaps (open_string shut_string)
set_option linter.unusedVariables false

open Go.Proofs.Ytfecjdchgckjhaa.P Go.Proofs.Ytfecjdchgckjhaa.W Go.Proofs.Ytfecjdchgckjhaa.F

theorem first_cases (op rd rs1 rs2 imm : Int) : (∃ k, k < 27 ∧ fitR (prAt k) op rd rs1 rs2 imm = true ∧ ∀ j, j < k → fitR (prAt j) op rd rs1 rs2 imm = false) ∨ (∀ k, k < 27 → fitR (prAt k) op rd rs1 rs2 imm = false) := by
  have h : ∀ n, n ≤ 27 → (∃ k, k < n ∧ fitR (prAt k) op rd rs1 rs2 imm = true ∧ ∀ j, j < k → fitR (prAt j) op rd rs1 rs2 imm = false) ∨ (∀ k, k < n → fitR (prAt k) op rd rs1 rs2 imm = false) := by
    intro n
    induction n with
    | zero => intro _; exact .inr fun k hk => by omega
    | succ n ih =>
      intro hn
      rcases ih (by omega) with ⟨k, hk, h1, h2⟩ | h
      · exact .inl ⟨k, by omega, h1, h2⟩
      · cases hf : fitR (prAt n) op rd rs1 rs2 imm with
        | true => exact .inl ⟨n, by omega, hf, h⟩
        | false =>
          refine .inr fun k hk => ?_
          by_cases e : k = n
          · rw [e]; exact hf
          · exact h k (by omega)
  exact h 27 (Nat.le_refl _)
theorem nonempty : ∀ k, k < 27 → ((prAt k).nm.toList == ([] : List UInt8)) = false ∧ (prAt k).nm.toList.isEmpty = false := by
  have : ∀ k, k < 27 → ((prAt k).nm.data.toList == ([] : List UInt8)) = false ∧ (prAt k).nm.data.toList.isEmpty = false := by decide
  intro k hk
  rw [ByteArray.toList_eq]; exact this k hk
open Go.Proofs.Ytfecjdchgckjhaa.W in
set_option maxHeartbeats 1000000 in
theorem main (op rd rs1 rs2 imm : Int) (hb : InsB op rd rs1 rs2 imm) (w : World) :
    Calls Try.prog 7 #[.agg #[.int .i64 op, .int .i64 rd, .int .i64 rs1, .int .i64 rs2, .int .i32 imm]] w fun e w' => e = .returned (.bool true) ∧ Below w.heap.size w w' := by
  obtain ⟨-, -, -, -, i0, i1⟩ := hb
  rcases first_cases op rd rs1 rs2 imm with ⟨k, hk, hf, hl⟩ | hl
  · have HS := hid (fun w => Short_yes k op rd rs1 rs2 imm w hk hl hf i0 i1)
    have hy : ((prAt k).nm.toList == (prAt k).nm.toList) = true := beq_self_eq_true _
    have hln : ∀ j, j < k → ((prAt j).nm.toList == (prAt k).nm.toList) = false := fun j hj => A9.names_unlike hk hj
    have HP := hid (fun w => Put_yes (prAt k).nm k op rd rs1 rs2 imm w hk hln hy i0 i1 hf)
    have HF := hid (fun w => Fits_yes (prAt k).nm k op rd rs1 rs2 imm w hk hln hy i0 i1)
    obtain ⟨⟨x0, x1⟩, -, ⟨b1, b2, b3, b4, b5⟩, -, -, -⟩ := A9.put_is hk hf
    have hX := fun w => R5.Expand (putR (prAt k) rd rs1 rs2 imm) w x0 x1
    have hop : 0 < op := by
      have := (fit_may hf).1
      by_cases h : op < 1 ∨ 48 < op
      · have h2 := form_none h
        simp [mayB, h2] at this
      · omega
    have hv : (qAll (putR (prAt k) rd rs1 rs2 imm)).val = .agg #[.int .i64 op, .int .i64 rd, .int .i64 rs1, .int .i64 rs2, .int .i32 imm] := by unfold I5.val; rw [b1, b2, b3, b4, b5]
    rw [hv, b1, show decide (0 < op) = true by simpa using hop] at hX
    rw [hf] at HF
    have HX := hid hX
    obtain ⟨ne1, ne2⟩ := nonempty k hk
    clear hX hv b1 b2 b3 b4 b5 hf hl hy hln
    generalize putR (prAt k) rd rs1 rs2 imm = x at *
    generalize (prAt k).nm = nm at *
    go_enter Try.func7, Try.ntmps7
    go_wp2_with fail
    have z0 := Inst.new w 23 (.int .i64 op) (.int .i64 rd) (.int .i64 rs1) (.int .i64 rs2) (.int .i32 imm)
    have hb0 := below_alloc w (.cells #[.int .i64 op, .int .i64 rd, .int .i64 rs1, .int .i64 rs2, .int .i32 imm] 23)
    generalize w.alloc (.cells #[.int .i64 op, .int .i64 rd, .int .i64 rs1, .int .i64 rs2, .int .i32 imm] 23) = w1 at *
    refine (A9.awake _).mono ?_
    rintro e w2 ⟨rfl, hb1⟩
    replace z0 := z0.below hb1 z0.lt
    replace hb0 := bel_step hb0 hb1
    clear hb1
    obtain ⟨zl, c0, c1, c2, c3, c4⟩ := id z0
    have Z0 := hid z0
    clear z0
    go_wp2_with fail
    refine (HS.out _).mono ?_
    rintro e w3 ⟨rfl, hb1⟩
    have z0 := Z0.out.below hb1 Z0.out.lt
    replace hb0 := bel_step hb0 hb1
    clear hb1 Z0 c0 c1 c2 c3 c4 zl HS
    obtain ⟨zl, c0, c1, c2, c3, c4⟩ := id z0
    have Z0 := hid z0
    clear z0
    go_wp2_with fail
    refine (HP.out _).mono ?_
    rintro e w4 ⟨rfl, hb1⟩
    have z0 := Z0.out.below hb1 Z0.out.lt
    replace hb0 := bel_step hb0 hb1
    clear hb1 Z0 c0 c1 c2 c3 c4 zl HP
    have Z0 := hid z0
    clear z0
    go_wp2_with fail
    refine (HX.out _).mono ?_
    rintro e w5 ⟨rfl, hb1⟩
    have z0 := Z0.out.below hb1 Z0.out.lt
    replace hb0 := bel_step hb0 hb1
    clear hb1 Z0 HX
    have z1 := Inst.new w5 23 (.int .i64 op) (.int .i64 rd) (.int .i64 rs1) (.int .i64 rs2) (.int .i32 imm)
    go_upto_region 8 with (fail)
    replace z0 := z0.below (below_alloc w5 (.cells #[.int .i64 op, .int .i64 rd, .int .i64 rs1, .int .i64 rs2, .int .i32 imm] 23)) z0.lt
    replace hb0 := bel_step hb0 (below_alloc w5 (.cells #[.int .i64 op, .int .i64 rd, .int .i64 rs1, .int .i64 rs2, .int .i32 imm] 23))
    generalize w5.alloc (.cells #[.int .i64 op, .int .i64 rd, .int .i64 rs1, .int .i64 rs2, .int .i32 imm] 23) = w6 at *
    generalize w5.heap.size = pc at *
    obtain ⟨zl, c0, c1, c2, c3, c4⟩ := z0
    obtain ⟨yl, d0, d1, d2, d3, d4⟩ := z1
    go_wp2_with fail
    refine (HF.out _).mono ?_
    rintro e w7 ⟨rfl, hb1⟩
    replace hb0 := bel_step hb0 hb1
    clear hb1 HF zl c0 c1 c2 c3 c4 yl d0 d1 d2 d3 d4
    go_wp2
    go_ret
    exact ⟨rfl, hb0⟩
  · have HS := hid (fun w => Short_no op rd rs1 rs2 imm w hl i0 i1)
    clear hl
    go_enter Try.func7, Try.ntmps7
    go_wp2_with fail
    have z0 := Inst.new w 23 (.int .i64 op) (.int .i64 rd) (.int .i64 rs1) (.int .i64 rs2) (.int .i32 imm)
    have hb0 := below_alloc w (.cells #[.int .i64 op, .int .i64 rd, .int .i64 rs1, .int .i64 rs2, .int .i32 imm] 23)
    generalize w.alloc (.cells #[.int .i64 op, .int .i64 rd, .int .i64 rs1, .int .i64 rs2, .int .i32 imm] 23) = w1 at *
    refine (A9.awake _).mono ?_
    rintro e w2 ⟨rfl, hb1⟩
    replace z0 := z0.below hb1 z0.lt
    replace hb0 := bel_step hb0 hb1
    clear hb1
    obtain ⟨zl, c0, c1, c2, c3, c4⟩ := z0
    go_wp2_with fail
    refine (HS.out _).mono ?_
    rintro e w3 ⟨rfl, hb1⟩
    replace hb0 := bel_step hb0 hb1
    go_wp2
    go_ret
    exact ⟨rfl, hb0⟩

theorem own : ownKnob Try.prog.godebug = none := by kernel_rfl
theorem laidOut : laidOutB Try.prog = true := by kernel_rfl

set_option maxRecDepth 100000 in
theorem lifted (os : Os) (started : os.Started) (H : Type) (enc : TypeId × Value → H) :
    ReturnsInHanded {} Try.checked os 7 .any (Rows.pressShortSpec.pre6 enc Try.prog Try.f7 Rows.pressShortRow.domain false) (Rows.pressShortSpec.post enc Try.prog Try.f7 false true false false) := by
  refine returnsInHanded_of_change (C := Try.checked) own started (by kernel_rfl) Try.func7
    (ChangeSpec.witness6 (enc := enc) (C := Try.checked) false ⟨#[], #[.agg #[.int .i64 0, .int .i64 0, .int .i64 0, .int .i64 0, .int .i32 0]], []⟩ 8 (by kernel_rfl) (by kernel_rfl) (by kernel_rfl) (by kernel_rfl)) ?_
  intro W base args ds gs before hval0 hW hcnd _
  have hval : ∀ (j : Nat) t v, Try.f7.params[j]? = some t → args[j]? = some v → Value.okWide Try.prog W .any base t v := hval0
  have hW' := hW
  obtain ⟨p, q, hA0, hV, rfl, hfz, hnd⟩ := hW
  have hA : DataW.TrodAll enc Try.prog W 0 (fun _ => true) true Try.f7.params.toList args.toList ds p := hA0
  rw [Try.params7] at hA hval
  obtain ⟨v0, vs0, d0, ds0, p0, q0, hargs, rfl, rfl, h0, r0⟩ := trodAll_cons hA
  obtain ⟨rfl, rfl, rfl⟩ := trodAll_nil r0
  obtain rfl : args = #[v0] := by cases args; simp_all
  obtain ⟨rfl, rfl⟩ := trodVars_none hV
  have k0 := h0
  have lt0 : ∀ x ∈ p0, x.block < W.heap.size := by obtain ⟨m, hm⟩ := k0; exact DataW.trod_lt m _ _ _ hm
  obtain ⟨a0o, a0d, a0s, a0t, a0m, rfl, w0⟩ := Go.Proofs.Ytfecjdchgckjhaa.W.open_ins (hval 0 23 v0 rfl rfl) h0
  clear hA0 hval0
  simp only [List.append_nil] at hW'
  refine (main a0o a0d a0s a0t a0m w0 W).mono fun e W' ⟨he, bel⟩ => ?_
  subst he
  exact ⟨_, rfl, _, _, _, [], _, [], hW', trodAll_mk1 (shut_bool Try.underlying4 _), (trodAll_cons_mk (Below.trod laidOut (by kernel_rfl) (of_decide_eq_true (by kernel_rfl)) k0 bel lt0) trodAll_mk0), rfl, by simpa using bel.frame _, fun h => by cases h⟩

theorem over : Rows.pressShortRow.holds Try.pinned (OpenSpec.ofChange Rows.pressShortSpec) :=
  OpenClaim.holds_of_wide 7 Try.f7 rfl rfl rfl rfl rfl rfl rfl ⟨rfl, rfl, rfl, rfl, rfl⟩ rfl rfl rfl rfl rfl (by kernel_rfl) Try.func7 (by kernel_rfl)
    (of_decide_eq_true (by kernel_rfl)) (by unfold Func.isWrapper; first | (rw [if_pos (by decide +kernel)]; kernel_rfl) | (rw [if_neg (by decide +kernel)]; exact ⟨rfl, rfl⟩))
    (fun os started H enc _ => lifted os started H enc)

theorem proved : Rows.PressShortSaid :=
  over
#print axioms proved
end Go.Proofs.Ytfecjdchgckjhaa.pressShort
