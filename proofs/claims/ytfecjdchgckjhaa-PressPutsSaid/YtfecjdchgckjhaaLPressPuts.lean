/- For every name and every instruction: one that fits a short has a parcel, which the machine expands to it, and which is got as that short; one that doesn't fit has none. -/
import Derived.Test.YtfecjdchgckjhaaRows
import Derived.WalkKit
import Derived.ProofKit
import Derived.OpenShut
import Derived.ShutString
import Derived.ChangeOld
import Derived.Below
import Derived.Test.YtfecjdchgckjhaaAwake09
import Derived.Test.YtfecjdchgckjhaaInsArg
import Derived.Test.YtfecjdchgckjhaaRef05g
import Derived.Test.YtfecjdchgckjhaaRef09s
import Derived.Test.YtfecjdchgckjhaaRef09m
import Derived.Lib.QuietBelow
namespace Go.Proofs.Ytfecjdchgckjhaa.pressPuts
open Go.ChangeShapes Go.WideShapes Go.ChangeAt Go.RowKit
open Go.ChangeMaps (open_string shut_string)
set_option linter.unusedVariables false

open Go.Proofs.Ytfecjdchgckjhaa.P Go.Proofs.Ytfecjdchgckjhaa.W Go.Proofs.Ytfecjdchgckjhaa.F

theorem ops_pos : ∀ k, k < 27 → 0 < (prAt k).op := by decide
theorem puts_any (name : ByteArray) (op rd rs1 rs2 imm : Int) (o0 : -9223372036854775808 ≤ op) (o1 : op < 9223372036854775808) (i0 : -2147483648 ≤ imm) (i1 : imm < 2147483648) : ∃ (x : Int) (m : Bool),
    (∀ w, Calls Try.prog 9 #[.string name, .agg #[.int .i64 op, .int .i64 rd, .int .i64 rs1, .int .i64 rs2, .int .i32 imm]] w fun e w' => e = .returned (.tuple #[.int .u16 x, .bool m]) ∧ Below w.heap.size w w') ∧
    (∀ w, Calls Try.prog 10 #[.string name, .agg #[.int .i64 op, .int .i64 rd, .int .i64 rs1, .int .i64 rs2, .int .i32 imm]] w fun e w' => e = .returned (.tuple #[.int .u16 x, .bool m]) ∧ Below w.heap.size w w') ∧
    (∀ w, Calls Try.prog 11 #[.string name, .agg #[.int .i64 op, .int .i64 rd, .int .i64 rs1, .int .i64 rs2, .int .i32 imm]] w fun e w' => e = .returned (.bool m) ∧ Below w.heap.size w w') ∧
    (m = false → x = 0) ∧ (m = true →
      (∀ w, Calls Try.prog 12 #[.int .u16 x] w fun e w' => e = .returned (.tuple #[.agg #[.int .i64 op, .int .i64 rd, .int .i64 rs1, .int .i64 rs2, .int .i32 imm], .bool true]) ∧ Below w.heap.size w w') ∧
      (∀ w, Calls Try.prog 13 #[.int .u16 x] w fun e w' => e = .returned (.tuple #[.string name, .agg #[.int .i64 op, .int .i64 rd, .int .i64 rs1, .int .i64 rs2, .int .i32 imm], .bool true]) ∧ Below w.heap.size w w')) := by
  rcases A9.name_cases name with ⟨k, hk, rfl, hy, hl⟩ | hl
  · have HF := fun w => R9.Fits_at k op rd rs1 rs2 imm w hk o0 o1 i0 i1
    cases hf : fitR (prAt k) op rd rs1 rs2 imm
    · rw [hf] at HF
      exact ⟨0, false, fun w => Put_unfit _ k op rd rs1 rs2 imm w hk hl hy i0 i1 hf, fun w => R9.Put_not _ op rd rs1 rs2 imm w HF, HF, fun _ => rfl, fun h => by cases h⟩
    · rw [hf] at HF
      obtain ⟨⟨x0, x1⟩, hx3, ⟨q1, q2, q3, q4, q5⟩, ⟨c1, c2, c3, c4⟩, hd, hr⟩ := A9.put_is hk hf
      obtain ⟨ht, hlow⟩ := A9.put_hit hk hf
      have ho := (fit_may hf).2
      refine ⟨putR (prAt k) rd rs1 rs2 imm, true, fun w => Put_yes _ k op rd rs1 rs2 imm w hk hl hy i0 i1 hf, fun w => ?_, HF, (fun h => by cases h), fun _ => ⟨fun w => ?_, fun w => ?_⟩⟩
      · have := R9.Put_yes k op rd rs1 rs2 imm w hk hf HF i0 i1 (by rw [hr]; exact x0) (by rw [hr]; exact x1)
        rwa [hr] at this
      · have := R5.Expand (putR (prAt k) rd rs1 rs2 imm) w x0 x1
        have hp : 0 < op := by rw [ho]; exact ops_pos k hk
        unfold I5.val at this
        rw [q1, q2, q3, q4, q5, decide_eq_true hp] at this
        exact this
      · have := Get_yes k (putR (prAt k) rd rs1 rs2 imm) w hk x0 x1 hlow ht
        rw [c1, c2, c3, c4, ← ho] at this
        exact this
  · have HF := fun w => R9.Fits_other name op rd rs1 rs2 imm w hl o0 o1 i0 i1
    exact ⟨0, false, fun w => Put_no name op rd rs1 rs2 imm w hl, fun w => R9.Put_not _ op rd rs1 rs2 imm w HF, HF, fun _ => rfl, fun h => by cases h⟩
set_option maxHeartbeats 2000000 in
theorem main (name : ByteArray) (hsz : name.size ≤ maxLen) (op rd rs1 rs2 imm : Int) (hb : InsB op rd rs1 rs2 imm) (w : World) :
    Calls Try.prog 3 #[.string name, .agg #[.int .i64 op, .int .i64 rd, .int .i64 rs1, .int .i64 rs2, .int .i32 imm]] w fun e w' => e = .returned (.bool true) ∧ Below w.heap.size w w' := by
  obtain ⟨⟨o0, o1⟩, -, -, -, i0, i1⟩ := hb
  obtain ⟨x, m, hp, hr, hf, hm0, hm1⟩ := puts_any name op rd rs1 rs2 imm o0 o1 i0 i1
  have HP := hid hp
  have HR := hid hr
  have HF := hid hf
  clear hp hr hf o0 o1 i0 i1
  unfold maxLen at hsz
  have hnn : (name.toList != name.toList) = false := by simp
  have hn2 : (name.toList == name.toList) = true := beq_self_eq_true _
  have hxx : (x != x) = false := by simp
  go_enter Try.func3, Try.ntmps3
  go_wp2_with fail
  have z0 := Inst.new w 23 (.int .i64 op) (.int .i64 rd) (.int .i64 rs1) (.int .i64 rs2) (.int .i32 imm)
  have hb0 := below_alloc w (.cells #[.int .i64 op, .int .i64 rd, .int .i64 rs1, .int .i64 rs2, .int .i32 imm] 23)
  generalize w.alloc (.cells #[.int .i64 op, .int .i64 rd, .int .i64 rs1, .int .i64 rs2, .int .i32 imm] 23) = w1 at *
  refine (A9.awake _).mono ?_
  rintro e w2 ⟨rfl, hb1⟩
  replace z0 := z0.below hb1 z0.lt
  replace hb0 := bel_step hb0 hb1
  clear hb1
  by_cases hl1 : 50 < name.size
  · go_wp2
    go_ret
    exact ⟨rfl, hb0⟩
  have Z0 := hid z0
  clear z0
  obtain ⟨zl, c0, c1, c2, c3, c4⟩ := Z0.out
  go_wp2_with fail
  refine (HP.out _).mono ?_
  rintro e w3 ⟨rfl, hb1⟩
  replace Z0 := hid (Z0.out.below hb1 Z0.out.lt)
  replace hb0 := bel_step hb0 hb1
  clear hb1 zl c0 c1 c2 c3 c4
  obtain ⟨zl, c0, c1, c2, c3, c4⟩ := Z0.out
  go_wp2_with fail
  refine (HR.out _).mono ?_
  rintro e w4 ⟨rfl, hb1⟩
  replace Z0 := hid (Z0.out.below hb1 Z0.out.lt)
  replace hb0 := bel_step hb0 hb1
  clear hb1 zl c0 c1 c2 c3 c4
  obtain ⟨zl, c0, c1, c2, c3, c4⟩ := Z0.out
  go_wp2_with fail
  refine (HF.out _).mono ?_
  rintro e w5 ⟨rfl, hb1⟩
  replace Z0 := hid (Z0.out.below hb1 Z0.out.lt)
  replace hb0 := bel_step hb0 hb1
  clear hb1 zl c0 c1 c2 c3 c4
  obtain ⟨zl, c0, c1, c2, c3, c4⟩ := Z0.out
  cases m
  · obtain rfl := hm0 rfl
    clear hm1
    go_wp2
    go_ret
    exact ⟨rfl, hb0⟩
  · obtain ⟨he, hg⟩ := hm1 rfl
    have HE := hid he
    have HG := hid hg
    clear he hg hm0 hm1
    have hii : ∀ z : Int, (z == z) = true := fun z => by simp
    go_wp2_with fail
    refine (HE.out _).mono ?_
    rintro e w6 ⟨rfl, hb1⟩
    replace Z0 := hid (Z0.out.below hb1 Z0.out.lt)
    replace hb0 := bel_step hb0 hb1
    clear hb1 zl c0 c1 c2 c3 c4
    have z1 := Inst.new w6 23 (.int .i64 op) (.int .i64 rd) (.int .i64 rs1) (.int .i64 rs2) (.int .i32 imm)
    go_upto_region 12 with (fail)
    replace Z0 := hid (Z0.out.below (below_alloc w6 (.cells #[.int .i64 op, .int .i64 rd, .int .i64 rs1, .int .i64 rs2, .int .i32 imm] 23)) Z0.out.lt)
    replace hb0 := bel_step hb0 (below_alloc w6 (.cells #[.int .i64 op, .int .i64 rd, .int .i64 rs1, .int .i64 rs2, .int .i32 imm] 23))
    generalize w6.alloc (.cells #[.int .i64 op, .int .i64 rd, .int .i64 rs1, .int .i64 rs2, .int .i32 imm] 23) = w7 at *
    generalize w6.heap.size = p1 at *
    go_wp2_with fail
    refine (HG.out _).mono ?_
    rintro e w8 ⟨rfl, hb1⟩
    replace Z0 := hid (Z0.out.below hb1 Z0.out.lt)
    replace z1 := z1.below hb1 z1.lt
    replace hb0 := bel_step hb0 hb1
    clear hb1
    have z2 := Inst.new w8 23 (.int .i64 op) (.int .i64 rd) (.int .i64 rs1) (.int .i64 rs2) (.int .i32 imm)
    go_upto_region 13 with (fail)
    replace Z0 := hid (Z0.out.below (below_alloc w8 (.cells #[.int .i64 op, .int .i64 rd, .int .i64 rs1, .int .i64 rs2, .int .i32 imm] 23)) Z0.out.lt)
    replace z1 := z1.below (below_alloc w8 (.cells #[.int .i64 op, .int .i64 rd, .int .i64 rs1, .int .i64 rs2, .int .i32 imm] 23)) z1.lt
    replace hb0 := bel_step hb0 (below_alloc w8 (.cells #[.int .i64 op, .int .i64 rd, .int .i64 rs1, .int .i64 rs2, .int .i32 imm] 23))
    generalize w8.alloc (.cells #[.int .i64 op, .int .i64 rd, .int .i64 rs1, .int .i64 rs2, .int .i32 imm] 23) = w9 at *
    generalize w8.heap.size = p2 at *
    obtain ⟨zl, c0, c1, c2, c3, c4⟩ := Z0.out
    obtain ⟨yl, d0, d1, d2, d3, d4⟩ := z1
    obtain ⟨xl, e0, e1, e2, e3, e4⟩ := z2
    clear Z0 HE HG HP HR HF
    go_wp2
    go_ret
    exact ⟨rfl, hb0⟩

theorem own : ownKnob Try.prog.godebug = none := by kernel_rfl
theorem laidOut : laidOutB Try.prog = true := by kernel_rfl

set_option maxRecDepth 100000 in
theorem lifted (os : Os) (started : os.Started) (H : Type) (enc : TypeId × Value → H) :
    ReturnsInHanded {} Try.checked os 3 .any (Rows.pressPutsSpec.pre6 enc Try.prog Try.f3 Rows.pressPutsRow.domain false) (Rows.pressPutsSpec.post enc Try.prog Try.f3 false true false false) := by
  refine returnsInHanded_of_change (C := Try.checked) own started (by kernel_rfl) Try.func3
    (ChangeSpec.witness6 (enc := enc) (C := Try.checked) false ⟨#[], #[.string ByteArray.empty, .agg #[.int .i64 0, .int .i64 0, .int .i64 0, .int .i64 0, .int .i32 0]], []⟩ 8 (by kernel_rfl) (by kernel_rfl) (by kernel_rfl) (by kernel_rfl)) ?_
  intro W base args ds gs before hval0 hW hcnd _
  have hval : ∀ (j : Nat) t v, Try.f3.params[j]? = some t → args[j]? = some v → Value.okWide Try.prog W .any base t v := hval0
  have hW' := hW
  obtain ⟨p, q, hA0, hV, rfl, hfz, hnd⟩ := hW
  have hA : DataW.TrodAll enc Try.prog W 0 (fun _ => true) true Try.f3.params.toList args.toList ds p := hA0
  rw [Try.params3] at hA hval
  obtain ⟨v0, vs0, d0, ds0, p0, q0, hargs, rfl, rfl, h0, r0⟩ := trodAll_cons hA
  obtain ⟨v1, vs1, d1, ds1, p1, q1, rfl, rfl, rfl, h1, r1⟩ := trodAll_cons r0
  obtain ⟨rfl, rfl, rfl⟩ := trodAll_nil r1
  obtain rfl : args = #[v0, v1] := by cases args; simp_all
  obtain ⟨rfl, rfl⟩ := trodVars_none hV
  have k0 := h0
  have lt0 : ∀ x ∈ p0, x.block < W.heap.size := by obtain ⟨m, hm⟩ := k0; exact DataW.trod_lt m _ _ _ hm
  obtain ⟨a0, rfl, rfl, rfl, w0⟩ := open_string Try.underlying9 (hval 0 9 v0 rfl rfl) h0
  have k1 := h1
  have lt1 : ∀ x ∈ p1, x.block < W.heap.size := by obtain ⟨m, hm⟩ := k1; exact DataW.trod_lt m _ _ _ hm
  obtain ⟨a1o, a1d, a1s, a1t, a1m, rfl, w1⟩ := Go.Proofs.Ytfecjdchgckjhaa.W.open_ins (hval 1 23 v1 rfl rfl) h1
  clear hA0 hval0
  simp only [List.append_nil] at hW'
  refine (main a0 w0 a1o a1d a1s a1t a1m w1 W).mono fun e W' ⟨he, bel⟩ => ?_
  subst he
  exact ⟨_, rfl, _, _, _, [], _, [], hW', trodAll_mk1 (shut_bool Try.underlying4 _), (trodAll_cons_mk (shut_string Try.underlying9 w0) (trodAll_cons_mk (Below.trod laidOut (by kernel_rfl) (of_decide_eq_true (by kernel_rfl)) k1 bel lt1) trodAll_mk0)), rfl, by simpa using bel.frame _, fun h => by cases h⟩

theorem over : Rows.pressPutsRow.holds Try.pinned (OpenSpec.ofChange Rows.pressPutsSpec) :=
  OpenClaim.holds_of_wide 3 Try.f3 rfl rfl rfl rfl rfl rfl rfl ⟨rfl, rfl, rfl, rfl, rfl⟩ rfl rfl rfl rfl rfl (by kernel_rfl) Try.func3 (by kernel_rfl)
    (of_decide_eq_true (by kernel_rfl)) (by unfold Func.isWrapper; first | (rw [if_pos (by decide +kernel)]; kernel_rfl) | (rw [if_neg (by decide +kernel)]; exact ⟨rfl, rfl⟩))
    (fun os started H enc _ => lifted os started H enc)

theorem proved : Rows.PressPutsSaid :=
  over
#print axioms proved
end Go.Proofs.Ytfecjdchgckjhaa.pressPuts
