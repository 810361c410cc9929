/- For every two names and every two instructions: unlike instructions, and unlike shorts, have unlike parcels; none has both lowest bits 1. -/
import Derived.Test.YtfecjdchgckjhaaRows
import Derived.WalkKit
import Derived.ProofKit
import Derived.OpenShut
import Derived.ShutString
import Derived.ChangeOld
import Derived.Below
import Derived.Test.YtfecjdchgckjhaaAwake09
import Derived.Test.YtfecjdchgckjhaaInsArg
namespace Go.Proofs.Ytfecjdchgckjhaa.pressApart
open Go.ChangeShapes Go.WideShapes Go.ChangeAt Go.RowKit
open Go.ChangeMaps (open_string shut_string)
set_option linter.unusedVariables false

open Go.Proofs.Ytfecjdchgckjhaa.P Go.Proofs.Ytfecjdchgckjhaa.W Go.Proofs.Ytfecjdchgckjhaa.F

open Go.Proofs.Ytfecjdchgckjhaa.W in
set_option maxHeartbeats 1000000 in
theorem main (name : ByteArray) (hsz : name.size ≤ maxLen) (op rd rs1 rs2 imm : Int) (hb : InsB op rd rs1 rs2 imm) (other : ByteArray) (hsz2 : other.size ≤ maxLen) (pp pd ps1 ps2 pim : Int) (hb' : InsB pp pd ps1 ps2 pim) (w : World) :
    Calls Try.prog 5 #[.string name, .agg #[.int .i64 op, .int .i64 rd, .int .i64 rs1, .int .i64 rs2, .int .i32 imm], .string other, .agg #[.int .i64 pp, .int .i64 pd, .int .i64 ps1, .int .i64 ps2, .int .i32 pim]] w fun e w' => e = .returned (.bool true) ∧ Below w.heap.size w w' := by
  obtain ⟨-, -, -, -, i0, i1⟩ := hb
  obtain ⟨-, -, -, -, i2, i3⟩ := hb'
  obtain ⟨x, m, hP, ⟨x0, x1⟩, -, hm⟩ := A9.put_any name op rd rs1 rs2 imm i0 i1
  obtain ⟨y, n, hQ, ⟨y0, y1⟩, -, hn⟩ := A9.put_any other pp pd ps1 ps2 pim i2 i3
  have HP := hid hP
  have HQ := hid hQ
  have hap : Hid (m = true → n = true → (x == y) = true → (op = pp ∧ rd = pd ∧ rs1 = ps1 ∧ rs2 = ps2 ∧ imm = pim) ∧ name = other) := hid (by
    intro e1 e2 e3
    obtain ⟨k, hk, kn, kf, rfl⟩ := hm e1
    obtain ⟨j, hj, jn, jf, rfl⟩ := hn e2
    obtain ⟨-, -, ⟨a1, a2, a3, a4, a5⟩, -, a6, -⟩ := A9.put_is hk kf
    obtain ⟨-, -, ⟨b1, b2, b3, b4, b5⟩, -, b6, -⟩ := A9.put_is hj jf
    rw [beq_iff_eq.1 e3] at a1 a2 a3 a4 a5 a6
    refine ⟨⟨a1.symm.trans b1, a2.symm.trans b2, a3.symm.trans b3, a4.symm.trans b4, a5.symm.trans b5⟩, ?_⟩
    rw [← kn, ← jn, a6.symm.trans b6])
  have hx4 : Hid (m = true → (x % 4 == 3) = false) := hid (fun h => by
    obtain ⟨k, hk, kn, kf, rfl⟩ := hm h
    simpa using (A9.put_is hk kf).2.1)
  clear hP hQ hm hn
  unfold maxLen at hsz hsz2
  go_enter Try.func5, Try.ntmps5
  go_wp2_with fail
  have z0 := Inst.new w 23 (.int .i64 op) (.int .i64 rd) (.int .i64 rs1) (.int .i64 rs2) (.int .i32 imm)
  have hb0 := below_alloc w (.cells #[.int .i64 op, .int .i64 rd, .int .i64 rs1, .int .i64 rs2, .int .i32 imm] 23)
  have hsza : (w.alloc (.cells #[.int .i64 op, .int .i64 rd, .int .i64 rs1, .int .i64 rs2, .int .i32 imm] 23)).heap.size = w.heap.size + 1 := by simp
  generalize w.alloc (.cells #[.int .i64 op, .int .i64 rd, .int .i64 rs1, .int .i64 rs2, .int .i32 imm] 23) = w1 at *
  have y0' := Inst.new w1 23 (.int .i64 pp) (.int .i64 pd) (.int .i64 ps1) (.int .i64 ps2) (.int .i32 pim)
  have hb1 := below_alloc w1 (.cells #[.int .i64 pp, .int .i64 pd, .int .i64 ps1, .int .i64 ps2, .int .i32 pim] 23)
  rw [hsza] at y0'
  generalize w1.alloc (.cells #[.int .i64 pp, .int .i64 pd, .int .i64 ps1, .int .i64 ps2, .int .i32 pim] 23) = w2 at *
  replace z0 := z0.below hb1 (by rw [hsza]; omega)
  replace hb0 := bel_step hb0 hb1
  clear hb1 hsza
  refine (A9.awake _).mono ?_
  rintro e w3 ⟨rfl, hb1⟩
  replace z0 := z0.below hb1 z0.lt
  replace y0' := y0'.below hb1 y0'.lt
  replace hb0 := bel_step hb0 hb1
  clear hb1
  by_cases hl1 : 50 < name.size
  · go_wp2
    go_ret
    exact ⟨rfl, hb0⟩
  by_cases hl2 : 50 < other.size
  · go_wp2
    go_ret
    exact ⟨rfl, hb0⟩
  obtain ⟨zl, c0, c1, c2, c3, c4⟩ := id z0
  have Z0 := hid z0
  have Y0 := hid y0'
  clear z0 y0'
  go_wp2_with fail
  refine (HP.out _).mono ?_
  rintro e w4 ⟨rfl, hb1⟩
  replace Z0 := hid (Z0.out.below hb1 Z0.out.lt)
  replace Y0 := hid (Y0.out.below hb1 Y0.out.lt)
  replace hb0 := bel_step hb0 hb1
  clear hb1 c0 c1 c2 c3 c4 zl HP
  obtain ⟨zl, c0, c1, c2, c3, c4⟩ := id Y0.out
  go_wp2_with fail
  refine (HQ.out _).mono ?_
  rintro e w5 ⟨rfl, hb1⟩
  have z0 := Z0.out.below hb1 Z0.out.lt
  have y0' := Y0.out.below hb1 Y0.out.lt
  replace hb0 := bel_step hb0 hb1
  clear hb1 Z0 Y0 c0 c1 c2 c3 c4 zl HQ
  obtain ⟨zl, c0, c1, c2, c3, c4⟩ := z0
  obtain ⟨yl, d0, d1, d2, d3, d4⟩ := y0'
  cases m
  · clear hap hx4
    go_wp2
    go_ret
    exact ⟨rfl, hb0⟩
  · have g1 := hx4.out rfl
    clear hx4
    cases n
    · clear hap
      go_wp2
      go_ret
      exact ⟨rfl, hb0⟩
    · cases hxy : (x == y)
      · have hne : (x != y) = true := by simpa using hxy
        clear hap
        go_wp2
        all_goals (go_ret; exact ⟨rfl, hb0⟩)
      · obtain ⟨⟨rfl, rfl, rfl, rfl, rfl⟩, rfl⟩ := hap.out rfl rfl hxy
        have hnn : (name.toList == name.toList) = true := beq_self_eq_true _
        clear hap
        go_wp2
        go_ret
        exact ⟨rfl, hb0⟩

theorem own : ownKnob Try.prog.godebug = none := by kernel_rfl
theorem laidOut : laidOutB Try.prog = true := by kernel_rfl

set_option maxRecDepth 100000 in
theorem lifted (os : Os) (started : os.Started) (H : Type) (enc : TypeId × Value → H) :
    ReturnsInHanded {} Try.checked os 5 .any (Rows.pressApartSpec.pre6 enc Try.prog Try.f5 Rows.pressApartRow.domain false) (Rows.pressApartSpec.post enc Try.prog Try.f5 false true false false) := by
  refine returnsInHanded_of_change (C := Try.checked) own started (by kernel_rfl) Try.func5
    (ChangeSpec.witness6 (enc := enc) (C := Try.checked) false ⟨#[], #[.string ByteArray.empty, .agg #[.int .i64 0, .int .i64 0, .int .i64 0, .int .i64 0, .int .i32 0], .string ByteArray.empty, .agg #[.int .i64 0, .int .i64 0, .int .i64 0, .int .i64 0, .int .i32 0]], []⟩ 8 (by kernel_rfl) (by kernel_rfl) (by kernel_rfl) (by kernel_rfl)) ?_
  intro W base args ds gs before hval0 hW hcnd _
  have hval : ∀ (j : Nat) t v, Try.f5.params[j]? = some t → args[j]? = some v → Value.okWide Try.prog W .any base t v := hval0
  have hW' := hW
  obtain ⟨p, q, hA0, hV, rfl, hfz, hnd⟩ := hW
  have hA : DataW.TrodAll enc Try.prog W 0 (fun _ => true) true Try.f5.params.toList args.toList ds p := hA0
  rw [Try.params5] at hA hval
  obtain ⟨v0, vs0, d0, ds0, p0, q0, hargs, rfl, rfl, h0, r0⟩ := trodAll_cons hA
  obtain ⟨v1, vs1, d1, ds1, p1, q1, rfl, rfl, rfl, h1, r1⟩ := trodAll_cons r0
  obtain ⟨v2, vs2, d2, ds2, p2, q2, rfl, rfl, rfl, h2, r2⟩ := trodAll_cons r1
  obtain ⟨v3, vs3, d3, ds3, p3, q3, rfl, rfl, rfl, h3, r3⟩ := trodAll_cons r2
  obtain ⟨rfl, rfl, rfl⟩ := trodAll_nil r3
  obtain rfl : args = #[v0, v1, v2, v3] := by cases args; simp_all
  obtain ⟨rfl, rfl⟩ := trodVars_none hV
  have k0 := h0
  have lt0 : ∀ x ∈ p0, x.block < W.heap.size := by obtain ⟨m, hm⟩ := k0; exact DataW.trod_lt m _ _ _ hm
  obtain ⟨a0, rfl, rfl, rfl, w0⟩ := open_string Try.underlying9 (hval 0 9 v0 rfl rfl) h0
  have k1 := h1
  have lt1 : ∀ x ∈ p1, x.block < W.heap.size := by obtain ⟨m, hm⟩ := k1; exact DataW.trod_lt m _ _ _ hm
  obtain ⟨a1o, a1d, a1s, a1t, a1m, rfl, w1⟩ := Go.Proofs.Ytfecjdchgckjhaa.W.open_ins (hval 1 23 v1 rfl rfl) h1
  have k2 := h2
  have lt2 : ∀ x ∈ p2, x.block < W.heap.size := by obtain ⟨m, hm⟩ := k2; exact DataW.trod_lt m _ _ _ hm
  obtain ⟨a2, rfl, rfl, rfl, w2⟩ := open_string Try.underlying9 (hval 2 9 v2 rfl rfl) h2
  have k3 := h3
  have lt3 : ∀ x ∈ p3, x.block < W.heap.size := by obtain ⟨m, hm⟩ := k3; exact DataW.trod_lt m _ _ _ hm
  obtain ⟨a3o, a3d, a3s, a3t, a3m, rfl, w3⟩ := Go.Proofs.Ytfecjdchgckjhaa.W.open_ins (hval 3 23 v3 rfl rfl) h3
  clear hA0 hval0
  simp only [List.append_nil] at hW'
  refine (main a0 w0 a1o a1d a1s a1t a1m w1 a2 w2 a3o a3d a3s a3t a3m w3 W).mono fun e W' ⟨he, bel⟩ => ?_
  subst he
  exact ⟨_, rfl, _, _, _, [], _, [], hW', trodAll_mk1 (shut_bool Try.underlying4 _), (trodAll_cons_mk (shut_string Try.underlying9 w0) (trodAll_cons_mk (Below.trod laidOut (by kernel_rfl) (of_decide_eq_true (by kernel_rfl)) k1 bel lt1) (trodAll_cons_mk (shut_string Try.underlying9 w2) (trodAll_cons_mk (Below.trod laidOut (by kernel_rfl) (of_decide_eq_true (by kernel_rfl)) k3 bel lt3) trodAll_mk0)))), rfl, by simpa using bel.frame _, fun h => by cases h⟩

theorem over : Rows.pressApartRow.holds Try.pinned (OpenSpec.ofChange Rows.pressApartSpec) :=
  OpenClaim.holds_of_wide 5 Try.f5 rfl rfl rfl rfl rfl rfl rfl ⟨rfl, rfl, rfl, rfl, rfl⟩ rfl rfl rfl rfl rfl (by kernel_rfl) Try.func5 (by kernel_rfl)
    (of_decide_eq_true (by kernel_rfl)) (by unfold Func.isWrapper; first | (rw [if_pos (by decide +kernel)]; kernel_rfl) | (rw [if_neg (by decide +kernel)]; exact ⟨rfl, rfl⟩))
    (fun os started H enc _ => lifted os started H enc)

theorem proved : Rows.PressApartSaid :=
  over
#print axioms proved
end Go.Proofs.Ytfecjdchgckjhaa.pressApart
