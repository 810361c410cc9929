/- For every instruction: it has the word that the reference says, or none, and none just where it may not be; the machine decodes that word as the instruction. -/
import Derived.Test.YtabdfbghhkpoeaaDoorRows
import Derived.WalkKit
import Derived.ProofKit
import Derived.OpenShut
import Derived.ShutString
import Derived.ChangeOld
import Derived.Below
import Derived.Test.YtabdfbghhkpoeaaDoorAwake08
import Derived.Test.YtabdfbghhkpoeaaDoorTie08
import Derived.Test.YtabdfbghhkpoeaaDoorCards
import Derived.Test.YtabdfbghhkpoeaaDoorTie
import Derived.SevenTiedAt
import Derived.LaidMore
import Derived.Stop.Joined
namespace Go.Proofs.YtabdfbghhkpoeaaDoor.encPuts
open Go.ChangeShapes Go.WideShapes Go.ChangeAt Go.RowKit
open Go.ChangeMaps (open_string shut_string)
set_option linter.unusedVariables false

open Go.Proofs.YtabdfbghhkpoeaaDoor.P Go.Proofs.YtabdfbghhkpoeaaDoor.W

open Go.Proofs.YtabdfbghhkpoeaaDoor.W in
set_option maxHeartbeats 1000000 in
theorem main (op rd rs1 rs2 imm : Int) (hb : InsB op rd rs1 rs2 imm) (w : World) (hT : E.Tabs w) :
    Calls Tryd.prog 3 #[.agg #[.int .i64 op, .int .i64 rd, .int .i64 rs1, .int .i64 rs2, .int .i32 imm]] w fun e w' => e = .returned (.bool true) ∧ Below w.heap.size w w' := by
  obtain ⟨⟨o0, o1⟩, -, -, -, i0, i1⟩ := hb
  have HT := hid hT
  clear hT
  -- the word, and what is decoded of it
  obtain ⟨x, q, HP, HR, HD⟩ : ∃ (x : Int) (q : Int × Int × Int × Int × Int), Hid (∀ w, E.Tabs w → Calls Tryd.prog 8 #[.agg #[.int .i64 op, .int .i64 rd, .int .i64 rs1, .int .i64 rs2, .int .i32 imm]] w fun e w' => e = .returned (.tuple #[.int .u32 x, .bool (mayB op rd rs1 rs2 imm)]) ∧ Below w.heap.size w w') ∧
      Hid (∀ w, Calls Tryd.prog 9 #[.agg #[.int .i64 op, .int .i64 rd, .int .i64 rs1, .int .i64 rs2, .int .i32 imm]] w fun e w' => e = .returned (.tuple #[.int .u32 x, .bool (mayB op rd rs1 rs2 imm)]) ∧ Below w.heap.size w w') ∧
      Hid (∃ k, (∀ w, Calls Tryd.prog 11 #[.int .u32 x] w fun e w' => e = .returned (.tuple #[.agg #[.int .i64 q.1, .int .i64 q.2.1, .int .i64 q.2.2.1, .int .i64 q.2.2.2.1, .int .i32 q.2.2.2.2], .bool k]) ∧ Below w.heap.size w w') ∧ (mayB op rd rs1 rs2 imm = true → k = true ∧ q = (op, rd, rs1, rs2, imm))) := by
    cases hm : mayB op rd rs1 rs2 imm
    · exact ⟨0, (opN 0, dRd 0, dRs1 0, dRs2 0, dImm 0), hid (fun w hT => E.Put_no op rd rs1 rs2 imm w hm), hid (fun w => R8.Put_no op rd rs1 rs2 imm w hm o0 o1 i0 i1), hid ⟨_, fun w => R4.Decode 0 w (by decide) (by decide), fun h => by cases h⟩⟩
    · obtain ⟨⟨x0, x1⟩, e1, e2, e3, e4, e5⟩ := dec_enc hm i0 i1
      have ho : op ≠ 0 := by have := (may_rg hm).1; omega
      refine ⟨encW op rd rs1 rs2 imm, (op, rd, rs1, rs2, imm), hid (fun w hT => E.Put_yes op rd rs1 rs2 imm w hm i0 i1 hT), hid (fun w => R8.Put_yes op rd rs1 rs2 imm w hm i0 i1), hid ⟨!(op == 0), fun w => ?_, fun _ => ⟨?_, rfl⟩⟩⟩
      · have h := R4.Decode (encW op rd rs1 rs2 imm) w x0 x1
        unfold decV at h
        rw [e1, e2, e3, e4, e5] at h
        exact h
      · simpa using ho
  have HM := hid (fun w => R3.May op rd rs1 rs2 imm w o0 o1 i0 i1)
  generalize mayB op rd rs1 rs2 imm = m at *
  obtain ⟨q0, q1, q2, q3, q4⟩ := q
  obtain ⟨k, HD, hk⟩ := HD.out
  replace HD := hid HD
  replace hk := hid hk
  go_enter Tryd.func3, Tryd.ntmps3
  go_wp2_with fail
  have z0 := Inst.new w 23 (.int .i64 op) (.int .i64 rd) (.int .i64 rs1) (.int .i64 rs2) (.int .i32 imm)
  have hb0 := below_alloc w (.cells #[.int .i64 op, .int .i64 rd, .int .i64 rs1, .int .i64 rs2, .int .i32 imm] 23)
  generalize w.alloc (.cells #[.int .i64 op, .int .i64 rd, .int .i64 rs1, .int .i64 rs2, .int .i32 imm] 23) = w1 at *
  replace HT := hid (HT.out.below hb0)
  refine (A8.awake _ HT.out).mono ?_
  rintro e w2 ⟨rfl, hb1⟩
  replace HT := hid (HT.out.below hb1)
  replace z0 := z0.below hb1 z0.lt
  replace hb0 := bel_step hb0 hb1
  clear hb1
  obtain ⟨zl, c0, c1, c2, c3, c4⟩ := id z0
  have Z0 := hid z0
  clear z0
  go_wp2_with fail
  refine (HP.out _ HT.out).mono ?_
  rintro e w3 ⟨rfl, hb1⟩
  have z0 := Z0.out.below hb1 Z0.out.lt
  replace hb0 := bel_step hb0 hb1
  clear hb1 Z0 c0 c1 c2 c3 c4 zl HT HP
  obtain ⟨zl, c0, c1, c2, c3, c4⟩ := id z0
  have Z0 := hid z0
  clear z0
  go_wp2_with fail
  refine (HR.out _).mono ?_
  rintro e w4 ⟨rfl, hb1⟩
  have z0 := Z0.out.below hb1 Z0.out.lt
  replace hb0 := bel_step hb0 hb1
  clear hb1 Z0 c0 c1 c2 c3 c4 zl HR
  obtain ⟨zl, c0, c1, c2, c3, c4⟩ := id z0
  have Z0 := hid z0
  clear z0
  go_wp2_with fail
  refine (HM.out _).mono ?_
  rintro e w5 ⟨rfl, hb1⟩
  have z0 := Z0.out.below hb1 Z0.out.lt
  replace hb0 := bel_step hb0 hb1
  clear hb1 Z0 c0 c1 c2 c3 c4 zl HM
  have Z0 := hid z0
  clear z0
  go_wp2_with fail
  refine (HD.out _).mono ?_
  rintro e w6 ⟨rfl, hb1⟩
  have z0 := Z0.out.below hb1 Z0.out.lt
  replace hb0 := bel_step hb0 hb1
  clear hb1 Z0 HD
  obtain ⟨zl, c0, c1, c2, c3, c4⟩ := z0
  cases m
  · clear hk
    go_wp2
    go_ret
    exact ⟨rfl, (by repeat' (first | (with_reducible exact Below.refl _ _) | (with_reducible assumption) | (with_reducible refine below_drewN ?_ _) | (with_reducible refine Below.alloc ?_ ?_ _) | (with_reducible refine Below.drew ?_) | (with_reducible refine Below.setCell ?_ ?_ _) | (with_reducible exact Below.size (by assumption)) | go_size))⟩
  · obtain ⟨rfl, hq⟩ := hk.out rfl
    simp only [Prod.mk.injEq] at hq
    obtain ⟨rfl, rfl, rfl, rfl, rfl⟩ := hq
    clear hk
    go_wp2
    go_ret
    exact ⟨rfl, (by repeat' (first | (with_reducible exact Below.refl _ _) | (with_reducible assumption) | (with_reducible refine below_drewN ?_ _) | (with_reducible refine Below.alloc ?_ ?_ _) | (with_reducible refine Below.drew ?_) | (with_reducible refine Below.setCell ?_ ?_ _) | (with_reducible exact Below.size (by assumption)) | go_size))⟩

theorem own : ownKnob Tryd.prog.godebug = none := by kernel_rfl
theorem laidOut : laidOutB Tryd.prog = true := by kernel_rfl

set_option maxRecDepth 100000 in
theorem lifted (os : Os) (started : os.Started) (H : Type) (enc : TypeId × Value → H) :
    ReturnsInHanded {} Tryd.checked os 3 .any (fun w args => (Rows.encPutsSpec.pre enc Tryd.prog Tryd.f3 [] false w args ∧ laidMetH Tryd.prog Go.Proofs.YtabdfbghhkpoeaaDoor.E.laidE w) ∧ sizedMet enc Tryd.prog Tryd.f3 (OpenSpec.ofChange Rows.encPutsSpec) false w args) (Rows.encPutsSpec.post enc Tryd.prog Tryd.f3 false true false false) := by
  refine returnsInHanded_of_change_and (C := Tryd.checked) (X := fun w _ => laidMetH Tryd.prog Go.Proofs.YtabdfbghhkpoeaaDoor.E.laidE w) (fun _ _ _ hh h => h.of_heap hh) own started (by kernel_rfl) Tryd.func3
    (ChangeSpec.witness_shaped (enc := enc) (C := Tryd.checked) (os := os) (X := fun w _ => laidMetH Tryd.prog Go.Proofs.YtabdfbghhkpoeaaDoor.E.laidE w) false (World.doorLaid Tryd.prog 400 os) #[.agg #[.int .i64 0, .int .i64 0, .int .i64 0, .int .i64 0, .int .i32 0]] 8 rfl (World.shaped_of_RefB (by kernel_rfl) (by kernel_rfl)) (by kernel_rfl) (by kernel_rfl) (by kernel_rfl) (Go.Proofs.YtabdfbghhkpoeaaDoor.E.door_met os _)) ?_
  intro W base args ds gs before hval0 hW _ _ hL _
  have hval : ∀ (j : Nat) t v, Tryd.f3.params[j]? = some t → args[j]? = some v → Value.okWide Tryd.prog W .any base t v := hval0
  have hW' := hW
  obtain ⟨p, q, hA0, hV, rfl, hfz, hnd⟩ := hW
  have hA : DataW.TrodAll enc Tryd.prog W 0 (fun _ => true) true Tryd.f3.params.toList args.toList ds p := hA0
  rw [Tryd.params3] at hA hval
  obtain ⟨v0, vs0, d0, ds0, p0, q0, hargs, rfl, rfl, h0, r0⟩ := trodAll_cons hA
  obtain ⟨rfl, rfl, rfl⟩ := trodAll_nil r0
  obtain rfl : args = #[v0] := by cases args; simp_all
  obtain ⟨rfl, rfl⟩ := trodVars_none hV
  have k0 := h0
  have lt0 : ∀ x ∈ p0, x.block < W.heap.size := by obtain ⟨m, hm⟩ := k0; exact DataW.trod_lt m _ _ _ hm
  obtain ⟨a0o, a0d, a0s, a0t, a0m, rfl, w0⟩ := Go.Proofs.YtabdfbghhkpoeaaDoor.W.open_ins (hval 0 23 v0 rfl rfl) h0
  clear hA0 hval0
  simp only [List.append_nil] at hW'
  refine (main a0o a0d a0s a0t a0m w0 W (Go.Proofs.YtabdfbghhkpoeaaDoor.E.tabs_of_laid hL)).mono fun e W' ⟨he, bel⟩ => ?_
  subst he
  exact ⟨_, rfl, _, _, _, [], _, [], hW', trodAll_mk1 (shut_bool Tryd.underlying4 _), (trodAll_cons_mk (Below.trod laidOut (by kernel_rfl) (of_decide_eq_true (by kernel_rfl)) k0 bel lt0) trodAll_mk0), rfl, by simpa using bel.frame _, fun h => by cases h⟩

theorem over : Rows.encPutsRow.holds Tryd.pinned (OpenSpec.ofChange Rows.encPutsSpec) :=
  OpenClaim.holds_of_wide 3 Tryd.f3 rfl rfl rfl rfl rfl rfl rfl ⟨rfl, rfl, rfl, rfl, rfl⟩ rfl rfl rfl rfl rfl (by kernel_rfl) Tryd.func3 (by kernel_rfl)
    (of_decide_eq_true (by kernel_rfl)) (by unfold Func.isWrapper; first | (rw [if_pos (by decide +kernel)]; kernel_rfl) | (rw [if_neg (by decide +kernel)]; exact ⟨rfl, rfl⟩))
    (fun os started H enc _ => lifted os started H enc)

theorem proved : Rows.EncPutsCardSaid :=
  Claim7.holds_tied_plain_at .later [] [.data, .data, .data] true _ false
    over (fun _ h => by cases h) (by kernel_rfl) (fun _ h => by cases h) Go.Proofs.YtabdfbghhkpoeaaDoor.encPuts_row_tie rfl ⟨rfl, rfl⟩ (by kernel_rfl) rfl
    (fun f fn hf hfn => by
      obtain rfl : f = 3 := Option.some.inj ((show Tryd.prog.funcNamed Rows.encPutsRow.func = some 3 by kernel_rfl).symm.trans hf) |>.symm
      obtain rfl : fn = Tryd.f3 := (Option.some.inj (Tryd.func3.symm.trans hfn)).symm
      exact ⟨by kernel_rfl, fun j t ht => by
        rw [Tryd.params3] at ht
        have hm : t ∈ [23] := by simpa using Array.mem_of_getElem? ht
        have hall : ([23].all fun u => !Tryd.prog.wantsStandIn u) = true := by kernel_rfl
        exact (show Tryd.prog.wantsStandIn t = false by simpa using List.all_eq_true.1 hall t hm)⟩)
    (by kernel_rfl)
#print axioms proved
end Go.Proofs.YtabdfbghhkpoeaaDoor.encPuts
