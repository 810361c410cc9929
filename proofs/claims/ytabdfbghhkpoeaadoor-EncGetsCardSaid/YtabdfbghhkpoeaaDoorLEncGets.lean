/- For every word: it is that of the instruction that the reference says, or of none; what is got is put as it was. -/
import Derived.Test.YtabdfbghhkpoeaaDoorRows
import Derived.WalkKit
import Derived.ProofKit
import Derived.OpenShut
import Derived.ShutString
import Derived.ChangeOld
import Derived.Below
import Derived.Test.YtabdfbghhkpoeaaDoorAwake08
import Derived.Deep.Cut
import Derived.Test.YtabdfbghhkpoeaaDoorTie08
import Derived.Test.YtabdfbghhkpoeaaDoorCards
import Derived.Test.YtabdfbghhkpoeaaDoorTie
import Derived.SevenTiedAt
import Derived.LaidMore
import Derived.Stop.Joined
namespace Go.Proofs.YtabdfbghhkpoeaaDoor.encGets
open Go.ChangeShapes Go.WideShapes Go.ChangeAt Go.RowKit
open Go.ChangeMaps (open_string shut_string)
set_option linter.unusedVariables false

open Go.Proofs.YtabdfbghhkpoeaaDoor.P Go.Proofs.YtabdfbghhkpoeaaDoor.W

theorem may0 : mayB 0 0 0 0 0 = false := by decide
open Go.Proofs.YtabdfbghhkpoeaaDoor.W in
set_option maxHeartbeats 1000000 in
theorem main (x : Int) (b0 : 0 ≤ x ∧ x < 4294967296) (w : World) (hT : E.Tabs w) :
    Calls Tryd.prog 4 #[.int .u32 x] w fun e w' => e = .returned (.bool true) ∧ Below w.heap.size w w' := by
  obtain ⟨x0, x1⟩ := b0
  have HT := hid hT
  clear hT
  obtain ⟨q0, q1, q2, q3, q4, y, HG, HR, HP, HY⟩ : ∃ (q0 q1 q2 q3 q4 y : Int), Hid (∀ w, E.Tabs w → Calls Tryd.prog 12 #[.int .u32 x] w fun e w' => e = .returned (.tuple #[.agg #[.int .i64 q0, .int .i64 q1, .int .i64 q2, .int .i64 q3, .int .i32 q4], .bool (getB x)]) ∧ Below w.heap.size w w') ∧
      Hid (∀ w, Calls Tryd.prog 13 #[.int .u32 x] w fun e w' => e = .returned (.tuple #[.agg #[.int .i64 q0, .int .i64 q1, .int .i64 q2, .int .i64 q3, .int .i32 q4], .bool (getB x)]) ∧ Below w.heap.size w w') ∧
      Hid (∀ w, E.Tabs w → Calls Tryd.prog 8 #[.agg #[.int .i64 q0, .int .i64 q1, .int .i64 q2, .int .i64 q3, .int .i32 q4]] w fun e w' => e = .returned (.tuple #[.int .u32 y, .bool (getB x)]) ∧ Below w.heap.size w w') ∧ Hid (getB x = true → y = x) := by
    have hr := fun w => R8.Get x w x0 x1
    cases hg : getB x
    · simp only [hg, Bool.false_eq_true, if_false] at hr
      exact ⟨0, 0, 0, 0, 0, 0, hid (fun w hT => E.Get_isnt x w x0 x1 hg), hid hr, hid (fun w hT => E.Put_no 0 0 0 0 0 w may0), hid (fun h => by cases h)⟩
    · simp only [hg, if_true] at hr
      obtain ⟨hne, hx⟩ := getB_code hg
      have hm := may_dec x hne
      have hi := dImm_bd x x0 x1
      refine ⟨opN x, dRd x, dRs1 x, dRs2 x, dImm x, x, hid (fun w hT => E.Get_is x w x0 x1 hg hT), hid hr, hid (fun w hT => ?_), hid (fun _ => rfl)⟩
      have := E.Put_yes (opN x) (dRd x) (dRs1 x) (dRs2 x) (dImm x) w hm hi.1 hi.2 hT
      rw [hx] at this
      exact this
  generalize getB x = g at *
  go_enter Tryd.func4, Tryd.ntmps4
  go_wp2_with fail
  refine (A8.awake _ HT.out).mono ?_
  rintro e w1 ⟨rfl, hb0⟩
  replace HT := hid (HT.out.below hb0)
  go_wp2_with fail
  refine (HG.out _ HT.out).mono ?_
  rintro e w2 ⟨rfl, hb1⟩
  replace HT := hid (HT.out.below hb1)
  replace hb0 := bel_step hb0 hb1
  clear hb1 HG
  go_upto_region 4 with (fail)
  have z0 := Inst.new w2 23 (.int .i64 q0) (.int .i64 q1) (.int .i64 q2) (.int .i64 q3) (.int .i32 q4)
  replace hb0 := bel_step hb0 (below_alloc w2 (.cells #[.int .i64 q0, .int .i64 q1, .int .i64 q2, .int .i64 q3, .int .i32 q4] 23))
  replace HT := hid (HT.out.below (below_alloc w2 (.cells #[.int .i64 q0, .int .i64 q1, .int .i64 q2, .int .i64 q3, .int .i32 q4] 23)))
  generalize w2.alloc (.cells #[.int .i64 q0, .int .i64 q1, .int .i64 q2, .int .i64 q3, .int .i32 q4] 23) = w3 at *
  generalize w2.heap.size = pb at *
  go_wp2_with fail
  refine (HR.out _).mono ?_
  rintro e w4 ⟨rfl, hb1⟩
  replace z0 := z0.below hb1 z0.lt
  replace HT := hid (HT.out.below hb1)
  replace hb0 := bel_step hb0 hb1
  clear hb1 HR
  go_upto_region 5 with (fail)
  have z1 := Inst.new w4 23 (.int .i64 q0) (.int .i64 q1) (.int .i64 q2) (.int .i64 q3) (.int .i32 q4)
  replace z0 := z0.below (below_alloc w4 (.cells #[.int .i64 q0, .int .i64 q1, .int .i64 q2, .int .i64 q3, .int .i32 q4] 23)) z0.lt
  replace hb0 := bel_step hb0 (below_alloc w4 (.cells #[.int .i64 q0, .int .i64 q1, .int .i64 q2, .int .i64 q3, .int .i32 q4] 23))
  replace HT := hid (HT.out.below (below_alloc w4 (.cells #[.int .i64 q0, .int .i64 q1, .int .i64 q2, .int .i64 q3, .int .i32 q4] 23)))
  generalize w4.alloc (.cells #[.int .i64 q0, .int .i64 q1, .int .i64 q2, .int .i64 q3, .int .i32 q4] 23) = w5 at *
  generalize w4.heap.size = pc at *
  obtain ⟨zl, c0, c1, c2, c3, c4⟩ := z0
  obtain ⟨yl, d0, d1, d2, d3, d4⟩ := z1
  go_wp2_with fail
  refine (HP.out _ HT.out).mono ?_
  rintro e w6 ⟨rfl, hb1⟩
  replace hb0 := bel_step hb0 hb1
  clear hb1 HP zl c0 c1 c2 c3 c4 yl d0 d1 d2 d3 d4
  cases g
  · clear HY
    go_wp2
    go_ret
    exact ⟨rfl, (by repeat' (first | (with_reducible exact Below.refl _ _) | (with_reducible assumption) | (with_reducible refine below_drewN ?_ _) | (with_reducible refine Below.alloc ?_ ?_ _) | (with_reducible refine Below.drew ?_) | (with_reducible refine Below.setCell ?_ ?_ _) | (with_reducible exact Below.size (by assumption)) | go_size))⟩
  · obtain rfl := HY.out rfl
    clear HY
    go_wp2
    go_ret
    exact ⟨rfl, (by repeat' (first | (with_reducible exact Below.refl _ _) | (with_reducible assumption) | (with_reducible refine below_drewN ?_ _) | (with_reducible refine Below.alloc ?_ ?_ _) | (with_reducible refine Below.drew ?_) | (with_reducible refine Below.setCell ?_ ?_ _) | (with_reducible exact Below.size (by assumption)) | go_size))⟩

theorem own : ownKnob Tryd.prog.godebug = none := by kernel_rfl
theorem laidOut : laidOutB Tryd.prog = true := by kernel_rfl

set_option maxRecDepth 100000 in
theorem lifted (os : Os) (started : os.Started) (H : Type) (enc : TypeId × Value → H) :
    ReturnsInHanded {} Tryd.checked os 4 .any (fun w args => (Rows.encGetsSpec.pre enc Tryd.prog Tryd.f4 [] false w args ∧ laidMetH Tryd.prog Go.Proofs.YtabdfbghhkpoeaaDoor.E.laidE w) ∧ sizedMet enc Tryd.prog Tryd.f4 (OpenSpec.ofChange Rows.encGetsSpec) false w args) (Rows.encGetsSpec.post enc Tryd.prog Tryd.f4 false true false false) := by
  refine returnsInHanded_of_change_and (C := Tryd.checked) (X := fun w _ => laidMetH Tryd.prog Go.Proofs.YtabdfbghhkpoeaaDoor.E.laidE w) (fun _ _ _ hh h => h.of_heap hh) own started (by kernel_rfl) Tryd.func4
    (ChangeSpec.witness_shaped (enc := enc) (C := Tryd.checked) (os := os) (X := fun w _ => laidMetH Tryd.prog Go.Proofs.YtabdfbghhkpoeaaDoor.E.laidE w) false (World.doorLaid Tryd.prog 400 os) #[.int .u32 0] 8 rfl (World.shaped_of_RefB (by kernel_rfl) (by kernel_rfl)) (by kernel_rfl) (by kernel_rfl) (by kernel_rfl) (Go.Proofs.YtabdfbghhkpoeaaDoor.E.door_met os _)) ?_
  intro W base args ds gs before hval0 hW _ _ hL _
  have hval : ∀ (j : Nat) t v, Tryd.f4.params[j]? = some t → args[j]? = some v → Value.okWide Tryd.prog W .any base t v := hval0
  have hW' := hW
  obtain ⟨p, q, hA0, hV, rfl, hfz, hnd⟩ := hW
  have hA : DataW.TrodAll enc Tryd.prog W 0 (fun _ => true) true Tryd.f4.params.toList args.toList ds p := hA0
  rw [Tryd.params4] at hA hval
  obtain ⟨v0, vs0, d0, ds0, p0, q0, hargs, rfl, rfl, h0, r0⟩ := trodAll_cons hA
  obtain ⟨rfl, rfl, rfl⟩ := trodAll_nil r0
  obtain rfl : args = #[v0] := by cases args; simp_all
  obtain ⟨rfl, rfl⟩ := trodVars_none hV
  obtain ⟨a0, rfl, rfl, rfl, w0⟩ := open_int Tryd.underlying25 (hval 0 25 v0 rfl rfl) h0
  have b0 : 0 ≤ a0 ∧ a0 < 4294967296 := by
    have : 0 ≤ a0 ∧ a0 ≤ 4294967295 := by simpa [Lit.wf, IntKind.min, IntKind.max, IntKind.signed, IntKind.bits] using w0
    omega
  clear hA0 hval0
  simp only [List.append_nil] at hW'
  refine (main a0 b0 W (Go.Proofs.YtabdfbghhkpoeaaDoor.E.tabs_of_laid hL)).mono fun e W' ⟨he, bel⟩ => ?_
  subst he
  exact ⟨_, rfl, _, _, _, [], _, [], hW', trodAll_mk1 (shut_bool Tryd.underlying4 _), (trodAll_cons_mk (shut_int Tryd.underlying25 w0) trodAll_mk0), rfl, by simpa using bel.frame _, fun h => by cases h⟩

theorem over : Rows.encGetsRow.holds Tryd.pinned (OpenSpec.ofChange Rows.encGetsSpec) :=
  OpenClaim.holds_of_wide 4 Tryd.f4 rfl rfl rfl rfl rfl rfl rfl ⟨rfl, rfl, rfl, rfl, rfl⟩ rfl rfl rfl rfl rfl (by kernel_rfl) Tryd.func4 (by kernel_rfl)
    (of_decide_eq_true (by kernel_rfl)) (by unfold Func.isWrapper; first | (rw [if_pos (by decide +kernel)]; kernel_rfl) | (rw [if_neg (by decide +kernel)]; exact ⟨rfl, rfl⟩))
    (fun os started H enc _ => lifted os started H enc)

theorem proved : Rows.EncGetsCardSaid :=
  Claim7.holds_tied_plain_at .later [] [.data, .data, .data] true _ false
    over (fun _ h => by cases h) (by kernel_rfl) (fun _ h => by cases h) Go.Proofs.YtabdfbghhkpoeaaDoor.encGets_row_tie rfl ⟨rfl, rfl⟩ (by kernel_rfl) rfl
    (fun f fn hf hfn => by
      obtain rfl : f = 4 := Option.some.inj ((show Tryd.prog.funcNamed Rows.encGetsRow.func = some 4 by kernel_rfl).symm.trans hf) |>.symm
      obtain rfl : fn = Tryd.f4 := (Option.some.inj (Tryd.func4.symm.trans hfn)).symm
      exact ⟨by kernel_rfl, fun j t ht => by
        rw [Tryd.params4] at ht
        have hm : t ∈ [25] := by simpa using Array.mem_of_getElem? ht
        have hall : ([25].all fun u => !Tryd.prog.wantsStandIn u) = true := by kernel_rfl
        exact (show Tryd.prog.wantsStandIn t = false by simpa using List.all_eq_true.1 hall t hm)⟩)
    (by kernel_rfl)
#print axioms proved
end Go.Proofs.YtabdfbghhkpoeaaDoor.encGets
