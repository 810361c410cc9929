/- For every instruction: it may be just as the document says; each operation has its form and its name. -/
import Derived.Test.YtcbibefbjfhdcaaDoorRows
import Derived.WalkKit
import Derived.ProofKit
import Derived.OpenShut
import Derived.ShutString
import Derived.ChangeOld
import Derived.Below
import Derived.Test.YtcbibefbjfhdcaaDoorAwake03
import Derived.Test.YtcbibefbjfhdcaaDoorInsArg
import Derived.Test.YtcbibefbjfhdcaaDoorMay03
import Derived.Lib.QuietBelow
import Derived.Deep.RegionWith
import Derived.Deep.Cut
import Derived.Deep.DeepCutAuto
import Derived.Test.YtcbibefbjfhdcaaDoorTie03
import Derived.Test.YtcbibefbjfhdcaaDoorCards
import Derived.Test.YtcbibefbjfhdcaaDoorTie
import Derived.SevenTiedAt
import Derived.LaidMore
import Derived.Stop.Joined
namespace Go.Proofs.YtcbibefbjfhdcaaDoor.insMay
open Go.ChangeShapes Go.WideShapes Go.ChangeAt Go.RowKit
open Go.ChangeMaps (open_string shut_string)
set_option linter.unusedVariables false

open Go.Proofs.YtcbibefbjfhdcaaDoor.P Go.Proofs.YtcbibefbjfhdcaaDoor.W

theorem names_full : ∀ k, k < 49 → 1 ≤ k → (nameN k).data.toList.isEmpty = false := by decide
set_option maxHeartbeats 2000000 in
theorem main (op rd rs1 rs2 imm : Int) (hb : InsB op rd rs1 rs2 imm) (w : World) (hT : I.Tabs w) :
    Calls Tryd.prog 3 #[.agg #[.int .i64 op, .int .i64 rd, .int .i64 rs1, .int .i64 rs2, .int .i32 imm]] w fun e w' => e = .returned (.bool true) ∧ Below w.heap.size w w' := by
  obtain ⟨⟨o0, o1⟩, -, -, -, i0, i1⟩ := hb
  have HA := hid (fun w => I.May op rd rs1 rs2 imm w)
  have HB := hid (fun w => R3.May op rd rs1 rs2 imm w o0 o1 i0 i1)
  have HC := hid (fun w => I.FormOf op w)
  have HD := hid (fun w => R3.Form op w o0 o1)
  have HE := hid (fun w hT => I.Name op w hT)
  generalize mayB op rd rs1 rs2 imm = mb at *
  generalize form op = fo at *
  have hmm : (mb == mb) = true := by simp
  have hff : (fo == fo) = true := by simp
  have hoo : (op == op) = true := by simp
  go_enter Tryd.func3, Tryd.ntmps3
  go_wp2_with fail
  have z0 := Inst.new w 23 (.int .i64 op) (.int .i64 rd) (.int .i64 rs1) (.int .i64 rs2) (.int .i32 imm)
  have hb0 := below_alloc w (.cells #[.int .i64 op, .int .i64 rd, .int .i64 rs1, .int .i64 rs2, .int .i32 imm] 23)
  generalize w.alloc (.cells #[.int .i64 op, .int .i64 rd, .int .i64 rs1, .int .i64 rs2, .int .i32 imm] 23) = w1 at *
  refine (A3.awake _ (hT.below hb0)).mono ?_
  rintro e w2 ⟨rfl, hb1⟩
  replace z0 := z0.below hb1 z0.lt
  replace hb0 := bel_step hb0 hb1
  have HT := hid (hT.below hb0)
  clear hb1 hT
  obtain ⟨zl, c0, c1, c2, c3, c4⟩ := z0
  by_cases h : 1 ≤ op ∧ op ≤ 48
  · have e : nameV op = nameN op.toNat := by unfold nameV; rw [if_pos h]
    rw [e] at HE
    clear e
    have HO : Hid (ixFrom (nameN op.toNat) 1 48 = op) := hid (by have := name_back op.toNat (by omega) (by omega); rw [this]; omega)
    have hNN : Hid (names.getD op.toNat ⟨#[]⟩ = nameN op.toNat) := hid rfl
    have HI := hid (fun w hT => I.Op (nameN op.toNat) w hT)
    rw [HO.out] at HI
    have hne : (nameN op.toNat).toList.isEmpty = false := by
      rw [ByteArray.toList_eq]; exact names_full op.toNat (by omega) (by omega)
    generalize nameN op.toNat = nm at *
    obtain ⟨h1, h2⟩ := h
    have h3 : op < 49 := by omega
    have h4 : 0 ≤ op := by omega
    have hn2 : (nm.toList == nm.toList) = true := beq_self_eq_true _
    go_upto_region 5 with (fail)
    have HNM := hid (fun w => (R3.Names w).mono (R' := fun e w' => ∃ b, e = .returned (.slice (some ⟨b, 0, none⟩) 49 49) ∧ Below w.heap.size w w' ∧ b < w'.heap.size ∧ w'.cell? ⟨b, op.toNat, none⟩ = some (.string nm)) (fun e w' ⟨h1, h2, h3⟩ => ⟨_, h1, h2, h3.1, by have := h3.2 op.toNat (by show op.toNat < 49; omega); rwa [hNN.out] at this⟩))
    go_cut [3] (fun v wx => v = .string nm ∧ Below w2.heap.size w2 wx)
    case first =>
      go_region_with (go_at_call 10; (with_reducible refine (HNM.out _).mono ?_); rintro e w' ⟨b, rfl, hbel, hbl, hnc⟩; (try (with_reducible replace hbel := bel_undrew hbel)); (try (with_reducible replace hbel := bel_undrewN hbel)); have hbw3 : Below w2.heap.size w2 w' := bel_step (w := w2) (by repeat' (first | (with_reducible exact Below.refl _ _) | (with_reducible assumption) | (with_reducible refine below_drewN ?_ _) | (with_reducible refine Below.alloc ?_ ?_ _) | (with_reducible refine Below.drew ?_) | (with_reducible refine Below.setCell ?_ ?_ _) | (with_reducible exact Below.size (by assumption)) | go_size)) hbel; have hsw := hbw3.size; have hsb := hbel.size; (try simp at hsb); obtain ⟨hcel, hfro⟩ := bcell hbel; clear hbel)
      all_goals (go_wp2_with fail; go_meet)
      all_goals exact ⟨rfl, (by repeat' (first | (with_reducible exact Below.refl _ _) | (with_reducible assumption) | (with_reducible refine below_drewN ?_ _) | (with_reducible refine Below.alloc ?_ ?_ _) | (with_reducible refine Below.drew ?_) | (with_reducible refine Below.setCell ?_ ?_ _) | (with_reducible exact Below.size (by assumption)) | go_size))⟩
    case rest =>
      obtain ⟨rfl, hbx⟩ := hcut
      have hb3 := bel_step hb0 hbx
      have HTX := hid (HT.out.below hbx)
      obtain ⟨xl, d0, d1, d2, d3, d4⟩ := Inst.below ⟨zl, c0, c1, c2, c3, c4⟩ hbx zl
      clear c0 c1 c2 c3 c4 hbx HT HNM
      have k0 := cell_regrown d0
      have k1 := cell_regrown d1
      have k2 := cell_regrown d2
      have k3 := cell_regrown d3
      have k4 := cell_regrown d4
      have cA := fun d os => Calls.regrown_of (d := d) (os := os) (w := wc) (HA.out _)
      have cB := fun d os => Calls.regrown_of (d := d) (os := os) (w := wc) (HB.out _)
      have cC := fun d os => Calls.regrown_of (d := d) (os := os) (w := wc) ((HC.out _).mono fun e w' h => ⟨h.1, by rw [← h.2]; exact Below.refl _ _⟩)
      have cD := fun d os => Calls.regrown_of (d := d) (os := os) (w := wc) (HD.out _)
      have cE := fun d os => Calls.regrown_of (d := d) (os := os) (w := wc) ((HE.out _ (HTX.out.below (below_regrown wc d os))).mono fun e w' h => ⟨h.1, by rw [← h.2]; exact Below.refl _ _⟩)
      have cF := fun d os => Calls.regrown_of (d := d) (os := os) (w := wc) ((HI.out _ (HTX.out.below (below_regrown wc d os))).mono fun e w' h => ⟨h.1, by rw [← h.2]; exact Below.refl _ _⟩)
      go_wp2_with fail
      refine wp_region_quiet_below (by kernel_rfl) (by kernel_rfl) ?_
      repeat (quiet_step (first | exact cA _ _ | exact cB _ _ | exact cC _ _ | exact cD _ _ | exact cE _ _ | exact cF _ _))
      refine wpQuiet_nil ?_
      intro _ hw'
      obtain ⟨⟨dq, osq⟩, hw''⟩ := hw'
      subst hw''
      have hw3 : Below w.heap.size w (Go.Sort.grow (redrawn wc dq) osq) := bel_step hb3 (below_regrown wc dq osq)
      generalize Go.Sort.grow (redrawn wc dq) osq = w' at *
      clear cA cB cC cD cE cF k0 k1 k2 k3 k4
      go_wp2
      go_ret
      exact ⟨rfl, hw3⟩
  · have e : nameV op = ⟨#[]⟩ := by unfold nameV; rw [if_neg h]
    rw [e] at HE
    clear e
    have HTX := HT
    have hcs : op < 1 ∨ (1 ≤ op ∧ 48 < op) := by omega
    have hemp : (⟨#[]⟩ : ByteArray).toList = [] := by rw [ByteArray.toList_eq]
    clear h
    rcases hcs with h1 | ⟨h1, h2⟩
    all_goals
      have k0 := cell_regrown c0
      have k1 := cell_regrown c1
      have k2 := cell_regrown c2
      have k3 := cell_regrown c3
      have k4 := cell_regrown c4
      have cA := fun d os => Calls.regrown_of (d := d) (os := os) (w := w2) (HA.out _)
      have cB := fun d os => Calls.regrown_of (d := d) (os := os) (w := w2) (HB.out _)
      have cC := fun d os => Calls.regrown_of (d := d) (os := os) (w := w2) ((HC.out _).mono fun e w' h => ⟨h.1, by rw [← h.2]; exact Below.refl _ _⟩)
      have cD := fun d os => Calls.regrown_of (d := d) (os := os) (w := w2) (HD.out _)
      have cE := fun d os => Calls.regrown_of (d := d) (os := os) (w := w2) ((HE.out _ (HTX.out.below (below_regrown w2 d os))).mono fun e w' h => ⟨h.1, by rw [← h.2]; exact Below.refl _ _⟩)
      go_wp2_with fail
      refine wp_region_quiet_below (by kernel_rfl) (by kernel_rfl) ?_
      repeat (quiet_step (first | exact cA _ _ | exact cB _ _ | exact cC _ _ | exact cD _ _ | exact cE _ _))
      refine wpQuiet_nil ?_
      intro _ hw'
      obtain ⟨⟨dq, osq⟩, hw''⟩ := hw'
      subst hw''
      have hw3 : Below w.heap.size w (Go.Sort.grow (redrawn w2 dq) osq) := bel_step hb0 (below_regrown w2 dq osq)
      generalize Go.Sort.grow (redrawn w2 dq) osq = w' at *
      clear cA cB cC cD cE k0 k1 k2 k3 k4
      go_wp2
      go_ret
      exact ⟨rfl, hw3⟩

theorem own : ownKnob Tryd.prog.godebug = none := by kernel_rfl
theorem laidOut : laidOutB Tryd.prog = true := by kernel_rfl

set_option maxRecDepth 100000 in
theorem lifted (os : Os) (started : os.Started) (H : Type) (enc : TypeId × Value → H) :
    ReturnsInHanded {} Tryd.checked os 3 .any (fun w args => (Rows.insMaySpec.pre enc Tryd.prog Tryd.f3 [] false w args ∧ laidMetH Tryd.prog Go.Proofs.YtcbibefbjfhdcaaDoor.I.laidI w) ∧ sizedMet enc Tryd.prog Tryd.f3 (OpenSpec.ofChange Rows.insMaySpec) false w args) (Rows.insMaySpec.post enc Tryd.prog Tryd.f3 false true false false) := by
  refine returnsInHanded_of_change_and (C := Tryd.checked) (X := fun w _ => laidMetH Tryd.prog Go.Proofs.YtcbibefbjfhdcaaDoor.I.laidI w) (fun _ _ _ hh h => h.of_heap hh) own started (by kernel_rfl) Tryd.func3
    (ChangeSpec.witness_shaped (enc := enc) (C := Tryd.checked) (os := os) (X := fun w _ => laidMetH Tryd.prog Go.Proofs.YtcbibefbjfhdcaaDoor.I.laidI w) false (World.doorLaid Tryd.prog 400 os) #[.agg #[.int .i64 0, .int .i64 0, .int .i64 0, .int .i64 0, .int .i32 0]] 8 rfl (World.shaped_of_RefB (by kernel_rfl) (by kernel_rfl)) (by kernel_rfl) (by kernel_rfl) (by kernel_rfl) (Go.Proofs.YtcbibefbjfhdcaaDoor.I.door_met os _)) ?_
  intro W base args ds gs before hval0 hW _ _ hL _
  have hval : ∀ (j : Nat) t v, Tryd.f3.params[j]? = some t → args[j]? = some v → Value.okWide Tryd.prog W .any base t v := hval0
  have hW' := hW
  obtain ⟨p, q, hA0, hV, rfl, hfz, hnd⟩ := hW
  have hA : DataW.TrodAll enc Tryd.prog W 0 (fun _ => true) true Tryd.f3.params.toList args.toList ds p := hA0
  rw [Tryd.params3] at hA hval
  obtain ⟨v0, vs0, d0, ds0, p0, q0, hargs, rfl, rfl, h0, r0⟩ := trodAll_cons hA
  obtain ⟨rfl, rfl, rfl⟩ := trodAll_nil r0
  obtain rfl : args = #[v0] := by cases args; simp_all
  obtain ⟨rfl, rfl⟩ := trodVars_none hV
  have k0 := h0
  have lt0 : ∀ x ∈ p0, x.block < W.heap.size := by obtain ⟨m, hm⟩ := k0; exact DataW.trod_lt m _ _ _ hm
  obtain ⟨a0o, a0d, a0s, a0t, a0m, rfl, w0⟩ := Go.Proofs.YtcbibefbjfhdcaaDoor.W.open_ins (hval 0 23 v0 rfl rfl) h0
  clear hA0 hval0
  simp only [List.append_nil] at hW'
  refine (main a0o a0d a0s a0t a0m w0 W (Go.Proofs.YtcbibefbjfhdcaaDoor.I.tabs_of_laid hL)).mono fun e W' ⟨he, bel⟩ => ?_
  subst he
  exact ⟨_, rfl, _, _, _, [], _, [], hW', trodAll_mk1 (shut_bool Tryd.underlying4 _), (trodAll_cons_mk (Below.trod laidOut (by kernel_rfl) (of_decide_eq_true (by kernel_rfl)) k0 bel lt0) trodAll_mk0), rfl, by simpa using bel.frame _, fun h => by cases h⟩

theorem over : Rows.insMayRow.holds Tryd.pinned (OpenSpec.ofChange Rows.insMaySpec) :=
  OpenClaim.holds_of_wide 3 Tryd.f3 rfl rfl rfl rfl rfl rfl rfl ⟨rfl, rfl, rfl, rfl, rfl⟩ rfl rfl rfl rfl rfl (by kernel_rfl) Tryd.func3 (by kernel_rfl)
    (of_decide_eq_true (by kernel_rfl)) (by unfold Func.isWrapper; first | (rw [if_pos (by decide +kernel)]; kernel_rfl) | (rw [if_neg (by decide +kernel)]; exact ⟨rfl, rfl⟩))
    (fun os started H enc _ => lifted os started H enc)

theorem proved : Rows.InsMayCardSaid :=
  Claim7.holds_tied_plain_at .later [] [.data, .data, .data, .data, .data] true _ false
    over (fun _ h => by cases h) (by kernel_rfl) (fun _ h => by cases h) Go.Proofs.YtcbibefbjfhdcaaDoor.insMay_row_tie rfl ⟨rfl, rfl⟩ (by kernel_rfl) rfl
    (fun f fn hf hfn => by
      obtain rfl : f = 3 := Option.some.inj ((show Tryd.prog.funcNamed Rows.insMayRow.func = some 3 by kernel_rfl).symm.trans hf) |>.symm
      obtain rfl : fn = Tryd.f3 := (Option.some.inj (Tryd.func3.symm.trans hfn)).symm
      exact ⟨by kernel_rfl, fun j t ht => by
        rw [Tryd.params3] at ht
        have hm : t ∈ [23] := by simpa using Array.mem_of_getElem? ht
        have hall : ([23].all fun u => !Tryd.prog.wantsStandIn u) = true := by kernel_rfl
        exact (show Tryd.prog.wantsStandIn t = false by simpa using List.all_eq_true.1 hall t hm)⟩)
    (by kernel_rfl)
#print axioms proved
end Go.Proofs.YtcbibefbjfhdcaaDoor.insMay
