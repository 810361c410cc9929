/- For every instruction and every number: any register may stand where another one does; its name is read as it, by its number, too. -/
import Derived.Test.YtcbibefbjfhdcaaDoorRows
import Derived.WalkKit
import Derived.ProofKit
import Derived.OpenShut
import Derived.ShutString
import Derived.ChangeOld
import Derived.Below
import Derived.Test.YtcbibefbjfhdcaaDoorAwake03
import Derived.Test.YtcbibefbjfhdcaaDoorInsArg
import Derived.Test.YtcbibefbjfhdcaaDoorRef03r
import Derived.Test.YtcbibefbjfhdcaaDoorCellMap
import Derived.Deep.RegionWith
import Derived.Deep.Cut
import Derived.Test.YtcbibefbjfhdcaaDoorTie03
import Derived.Test.YtcbibefbjfhdcaaDoorCards
import Derived.Test.YtcbibefbjfhdcaaDoorTie
import Derived.SevenTiedAt
import Derived.LaidMore
import Derived.Stop.Joined
namespace Go.Proofs.YtcbibefbjfhdcaaDoor.insRegs
open Go.ChangeShapes Go.WideShapes Go.ChangeAt Go.RowKit
open Go.ChangeMaps (open_string shut_string)
set_option linter.unusedVariables false

open Go.Proofs.YtcbibefbjfhdcaaDoor.P Go.Proofs.YtcbibefbjfhdcaaDoor.W

/-- the register that is written, turned -/
def turned (f rd r : Int) : Int := if f = 3 ∨ f = 5 ∨ f = 9 then rd else r
theorem turned_may {op rd rs1 rs2 imm r : Int} (h : mayB op rd rs1 rs2 imm = true) (r0 : 0 ≤ r) (r1 : r < 32) : mayB op (turned (form op) rd r) rs1 rs2 imm = true := by
  unfold turned
  split
  · exact h
  · rename_i hf
    have hb := form_bd op
    unfold mayB at h ⊢
    generalize form op = f at *
    simp only [Bool.and_eq_true] at h ⊢
    obtain ⟨⟨⟨⟨h1, h2⟩, h3⟩, h4⟩, h5⟩ := h
    refine ⟨⟨⟨⟨h1, ?_⟩, h3⟩, h4⟩, h5⟩
    have hc : f = 0 ∨ f = 1 ∨ f = 2 ∨ f = 4 ∨ f = 6 ∨ f = 7 ∨ f = 8 := by omega
    unfold regB
    rcases hc with rfl | rfl | rfl | rfl | rfl | rfl | rfl
    · simp at h1
    all_goals (simp [hasRd]; omega)
theorem back_in (k : Nat) (h : k < 32) : regR (regN k) = (k : Int) ∧ regOk (regN k) = true ∧ regR (numN k) = (k : Int) ∧ regOk (numN k) = true := by
  unfold regR regOk
  rw [reg_back k h, num_back k h, if_pos h]
  simp [h]
set_option maxHeartbeats 2000000 in
theorem main (op rd rs1 rs2 imm : Int) (hb : InsB op rd rs1 rs2 imm) (n : Int) (hn : 0 ≤ n ∧ n < 256) (w : World) (hT : I.Tabs w) :
    Calls Tryd.prog 5 #[.agg #[.int .i64 op, .int .i64 rd, .int .i64 rs1, .int .i64 rs2, .int .i32 imm], .int .u8 n] w fun e w' => e = .returned (.bool true) ∧ Below w.heap.size w w' := by
  obtain ⟨⟨o0, o1⟩, -, -, -, i0, i1⟩ := hb
  obtain ⟨n0, n1⟩ := hn
  obtain ⟨k, hk⟩ : ∃ k : Nat, n % 32 = (k : Int) := ⟨(n % 32).toNat, by omega⟩
  have hk2 : k < 32 := by omega
  have hnm : n.tmod 32 = (k : Int) := by rw [Int.tmod_eq_emod_of_nonneg n0]; exact hk
  have HA := hid (fun w => I.May op rd rs1 rs2 imm w)
  have HB := hid (fun w => R3.Form op w o0 o1)
  obtain ⟨e1, e2, e3, e4⟩ := back_in k hk2
  have eN : regV (k : Int) = regN k := by unfold regV; rw [if_pos (by omega), Int.toNat_natCast]
  have HC : ∀ w, I.Tabs w → Calls Tryd.prog 19 #[.int .i64 k] w fun e w' => e = .returned (.string (regN k)) ∧ w = w' := fun w hT => by have := I.RegName (k : Int) w hT; rwa [eN] at this
  have HD := hid (fun w => R3.NumX k hk2 w)
  have HE : ∀ w, I.Tabs w → Calls Tryd.prog 17 #[.string (regN k)] w fun e w' => e = .returned (.tuple #[.int .i64 k, .bool true]) ∧ w = w' := fun w hT => by have := I.Reg (regN k) w hT; rwa [e1, e2] at this
  have HF : ∀ w, I.Tabs w → Calls Tryd.prog 17 #[.string (numN k)] w fun e w' => e = .returned (.tuple #[.int .i64 k, .bool true]) ∧ w = w' := fun w hT => by have := I.Reg (numN k) w hT; rwa [e3, e4] at this
  replace HC := hid HC
  replace HE := hid HE
  replace HF := hid HF
  clear e1 e2 e3 e4 eN
  have HG := hid (fun w => I.May op (turned (form op) rd k) rs1 rs2 imm w)
  have HM := hid (fun h => turned_may (op := op) (rd := rd) (rs1 := rs1) (rs2 := rs2) (imm := imm) (r := k) h (by omega) (by omega))
  generalize mayB op rd rs1 rs2 imm = mb at *
  have hkk : ((k : Int) == (k : Int)) = true := by simp
  go_enter Tryd.func5, Tryd.ntmps5
  go_wp2_with fail
  have z0 := Inst.new w 23 (.int .i64 op) (.int .i64 rd) (.int .i64 rs1) (.int .i64 rs2) (.int .i32 imm)
  have hb0 := below_alloc w (.cells #[.int .i64 op, .int .i64 rd, .int .i64 rs1, .int .i64 rs2, .int .i32 imm] 23)
  generalize w.alloc (.cells #[.int .i64 op, .int .i64 rd, .int .i64 rs1, .int .i64 rs2, .int .i32 imm] 23) = w1 at *
  refine (A3.awake _ (hT.below hb0)).mono ?_
  rintro e w2 ⟨rfl, hb1⟩
  replace z0 := z0.below hb1 z0.lt
  replace hb0 := bel_step hb0 hb1
  have HT := hid (hT.below hb0)
  clear hb1 hT
  have Z0 := hid z0
  clear z0
  obtain ⟨zl, c0, c1, c2, c3, c4⟩ := Z0.out
  go_wp2_with fail
  refine (HA.out _).mono ?_
  rintro e w3 ⟨rfl, hb1⟩
  replace Z0 := hid (Z0.out.below hb1 Z0.out.lt)
  replace hb0 := bel_step hb0 hb1
  replace HT := hid (HT.out.below hb1)
  clear hb1 zl c0 c1 c2 c3 c4 HA
  cases mb
  · clear HM HG
    go_wp2_with fail
    go_ret
    exact ⟨rfl, hb0⟩
  have hm := HM.out rfl
  clear HM
  obtain ⟨zl, c0, c1, c2, c3, c4⟩ := Z0.out
  have z1 := Inst.new w3 23 (.int .i64 op) (.int .i64 rd) (.int .i64 rs1) (.int .i64 rs2) (.int .i32 imm)
  go_upto_region 7 with (fail)
  have hfz : (w3.alloc (.cells #[.int .i64 op, .int .i64 rd, .int .i64 rs1, .int .i64 rs2, .int .i32 imm] 23)).frozen? ⟨w3.heap.size, 1, none⟩ = false := by simp
  have hb3 := below_alloc w3 (.cells #[.int .i64 op, .int .i64 rd, .int .i64 rs1, .int .i64 rs2, .int .i32 imm] 23)
  clear c0 c1 c2 c3 c4 zl
  replace Z0 := hid (Z0.out.below hb3 Z0.out.lt)
  generalize w3.alloc (.cells #[.int .i64 op, .int .i64 rd, .int .i64 rs1, .int .i64 rs2, .int .i32 imm] 23) = w4 at *
  obtain ⟨zl, c0, c1, c2, c3, c4⟩ := Z0.out
  go_wp2_with fail
  refine (HB.out _).mono ?_
  rintro e w5 ⟨rfl, hb1⟩
  replace hfz := ((bcell hb1).2 _ _ z1.lt).trans hfz
  replace z1 := z1.below hb1 z1.lt
  have hp1 := hb0.size
  replace hb3 := bel_step hb3 hb1
  have HT3 := HT
  replace HT := hid (HT.out.below hb3)
  have HBB := hid hb3
  clear c0 c1 c2 c3 c4 zl Z0 hb1
  have hf : form op = 3 ∨ form op = 5 ∨ form op = 9 ∨ (form op ≠ 3 ∧ form op ≠ 5 ∧ form op ≠ 9) := by omega
  rw [hm] at HG
  have HTU : Hid (turned (form op) rd k = if form op = 3 ∨ form op = 5 ∨ form op = 9 then rd else (k : Int)) := hid rfl
  generalize turned (form op) rd k = tu at *
  clear hm hb3
  generalize form op = f at *
  have hf2 : (f = 3 ∨ f = 5 ∨ f = 9) ∨ ¬ (f = 3 ∨ f = 5 ∨ f = 9) := by omega
  rcases hf2 with hx | hx
  · have e := HTU.out
    rw [if_pos hx] at e
    subst e
    have HT6 := HT
    have HB6 := HBB
    have HB0 := hid (bel_step hb0 HB6.out)
    generalize hw6 : w5 = w6 at *
    generalize w3.heap.size = p1 at *
    rcases hx with rfl | rfl | rfl
    all_goals
      skip
      obtain ⟨zl, c0, c1, c2, c3, c4⟩ := z1
      go_wp2_with ((first | (go_at_call 17; (first | (with_reducible refine (HE.out _ (HT6.out.below (by repeat' (first | (with_reducible exact Below.refl _ _) | (with_reducible assumption) | (with_reducible refine below_drewN ?_ _) | (with_reducible refine Below.alloc ?_ ?_ _) | (with_reducible refine Below.drew ?_) | (with_reducible refine Below.setCell ?_ ?_ _) | (with_reducible exact Below.size (by assumption)) | go_size)))).mono ?_) | (with_reducible refine (HF.out _ (HT6.out.below (by repeat' (first | (with_reducible exact Below.refl _ _) | (with_reducible assumption) | (with_reducible refine below_drewN ?_ _) | (with_reducible refine Below.alloc ?_ ?_ _) | (with_reducible refine Below.drew ?_) | (with_reducible refine Below.setCell ?_ ?_ _) | (with_reducible exact Below.size (by assumption)) | go_size)))).mono ?_)); rintro e w' ⟨rfl, rfl⟩) | (go_at_call 19; (with_reducible refine (HC.out _ (HT6.out.below (by repeat' (first | (with_reducible exact Below.refl _ _) | (with_reducible assumption) | (with_reducible refine below_drewN ?_ _) | (with_reducible refine Below.alloc ?_ ?_ _) | (with_reducible refine Below.drew ?_) | (with_reducible refine Below.setCell ?_ ?_ _) | (with_reducible exact Below.size (by assumption)) | go_size)))).mono ?_); rintro e w' ⟨rfl, rfl⟩) | (go_at_call 21; (with_reducible refine (HD.out _).mono ?_); rintro e w7 ⟨rfl, hbel2⟩; have hbr2 : Below w6.heap.size w6 w7 := bel_step (w := w6) (by repeat' (first | (with_reducible exact Below.refl _ _) | (with_reducible assumption) | (with_reducible refine below_drewN ?_ _) | (with_reducible refine Below.alloc ?_ ?_ _) | (with_reducible refine Below.drew ?_) | (with_reducible refine Below.setCell ?_ ?_ _) | (with_reducible exact Below.size (by assumption)) | go_size)) hbel2; clear hbel2; have zl7 := Nat.lt_of_lt_of_le zl hbr2.size; have d0 := (hbr2.cell (p := ⟨p1, 0, none⟩) zl).trans c0; have d1 := (hbr2.cell (p := ⟨p1, 1, none⟩) zl).trans c1; have d2 := (hbr2.cell (p := ⟨p1, 2, none⟩) zl).trans c2; have d3 := (hbr2.cell (p := ⟨p1, 3, none⟩) zl).trans c3; have d4 := (hbr2.cell (p := ⟨p1, 4, none⟩) zl).trans c4) | (go_at_call 11; (with_reducible refine (HG.out _).mono ?_); rintro e w8 ⟨rfl, hbel3⟩; have hbr3 : Below w6.heap.size w6 w8 := bel_step (w := w6) (by repeat' (first | (with_reducible exact Below.refl _ _) | (with_reducible assumption) | (with_reducible refine below_drewN ?_ _) | (with_reducible refine Below.alloc ?_ ?_ _) | (with_reducible refine Below.drew ?_) | (with_reducible refine Below.setCell ?_ ?_ _) | (with_reducible exact Below.size (by assumption)) | go_size)) hbel3; clear hbel3)))
      go_ret
      exact ⟨rfl, bel_step HB0.out hbr3⟩
  · have e := HTU.out
    rw [if_neg hx] at e
    subst e
    have h3 : (f != 3) = true := by simp; omega
    have h5 : (f != 5) = true := by simp; omega
    have h9 : (f != 9) = true := by simp; omega
    have z6 : Inst (w5.setCell ⟨w3.heap.size, 1, none⟩ (.int .i64 (k : Int))) w3.heap.size (.int .i64 op) (.int .i64 (k : Int)) (.int .i64 rs1) (.int .i64 rs2) (.int .i32 imm) := by
      obtain ⟨yl, d0, d1, d2, d3, d4⟩ := z1
      refine ⟨by simpa using yl, ?_, ?_, ?_, ?_, ?_⟩
      · rw [World.cell?_setCell_other _ _ _ _ (by simp)]; exact d0
      · rw [setCell_map, d1]; rfl
      · rw [World.cell?_setCell_other _ _ _ _ (by simp)]; exact d2
      · rw [World.cell?_setCell_other _ _ _ _ (by simp)]; exact d3
      · rw [World.cell?_setCell_other _ _ _ _ (by simp)]; exact d4
    have HB6 := hid (HBB.out.setCell (p := ⟨w3.heap.size, 1, none⟩) (Nat.le_refl _) (.int .i64 (k : Int)))
    have HT6 := hid (HT3.out.below HB6.out)
    obtain ⟨yl, d0, d1, d2, d3, d4⟩ := z1
    go_upto_region 10 with (fail)
    have HB0 := hid (bel_step hb0 HB6.out)
    generalize w5.setCell ⟨w3.heap.size, 1, none⟩ (.int .i64 (k : Int)) = w6 at *
    have z1 := z6
    clear yl d0 d1 d2 d3 d4 z6
    generalize w3.heap.size = p1 at *
    skip
    obtain ⟨zl, c0, c1, c2, c3, c4⟩ := z1
    go_wp2_with ((first | (go_at_call 17; (first | (with_reducible refine (HE.out _ (HT6.out.below (by repeat' (first | (with_reducible exact Below.refl _ _) | (with_reducible assumption) | (with_reducible refine below_drewN ?_ _) | (with_reducible refine Below.alloc ?_ ?_ _) | (with_reducible refine Below.drew ?_) | (with_reducible refine Below.setCell ?_ ?_ _) | (with_reducible exact Below.size (by assumption)) | go_size)))).mono ?_) | (with_reducible refine (HF.out _ (HT6.out.below (by repeat' (first | (with_reducible exact Below.refl _ _) | (with_reducible assumption) | (with_reducible refine below_drewN ?_ _) | (with_reducible refine Below.alloc ?_ ?_ _) | (with_reducible refine Below.drew ?_) | (with_reducible refine Below.setCell ?_ ?_ _) | (with_reducible exact Below.size (by assumption)) | go_size)))).mono ?_)); rintro e w' ⟨rfl, rfl⟩) | (go_at_call 19; (with_reducible refine (HC.out _ (HT6.out.below (by repeat' (first | (with_reducible exact Below.refl _ _) | (with_reducible assumption) | (with_reducible refine below_drewN ?_ _) | (with_reducible refine Below.alloc ?_ ?_ _) | (with_reducible refine Below.drew ?_) | (with_reducible refine Below.setCell ?_ ?_ _) | (with_reducible exact Below.size (by assumption)) | go_size)))).mono ?_); rintro e w' ⟨rfl, rfl⟩) | (go_at_call 21; (with_reducible refine (HD.out _).mono ?_); rintro e w7 ⟨rfl, hbel2⟩; have hbr2 : Below w6.heap.size w6 w7 := bel_step (w := w6) (by repeat' (first | (with_reducible exact Below.refl _ _) | (with_reducible assumption) | (with_reducible refine below_drewN ?_ _) | (with_reducible refine Below.alloc ?_ ?_ _) | (with_reducible refine Below.drew ?_) | (with_reducible refine Below.setCell ?_ ?_ _) | (with_reducible exact Below.size (by assumption)) | go_size)) hbel2; clear hbel2; have zl7 := Nat.lt_of_lt_of_le zl hbr2.size; have d0 := (hbr2.cell (p := ⟨p1, 0, none⟩) zl).trans c0; have d1 := (hbr2.cell (p := ⟨p1, 1, none⟩) zl).trans c1; have d2 := (hbr2.cell (p := ⟨p1, 2, none⟩) zl).trans c2; have d3 := (hbr2.cell (p := ⟨p1, 3, none⟩) zl).trans c3; have d4 := (hbr2.cell (p := ⟨p1, 4, none⟩) zl).trans c4) | (go_at_call 11; (with_reducible refine (HG.out _).mono ?_); rintro e w8 ⟨rfl, hbel3⟩; have hbr3 : Below w6.heap.size w6 w8 := bel_step (w := w6) (by repeat' (first | (with_reducible exact Below.refl _ _) | (with_reducible assumption) | (with_reducible refine below_drewN ?_ _) | (with_reducible refine Below.alloc ?_ ?_ _) | (with_reducible refine Below.drew ?_) | (with_reducible refine Below.setCell ?_ ?_ _) | (with_reducible exact Below.size (by assumption)) | go_size)) hbel3; clear hbel3)))
    go_ret
    exact ⟨rfl, bel_step HB0.out hbr3⟩

theorem own : ownKnob Tryd.prog.godebug = none := by kernel_rfl
theorem laidOut : laidOutB Tryd.prog = true := by kernel_rfl

set_option maxRecDepth 100000 in
theorem lifted (os : Os) (started : os.Started) (H : Type) (enc : TypeId × Value → H) :
    ReturnsInHanded {} Tryd.checked os 5 .any (fun w args => (Rows.insRegsSpec.pre enc Tryd.prog Tryd.f5 [] false w args ∧ laidMetH Tryd.prog Go.Proofs.YtcbibefbjfhdcaaDoor.I.laidI w) ∧ sizedMet enc Tryd.prog Tryd.f5 (OpenSpec.ofChange Rows.insRegsSpec) false w args) (Rows.insRegsSpec.post enc Tryd.prog Tryd.f5 false true false false) := by
  refine returnsInHanded_of_change_and (C := Tryd.checked) (X := fun w _ => laidMetH Tryd.prog Go.Proofs.YtcbibefbjfhdcaaDoor.I.laidI w) (fun _ _ _ hh h => h.of_heap hh) own started (by kernel_rfl) Tryd.func5
    (ChangeSpec.witness_shaped (enc := enc) (C := Tryd.checked) (os := os) (X := fun w _ => laidMetH Tryd.prog Go.Proofs.YtcbibefbjfhdcaaDoor.I.laidI w) false (World.doorLaid Tryd.prog 400 os) #[.agg #[.int .i64 0, .int .i64 0, .int .i64 0, .int .i64 0, .int .i32 0], .int .u8 0] 8 rfl (World.shaped_of_RefB (by kernel_rfl) (by kernel_rfl)) (by kernel_rfl) (by kernel_rfl) (by kernel_rfl) (Go.Proofs.YtcbibefbjfhdcaaDoor.I.door_met os _)) ?_
  intro W base args ds gs before hval0 hW _ _ hL _
  have hval : ∀ (j : Nat) t v, Tryd.f5.params[j]? = some t → args[j]? = some v → Value.okWide Tryd.prog W .any base t v := hval0
  have hW' := hW
  obtain ⟨p, q, hA0, hV, rfl, hfz, hnd⟩ := hW
  have hA : DataW.TrodAll enc Tryd.prog W 0 (fun _ => true) true Tryd.f5.params.toList args.toList ds p := hA0
  rw [Tryd.params5] at hA hval
  obtain ⟨v0, vs0, d0, ds0, p0, q0, hargs, rfl, rfl, h0, r0⟩ := trodAll_cons hA
  obtain ⟨v1, vs1, d1, ds1, p1, q1, rfl, rfl, rfl, h1, r1⟩ := trodAll_cons r0
  obtain ⟨rfl, rfl, rfl⟩ := trodAll_nil r1
  obtain rfl : args = #[v0, v1] := by cases args; simp_all
  obtain ⟨rfl, rfl⟩ := trodVars_none hV
  have k0 := h0
  have lt0 : ∀ x ∈ p0, x.block < W.heap.size := by obtain ⟨m, hm⟩ := k0; exact DataW.trod_lt m _ _ _ hm
  obtain ⟨a0o, a0d, a0s, a0t, a0m, rfl, w0⟩ := Go.Proofs.YtcbibefbjfhdcaaDoor.W.open_ins (hval 0 23 v0 rfl rfl) h0
  obtain ⟨a1, rfl, rfl, rfl, w1⟩ := open_int Tryd.underlying5 (hval 1 5 v1 rfl rfl) h1
  have b1 : 0 ≤ a1 ∧ a1 < 256 := by
    have : 0 ≤ a1 ∧ a1 ≤ 255 := by simpa [Lit.wf, IntKind.min, IntKind.max, IntKind.signed, IntKind.bits] using w1
    omega
  clear hA0 hval0
  simp only [List.append_nil] at hW'
  refine (main a0o a0d a0s a0t a0m w0 a1 b1 W (Go.Proofs.YtcbibefbjfhdcaaDoor.I.tabs_of_laid hL)).mono fun e W' ⟨he, bel⟩ => ?_
  subst he
  exact ⟨_, rfl, _, _, _, [], _, [], hW', trodAll_mk1 (shut_bool Tryd.underlying4 _), (trodAll_cons_mk (Below.trod laidOut (by kernel_rfl) (of_decide_eq_true (by kernel_rfl)) k0 bel lt0) (trodAll_cons_mk (shut_int Tryd.underlying5 w1) trodAll_mk0)), rfl, by simpa using bel.frame _, fun h => by cases h⟩

theorem over : Rows.insRegsRow.holds Tryd.pinned (OpenSpec.ofChange Rows.insRegsSpec) :=
  OpenClaim.holds_of_wide 5 Tryd.f5 rfl rfl rfl rfl rfl rfl rfl ⟨rfl, rfl, rfl, rfl, rfl⟩ rfl rfl rfl rfl rfl (by kernel_rfl) Tryd.func5 (by kernel_rfl)
    (of_decide_eq_true (by kernel_rfl)) (by unfold Func.isWrapper; first | (rw [if_pos (by decide +kernel)]; kernel_rfl) | (rw [if_neg (by decide +kernel)]; exact ⟨rfl, rfl⟩))
    (fun os started H enc _ => lifted os started H enc)

theorem proved : Rows.InsRegsCardSaid :=
  Claim7.holds_tied_plain_at .later [] [.data, .data, .data, .data, .data] true _ false
    over (fun _ h => by cases h) (by kernel_rfl) (fun _ h => by cases h) Go.Proofs.YtcbibefbjfhdcaaDoor.insRegs_row_tie rfl ⟨rfl, rfl⟩ (by kernel_rfl) rfl
    (fun f fn hf hfn => by
      obtain rfl : f = 5 := Option.some.inj ((show Tryd.prog.funcNamed Rows.insRegsRow.func = some 5 by kernel_rfl).symm.trans hf) |>.symm
      obtain rfl : fn = Tryd.f5 := (Option.some.inj (Tryd.func5.symm.trans hfn)).symm
      exact ⟨by kernel_rfl, fun j t ht => by
        rw [Tryd.params5] at ht
        have hm : t ∈ [23, 5] := by simpa using Array.mem_of_getElem? ht
        have hall : ([23, 5].all fun u => !Tryd.prog.wantsStandIn u) = true := by kernel_rfl
        exact (show Tryd.prog.wantsStandIn t = false by simpa using List.all_eq_true.1 hall t hm)⟩)
    (by kernel_rfl)
#print axioms proved
end Go.Proofs.YtcbibefbjfhdcaaDoor.insRegs
