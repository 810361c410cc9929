/- For every two instructions: unlike ones have unlike words; the lowest two bits of each word are 1, and the lowest five aren't all. -/
import Derived.Test.YtabdfbghhkpoeaaDoorRows
import Derived.WalkKit
import Derived.ProofKit
import Derived.OpenShut
import Derived.ShutString
import Derived.ChangeOld
import Derived.Below
import Derived.Test.YtabdfbghhkpoeaaDoorAwake08
import Derived.Test.YtabdfbghhkpoeaaDoorTie08
import Derived.Test.YtabdfbghhkpoeaaDoorCards
import Derived.Test.YtabdfbghhkpoeaaDoorTie
import Derived.SevenTiedAt
import Derived.LaidMore
import Derived.Stop.Joined
namespace Go.Proofs.YtabdfbghhkpoeaaDoor.encApart
open Go.ChangeShapes Go.WideShapes Go.ChangeAt Go.RowKit
open Go.ChangeMaps (open_string shut_string)
set_option linter.unusedVariables false

open Go.Proofs.YtabdfbghhkpoeaaDoor.P Go.Proofs.YtabdfbghhkpoeaaDoor.W

theorem lowest {x : Int} (h : opN x ≠ 0) : x % 4 = 3 ∧ x % 32 ≠ 31 := by
  obtain ⟨p1, _, _, _, _, r0, r1⟩ := opN_code h
  have hl : ∀ k : Nat, k < 48 → lowOf ((k : Int) + 1) % 4 = 3 ∧ lowOf ((k : Int) + 1) % 32 ≠ 31 := by decide
  have := hl (opN x - 1).toNat (by omega)
  rw [show (((opN x - 1).toNat : Nat) : Int) + 1 = opN x by omega, p1] at this
  omega
open Go.Proofs.YtabdfbghhkpoeaaDoor.W in
set_option maxHeartbeats 1000000 in
theorem main (op rd rs1 rs2 imm : Int) (hb : InsB op rd rs1 rs2 imm) (pp pd ps1 ps2 pim : Int) (hb' : InsB pp pd ps1 ps2 pim) (w : World) (hT : E.Tabs w) :
    Calls Tryd.prog 6 #[.agg #[.int .i64 op, .int .i64 rd, .int .i64 rs1, .int .i64 rs2, .int .i32 imm], .agg #[.int .i64 pp, .int .i64 pd, .int .i64 ps1, .int .i64 ps2, .int .i32 pim]] w fun e w' => e = .returned (.bool true) ∧ Below w.heap.size w w' := by
  obtain ⟨⟨o0, o1⟩, -, -, -, i0, i1⟩ := hb
  obtain ⟨⟨o2, o3⟩, -, -, -, i2, i3⟩ := hb'
  have HT := hid hT
  clear hT
  have put : ∀ op rd rs1 rs2 imm : Int, -2147483648 ≤ imm → imm < 2147483648 → ∃ (x : Int), Hid (∀ w, E.Tabs w → Calls Tryd.prog 8 #[.agg #[.int .i64 op, .int .i64 rd, .int .i64 rs1, .int .i64 rs2, .int .i32 imm]] w fun e w' => e = .returned (.tuple #[.int .u32 x, .bool (mayB op rd rs1 rs2 imm)]) ∧ Below w.heap.size w w') ∧
      (0 ≤ x ∧ x < 4294967296) ∧ Hid (mayB op rd rs1 rs2 imm = true → x % 4 = 3 ∧ x % 32 ≠ 31 ∧ x = encW op rd rs1 rs2 imm) := by
    intro op rd rs1 rs2 imm i0 i1
    cases hm : mayB op rd rs1 rs2 imm
    · exact ⟨0, hid (fun w hT => E.Put_no op rd rs1 rs2 imm w hm), ⟨by decide, by decide⟩, hid (fun h => by cases h)⟩
    · obtain ⟨x01, e1, e2, e3, e4, e5⟩ := dec_enc hm i0 i1
      have ho : op ≠ 0 := by have := (may_rg hm).1; omega
      have hl := lowest (x := encW op rd rs1 rs2 imm) (by rw [e1]; exact ho)
      exact ⟨encW op rd rs1 rs2 imm, hid (fun w hT => E.Put_yes op rd rs1 rs2 imm w hm i0 i1 hT), x01, hid (fun _ => ⟨hl.1, hl.2, rfl⟩)⟩
  obtain ⟨x, HP, ⟨x0, x1⟩, HX⟩ := put op rd rs1 rs2 imm i0 i1
  obtain ⟨y, HQ, ⟨y0, y1⟩, HY⟩ := put pp pd ps1 ps2 pim i2 i3
  clear put
  have hap : Hid (mayB op rd rs1 rs2 imm = true → mayB pp pd ps1 ps2 pim = true → (x == y) = true → (op = pp ∧ rd = pd ∧ rs1 = ps1 ∧ rs2 = ps2 ∧ imm = pim)) := hid (by
    intro hm hn hxy
    have hxy' : encW op rd rs1 rs2 imm = encW pp pd ps1 ps2 pim := by rw [← (HX.out hm).2.2, ← (HY.out hn).2.2]; simpa using hxy
    obtain ⟨-, e1, e2, e3, e4, e5⟩ := dec_enc hm i0 i1
    obtain ⟨-, f1, f2, f3, f4, f5⟩ := dec_enc hn i2 i3
    rw [hxy'] at e1 e2 e3 e4 e5
    exact ⟨e1.symm.trans f1, e2.symm.trans f2, e3.symm.trans f3, e4.symm.trans f4, e5.symm.trans f5⟩)
  have hx4 : Hid (mayB op rd rs1 rs2 imm = true → (x % 4 != 3) = false ∧ (x % 32 == 31) = false) := hid (fun h => by
    obtain ⟨a, b, -⟩ := HX.out h
    exact ⟨by simp [a], by simpa using b⟩)
  clear HX HY
  generalize mayB op rd rs1 rs2 imm = m at *
  generalize mayB pp pd ps1 ps2 pim = n at *
  go_enter Tryd.func6, Tryd.ntmps6
  go_wp2_with fail
  have z0 := Inst.new w 23 (.int .i64 op) (.int .i64 rd) (.int .i64 rs1) (.int .i64 rs2) (.int .i32 imm)
  have hb0 := below_alloc w (.cells #[.int .i64 op, .int .i64 rd, .int .i64 rs1, .int .i64 rs2, .int .i32 imm] 23)
  have hs1 : w.heap.size < (w.alloc (.cells #[.int .i64 op, .int .i64 rd, .int .i64 rs1, .int .i64 rs2, .int .i32 imm] 23)).heap.size := by simp
  have hsz : (w.alloc (.cells #[.int .i64 op, .int .i64 rd, .int .i64 rs1, .int .i64 rs2, .int .i32 imm] 23)).heap.size = w.heap.size + 1 := by simp
  generalize w.alloc (.cells #[.int .i64 op, .int .i64 rd, .int .i64 rs1, .int .i64 rs2, .int .i32 imm] 23) = w1 at *
  have y0' := Inst.new w1 23 (.int .i64 pp) (.int .i64 pd) (.int .i64 ps1) (.int .i64 ps2) (.int .i32 pim)
  have hb1 := below_alloc w1 (.cells #[.int .i64 pp, .int .i64 pd, .int .i64 ps1, .int .i64 ps2, .int .i32 pim] 23)
  rw [hsz] at y0'
  generalize w1.alloc (.cells #[.int .i64 pp, .int .i64 pd, .int .i64 ps1, .int .i64 ps2, .int .i32 pim] 23) = w2 at *
  replace z0 := z0.below hb1 (by rw [hsz]; omega)
  replace hb0 := bel_step hb0 hb1
  clear hb1 hs1 hsz
  replace HT := hid (HT.out.below hb0)
  refine (A8.awake _ HT.out).mono ?_
  rintro e w3 ⟨rfl, hb1⟩
  replace HT := hid (HT.out.below hb1)
  replace z0 := z0.below hb1 z0.lt
  replace y0' := y0'.below hb1 y0'.lt
  replace hb0 := bel_step hb0 hb1
  clear hb1
  obtain ⟨zl, c0, c1, c2, c3, c4⟩ := id z0
  have Z0 := hid z0
  have Y0 := hid y0'
  clear z0 y0'
  go_wp2_with fail
  refine (HP.out _ HT.out).mono ?_
  rintro e w4 ⟨rfl, hb1⟩
  replace HT := hid (HT.out.below hb1)
  replace Z0 := hid (Z0.out.below hb1 Z0.out.lt)
  replace Y0 := hid (Y0.out.below hb1 Y0.out.lt)
  replace hb0 := bel_step hb0 hb1
  clear hb1 c0 c1 c2 c3 c4 zl HP
  obtain ⟨zl, c0, c1, c2, c3, c4⟩ := id Y0.out
  go_wp2_with fail
  refine (HQ.out _ HT.out).mono ?_
  rintro e w5 ⟨rfl, hb1⟩
  have z0 := Z0.out.below hb1 Z0.out.lt
  have y0' := Y0.out.below hb1 Y0.out.lt
  replace hb0 := bel_step hb0 hb1
  clear hb1 Z0 Y0 c0 c1 c2 c3 c4 zl HQ HT
  obtain ⟨zl, c0, c1, c2, c3, c4⟩ := z0
  obtain ⟨yl, d0, d1, d2, d3, d4⟩ := y0'
  cases m
  · clear hap hx4
    go_wp2
    go_ret
    exact ⟨rfl, (by repeat' (first | (with_reducible exact Below.refl _ _) | (with_reducible assumption) | (with_reducible refine below_drewN ?_ _) | (with_reducible refine Below.alloc ?_ ?_ _) | (with_reducible refine Below.drew ?_) | (with_reducible refine Below.setCell ?_ ?_ _) | (with_reducible exact Below.size (by assumption)) | go_size))⟩
  · obtain ⟨g1, g2⟩ := hx4.out rfl
    clear hx4
    cases n
    · clear hap
      go_wp2
      go_ret
      exact ⟨rfl, (by repeat' (first | (with_reducible exact Below.refl _ _) | (with_reducible assumption) | (with_reducible refine below_drewN ?_ _) | (with_reducible refine Below.alloc ?_ ?_ _) | (with_reducible refine Below.drew ?_) | (with_reducible refine Below.setCell ?_ ?_ _) | (with_reducible exact Below.size (by assumption)) | go_size))⟩
    · cases hxy : (x == y)
      · have hne : (x != y) = true := by simpa using hxy
        clear hap
        go_wp2
        all_goals (go_ret; exact ⟨rfl, (by repeat' (first | (with_reducible exact Below.refl _ _) | (with_reducible assumption) | (with_reducible refine below_drewN ?_ _) | (with_reducible refine Below.alloc ?_ ?_ _) | (with_reducible refine Below.drew ?_) | (with_reducible refine Below.setCell ?_ ?_ _) | (with_reducible exact Below.size (by assumption)) | go_size))⟩)
      · obtain ⟨rfl, rfl, rfl, rfl, rfl⟩ := hap.out rfl rfl hxy
        clear hap
        go_wp2
        go_ret
        exact ⟨rfl, (by repeat' (first | (with_reducible exact Below.refl _ _) | (with_reducible assumption) | (with_reducible refine below_drewN ?_ _) | (with_reducible refine Below.alloc ?_ ?_ _) | (with_reducible refine Below.drew ?_) | (with_reducible refine Below.setCell ?_ ?_ _) | (with_reducible exact Below.size (by assumption)) | go_size))⟩

theorem own : ownKnob Tryd.prog.godebug = none := by kernel_rfl
theorem laidOut : laidOutB Tryd.prog = true := by kernel_rfl

set_option maxRecDepth 100000 in
theorem lifted (os : Os) (started : os.Started) (H : Type) (enc : TypeId × Value → H) :
    ReturnsInHanded {} Tryd.checked os 6 .any (fun w args => (Rows.encApartSpec.pre enc Tryd.prog Tryd.f6 [] false w args ∧ laidMetH Tryd.prog Go.Proofs.YtabdfbghhkpoeaaDoor.E.laidE w) ∧ sizedMet enc Tryd.prog Tryd.f6 (OpenSpec.ofChange Rows.encApartSpec) false w args) (Rows.encApartSpec.post enc Tryd.prog Tryd.f6 false true false false) := by
  refine returnsInHanded_of_change_and (C := Tryd.checked) (X := fun w _ => laidMetH Tryd.prog Go.Proofs.YtabdfbghhkpoeaaDoor.E.laidE w) (fun _ _ _ hh h => h.of_heap hh) own started (by kernel_rfl) Tryd.func6
    (ChangeSpec.witness_shaped (enc := enc) (C := Tryd.checked) (os := os) (X := fun w _ => laidMetH Tryd.prog Go.Proofs.YtabdfbghhkpoeaaDoor.E.laidE w) false (World.doorLaid Tryd.prog 400 os) #[.agg #[.int .i64 0, .int .i64 0, .int .i64 0, .int .i64 0, .int .i32 0], .agg #[.int .i64 0, .int .i64 0, .int .i64 0, .int .i64 0, .int .i32 0]] 8 rfl (World.shaped_of_RefB (by kernel_rfl) (by kernel_rfl)) (by kernel_rfl) (by kernel_rfl) (by kernel_rfl) (Go.Proofs.YtabdfbghhkpoeaaDoor.E.door_met os _)) ?_
  intro W base args ds gs before hval0 hW _ _ hL _
  have hval : ∀ (j : Nat) t v, Tryd.f6.params[j]? = some t → args[j]? = some v → Value.okWide Tryd.prog W .any base t v := hval0
  have hW' := hW
  obtain ⟨p, q, hA0, hV, rfl, hfz, hnd⟩ := hW
  have hA : DataW.TrodAll enc Tryd.prog W 0 (fun _ => true) true Tryd.f6.params.toList args.toList ds p := hA0
  rw [Tryd.params6] at hA hval
  obtain ⟨v0, vs0, d0, ds0, p0, q0, hargs, rfl, rfl, h0, r0⟩ := trodAll_cons hA
  obtain ⟨v1, vs1, d1, ds1, p1, q1, rfl, rfl, rfl, h1, r1⟩ := trodAll_cons r0
  obtain ⟨rfl, rfl, rfl⟩ := trodAll_nil r1
  obtain rfl : args = #[v0, v1] := by cases args; simp_all
  obtain ⟨rfl, rfl⟩ := trodVars_none hV
  have k0 := h0
  have lt0 : ∀ x ∈ p0, x.block < W.heap.size := by obtain ⟨m, hm⟩ := k0; exact DataW.trod_lt m _ _ _ hm
  obtain ⟨a0o, a0d, a0s, a0t, a0m, rfl, w0⟩ := Go.Proofs.YtabdfbghhkpoeaaDoor.W.open_ins (hval 0 23 v0 rfl rfl) h0
  have k1 := h1
  have lt1 : ∀ x ∈ p1, x.block < W.heap.size := by obtain ⟨m, hm⟩ := k1; exact DataW.trod_lt m _ _ _ hm
  obtain ⟨a1o, a1d, a1s, a1t, a1m, rfl, w1⟩ := Go.Proofs.YtabdfbghhkpoeaaDoor.W.open_ins (hval 1 23 v1 rfl rfl) h1
  clear hA0 hval0
  simp only [List.append_nil] at hW'
  refine (main a0o a0d a0s a0t a0m w0 a1o a1d a1s a1t a1m w1 W (Go.Proofs.YtabdfbghhkpoeaaDoor.E.tabs_of_laid hL)).mono fun e W' ⟨he, bel⟩ => ?_
  subst he
  exact ⟨_, rfl, _, _, _, [], _, [], hW', trodAll_mk1 (shut_bool Tryd.underlying4 _), (trodAll_cons_mk (Below.trod laidOut (by kernel_rfl) (of_decide_eq_true (by kernel_rfl)) k0 bel lt0) (trodAll_cons_mk (Below.trod laidOut (by kernel_rfl) (of_decide_eq_true (by kernel_rfl)) k1 bel lt1) trodAll_mk0)), rfl, by simpa using bel.frame _, fun h => by cases h⟩

theorem over : Rows.encApartRow.holds Tryd.pinned (OpenSpec.ofChange Rows.encApartSpec) :=
  OpenClaim.holds_of_wide 6 Tryd.f6 rfl rfl rfl rfl rfl rfl rfl ⟨rfl, rfl, rfl, rfl, rfl⟩ rfl rfl rfl rfl rfl (by kernel_rfl) Tryd.func6 (by kernel_rfl)
    (of_decide_eq_true (by kernel_rfl)) (by unfold Func.isWrapper; first | (rw [if_pos (by decide +kernel)]; kernel_rfl) | (rw [if_neg (by decide +kernel)]; exact ⟨rfl, rfl⟩))
    (fun os started H enc _ => lifted os started H enc)

theorem proved : Rows.EncApartCardSaid :=
  Claim7.holds_tied_plain_at .later [] [.data, .data, .data] true _ false
    over (fun _ h => by cases h) (by kernel_rfl) (fun _ h => by cases h) Go.Proofs.YtabdfbghhkpoeaaDoor.encApart_row_tie rfl ⟨rfl, rfl⟩ (by kernel_rfl) rfl
    (fun f fn hf hfn => by
      obtain rfl : f = 6 := Option.some.inj ((show Tryd.prog.funcNamed Rows.encApartRow.func = some 6 by kernel_rfl).symm.trans hf) |>.symm
      obtain rfl : fn = Tryd.f6 := (Option.some.inj (Tryd.func6.symm.trans hfn)).symm
      exact ⟨by kernel_rfl, fun j t ht => by
        rw [Tryd.params6] at ht
        have hm : t ∈ [23, 23] := by simpa using Array.mem_of_getElem? ht
        have hall : ([23, 23].all fun u => !Tryd.prog.wantsStandIn u) = true := by kernel_rfl
        exact (show Tryd.prog.wantsStandIn t = false by simpa using List.all_eq_true.1 hall t hm)⟩)
    (by kernel_rfl)
#print axioms proved
end Go.Proofs.YtabdfbghhkpoeaaDoor.encApart
