/- What typecaseref09.Fits computes. -/
import Derived.Test.YtfecjdchgckjhaaRef09p
import Derived.Deep.Cut
import Derived.Deep.DeepCutAuto
import Derived.Deep.RegionWith
namespace Go.Proofs.Ytfecjdchgckjhaa.R9
set_option linter.unusedVariables false
set_option linter.unusedSimpArgs false
open Go.ChangeShapes Go.WideShapes Go.ChangeAt Go.RowKit Go.Proofs.Ytfecjdchgckjhaa.P Go.Proofs.Ytfecjdchgckjhaa.W Go.Proofs.Ytfecjdchgckjhaa.F

set_option maxRecDepth 100000 in
set_option maxHeartbeats 40000000 in
theorem FitsG2 (op rd rs1 rs2 imm : Int) (w : World) (k : Nat) (k0 : 2 ≤ k) (k1 : k < 3) (hm : mayB op rd rs1 rs2 imm = true) (i0 : -2147483648 ≤ imm) (i1 : imm < 2147483648) :
    Calls Try.prog 11 #[.string (prAt k).nm, .agg #[.int .i64 op, .int .i64 rd, .int .i64 rs1, .int .i64 rs2, .int .i32 imm]] w fun e w' => e = .returned (.bool (fitR (prAt k) op rd rs1 rs2 imm)) ∧ Below w.heap.size w w' := by
  have ho : 1 ≤ op ∧ op ≤ 48 := may_op hm
  have HM := hid (fun w => R3.May op rd rs1 rs2 imm w (by omega) (by omega) i0 i1)
  rw [hm] at HM
  have hm' := hid hm
  clear hm
  generalize hnm : (prAt k).nm = nm at *
  have HNM := hid hnm
  clear hnm
  go_enter Try.func11, Try.ntmps11
  go_wp2_with fail
  have z0 := Inst.new w 23 (.int .i64 op) (.int .i64 rd) (.int .i64 rs1) (.int .i64 rs2) (.int .i32 imm)
  have hb0 := below_alloc w (.cells #[.int .i64 op, .int .i64 rd, .int .i64 rs1, .int .i64 rs2, .int .i32 imm] 23)
  generalize w.alloc (.cells #[.int .i64 op, .int .i64 rd, .int .i64 rs1, .int .i64 rs2, .int .i32 imm] 23) = w1 at *
  refine (HM.out _).mono ?_
  rintro e w2 ⟨rfl, hb1⟩
  replace z0 := z0.below hb1 z0.lt
  replace hb0 := bel_step hb0 hb1
  clear hb1 HM w1
  go_upto_region 3 with (fail)
  have hop0 : (0 : Int) ≤ op := by omega
  have hop1 : op < 49 := by omega
  obtain ⟨zl, c0, c1, c2, c3, c4⟩ := id z0
  have Z0 := hid z0
  clear z0 c1 c2 c3 c4
  have HN := hid (fun w => names_at w)
  generalize hsn : nameN op.toNat = s at *
  have HSN := hid hsn
  clear hsn
  have hopl : op.toNat < names.length := by have : names.length = 49 := rfl; omega
  go_cut [5] (fun i5 wx => i5 = .string s ∧ Below w2.heap.size w2 wx)
  case first =>
    go_region_with (go_at_call 27; (with_reducible refine (HN.out _).mono ?_); rintro e w' ⟨bn, rfl, hbel, hst⟩; have hnc := hst.2 op.toNat hopl; (try (with_reducible replace hbel := bel_undrew hbel)); (try (with_reducible replace hbel := bel_undrewN hbel)); have hbw3 : Below w2.heap.size w2 w' := bel_step (w := w2) (by repeat' (first | (with_reducible exact Below.refl _ _) | (with_reducible assumption) | (with_reducible refine below_drewN ?_ _) | (with_reducible refine Below.alloc ?_ ?_ _) | (with_reducible refine Below.drew ?_) | (with_reducible refine Below.setCell ?_ ?_ _) | (with_reducible exact Below.size (by assumption)) | go_size)) hbel; have hsw := hbw3.size; have hsb := hbel.size; (try simp at hsb); obtain ⟨hcel, hfro⟩ := bcell hbel; clear hbel hst; rw [show names.getD op.toNat ⟨#[]⟩ = s from HSN.out] at hnc)
    all_goals (go_wp2_with fail; go_meet)
    all_goals exact ⟨rfl, (by repeat' (first | (with_reducible exact Below.refl _ _) | (with_reducible assumption) | (with_reducible refine below_drewN ?_ _) | (with_reducible refine Below.alloc ?_ ?_ _) | (with_reducible refine Below.drew ?_) | (with_reducible refine Below.setCell ?_ ?_ _) | (with_reducible exact Below.size (by assumption)) | go_size))⟩
  case rest =>
    obtain ⟨rfl, hbx⟩ := hcut
    have z0 := Z0.out.below hbx Z0.out.lt
    have hb3 := bel_step hb0 hbx
    clear hbx hb0 Z0 zl c0 HN hopl hop0 hop1
    obtain ⟨zl, c0, c1, c2, c3, c4⟩ := z0
    obtain rfl : k = 2 := by omega
    · have hnm : nm = ⟨#[99, 46, 115, 119]⟩ := HNM.out.symm
      subst hnm
      have hb : (s.toList == [115, 119]) = (op == 18) := by rw [← HSN.out]; exact name_is (by decide) ho.1 ho.2
      have hf := plain2 op rd rs1 rs2 imm hm'.out
      clear HNM HSN hm' ho
      generalize (op == 18) = bo at *
      have H0 := hid (fun w => few rs1 w)
      generalize fewB rs1 = vf0 at *
      have H1 := hid (fun w => few rs2 w)
      generalize fewB rs2 = vf1 at *
      have H2 := hid (fun w => from_ imm 4 0 124 w (by decide) i0 i1)
      generalize fromB imm 4 0 124 = vv at *
      have HF := hid hf
      clear hf
      generalize how : (rd == rs1) = ow at *
      go_wp2_with (first | (go_at_call 28; (with_reducible refine (H0.out _).mono ?_); rintro e w' ⟨rfl, rfl⟩) | (go_at_call 28; (with_reducible refine (H1.out _).mono ?_); rintro e w' ⟨rfl, rfl⟩) | (go_at_call 29; (with_reducible refine (H2.out _).mono ?_); rintro e w' ⟨rfl, rfl⟩))
      all_goals go_ret
      all_goals (refine ⟨ret_bool ?_, (by repeat' (first | (with_reducible exact Below.refl _ _) | (with_reducible assumption) | (with_reducible refine below_drewN ?_ _) | (with_reducible refine Below.alloc ?_ ?_ _) | (with_reducible refine Below.drew ?_) | (with_reducible refine Below.setCell ?_ ?_ _) | (with_reducible exact Below.size (by assumption)) | go_size))⟩; rw [← HF.out]; try simp [*, bne])
set_option maxRecDepth 100000 in
set_option maxHeartbeats 40000000 in
theorem FitsG11 (op rd rs1 rs2 imm : Int) (w : World) (k : Nat) (k0 : 11 ≤ k) (k1 : k < 12) (hm : mayB op rd rs1 rs2 imm = true) (i0 : -2147483648 ≤ imm) (i1 : imm < 2147483648) :
    Calls Try.prog 11 #[.string (prAt k).nm, .agg #[.int .i64 op, .int .i64 rd, .int .i64 rs1, .int .i64 rs2, .int .i32 imm]] w fun e w' => e = .returned (.bool (fitR (prAt k) op rd rs1 rs2 imm)) ∧ Below w.heap.size w w' := by
  have ho : 1 ≤ op ∧ op ≤ 48 := may_op hm
  have HM := hid (fun w => R3.May op rd rs1 rs2 imm w (by omega) (by omega) i0 i1)
  rw [hm] at HM
  have hm' := hid hm
  clear hm
  generalize hnm : (prAt k).nm = nm at *
  have HNM := hid hnm
  clear hnm
  go_enter Try.func11, Try.ntmps11
  go_wp2_with fail
  have z0 := Inst.new w 23 (.int .i64 op) (.int .i64 rd) (.int .i64 rs1) (.int .i64 rs2) (.int .i32 imm)
  have hb0 := below_alloc w (.cells #[.int .i64 op, .int .i64 rd, .int .i64 rs1, .int .i64 rs2, .int .i32 imm] 23)
  generalize w.alloc (.cells #[.int .i64 op, .int .i64 rd, .int .i64 rs1, .int .i64 rs2, .int .i32 imm] 23) = w1 at *
  refine (HM.out _).mono ?_
  rintro e w2 ⟨rfl, hb1⟩
  replace z0 := z0.below hb1 z0.lt
  replace hb0 := bel_step hb0 hb1
  clear hb1 HM w1
  go_upto_region 3 with (fail)
  have hop0 : (0 : Int) ≤ op := by omega
  have hop1 : op < 49 := by omega
  obtain ⟨zl, c0, c1, c2, c3, c4⟩ := id z0
  have Z0 := hid z0
  clear z0 c1 c2 c3 c4
  have HN := hid (fun w => names_at w)
  generalize hsn : nameN op.toNat = s at *
  have HSN := hid hsn
  clear hsn
  have hopl : op.toNat < names.length := by have : names.length = 49 := rfl; omega
  go_cut [5] (fun i5 wx => i5 = .string s ∧ Below w2.heap.size w2 wx)
  case first =>
    go_region_with (go_at_call 27; (with_reducible refine (HN.out _).mono ?_); rintro e w' ⟨bn, rfl, hbel, hst⟩; have hnc := hst.2 op.toNat hopl; (try (with_reducible replace hbel := bel_undrew hbel)); (try (with_reducible replace hbel := bel_undrewN hbel)); have hbw3 : Below w2.heap.size w2 w' := bel_step (w := w2) (by repeat' (first | (with_reducible exact Below.refl _ _) | (with_reducible assumption) | (with_reducible refine below_drewN ?_ _) | (with_reducible refine Below.alloc ?_ ?_ _) | (with_reducible refine Below.drew ?_) | (with_reducible refine Below.setCell ?_ ?_ _) | (with_reducible exact Below.size (by assumption)) | go_size)) hbel; have hsw := hbw3.size; have hsb := hbel.size; (try simp at hsb); obtain ⟨hcel, hfro⟩ := bcell hbel; clear hbel hst; rw [show names.getD op.toNat ⟨#[]⟩ = s from HSN.out] at hnc)
    all_goals (go_wp2_with fail; go_meet)
    all_goals exact ⟨rfl, (by repeat' (first | (with_reducible exact Below.refl _ _) | (with_reducible assumption) | (with_reducible refine below_drewN ?_ _) | (with_reducible refine Below.alloc ?_ ?_ _) | (with_reducible refine Below.drew ?_) | (with_reducible refine Below.setCell ?_ ?_ _) | (with_reducible exact Below.size (by assumption)) | go_size))⟩
  case rest =>
    obtain ⟨rfl, hbx⟩ := hcut
    have z0 := Z0.out.below hbx Z0.out.lt
    have hb3 := bel_step hb0 hbx
    clear hbx hb0 Z0 zl c0 HN hopl hop0 hop1
    obtain ⟨zl, c0, c1, c2, c3, c4⟩ := z0
    obtain rfl : k = 11 := by omega
    · have hnm : nm = ⟨#[99, 46, 97, 110, 100, 105]⟩ := HNM.out.symm
      subst hnm
      have hb : (s.toList == [97, 110, 100, 105]) = (op == 24) := by rw [← HSN.out]; exact name_is (by decide) ho.1 ho.2
      have hf := plain11 op rd rs1 rs2 imm hm'.out
      clear HNM HSN hm' ho
      generalize (op == 24) = bo at *
      have H0 := hid (fun w => few rd w)
      generalize fewB rd = vf0 at *
      have H2 := hid (fun w => from_ imm 1 (-32) 31 w (by decide) i0 i1)
      generalize fromB imm 1 (-32) 31 = vv at *
      have HF := hid hf
      clear hf
      generalize how : (rd == rs1) = ow at *
      go_wp2_with (first | (go_at_call 28; (with_reducible refine (H0.out _).mono ?_); rintro e w' ⟨rfl, rfl⟩) | (go_at_call 29; (with_reducible refine (H2.out _).mono ?_); rintro e w' ⟨rfl, rfl⟩))
      all_goals go_ret
      all_goals (refine ⟨ret_bool ?_, (by repeat' (first | (with_reducible exact Below.refl _ _) | (with_reducible assumption) | (with_reducible refine below_drewN ?_ _) | (with_reducible refine Below.alloc ?_ ?_ _) | (with_reducible refine Below.drew ?_) | (with_reducible refine Below.setCell ?_ ?_ _) | (with_reducible exact Below.size (by assumption)) | go_size))⟩; rw [← HF.out]; try simp [*, bne])
set_option maxRecDepth 100000 in
set_option maxHeartbeats 40000000 in
theorem FitsG20 (op rd rs1 rs2 imm : Int) (w : World) (k : Nat) (k0 : 20 ≤ k) (k1 : k < 21) (hm : mayB op rd rs1 rs2 imm = true) (i0 : -2147483648 ≤ imm) (i1 : imm < 2147483648) :
    Calls Try.prog 11 #[.string (prAt k).nm, .agg #[.int .i64 op, .int .i64 rd, .int .i64 rs1, .int .i64 rs2, .int .i32 imm]] w fun e w' => e = .returned (.bool (fitR (prAt k) op rd rs1 rs2 imm)) ∧ Below w.heap.size w w' := by
  have ho : 1 ≤ op ∧ op ≤ 48 := may_op hm
  have HM := hid (fun w => R3.May op rd rs1 rs2 imm w (by omega) (by omega) i0 i1)
  rw [hm] at HM
  have hm' := hid hm
  clear hm
  generalize hnm : (prAt k).nm = nm at *
  have HNM := hid hnm
  clear hnm
  go_enter Try.func11, Try.ntmps11
  go_wp2_with fail
  have z0 := Inst.new w 23 (.int .i64 op) (.int .i64 rd) (.int .i64 rs1) (.int .i64 rs2) (.int .i32 imm)
  have hb0 := below_alloc w (.cells #[.int .i64 op, .int .i64 rd, .int .i64 rs1, .int .i64 rs2, .int .i32 imm] 23)
  generalize w.alloc (.cells #[.int .i64 op, .int .i64 rd, .int .i64 rs1, .int .i64 rs2, .int .i32 imm] 23) = w1 at *
  refine (HM.out _).mono ?_
  rintro e w2 ⟨rfl, hb1⟩
  replace z0 := z0.below hb1 z0.lt
  replace hb0 := bel_step hb0 hb1
  clear hb1 HM w1
  go_upto_region 3 with (fail)
  have hop0 : (0 : Int) ≤ op := by omega
  have hop1 : op < 49 := by omega
  obtain ⟨zl, c0, c1, c2, c3, c4⟩ := id z0
  have Z0 := hid z0
  clear z0 c1 c2 c3 c4
  have HN := hid (fun w => names_at w)
  generalize hsn : nameN op.toNat = s at *
  have HSN := hid hsn
  clear hsn
  have hopl : op.toNat < names.length := by have : names.length = 49 := rfl; omega
  go_cut [5] (fun i5 wx => i5 = .string s ∧ Below w2.heap.size w2 wx)
  case first =>
    go_region_with (go_at_call 27; (with_reducible refine (HN.out _).mono ?_); rintro e w' ⟨bn, rfl, hbel, hst⟩; have hnc := hst.2 op.toNat hopl; (try (with_reducible replace hbel := bel_undrew hbel)); (try (with_reducible replace hbel := bel_undrewN hbel)); have hbw3 : Below w2.heap.size w2 w' := bel_step (w := w2) (by repeat' (first | (with_reducible exact Below.refl _ _) | (with_reducible assumption) | (with_reducible refine below_drewN ?_ _) | (with_reducible refine Below.alloc ?_ ?_ _) | (with_reducible refine Below.drew ?_) | (with_reducible refine Below.setCell ?_ ?_ _) | (with_reducible exact Below.size (by assumption)) | go_size)) hbel; have hsw := hbw3.size; have hsb := hbel.size; (try simp at hsb); obtain ⟨hcel, hfro⟩ := bcell hbel; clear hbel hst; rw [show names.getD op.toNat ⟨#[]⟩ = s from HSN.out] at hnc)
    all_goals (go_wp2_with fail; go_meet)
    all_goals exact ⟨rfl, (by repeat' (first | (with_reducible exact Below.refl _ _) | (with_reducible assumption) | (with_reducible refine below_drewN ?_ _) | (with_reducible refine Below.alloc ?_ ?_ _) | (with_reducible refine Below.drew ?_) | (with_reducible refine Below.setCell ?_ ?_ _) | (with_reducible exact Below.size (by assumption)) | go_size))⟩
  case rest =>
    obtain ⟨rfl, hbx⟩ := hcut
    have z0 := Z0.out.below hbx Z0.out.lt
    have hb3 := bel_step hb0 hbx
    clear hbx hb0 Z0 zl c0 HN hopl hop0 hop1
    obtain ⟨zl, c0, c1, c2, c3, c4⟩ := z0
    obtain rfl : k = 20 := by omega
    · have hnm : nm = ⟨#[99, 46, 108, 119, 115, 112]⟩ := HNM.out.symm
      subst hnm
      have hb : (s.toList == [108, 119]) = (op == 13) := by rw [← HSN.out]; exact name_is (by decide) ho.1 ho.2
      have hf := plain20 op rd rs1 rs2 imm hm'.out
      clear HNM HSN hm' ho
      generalize (op == 13) = bo at *
      have H2 := hid (fun w => from_ imm 4 0 252 w (by decide) i0 i1)
      generalize fromB imm 4 0 252 = vv at *
      have HF := hid hf
      clear hf
      generalize how : (rd == rs1) = ow at *
      go_wp2_with (first | (go_at_call 29; (with_reducible refine (H2.out _).mono ?_); rintro e w' ⟨rfl, rfl⟩))
      all_goals go_ret
      all_goals (refine ⟨ret_bool ?_, (by repeat' (first | (with_reducible exact Below.refl _ _) | (with_reducible assumption) | (with_reducible refine below_drewN ?_ _) | (with_reducible refine Below.alloc ?_ ?_ _) | (with_reducible refine Below.drew ?_) | (with_reducible refine Below.setCell ?_ ?_ _) | (with_reducible exact Below.size (by assumption)) | go_size))⟩; rw [← HF.out]; try simp [*, bne])
end Go.Proofs.Ytfecjdchgckjhaa.R9
