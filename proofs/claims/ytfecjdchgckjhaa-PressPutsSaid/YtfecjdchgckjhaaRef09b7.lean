/- What typecaseref09.Fits computes. -/
import Derived.Test.YtfecjdchgckjhaaRef09p
import Derived.Deep.Cut
import Derived.Deep.DeepCutAuto
import Derived.Deep.RegionWith
namespace Go.Proofs.Ytfecjdchgckjhaa.R9
set_option linter.unusedVariables false
set_option linter.unusedSimpArgs false
open Go.ChangeShapes Go.WideShapes Go.ChangeAt Go.RowKit Go.Proofs.Ytfecjdchgckjhaa.P Go.Proofs.Ytfecjdchgckjhaa.W Go.Proofs.Ytfecjdchgckjhaa.F

set_option maxRecDepth 100000 in
set_option maxHeartbeats 40000000 in
theorem FitsG7 (op rd rs1 rs2 imm : Int) (w : World) (k : Nat) (k0 : 7 ≤ k) (k1 : k < 8) (hm : mayB op rd rs1 rs2 imm = true) (i0 : -2147483648 ≤ imm) (i1 : imm < 2147483648) :
    Calls Try.prog 11 #[.string (prAt k).nm, .agg #[.int .i64 op, .int .i64 rd, .int .i64 rs1, .int .i64 rs2, .int .i32 imm]] w fun e w' => e = .returned (.bool (fitR (prAt k) op rd rs1 rs2 imm)) ∧ Below w.heap.size w w' := by
  have ho : 1 ≤ op ∧ op ≤ 48 := may_op hm
  have HM := hid (fun w => R3.May op rd rs1 rs2 imm w (by omega) (by omega) i0 i1)
  rw [hm] at HM
  have hm' := hid hm
  clear hm
  generalize hnm : (prAt k).nm = nm at *
  have HNM := hid hnm
  clear hnm
  go_enter Try.func11, Try.ntmps11
  go_wp2_with fail
  have z0 := Inst.new w 23 (.int .i64 op) (.int .i64 rd) (.int .i64 rs1) (.int .i64 rs2) (.int .i32 imm)
  have hb0 := below_alloc w (.cells #[.int .i64 op, .int .i64 rd, .int .i64 rs1, .int .i64 rs2, .int .i32 imm] 23)
  generalize w.alloc (.cells #[.int .i64 op, .int .i64 rd, .int .i64 rs1, .int .i64 rs2, .int .i32 imm] 23) = w1 at *
  refine (HM.out _).mono ?_
  rintro e w2 ⟨rfl, hb1⟩
  replace z0 := z0.below hb1 z0.lt
  replace hb0 := bel_step hb0 hb1
  clear hb1 HM w1
  go_upto_region 3 with (fail)
  have hop0 : (0 : Int) ≤ op := by omega
  have hop1 : op < 49 := by omega
  obtain ⟨zl, c0, c1, c2, c3, c4⟩ := id z0
  have Z0 := hid z0
  clear z0 c1 c2 c3 c4
  have HN := hid (fun w => names_at w)
  generalize hsn : nameN op.toNat = s at *
  have HSN := hid hsn
  clear hsn
  have hopl : op.toNat < names.length := by have : names.length = 49 := rfl; omega
  go_cut [5] (fun i5 wx => i5 = .string s ∧ Below w2.heap.size w2 wx)
  case first =>
    go_region_with (go_at_call 27; (with_reducible refine (HN.out _).mono ?_); rintro e w' ⟨bn, rfl, hbel, hst⟩; have hnc := hst.2 op.toNat hopl; (try (with_reducible replace hbel := bel_undrew hbel)); (try (with_reducible replace hbel := bel_undrewN hbel)); have hbw3 : Below w2.heap.size w2 w' := bel_step (w := w2) (by repeat' (first | (with_reducible exact Below.refl _ _) | (with_reducible assumption) | (with_reducible refine below_drewN ?_ _) | (with_reducible refine Below.alloc ?_ ?_ _) | (with_reducible refine Below.drew ?_) | (with_reducible refine Below.setCell ?_ ?_ _) | (with_reducible exact Below.size (by assumption)) | go_size)) hbel; have hsw := hbw3.size; have hsb := hbel.size; (try simp at hsb); obtain ⟨hcel, hfro⟩ := bcell hbel; clear hbel hst; rw [show names.getD op.toNat ⟨#[]⟩ = s from HSN.out] at hnc)
    all_goals (go_wp2_with fail; go_meet)
    all_goals exact ⟨rfl, (by repeat' (first | (with_reducible exact Below.refl _ _) | (with_reducible assumption) | (with_reducible refine below_drewN ?_ _) | (with_reducible refine Below.alloc ?_ ?_ _) | (with_reducible refine Below.drew ?_) | (with_reducible refine Below.setCell ?_ ?_ _) | (with_reducible exact Below.size (by assumption)) | go_size))⟩
  case rest =>
    obtain ⟨rfl, hbx⟩ := hcut
    have z0 := Z0.out.below hbx Z0.out.lt
    have hb3 := bel_step hb0 hbx
    clear hbx hb0 Z0 zl c0 HN hopl hop0 hop1
    obtain ⟨zl, c0, c1, c2, c3, c4⟩ := z0
    obtain rfl : k = 7 := by omega
    · have hnm : nm = ⟨#[99, 46, 97, 100, 100, 105, 49, 54, 115, 112]⟩ := HNM.out.symm
      subst hnm
      have hb : (s.toList == [97, 100, 100, 105]) = (op == 19) := by rw [← HSN.out]; exact name_is (by decide) ho.1 ho.2
      have hf := plain7 op rd rs1 rs2 imm hm'.out
      clear HNM HSN hm' ho
      generalize (op == 19) = bo at *
      have H2 := hid (fun w => from_ imm 16 (-512) 511 w (by decide) i0 i1)
      generalize fromB imm 16 (-512) 511 = vv at *
      have HF := hid hf
      clear hf
      generalize how : (rd == rs1) = ow at *
      go_wp2_with (first | (go_at_call 29; (with_reducible refine (H2.out _).mono ?_); rintro e w' ⟨rfl, rfl⟩))
      all_goals go_ret
      all_goals (refine ⟨ret_bool ?_, (by repeat' (first | (with_reducible exact Below.refl _ _) | (with_reducible assumption) | (with_reducible refine below_drewN ?_ _) | (with_reducible refine Below.alloc ?_ ?_ _) | (with_reducible refine Below.drew ?_) | (with_reducible refine Below.setCell ?_ ?_ _) | (with_reducible exact Below.size (by assumption)) | go_size))⟩; rw [← HF.out]; try simp [*, bne])
set_option maxRecDepth 100000 in
set_option maxHeartbeats 40000000 in
theorem FitsG16 (op rd rs1 rs2 imm : Int) (w : World) (k : Nat) (k0 : 16 ≤ k) (k1 : k < 17) (hm : mayB op rd rs1 rs2 imm = true) (i0 : -2147483648 ≤ imm) (i1 : imm < 2147483648) :
    Calls Try.prog 11 #[.string (prAt k).nm, .agg #[.int .i64 op, .int .i64 rd, .int .i64 rs1, .int .i64 rs2, .int .i32 imm]] w fun e w' => e = .returned (.bool (fitR (prAt k) op rd rs1 rs2 imm)) ∧ Below w.heap.size w w' := by
  have ho : 1 ≤ op ∧ op ≤ 48 := may_op hm
  have HM := hid (fun w => R3.May op rd rs1 rs2 imm w (by omega) (by omega) i0 i1)
  rw [hm] at HM
  have hm' := hid hm
  clear hm
  generalize hnm : (prAt k).nm = nm at *
  have HNM := hid hnm
  clear hnm
  go_enter Try.func11, Try.ntmps11
  go_wp2_with fail
  have z0 := Inst.new w 23 (.int .i64 op) (.int .i64 rd) (.int .i64 rs1) (.int .i64 rs2) (.int .i32 imm)
  have hb0 := below_alloc w (.cells #[.int .i64 op, .int .i64 rd, .int .i64 rs1, .int .i64 rs2, .int .i32 imm] 23)
  generalize w.alloc (.cells #[.int .i64 op, .int .i64 rd, .int .i64 rs1, .int .i64 rs2, .int .i32 imm] 23) = w1 at *
  refine (HM.out _).mono ?_
  rintro e w2 ⟨rfl, hb1⟩
  replace z0 := z0.below hb1 z0.lt
  replace hb0 := bel_step hb0 hb1
  clear hb1 HM w1
  go_upto_region 3 with (fail)
  have hop0 : (0 : Int) ≤ op := by omega
  have hop1 : op < 49 := by omega
  obtain ⟨zl, c0, c1, c2, c3, c4⟩ := id z0
  have Z0 := hid z0
  clear z0 c1 c2 c3 c4
  have HN := hid (fun w => names_at w)
  generalize hsn : nameN op.toNat = s at *
  have HSN := hid hsn
  clear hsn
  have hopl : op.toNat < names.length := by have : names.length = 49 := rfl; omega
  go_cut [5] (fun i5 wx => i5 = .string s ∧ Below w2.heap.size w2 wx)
  case first =>
    go_region_with (go_at_call 27; (with_reducible refine (HN.out _).mono ?_); rintro e w' ⟨bn, rfl, hbel, hst⟩; have hnc := hst.2 op.toNat hopl; (try (with_reducible replace hbel := bel_undrew hbel)); (try (with_reducible replace hbel := bel_undrewN hbel)); have hbw3 : Below w2.heap.size w2 w' := bel_step (w := w2) (by repeat' (first | (with_reducible exact Below.refl _ _) | (with_reducible assumption) | (with_reducible refine below_drewN ?_ _) | (with_reducible refine Below.alloc ?_ ?_ _) | (with_reducible refine Below.drew ?_) | (with_reducible refine Below.setCell ?_ ?_ _) | (with_reducible exact Below.size (by assumption)) | go_size)) hbel; have hsw := hbw3.size; have hsb := hbel.size; (try simp at hsb); obtain ⟨hcel, hfro⟩ := bcell hbel; clear hbel hst; rw [show names.getD op.toNat ⟨#[]⟩ = s from HSN.out] at hnc)
    all_goals (go_wp2_with fail; go_meet)
    all_goals exact ⟨rfl, (by repeat' (first | (with_reducible exact Below.refl _ _) | (with_reducible assumption) | (with_reducible refine below_drewN ?_ _) | (with_reducible refine Below.alloc ?_ ?_ _) | (with_reducible refine Below.drew ?_) | (with_reducible refine Below.setCell ?_ ?_ _) | (with_reducible exact Below.size (by assumption)) | go_size))⟩
  case rest =>
    obtain ⟨rfl, hbx⟩ := hcut
    have z0 := Z0.out.below hbx Z0.out.lt
    have hb3 := bel_step hb0 hbx
    clear hbx hb0 Z0 zl c0 HN hopl hop0 hop1
    obtain ⟨zl, c0, c1, c2, c3, c4⟩ := z0
    obtain rfl : k = 16 := by omega
    · have hnm : nm = ⟨#[99, 46, 106]⟩ := HNM.out.symm
      subst hnm
      have hb : (s.toList == [106, 97, 108]) = (op == 3) := by rw [← HSN.out]; exact name_is (by decide) ho.1 ho.2
      have hf := plain16 op rd rs1 rs2 imm hm'.out
      clear HNM HSN hm' ho
      generalize (op == 3) = bo at *
      have H1 := hid (fun w => from_ imm 2 (-2048) 2047 w (by decide) i0 i1)
      generalize fromB imm 2 (-2048) 2047 = vv at *
      have HF := hid hf
      clear hf
      generalize how : (rd == rs1) = ow at *
      go_wp2_with (first | (go_at_call 29; (with_reducible refine (H1.out _).mono ?_); rintro e w' ⟨rfl, rfl⟩))
      all_goals go_ret
      all_goals (refine ⟨ret_bool ?_, (by repeat' (first | (with_reducible exact Below.refl _ _) | (with_reducible assumption) | (with_reducible refine below_drewN ?_ _) | (with_reducible refine Below.alloc ?_ ?_ _) | (with_reducible refine Below.drew ?_) | (with_reducible refine Below.setCell ?_ ?_ _) | (with_reducible exact Below.size (by assumption)) | go_size))⟩; rw [← HF.out]; try simp [*, bne])
set_option maxRecDepth 100000 in
set_option maxHeartbeats 40000000 in
theorem FitsG25 (op rd rs1 rs2 imm : Int) (w : World) (k : Nat) (k0 : 25 ≤ k) (k1 : k < 26) (hm : mayB op rd rs1 rs2 imm = true) (i0 : -2147483648 ≤ imm) (i1 : imm < 2147483648) :
    Calls Try.prog 11 #[.string (prAt k).nm, .agg #[.int .i64 op, .int .i64 rd, .int .i64 rs1, .int .i64 rs2, .int .i32 imm]] w fun e w' => e = .returned (.bool (fitR (prAt k) op rd rs1 rs2 imm)) ∧ Below w.heap.size w w' := by
  have ho : 1 ≤ op ∧ op ≤ 48 := may_op hm
  have HM := hid (fun w => R3.May op rd rs1 rs2 imm w (by omega) (by omega) i0 i1)
  rw [hm] at HM
  have hm' := hid hm
  clear hm
  generalize hnm : (prAt k).nm = nm at *
  have HNM := hid hnm
  clear hnm
  go_enter Try.func11, Try.ntmps11
  go_wp2_with fail
  have z0 := Inst.new w 23 (.int .i64 op) (.int .i64 rd) (.int .i64 rs1) (.int .i64 rs2) (.int .i32 imm)
  have hb0 := below_alloc w (.cells #[.int .i64 op, .int .i64 rd, .int .i64 rs1, .int .i64 rs2, .int .i32 imm] 23)
  generalize w.alloc (.cells #[.int .i64 op, .int .i64 rd, .int .i64 rs1, .int .i64 rs2, .int .i32 imm] 23) = w1 at *
  refine (HM.out _).mono ?_
  rintro e w2 ⟨rfl, hb1⟩
  replace z0 := z0.below hb1 z0.lt
  replace hb0 := bel_step hb0 hb1
  clear hb1 HM w1
  go_upto_region 3 with (fail)
  have hop0 : (0 : Int) ≤ op := by omega
  have hop1 : op < 49 := by omega
  obtain ⟨zl, c0, c1, c2, c3, c4⟩ := id z0
  have Z0 := hid z0
  clear z0 c1 c2 c3 c4
  have HN := hid (fun w => names_at w)
  generalize hsn : nameN op.toNat = s at *
  have HSN := hid hsn
  clear hsn
  have hopl : op.toNat < names.length := by have : names.length = 49 := rfl; omega
  go_cut [5] (fun i5 wx => i5 = .string s ∧ Below w2.heap.size w2 wx)
  case first =>
    go_region_with (go_at_call 27; (with_reducible refine (HN.out _).mono ?_); rintro e w' ⟨bn, rfl, hbel, hst⟩; have hnc := hst.2 op.toNat hopl; (try (with_reducible replace hbel := bel_undrew hbel)); (try (with_reducible replace hbel := bel_undrewN hbel)); have hbw3 : Below w2.heap.size w2 w' := bel_step (w := w2) (by repeat' (first | (with_reducible exact Below.refl _ _) | (with_reducible assumption) | (with_reducible refine below_drewN ?_ _) | (with_reducible refine Below.alloc ?_ ?_ _) | (with_reducible refine Below.drew ?_) | (with_reducible refine Below.setCell ?_ ?_ _) | (with_reducible exact Below.size (by assumption)) | go_size)) hbel; have hsw := hbw3.size; have hsb := hbel.size; (try simp at hsb); obtain ⟨hcel, hfro⟩ := bcell hbel; clear hbel hst; rw [show names.getD op.toNat ⟨#[]⟩ = s from HSN.out] at hnc)
    all_goals (go_wp2_with fail; go_meet)
    all_goals exact ⟨rfl, (by repeat' (first | (with_reducible exact Below.refl _ _) | (with_reducible assumption) | (with_reducible refine below_drewN ?_ _) | (with_reducible refine Below.alloc ?_ ?_ _) | (with_reducible refine Below.drew ?_) | (with_reducible refine Below.setCell ?_ ?_ _) | (with_reducible exact Below.size (by assumption)) | go_size))⟩
  case rest =>
    obtain ⟨rfl, hbx⟩ := hcut
    have z0 := Z0.out.below hbx Z0.out.lt
    have hb3 := bel_step hb0 hbx
    clear hbx hb0 Z0 zl c0 HN hopl hop0 hop1
    obtain ⟨zl, c0, c1, c2, c3, c4⟩ := z0
    obtain rfl : k = 25 := by omega
    · have hnm : nm = ⟨#[99, 46, 97, 100, 100]⟩ := HNM.out.symm
      subst hnm
      have hb : (s.toList == [97, 100, 100]) = (op == 28) := by rw [← HSN.out]; exact name_is (by decide) ho.1 ho.2
      have hf := plain25 op rd rs1 rs2 imm hm'.out
      clear HNM HSN hm' ho
      generalize (op == 28) = bo at *
      have HF := hid hf
      clear hf
      generalize how : (rd == rs1) = ow at *
      go_wp2_with (first | (fail))
      all_goals go_ret
      all_goals (refine ⟨ret_bool ?_, (by repeat' (first | (with_reducible exact Below.refl _ _) | (with_reducible assumption) | (with_reducible refine below_drewN ?_ _) | (with_reducible refine Below.alloc ?_ ?_ _) | (with_reducible refine Below.drew ?_) | (with_reducible refine Below.setCell ?_ ?_ _) | (with_reducible exact Below.size (by assumption)) | go_size))⟩; rw [← HF.out]; try simp [*, bne])
end Go.Proofs.Ytfecjdchgckjhaa.R9
