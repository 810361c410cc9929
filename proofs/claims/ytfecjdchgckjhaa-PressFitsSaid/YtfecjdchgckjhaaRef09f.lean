/- What typecaseref09.Fits computes. -/
import Derived.Test.YtfecjdchgckjhaaRef09q
import Derived.Deep.Cut
import Derived.Deep.DeepCutAuto
import Derived.Deep.RegionWith
namespace Go.Proofs.Ytfecjdchgckjhaa.R9
set_option linter.unusedVariables false
set_option linter.unusedSimpArgs false
open Go.ChangeShapes Go.WideShapes Go.ChangeAt Go.RowKit Go.Proofs.Ytfecjdchgckjhaa.P Go.Proofs.Ytfecjdchgckjhaa.W Go.Proofs.Ytfecjdchgckjhaa.F

set_option maxRecDepth 100000 in
set_option maxHeartbeats 40000000 in
theorem Fits_none (op rd rs1 rs2 imm : Int) (w : World) (name : ByteArray) (hlow : ∀ k, k < 27 → (name.toList == (prAt k).nm.data.toList) = false) (hm : mayB op rd rs1 rs2 imm = true) (i0 : -2147483648 ≤ imm) (i1 : imm < 2147483648) :
    Calls Try.prog 11 #[.string name, .agg #[.int .i64 op, .int .i64 rd, .int .i64 rs1, .int .i64 rs2, .int .i32 imm]] w fun e w' => e = .returned (.bool false) ∧ Below w.heap.size w w' := by
  have ho : 1 ≤ op ∧ op ≤ 48 := may_op hm
  have HM := hid (fun w => R3.May op rd rs1 rs2 imm w (by omega) (by omega) i0 i1)
  rw [hm] at HM
  have hm' := hid hm
  clear hm
  replace hlow := hid hlow
  go_enter Try.func11, Try.ntmps11
  go_wp2_with fail
  have z0 := Inst.new w 23 (.int .i64 op) (.int .i64 rd) (.int .i64 rs1) (.int .i64 rs2) (.int .i32 imm)
  have hb0 := below_alloc w (.cells #[.int .i64 op, .int .i64 rd, .int .i64 rs1, .int .i64 rs2, .int .i32 imm] 23)
  generalize w.alloc (.cells #[.int .i64 op, .int .i64 rd, .int .i64 rs1, .int .i64 rs2, .int .i32 imm] 23) = w1 at *
  refine (HM.out _).mono ?_
  rintro e w2 ⟨rfl, hb1⟩
  replace z0 := z0.below hb1 z0.lt
  replace hb0 := bel_step hb0 hb1
  clear hb1 HM w1
  go_upto_region 3 with (fail)
  have hop0 : (0 : Int) ≤ op := by omega
  have hop1 : op < 49 := by omega
  obtain ⟨zl, c0, c1, c2, c3, c4⟩ := id z0
  have Z0 := hid z0
  clear z0 c1 c2 c3 c4
  have HN := hid (fun w => names_at w)
  generalize hsn : nameN op.toNat = s at *
  have HSN := hid hsn
  clear hsn
  have hopl : op.toNat < names.length := by have : names.length = 49 := rfl; omega
  go_cut [5] (fun i5 wx => i5 = .string s ∧ Below w2.heap.size w2 wx)
  case first =>
    go_region_with (go_at_call 27; (with_reducible refine (HN.out _).mono ?_); rintro e w' ⟨bn, rfl, hbel, hst⟩; have hnc := hst.2 op.toNat hopl; (try (with_reducible replace hbel := bel_undrew hbel)); (try (with_reducible replace hbel := bel_undrewN hbel)); have hbw3 : Below w2.heap.size w2 w' := bel_step (w := w2) (by repeat' (first | (with_reducible exact Below.refl _ _) | (with_reducible assumption) | (with_reducible refine below_drewN ?_ _) | (with_reducible refine Below.alloc ?_ ?_ _) | (with_reducible refine Below.drew ?_) | (with_reducible refine Below.setCell ?_ ?_ _) | (with_reducible exact Below.size (by assumption)) | go_size)) hbel; have hsw := hbw3.size; have hsb := hbel.size; (try simp at hsb); obtain ⟨hcel, hfro⟩ := bcell hbel; clear hbel hst; rw [show names.getD op.toNat ⟨#[]⟩ = s from HSN.out] at hnc)
    all_goals (go_wp2_with fail; go_meet)
    all_goals exact ⟨rfl, (by repeat' (first | (with_reducible exact Below.refl _ _) | (with_reducible assumption) | (with_reducible refine below_drewN ?_ _) | (with_reducible refine Below.alloc ?_ ?_ _) | (with_reducible refine Below.drew ?_) | (with_reducible refine Below.setCell ?_ ?_ _) | (with_reducible exact Below.size (by assumption)) | go_size))⟩
  case rest =>
    obtain ⟨rfl, hbx⟩ := hcut
    have z0 := Z0.out.below hbx Z0.out.lt
    have hb3 := bel_step hb0 hbx
    clear hbx hb0 Z0 zl c0 HN hopl hop0 hop1
    obtain ⟨zl, c0, c1, c2, c3, c4⟩ := z0
    have q0 : (name.toList == [99, 46, 97, 100, 100, 105, 52, 115, 112, 110]) = false := hlow.out 0 (by decide)
    have q1 : (name.toList == [99, 46, 108, 119]) = false := hlow.out 1 (by decide)
    have q2 : (name.toList == [99, 46, 115, 119]) = false := hlow.out 2 (by decide)
    have q3 : (name.toList == [99, 46, 110, 111, 112]) = false := hlow.out 3 (by decide)
    have q4 : (name.toList == [99, 46, 97, 100, 100, 105]) = false := hlow.out 4 (by decide)
    have q5 : (name.toList == [99, 46, 106, 97, 108]) = false := hlow.out 5 (by decide)
    have q6 : (name.toList == [99, 46, 108, 105]) = false := hlow.out 6 (by decide)
    have q7 : (name.toList == [99, 46, 97, 100, 100, 105, 49, 54, 115, 112]) = false := hlow.out 7 (by decide)
    have q8 : (name.toList == [99, 46, 108, 117, 105]) = false := hlow.out 8 (by decide)
    have q9 : (name.toList == [99, 46, 115, 114, 108, 105]) = false := hlow.out 9 (by decide)
    have q10 : (name.toList == [99, 46, 115, 114, 97, 105]) = false := hlow.out 10 (by decide)
    have q11 : (name.toList == [99, 46, 97, 110, 100, 105]) = false := hlow.out 11 (by decide)
    have q12 : (name.toList == [99, 46, 115, 117, 98]) = false := hlow.out 12 (by decide)
    have q13 : (name.toList == [99, 46, 120, 111, 114]) = false := hlow.out 13 (by decide)
    have q14 : (name.toList == [99, 46, 111, 114]) = false := hlow.out 14 (by decide)
    have q15 : (name.toList == [99, 46, 97, 110, 100]) = false := hlow.out 15 (by decide)
    have q16 : (name.toList == [99, 46, 106]) = false := hlow.out 16 (by decide)
    have q17 : (name.toList == [99, 46, 98, 101, 113, 122]) = false := hlow.out 17 (by decide)
    have q18 : (name.toList == [99, 46, 98, 110, 101, 122]) = false := hlow.out 18 (by decide)
    have q19 : (name.toList == [99, 46, 115, 108, 108, 105]) = false := hlow.out 19 (by decide)
    have q20 : (name.toList == [99, 46, 108, 119, 115, 112]) = false := hlow.out 20 (by decide)
    have q21 : (name.toList == [99, 46, 106, 114]) = false := hlow.out 21 (by decide)
    have q22 : (name.toList == [99, 46, 109, 118]) = false := hlow.out 22 (by decide)
    have q23 : (name.toList == [99, 46, 101, 98, 114, 101, 97, 107]) = false := hlow.out 23 (by decide)
    have q24 : (name.toList == [99, 46, 106, 97, 108, 114]) = false := hlow.out 24 (by decide)
    have q25 : (name.toList == [99, 46, 97, 100, 100]) = false := hlow.out 25 (by decide)
    have q26 : (name.toList == [99, 46, 115, 119, 115, 112]) = false := hlow.out 26 (by decide)
    clear hlow HSN hm' ho
    go_wp2
    go_ret
    exact ⟨rfl, (by repeat' (first | (with_reducible exact Below.refl _ _) | (with_reducible assumption) | (with_reducible refine below_drewN ?_ _) | (with_reducible refine Below.alloc ?_ ?_ _) | (with_reducible refine Below.drew ?_) | (with_reducible refine Below.setCell ?_ ?_ _) | (with_reducible exact Below.size (by assumption)) | go_size))⟩
set_option maxRecDepth 100000 in
theorem Fits_not (name : ByteArray) (op rd rs1 rs2 imm : Int) (w : World) (o0 : -9223372036854775808 ≤ op) (o1 : op < 9223372036854775808) (hm : mayB op rd rs1 rs2 imm = false) (i0 : -2147483648 ≤ imm) (i1 : imm < 2147483648) :
    Calls Try.prog 11 #[.string name, .agg #[.int .i64 op, .int .i64 rd, .int .i64 rs1, .int .i64 rs2, .int .i32 imm]] w fun e w' => e = .returned (.bool false) ∧ Below w.heap.size w w' := by
  have HM := hid (fun w => R3.May op rd rs1 rs2 imm w o0 o1 i0 i1)
  rw [hm] at HM
  clear hm
  go_enter Try.func11, Try.ntmps11
  go_wp2_with fail
  refine (HM.out _).mono ?_
  rintro e w2 ⟨rfl, hb1⟩
  go_wp2
  go_ret
  exact ⟨rfl, bel_step (w := w) (by repeat' (first | (with_reducible exact Below.refl _ _) | (with_reducible assumption) | (with_reducible refine below_drewN ?_ _) | (with_reducible refine Below.alloc ?_ ?_ _) | (with_reducible refine Below.drew ?_) | (with_reducible refine Below.setCell ?_ ?_ _) | (with_reducible exact Below.size (by assumption)) | go_size)) hb1⟩
end Go.Proofs.Ytfecjdchgckjhaa.R9
