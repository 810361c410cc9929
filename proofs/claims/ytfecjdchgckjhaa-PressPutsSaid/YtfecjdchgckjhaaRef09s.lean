/- What typecaseref09.Fits computes. What typecaseref09.Fits and Short compute. -/
import Derived.Test.YtfecjdchgckjhaaRef09p
import Derived.Deep.Cut
import Derived.Deep.DeepCutAuto
import Derived.Deep.RegionWith
import Derived.Test.YtfecjdchgckjhaaRef09b0
import Derived.Test.YtfecjdchgckjhaaRef09b1
import Derived.Test.YtfecjdchgckjhaaRef09b2
import Derived.Test.YtfecjdchgckjhaaRef09b3
import Derived.Test.YtfecjdchgckjhaaRef09b4
import Derived.Test.YtfecjdchgckjhaaRef09b5
import Derived.Test.YtfecjdchgckjhaaRef09b6
import Derived.Test.YtfecjdchgckjhaaRef09b7
import Derived.Test.YtfecjdchgckjhaaRef09b8
import Derived.Test.YtfecjdchgckjhaaRef09a
import Derived.Deep.RegionHeld3
namespace Go.Proofs.Ytfecjdchgckjhaa.R9
set_option linter.unusedVariables false
set_option linter.unusedSimpArgs false
open Go.ChangeShapes Go.WideShapes Go.ChangeAt Go.RowKit Go.Proofs.Ytfecjdchgckjhaa.P Go.Proofs.Ytfecjdchgckjhaa.W Go.Proofs.Ytfecjdchgckjhaa.F

set_option maxRecDepth 100000 in
set_option maxHeartbeats 40000000 in
theorem Fits_none (op rd rs1 rs2 imm : Int) (w : World) (name : ByteArray) (hlow : ∀ k, k < 27 → (name.toList == (prAt k).nm.data.toList) = false) (hm : mayB op rd rs1 rs2 imm = true) (i0 : -2147483648 ≤ imm) (i1 : imm < 2147483648) :
    Calls Try.prog 11 #[.string name, .agg #[.int .i64 op, .int .i64 rd, .int .i64 rs1, .int .i64 rs2, .int .i32 imm]] w fun e w' => e = .returned (.bool false) ∧ Below w.heap.size w w' := by
  have ho : 1 ≤ op ∧ op ≤ 48 := may_op hm
  have HM := hid (fun w => R3.May op rd rs1 rs2 imm w (by omega) (by omega) i0 i1)
  rw [hm] at HM
  have hm' := hid hm
  clear hm
  replace hlow := hid hlow
  go_enter Try.func11, Try.ntmps11
  go_wp2_with fail
  have z0 := Inst.new w 23 (.int .i64 op) (.int .i64 rd) (.int .i64 rs1) (.int .i64 rs2) (.int .i32 imm)
  have hb0 := below_alloc w (.cells #[.int .i64 op, .int .i64 rd, .int .i64 rs1, .int .i64 rs2, .int .i32 imm] 23)
  generalize w.alloc (.cells #[.int .i64 op, .int .i64 rd, .int .i64 rs1, .int .i64 rs2, .int .i32 imm] 23) = w1 at *
  refine (HM.out _).mono ?_
  rintro e w2 ⟨rfl, hb1⟩
  replace z0 := z0.below hb1 z0.lt
  replace hb0 := bel_step hb0 hb1
  clear hb1 HM w1
  go_upto_region 3 with (fail)
  have hop0 : (0 : Int) ≤ op := by omega
  have hop1 : op < 49 := by omega
  obtain ⟨zl, c0, c1, c2, c3, c4⟩ := id z0
  have Z0 := hid z0
  clear z0 c1 c2 c3 c4
  have HN := hid (fun w => names_at w)
  generalize hsn : nameN op.toNat = s at *
  have HSN := hid hsn
  clear hsn
  have hopl : op.toNat < names.length := by have : names.length = 49 := rfl; omega
  go_cut [5] (fun i5 wx => i5 = .string s ∧ Below w2.heap.size w2 wx)
  case first =>
    go_region_with (go_at_call 27; (with_reducible refine (HN.out _).mono ?_); rintro e w' ⟨bn, rfl, hbel, hst⟩; have hnc := hst.2 op.toNat hopl; (try (with_reducible replace hbel := bel_undrew hbel)); (try (with_reducible replace hbel := bel_undrewN hbel)); have hbw3 : Below w2.heap.size w2 w' := bel_step (w := w2) (by repeat' (first | (with_reducible exact Below.refl _ _) | (with_reducible assumption) | (with_reducible refine below_drewN ?_ _) | (with_reducible refine Below.alloc ?_ ?_ _) | (with_reducible refine Below.drew ?_) | (with_reducible refine Below.setCell ?_ ?_ _) | (with_reducible exact Below.size (by assumption)) | go_size)) hbel; have hsw := hbw3.size; have hsb := hbel.size; (try simp at hsb); obtain ⟨hcel, hfro⟩ := bcell hbel; clear hbel hst; rw [show names.getD op.toNat ⟨#[]⟩ = s from HSN.out] at hnc)
    all_goals (go_wp2_with fail; go_meet)
    all_goals exact ⟨rfl, (by repeat' (first | (with_reducible exact Below.refl _ _) | (with_reducible assumption) | (with_reducible refine below_drewN ?_ _) | (with_reducible refine Below.alloc ?_ ?_ _) | (with_reducible refine Below.drew ?_) | (with_reducible refine Below.setCell ?_ ?_ _) | (with_reducible exact Below.size (by assumption)) | go_size))⟩
  case rest =>
    obtain ⟨rfl, hbx⟩ := hcut
    have z0 := Z0.out.below hbx Z0.out.lt
    have hb3 := bel_step hb0 hbx
    clear hbx hb0 Z0 zl c0 HN hopl hop0 hop1
    obtain ⟨zl, c0, c1, c2, c3, c4⟩ := z0
    have q0 : (name.toList == [99, 46, 97, 100, 100, 105, 52, 115, 112, 110]) = false := hlow.out 0 (by decide)
    have q1 : (name.toList == [99, 46, 108, 119]) = false := hlow.out 1 (by decide)
    have q2 : (name.toList == [99, 46, 115, 119]) = false := hlow.out 2 (by decide)
    have q3 : (name.toList == [99, 46, 110, 111, 112]) = false := hlow.out 3 (by decide)
    have q4 : (name.toList == [99, 46, 97, 100, 100, 105]) = false := hlow.out 4 (by decide)
    have q5 : (name.toList == [99, 46, 106, 97, 108]) = false := hlow.out 5 (by decide)
    have q6 : (name.toList == [99, 46, 108, 105]) = false := hlow.out 6 (by decide)
    have q7 : (name.toList == [99, 46, 97, 100, 100, 105, 49, 54, 115, 112]) = false := hlow.out 7 (by decide)
    have q8 : (name.toList == [99, 46, 108, 117, 105]) = false := hlow.out 8 (by decide)
    have q9 : (name.toList == [99, 46, 115, 114, 108, 105]) = false := hlow.out 9 (by decide)
    have q10 : (name.toList == [99, 46, 115, 114, 97, 105]) = false := hlow.out 10 (by decide)
    have q11 : (name.toList == [99, 46, 97, 110, 100, 105]) = false := hlow.out 11 (by decide)
    have q12 : (name.toList == [99, 46, 115, 117, 98]) = false := hlow.out 12 (by decide)
    have q13 : (name.toList == [99, 46, 120, 111, 114]) = false := hlow.out 13 (by decide)
    have q14 : (name.toList == [99, 46, 111, 114]) = false := hlow.out 14 (by decide)
    have q15 : (name.toList == [99, 46, 97, 110, 100]) = false := hlow.out 15 (by decide)
    have q16 : (name.toList == [99, 46, 106]) = false := hlow.out 16 (by decide)
    have q17 : (name.toList == [99, 46, 98, 101, 113, 122]) = false := hlow.out 17 (by decide)
    have q18 : (name.toList == [99, 46, 98, 110, 101, 122]) = false := hlow.out 18 (by decide)
    have q19 : (name.toList == [99, 46, 115, 108, 108, 105]) = false := hlow.out 19 (by decide)
    have q20 : (name.toList == [99, 46, 108, 119, 115, 112]) = false := hlow.out 20 (by decide)
    have q21 : (name.toList == [99, 46, 106, 114]) = false := hlow.out 21 (by decide)
    have q22 : (name.toList == [99, 46, 109, 118]) = false := hlow.out 22 (by decide)
    have q23 : (name.toList == [99, 46, 101, 98, 114, 101, 97, 107]) = false := hlow.out 23 (by decide)
    have q24 : (name.toList == [99, 46, 106, 97, 108, 114]) = false := hlow.out 24 (by decide)
    have q25 : (name.toList == [99, 46, 97, 100, 100]) = false := hlow.out 25 (by decide)
    have q26 : (name.toList == [99, 46, 115, 119, 115, 112]) = false := hlow.out 26 (by decide)
    clear hlow HSN hm' ho
    go_wp2
    go_ret
    exact ⟨rfl, (by repeat' (first | (with_reducible exact Below.refl _ _) | (with_reducible assumption) | (with_reducible refine below_drewN ?_ _) | (with_reducible refine Below.alloc ?_ ?_ _) | (with_reducible refine Below.drew ?_) | (with_reducible refine Below.setCell ?_ ?_ _) | (with_reducible exact Below.size (by assumption)) | go_size))⟩
set_option maxRecDepth 100000 in
theorem Fits_not (name : ByteArray) (op rd rs1 rs2 imm : Int) (w : World) (o0 : -9223372036854775808 ≤ op) (o1 : op < 9223372036854775808) (hm : mayB op rd rs1 rs2 imm = false) (i0 : -2147483648 ≤ imm) (i1 : imm < 2147483648) :
    Calls Try.prog 11 #[.string name, .agg #[.int .i64 op, .int .i64 rd, .int .i64 rs1, .int .i64 rs2, .int .i32 imm]] w fun e w' => e = .returned (.bool false) ∧ Below w.heap.size w w' := by
  have HM := hid (fun w => R3.May op rd rs1 rs2 imm w o0 o1 i0 i1)
  rw [hm] at HM
  clear hm
  go_enter Try.func11, Try.ntmps11
  go_wp2_with fail
  refine (HM.out _).mono ?_
  rintro e w2 ⟨rfl, hb1⟩
  go_wp2
  go_ret
  exact ⟨rfl, bel_step (w := w) (by repeat' (first | (with_reducible exact Below.refl _ _) | (with_reducible assumption) | (with_reducible refine below_drewN ?_ _) | (with_reducible refine Below.alloc ?_ ?_ _) | (with_reducible refine Below.drew ?_) | (with_reducible refine Below.setCell ?_ ?_ _) | (with_reducible exact Below.size (by assumption)) | go_size)) hb1⟩
end Go.Proofs.Ytfecjdchgckjhaa.R9

namespace Go.Proofs.Ytfecjdchgckjhaa.R9
set_option linter.unusedVariables false
set_option linter.unusedSimpArgs false
open Go.ChangeShapes Go.WideShapes Go.ChangeAt Go.RowKit Go.Proofs.Ytfecjdchgckjhaa.P Go.Proofs.Ytfecjdchgckjhaa.W Go.Proofs.Ytfecjdchgckjhaa.F

theorem Fits_at (k : Nat) (op rd rs1 rs2 imm : Int) (w : World) (hk : k < 27) (o0 : -9223372036854775808 ≤ op) (o1 : op < 9223372036854775808) (i0 : -2147483648 ≤ imm) (i1 : imm < 2147483648) :
    Calls Try.prog 11 #[.string (prAt k).nm, .agg #[.int .i64 op, .int .i64 rd, .int .i64 rs1, .int .i64 rs2, .int .i32 imm]] w fun e w' => e = .returned (.bool (fitR (prAt k) op rd rs1 rs2 imm)) ∧ Below w.heap.size w w' := by
  cases hm : mayB op rd rs1 rs2 imm
  · have e : fitR (prAt k) op rd rs1 rs2 imm = false := by unfold fitR; rw [hm]; simp
    rw [e]
    exact Fits_not _ op rd rs1 rs2 imm w o0 o1 hm i0 i1
  · have hc : k = 0 ∨ k = 1 ∨ k = 2 ∨ k = 3 ∨ k = 4 ∨ k = 5 ∨ k = 6 ∨ k = 7 ∨ k = 8 ∨ k = 9 ∨ k = 10 ∨ k = 11 ∨ k = 12 ∨ k = 13 ∨ k = 14 ∨ k = 15 ∨ k = 16 ∨ k = 17 ∨ k = 18 ∨ k = 19 ∨ k = 20 ∨ k = 21 ∨ k = 22 ∨ k = 23 ∨ k = 24 ∨ k = 25 ∨ k = 26 := by omega
    rcases hc with h | h | h | h | h | h | h | h | h | h | h | h | h | h | h | h | h | h | h | h | h | h | h | h | h | h | h
    · exact FitsG0 op rd rs1 rs2 imm w k (by omega) (by omega) hm i0 i1
    · exact FitsG1 op rd rs1 rs2 imm w k (by omega) (by omega) hm i0 i1
    · exact FitsG2 op rd rs1 rs2 imm w k (by omega) (by omega) hm i0 i1
    · exact FitsG3 op rd rs1 rs2 imm w k (by omega) (by omega) hm i0 i1
    · exact FitsG4 op rd rs1 rs2 imm w k (by omega) (by omega) hm i0 i1
    · exact FitsG5 op rd rs1 rs2 imm w k (by omega) (by omega) hm i0 i1
    · exact FitsG6 op rd rs1 rs2 imm w k (by omega) (by omega) hm i0 i1
    · exact FitsG7 op rd rs1 rs2 imm w k (by omega) (by omega) hm i0 i1
    · exact FitsG8 op rd rs1 rs2 imm w k (by omega) (by omega) hm i0 i1
    · exact FitsG9 op rd rs1 rs2 imm w k (by omega) (by omega) hm i0 i1
    · exact FitsG10 op rd rs1 rs2 imm w k (by omega) (by omega) hm i0 i1
    · exact FitsG11 op rd rs1 rs2 imm w k (by omega) (by omega) hm i0 i1
    · exact FitsG12 op rd rs1 rs2 imm w k (by omega) (by omega) hm i0 i1
    · exact FitsG13 op rd rs1 rs2 imm w k (by omega) (by omega) hm i0 i1
    · exact FitsG14 op rd rs1 rs2 imm w k (by omega) (by omega) hm i0 i1
    · exact FitsG15 op rd rs1 rs2 imm w k (by omega) (by omega) hm i0 i1
    · exact FitsG16 op rd rs1 rs2 imm w k (by omega) (by omega) hm i0 i1
    · exact FitsG17 op rd rs1 rs2 imm w k (by omega) (by omega) hm i0 i1
    · exact FitsG18 op rd rs1 rs2 imm w k (by omega) (by omega) hm i0 i1
    · exact FitsG19 op rd rs1 rs2 imm w k (by omega) (by omega) hm i0 i1
    · exact FitsG20 op rd rs1 rs2 imm w k (by omega) (by omega) hm i0 i1
    · exact FitsG21 op rd rs1 rs2 imm w k (by omega) (by omega) hm i0 i1
    · exact FitsG22 op rd rs1 rs2 imm w k (by omega) (by omega) hm i0 i1
    · exact FitsG23 op rd rs1 rs2 imm w k (by omega) (by omega) hm i0 i1
    · exact FitsG24 op rd rs1 rs2 imm w k (by omega) (by omega) hm i0 i1
    · exact FitsG25 op rd rs1 rs2 imm w k (by omega) (by omega) hm i0 i1
    · exact FitsG26 op rd rs1 rs2 imm w k (by omega) (by omega) hm i0 i1
theorem Fits_other (name : ByteArray) (op rd rs1 rs2 imm : Int) (w : World) (hn : ∀ k, k < 27 → ((prAt k).nm.toList == name.toList) = false) (o0 : -9223372036854775808 ≤ op) (o1 : op < 9223372036854775808) (i0 : -2147483648 ≤ imm) (i1 : imm < 2147483648) :
    Calls Try.prog 11 #[.string name, .agg #[.int .i64 op, .int .i64 rd, .int .i64 rs1, .int .i64 rs2, .int .i32 imm]] w fun e w' => e = .returned (.bool false) ∧ Below w.heap.size w w' := by
  cases hm : mayB op rd rs1 rs2 imm
  · exact Fits_not _ op rd rs1 rs2 imm w o0 o1 hm i0 i1
  · refine Fits_none op rd rs1 rs2 imm w name (fun k hk => ?_) hm i0 i1
    have := hn k hk
    rw [ByteArray.toList_eq] at this
    simp only [beq_eq_false_iff_ne, ne_eq] at this ⊢
    exact fun h => this h.symm

set_option maxHeartbeats 2000000 in
theorem Short (n : Nat) (op rd rs1 rs2 imm : Int) (w : World) (hn : n ≤ 27) (hlow : ∀ k, k < n → fitR (prAt k) op rd rs1 rs2 imm = false) (hyes : n < 27 → fitR (prAt n) op rd rs1 rs2 imm = true) (o0 : -9223372036854775808 ≤ op) (o1 : op < 9223372036854775808) (i0 : -2147483648 ≤ imm) (i1 : imm < 2147483648) :
    Calls Try.prog 19 #[.agg #[.int .i64 op, .int .i64 rd, .int .i64 rs1, .int .i64 rs2, .int .i32 imm]] w fun e w' => e = .returned (.string (if n < 27 then (prAt n).nm else ⟨#[]⟩)) ∧ Below w.heap.size w w' := by
  have HL := hid hlow
  have HY := hid hyes
  clear hlow hyes
  go_enter Try.func19, Try.ntmps19
  go_wp2_with fail
  have z0 := Inst.new w 23 (.int .i64 op) (.int .i64 rd) (.int .i64 rs1) (.int .i64 rs2) (.int .i32 imm)
  have hb0 := below_alloc w (.cells #[.int .i64 op, .int .i64 rd, .int .i64 rs1, .int .i64 rs2, .int .i32 imm] 23)
  generalize w.alloc (.cells #[.int .i64 op, .int .i64 rd, .int .i64 rs1, .int .i64 rs2, .int .i32 imm] 23) = w0 at *
  refine (Names _).mono ?_
  rintro e w1 ⟨b, rfl, hb1, hR⟩
  replace z0 := hid (z0.below hb1 z0.lt)
  replace hb0 := bel_step hb0 hb1
  replace hR := hid hR
  clear hb1
  go_wp2
  go_loopw [4] (fun i wr => ∃ k : Nat, k ≤ n ∧ i = .int .i64 k ∧ Below w1.heap.size w1 wr) (fun i _ => n + 1 - (intOf i).toNat)
  case atStart => exact ⟨0, by omega, rfl, Below.refl _ _⟩
  case round =>
    obtain ⟨k, hk, rfl, hbel⟩ := hrel
    have hsz := hbel.size
    have hbw : Below w.heap.size w wr := bel_step hb0 hbel
    by_cases hk27 : k < 27
    · have hst := hR.out.below hbel hR.out.1
      have hlt : (k : Int) < 27 := by omega
      have hc := hst.2 k (by show k < names9.length; rw [show names9.length = 27 from rfl]; exact hk27)
      rw [names9_at k hk27] at hc
      have hbl := hst.1
      have HF := hid (fun w => Fits_at k op rd rs1 rs2 imm w hk27 o0 o1 i0 i1)
      clear hst
      by_cases hs : k < n
      · rw [HL.out k hs] at HF
        generalize hr : (prAt k).nm = nm at *
        have HR := hid hr
        clear hr
        obtain ⟨zl, c0, c1, c2, c3, c4⟩ := z0.out.below hbel z0.out.lt
        go_wp2
        go_region_held3 (fun W => w.heap.size < W.heap.size ∧ b < W.heap.size ∧ W.cell? ⟨b, k, none⟩ = some (.string nm) ∧ W.cell? ⟨w.heap.size, 0, none⟩ = some (.int .i64 op) ∧ W.cell? ⟨w.heap.size, 1, none⟩ = some (.int .i64 rd) ∧ W.cell? ⟨w.heap.size, 2, none⟩ = some (.int .i64 rs1) ∧ W.cell? ⟨w.heap.size, 3, none⟩ = some (.int .i64 rs2) ∧ W.cell? ⟨w.heap.size, 4, none⟩ = some (.int .i32 imm)) (((repeat' (refine And.intro ?_ ?_)) <;> (first | omega | (go_simp; done) | (refine cell_is ?_; go_simp; done) | (rw [hcel _ _ (by first | omega | (simp; omega))]; go_simp; done) | (rw [hfro _ _ (by first | omega | (simp; omega))]; go_simp; done) | (simp [*]; done)))) ((go_at_call 11; (with_reducible refine (HF.out _).mono ?_); rintro e w' ⟨rfl, hbel2⟩; (try (with_reducible replace hbel2 := bel_undrew hbel2)); (try (with_reducible replace hbel2 := bel_undrewN hbel2)); have hbr2 : Below wr.heap.size wr w' := bel_step (w := wr) (by repeat' (first | (with_reducible exact Below.refl _ _) | (with_reducible assumption) | (with_reducible refine below_drewN ?_ _) | (with_reducible refine Below.alloc ?_ ?_ _) | (with_reducible refine Below.drew ?_) | (with_reducible refine Below.setCell ?_ ?_ _) | (with_reducible exact Below.size (by assumption)) | go_size)) hbel2; have hsw := hbr2.size; have d0 := (hbr2.cell (p := ⟨b, k, none⟩) hbl).trans hc; obtain ⟨hcel, hfro⟩ := bcell hbr2; clear hbel2))
        all_goals
          have hbw3 : Below w1.heap.size w1 w' := bel_step hbel hbr2
          have hw3 : Below w.heap.size w w' := bel_step hb0 hbw3
          go_wp2
          go_roundw
          case rel => exact ⟨k + 1, by omega, by go_num, hbw3⟩
          case measure => simp [intOf]; omega
      · obtain rfl : k = n := by omega
        rw [HY.out hk27] at HF
        generalize hr : (prAt k).nm = nm at *
        have HR := hid hr
        clear hr
        obtain ⟨zl, c0, c1, c2, c3, c4⟩ := z0.out.below hbel z0.out.lt
        go_wp2
        go_region_held3 (fun W => w.heap.size < W.heap.size ∧ b < W.heap.size ∧ W.cell? ⟨b, k, none⟩ = some (.string nm) ∧ W.cell? ⟨w.heap.size, 0, none⟩ = some (.int .i64 op) ∧ W.cell? ⟨w.heap.size, 1, none⟩ = some (.int .i64 rd) ∧ W.cell? ⟨w.heap.size, 2, none⟩ = some (.int .i64 rs1) ∧ W.cell? ⟨w.heap.size, 3, none⟩ = some (.int .i64 rs2) ∧ W.cell? ⟨w.heap.size, 4, none⟩ = some (.int .i32 imm)) (((repeat' (refine And.intro ?_ ?_)) <;> (first | omega | (go_simp; done) | (refine cell_is ?_; go_simp; done) | (rw [hcel _ _ (by first | omega | (simp; omega))]; go_simp; done) | (rw [hfro _ _ (by first | omega | (simp; omega))]; go_simp; done) | (simp [*]; done)))) ((go_at_call 11; (with_reducible refine (HF.out _).mono ?_); rintro e w' ⟨rfl, hbel2⟩; (try (with_reducible replace hbel2 := bel_undrew hbel2)); (try (with_reducible replace hbel2 := bel_undrewN hbel2)); have hbr2 : Below wr.heap.size wr w' := bel_step (w := wr) (by repeat' (first | (with_reducible exact Below.refl _ _) | (with_reducible assumption) | (with_reducible refine below_drewN ?_ _) | (with_reducible refine Below.alloc ?_ ?_ _) | (with_reducible refine Below.drew ?_) | (with_reducible refine Below.setCell ?_ ?_ _) | (with_reducible exact Below.size (by assumption)) | go_size)) hbel2; have hsw := hbr2.size; have d0 := (hbr2.cell (p := ⟨b, k, none⟩) hbl).trans hc; obtain ⟨hcel, hfro⟩ := bcell hbr2; clear hbel2))
        all_goals
          have hbw3 : Below w1.heap.size w1 w' := bel_step hbel hbr2
          have hw3 : Below w.heap.size w w' := bel_step hb0 hbw3
          go_wp2
          go_ret
          exact ⟨by first | (simp [hk27, HR.out]; done) | (rw [HR.out]; rfl) | (rw [if_pos hk27, HR.out]; rfl), hw3⟩
    · obtain rfl : k = 27 := by omega
      obtain rfl : n = 27 := by omega
      go_wp2
      go_ret
      exact ⟨by first | rfl | simp, hbw⟩
end Go.Proofs.Ytfecjdchgckjhaa.R9
