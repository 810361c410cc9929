/- What typecaseref09.Get computes. -/
import Derived.Test.YtfecjdchgckjhaaRef09s
import Derived.Test.YtfecjdchgckjhaaRef09k
import Derived.Test.YtfecjdchgckjhaaGot9
import Derived.Test.YtfecjdchgckjhaaRef05g
import Derived.RegionTactic
import Derived.BigRegion
import Derived.Deep.Cut
namespace Go.Proofs.Ytfecjdchgckjhaa.R9
set_option linter.unusedVariables false
set_option linter.unusedSimpArgs false
open Go.ChangeShapes Go.WideShapes Go.ChangeAt Go.RowKit Go.Proofs.Ytfecjdchgckjhaa.P Go.Proofs.Ytfecjdchgckjhaa.W Go.Proofs.Ytfecjdchgckjhaa.F

theorem empty_unlike : ∀ k, k < 27 → ((prAt k).nm.toList == (⟨#[]⟩ : ByteArray).toList) = false := by
  have : ∀ k, k < 27 → ((prAt k).nm.data.toList == (⟨#[]⟩ : ByteArray).data.toList) = false := by decide
  intro k hk
  rw [ByteArray.toList_eq, ByteArray.toList_eq]; exact this k hk
set_option maxHeartbeats 2000000 in
theorem Get (h : Int) (w : World) (h0 : 0 ≤ h) (h1 : h < 65536) (o1 : (qAll h).op < 9223372036854775808) (o0 : -9223372036854775808 ≤ (qAll h).op) (i0 : -2147483648 ≤ (qAll h).imm) (i1 : (qAll h).imm < 2147483648) :
    Calls Try.prog 14 #[.int .u16 h] w fun e w' => e = .returned (if A9.getQ h = true then .tuple #[.string (prAt (diagK h)).nm, (qAll h).val, .bool true] else .tuple #[.string ⟨#[]⟩, .agg #[.int .i64 0, .int .i64 0, .int .i64 0, .int .i64 0, .int .i32 0], .bool false]) ∧ Below w.heap.size w w' := by
  have HX := hid (fun w => R5.Expand h w h0 h1)
  have HDG := hid (fun w => diagram h w h0 h1)
  have HF : Hid (∀ w, Calls Try.prog 11 #[.string (dName (diagK h)), .agg #[.int .i64 (qAll h).op, .int .i64 (qAll h).rd, .int .i64 (qAll h).rs1, .int .i64 (qAll h).rs2, .int .i32 (qAll h).imm]] w fun e w' => e = .returned (.bool (decide (diagK h < 27) && fitR (prAt (diagK h)) (qAll h).op (qAll h).rd (qAll h).rs1 (qAll h).rs2 (qAll h).imm)) ∧ Below w.heap.size w w') := hid (fun w => by
    by_cases hk : diagK h < 27
    · have e : dName (diagK h) = (prAt (diagK h)).nm := by unfold dName; rw [if_pos hk]
      rw [e, show decide (diagK h < 27) = true by simpa using hk, Bool.true_and]
      exact Fits_at _ _ _ _ _ _ w hk o0 o1 i0 i1
    · have e : dName (diagK h) = ⟨#[]⟩ := by unfold dName; rw [if_neg hk]
      rw [e, show decide (diagK h < 27) = false by simpa using hk, Bool.false_and]
      exact Fits_other _ _ _ _ _ _ w empty_unlike o0 o1 i0 i1)
  have hg : A9.getQ h = (decide (0 < (qAll h).op) && (decide (diagK h < 27) && fitR (prAt (diagK h)) (qAll h).op (qAll h).rd (qAll h).rs1 (qAll h).rs2 (qAll h).imm)) := rfl
  have hn : (decide (diagK h < 27) && fitR (prAt (diagK h)) (qAll h).op (qAll h).rd (qAll h).rs1 (qAll h).rs2 (qAll h).imm) = true → dName (diagK h) = (prAt (diagK h)).nm := fun e => by
    simp only [Bool.and_eq_true, decide_eq_true_eq] at e
    unfold dName; rw [if_pos e.1]
  have hv : (qAll h).val = .agg #[.int .i64 (qAll h).op, .int .i64 (qAll h).rd, .int .i64 (qAll h).rs1, .int .i64 (qAll h).rs2, .int .i32 (qAll h).imm] := rfl
  rw [hv] at HX ⊢
  rw [hg]
  clear hg hv o0 o1 i0 i1
  generalize (decide (diagK h < 27) && fitR (prAt (diagK h)) (qAll h).op (qAll h).rd (qAll h).rs1 (qAll h).rs2 (qAll h).imm) = vf at *
  generalize decide (0 < (qAll h).op) = vk at *
  generalize (qAll h).op = op at *
  generalize (qAll h).rd = rd at *
  generalize (qAll h).rs1 = rs1 at *
  generalize (qAll h).rs2 = rs2 at *
  generalize (qAll h).imm = imm at *
  generalize (prAt (diagK h)).nm = nm at *
  generalize dName (diagK h) = dn at *
  have HNM := hid hn
  clear hn
  cases vk
  · rw [if_neg (by simp)]
    clear HF HNM
    go_enter Try.func14, Try.ntmps14
    go_wp2_with fail
    have z0 := Five.new w 23 (.int .i64 0) (.int .i64 0) (.int .i64 0) (.int .i64 0) (.int .i32 0)
    have hb0 := below_alloc w (.cells #[.int .i64 0, .int .i64 0, .int .i64 0, .int .i64 0, .int .i32 0] 23)
    generalize w.alloc (.cells #[.int .i64 0, .int .i64 0, .int .i64 0, .int .i64 0, .int .i32 0] 23) = w1 at *
    refine (HX.out _).mono ?_
    rintro e w2 ⟨rfl, hb1⟩
    replace z0 := z0.below hb1 z0.lt
    replace hb0 := bel_step hb0 hb1
    clear hb1 w1 HX
    have zi := Inst.new w2 23 (.int .i64 op) (.int .i64 rd) (.int .i64 rs1) (.int .i64 rs2) (.int .i32 imm)
    have hne : w.heap.size < w2.heap.size := z0.lt
    go_upto_region 2 with (fail)
    replace z0 := z0.below (below_alloc w2 (.cells #[.int .i64 op, .int .i64 rd, .int .i64 rs1, .int .i64 rs2, .int .i32 imm] 23)) z0.lt
    replace hb0 := bel_step hb0 (below_alloc w2 (.cells #[.int .i64 op, .int .i64 rd, .int .i64 rs1, .int .i64 rs2, .int .i32 imm] 23))
    generalize w2.alloc (.cells #[.int .i64 op, .int .i64 rd, .int .i64 rs1, .int .i64 rs2, .int .i32 imm] 23) = w3 at *
    generalize w2.heap.size = bi at *
    have hne1 : w.heap.size ≠ bi := Nat.ne_of_lt hne
    have hne2 : bi ≠ w.heap.size := fun e => hne1 e.symm
    go_wp2_with fail
    refine (HDG.out _).mono ?_
    rintro e w4 ⟨rfl, hb1⟩
    replace z0 := z0.below hb1 z0.lt
    replace zi := zi.below hb1 zi.lt
    replace hb0 := bel_step hb0 hb1
    clear hb1 HDG w3
    obtain ⟨zl, t0, t1, t2, t3, t4, g0, g1, g2, g3, g4⟩ := z0
    clear zi
    go_wp2
    refine bodyPost_ret (v := .tuple #[.string ⟨#[]⟩, .agg #[.int .i64 0, .int .i64 0, .int .i64 0, .int .i64 0, .int .i32 0], .bool false]) (by simp [results, Try.results14, go_sem, setCell_map, t0, t1, t2, t3, t4]; try rfl) rfl ⟨rfl, (by repeat' (first | (with_reducible exact Below.refl _ _) | (with_reducible assumption) | (with_reducible refine below_drewN ?_ _) | (with_reducible refine Below.alloc ?_ ?_ _) | (with_reducible refine Below.drew ?_) | (with_reducible refine Below.setCell ?_ ?_ _) | (with_reducible exact Below.size (by assumption)) | go_size))⟩
  · cases vf
    · rw [if_neg (by simp)]
      clear HNM
      go_enter Try.func14, Try.ntmps14
      go_wp2_with fail
      have z0 := Five.new w 23 (.int .i64 0) (.int .i64 0) (.int .i64 0) (.int .i64 0) (.int .i32 0)
      have hb0 := below_alloc w (.cells #[.int .i64 0, .int .i64 0, .int .i64 0, .int .i64 0, .int .i32 0] 23)
      generalize w.alloc (.cells #[.int .i64 0, .int .i64 0, .int .i64 0, .int .i64 0, .int .i32 0] 23) = w1 at *
      refine (HX.out _).mono ?_
      rintro e w2 ⟨rfl, hb1⟩
      replace z0 := z0.below hb1 z0.lt
      replace hb0 := bel_step hb0 hb1
      clear hb1 w1 HX
      have zi := Inst.new w2 23 (.int .i64 op) (.int .i64 rd) (.int .i64 rs1) (.int .i64 rs2) (.int .i32 imm)
      have hne : w.heap.size < w2.heap.size := z0.lt
      go_upto_region 2 with (fail)
      replace z0 := z0.below (below_alloc w2 (.cells #[.int .i64 op, .int .i64 rd, .int .i64 rs1, .int .i64 rs2, .int .i32 imm] 23)) z0.lt
      replace hb0 := bel_step hb0 (below_alloc w2 (.cells #[.int .i64 op, .int .i64 rd, .int .i64 rs1, .int .i64 rs2, .int .i32 imm] 23))
      generalize w2.alloc (.cells #[.int .i64 op, .int .i64 rd, .int .i64 rs1, .int .i64 rs2, .int .i32 imm] 23) = w3 at *
      generalize w2.heap.size = bi at *
      have hne1 : w.heap.size ≠ bi := Nat.ne_of_lt hne
      have hne2 : bi ≠ w.heap.size := fun e => hne1 e.symm
      go_wp2_with fail
      refine (HDG.out _).mono ?_
      rintro e w4 ⟨rfl, hb1⟩
      replace z0 := z0.below hb1 z0.lt
      replace zi := zi.below hb1 zi.lt
      replace hb0 := bel_step hb0 hb1
      clear hb1 HDG w3
      obtain ⟨il, y0, y1, y2, y3, y4⟩ := id zi
      have ZI := hid zi
      have Z0 := hid z0
      clear zi z0
      go_wp2_with fail
      refine (HF.out _).mono ?_
      rintro e w5 ⟨rfl, hb1⟩
      have z0 := Z0.out.below hb1 Z0.out.lt
      have zi := ZI.out.below hb1 ZI.out.lt
      replace hb0 := bel_step hb0 hb1
      clear hb1 HF il y0 y1 y2 y3 y4 ZI Z0
      obtain ⟨zl, t0, t1, t2, t3, t4, g0, g1, g2, g3, g4⟩ := z0
      clear zi
      go_wp2
      refine bodyPost_ret (v := .tuple #[.string ⟨#[]⟩, .agg #[.int .i64 0, .int .i64 0, .int .i64 0, .int .i64 0, .int .i32 0], .bool false]) (by simp [results, Try.results14, go_sem, setCell_map, t0, t1, t2, t3, t4]; try rfl) rfl ⟨rfl, (by repeat' (first | (with_reducible exact Below.refl _ _) | (with_reducible assumption) | (with_reducible refine below_drewN ?_ _) | (with_reducible refine Below.alloc ?_ ?_ _) | (with_reducible refine Below.drew ?_) | (with_reducible refine Below.setCell ?_ ?_ _) | (with_reducible exact Below.size (by assumption)) | go_size))⟩
    · rw [if_pos (by simp)]
      go_enter Try.func14, Try.ntmps14
      go_wp2_with fail
      have z0 := Five.new w 23 (.int .i64 0) (.int .i64 0) (.int .i64 0) (.int .i64 0) (.int .i32 0)
      have hb0 := below_alloc w (.cells #[.int .i64 0, .int .i64 0, .int .i64 0, .int .i64 0, .int .i32 0] 23)
      generalize w.alloc (.cells #[.int .i64 0, .int .i64 0, .int .i64 0, .int .i64 0, .int .i32 0] 23) = w1 at *
      refine (HX.out _).mono ?_
      rintro e w2 ⟨rfl, hb1⟩
      replace z0 := z0.below hb1 z0.lt
      replace hb0 := bel_step hb0 hb1
      clear hb1 w1 HX
      have zi := Inst.new w2 23 (.int .i64 op) (.int .i64 rd) (.int .i64 rs1) (.int .i64 rs2) (.int .i32 imm)
      have hne : w.heap.size < w2.heap.size := z0.lt
      go_upto_region 2 with (fail)
      replace z0 := z0.below (below_alloc w2 (.cells #[.int .i64 op, .int .i64 rd, .int .i64 rs1, .int .i64 rs2, .int .i32 imm] 23)) z0.lt
      replace hb0 := bel_step hb0 (below_alloc w2 (.cells #[.int .i64 op, .int .i64 rd, .int .i64 rs1, .int .i64 rs2, .int .i32 imm] 23))
      generalize w2.alloc (.cells #[.int .i64 op, .int .i64 rd, .int .i64 rs1, .int .i64 rs2, .int .i32 imm] 23) = w3 at *
      generalize w2.heap.size = bi at *
      have hne1 : w.heap.size ≠ bi := Nat.ne_of_lt hne
      have hne2 : bi ≠ w.heap.size := fun e => hne1 e.symm
      go_wp2_with fail
      refine (HDG.out _).mono ?_
      rintro e w4 ⟨rfl, hb1⟩
      replace z0 := z0.below hb1 z0.lt
      replace zi := zi.below hb1 zi.lt
      replace hb0 := bel_step hb0 hb1
      clear hb1 HDG w3
      obtain ⟨il, y0, y1, y2, y3, y4⟩ := id zi
      have ZI := hid zi
      have Z0 := hid z0
      clear zi z0
      go_wp2_with fail
      refine (HF.out _).mono ?_
      rintro e w5 ⟨rfl, hb1⟩
      have z0 := Z0.out.below hb1 Z0.out.lt
      have zi := ZI.out.below hb1 ZI.out.lt
      replace hb0 := bel_step hb0 hb1
      clear hb1 HF il y0 y1 y2 y3 y4 ZI Z0
      obtain ⟨zl, t0, t1, t2, t3, t4, g0, g1, g2, g3, g4⟩ := z0
      obtain ⟨il, y0, y1, y2, y3, y4⟩ := zi
      go_wp2
      go_region
      all_goals go_wp2
      all_goals refine bodyPost_ret (v := .tuple #[.string dn, .agg #[.int .i64 op, .int .i64 rd, .int .i64 rs1, .int .i64 rs2, .int .i32 imm], .bool true]) (by simp [results, Try.results14, go_sem, setCell_map, t0, t1, t2, t3, t4]; try rfl) rfl ⟨by rw [HNM.out (by trivial)], (by repeat' (first | (with_reducible exact Below.refl _ _) | (with_reducible assumption) | (with_reducible refine below_drewN ?_ _) | (with_reducible refine Below.alloc ?_ ?_ _) | (with_reducible refine Below.drew ?_) | (with_reducible refine Below.setCell ?_ ?_ _) | (with_reducible exact Below.size (by assumption)) | go_size))⟩
end Go.Proofs.Ytfecjdchgckjhaa.R9
