/- What the functions of package typecaseref05 compute: the quarters. -/
import Derived.Test.YtfecjdchgckjhaaRef05b
import Derived.Test.YtfecjdchgckjhaaCellMap
import Derived.Deep.Cut
import Derived.Deep.RegionHeld3
namespace Go.Proofs.Ytfecjdchgckjhaa.R5
set_option linter.unusedVariables false
set_option linter.unusedSimpArgs false
open Go.ChangeShapes Go.WideShapes Go.ChangeAt Go.RowKit Go.Proofs.Ytfecjdchgckjhaa.P Go.Proofs.Ytfecjdchgckjhaa.W Go.Proofs.Ytfecjdchgckjhaa.O Go.Proofs.Ytfecjdchgckjhaa.R4

set_option maxRecDepth 100000 in
set_option maxHeartbeats 2000000 in
theorem sumsA (x : Int) (w : World) (h0 : 0 ≤ x) (h1 : x < 4294967296) (hne : ¬ (fld x 10 2 = 3 ∧ fld x 12 1 = 0)) :
    Calls Try.prog 49 #[.int .u32 x, .int .i32 (sN6 x)] w fun e w' => e = .returned (qSums x).val ∧ Below w.heap.size w w' := by
  have HFs := hid (show ∀ w, Calls Try.prog 46 #[.int .u32 x, .int .i64 6, .int .i64 2] w fun e w' => e = .returned (.int .i64 (fld x 2 5)) ∧ w = w' from fun w => field x 6 2 w h0 h1 (by omega) (by omega) (by omega))
  have HFo := hid (show ∀ w, Calls Try.prog 46 #[.int .u32 x, .int .i64 12, .int .i64 12] w fun e w' => e = .returned (.int .i64 (fld x 12 1)) ∧ w = w' from fun w => field x 12 12 w h0 h1 (by omega) (by omega) (by omega))
  have HFk := hid (show ∀ w, Calls Try.prog 46 #[.int .u32 x, .int .i64 11, .int .i64 10] w fun e w' => e = .returned (.int .i64 (fld x 10 2)) ∧ w = w' from fun w => field x 11 10 w h0 h1 (by omega) (by omega) (by omega))
  have HFj := hid (show ∀ w, Calls Try.prog 46 #[.int .u32 x, .int .i64 6, .int .i64 5] w fun e w' => e = .returned (.int .i64 (fld x 5 2)) ∧ w = w' from fun w => field x 6 5 w h0 h1 (by omega) (by omega) (by omega))
  have HW7 := hid (show ∀ w, Calls Try.prog 47 #[.int .u32 x, .int .i64 7] w fun e w' => e = .returned (.int .i64 (sR1 x)) ∧ w = w' from fun w => few x 7 w h0 h1 (by omega) (by omega))
  have HW2 := hid (show ∀ w, Calls Try.prog 47 #[.int .u32 x, .int .i64 2] w fun e w' => e = .returned (.int .i64 (sR2 x)) ∧ w = w' from fun w => few x 2 w h0 h1 (by omega) (by omega))
  have hk : 0 ≤ fld x 10 2 ∧ fld x 10 2 < 4 := fld_bd x 10 2
  have ho : 0 ≤ fld x 12 1 ∧ fld x 12 1 < 2 := fld_bd x 12 1
  have hs : 0 ≤ fld x 2 5 ∧ fld x 2 5 < 32 := fld_bd x 2 5
  have hj : 0 ≤ fld x 5 2 ∧ fld x 5 2 < 4 := fld_bd x 5 2
  have hq : Hid (qSums x = if fld x 10 2 = 2 then ⟨24, sR1 x, sR1 x, 0, sN6 x⟩ else if fld x 12 1 = 1 then .none else if fld x 10 2 = 0 then ⟨26, sR1 x, sR1 x, 0, fld x 2 5⟩ else if fld x 10 2 = 1 then ⟨27, sR1 x, sR1 x, 0, fld x 2 5⟩ else ⟨if fld x 5 2 = 0 then 29 else if fld x 5 2 = 1 then 33 else if fld x 5 2 = 2 then 36 else 37, sR1 x, sR1 x, sR2 x, 0⟩) := hid rfl
  generalize fld x 10 2 = k at *
  generalize fld x 12 1 = o at *
  generalize fld x 2 5 = s at *
  generalize fld x 5 2 = j at *
  generalize sN6 x = n at *
  generalize sR1 x = r1 at *
  generalize sR2 x = r2 at *
  have hc : (k = 2) ∨ (k = 0 ∧ o = 0) ∨ (k = 0 ∧ o = 1) ∨ (k = 1 ∧ o = 0) ∨ (k = 1 ∧ o = 1) ∨ (k = 3 ∧ o = 1) := by first | omega | (simp only [bne_iff_ne, beq_eq_false_iff_ne, ne_eq]; omega)
  rcases hc with rfl | ⟨rfl, rfl⟩ | ⟨rfl, rfl⟩ | ⟨rfl, rfl⟩ | ⟨rfl, rfl⟩ | ⟨rfl, rfl⟩
  all_goals
    go_enter Try.func49, Try.ntmps49
    go_upto_region 1 with (fail)
    have HR := hid (Res.start w 23)
    generalize w.alloc (.cells #[.int .i64 0, .int .i64 0, .int .i64 0, .int .i64 0, .int .i32 0] 23) = w1 at *
    (try clear hbw zl c0 c1 c2 c3 c4 f0 f1 f2 f3 f4 five0 five1 five2 five3 five4); obtain ⟨hbw, zl, c0, c1, c2, c3, c4, f0, f1, f2, f3, f4⟩ := HR.out; obtain ⟨five0, five1, five2, five3, five4⟩ := S.five_ret c0 c1 c2 c3 c4
    go_wp2_with (first | (go_at_call 46; (with_reducible refine (HFs.out _).mono ?_); rintro e w' ⟨rfl, rfl⟩) | (go_at_call 46; (with_reducible refine (HFo.out _).mono ?_); rintro e w' ⟨rfl, rfl⟩) | (go_at_call 46; (with_reducible refine (HFk.out _).mono ?_); rintro e w' ⟨rfl, rfl⟩) | (go_at_call 46; (with_reducible refine (HFj.out _).mono ?_); rintro e w' ⟨rfl, rfl⟩) | (go_at_call 47; (with_reducible refine (HW7.out _).mono ?_); rintro e w' ⟨rfl, rfl⟩) | (go_at_call 47; (with_reducible refine (HW2.out _).mono ?_); rintro e w' ⟨rfl, rfl⟩))
    all_goals (refine bodyPost_ret (by simp [results, Try.results49, go_sem, five0, five1, five2, five3, five4]; try rfl) rfl ?_)
    all_goals refine ⟨?_, (by repeat' (first | (with_reducible exact Below.refl _ _) | (with_reducible assumption) | (with_reducible refine below_drewN ?_ _) | (with_reducible refine Below.alloc ?_ ?_ _) | (with_reducible refine Below.drew ?_) | (with_reducible refine Below.setCell ?_ ?_ _) | (with_reducible exact Below.size (by assumption)) | go_size))⟩
    all_goals rw [hq.out]
    all_goals clear HR HFs HFo HFk HFj HW7 HW2 hq hbw zl c0 c1 c2 c3 c4 f0 f1 f2 f3 f4 five0 five1 five2 five3 five4
    all_goals simp_all [I5.val, I5.none]
set_option maxRecDepth 100000 in
set_option maxHeartbeats 2000000 in
theorem sums0 (x : Int) (w : World) (h0 : 0 ≤ x) (h1 : x < 4294967296) (hc : fld x 10 2 = 3 ∧ fld x 12 1 = 0 ∧ fld x 5 2 = 0) :
    Calls Try.prog 49 #[.int .u32 x, .int .i32 (sN6 x)] w fun e w' => e = .returned (qSums x).val ∧ Below w.heap.size w w' := by
  have HFs := hid (show ∀ w, Calls Try.prog 46 #[.int .u32 x, .int .i64 6, .int .i64 2] w fun e w' => e = .returned (.int .i64 (fld x 2 5)) ∧ w = w' from fun w => field x 6 2 w h0 h1 (by omega) (by omega) (by omega))
  have HFo := hid (show ∀ w, Calls Try.prog 46 #[.int .u32 x, .int .i64 12, .int .i64 12] w fun e w' => e = .returned (.int .i64 (fld x 12 1)) ∧ w = w' from fun w => field x 12 12 w h0 h1 (by omega) (by omega) (by omega))
  have HFk := hid (show ∀ w, Calls Try.prog 46 #[.int .u32 x, .int .i64 11, .int .i64 10] w fun e w' => e = .returned (.int .i64 (fld x 10 2)) ∧ w = w' from fun w => field x 11 10 w h0 h1 (by omega) (by omega) (by omega))
  have HFj := hid (show ∀ w, Calls Try.prog 46 #[.int .u32 x, .int .i64 6, .int .i64 5] w fun e w' => e = .returned (.int .i64 (fld x 5 2)) ∧ w = w' from fun w => field x 6 5 w h0 h1 (by omega) (by omega) (by omega))
  have HW7 := hid (show ∀ w, Calls Try.prog 47 #[.int .u32 x, .int .i64 7] w fun e w' => e = .returned (.int .i64 (sR1 x)) ∧ w = w' from fun w => few x 7 w h0 h1 (by omega) (by omega))
  have HW2 := hid (show ∀ w, Calls Try.prog 47 #[.int .u32 x, .int .i64 2] w fun e w' => e = .returned (.int .i64 (sR2 x)) ∧ w = w' from fun w => few x 2 w h0 h1 (by omega) (by omega))
  have hk : 0 ≤ fld x 10 2 ∧ fld x 10 2 < 4 := fld_bd x 10 2
  have ho : 0 ≤ fld x 12 1 ∧ fld x 12 1 < 2 := fld_bd x 12 1
  have hs : 0 ≤ fld x 2 5 ∧ fld x 2 5 < 32 := fld_bd x 2 5
  have hj : 0 ≤ fld x 5 2 ∧ fld x 5 2 < 4 := fld_bd x 5 2
  have hq : Hid (qSums x = if fld x 10 2 = 2 then ⟨24, sR1 x, sR1 x, 0, sN6 x⟩ else if fld x 12 1 = 1 then .none else if fld x 10 2 = 0 then ⟨26, sR1 x, sR1 x, 0, fld x 2 5⟩ else if fld x 10 2 = 1 then ⟨27, sR1 x, sR1 x, 0, fld x 2 5⟩ else ⟨if fld x 5 2 = 0 then 29 else if fld x 5 2 = 1 then 33 else if fld x 5 2 = 2 then 36 else 37, sR1 x, sR1 x, sR2 x, 0⟩) := hid rfl
  generalize fld x 10 2 = k at *
  generalize fld x 12 1 = o at *
  generalize fld x 2 5 = s at *
  generalize fld x 5 2 = j at *
  generalize sN6 x = n at *
  generalize sR1 x = r1 at *
  generalize sR2 x = r2 at *
  obtain ⟨rfl, rfl, rfl⟩ := hc
  all_goals
    go_enter Try.func49, Try.ntmps49
    go_upto_region 1 with (fail)
    have HR := hid (Res.start w 23)
    generalize w.alloc (.cells #[.int .i64 0, .int .i64 0, .int .i64 0, .int .i64 0, .int .i32 0] 23) = w1 at *
    (try clear hbw zl c0 c1 c2 c3 c4 f0 f1 f2 f3 f4 five0 five1 five2 five3 five4); obtain ⟨hbw, zl, c0, c1, c2, c3, c4, f0, f1, f2, f3, f4⟩ := HR.out; obtain ⟨five0, five1, five2, five3, five4⟩ := S.five_ret c0 c1 c2 c3 c4
    go_wp2_with (first | (go_at_call 46; (with_reducible refine (HFs.out _).mono ?_); rintro e w' ⟨rfl, rfl⟩) | (go_at_call 46; (with_reducible refine (HFo.out _).mono ?_); rintro e w' ⟨rfl, rfl⟩) | (go_at_call 46; (with_reducible refine (HFk.out _).mono ?_); rintro e w' ⟨rfl, rfl⟩) | (go_at_call 46; (with_reducible refine (HFj.out _).mono ?_); rintro e w' ⟨rfl, rfl⟩) | (go_at_call 47; (with_reducible refine (HW7.out _).mono ?_); rintro e w' ⟨rfl, rfl⟩) | (go_at_call 47; (with_reducible refine (HW2.out _).mono ?_); rintro e w' ⟨rfl, rfl⟩))
    go_region_with ((first | (go_at_call 46; (with_reducible refine (HFs.out _).mono ?_); rintro e w' ⟨rfl, rfl⟩) | (go_at_call 46; (with_reducible refine (HFo.out _).mono ?_); rintro e w' ⟨rfl, rfl⟩) | (go_at_call 46; (with_reducible refine (HFk.out _).mono ?_); rintro e w' ⟨rfl, rfl⟩) | (go_at_call 46; (with_reducible refine (HFj.out _).mono ?_); rintro e w' ⟨rfl, rfl⟩) | (go_at_call 47; (with_reducible refine (HW7.out _).mono ?_); rintro e w' ⟨rfl, rfl⟩) | (go_at_call 47; (with_reducible refine (HW2.out _).mono ?_); rintro e w' ⟨rfl, rfl⟩)))
    all_goals
      obtain ⟨t0, t1, t2, t3, t4, hl2, hbF⟩ := five_all hbw zl c0 c1 c2 c3 c4 (.int .i64 29) (.int .i64 r1) (.int .i64 r1) (.int .i64 r2) (.int .i32 0)
      clear HR hbw zl c0 c1 c2 c3 c4 f0 f1 f2 f3 f4 five0 five1 five2 five3 five4 HFs HFo HFk HFj HW7 HW2
      generalize World.setCell _ ⟨w.heap.size, 4, none⟩ _ = wf at *
      have hnw : ∀ o j, (wf.alloc o).cell? ⟨w.heap.size, j, none⟩ = wf.cell? ⟨w.heap.size, j, none⟩ := fun o j => World.cell?_alloc_old _ _ _ (by show w.heap.size ≠ wf.heap.size; omega)
      go_wp2
      refine bodyPost_ret (v := .agg #[.int .i64 29, .int .i64 r1, .int .i64 r1, .int .i64 r2, .int .i32 0]) (by simp [results, Try.results49, go_sem, hnw, t0, t1, t2, t3, t4]; try rfl) rfl ⟨by rw [hq.out]; rfl, (by repeat' (first | (with_reducible exact Below.refl _ _) | (with_reducible assumption) | (with_reducible refine below_drewN ?_ _) | (with_reducible refine Below.alloc ?_ ?_ _) | (with_reducible refine Below.drew ?_) | (with_reducible refine Below.setCell ?_ ?_ _) | (with_reducible exact Below.size (by assumption)) | go_size))⟩
set_option maxRecDepth 100000 in
set_option maxHeartbeats 2000000 in
theorem sums1 (x : Int) (w : World) (h0 : 0 ≤ x) (h1 : x < 4294967296) (hc : fld x 10 2 = 3 ∧ fld x 12 1 = 0 ∧ fld x 5 2 = 1) :
    Calls Try.prog 49 #[.int .u32 x, .int .i32 (sN6 x)] w fun e w' => e = .returned (qSums x).val ∧ Below w.heap.size w w' := by
  have HFs := hid (show ∀ w, Calls Try.prog 46 #[.int .u32 x, .int .i64 6, .int .i64 2] w fun e w' => e = .returned (.int .i64 (fld x 2 5)) ∧ w = w' from fun w => field x 6 2 w h0 h1 (by omega) (by omega) (by omega))
  have HFo := hid (show ∀ w, Calls Try.prog 46 #[.int .u32 x, .int .i64 12, .int .i64 12] w fun e w' => e = .returned (.int .i64 (fld x 12 1)) ∧ w = w' from fun w => field x 12 12 w h0 h1 (by omega) (by omega) (by omega))
  have HFk := hid (show ∀ w, Calls Try.prog 46 #[.int .u32 x, .int .i64 11, .int .i64 10] w fun e w' => e = .returned (.int .i64 (fld x 10 2)) ∧ w = w' from fun w => field x 11 10 w h0 h1 (by omega) (by omega) (by omega))
  have HFj := hid (show ∀ w, Calls Try.prog 46 #[.int .u32 x, .int .i64 6, .int .i64 5] w fun e w' => e = .returned (.int .i64 (fld x 5 2)) ∧ w = w' from fun w => field x 6 5 w h0 h1 (by omega) (by omega) (by omega))
  have HW7 := hid (show ∀ w, Calls Try.prog 47 #[.int .u32 x, .int .i64 7] w fun e w' => e = .returned (.int .i64 (sR1 x)) ∧ w = w' from fun w => few x 7 w h0 h1 (by omega) (by omega))
  have HW2 := hid (show ∀ w, Calls Try.prog 47 #[.int .u32 x, .int .i64 2] w fun e w' => e = .returned (.int .i64 (sR2 x)) ∧ w = w' from fun w => few x 2 w h0 h1 (by omega) (by omega))
  have hk : 0 ≤ fld x 10 2 ∧ fld x 10 2 < 4 := fld_bd x 10 2
  have ho : 0 ≤ fld x 12 1 ∧ fld x 12 1 < 2 := fld_bd x 12 1
  have hs : 0 ≤ fld x 2 5 ∧ fld x 2 5 < 32 := fld_bd x 2 5
  have hj : 0 ≤ fld x 5 2 ∧ fld x 5 2 < 4 := fld_bd x 5 2
  have hq : Hid (qSums x = if fld x 10 2 = 2 then ⟨24, sR1 x, sR1 x, 0, sN6 x⟩ else if fld x 12 1 = 1 then .none else if fld x 10 2 = 0 then ⟨26, sR1 x, sR1 x, 0, fld x 2 5⟩ else if fld x 10 2 = 1 then ⟨27, sR1 x, sR1 x, 0, fld x 2 5⟩ else ⟨if fld x 5 2 = 0 then 29 else if fld x 5 2 = 1 then 33 else if fld x 5 2 = 2 then 36 else 37, sR1 x, sR1 x, sR2 x, 0⟩) := hid rfl
  generalize fld x 10 2 = k at *
  generalize fld x 12 1 = o at *
  generalize fld x 2 5 = s at *
  generalize fld x 5 2 = j at *
  generalize sN6 x = n at *
  generalize sR1 x = r1 at *
  generalize sR2 x = r2 at *
  obtain ⟨rfl, rfl, rfl⟩ := hc
  all_goals
    go_enter Try.func49, Try.ntmps49
    go_upto_region 1 with (fail)
    have HR := hid (Res.start w 23)
    generalize w.alloc (.cells #[.int .i64 0, .int .i64 0, .int .i64 0, .int .i64 0, .int .i32 0] 23) = w1 at *
    (try clear hbw zl c0 c1 c2 c3 c4 f0 f1 f2 f3 f4 five0 five1 five2 five3 five4); obtain ⟨hbw, zl, c0, c1, c2, c3, c4, f0, f1, f2, f3, f4⟩ := HR.out; obtain ⟨five0, five1, five2, five3, five4⟩ := S.five_ret c0 c1 c2 c3 c4
    go_wp2_with (first | (go_at_call 46; (with_reducible refine (HFs.out _).mono ?_); rintro e w' ⟨rfl, rfl⟩) | (go_at_call 46; (with_reducible refine (HFo.out _).mono ?_); rintro e w' ⟨rfl, rfl⟩) | (go_at_call 46; (with_reducible refine (HFk.out _).mono ?_); rintro e w' ⟨rfl, rfl⟩) | (go_at_call 46; (with_reducible refine (HFj.out _).mono ?_); rintro e w' ⟨rfl, rfl⟩) | (go_at_call 47; (with_reducible refine (HW7.out _).mono ?_); rintro e w' ⟨rfl, rfl⟩) | (go_at_call 47; (with_reducible refine (HW2.out _).mono ?_); rintro e w' ⟨rfl, rfl⟩))
    go_region_with ((first | (go_at_call 46; (with_reducible refine (HFs.out _).mono ?_); rintro e w' ⟨rfl, rfl⟩) | (go_at_call 46; (with_reducible refine (HFo.out _).mono ?_); rintro e w' ⟨rfl, rfl⟩) | (go_at_call 46; (with_reducible refine (HFk.out _).mono ?_); rintro e w' ⟨rfl, rfl⟩) | (go_at_call 46; (with_reducible refine (HFj.out _).mono ?_); rintro e w' ⟨rfl, rfl⟩) | (go_at_call 47; (with_reducible refine (HW7.out _).mono ?_); rintro e w' ⟨rfl, rfl⟩) | (go_at_call 47; (with_reducible refine (HW2.out _).mono ?_); rintro e w' ⟨rfl, rfl⟩)))
    all_goals
      obtain ⟨t0, t1, t2, t3, t4, hl2, hbF⟩ := five_all hbw zl c0 c1 c2 c3 c4 (.int .i64 33) (.int .i64 r1) (.int .i64 r1) (.int .i64 r2) (.int .i32 0)
      clear HR hbw zl c0 c1 c2 c3 c4 f0 f1 f2 f3 f4 five0 five1 five2 five3 five4 HFs HFo HFk HFj HW7 HW2
      generalize World.setCell _ ⟨w.heap.size, 4, none⟩ _ = wf at *
      have hnw : ∀ o j, (wf.alloc o).cell? ⟨w.heap.size, j, none⟩ = wf.cell? ⟨w.heap.size, j, none⟩ := fun o j => World.cell?_alloc_old _ _ _ (by show w.heap.size ≠ wf.heap.size; omega)
      go_wp2
      refine bodyPost_ret (v := .agg #[.int .i64 33, .int .i64 r1, .int .i64 r1, .int .i64 r2, .int .i32 0]) (by simp [results, Try.results49, go_sem, hnw, t0, t1, t2, t3, t4]; try rfl) rfl ⟨by rw [hq.out]; rfl, (by repeat' (first | (with_reducible exact Below.refl _ _) | (with_reducible assumption) | (with_reducible refine below_drewN ?_ _) | (with_reducible refine Below.alloc ?_ ?_ _) | (with_reducible refine Below.drew ?_) | (with_reducible refine Below.setCell ?_ ?_ _) | (with_reducible exact Below.size (by assumption)) | go_size))⟩
set_option maxRecDepth 100000 in
set_option maxHeartbeats 2000000 in
theorem sums2 (x : Int) (w : World) (h0 : 0 ≤ x) (h1 : x < 4294967296) (hc : fld x 10 2 = 3 ∧ fld x 12 1 = 0 ∧ fld x 5 2 = 2) :
    Calls Try.prog 49 #[.int .u32 x, .int .i32 (sN6 x)] w fun e w' => e = .returned (qSums x).val ∧ Below w.heap.size w w' := by
  have HFs := hid (show ∀ w, Calls Try.prog 46 #[.int .u32 x, .int .i64 6, .int .i64 2] w fun e w' => e = .returned (.int .i64 (fld x 2 5)) ∧ w = w' from fun w => field x 6 2 w h0 h1 (by omega) (by omega) (by omega))
  have HFo := hid (show ∀ w, Calls Try.prog 46 #[.int .u32 x, .int .i64 12, .int .i64 12] w fun e w' => e = .returned (.int .i64 (fld x 12 1)) ∧ w = w' from fun w => field x 12 12 w h0 h1 (by omega) (by omega) (by omega))
  have HFk := hid (show ∀ w, Calls Try.prog 46 #[.int .u32 x, .int .i64 11, .int .i64 10] w fun e w' => e = .returned (.int .i64 (fld x 10 2)) ∧ w = w' from fun w => field x 11 10 w h0 h1 (by omega) (by omega) (by omega))
  have HFj := hid (show ∀ w, Calls Try.prog 46 #[.int .u32 x, .int .i64 6, .int .i64 5] w fun e w' => e = .returned (.int .i64 (fld x 5 2)) ∧ w = w' from fun w => field x 6 5 w h0 h1 (by omega) (by omega) (by omega))
  have HW7 := hid (show ∀ w, Calls Try.prog 47 #[.int .u32 x, .int .i64 7] w fun e w' => e = .returned (.int .i64 (sR1 x)) ∧ w = w' from fun w => few x 7 w h0 h1 (by omega) (by omega))
  have HW2 := hid (show ∀ w, Calls Try.prog 47 #[.int .u32 x, .int .i64 2] w fun e w' => e = .returned (.int .i64 (sR2 x)) ∧ w = w' from fun w => few x 2 w h0 h1 (by omega) (by omega))
  have hk : 0 ≤ fld x 10 2 ∧ fld x 10 2 < 4 := fld_bd x 10 2
  have ho : 0 ≤ fld x 12 1 ∧ fld x 12 1 < 2 := fld_bd x 12 1
  have hs : 0 ≤ fld x 2 5 ∧ fld x 2 5 < 32 := fld_bd x 2 5
  have hj : 0 ≤ fld x 5 2 ∧ fld x 5 2 < 4 := fld_bd x 5 2
  have hq : Hid (qSums x = if fld x 10 2 = 2 then ⟨24, sR1 x, sR1 x, 0, sN6 x⟩ else if fld x 12 1 = 1 then .none else if fld x 10 2 = 0 then ⟨26, sR1 x, sR1 x, 0, fld x 2 5⟩ else if fld x 10 2 = 1 then ⟨27, sR1 x, sR1 x, 0, fld x 2 5⟩ else ⟨if fld x 5 2 = 0 then 29 else if fld x 5 2 = 1 then 33 else if fld x 5 2 = 2 then 36 else 37, sR1 x, sR1 x, sR2 x, 0⟩) := hid rfl
  generalize fld x 10 2 = k at *
  generalize fld x 12 1 = o at *
  generalize fld x 2 5 = s at *
  generalize fld x 5 2 = j at *
  generalize sN6 x = n at *
  generalize sR1 x = r1 at *
  generalize sR2 x = r2 at *
  obtain ⟨rfl, rfl, rfl⟩ := hc
  all_goals
    go_enter Try.func49, Try.ntmps49
    go_upto_region 1 with (fail)
    have HR := hid (Res.start w 23)
    generalize w.alloc (.cells #[.int .i64 0, .int .i64 0, .int .i64 0, .int .i64 0, .int .i32 0] 23) = w1 at *
    (try clear hbw zl c0 c1 c2 c3 c4 f0 f1 f2 f3 f4 five0 five1 five2 five3 five4); obtain ⟨hbw, zl, c0, c1, c2, c3, c4, f0, f1, f2, f3, f4⟩ := HR.out; obtain ⟨five0, five1, five2, five3, five4⟩ := S.five_ret c0 c1 c2 c3 c4
    go_wp2_with (first | (go_at_call 46; (with_reducible refine (HFs.out _).mono ?_); rintro e w' ⟨rfl, rfl⟩) | (go_at_call 46; (with_reducible refine (HFo.out _).mono ?_); rintro e w' ⟨rfl, rfl⟩) | (go_at_call 46; (with_reducible refine (HFk.out _).mono ?_); rintro e w' ⟨rfl, rfl⟩) | (go_at_call 46; (with_reducible refine (HFj.out _).mono ?_); rintro e w' ⟨rfl, rfl⟩) | (go_at_call 47; (with_reducible refine (HW7.out _).mono ?_); rintro e w' ⟨rfl, rfl⟩) | (go_at_call 47; (with_reducible refine (HW2.out _).mono ?_); rintro e w' ⟨rfl, rfl⟩))
    go_region_with ((first | (go_at_call 46; (with_reducible refine (HFs.out _).mono ?_); rintro e w' ⟨rfl, rfl⟩) | (go_at_call 46; (with_reducible refine (HFo.out _).mono ?_); rintro e w' ⟨rfl, rfl⟩) | (go_at_call 46; (with_reducible refine (HFk.out _).mono ?_); rintro e w' ⟨rfl, rfl⟩) | (go_at_call 46; (with_reducible refine (HFj.out _).mono ?_); rintro e w' ⟨rfl, rfl⟩) | (go_at_call 47; (with_reducible refine (HW7.out _).mono ?_); rintro e w' ⟨rfl, rfl⟩) | (go_at_call 47; (with_reducible refine (HW2.out _).mono ?_); rintro e w' ⟨rfl, rfl⟩)))
    all_goals
      obtain ⟨t0, t1, t2, t3, t4, hl2, hbF⟩ := five_all hbw zl c0 c1 c2 c3 c4 (.int .i64 36) (.int .i64 r1) (.int .i64 r1) (.int .i64 r2) (.int .i32 0)
      clear HR hbw zl c0 c1 c2 c3 c4 f0 f1 f2 f3 f4 five0 five1 five2 five3 five4 HFs HFo HFk HFj HW7 HW2
      generalize World.setCell _ ⟨w.heap.size, 4, none⟩ _ = wf at *
      have hnw : ∀ o j, (wf.alloc o).cell? ⟨w.heap.size, j, none⟩ = wf.cell? ⟨w.heap.size, j, none⟩ := fun o j => World.cell?_alloc_old _ _ _ (by show w.heap.size ≠ wf.heap.size; omega)
      go_wp2
      refine bodyPost_ret (v := .agg #[.int .i64 36, .int .i64 r1, .int .i64 r1, .int .i64 r2, .int .i32 0]) (by simp [results, Try.results49, go_sem, hnw, t0, t1, t2, t3, t4]; try rfl) rfl ⟨by rw [hq.out]; rfl, (by repeat' (first | (with_reducible exact Below.refl _ _) | (with_reducible assumption) | (with_reducible refine below_drewN ?_ _) | (with_reducible refine Below.alloc ?_ ?_ _) | (with_reducible refine Below.drew ?_) | (with_reducible refine Below.setCell ?_ ?_ _) | (with_reducible exact Below.size (by assumption)) | go_size))⟩
set_option maxRecDepth 100000 in
set_option maxHeartbeats 2000000 in
theorem sums3 (x : Int) (w : World) (h0 : 0 ≤ x) (h1 : x < 4294967296) (hc : fld x 10 2 = 3 ∧ fld x 12 1 = 0 ∧ fld x 5 2 = 3) :
    Calls Try.prog 49 #[.int .u32 x, .int .i32 (sN6 x)] w fun e w' => e = .returned (qSums x).val ∧ Below w.heap.size w w' := by
  have HFs := hid (show ∀ w, Calls Try.prog 46 #[.int .u32 x, .int .i64 6, .int .i64 2] w fun e w' => e = .returned (.int .i64 (fld x 2 5)) ∧ w = w' from fun w => field x 6 2 w h0 h1 (by omega) (by omega) (by omega))
  have HFo := hid (show ∀ w, Calls Try.prog 46 #[.int .u32 x, .int .i64 12, .int .i64 12] w fun e w' => e = .returned (.int .i64 (fld x 12 1)) ∧ w = w' from fun w => field x 12 12 w h0 h1 (by omega) (by omega) (by omega))
  have HFk := hid (show ∀ w, Calls Try.prog 46 #[.int .u32 x, .int .i64 11, .int .i64 10] w fun e w' => e = .returned (.int .i64 (fld x 10 2)) ∧ w = w' from fun w => field x 11 10 w h0 h1 (by omega) (by omega) (by omega))
  have HFj := hid (show ∀ w, Calls Try.prog 46 #[.int .u32 x, .int .i64 6, .int .i64 5] w fun e w' => e = .returned (.int .i64 (fld x 5 2)) ∧ w = w' from fun w => field x 6 5 w h0 h1 (by omega) (by omega) (by omega))
  have HW7 := hid (show ∀ w, Calls Try.prog 47 #[.int .u32 x, .int .i64 7] w fun e w' => e = .returned (.int .i64 (sR1 x)) ∧ w = w' from fun w => few x 7 w h0 h1 (by omega) (by omega))
  have HW2 := hid (show ∀ w, Calls Try.prog 47 #[.int .u32 x, .int .i64 2] w fun e w' => e = .returned (.int .i64 (sR2 x)) ∧ w = w' from fun w => few x 2 w h0 h1 (by omega) (by omega))
  have hk : 0 ≤ fld x 10 2 ∧ fld x 10 2 < 4 := fld_bd x 10 2
  have ho : 0 ≤ fld x 12 1 ∧ fld x 12 1 < 2 := fld_bd x 12 1
  have hs : 0 ≤ fld x 2 5 ∧ fld x 2 5 < 32 := fld_bd x 2 5
  have hj : 0 ≤ fld x 5 2 ∧ fld x 5 2 < 4 := fld_bd x 5 2
  have hq : Hid (qSums x = if fld x 10 2 = 2 then ⟨24, sR1 x, sR1 x, 0, sN6 x⟩ else if fld x 12 1 = 1 then .none else if fld x 10 2 = 0 then ⟨26, sR1 x, sR1 x, 0, fld x 2 5⟩ else if fld x 10 2 = 1 then ⟨27, sR1 x, sR1 x, 0, fld x 2 5⟩ else ⟨if fld x 5 2 = 0 then 29 else if fld x 5 2 = 1 then 33 else if fld x 5 2 = 2 then 36 else 37, sR1 x, sR1 x, sR2 x, 0⟩) := hid rfl
  generalize fld x 10 2 = k at *
  generalize fld x 12 1 = o at *
  generalize fld x 2 5 = s at *
  generalize fld x 5 2 = j at *
  generalize sN6 x = n at *
  generalize sR1 x = r1 at *
  generalize sR2 x = r2 at *
  obtain ⟨rfl, rfl, rfl⟩ := hc
  all_goals
    go_enter Try.func49, Try.ntmps49
    go_upto_region 1 with (fail)
    have HR := hid (Res.start w 23)
    generalize w.alloc (.cells #[.int .i64 0, .int .i64 0, .int .i64 0, .int .i64 0, .int .i32 0] 23) = w1 at *
    (try clear hbw zl c0 c1 c2 c3 c4 f0 f1 f2 f3 f4 five0 five1 five2 five3 five4); obtain ⟨hbw, zl, c0, c1, c2, c3, c4, f0, f1, f2, f3, f4⟩ := HR.out; obtain ⟨five0, five1, five2, five3, five4⟩ := S.five_ret c0 c1 c2 c3 c4
    go_wp2_with (first | (go_at_call 46; (with_reducible refine (HFs.out _).mono ?_); rintro e w' ⟨rfl, rfl⟩) | (go_at_call 46; (with_reducible refine (HFo.out _).mono ?_); rintro e w' ⟨rfl, rfl⟩) | (go_at_call 46; (with_reducible refine (HFk.out _).mono ?_); rintro e w' ⟨rfl, rfl⟩) | (go_at_call 46; (with_reducible refine (HFj.out _).mono ?_); rintro e w' ⟨rfl, rfl⟩) | (go_at_call 47; (with_reducible refine (HW7.out _).mono ?_); rintro e w' ⟨rfl, rfl⟩) | (go_at_call 47; (with_reducible refine (HW2.out _).mono ?_); rintro e w' ⟨rfl, rfl⟩))
    go_region_with ((first | (go_at_call 46; (with_reducible refine (HFs.out _).mono ?_); rintro e w' ⟨rfl, rfl⟩) | (go_at_call 46; (with_reducible refine (HFo.out _).mono ?_); rintro e w' ⟨rfl, rfl⟩) | (go_at_call 46; (with_reducible refine (HFk.out _).mono ?_); rintro e w' ⟨rfl, rfl⟩) | (go_at_call 46; (with_reducible refine (HFj.out _).mono ?_); rintro e w' ⟨rfl, rfl⟩) | (go_at_call 47; (with_reducible refine (HW7.out _).mono ?_); rintro e w' ⟨rfl, rfl⟩) | (go_at_call 47; (with_reducible refine (HW2.out _).mono ?_); rintro e w' ⟨rfl, rfl⟩)))
    all_goals
      obtain ⟨t0, t1, t2, t3, t4, hl2, hbF⟩ := five_all hbw zl c0 c1 c2 c3 c4 (.int .i64 37) (.int .i64 r1) (.int .i64 r1) (.int .i64 r2) (.int .i32 0)
      clear HR hbw zl c0 c1 c2 c3 c4 f0 f1 f2 f3 f4 five0 five1 five2 five3 five4 HFs HFo HFk HFj HW7 HW2
      generalize World.setCell _ ⟨w.heap.size, 4, none⟩ _ = wf at *
      have hnw : ∀ o j, (wf.alloc o).cell? ⟨w.heap.size, j, none⟩ = wf.cell? ⟨w.heap.size, j, none⟩ := fun o j => World.cell?_alloc_old _ _ _ (by show w.heap.size ≠ wf.heap.size; omega)
      go_wp2
      refine bodyPost_ret (v := .agg #[.int .i64 37, .int .i64 r1, .int .i64 r1, .int .i64 r2, .int .i32 0]) (by simp [results, Try.results49, go_sem, hnw, t0, t1, t2, t3, t4]; try rfl) rfl ⟨by rw [hq.out]; rfl, (by repeat' (first | (with_reducible exact Below.refl _ _) | (with_reducible assumption) | (with_reducible refine below_drewN ?_ _) | (with_reducible refine Below.alloc ?_ ?_ _) | (with_reducible refine Below.drew ?_) | (with_reducible refine Below.setCell ?_ ?_ _) | (with_reducible exact Below.size (by assumption)) | go_size))⟩
set_option maxHeartbeats 400000 in
theorem sums (x : Int) (w : World) (h0 : 0 ≤ x) (h1 : x < 4294967296) :
    Calls Try.prog 49 #[.int .u32 x, .int .i32 (sN6 x)] w fun e w' => e = .returned (qSums x).val ∧ Below w.heap.size w w' := by
  have hj : 0 ≤ fld x 5 2 ∧ fld x 5 2 < 4 := fld_bd x 5 2
  by_cases hne : fld x 10 2 = 3 ∧ fld x 12 1 = 0
  · have h : fld x 5 2 = 0 ∨ fld x 5 2 = 1 ∨ fld x 5 2 = 2 ∨ fld x 5 2 = 3 := by omega
    rcases h with h | h | h | h
    · exact sums0 x w h0 h1 ⟨hne.1, hne.2, h⟩
    · exact sums1 x w h0 h1 ⟨hne.1, hne.2, h⟩
    · exact sums2 x w h0 h1 ⟨hne.1, hne.2, h⟩
    · exact sums3 x w h0 h1 ⟨hne.1, hne.2, h⟩
  · exact sumsA x w h0 h1 hne
end Go.Proofs.Ytfecjdchgckjhaa.R5
