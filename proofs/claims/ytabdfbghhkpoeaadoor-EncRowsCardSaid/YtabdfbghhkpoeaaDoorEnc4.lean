/- What the functions of package enc compute: a word's number. -/
import Derived.Test.YtabdfbghhkpoeaaDoorEnc3
import Derived.Test.YtabdfbghhkpoeaaDoorWord
namespace Go.Proofs.YtabdfbghhkpoeaaDoor.E
set_option linter.unusedVariables false
set_option linter.unusedSimpArgs false
open Go.ChangeShapes Go.WideShapes Go.ChangeAt Go.RowKit Go.Proofs.YtabdfbghhkpoeaaDoor.P Go.Proofs.YtabdfbghhkpoeaaDoor.W

/-- the number that a word has, by the form -/
def readV (f v : Int) : Int :=
  if f = 1 then sgn (fld v 12 20 * 4096) 32 else if f = 2 then sgn (fld v 21 10 * 2 + fld v 20 1 * 2048 + fld v 12 8 * 4096 + fld v 31 1 * 1048576) 21 else if f = 3 then sgn (fld v 8 4 * 2 + fld v 25 6 * 32 + fld v 7 1 * 2048 + fld v 31 1 * 4096) 13 else if f = 4 then sgn (fld v 20 12) 12 else if f = 5 then sgn (fld v 7 5 + fld v 25 7 * 32) 12 else if f = 6 then sgn (fld v 20 12) 12 else if f = 7 then fld v 20 5 else 0
set_option maxHeartbeats 1000000 in
theorem read1 (v : Int) (w : World) (v0 : 0 ≤ v) (v1 : v < 4294967296) (hc : w.cell? ⟨1, 12, none⟩ = some (.int .i64 12) ∧ w.cell? ⟨1, 13, none⟩ = some (.int .i64 12) ∧ w.cell? ⟨1, 14, none⟩ = some (.int .i64 20) ∧ w.cell? ⟨1, 15, none⟩ = some (.int .i64 0) ∧ w.cell? ⟨1, 16, none⟩ = some (.int .i64 0) ∧ w.cell? ⟨1, 17, none⟩ = some (.int .i64 0) ∧ w.cell? ⟨1, 18, none⟩ = some (.int .i64 0) ∧ w.cell? ⟨1, 19, none⟩ = some (.int .i64 0) ∧ w.cell? ⟨1, 20, none⟩ = some (.int .i64 0) ∧ w.cell? ⟨1, 21, none⟩ = some (.int .i64 0) ∧ w.cell? ⟨1, 22, none⟩ = some (.int .i64 0) ∧ w.cell? ⟨1, 23, none⟩ = some (.int .i64 0)) (hw : w.cell? ⟨2, 1, none⟩ = some (.int .i64 32)) :
    Calls Tryd.prog 37 #[.int .i64 1, .int .u32 v] w fun e w' => e = .returned (.int .i32 (readV 1 v)) ∧ ∃ n, w' = w.drewN n := by
  obtain ⟨c0, c1, c2, c3, c4, c5, c6, c7, c8, c9, c10, c11⟩ := hc
  have ba : 0 ≤ fld v 12 20 ∧ fld v 12 20 < 1048576 := fld_bd v 12 20
  have hFa : ∀ w, Calls Tryd.prog 36 #[.int .u32 v, .int .i64 12, .int .i64 20] w fun e w' => e = .returned (.int .u32 (fld v 12 20)) ∧ ∃ n, w' = w.drewN n := fun w => W.Field v 12 20 w v0 v1
  have hFz : ∀ w, Calls Tryd.prog 36 #[.int .u32 v, .int .i64 0, .int .i64 0] w fun e w' => e = .returned (.int .u32 0) ∧ ∃ n, w' = w.drewN n := fun w => by
    have h := W.Field v 0 0 w v0 v1
    have e : fld v (max 0 0 : Int).toNat (held 0) = 0 := by
      have e0 : held 0 = 0 := by decide
      rw [e0, fld_zero]
    rw [e] at h; exact h
  have hv : Hid (readV 1 v = sgn (fld v 12 20 * 4096) 32) := hid (by simp [readV])
  have hh : held 32 = 32 := by decide
  replace hFa := hid hFa
  generalize fld v 12 20 = a at *
  replace hFz := hid hFz
  have z0 := or_zero (a * 4096) (by omega) (by omega)
  have zz := or_zero' (a * 4096) (by omega) (by omega)
  obtain ⟨ba0, ba1⟩ := ba
  have wr4 : IntKind.i64.wrap 4 = 4 := by decide
  have wr5 : IntKind.i64.wrap 5 = 5 := by decide
  have wr7 : IntKind.i64.wrap 7 = 7 := by decide
  have wr8 : IntKind.i64.wrap 8 = 8 := by decide
  have wr10 : IntKind.i64.wrap 10 = 10 := by decide
  have wr11 : IntKind.i64.wrap 11 = 11 := by decide
  go_enter Tryd.func37, Tryd.ntmps37
  go_wp2
  refine wp_loop_rounds 5 ?_
  rw [rounds_succ]
  go_wp2
  go_quiet ((first | (go_at_call 36; first | (with_reducible exact Calls.quiet_of (hFa.out _)) | (with_reducible exact quiet_more (hFa.out _))) | (go_at_call 36; first | (with_reducible exact Calls.quiet_of (hFz.out _)) | (with_reducible exact quiet_more (hFz.out _)))))
  go_wp2
  rw [rounds_succ]
  go_wp2
  go_quiet ((first | (go_at_call 36; first | (with_reducible exact Calls.quiet_of (hFa.out _)) | (with_reducible exact quiet_more (hFa.out _))) | (go_at_call 36; first | (with_reducible exact Calls.quiet_of (hFz.out _)) | (with_reducible exact quiet_more (hFz.out _)))))
  go_wp2
  rw [rounds_succ]
  go_wp2
  go_quiet ((first | (go_at_call 36; first | (with_reducible exact Calls.quiet_of (hFa.out _)) | (with_reducible exact quiet_more (hFa.out _))) | (go_at_call 36; first | (with_reducible exact Calls.quiet_of (hFz.out _)) | (with_reducible exact quiet_more (hFz.out _)))))
  go_wp2
  rw [rounds_succ]
  go_wp2
  go_quiet ((first | (go_at_call 36; first | (with_reducible exact Calls.quiet_of (hFa.out _)) | (with_reducible exact quiet_more (hFa.out _))) | (go_at_call 36; first | (with_reducible exact Calls.quiet_of (hFz.out _)) | (with_reducible exact quiet_more (hFz.out _)))))
  go_wp2
  rw [rounds_succ]
  go_wp2_with (first | (go_at_call 51; refine (W.Sign _ _ _).mono ?_; rintro e w' ⟨rfl, rfl⟩))
  go_ret
  exact ⟨by rw [hv.out]; rfl, _, rfl⟩
set_option maxHeartbeats 1000000 in
theorem read2 (v : Int) (w : World) (v0 : 0 ≤ v) (v1 : v < 4294967296) (hc : w.cell? ⟨1, 24, none⟩ = some (.int .i64 21) ∧ w.cell? ⟨1, 25, none⟩ = some (.int .i64 1) ∧ w.cell? ⟨1, 26, none⟩ = some (.int .i64 10) ∧ w.cell? ⟨1, 27, none⟩ = some (.int .i64 20) ∧ w.cell? ⟨1, 28, none⟩ = some (.int .i64 11) ∧ w.cell? ⟨1, 29, none⟩ = some (.int .i64 1) ∧ w.cell? ⟨1, 30, none⟩ = some (.int .i64 12) ∧ w.cell? ⟨1, 31, none⟩ = some (.int .i64 12) ∧ w.cell? ⟨1, 32, none⟩ = some (.int .i64 8) ∧ w.cell? ⟨1, 33, none⟩ = some (.int .i64 31) ∧ w.cell? ⟨1, 34, none⟩ = some (.int .i64 20) ∧ w.cell? ⟨1, 35, none⟩ = some (.int .i64 1)) (hw : w.cell? ⟨2, 2, none⟩ = some (.int .i64 21)) :
    Calls Tryd.prog 37 #[.int .i64 2, .int .u32 v] w fun e w' => e = .returned (.int .i32 (readV 2 v)) ∧ ∃ n, w' = w.drewN n := by
  obtain ⟨c0, c1, c2, c3, c4, c5, c6, c7, c8, c9, c10, c11⟩ := hc
  have ba : 0 ≤ fld v 21 10 ∧ fld v 21 10 < 1024 := fld_bd v 21 10
  have hFa : ∀ w, Calls Tryd.prog 36 #[.int .u32 v, .int .i64 21, .int .i64 10] w fun e w' => e = .returned (.int .u32 (fld v 21 10)) ∧ ∃ n, w' = w.drewN n := fun w => W.Field v 21 10 w v0 v1
  have bb : 0 ≤ fld v 20 1 ∧ fld v 20 1 < 2 := fld_bd v 20 1
  have hFb : ∀ w, Calls Tryd.prog 36 #[.int .u32 v, .int .i64 20, .int .i64 1] w fun e w' => e = .returned (.int .u32 (fld v 20 1)) ∧ ∃ n, w' = w.drewN n := fun w => W.Field v 20 1 w v0 v1
  have bc : 0 ≤ fld v 12 8 ∧ fld v 12 8 < 256 := fld_bd v 12 8
  have hFc : ∀ w, Calls Tryd.prog 36 #[.int .u32 v, .int .i64 12, .int .i64 8] w fun e w' => e = .returned (.int .u32 (fld v 12 8)) ∧ ∃ n, w' = w.drewN n := fun w => W.Field v 12 8 w v0 v1
  have bd : 0 ≤ fld v 31 1 ∧ fld v 31 1 < 2 := fld_bd v 31 1
  have hFd : ∀ w, Calls Tryd.prog 36 #[.int .u32 v, .int .i64 31, .int .i64 1] w fun e w' => e = .returned (.int .u32 (fld v 31 1)) ∧ ∃ n, w' = w.drewN n := fun w => W.Field v 31 1 w v0 v1
  have hFz : ∀ w, Calls Tryd.prog 36 #[.int .u32 v, .int .i64 0, .int .i64 0] w fun e w' => e = .returned (.int .u32 0) ∧ ∃ n, w' = w.drewN n := fun w => by
    have h := W.Field v 0 0 w v0 v1
    have e : fld v (max 0 0 : Int).toNat (held 0) = 0 := by
      have e0 : held 0 = 0 := by decide
      rw [e0, fld_zero]
    rw [e] at h; exact h
  have hv : Hid (readV 2 v = sgn (fld v 21 10 * 2 + fld v 20 1 * 2048 + fld v 12 8 * 4096 + fld v 31 1 * 1048576) 21) := hid (by simp [readV])
  have hh : held 21 = 21 := by decide
  replace hFa := hid hFa
  generalize fld v 21 10 = a at *
  replace hFb := hid hFb
  generalize fld v 20 1 = b at *
  replace hFc := hid hFc
  generalize fld v 12 8 = c at *
  replace hFd := hid hFd
  generalize fld v 31 1 = d at *
  replace hFz := hid hFz
  have z0 := or_zero (a * 2) (by omega) (by omega)
  have s1 : bits .or .u32 (a * 2) (b * 2048) = a * 2 + b * 2048 := by
    have h := or_mid 0 b (a * 2) 11 1 (by omega) (by simp; omega) bb.1 (by simpa using bb.2) (by omega) (by simp; omega)
    simp at h
    rw [h]; omega
  have s2 : bits .or .u32 (a * 2 + b * 2048) (c * 4096) = a * 2 + b * 2048 + c * 4096 := by
    have h := or_mid 0 c (a * 2 + b * 2048) 12 8 (by omega) (by simp; omega) bc.1 (by simpa using bc.2) (by omega) (by simp; omega)
    simp at h
    rw [h]; omega
  have s3 : bits .or .u32 (a * 2 + b * 2048 + c * 4096) (d * 1048576) = a * 2 + b * 2048 + c * 4096 + d * 1048576 := by
    have h := or_mid 0 d (a * 2 + b * 2048 + c * 4096) 20 1 (by omega) (by simp; omega) bd.1 (by simpa using bd.2) (by omega) (by simp; omega)
    simp at h
    rw [h]; omega
  have zz := or_zero' (a * 2 + b * 2048 + c * 4096 + d * 1048576) (by omega) (by omega)
  obtain ⟨ba0, ba1⟩ := ba
  obtain ⟨bb0, bb1⟩ := bb
  obtain ⟨bc0, bc1⟩ := bc
  obtain ⟨bd0, bd1⟩ := bd
  have wr4 : IntKind.i64.wrap 4 = 4 := by decide
  have wr5 : IntKind.i64.wrap 5 = 5 := by decide
  have wr7 : IntKind.i64.wrap 7 = 7 := by decide
  have wr8 : IntKind.i64.wrap 8 = 8 := by decide
  have wr10 : IntKind.i64.wrap 10 = 10 := by decide
  have wr11 : IntKind.i64.wrap 11 = 11 := by decide
  go_enter Tryd.func37, Tryd.ntmps37
  go_wp2
  refine wp_loop_rounds 5 ?_
  rw [rounds_succ]
  go_wp2
  go_quiet ((first | (go_at_call 36; first | (with_reducible exact Calls.quiet_of (hFa.out _)) | (with_reducible exact quiet_more (hFa.out _))) | (go_at_call 36; first | (with_reducible exact Calls.quiet_of (hFb.out _)) | (with_reducible exact quiet_more (hFb.out _))) | (go_at_call 36; first | (with_reducible exact Calls.quiet_of (hFc.out _)) | (with_reducible exact quiet_more (hFc.out _))) | (go_at_call 36; first | (with_reducible exact Calls.quiet_of (hFd.out _)) | (with_reducible exact quiet_more (hFd.out _))) | (go_at_call 36; first | (with_reducible exact Calls.quiet_of (hFz.out _)) | (with_reducible exact quiet_more (hFz.out _)))))
  go_wp2
  rw [rounds_succ]
  go_wp2
  go_quiet ((first | (go_at_call 36; first | (with_reducible exact Calls.quiet_of (hFa.out _)) | (with_reducible exact quiet_more (hFa.out _))) | (go_at_call 36; first | (with_reducible exact Calls.quiet_of (hFb.out _)) | (with_reducible exact quiet_more (hFb.out _))) | (go_at_call 36; first | (with_reducible exact Calls.quiet_of (hFc.out _)) | (with_reducible exact quiet_more (hFc.out _))) | (go_at_call 36; first | (with_reducible exact Calls.quiet_of (hFd.out _)) | (with_reducible exact quiet_more (hFd.out _))) | (go_at_call 36; first | (with_reducible exact Calls.quiet_of (hFz.out _)) | (with_reducible exact quiet_more (hFz.out _)))))
  go_wp2
  rw [rounds_succ]
  go_wp2
  go_quiet ((first | (go_at_call 36; first | (with_reducible exact Calls.quiet_of (hFa.out _)) | (with_reducible exact quiet_more (hFa.out _))) | (go_at_call 36; first | (with_reducible exact Calls.quiet_of (hFb.out _)) | (with_reducible exact quiet_more (hFb.out _))) | (go_at_call 36; first | (with_reducible exact Calls.quiet_of (hFc.out _)) | (with_reducible exact quiet_more (hFc.out _))) | (go_at_call 36; first | (with_reducible exact Calls.quiet_of (hFd.out _)) | (with_reducible exact quiet_more (hFd.out _))) | (go_at_call 36; first | (with_reducible exact Calls.quiet_of (hFz.out _)) | (with_reducible exact quiet_more (hFz.out _)))))
  go_wp2
  rw [rounds_succ]
  go_wp2
  go_quiet ((first | (go_at_call 36; first | (with_reducible exact Calls.quiet_of (hFa.out _)) | (with_reducible exact quiet_more (hFa.out _))) | (go_at_call 36; first | (with_reducible exact Calls.quiet_of (hFb.out _)) | (with_reducible exact quiet_more (hFb.out _))) | (go_at_call 36; first | (with_reducible exact Calls.quiet_of (hFc.out _)) | (with_reducible exact quiet_more (hFc.out _))) | (go_at_call 36; first | (with_reducible exact Calls.quiet_of (hFd.out _)) | (with_reducible exact quiet_more (hFd.out _))) | (go_at_call 36; first | (with_reducible exact Calls.quiet_of (hFz.out _)) | (with_reducible exact quiet_more (hFz.out _)))))
  go_wp2
  rw [rounds_succ]
  go_wp2_with (first | (go_at_call 51; refine (W.Sign _ _ _).mono ?_; rintro e w' ⟨rfl, rfl⟩))
  go_ret
  exact ⟨by rw [hv.out]; rfl, _, rfl⟩
set_option maxHeartbeats 1000000 in
theorem read3 (v : Int) (w : World) (v0 : 0 ≤ v) (v1 : v < 4294967296) (hc : w.cell? ⟨1, 36, none⟩ = some (.int .i64 8) ∧ w.cell? ⟨1, 37, none⟩ = some (.int .i64 1) ∧ w.cell? ⟨1, 38, none⟩ = some (.int .i64 4) ∧ w.cell? ⟨1, 39, none⟩ = some (.int .i64 25) ∧ w.cell? ⟨1, 40, none⟩ = some (.int .i64 5) ∧ w.cell? ⟨1, 41, none⟩ = some (.int .i64 6) ∧ w.cell? ⟨1, 42, none⟩ = some (.int .i64 7) ∧ w.cell? ⟨1, 43, none⟩ = some (.int .i64 11) ∧ w.cell? ⟨1, 44, none⟩ = some (.int .i64 1) ∧ w.cell? ⟨1, 45, none⟩ = some (.int .i64 31) ∧ w.cell? ⟨1, 46, none⟩ = some (.int .i64 12) ∧ w.cell? ⟨1, 47, none⟩ = some (.int .i64 1)) (hw : w.cell? ⟨2, 3, none⟩ = some (.int .i64 13)) :
    Calls Tryd.prog 37 #[.int .i64 3, .int .u32 v] w fun e w' => e = .returned (.int .i32 (readV 3 v)) ∧ ∃ n, w' = w.drewN n := by
  obtain ⟨c0, c1, c2, c3, c4, c5, c6, c7, c8, c9, c10, c11⟩ := hc
  have ba : 0 ≤ fld v 8 4 ∧ fld v 8 4 < 16 := fld_bd v 8 4
  have hFa : ∀ w, Calls Tryd.prog 36 #[.int .u32 v, .int .i64 8, .int .i64 4] w fun e w' => e = .returned (.int .u32 (fld v 8 4)) ∧ ∃ n, w' = w.drewN n := fun w => W.Field v 8 4 w v0 v1
  have bb : 0 ≤ fld v 25 6 ∧ fld v 25 6 < 64 := fld_bd v 25 6
  have hFb : ∀ w, Calls Tryd.prog 36 #[.int .u32 v, .int .i64 25, .int .i64 6] w fun e w' => e = .returned (.int .u32 (fld v 25 6)) ∧ ∃ n, w' = w.drewN n := fun w => W.Field v 25 6 w v0 v1
  have bc : 0 ≤ fld v 7 1 ∧ fld v 7 1 < 2 := fld_bd v 7 1
  have hFc : ∀ w, Calls Tryd.prog 36 #[.int .u32 v, .int .i64 7, .int .i64 1] w fun e w' => e = .returned (.int .u32 (fld v 7 1)) ∧ ∃ n, w' = w.drewN n := fun w => W.Field v 7 1 w v0 v1
  have bd : 0 ≤ fld v 31 1 ∧ fld v 31 1 < 2 := fld_bd v 31 1
  have hFd : ∀ w, Calls Tryd.prog 36 #[.int .u32 v, .int .i64 31, .int .i64 1] w fun e w' => e = .returned (.int .u32 (fld v 31 1)) ∧ ∃ n, w' = w.drewN n := fun w => W.Field v 31 1 w v0 v1
  have hFz : ∀ w, Calls Tryd.prog 36 #[.int .u32 v, .int .i64 0, .int .i64 0] w fun e w' => e = .returned (.int .u32 0) ∧ ∃ n, w' = w.drewN n := fun w => by
    have h := W.Field v 0 0 w v0 v1
    have e : fld v (max 0 0 : Int).toNat (held 0) = 0 := by
      have e0 : held 0 = 0 := by decide
      rw [e0, fld_zero]
    rw [e] at h; exact h
  have hv : Hid (readV 3 v = sgn (fld v 8 4 * 2 + fld v 25 6 * 32 + fld v 7 1 * 2048 + fld v 31 1 * 4096) 13) := hid (by simp [readV])
  have hh : held 13 = 13 := by decide
  replace hFa := hid hFa
  generalize fld v 8 4 = a at *
  replace hFb := hid hFb
  generalize fld v 25 6 = b at *
  replace hFc := hid hFc
  generalize fld v 7 1 = c at *
  replace hFd := hid hFd
  generalize fld v 31 1 = d at *
  replace hFz := hid hFz
  have z0 := or_zero (a * 2) (by omega) (by omega)
  have s1 : bits .or .u32 (a * 2) (b * 32) = a * 2 + b * 32 := by
    have h := or_mid 0 b (a * 2) 5 6 (by omega) (by simp; omega) bb.1 (by simpa using bb.2) (by omega) (by simp; omega)
    simp at h
    rw [h]; omega
  have s2 : bits .or .u32 (a * 2 + b * 32) (c * 2048) = a * 2 + b * 32 + c * 2048 := by
    have h := or_mid 0 c (a * 2 + b * 32) 11 1 (by omega) (by simp; omega) bc.1 (by simpa using bc.2) (by omega) (by simp; omega)
    simp at h
    rw [h]; omega
  have s3 : bits .or .u32 (a * 2 + b * 32 + c * 2048) (d * 4096) = a * 2 + b * 32 + c * 2048 + d * 4096 := by
    have h := or_mid 0 d (a * 2 + b * 32 + c * 2048) 12 1 (by omega) (by simp; omega) bd.1 (by simpa using bd.2) (by omega) (by simp; omega)
    simp at h
    rw [h]; omega
  have zz := or_zero' (a * 2 + b * 32 + c * 2048 + d * 4096) (by omega) (by omega)
  obtain ⟨ba0, ba1⟩ := ba
  obtain ⟨bb0, bb1⟩ := bb
  obtain ⟨bc0, bc1⟩ := bc
  obtain ⟨bd0, bd1⟩ := bd
  have wr4 : IntKind.i64.wrap 4 = 4 := by decide
  have wr5 : IntKind.i64.wrap 5 = 5 := by decide
  have wr7 : IntKind.i64.wrap 7 = 7 := by decide
  have wr8 : IntKind.i64.wrap 8 = 8 := by decide
  have wr10 : IntKind.i64.wrap 10 = 10 := by decide
  have wr11 : IntKind.i64.wrap 11 = 11 := by decide
  go_enter Tryd.func37, Tryd.ntmps37
  go_wp2
  refine wp_loop_rounds 5 ?_
  rw [rounds_succ]
  go_wp2
  go_quiet ((first | (go_at_call 36; first | (with_reducible exact Calls.quiet_of (hFa.out _)) | (with_reducible exact quiet_more (hFa.out _))) | (go_at_call 36; first | (with_reducible exact Calls.quiet_of (hFb.out _)) | (with_reducible exact quiet_more (hFb.out _))) | (go_at_call 36; first | (with_reducible exact Calls.quiet_of (hFc.out _)) | (with_reducible exact quiet_more (hFc.out _))) | (go_at_call 36; first | (with_reducible exact Calls.quiet_of (hFd.out _)) | (with_reducible exact quiet_more (hFd.out _))) | (go_at_call 36; first | (with_reducible exact Calls.quiet_of (hFz.out _)) | (with_reducible exact quiet_more (hFz.out _)))))
  go_wp2
  rw [rounds_succ]
  go_wp2
  go_quiet ((first | (go_at_call 36; first | (with_reducible exact Calls.quiet_of (hFa.out _)) | (with_reducible exact quiet_more (hFa.out _))) | (go_at_call 36; first | (with_reducible exact Calls.quiet_of (hFb.out _)) | (with_reducible exact quiet_more (hFb.out _))) | (go_at_call 36; first | (with_reducible exact Calls.quiet_of (hFc.out _)) | (with_reducible exact quiet_more (hFc.out _))) | (go_at_call 36; first | (with_reducible exact Calls.quiet_of (hFd.out _)) | (with_reducible exact quiet_more (hFd.out _))) | (go_at_call 36; first | (with_reducible exact Calls.quiet_of (hFz.out _)) | (with_reducible exact quiet_more (hFz.out _)))))
  go_wp2
  rw [rounds_succ]
  go_wp2
  go_quiet ((first | (go_at_call 36; first | (with_reducible exact Calls.quiet_of (hFa.out _)) | (with_reducible exact quiet_more (hFa.out _))) | (go_at_call 36; first | (with_reducible exact Calls.quiet_of (hFb.out _)) | (with_reducible exact quiet_more (hFb.out _))) | (go_at_call 36; first | (with_reducible exact Calls.quiet_of (hFc.out _)) | (with_reducible exact quiet_more (hFc.out _))) | (go_at_call 36; first | (with_reducible exact Calls.quiet_of (hFd.out _)) | (with_reducible exact quiet_more (hFd.out _))) | (go_at_call 36; first | (with_reducible exact Calls.quiet_of (hFz.out _)) | (with_reducible exact quiet_more (hFz.out _)))))
  go_wp2
  rw [rounds_succ]
  go_wp2
  go_quiet ((first | (go_at_call 36; first | (with_reducible exact Calls.quiet_of (hFa.out _)) | (with_reducible exact quiet_more (hFa.out _))) | (go_at_call 36; first | (with_reducible exact Calls.quiet_of (hFb.out _)) | (with_reducible exact quiet_more (hFb.out _))) | (go_at_call 36; first | (with_reducible exact Calls.quiet_of (hFc.out _)) | (with_reducible exact quiet_more (hFc.out _))) | (go_at_call 36; first | (with_reducible exact Calls.quiet_of (hFd.out _)) | (with_reducible exact quiet_more (hFd.out _))) | (go_at_call 36; first | (with_reducible exact Calls.quiet_of (hFz.out _)) | (with_reducible exact quiet_more (hFz.out _)))))
  go_wp2
  rw [rounds_succ]
  go_wp2_with (first | (go_at_call 51; refine (W.Sign _ _ _).mono ?_; rintro e w' ⟨rfl, rfl⟩))
  go_ret
  exact ⟨by rw [hv.out]; rfl, _, rfl⟩
set_option maxHeartbeats 1000000 in
theorem read4 (v : Int) (w : World) (v0 : 0 ≤ v) (v1 : v < 4294967296) (hc : w.cell? ⟨1, 48, none⟩ = some (.int .i64 20) ∧ w.cell? ⟨1, 49, none⟩ = some (.int .i64 0) ∧ w.cell? ⟨1, 50, none⟩ = some (.int .i64 12) ∧ w.cell? ⟨1, 51, none⟩ = some (.int .i64 0) ∧ w.cell? ⟨1, 52, none⟩ = some (.int .i64 0) ∧ w.cell? ⟨1, 53, none⟩ = some (.int .i64 0) ∧ w.cell? ⟨1, 54, none⟩ = some (.int .i64 0) ∧ w.cell? ⟨1, 55, none⟩ = some (.int .i64 0) ∧ w.cell? ⟨1, 56, none⟩ = some (.int .i64 0) ∧ w.cell? ⟨1, 57, none⟩ = some (.int .i64 0) ∧ w.cell? ⟨1, 58, none⟩ = some (.int .i64 0) ∧ w.cell? ⟨1, 59, none⟩ = some (.int .i64 0)) (hw : w.cell? ⟨2, 4, none⟩ = some (.int .i64 12)) :
    Calls Tryd.prog 37 #[.int .i64 4, .int .u32 v] w fun e w' => e = .returned (.int .i32 (readV 4 v)) ∧ ∃ n, w' = w.drewN n := by
  obtain ⟨c0, c1, c2, c3, c4, c5, c6, c7, c8, c9, c10, c11⟩ := hc
  have ba : 0 ≤ fld v 20 12 ∧ fld v 20 12 < 4096 := fld_bd v 20 12
  have hFa : ∀ w, Calls Tryd.prog 36 #[.int .u32 v, .int .i64 20, .int .i64 12] w fun e w' => e = .returned (.int .u32 (fld v 20 12)) ∧ ∃ n, w' = w.drewN n := fun w => W.Field v 20 12 w v0 v1
  have hFz : ∀ w, Calls Tryd.prog 36 #[.int .u32 v, .int .i64 0, .int .i64 0] w fun e w' => e = .returned (.int .u32 0) ∧ ∃ n, w' = w.drewN n := fun w => by
    have h := W.Field v 0 0 w v0 v1
    have e : fld v (max 0 0 : Int).toNat (held 0) = 0 := by
      have e0 : held 0 = 0 := by decide
      rw [e0, fld_zero]
    rw [e] at h; exact h
  have hv : Hid (readV 4 v = sgn (fld v 20 12) 12) := hid (by simp [readV])
  have hh : held 12 = 12 := by decide
  replace hFa := hid hFa
  generalize fld v 20 12 = a at *
  replace hFz := hid hFz
  have z0 := or_zero (a) (by omega) (by omega)
  have zz := or_zero' (a) (by omega) (by omega)
  obtain ⟨ba0, ba1⟩ := ba
  have wr4 : IntKind.i64.wrap 4 = 4 := by decide
  have wr5 : IntKind.i64.wrap 5 = 5 := by decide
  have wr7 : IntKind.i64.wrap 7 = 7 := by decide
  have wr8 : IntKind.i64.wrap 8 = 8 := by decide
  have wr10 : IntKind.i64.wrap 10 = 10 := by decide
  have wr11 : IntKind.i64.wrap 11 = 11 := by decide
  go_enter Tryd.func37, Tryd.ntmps37
  go_wp2
  refine wp_loop_rounds 5 ?_
  rw [rounds_succ]
  go_wp2
  go_quiet ((first | (go_at_call 36; first | (with_reducible exact Calls.quiet_of (hFa.out _)) | (with_reducible exact quiet_more (hFa.out _))) | (go_at_call 36; first | (with_reducible exact Calls.quiet_of (hFz.out _)) | (with_reducible exact quiet_more (hFz.out _)))))
  go_wp2
  rw [rounds_succ]
  go_wp2
  go_quiet ((first | (go_at_call 36; first | (with_reducible exact Calls.quiet_of (hFa.out _)) | (with_reducible exact quiet_more (hFa.out _))) | (go_at_call 36; first | (with_reducible exact Calls.quiet_of (hFz.out _)) | (with_reducible exact quiet_more (hFz.out _)))))
  go_wp2
  rw [rounds_succ]
  go_wp2
  go_quiet ((first | (go_at_call 36; first | (with_reducible exact Calls.quiet_of (hFa.out _)) | (with_reducible exact quiet_more (hFa.out _))) | (go_at_call 36; first | (with_reducible exact Calls.quiet_of (hFz.out _)) | (with_reducible exact quiet_more (hFz.out _)))))
  go_wp2
  rw [rounds_succ]
  go_wp2
  go_quiet ((first | (go_at_call 36; first | (with_reducible exact Calls.quiet_of (hFa.out _)) | (with_reducible exact quiet_more (hFa.out _))) | (go_at_call 36; first | (with_reducible exact Calls.quiet_of (hFz.out _)) | (with_reducible exact quiet_more (hFz.out _)))))
  go_wp2
  rw [rounds_succ]
  go_wp2_with (first | (go_at_call 51; refine (W.Sign _ _ _).mono ?_; rintro e w' ⟨rfl, rfl⟩))
  go_ret
  exact ⟨by rw [hv.out]; rfl, _, rfl⟩
set_option maxHeartbeats 1000000 in
theorem read5 (v : Int) (w : World) (v0 : 0 ≤ v) (v1 : v < 4294967296) (hc : w.cell? ⟨1, 60, none⟩ = some (.int .i64 7) ∧ w.cell? ⟨1, 61, none⟩ = some (.int .i64 0) ∧ w.cell? ⟨1, 62, none⟩ = some (.int .i64 5) ∧ w.cell? ⟨1, 63, none⟩ = some (.int .i64 25) ∧ w.cell? ⟨1, 64, none⟩ = some (.int .i64 5) ∧ w.cell? ⟨1, 65, none⟩ = some (.int .i64 7) ∧ w.cell? ⟨1, 66, none⟩ = some (.int .i64 0) ∧ w.cell? ⟨1, 67, none⟩ = some (.int .i64 0) ∧ w.cell? ⟨1, 68, none⟩ = some (.int .i64 0) ∧ w.cell? ⟨1, 69, none⟩ = some (.int .i64 0) ∧ w.cell? ⟨1, 70, none⟩ = some (.int .i64 0) ∧ w.cell? ⟨1, 71, none⟩ = some (.int .i64 0)) (hw : w.cell? ⟨2, 5, none⟩ = some (.int .i64 12)) :
    Calls Tryd.prog 37 #[.int .i64 5, .int .u32 v] w fun e w' => e = .returned (.int .i32 (readV 5 v)) ∧ ∃ n, w' = w.drewN n := by
  obtain ⟨c0, c1, c2, c3, c4, c5, c6, c7, c8, c9, c10, c11⟩ := hc
  have ba : 0 ≤ fld v 7 5 ∧ fld v 7 5 < 32 := fld_bd v 7 5
  have hFa : ∀ w, Calls Tryd.prog 36 #[.int .u32 v, .int .i64 7, .int .i64 5] w fun e w' => e = .returned (.int .u32 (fld v 7 5)) ∧ ∃ n, w' = w.drewN n := fun w => W.Field v 7 5 w v0 v1
  have bb : 0 ≤ fld v 25 7 ∧ fld v 25 7 < 128 := fld_bd v 25 7
  have hFb : ∀ w, Calls Tryd.prog 36 #[.int .u32 v, .int .i64 25, .int .i64 7] w fun e w' => e = .returned (.int .u32 (fld v 25 7)) ∧ ∃ n, w' = w.drewN n := fun w => W.Field v 25 7 w v0 v1
  have hFz : ∀ w, Calls Tryd.prog 36 #[.int .u32 v, .int .i64 0, .int .i64 0] w fun e w' => e = .returned (.int .u32 0) ∧ ∃ n, w' = w.drewN n := fun w => by
    have h := W.Field v 0 0 w v0 v1
    have e : fld v (max 0 0 : Int).toNat (held 0) = 0 := by
      have e0 : held 0 = 0 := by decide
      rw [e0, fld_zero]
    rw [e] at h; exact h
  have hv : Hid (readV 5 v = sgn (fld v 7 5 + fld v 25 7 * 32) 12) := hid (by simp [readV])
  have hh : held 12 = 12 := by decide
  replace hFa := hid hFa
  generalize fld v 7 5 = a at *
  replace hFb := hid hFb
  generalize fld v 25 7 = b at *
  replace hFz := hid hFz
  have z0 := or_zero (a) (by omega) (by omega)
  have s1 : bits .or .u32 (a) (b * 32) = a + b * 32 := by
    have h := or_mid 0 b (a) 5 7 (by omega) (by simp; omega) bb.1 (by simpa using bb.2) (by omega) (by simp; omega)
    simp at h
    rw [h]; omega
  have zz := or_zero' (a + b * 32) (by omega) (by omega)
  obtain ⟨ba0, ba1⟩ := ba
  obtain ⟨bb0, bb1⟩ := bb
  have wr4 : IntKind.i64.wrap 4 = 4 := by decide
  have wr5 : IntKind.i64.wrap 5 = 5 := by decide
  have wr7 : IntKind.i64.wrap 7 = 7 := by decide
  have wr8 : IntKind.i64.wrap 8 = 8 := by decide
  have wr10 : IntKind.i64.wrap 10 = 10 := by decide
  have wr11 : IntKind.i64.wrap 11 = 11 := by decide
  go_enter Tryd.func37, Tryd.ntmps37
  go_wp2
  refine wp_loop_rounds 5 ?_
  rw [rounds_succ]
  go_wp2
  go_quiet ((first | (go_at_call 36; first | (with_reducible exact Calls.quiet_of (hFa.out _)) | (with_reducible exact quiet_more (hFa.out _))) | (go_at_call 36; first | (with_reducible exact Calls.quiet_of (hFb.out _)) | (with_reducible exact quiet_more (hFb.out _))) | (go_at_call 36; first | (with_reducible exact Calls.quiet_of (hFz.out _)) | (with_reducible exact quiet_more (hFz.out _)))))
  go_wp2
  rw [rounds_succ]
  go_wp2
  go_quiet ((first | (go_at_call 36; first | (with_reducible exact Calls.quiet_of (hFa.out _)) | (with_reducible exact quiet_more (hFa.out _))) | (go_at_call 36; first | (with_reducible exact Calls.quiet_of (hFb.out _)) | (with_reducible exact quiet_more (hFb.out _))) | (go_at_call 36; first | (with_reducible exact Calls.quiet_of (hFz.out _)) | (with_reducible exact quiet_more (hFz.out _)))))
  go_wp2
  rw [rounds_succ]
  go_wp2
  go_quiet ((first | (go_at_call 36; first | (with_reducible exact Calls.quiet_of (hFa.out _)) | (with_reducible exact quiet_more (hFa.out _))) | (go_at_call 36; first | (with_reducible exact Calls.quiet_of (hFb.out _)) | (with_reducible exact quiet_more (hFb.out _))) | (go_at_call 36; first | (with_reducible exact Calls.quiet_of (hFz.out _)) | (with_reducible exact quiet_more (hFz.out _)))))
  go_wp2
  rw [rounds_succ]
  go_wp2
  go_quiet ((first | (go_at_call 36; first | (with_reducible exact Calls.quiet_of (hFa.out _)) | (with_reducible exact quiet_more (hFa.out _))) | (go_at_call 36; first | (with_reducible exact Calls.quiet_of (hFb.out _)) | (with_reducible exact quiet_more (hFb.out _))) | (go_at_call 36; first | (with_reducible exact Calls.quiet_of (hFz.out _)) | (with_reducible exact quiet_more (hFz.out _)))))
  go_wp2
  rw [rounds_succ]
  go_wp2_with (first | (go_at_call 51; refine (W.Sign _ _ _).mono ?_; rintro e w' ⟨rfl, rfl⟩))
  go_ret
  exact ⟨by rw [hv.out]; rfl, _, rfl⟩
set_option maxHeartbeats 1000000 in
theorem read6 (v : Int) (w : World) (v0 : 0 ≤ v) (v1 : v < 4294967296) (hc : w.cell? ⟨1, 72, none⟩ = some (.int .i64 20) ∧ w.cell? ⟨1, 73, none⟩ = some (.int .i64 0) ∧ w.cell? ⟨1, 74, none⟩ = some (.int .i64 12) ∧ w.cell? ⟨1, 75, none⟩ = some (.int .i64 0) ∧ w.cell? ⟨1, 76, none⟩ = some (.int .i64 0) ∧ w.cell? ⟨1, 77, none⟩ = some (.int .i64 0) ∧ w.cell? ⟨1, 78, none⟩ = some (.int .i64 0) ∧ w.cell? ⟨1, 79, none⟩ = some (.int .i64 0) ∧ w.cell? ⟨1, 80, none⟩ = some (.int .i64 0) ∧ w.cell? ⟨1, 81, none⟩ = some (.int .i64 0) ∧ w.cell? ⟨1, 82, none⟩ = some (.int .i64 0) ∧ w.cell? ⟨1, 83, none⟩ = some (.int .i64 0)) (hw : w.cell? ⟨2, 6, none⟩ = some (.int .i64 12)) :
    Calls Tryd.prog 37 #[.int .i64 6, .int .u32 v] w fun e w' => e = .returned (.int .i32 (readV 6 v)) ∧ ∃ n, w' = w.drewN n := by
  obtain ⟨c0, c1, c2, c3, c4, c5, c6, c7, c8, c9, c10, c11⟩ := hc
  have ba : 0 ≤ fld v 20 12 ∧ fld v 20 12 < 4096 := fld_bd v 20 12
  have hFa : ∀ w, Calls Tryd.prog 36 #[.int .u32 v, .int .i64 20, .int .i64 12] w fun e w' => e = .returned (.int .u32 (fld v 20 12)) ∧ ∃ n, w' = w.drewN n := fun w => W.Field v 20 12 w v0 v1
  have hFz : ∀ w, Calls Tryd.prog 36 #[.int .u32 v, .int .i64 0, .int .i64 0] w fun e w' => e = .returned (.int .u32 0) ∧ ∃ n, w' = w.drewN n := fun w => by
    have h := W.Field v 0 0 w v0 v1
    have e : fld v (max 0 0 : Int).toNat (held 0) = 0 := by
      have e0 : held 0 = 0 := by decide
      rw [e0, fld_zero]
    rw [e] at h; exact h
  have hv : Hid (readV 6 v = sgn (fld v 20 12) 12) := hid (by simp [readV])
  have hh : held 12 = 12 := by decide
  replace hFa := hid hFa
  generalize fld v 20 12 = a at *
  replace hFz := hid hFz
  have z0 := or_zero (a) (by omega) (by omega)
  have zz := or_zero' (a) (by omega) (by omega)
  obtain ⟨ba0, ba1⟩ := ba
  have wr4 : IntKind.i64.wrap 4 = 4 := by decide
  have wr5 : IntKind.i64.wrap 5 = 5 := by decide
  have wr7 : IntKind.i64.wrap 7 = 7 := by decide
  have wr8 : IntKind.i64.wrap 8 = 8 := by decide
  have wr10 : IntKind.i64.wrap 10 = 10 := by decide
  have wr11 : IntKind.i64.wrap 11 = 11 := by decide
  go_enter Tryd.func37, Tryd.ntmps37
  go_wp2
  refine wp_loop_rounds 5 ?_
  rw [rounds_succ]
  go_wp2
  go_quiet ((first | (go_at_call 36; first | (with_reducible exact Calls.quiet_of (hFa.out _)) | (with_reducible exact quiet_more (hFa.out _))) | (go_at_call 36; first | (with_reducible exact Calls.quiet_of (hFz.out _)) | (with_reducible exact quiet_more (hFz.out _)))))
  go_wp2
  rw [rounds_succ]
  go_wp2
  go_quiet ((first | (go_at_call 36; first | (with_reducible exact Calls.quiet_of (hFa.out _)) | (with_reducible exact quiet_more (hFa.out _))) | (go_at_call 36; first | (with_reducible exact Calls.quiet_of (hFz.out _)) | (with_reducible exact quiet_more (hFz.out _)))))
  go_wp2
  rw [rounds_succ]
  go_wp2
  go_quiet ((first | (go_at_call 36; first | (with_reducible exact Calls.quiet_of (hFa.out _)) | (with_reducible exact quiet_more (hFa.out _))) | (go_at_call 36; first | (with_reducible exact Calls.quiet_of (hFz.out _)) | (with_reducible exact quiet_more (hFz.out _)))))
  go_wp2
  rw [rounds_succ]
  go_wp2
  go_quiet ((first | (go_at_call 36; first | (with_reducible exact Calls.quiet_of (hFa.out _)) | (with_reducible exact quiet_more (hFa.out _))) | (go_at_call 36; first | (with_reducible exact Calls.quiet_of (hFz.out _)) | (with_reducible exact quiet_more (hFz.out _)))))
  go_wp2
  rw [rounds_succ]
  go_wp2_with (first | (go_at_call 51; refine (W.Sign _ _ _).mono ?_; rintro e w' ⟨rfl, rfl⟩))
  go_ret
  exact ⟨by rw [hv.out]; rfl, _, rfl⟩
set_option maxHeartbeats 1000000 in
theorem read7 (v : Int) (w : World) (v0 : 0 ≤ v) (v1 : v < 4294967296) (hc : w.cell? ⟨1, 84, none⟩ = some (.int .i64 20) ∧ w.cell? ⟨1, 85, none⟩ = some (.int .i64 0) ∧ w.cell? ⟨1, 86, none⟩ = some (.int .i64 5) ∧ w.cell? ⟨1, 87, none⟩ = some (.int .i64 0) ∧ w.cell? ⟨1, 88, none⟩ = some (.int .i64 0) ∧ w.cell? ⟨1, 89, none⟩ = some (.int .i64 0) ∧ w.cell? ⟨1, 90, none⟩ = some (.int .i64 0) ∧ w.cell? ⟨1, 91, none⟩ = some (.int .i64 0) ∧ w.cell? ⟨1, 92, none⟩ = some (.int .i64 0) ∧ w.cell? ⟨1, 93, none⟩ = some (.int .i64 0) ∧ w.cell? ⟨1, 94, none⟩ = some (.int .i64 0) ∧ w.cell? ⟨1, 95, none⟩ = some (.int .i64 0)) (hw : w.cell? ⟨2, 7, none⟩ = some (.int .i64 0)) :
    Calls Tryd.prog 37 #[.int .i64 7, .int .u32 v] w fun e w' => e = .returned (.int .i32 (readV 7 v)) ∧ ∃ n, w' = w.drewN n := by
  obtain ⟨c0, c1, c2, c3, c4, c5, c6, c7, c8, c9, c10, c11⟩ := hc
  have ba : 0 ≤ fld v 20 5 ∧ fld v 20 5 < 32 := fld_bd v 20 5
  have hFa : ∀ w, Calls Tryd.prog 36 #[.int .u32 v, .int .i64 20, .int .i64 5] w fun e w' => e = .returned (.int .u32 (fld v 20 5)) ∧ ∃ n, w' = w.drewN n := fun w => W.Field v 20 5 w v0 v1
  have hFz : ∀ w, Calls Tryd.prog 36 #[.int .u32 v, .int .i64 0, .int .i64 0] w fun e w' => e = .returned (.int .u32 0) ∧ ∃ n, w' = w.drewN n := fun w => by
    have h := W.Field v 0 0 w v0 v1
    have e : fld v (max 0 0 : Int).toNat (held 0) = 0 := by
      have e0 : held 0 = 0 := by decide
      rw [e0, fld_zero]
    rw [e] at h; exact h
  have hv : Hid (readV 7 v = fld v 20 5) := hid (by simp [readV])
  replace hFa := hid hFa
  generalize fld v 20 5 = a at *
  replace hFz := hid hFz
  have z0 := or_zero (a) (by omega) (by omega)
  have zz := or_zero' (a) (by omega) (by omega)
  obtain ⟨ba0, ba1⟩ := ba
  have wr4 : IntKind.i64.wrap 4 = 4 := by decide
  have wr5 : IntKind.i64.wrap 5 = 5 := by decide
  have wr7 : IntKind.i64.wrap 7 = 7 := by decide
  have wr8 : IntKind.i64.wrap 8 = 8 := by decide
  have wr10 : IntKind.i64.wrap 10 = 10 := by decide
  have wr11 : IntKind.i64.wrap 11 = 11 := by decide
  go_enter Tryd.func37, Tryd.ntmps37
  go_wp2
  refine wp_loop_rounds 5 ?_
  rw [rounds_succ]
  go_wp2
  go_quiet ((first | (go_at_call 36; first | (with_reducible exact Calls.quiet_of (hFa.out _)) | (with_reducible exact quiet_more (hFa.out _))) | (go_at_call 36; first | (with_reducible exact Calls.quiet_of (hFz.out _)) | (with_reducible exact quiet_more (hFz.out _)))))
  go_wp2
  rw [rounds_succ]
  go_wp2
  go_quiet ((first | (go_at_call 36; first | (with_reducible exact Calls.quiet_of (hFa.out _)) | (with_reducible exact quiet_more (hFa.out _))) | (go_at_call 36; first | (with_reducible exact Calls.quiet_of (hFz.out _)) | (with_reducible exact quiet_more (hFz.out _)))))
  go_wp2
  rw [rounds_succ]
  go_wp2
  go_quiet ((first | (go_at_call 36; first | (with_reducible exact Calls.quiet_of (hFa.out _)) | (with_reducible exact quiet_more (hFa.out _))) | (go_at_call 36; first | (with_reducible exact Calls.quiet_of (hFz.out _)) | (with_reducible exact quiet_more (hFz.out _)))))
  go_wp2
  rw [rounds_succ]
  go_wp2
  go_quiet ((first | (go_at_call 36; first | (with_reducible exact Calls.quiet_of (hFa.out _)) | (with_reducible exact quiet_more (hFa.out _))) | (go_at_call 36; first | (with_reducible exact Calls.quiet_of (hFz.out _)) | (with_reducible exact quiet_more (hFz.out _)))))
  go_wp2
  rw [rounds_succ]
  go_wp2_with (first | (go_at_call 51; refine (W.Sign _ _ _).mono ?_; rintro e w' ⟨rfl, rfl⟩))
  go_ret
  exact ⟨by rw [hv.out]; rfl, _, rfl⟩
end Go.Proofs.YtabdfbghhkpoeaaDoor.E
