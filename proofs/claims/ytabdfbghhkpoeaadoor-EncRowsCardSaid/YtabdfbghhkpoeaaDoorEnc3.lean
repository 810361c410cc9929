/- What the functions of package enc compute: a number's bits in a word. -/
import Derived.Test.YtabdfbghhkpoeaaDoorEncW
import Derived.Test.YtabdfbghhkpoeaaDoorWord
namespace Go.Proofs.YtabdfbghhkpoeaaDoor.E
set_option linter.unusedVariables false
set_option linter.unusedSimpArgs false
open Go.ChangeShapes Go.WideShapes Go.ChangeAt Go.RowKit Go.Proofs.YtabdfbghhkpoeaaDoor.P Go.Proofs.YtabdfbghhkpoeaaDoor.W

/-- a quiet call behind a quiet region -/
theorem quiet_more {P : Program} {f : FuncId} {args : Array Value} {w : World} {a n : Nat} {v : Value}
    (h : Calls P f args (w.drewN (a + n)) fun e w' => e = .returned v ∧ ∃ m, w' = (w.drewN (a + n)).drewN m) :
    Calls P f args (w.drewN (a + n)) fun e w'' => e = .returned v ∧ ∃ m, w'' = w.drewN (a + m) :=
  h.mono fun _ _ ⟨he, m, hm⟩ => ⟨he, n + m, by rw [hm, World.drewN_drewN, Nat.add_assoc]⟩
set_option maxHeartbeats 1000000 in
theorem laid1 (v : Int) (w : World) (v0 : 0 ≤ v) (v1 : v < 4294967296) (hc : w.cell? ⟨1, 12, none⟩ = some (.int .i64 12) ∧ w.cell? ⟨1, 13, none⟩ = some (.int .i64 12) ∧ w.cell? ⟨1, 14, none⟩ = some (.int .i64 20) ∧ w.cell? ⟨1, 15, none⟩ = some (.int .i64 0) ∧ w.cell? ⟨1, 16, none⟩ = some (.int .i64 0) ∧ w.cell? ⟨1, 17, none⟩ = some (.int .i64 0) ∧ w.cell? ⟨1, 18, none⟩ = some (.int .i64 0) ∧ w.cell? ⟨1, 19, none⟩ = some (.int .i64 0) ∧ w.cell? ⟨1, 20, none⟩ = some (.int .i64 0) ∧ w.cell? ⟨1, 21, none⟩ = some (.int .i64 0) ∧ w.cell? ⟨1, 22, none⟩ = some (.int .i64 0) ∧ w.cell? ⟨1, 23, none⟩ = some (.int .i64 0)) :
    Calls Tryd.prog 20 #[.int .i64 1, .int .u32 v] w fun e w' => e = .returned (.int .u32 (laidV 1 v)) ∧ ∃ n, w' = w.drewN n := by
  obtain ⟨c0, c1, c2, c3, c4, c5, c6, c7, c8, c9, c10, c11⟩ := hc
  have ba : 0 ≤ fld v 12 20 ∧ fld v 12 20 < 1048576 := fld_bd v 12 20
  have hFa : ∀ w, Calls Tryd.prog 36 #[.int .u32 v, .int .i64 12, .int .i64 20] w fun e w' => e = .returned (.int .u32 (fld v 12 20)) ∧ ∃ n, w' = w.drewN n := fun w => W.Field v 12 20 w v0 v1
  have hFz : ∀ w, Calls Tryd.prog 36 #[.int .u32 v, .int .i64 0, .int .i64 0] w fun e w' => e = .returned (.int .u32 0) ∧ ∃ n, w' = w.drewN n := fun w => by
    have h := W.Field v 0 0 w v0 v1
    have e : fld v (max 0 0 : Int).toNat (held 0) = 0 := by
      have e0 : held 0 = 0 := by decide
      rw [e0, fld_zero]
    rw [e] at h; exact h
  have hv : Hid (laidV 1 v = fld v 12 20 * 4096) := hid (by simp [laidV])
  replace hFa := hid hFa
  generalize fld v 12 20 = a at *
  replace hFz := hid hFz
  have z0 := or_zero (a * 4096) (by omega) (by omega)
  have zz := or_zero' (a * 4096) (by omega) (by omega)
  obtain ⟨ba0, ba1⟩ := ba
  have wr4 : IntKind.i64.wrap 4 = 4 := by decide
  have wr5 : IntKind.i64.wrap 5 = 5 := by decide
  have wr7 : IntKind.i64.wrap 7 = 7 := by decide
  have wr8 : IntKind.i64.wrap 8 = 8 := by decide
  have wr10 : IntKind.i64.wrap 10 = 10 := by decide
  have wr11 : IntKind.i64.wrap 11 = 11 := by decide
  go_enter Tryd.func20, Tryd.ntmps20
  go_wp2
  refine wp_loop_rounds 5 ?_
  rw [rounds_succ]
  go_wp2
  go_quiet ((first | (go_at_call 36; first | (with_reducible exact Calls.quiet_of (hFa.out _)) | (with_reducible exact quiet_more (hFa.out _))) | (go_at_call 36; first | (with_reducible exact Calls.quiet_of (hFz.out _)) | (with_reducible exact quiet_more (hFz.out _)))))
  go_wp2
  rw [rounds_succ]
  go_wp2
  go_quiet ((first | (go_at_call 36; first | (with_reducible exact Calls.quiet_of (hFa.out _)) | (with_reducible exact quiet_more (hFa.out _))) | (go_at_call 36; first | (with_reducible exact Calls.quiet_of (hFz.out _)) | (with_reducible exact quiet_more (hFz.out _)))))
  go_wp2
  rw [rounds_succ]
  go_wp2
  go_quiet ((first | (go_at_call 36; first | (with_reducible exact Calls.quiet_of (hFa.out _)) | (with_reducible exact quiet_more (hFa.out _))) | (go_at_call 36; first | (with_reducible exact Calls.quiet_of (hFz.out _)) | (with_reducible exact quiet_more (hFz.out _)))))
  go_wp2
  rw [rounds_succ]
  go_wp2
  go_quiet ((first | (go_at_call 36; first | (with_reducible exact Calls.quiet_of (hFa.out _)) | (with_reducible exact quiet_more (hFa.out _))) | (go_at_call 36; first | (with_reducible exact Calls.quiet_of (hFz.out _)) | (with_reducible exact quiet_more (hFz.out _)))))
  go_wp2
  rw [rounds_succ]
  go_wp2
  go_ret
  exact ⟨by rw [hv.out]; rfl, _, rfl⟩
set_option maxHeartbeats 1000000 in
theorem laid2 (v : Int) (w : World) (v0 : 0 ≤ v) (v1 : v < 4294967296) (hc : w.cell? ⟨1, 24, none⟩ = some (.int .i64 21) ∧ w.cell? ⟨1, 25, none⟩ = some (.int .i64 1) ∧ w.cell? ⟨1, 26, none⟩ = some (.int .i64 10) ∧ w.cell? ⟨1, 27, none⟩ = some (.int .i64 20) ∧ w.cell? ⟨1, 28, none⟩ = some (.int .i64 11) ∧ w.cell? ⟨1, 29, none⟩ = some (.int .i64 1) ∧ w.cell? ⟨1, 30, none⟩ = some (.int .i64 12) ∧ w.cell? ⟨1, 31, none⟩ = some (.int .i64 12) ∧ w.cell? ⟨1, 32, none⟩ = some (.int .i64 8) ∧ w.cell? ⟨1, 33, none⟩ = some (.int .i64 31) ∧ w.cell? ⟨1, 34, none⟩ = some (.int .i64 20) ∧ w.cell? ⟨1, 35, none⟩ = some (.int .i64 1)) :
    Calls Tryd.prog 20 #[.int .i64 2, .int .u32 v] w fun e w' => e = .returned (.int .u32 (laidV 2 v)) ∧ ∃ n, w' = w.drewN n := by
  obtain ⟨c0, c1, c2, c3, c4, c5, c6, c7, c8, c9, c10, c11⟩ := hc
  have ba : 0 ≤ fld v 1 10 ∧ fld v 1 10 < 1024 := fld_bd v 1 10
  have hFa : ∀ w, Calls Tryd.prog 36 #[.int .u32 v, .int .i64 1, .int .i64 10] w fun e w' => e = .returned (.int .u32 (fld v 1 10)) ∧ ∃ n, w' = w.drewN n := fun w => W.Field v 1 10 w v0 v1
  have bb : 0 ≤ fld v 11 1 ∧ fld v 11 1 < 2 := fld_bd v 11 1
  have hFb : ∀ w, Calls Tryd.prog 36 #[.int .u32 v, .int .i64 11, .int .i64 1] w fun e w' => e = .returned (.int .u32 (fld v 11 1)) ∧ ∃ n, w' = w.drewN n := fun w => W.Field v 11 1 w v0 v1
  have bc : 0 ≤ fld v 12 8 ∧ fld v 12 8 < 256 := fld_bd v 12 8
  have hFc : ∀ w, Calls Tryd.prog 36 #[.int .u32 v, .int .i64 12, .int .i64 8] w fun e w' => e = .returned (.int .u32 (fld v 12 8)) ∧ ∃ n, w' = w.drewN n := fun w => W.Field v 12 8 w v0 v1
  have bd : 0 ≤ fld v 20 1 ∧ fld v 20 1 < 2 := fld_bd v 20 1
  have hFd : ∀ w, Calls Tryd.prog 36 #[.int .u32 v, .int .i64 20, .int .i64 1] w fun e w' => e = .returned (.int .u32 (fld v 20 1)) ∧ ∃ n, w' = w.drewN n := fun w => W.Field v 20 1 w v0 v1
  have hFz : ∀ w, Calls Tryd.prog 36 #[.int .u32 v, .int .i64 0, .int .i64 0] w fun e w' => e = .returned (.int .u32 0) ∧ ∃ n, w' = w.drewN n := fun w => by
    have h := W.Field v 0 0 w v0 v1
    have e : fld v (max 0 0 : Int).toNat (held 0) = 0 := by
      have e0 : held 0 = 0 := by decide
      rw [e0, fld_zero]
    rw [e] at h; exact h
  have hv : Hid (laidV 2 v = fld v 1 10 * 2097152 + fld v 11 1 * 1048576 + fld v 12 8 * 4096 + fld v 20 1 * 2147483648) := hid (by simp [laidV])
  replace hFa := hid hFa
  generalize fld v 1 10 = a at *
  replace hFb := hid hFb
  generalize fld v 11 1 = b at *
  replace hFc := hid hFc
  generalize fld v 12 8 = c at *
  replace hFd := hid hFd
  generalize fld v 20 1 = d at *
  replace hFz := hid hFz
  obtain ⟨s1, s2, s3⟩ := jump_steps a b c d ba bb bc bd
  have z0 := or_zero (a * 2097152) (by omega) (by omega)
  have zz := or_zero' (a * 2097152 + b * 1048576 + c * 4096 + d * 2147483648) (by omega) (by omega)
  obtain ⟨ba0, ba1⟩ := ba
  obtain ⟨bb0, bb1⟩ := bb
  obtain ⟨bc0, bc1⟩ := bc
  obtain ⟨bd0, bd1⟩ := bd
  have wr4 : IntKind.i64.wrap 4 = 4 := by decide
  have wr5 : IntKind.i64.wrap 5 = 5 := by decide
  have wr7 : IntKind.i64.wrap 7 = 7 := by decide
  have wr8 : IntKind.i64.wrap 8 = 8 := by decide
  have wr10 : IntKind.i64.wrap 10 = 10 := by decide
  have wr11 : IntKind.i64.wrap 11 = 11 := by decide
  go_enter Tryd.func20, Tryd.ntmps20
  go_wp2
  refine wp_loop_rounds 5 ?_
  rw [rounds_succ]
  go_wp2
  go_quiet ((first | (go_at_call 36; first | (with_reducible exact Calls.quiet_of (hFa.out _)) | (with_reducible exact quiet_more (hFa.out _))) | (go_at_call 36; first | (with_reducible exact Calls.quiet_of (hFb.out _)) | (with_reducible exact quiet_more (hFb.out _))) | (go_at_call 36; first | (with_reducible exact Calls.quiet_of (hFc.out _)) | (with_reducible exact quiet_more (hFc.out _))) | (go_at_call 36; first | (with_reducible exact Calls.quiet_of (hFd.out _)) | (with_reducible exact quiet_more (hFd.out _))) | (go_at_call 36; first | (with_reducible exact Calls.quiet_of (hFz.out _)) | (with_reducible exact quiet_more (hFz.out _)))))
  go_wp2
  rw [rounds_succ]
  go_wp2
  go_quiet ((first | (go_at_call 36; first | (with_reducible exact Calls.quiet_of (hFa.out _)) | (with_reducible exact quiet_more (hFa.out _))) | (go_at_call 36; first | (with_reducible exact Calls.quiet_of (hFb.out _)) | (with_reducible exact quiet_more (hFb.out _))) | (go_at_call 36; first | (with_reducible exact Calls.quiet_of (hFc.out _)) | (with_reducible exact quiet_more (hFc.out _))) | (go_at_call 36; first | (with_reducible exact Calls.quiet_of (hFd.out _)) | (with_reducible exact quiet_more (hFd.out _))) | (go_at_call 36; first | (with_reducible exact Calls.quiet_of (hFz.out _)) | (with_reducible exact quiet_more (hFz.out _)))))
  go_wp2
  rw [rounds_succ]
  go_wp2
  go_quiet ((first | (go_at_call 36; first | (with_reducible exact Calls.quiet_of (hFa.out _)) | (with_reducible exact quiet_more (hFa.out _))) | (go_at_call 36; first | (with_reducible exact Calls.quiet_of (hFb.out _)) | (with_reducible exact quiet_more (hFb.out _))) | (go_at_call 36; first | (with_reducible exact Calls.quiet_of (hFc.out _)) | (with_reducible exact quiet_more (hFc.out _))) | (go_at_call 36; first | (with_reducible exact Calls.quiet_of (hFd.out _)) | (with_reducible exact quiet_more (hFd.out _))) | (go_at_call 36; first | (with_reducible exact Calls.quiet_of (hFz.out _)) | (with_reducible exact quiet_more (hFz.out _)))))
  go_wp2
  rw [rounds_succ]
  go_wp2
  go_quiet ((first | (go_at_call 36; first | (with_reducible exact Calls.quiet_of (hFa.out _)) | (with_reducible exact quiet_more (hFa.out _))) | (go_at_call 36; first | (with_reducible exact Calls.quiet_of (hFb.out _)) | (with_reducible exact quiet_more (hFb.out _))) | (go_at_call 36; first | (with_reducible exact Calls.quiet_of (hFc.out _)) | (with_reducible exact quiet_more (hFc.out _))) | (go_at_call 36; first | (with_reducible exact Calls.quiet_of (hFd.out _)) | (with_reducible exact quiet_more (hFd.out _))) | (go_at_call 36; first | (with_reducible exact Calls.quiet_of (hFz.out _)) | (with_reducible exact quiet_more (hFz.out _)))))
  go_wp2
  rw [rounds_succ]
  go_wp2
  go_ret
  exact ⟨by rw [hv.out]; rfl, _, rfl⟩
set_option maxHeartbeats 1000000 in
theorem laid3 (v : Int) (w : World) (v0 : 0 ≤ v) (v1 : v < 4294967296) (hc : w.cell? ⟨1, 36, none⟩ = some (.int .i64 8) ∧ w.cell? ⟨1, 37, none⟩ = some (.int .i64 1) ∧ w.cell? ⟨1, 38, none⟩ = some (.int .i64 4) ∧ w.cell? ⟨1, 39, none⟩ = some (.int .i64 25) ∧ w.cell? ⟨1, 40, none⟩ = some (.int .i64 5) ∧ w.cell? ⟨1, 41, none⟩ = some (.int .i64 6) ∧ w.cell? ⟨1, 42, none⟩ = some (.int .i64 7) ∧ w.cell? ⟨1, 43, none⟩ = some (.int .i64 11) ∧ w.cell? ⟨1, 44, none⟩ = some (.int .i64 1) ∧ w.cell? ⟨1, 45, none⟩ = some (.int .i64 31) ∧ w.cell? ⟨1, 46, none⟩ = some (.int .i64 12) ∧ w.cell? ⟨1, 47, none⟩ = some (.int .i64 1)) :
    Calls Tryd.prog 20 #[.int .i64 3, .int .u32 v] w fun e w' => e = .returned (.int .u32 (laidV 3 v)) ∧ ∃ n, w' = w.drewN n := by
  obtain ⟨c0, c1, c2, c3, c4, c5, c6, c7, c8, c9, c10, c11⟩ := hc
  have ba : 0 ≤ fld v 1 4 ∧ fld v 1 4 < 16 := fld_bd v 1 4
  have hFa : ∀ w, Calls Tryd.prog 36 #[.int .u32 v, .int .i64 1, .int .i64 4] w fun e w' => e = .returned (.int .u32 (fld v 1 4)) ∧ ∃ n, w' = w.drewN n := fun w => W.Field v 1 4 w v0 v1
  have bb : 0 ≤ fld v 5 6 ∧ fld v 5 6 < 64 := fld_bd v 5 6
  have hFb : ∀ w, Calls Tryd.prog 36 #[.int .u32 v, .int .i64 5, .int .i64 6] w fun e w' => e = .returned (.int .u32 (fld v 5 6)) ∧ ∃ n, w' = w.drewN n := fun w => W.Field v 5 6 w v0 v1
  have bc : 0 ≤ fld v 11 1 ∧ fld v 11 1 < 2 := fld_bd v 11 1
  have hFc : ∀ w, Calls Tryd.prog 36 #[.int .u32 v, .int .i64 11, .int .i64 1] w fun e w' => e = .returned (.int .u32 (fld v 11 1)) ∧ ∃ n, w' = w.drewN n := fun w => W.Field v 11 1 w v0 v1
  have bd : 0 ≤ fld v 12 1 ∧ fld v 12 1 < 2 := fld_bd v 12 1
  have hFd : ∀ w, Calls Tryd.prog 36 #[.int .u32 v, .int .i64 12, .int .i64 1] w fun e w' => e = .returned (.int .u32 (fld v 12 1)) ∧ ∃ n, w' = w.drewN n := fun w => W.Field v 12 1 w v0 v1
  have hFz : ∀ w, Calls Tryd.prog 36 #[.int .u32 v, .int .i64 0, .int .i64 0] w fun e w' => e = .returned (.int .u32 0) ∧ ∃ n, w' = w.drewN n := fun w => by
    have h := W.Field v 0 0 w v0 v1
    have e : fld v (max 0 0 : Int).toNat (held 0) = 0 := by
      have e0 : held 0 = 0 := by decide
      rw [e0, fld_zero]
    rw [e] at h; exact h
  have hv : Hid (laidV 3 v = fld v 1 4 * 256 + fld v 5 6 * 33554432 + fld v 11 1 * 128 + fld v 12 1 * 2147483648) := hid (by simp [laidV])
  replace hFa := hid hFa
  generalize fld v 1 4 = a at *
  replace hFb := hid hFb
  generalize fld v 5 6 = b at *
  replace hFc := hid hFc
  generalize fld v 11 1 = c at *
  replace hFd := hid hFd
  generalize fld v 12 1 = d at *
  replace hFz := hid hFz
  obtain ⟨s1, s2, s3⟩ := branch_steps a b c d ba bb bc bd
  have z0 := or_zero (a * 256) (by omega) (by omega)
  have zz := or_zero' (a * 256 + b * 33554432 + c * 128 + d * 2147483648) (by omega) (by omega)
  obtain ⟨ba0, ba1⟩ := ba
  obtain ⟨bb0, bb1⟩ := bb
  obtain ⟨bc0, bc1⟩ := bc
  obtain ⟨bd0, bd1⟩ := bd
  have wr4 : IntKind.i64.wrap 4 = 4 := by decide
  have wr5 : IntKind.i64.wrap 5 = 5 := by decide
  have wr7 : IntKind.i64.wrap 7 = 7 := by decide
  have wr8 : IntKind.i64.wrap 8 = 8 := by decide
  have wr10 : IntKind.i64.wrap 10 = 10 := by decide
  have wr11 : IntKind.i64.wrap 11 = 11 := by decide
  go_enter Tryd.func20, Tryd.ntmps20
  go_wp2
  refine wp_loop_rounds 5 ?_
  rw [rounds_succ]
  go_wp2
  go_quiet ((first | (go_at_call 36; first | (with_reducible exact Calls.quiet_of (hFa.out _)) | (with_reducible exact quiet_more (hFa.out _))) | (go_at_call 36; first | (with_reducible exact Calls.quiet_of (hFb.out _)) | (with_reducible exact quiet_more (hFb.out _))) | (go_at_call 36; first | (with_reducible exact Calls.quiet_of (hFc.out _)) | (with_reducible exact quiet_more (hFc.out _))) | (go_at_call 36; first | (with_reducible exact Calls.quiet_of (hFd.out _)) | (with_reducible exact quiet_more (hFd.out _))) | (go_at_call 36; first | (with_reducible exact Calls.quiet_of (hFz.out _)) | (with_reducible exact quiet_more (hFz.out _)))))
  go_wp2
  rw [rounds_succ]
  go_wp2
  go_quiet ((first | (go_at_call 36; first | (with_reducible exact Calls.quiet_of (hFa.out _)) | (with_reducible exact quiet_more (hFa.out _))) | (go_at_call 36; first | (with_reducible exact Calls.quiet_of (hFb.out _)) | (with_reducible exact quiet_more (hFb.out _))) | (go_at_call 36; first | (with_reducible exact Calls.quiet_of (hFc.out _)) | (with_reducible exact quiet_more (hFc.out _))) | (go_at_call 36; first | (with_reducible exact Calls.quiet_of (hFd.out _)) | (with_reducible exact quiet_more (hFd.out _))) | (go_at_call 36; first | (with_reducible exact Calls.quiet_of (hFz.out _)) | (with_reducible exact quiet_more (hFz.out _)))))
  go_wp2
  rw [rounds_succ]
  go_wp2
  go_quiet ((first | (go_at_call 36; first | (with_reducible exact Calls.quiet_of (hFa.out _)) | (with_reducible exact quiet_more (hFa.out _))) | (go_at_call 36; first | (with_reducible exact Calls.quiet_of (hFb.out _)) | (with_reducible exact quiet_more (hFb.out _))) | (go_at_call 36; first | (with_reducible exact Calls.quiet_of (hFc.out _)) | (with_reducible exact quiet_more (hFc.out _))) | (go_at_call 36; first | (with_reducible exact Calls.quiet_of (hFd.out _)) | (with_reducible exact quiet_more (hFd.out _))) | (go_at_call 36; first | (with_reducible exact Calls.quiet_of (hFz.out _)) | (with_reducible exact quiet_more (hFz.out _)))))
  go_wp2
  rw [rounds_succ]
  go_wp2
  go_quiet ((first | (go_at_call 36; first | (with_reducible exact Calls.quiet_of (hFa.out _)) | (with_reducible exact quiet_more (hFa.out _))) | (go_at_call 36; first | (with_reducible exact Calls.quiet_of (hFb.out _)) | (with_reducible exact quiet_more (hFb.out _))) | (go_at_call 36; first | (with_reducible exact Calls.quiet_of (hFc.out _)) | (with_reducible exact quiet_more (hFc.out _))) | (go_at_call 36; first | (with_reducible exact Calls.quiet_of (hFd.out _)) | (with_reducible exact quiet_more (hFd.out _))) | (go_at_call 36; first | (with_reducible exact Calls.quiet_of (hFz.out _)) | (with_reducible exact quiet_more (hFz.out _)))))
  go_wp2
  rw [rounds_succ]
  go_wp2
  go_ret
  exact ⟨by rw [hv.out]; rfl, _, rfl⟩
set_option maxHeartbeats 1000000 in
theorem laid4 (v : Int) (w : World) (v0 : 0 ≤ v) (v1 : v < 4294967296) (hc : w.cell? ⟨1, 48, none⟩ = some (.int .i64 20) ∧ w.cell? ⟨1, 49, none⟩ = some (.int .i64 0) ∧ w.cell? ⟨1, 50, none⟩ = some (.int .i64 12) ∧ w.cell? ⟨1, 51, none⟩ = some (.int .i64 0) ∧ w.cell? ⟨1, 52, none⟩ = some (.int .i64 0) ∧ w.cell? ⟨1, 53, none⟩ = some (.int .i64 0) ∧ w.cell? ⟨1, 54, none⟩ = some (.int .i64 0) ∧ w.cell? ⟨1, 55, none⟩ = some (.int .i64 0) ∧ w.cell? ⟨1, 56, none⟩ = some (.int .i64 0) ∧ w.cell? ⟨1, 57, none⟩ = some (.int .i64 0) ∧ w.cell? ⟨1, 58, none⟩ = some (.int .i64 0) ∧ w.cell? ⟨1, 59, none⟩ = some (.int .i64 0)) :
    Calls Tryd.prog 20 #[.int .i64 4, .int .u32 v] w fun e w' => e = .returned (.int .u32 (laidV 4 v)) ∧ ∃ n, w' = w.drewN n := by
  obtain ⟨c0, c1, c2, c3, c4, c5, c6, c7, c8, c9, c10, c11⟩ := hc
  have ba : 0 ≤ fld v 0 12 ∧ fld v 0 12 < 4096 := fld_bd v 0 12
  have hFa : ∀ w, Calls Tryd.prog 36 #[.int .u32 v, .int .i64 0, .int .i64 12] w fun e w' => e = .returned (.int .u32 (fld v 0 12)) ∧ ∃ n, w' = w.drewN n := fun w => W.Field v 0 12 w v0 v1
  have hFz : ∀ w, Calls Tryd.prog 36 #[.int .u32 v, .int .i64 0, .int .i64 0] w fun e w' => e = .returned (.int .u32 0) ∧ ∃ n, w' = w.drewN n := fun w => by
    have h := W.Field v 0 0 w v0 v1
    have e : fld v (max 0 0 : Int).toNat (held 0) = 0 := by
      have e0 : held 0 = 0 := by decide
      rw [e0, fld_zero]
    rw [e] at h; exact h
  have hv : Hid (laidV 4 v = fld v 0 12 * 1048576) := hid (by simp [laidV])
  replace hFa := hid hFa
  generalize fld v 0 12 = a at *
  replace hFz := hid hFz
  have z0 := or_zero (a * 1048576) (by omega) (by omega)
  have zz := or_zero' (a * 1048576) (by omega) (by omega)
  obtain ⟨ba0, ba1⟩ := ba
  have wr4 : IntKind.i64.wrap 4 = 4 := by decide
  have wr5 : IntKind.i64.wrap 5 = 5 := by decide
  have wr7 : IntKind.i64.wrap 7 = 7 := by decide
  have wr8 : IntKind.i64.wrap 8 = 8 := by decide
  have wr10 : IntKind.i64.wrap 10 = 10 := by decide
  have wr11 : IntKind.i64.wrap 11 = 11 := by decide
  go_enter Tryd.func20, Tryd.ntmps20
  go_wp2
  refine wp_loop_rounds 5 ?_
  rw [rounds_succ]
  go_wp2
  go_quiet ((first | (go_at_call 36; first | (with_reducible exact Calls.quiet_of (hFa.out _)) | (with_reducible exact quiet_more (hFa.out _))) | (go_at_call 36; first | (with_reducible exact Calls.quiet_of (hFz.out _)) | (with_reducible exact quiet_more (hFz.out _)))))
  go_wp2
  rw [rounds_succ]
  go_wp2
  go_quiet ((first | (go_at_call 36; first | (with_reducible exact Calls.quiet_of (hFa.out _)) | (with_reducible exact quiet_more (hFa.out _))) | (go_at_call 36; first | (with_reducible exact Calls.quiet_of (hFz.out _)) | (with_reducible exact quiet_more (hFz.out _)))))
  go_wp2
  rw [rounds_succ]
  go_wp2
  go_quiet ((first | (go_at_call 36; first | (with_reducible exact Calls.quiet_of (hFa.out _)) | (with_reducible exact quiet_more (hFa.out _))) | (go_at_call 36; first | (with_reducible exact Calls.quiet_of (hFz.out _)) | (with_reducible exact quiet_more (hFz.out _)))))
  go_wp2
  rw [rounds_succ]
  go_wp2
  go_quiet ((first | (go_at_call 36; first | (with_reducible exact Calls.quiet_of (hFa.out _)) | (with_reducible exact quiet_more (hFa.out _))) | (go_at_call 36; first | (with_reducible exact Calls.quiet_of (hFz.out _)) | (with_reducible exact quiet_more (hFz.out _)))))
  go_wp2
  rw [rounds_succ]
  go_wp2
  go_ret
  exact ⟨by rw [hv.out]; rfl, _, rfl⟩
set_option maxHeartbeats 1000000 in
theorem laid5 (v : Int) (w : World) (v0 : 0 ≤ v) (v1 : v < 4294967296) (hc : w.cell? ⟨1, 60, none⟩ = some (.int .i64 7) ∧ w.cell? ⟨1, 61, none⟩ = some (.int .i64 0) ∧ w.cell? ⟨1, 62, none⟩ = some (.int .i64 5) ∧ w.cell? ⟨1, 63, none⟩ = some (.int .i64 25) ∧ w.cell? ⟨1, 64, none⟩ = some (.int .i64 5) ∧ w.cell? ⟨1, 65, none⟩ = some (.int .i64 7) ∧ w.cell? ⟨1, 66, none⟩ = some (.int .i64 0) ∧ w.cell? ⟨1, 67, none⟩ = some (.int .i64 0) ∧ w.cell? ⟨1, 68, none⟩ = some (.int .i64 0) ∧ w.cell? ⟨1, 69, none⟩ = some (.int .i64 0) ∧ w.cell? ⟨1, 70, none⟩ = some (.int .i64 0) ∧ w.cell? ⟨1, 71, none⟩ = some (.int .i64 0)) :
    Calls Tryd.prog 20 #[.int .i64 5, .int .u32 v] w fun e w' => e = .returned (.int .u32 (laidV 5 v)) ∧ ∃ n, w' = w.drewN n := by
  obtain ⟨c0, c1, c2, c3, c4, c5, c6, c7, c8, c9, c10, c11⟩ := hc
  have ba : 0 ≤ fld v 0 5 ∧ fld v 0 5 < 32 := fld_bd v 0 5
  have hFa : ∀ w, Calls Tryd.prog 36 #[.int .u32 v, .int .i64 0, .int .i64 5] w fun e w' => e = .returned (.int .u32 (fld v 0 5)) ∧ ∃ n, w' = w.drewN n := fun w => W.Field v 0 5 w v0 v1
  have bb : 0 ≤ fld v 5 7 ∧ fld v 5 7 < 128 := fld_bd v 5 7
  have hFb : ∀ w, Calls Tryd.prog 36 #[.int .u32 v, .int .i64 5, .int .i64 7] w fun e w' => e = .returned (.int .u32 (fld v 5 7)) ∧ ∃ n, w' = w.drewN n := fun w => W.Field v 5 7 w v0 v1
  have hFz : ∀ w, Calls Tryd.prog 36 #[.int .u32 v, .int .i64 0, .int .i64 0] w fun e w' => e = .returned (.int .u32 0) ∧ ∃ n, w' = w.drewN n := fun w => by
    have h := W.Field v 0 0 w v0 v1
    have e : fld v (max 0 0 : Int).toNat (held 0) = 0 := by
      have e0 : held 0 = 0 := by decide
      rw [e0, fld_zero]
    rw [e] at h; exact h
  have hv : Hid (laidV 5 v = fld v 0 5 * 128 + fld v 5 7 * 33554432) := hid (by simp [laidV])
  replace hFa := hid hFa
  generalize fld v 0 5 = a at *
  replace hFb := hid hFb
  generalize fld v 5 7 = b at *
  replace hFz := hid hFz
  have s1 := store_steps a b ba bb
  have z0 := or_zero (a * 128) (by omega) (by omega)
  have zz := or_zero' (a * 128 + b * 33554432) (by omega) (by omega)
  obtain ⟨ba0, ba1⟩ := ba
  obtain ⟨bb0, bb1⟩ := bb
  have wr4 : IntKind.i64.wrap 4 = 4 := by decide
  have wr5 : IntKind.i64.wrap 5 = 5 := by decide
  have wr7 : IntKind.i64.wrap 7 = 7 := by decide
  have wr8 : IntKind.i64.wrap 8 = 8 := by decide
  have wr10 : IntKind.i64.wrap 10 = 10 := by decide
  have wr11 : IntKind.i64.wrap 11 = 11 := by decide
  go_enter Tryd.func20, Tryd.ntmps20
  go_wp2
  refine wp_loop_rounds 5 ?_
  rw [rounds_succ]
  go_wp2
  go_quiet ((first | (go_at_call 36; first | (with_reducible exact Calls.quiet_of (hFa.out _)) | (with_reducible exact quiet_more (hFa.out _))) | (go_at_call 36; first | (with_reducible exact Calls.quiet_of (hFb.out _)) | (with_reducible exact quiet_more (hFb.out _))) | (go_at_call 36; first | (with_reducible exact Calls.quiet_of (hFz.out _)) | (with_reducible exact quiet_more (hFz.out _)))))
  go_wp2
  rw [rounds_succ]
  go_wp2
  go_quiet ((first | (go_at_call 36; first | (with_reducible exact Calls.quiet_of (hFa.out _)) | (with_reducible exact quiet_more (hFa.out _))) | (go_at_call 36; first | (with_reducible exact Calls.quiet_of (hFb.out _)) | (with_reducible exact quiet_more (hFb.out _))) | (go_at_call 36; first | (with_reducible exact Calls.quiet_of (hFz.out _)) | (with_reducible exact quiet_more (hFz.out _)))))
  go_wp2
  rw [rounds_succ]
  go_wp2
  go_quiet ((first | (go_at_call 36; first | (with_reducible exact Calls.quiet_of (hFa.out _)) | (with_reducible exact quiet_more (hFa.out _))) | (go_at_call 36; first | (with_reducible exact Calls.quiet_of (hFb.out _)) | (with_reducible exact quiet_more (hFb.out _))) | (go_at_call 36; first | (with_reducible exact Calls.quiet_of (hFz.out _)) | (with_reducible exact quiet_more (hFz.out _)))))
  go_wp2
  rw [rounds_succ]
  go_wp2
  go_quiet ((first | (go_at_call 36; first | (with_reducible exact Calls.quiet_of (hFa.out _)) | (with_reducible exact quiet_more (hFa.out _))) | (go_at_call 36; first | (with_reducible exact Calls.quiet_of (hFb.out _)) | (with_reducible exact quiet_more (hFb.out _))) | (go_at_call 36; first | (with_reducible exact Calls.quiet_of (hFz.out _)) | (with_reducible exact quiet_more (hFz.out _)))))
  go_wp2
  rw [rounds_succ]
  go_wp2
  go_ret
  exact ⟨by rw [hv.out]; rfl, _, rfl⟩
set_option maxHeartbeats 1000000 in
theorem laid6 (v : Int) (w : World) (v0 : 0 ≤ v) (v1 : v < 4294967296) (hc : w.cell? ⟨1, 72, none⟩ = some (.int .i64 20) ∧ w.cell? ⟨1, 73, none⟩ = some (.int .i64 0) ∧ w.cell? ⟨1, 74, none⟩ = some (.int .i64 12) ∧ w.cell? ⟨1, 75, none⟩ = some (.int .i64 0) ∧ w.cell? ⟨1, 76, none⟩ = some (.int .i64 0) ∧ w.cell? ⟨1, 77, none⟩ = some (.int .i64 0) ∧ w.cell? ⟨1, 78, none⟩ = some (.int .i64 0) ∧ w.cell? ⟨1, 79, none⟩ = some (.int .i64 0) ∧ w.cell? ⟨1, 80, none⟩ = some (.int .i64 0) ∧ w.cell? ⟨1, 81, none⟩ = some (.int .i64 0) ∧ w.cell? ⟨1, 82, none⟩ = some (.int .i64 0) ∧ w.cell? ⟨1, 83, none⟩ = some (.int .i64 0)) :
    Calls Tryd.prog 20 #[.int .i64 6, .int .u32 v] w fun e w' => e = .returned (.int .u32 (laidV 6 v)) ∧ ∃ n, w' = w.drewN n := by
  obtain ⟨c0, c1, c2, c3, c4, c5, c6, c7, c8, c9, c10, c11⟩ := hc
  have ba : 0 ≤ fld v 0 12 ∧ fld v 0 12 < 4096 := fld_bd v 0 12
  have hFa : ∀ w, Calls Tryd.prog 36 #[.int .u32 v, .int .i64 0, .int .i64 12] w fun e w' => e = .returned (.int .u32 (fld v 0 12)) ∧ ∃ n, w' = w.drewN n := fun w => W.Field v 0 12 w v0 v1
  have hFz : ∀ w, Calls Tryd.prog 36 #[.int .u32 v, .int .i64 0, .int .i64 0] w fun e w' => e = .returned (.int .u32 0) ∧ ∃ n, w' = w.drewN n := fun w => by
    have h := W.Field v 0 0 w v0 v1
    have e : fld v (max 0 0 : Int).toNat (held 0) = 0 := by
      have e0 : held 0 = 0 := by decide
      rw [e0, fld_zero]
    rw [e] at h; exact h
  have hv : Hid (laidV 6 v = fld v 0 12 * 1048576) := hid (by simp [laidV])
  replace hFa := hid hFa
  generalize fld v 0 12 = a at *
  replace hFz := hid hFz
  have z0 := or_zero (a * 1048576) (by omega) (by omega)
  have zz := or_zero' (a * 1048576) (by omega) (by omega)
  obtain ⟨ba0, ba1⟩ := ba
  have wr4 : IntKind.i64.wrap 4 = 4 := by decide
  have wr5 : IntKind.i64.wrap 5 = 5 := by decide
  have wr7 : IntKind.i64.wrap 7 = 7 := by decide
  have wr8 : IntKind.i64.wrap 8 = 8 := by decide
  have wr10 : IntKind.i64.wrap 10 = 10 := by decide
  have wr11 : IntKind.i64.wrap 11 = 11 := by decide
  go_enter Tryd.func20, Tryd.ntmps20
  go_wp2
  refine wp_loop_rounds 5 ?_
  rw [rounds_succ]
  go_wp2
  go_quiet ((first | (go_at_call 36; first | (with_reducible exact Calls.quiet_of (hFa.out _)) | (with_reducible exact quiet_more (hFa.out _))) | (go_at_call 36; first | (with_reducible exact Calls.quiet_of (hFz.out _)) | (with_reducible exact quiet_more (hFz.out _)))))
  go_wp2
  rw [rounds_succ]
  go_wp2
  go_quiet ((first | (go_at_call 36; first | (with_reducible exact Calls.quiet_of (hFa.out _)) | (with_reducible exact quiet_more (hFa.out _))) | (go_at_call 36; first | (with_reducible exact Calls.quiet_of (hFz.out _)) | (with_reducible exact quiet_more (hFz.out _)))))
  go_wp2
  rw [rounds_succ]
  go_wp2
  go_quiet ((first | (go_at_call 36; first | (with_reducible exact Calls.quiet_of (hFa.out _)) | (with_reducible exact quiet_more (hFa.out _))) | (go_at_call 36; first | (with_reducible exact Calls.quiet_of (hFz.out _)) | (with_reducible exact quiet_more (hFz.out _)))))
  go_wp2
  rw [rounds_succ]
  go_wp2
  go_quiet ((first | (go_at_call 36; first | (with_reducible exact Calls.quiet_of (hFa.out _)) | (with_reducible exact quiet_more (hFa.out _))) | (go_at_call 36; first | (with_reducible exact Calls.quiet_of (hFz.out _)) | (with_reducible exact quiet_more (hFz.out _)))))
  go_wp2
  rw [rounds_succ]
  go_wp2
  go_ret
  exact ⟨by rw [hv.out]; rfl, _, rfl⟩
set_option maxHeartbeats 1000000 in
theorem laid7 (v : Int) (w : World) (v0 : 0 ≤ v) (v1 : v < 4294967296) (hc : w.cell? ⟨1, 84, none⟩ = some (.int .i64 20) ∧ w.cell? ⟨1, 85, none⟩ = some (.int .i64 0) ∧ w.cell? ⟨1, 86, none⟩ = some (.int .i64 5) ∧ w.cell? ⟨1, 87, none⟩ = some (.int .i64 0) ∧ w.cell? ⟨1, 88, none⟩ = some (.int .i64 0) ∧ w.cell? ⟨1, 89, none⟩ = some (.int .i64 0) ∧ w.cell? ⟨1, 90, none⟩ = some (.int .i64 0) ∧ w.cell? ⟨1, 91, none⟩ = some (.int .i64 0) ∧ w.cell? ⟨1, 92, none⟩ = some (.int .i64 0) ∧ w.cell? ⟨1, 93, none⟩ = some (.int .i64 0) ∧ w.cell? ⟨1, 94, none⟩ = some (.int .i64 0) ∧ w.cell? ⟨1, 95, none⟩ = some (.int .i64 0)) :
    Calls Tryd.prog 20 #[.int .i64 7, .int .u32 v] w fun e w' => e = .returned (.int .u32 (laidV 7 v)) ∧ ∃ n, w' = w.drewN n := by
  obtain ⟨c0, c1, c2, c3, c4, c5, c6, c7, c8, c9, c10, c11⟩ := hc
  have ba : 0 ≤ fld v 0 5 ∧ fld v 0 5 < 32 := fld_bd v 0 5
  have hFa : ∀ w, Calls Tryd.prog 36 #[.int .u32 v, .int .i64 0, .int .i64 5] w fun e w' => e = .returned (.int .u32 (fld v 0 5)) ∧ ∃ n, w' = w.drewN n := fun w => W.Field v 0 5 w v0 v1
  have hFz : ∀ w, Calls Tryd.prog 36 #[.int .u32 v, .int .i64 0, .int .i64 0] w fun e w' => e = .returned (.int .u32 0) ∧ ∃ n, w' = w.drewN n := fun w => by
    have h := W.Field v 0 0 w v0 v1
    have e : fld v (max 0 0 : Int).toNat (held 0) = 0 := by
      have e0 : held 0 = 0 := by decide
      rw [e0, fld_zero]
    rw [e] at h; exact h
  have hv : Hid (laidV 7 v = fld v 0 5 * 1048576) := hid (by simp [laidV])
  replace hFa := hid hFa
  generalize fld v 0 5 = a at *
  replace hFz := hid hFz
  have z0 := or_zero (a * 1048576) (by omega) (by omega)
  have zz := or_zero' (a * 1048576) (by omega) (by omega)
  obtain ⟨ba0, ba1⟩ := ba
  have wr4 : IntKind.i64.wrap 4 = 4 := by decide
  have wr5 : IntKind.i64.wrap 5 = 5 := by decide
  have wr7 : IntKind.i64.wrap 7 = 7 := by decide
  have wr8 : IntKind.i64.wrap 8 = 8 := by decide
  have wr10 : IntKind.i64.wrap 10 = 10 := by decide
  have wr11 : IntKind.i64.wrap 11 = 11 := by decide
  go_enter Tryd.func20, Tryd.ntmps20
  go_wp2
  refine wp_loop_rounds 5 ?_
  rw [rounds_succ]
  go_wp2
  go_quiet ((first | (go_at_call 36; first | (with_reducible exact Calls.quiet_of (hFa.out _)) | (with_reducible exact quiet_more (hFa.out _))) | (go_at_call 36; first | (with_reducible exact Calls.quiet_of (hFz.out _)) | (with_reducible exact quiet_more (hFz.out _)))))
  go_wp2
  rw [rounds_succ]
  go_wp2
  go_quiet ((first | (go_at_call 36; first | (with_reducible exact Calls.quiet_of (hFa.out _)) | (with_reducible exact quiet_more (hFa.out _))) | (go_at_call 36; first | (with_reducible exact Calls.quiet_of (hFz.out _)) | (with_reducible exact quiet_more (hFz.out _)))))
  go_wp2
  rw [rounds_succ]
  go_wp2
  go_quiet ((first | (go_at_call 36; first | (with_reducible exact Calls.quiet_of (hFa.out _)) | (with_reducible exact quiet_more (hFa.out _))) | (go_at_call 36; first | (with_reducible exact Calls.quiet_of (hFz.out _)) | (with_reducible exact quiet_more (hFz.out _)))))
  go_wp2
  rw [rounds_succ]
  go_wp2
  go_quiet ((first | (go_at_call 36; first | (with_reducible exact Calls.quiet_of (hFa.out _)) | (with_reducible exact quiet_more (hFa.out _))) | (go_at_call 36; first | (with_reducible exact Calls.quiet_of (hFz.out _)) | (with_reducible exact quiet_more (hFz.out _)))))
  go_wp2
  rw [rounds_succ]
  go_wp2
  go_ret
  exact ⟨by rw [hv.out]; rfl, _, rfl⟩
end Go.Proofs.YtabdfbghhkpoeaaDoor.E
