/- What typecaseref09.regs computes, name by name. -/
import Derived.Test.YtfecjdchgckjhaaRef09a
namespace Go.Proofs.Ytfecjdchgckjhaa.R9
set_option linter.unusedVariables false
set_option linter.unusedSimpArgs false
open Go.ChangeShapes Go.WideShapes Go.ChangeAt Go.RowKit Go.Proofs.Ytfecjdchgckjhaa.P Go.Proofs.Ytfecjdchgckjhaa.W Go.Proofs.Ytfecjdchgckjhaa.F

set_option maxHeartbeats 8000000 in
theorem regs (k : Nat) (op rd rs1 rs2 imm : Int) (w : World) (hk : k < 27) (a : rg rd) (b : rg rs1) (d : rg rs2) :
    Calls Try.prog 24 #[.string (prAt k).nm, .agg #[.int .i64 op, .int .i64 rd, .int .i64 rs1, .int .i64 rs2, .int .i32 imm]] w fun e w' => e = .returned (.int .i64 (regsK k rd rs1 rs2)) ∧ Below w.heap.size w w' := by
  obtain ⟨a0, a1⟩ := a
  obtain ⟨b0, b1⟩ := b
  obtain ⟨d0, d1⟩ := d
  have hc : k = 0 ∨ k = 1 ∨ k = 2 ∨ k = 3 ∨ k = 4 ∨ k = 5 ∨ k = 6 ∨ k = 7 ∨ k = 8 ∨ k = 9 ∨ k = 10 ∨ k = 11 ∨ k = 12 ∨ k = 13 ∨ k = 14 ∨ k = 15 ∨ k = 16 ∨ k = 17 ∨ k = 18 ∨ k = 19 ∨ k = 20 ∨ k = 21 ∨ k = 22 ∨ k = 23 ∨ k = 24 ∨ k = 25 ∨ k = 26 := by omega
  clear hk
  rcases hc with rfl | rfl | rfl | rfl | rfl | rfl | rfl | rfl | rfl | rfl | rfl | rfl | rfl | rfl | rfl | rfl | rfl | rfl | rfl | rfl | rfl | rfl | rfl | rfl | rfl | rfl | rfl
  · show Calls Try.prog 24 #[.string ⟨#[99, 46, 97, 100, 100, 105, 52, 115, 112, 110]⟩, .agg #[.int .i64 op, .int .i64 rd, .int .i64 rs1, .int .i64 rs2, .int .i32 imm]] w fun e w' => e = .returned (.int .i64 ((rd - 8) * 4)) ∧ Below w.heap.size w w'
    go_enter Try.func24, Try.ntmps24
    go_wp2
    go_ret
    exact ⟨rfl, (by repeat' (first | (with_reducible exact Below.refl _ _) | (with_reducible assumption) | (with_reducible refine below_drewN ?_ _) | (with_reducible refine Below.alloc ?_ ?_ _) | (with_reducible refine Below.drew ?_) | (with_reducible refine Below.setCell ?_ ?_ _) | (with_reducible exact Below.size (by assumption)) | go_size))⟩
  · show Calls Try.prog 24 #[.string ⟨#[99, 46, 108, 119]⟩, .agg #[.int .i64 op, .int .i64 rd, .int .i64 rs1, .int .i64 rs2, .int .i32 imm]] w fun e w' => e = .returned (.int .i64 ((rd - 8) * 4 + (rs1 - 8) * 128)) ∧ Below w.heap.size w w'
    go_enter Try.func24, Try.ntmps24
    go_wp2
    go_ret
    exact ⟨rfl, (by repeat' (first | (with_reducible exact Below.refl _ _) | (with_reducible assumption) | (with_reducible refine below_drewN ?_ _) | (with_reducible refine Below.alloc ?_ ?_ _) | (with_reducible refine Below.drew ?_) | (with_reducible refine Below.setCell ?_ ?_ _) | (with_reducible exact Below.size (by assumption)) | go_size))⟩
  · show Calls Try.prog 24 #[.string ⟨#[99, 46, 115, 119]⟩, .agg #[.int .i64 op, .int .i64 rd, .int .i64 rs1, .int .i64 rs2, .int .i32 imm]] w fun e w' => e = .returned (.int .i64 ((rs2 - 8) * 4 + (rs1 - 8) * 128)) ∧ Below w.heap.size w w'
    go_enter Try.func24, Try.ntmps24
    go_wp2
    go_ret
    exact ⟨rfl, (by repeat' (first | (with_reducible exact Below.refl _ _) | (with_reducible assumption) | (with_reducible refine below_drewN ?_ _) | (with_reducible refine Below.alloc ?_ ?_ _) | (with_reducible refine Below.drew ?_) | (with_reducible refine Below.setCell ?_ ?_ _) | (with_reducible exact Below.size (by assumption)) | go_size))⟩
  · show Calls Try.prog 24 #[.string ⟨#[99, 46, 110, 111, 112]⟩, .agg #[.int .i64 op, .int .i64 rd, .int .i64 rs1, .int .i64 rs2, .int .i32 imm]] w fun e w' => e = .returned (.int .i64 (0)) ∧ Below w.heap.size w w'
    go_enter Try.func24, Try.ntmps24
    go_wp2
    go_ret
    exact ⟨rfl, (by repeat' (first | (with_reducible exact Below.refl _ _) | (with_reducible assumption) | (with_reducible refine below_drewN ?_ _) | (with_reducible refine Below.alloc ?_ ?_ _) | (with_reducible refine Below.drew ?_) | (with_reducible refine Below.setCell ?_ ?_ _) | (with_reducible exact Below.size (by assumption)) | go_size))⟩
  · show Calls Try.prog 24 #[.string ⟨#[99, 46, 97, 100, 100, 105]⟩, .agg #[.int .i64 op, .int .i64 rd, .int .i64 rs1, .int .i64 rs2, .int .i32 imm]] w fun e w' => e = .returned (.int .i64 (rd * 128)) ∧ Below w.heap.size w w'
    go_enter Try.func24, Try.ntmps24
    go_wp2
    go_ret
    exact ⟨rfl, (by repeat' (first | (with_reducible exact Below.refl _ _) | (with_reducible assumption) | (with_reducible refine below_drewN ?_ _) | (with_reducible refine Below.alloc ?_ ?_ _) | (with_reducible refine Below.drew ?_) | (with_reducible refine Below.setCell ?_ ?_ _) | (with_reducible exact Below.size (by assumption)) | go_size))⟩
  · show Calls Try.prog 24 #[.string ⟨#[99, 46, 106, 97, 108]⟩, .agg #[.int .i64 op, .int .i64 rd, .int .i64 rs1, .int .i64 rs2, .int .i32 imm]] w fun e w' => e = .returned (.int .i64 (0)) ∧ Below w.heap.size w w'
    go_enter Try.func24, Try.ntmps24
    go_wp2
    go_ret
    exact ⟨rfl, (by repeat' (first | (with_reducible exact Below.refl _ _) | (with_reducible assumption) | (with_reducible refine below_drewN ?_ _) | (with_reducible refine Below.alloc ?_ ?_ _) | (with_reducible refine Below.drew ?_) | (with_reducible refine Below.setCell ?_ ?_ _) | (with_reducible exact Below.size (by assumption)) | go_size))⟩
  · show Calls Try.prog 24 #[.string ⟨#[99, 46, 108, 105]⟩, .agg #[.int .i64 op, .int .i64 rd, .int .i64 rs1, .int .i64 rs2, .int .i32 imm]] w fun e w' => e = .returned (.int .i64 (rd * 128)) ∧ Below w.heap.size w w'
    go_enter Try.func24, Try.ntmps24
    go_wp2
    go_ret
    exact ⟨rfl, (by repeat' (first | (with_reducible exact Below.refl _ _) | (with_reducible assumption) | (with_reducible refine below_drewN ?_ _) | (with_reducible refine Below.alloc ?_ ?_ _) | (with_reducible refine Below.drew ?_) | (with_reducible refine Below.setCell ?_ ?_ _) | (with_reducible exact Below.size (by assumption)) | go_size))⟩
  · show Calls Try.prog 24 #[.string ⟨#[99, 46, 97, 100, 100, 105, 49, 54, 115, 112]⟩, .agg #[.int .i64 op, .int .i64 rd, .int .i64 rs1, .int .i64 rs2, .int .i32 imm]] w fun e w' => e = .returned (.int .i64 (0)) ∧ Below w.heap.size w w'
    go_enter Try.func24, Try.ntmps24
    go_wp2
    go_ret
    exact ⟨rfl, (by repeat' (first | (with_reducible exact Below.refl _ _) | (with_reducible assumption) | (with_reducible refine below_drewN ?_ _) | (with_reducible refine Below.alloc ?_ ?_ _) | (with_reducible refine Below.drew ?_) | (with_reducible refine Below.setCell ?_ ?_ _) | (with_reducible exact Below.size (by assumption)) | go_size))⟩
  · show Calls Try.prog 24 #[.string ⟨#[99, 46, 108, 117, 105]⟩, .agg #[.int .i64 op, .int .i64 rd, .int .i64 rs1, .int .i64 rs2, .int .i32 imm]] w fun e w' => e = .returned (.int .i64 (rd * 128)) ∧ Below w.heap.size w w'
    go_enter Try.func24, Try.ntmps24
    go_wp2
    go_ret
    exact ⟨rfl, (by repeat' (first | (with_reducible exact Below.refl _ _) | (with_reducible assumption) | (with_reducible refine below_drewN ?_ _) | (with_reducible refine Below.alloc ?_ ?_ _) | (with_reducible refine Below.drew ?_) | (with_reducible refine Below.setCell ?_ ?_ _) | (with_reducible exact Below.size (by assumption)) | go_size))⟩
  · show Calls Try.prog 24 #[.string ⟨#[99, 46, 115, 114, 108, 105]⟩, .agg #[.int .i64 op, .int .i64 rd, .int .i64 rs1, .int .i64 rs2, .int .i32 imm]] w fun e w' => e = .returned (.int .i64 ((rd - 8) * 128)) ∧ Below w.heap.size w w'
    go_enter Try.func24, Try.ntmps24
    go_wp2
    go_ret
    exact ⟨rfl, (by repeat' (first | (with_reducible exact Below.refl _ _) | (with_reducible assumption) | (with_reducible refine below_drewN ?_ _) | (with_reducible refine Below.alloc ?_ ?_ _) | (with_reducible refine Below.drew ?_) | (with_reducible refine Below.setCell ?_ ?_ _) | (with_reducible exact Below.size (by assumption)) | go_size))⟩
  · show Calls Try.prog 24 #[.string ⟨#[99, 46, 115, 114, 97, 105]⟩, .agg #[.int .i64 op, .int .i64 rd, .int .i64 rs1, .int .i64 rs2, .int .i32 imm]] w fun e w' => e = .returned (.int .i64 ((rd - 8) * 128)) ∧ Below w.heap.size w w'
    go_enter Try.func24, Try.ntmps24
    go_wp2
    go_ret
    exact ⟨rfl, (by repeat' (first | (with_reducible exact Below.refl _ _) | (with_reducible assumption) | (with_reducible refine below_drewN ?_ _) | (with_reducible refine Below.alloc ?_ ?_ _) | (with_reducible refine Below.drew ?_) | (with_reducible refine Below.setCell ?_ ?_ _) | (with_reducible exact Below.size (by assumption)) | go_size))⟩
  · show Calls Try.prog 24 #[.string ⟨#[99, 46, 97, 110, 100, 105]⟩, .agg #[.int .i64 op, .int .i64 rd, .int .i64 rs1, .int .i64 rs2, .int .i32 imm]] w fun e w' => e = .returned (.int .i64 ((rd - 8) * 128)) ∧ Below w.heap.size w w'
    go_enter Try.func24, Try.ntmps24
    go_wp2
    go_ret
    exact ⟨rfl, (by repeat' (first | (with_reducible exact Below.refl _ _) | (with_reducible assumption) | (with_reducible refine below_drewN ?_ _) | (with_reducible refine Below.alloc ?_ ?_ _) | (with_reducible refine Below.drew ?_) | (with_reducible refine Below.setCell ?_ ?_ _) | (with_reducible exact Below.size (by assumption)) | go_size))⟩
  · show Calls Try.prog 24 #[.string ⟨#[99, 46, 115, 117, 98]⟩, .agg #[.int .i64 op, .int .i64 rd, .int .i64 rs1, .int .i64 rs2, .int .i32 imm]] w fun e w' => e = .returned (.int .i64 ((rd - 8) * 128 + (rs2 - 8) * 4)) ∧ Below w.heap.size w w'
    go_enter Try.func24, Try.ntmps24
    go_wp2
    go_ret
    exact ⟨rfl, (by repeat' (first | (with_reducible exact Below.refl _ _) | (with_reducible assumption) | (with_reducible refine below_drewN ?_ _) | (with_reducible refine Below.alloc ?_ ?_ _) | (with_reducible refine Below.drew ?_) | (with_reducible refine Below.setCell ?_ ?_ _) | (with_reducible exact Below.size (by assumption)) | go_size))⟩
  · show Calls Try.prog 24 #[.string ⟨#[99, 46, 120, 111, 114]⟩, .agg #[.int .i64 op, .int .i64 rd, .int .i64 rs1, .int .i64 rs2, .int .i32 imm]] w fun e w' => e = .returned (.int .i64 ((rd - 8) * 128 + (rs2 - 8) * 4)) ∧ Below w.heap.size w w'
    go_enter Try.func24, Try.ntmps24
    go_wp2
    go_ret
    exact ⟨rfl, (by repeat' (first | (with_reducible exact Below.refl _ _) | (with_reducible assumption) | (with_reducible refine below_drewN ?_ _) | (with_reducible refine Below.alloc ?_ ?_ _) | (with_reducible refine Below.drew ?_) | (with_reducible refine Below.setCell ?_ ?_ _) | (with_reducible exact Below.size (by assumption)) | go_size))⟩
  · show Calls Try.prog 24 #[.string ⟨#[99, 46, 111, 114]⟩, .agg #[.int .i64 op, .int .i64 rd, .int .i64 rs1, .int .i64 rs2, .int .i32 imm]] w fun e w' => e = .returned (.int .i64 ((rd - 8) * 128 + (rs2 - 8) * 4)) ∧ Below w.heap.size w w'
    go_enter Try.func24, Try.ntmps24
    go_wp2
    go_ret
    exact ⟨rfl, (by repeat' (first | (with_reducible exact Below.refl _ _) | (with_reducible assumption) | (with_reducible refine below_drewN ?_ _) | (with_reducible refine Below.alloc ?_ ?_ _) | (with_reducible refine Below.drew ?_) | (with_reducible refine Below.setCell ?_ ?_ _) | (with_reducible exact Below.size (by assumption)) | go_size))⟩
  · show Calls Try.prog 24 #[.string ⟨#[99, 46, 97, 110, 100]⟩, .agg #[.int .i64 op, .int .i64 rd, .int .i64 rs1, .int .i64 rs2, .int .i32 imm]] w fun e w' => e = .returned (.int .i64 ((rd - 8) * 128 + (rs2 - 8) * 4)) ∧ Below w.heap.size w w'
    go_enter Try.func24, Try.ntmps24
    go_wp2
    go_ret
    exact ⟨rfl, (by repeat' (first | (with_reducible exact Below.refl _ _) | (with_reducible assumption) | (with_reducible refine below_drewN ?_ _) | (with_reducible refine Below.alloc ?_ ?_ _) | (with_reducible refine Below.drew ?_) | (with_reducible refine Below.setCell ?_ ?_ _) | (with_reducible exact Below.size (by assumption)) | go_size))⟩
  · show Calls Try.prog 24 #[.string ⟨#[99, 46, 106]⟩, .agg #[.int .i64 op, .int .i64 rd, .int .i64 rs1, .int .i64 rs2, .int .i32 imm]] w fun e w' => e = .returned (.int .i64 (0)) ∧ Below w.heap.size w w'
    go_enter Try.func24, Try.ntmps24
    go_wp2
    go_ret
    exact ⟨rfl, (by repeat' (first | (with_reducible exact Below.refl _ _) | (with_reducible assumption) | (with_reducible refine below_drewN ?_ _) | (with_reducible refine Below.alloc ?_ ?_ _) | (with_reducible refine Below.drew ?_) | (with_reducible refine Below.setCell ?_ ?_ _) | (with_reducible exact Below.size (by assumption)) | go_size))⟩
  · show Calls Try.prog 24 #[.string ⟨#[99, 46, 98, 101, 113, 122]⟩, .agg #[.int .i64 op, .int .i64 rd, .int .i64 rs1, .int .i64 rs2, .int .i32 imm]] w fun e w' => e = .returned (.int .i64 ((rs1 - 8) * 128)) ∧ Below w.heap.size w w'
    go_enter Try.func24, Try.ntmps24
    go_wp2
    go_ret
    exact ⟨rfl, (by repeat' (first | (with_reducible exact Below.refl _ _) | (with_reducible assumption) | (with_reducible refine below_drewN ?_ _) | (with_reducible refine Below.alloc ?_ ?_ _) | (with_reducible refine Below.drew ?_) | (with_reducible refine Below.setCell ?_ ?_ _) | (with_reducible exact Below.size (by assumption)) | go_size))⟩
  · show Calls Try.prog 24 #[.string ⟨#[99, 46, 98, 110, 101, 122]⟩, .agg #[.int .i64 op, .int .i64 rd, .int .i64 rs1, .int .i64 rs2, .int .i32 imm]] w fun e w' => e = .returned (.int .i64 ((rs1 - 8) * 128)) ∧ Below w.heap.size w w'
    go_enter Try.func24, Try.ntmps24
    go_wp2
    go_ret
    exact ⟨rfl, (by repeat' (first | (with_reducible exact Below.refl _ _) | (with_reducible assumption) | (with_reducible refine below_drewN ?_ _) | (with_reducible refine Below.alloc ?_ ?_ _) | (with_reducible refine Below.drew ?_) | (with_reducible refine Below.setCell ?_ ?_ _) | (with_reducible exact Below.size (by assumption)) | go_size))⟩
  · show Calls Try.prog 24 #[.string ⟨#[99, 46, 115, 108, 108, 105]⟩, .agg #[.int .i64 op, .int .i64 rd, .int .i64 rs1, .int .i64 rs2, .int .i32 imm]] w fun e w' => e = .returned (.int .i64 (rd * 128)) ∧ Below w.heap.size w w'
    go_enter Try.func24, Try.ntmps24
    go_wp2
    go_ret
    exact ⟨rfl, (by repeat' (first | (with_reducible exact Below.refl _ _) | (with_reducible assumption) | (with_reducible refine below_drewN ?_ _) | (with_reducible refine Below.alloc ?_ ?_ _) | (with_reducible refine Below.drew ?_) | (with_reducible refine Below.setCell ?_ ?_ _) | (with_reducible exact Below.size (by assumption)) | go_size))⟩
  · show Calls Try.prog 24 #[.string ⟨#[99, 46, 108, 119, 115, 112]⟩, .agg #[.int .i64 op, .int .i64 rd, .int .i64 rs1, .int .i64 rs2, .int .i32 imm]] w fun e w' => e = .returned (.int .i64 (rd * 128)) ∧ Below w.heap.size w w'
    go_enter Try.func24, Try.ntmps24
    go_wp2
    go_ret
    exact ⟨rfl, (by repeat' (first | (with_reducible exact Below.refl _ _) | (with_reducible assumption) | (with_reducible refine below_drewN ?_ _) | (with_reducible refine Below.alloc ?_ ?_ _) | (with_reducible refine Below.drew ?_) | (with_reducible refine Below.setCell ?_ ?_ _) | (with_reducible exact Below.size (by assumption)) | go_size))⟩
  · show Calls Try.prog 24 #[.string ⟨#[99, 46, 106, 114]⟩, .agg #[.int .i64 op, .int .i64 rd, .int .i64 rs1, .int .i64 rs2, .int .i32 imm]] w fun e w' => e = .returned (.int .i64 (rs1 * 128)) ∧ Below w.heap.size w w'
    go_enter Try.func24, Try.ntmps24
    go_wp2
    go_ret
    exact ⟨rfl, (by repeat' (first | (with_reducible exact Below.refl _ _) | (with_reducible assumption) | (with_reducible refine below_drewN ?_ _) | (with_reducible refine Below.alloc ?_ ?_ _) | (with_reducible refine Below.drew ?_) | (with_reducible refine Below.setCell ?_ ?_ _) | (with_reducible exact Below.size (by assumption)) | go_size))⟩
  · show Calls Try.prog 24 #[.string ⟨#[99, 46, 109, 118]⟩, .agg #[.int .i64 op, .int .i64 rd, .int .i64 rs1, .int .i64 rs2, .int .i32 imm]] w fun e w' => e = .returned (.int .i64 (rd * 128 + rs2 * 4)) ∧ Below w.heap.size w w'
    go_enter Try.func24, Try.ntmps24
    go_wp2
    go_ret
    exact ⟨rfl, (by repeat' (first | (with_reducible exact Below.refl _ _) | (with_reducible assumption) | (with_reducible refine below_drewN ?_ _) | (with_reducible refine Below.alloc ?_ ?_ _) | (with_reducible refine Below.drew ?_) | (with_reducible refine Below.setCell ?_ ?_ _) | (with_reducible exact Below.size (by assumption)) | go_size))⟩
  · show Calls Try.prog 24 #[.string ⟨#[99, 46, 101, 98, 114, 101, 97, 107]⟩, .agg #[.int .i64 op, .int .i64 rd, .int .i64 rs1, .int .i64 rs2, .int .i32 imm]] w fun e w' => e = .returned (.int .i64 (0)) ∧ Below w.heap.size w w'
    go_enter Try.func24, Try.ntmps24
    go_wp2
    go_ret
    exact ⟨rfl, (by repeat' (first | (with_reducible exact Below.refl _ _) | (with_reducible assumption) | (with_reducible refine below_drewN ?_ _) | (with_reducible refine Below.alloc ?_ ?_ _) | (with_reducible refine Below.drew ?_) | (with_reducible refine Below.setCell ?_ ?_ _) | (with_reducible exact Below.size (by assumption)) | go_size))⟩
  · show Calls Try.prog 24 #[.string ⟨#[99, 46, 106, 97, 108, 114]⟩, .agg #[.int .i64 op, .int .i64 rd, .int .i64 rs1, .int .i64 rs2, .int .i32 imm]] w fun e w' => e = .returned (.int .i64 (rs1 * 128)) ∧ Below w.heap.size w w'
    go_enter Try.func24, Try.ntmps24
    go_wp2
    go_ret
    exact ⟨rfl, (by repeat' (first | (with_reducible exact Below.refl _ _) | (with_reducible assumption) | (with_reducible refine below_drewN ?_ _) | (with_reducible refine Below.alloc ?_ ?_ _) | (with_reducible refine Below.drew ?_) | (with_reducible refine Below.setCell ?_ ?_ _) | (with_reducible exact Below.size (by assumption)) | go_size))⟩
  · show Calls Try.prog 24 #[.string ⟨#[99, 46, 97, 100, 100]⟩, .agg #[.int .i64 op, .int .i64 rd, .int .i64 rs1, .int .i64 rs2, .int .i32 imm]] w fun e w' => e = .returned (.int .i64 (rd * 128 + rs2 * 4)) ∧ Below w.heap.size w w'
    go_enter Try.func24, Try.ntmps24
    go_wp2
    go_ret
    exact ⟨rfl, (by repeat' (first | (with_reducible exact Below.refl _ _) | (with_reducible assumption) | (with_reducible refine below_drewN ?_ _) | (with_reducible refine Below.alloc ?_ ?_ _) | (with_reducible refine Below.drew ?_) | (with_reducible refine Below.setCell ?_ ?_ _) | (with_reducible exact Below.size (by assumption)) | go_size))⟩
  · show Calls Try.prog 24 #[.string ⟨#[99, 46, 115, 119, 115, 112]⟩, .agg #[.int .i64 op, .int .i64 rd, .int .i64 rs1, .int .i64 rs2, .int .i32 imm]] w fun e w' => e = .returned (.int .i64 (rs2 * 4)) ∧ Below w.heap.size w w'
    go_enter Try.func24, Try.ntmps24
    go_wp2
    go_ret
    exact ⟨rfl, (by repeat' (first | (with_reducible exact Below.refl _ _) | (with_reducible assumption) | (with_reducible refine below_drewN ?_ _) | (with_reducible refine Below.alloc ?_ ?_ _) | (with_reducible refine Below.drew ?_) | (with_reducible refine Below.setCell ?_ ?_ _) | (with_reducible exact Below.size (by assumption)) | go_size))⟩
end Go.Proofs.Ytfecjdchgckjhaa.R9
