/- By which diagram a parcel is expanded, as typecaseref09.diagram computes it, leaf by leaf. -/
import Derived.Test.YtfecjdchgckjhaaRef09a
namespace Go.Proofs.Ytfecjdchgckjhaa.R9
set_option linter.unusedVariables false
set_option linter.unusedSimpArgs false
open Go.ChangeShapes Go.WideShapes Go.ChangeAt Go.RowKit Go.Proofs.Ytfecjdchgckjhaa.P Go.Proofs.Ytfecjdchgckjhaa.W Go.Proofs.Ytfecjdchgckjhaa.F

set_option maxHeartbeats 1000000 in
theorem diag0 (h : Int) (w : World) (h0 : 0 ≤ h) (h1 : h < 65536) (f0 : h % 4 * 8 + h / 8192 = 0) :
    Calls Try.prog 35 #[.int .u16 h] w fun e w' => e = .returned (.string ⟨#[99, 46, 97, 100, 100, 105, 52, 115, 112, 110]⟩) ∧ Below w.heap.size w w' := by
  go_enter Try.func35, Try.ntmps35
  go_wp2
  go_ret
  exact ⟨rfl, (by repeat' (first | (with_reducible exact Below.refl _ _) | (with_reducible assumption) | (with_reducible refine below_drewN ?_ _) | (with_reducible refine Below.alloc ?_ ?_ _) | (with_reducible refine Below.drew ?_) | (with_reducible refine Below.setCell ?_ ?_ _) | (with_reducible exact Below.size (by assumption)) | go_size))⟩
set_option maxHeartbeats 1000000 in
theorem diag1 (h : Int) (w : World) (h0 : 0 ≤ h) (h1 : h < 65536) (f0 : h % 4 * 8 + h / 8192 = 2) :
    Calls Try.prog 35 #[.int .u16 h] w fun e w' => e = .returned (.string ⟨#[99, 46, 108, 119]⟩) ∧ Below w.heap.size w w' := by
  go_enter Try.func35, Try.ntmps35
  go_wp2
  go_ret
  exact ⟨rfl, (by repeat' (first | (with_reducible exact Below.refl _ _) | (with_reducible assumption) | (with_reducible refine below_drewN ?_ _) | (with_reducible refine Below.alloc ?_ ?_ _) | (with_reducible refine Below.drew ?_) | (with_reducible refine Below.setCell ?_ ?_ _) | (with_reducible exact Below.size (by assumption)) | go_size))⟩
set_option maxHeartbeats 1000000 in
theorem diag2 (h : Int) (w : World) (h0 : 0 ≤ h) (h1 : h < 65536) (f0 : h % 4 * 8 + h / 8192 = 6) :
    Calls Try.prog 35 #[.int .u16 h] w fun e w' => e = .returned (.string ⟨#[99, 46, 115, 119]⟩) ∧ Below w.heap.size w w' := by
  go_enter Try.func35, Try.ntmps35
  go_wp2
  go_ret
  exact ⟨rfl, (by repeat' (first | (with_reducible exact Below.refl _ _) | (with_reducible assumption) | (with_reducible refine below_drewN ?_ _) | (with_reducible refine Below.alloc ?_ ?_ _) | (with_reducible refine Below.drew ?_) | (with_reducible refine Below.setCell ?_ ?_ _) | (with_reducible exact Below.size (by assumption)) | go_size))⟩
set_option maxHeartbeats 1000000 in
theorem diag5 (h : Int) (w : World) (h0 : 0 ≤ h) (h1 : h < 65536) (f0 : h % 4 * 8 + h / 8192 = 9) :
    Calls Try.prog 35 #[.int .u16 h] w fun e w' => e = .returned (.string ⟨#[99, 46, 106, 97, 108]⟩) ∧ Below w.heap.size w w' := by
  go_enter Try.func35, Try.ntmps35
  go_wp2
  go_ret
  exact ⟨rfl, (by repeat' (first | (with_reducible exact Below.refl _ _) | (with_reducible assumption) | (with_reducible refine below_drewN ?_ _) | (with_reducible refine Below.alloc ?_ ?_ _) | (with_reducible refine Below.drew ?_) | (with_reducible refine Below.setCell ?_ ?_ _) | (with_reducible exact Below.size (by assumption)) | go_size))⟩
set_option maxHeartbeats 1000000 in
theorem diag6 (h : Int) (w : World) (h0 : 0 ≤ h) (h1 : h < 65536) (f0 : h % 4 * 8 + h / 8192 = 10) :
    Calls Try.prog 35 #[.int .u16 h] w fun e w' => e = .returned (.string ⟨#[99, 46, 108, 105]⟩) ∧ Below w.heap.size w w' := by
  go_enter Try.func35, Try.ntmps35
  go_wp2
  go_ret
  exact ⟨rfl, (by repeat' (first | (with_reducible exact Below.refl _ _) | (with_reducible assumption) | (with_reducible refine below_drewN ?_ _) | (with_reducible refine Below.alloc ?_ ?_ _) | (with_reducible refine Below.drew ?_) | (with_reducible refine Below.setCell ?_ ?_ _) | (with_reducible exact Below.size (by assumption)) | go_size))⟩
set_option maxHeartbeats 1000000 in
theorem diag16 (h : Int) (w : World) (h0 : 0 ≤ h) (h1 : h < 65536) (f0 : h % 4 * 8 + h / 8192 = 13) :
    Calls Try.prog 35 #[.int .u16 h] w fun e w' => e = .returned (.string ⟨#[99, 46, 106]⟩) ∧ Below w.heap.size w w' := by
  go_enter Try.func35, Try.ntmps35
  go_wp2
  go_ret
  exact ⟨rfl, (by repeat' (first | (with_reducible exact Below.refl _ _) | (with_reducible assumption) | (with_reducible refine below_drewN ?_ _) | (with_reducible refine Below.alloc ?_ ?_ _) | (with_reducible refine Below.drew ?_) | (with_reducible refine Below.setCell ?_ ?_ _) | (with_reducible exact Below.size (by assumption)) | go_size))⟩
set_option maxHeartbeats 1000000 in
theorem diag17 (h : Int) (w : World) (h0 : 0 ≤ h) (h1 : h < 65536) (f0 : h % 4 * 8 + h / 8192 = 14) :
    Calls Try.prog 35 #[.int .u16 h] w fun e w' => e = .returned (.string ⟨#[99, 46, 98, 101, 113, 122]⟩) ∧ Below w.heap.size w w' := by
  go_enter Try.func35, Try.ntmps35
  go_wp2
  go_ret
  exact ⟨rfl, (by repeat' (first | (with_reducible exact Below.refl _ _) | (with_reducible assumption) | (with_reducible refine below_drewN ?_ _) | (with_reducible refine Below.alloc ?_ ?_ _) | (with_reducible refine Below.drew ?_) | (with_reducible refine Below.setCell ?_ ?_ _) | (with_reducible exact Below.size (by assumption)) | go_size))⟩
set_option maxHeartbeats 1000000 in
theorem diag18 (h : Int) (w : World) (h0 : 0 ≤ h) (h1 : h < 65536) (f0 : h % 4 * 8 + h / 8192 = 15) :
    Calls Try.prog 35 #[.int .u16 h] w fun e w' => e = .returned (.string ⟨#[99, 46, 98, 110, 101, 122]⟩) ∧ Below w.heap.size w w' := by
  go_enter Try.func35, Try.ntmps35
  go_wp2
  go_ret
  exact ⟨rfl, (by repeat' (first | (with_reducible exact Below.refl _ _) | (with_reducible assumption) | (with_reducible refine below_drewN ?_ _) | (with_reducible refine Below.alloc ?_ ?_ _) | (with_reducible refine Below.drew ?_) | (with_reducible refine Below.setCell ?_ ?_ _) | (with_reducible exact Below.size (by assumption)) | go_size))⟩
set_option maxHeartbeats 1000000 in
theorem diag19 (h : Int) (w : World) (h0 : 0 ≤ h) (h1 : h < 65536) (f0 : h % 4 * 8 + h / 8192 = 16) :
    Calls Try.prog 35 #[.int .u16 h] w fun e w' => e = .returned (.string ⟨#[99, 46, 115, 108, 108, 105]⟩) ∧ Below w.heap.size w w' := by
  go_enter Try.func35, Try.ntmps35
  go_wp2
  go_ret
  exact ⟨rfl, (by repeat' (first | (with_reducible exact Below.refl _ _) | (with_reducible assumption) | (with_reducible refine below_drewN ?_ _) | (with_reducible refine Below.alloc ?_ ?_ _) | (with_reducible refine Below.drew ?_) | (with_reducible refine Below.setCell ?_ ?_ _) | (with_reducible exact Below.size (by assumption)) | go_size))⟩
set_option maxHeartbeats 1000000 in
theorem diag20 (h : Int) (w : World) (h0 : 0 ≤ h) (h1 : h < 65536) (f0 : h % 4 * 8 + h / 8192 = 18) :
    Calls Try.prog 35 #[.int .u16 h] w fun e w' => e = .returned (.string ⟨#[99, 46, 108, 119, 115, 112]⟩) ∧ Below w.heap.size w w' := by
  go_enter Try.func35, Try.ntmps35
  go_wp2
  go_ret
  exact ⟨rfl, (by repeat' (first | (with_reducible exact Below.refl _ _) | (with_reducible assumption) | (with_reducible refine below_drewN ?_ _) | (with_reducible refine Below.alloc ?_ ?_ _) | (with_reducible refine Below.drew ?_) | (with_reducible refine Below.setCell ?_ ?_ _) | (with_reducible exact Below.size (by assumption)) | go_size))⟩
set_option maxHeartbeats 1000000 in
theorem diag26 (h : Int) (w : World) (h0 : 0 ≤ h) (h1 : h < 65536) (f0 : h % 4 * 8 + h / 8192 = 22) :
    Calls Try.prog 35 #[.int .u16 h] w fun e w' => e = .returned (.string ⟨#[99, 46, 115, 119, 115, 112]⟩) ∧ Below w.heap.size w w' := by
  go_enter Try.func35, Try.ntmps35
  go_wp2
  go_ret
  exact ⟨rfl, (by repeat' (first | (with_reducible exact Below.refl _ _) | (with_reducible assumption) | (with_reducible refine below_drewN ?_ _) | (with_reducible refine Below.alloc ?_ ?_ _) | (with_reducible refine Below.drew ?_) | (with_reducible refine Below.setCell ?_ ?_ _) | (with_reducible exact Below.size (by assumption)) | go_size))⟩
set_option maxHeartbeats 1000000 in
theorem diag3 (h : Int) (w : World) (h0 : 0 ≤ h) (h1 : h < 65536) (f0 : h % 4 * 8 + h / 8192 = 8) (f1 : h / 128 % 32 = 0) :
    Calls Try.prog 35 #[.int .u16 h] w fun e w' => e = .returned (.string ⟨#[99, 46, 110, 111, 112]⟩) ∧ Below w.heap.size w w' := by
  go_enter Try.func35, Try.ntmps35
  go_wp2
  go_ret
  exact ⟨rfl, (by repeat' (first | (with_reducible exact Below.refl _ _) | (with_reducible assumption) | (with_reducible refine below_drewN ?_ _) | (with_reducible refine Below.alloc ?_ ?_ _) | (with_reducible refine Below.drew ?_) | (with_reducible refine Below.setCell ?_ ?_ _) | (with_reducible exact Below.size (by assumption)) | go_size))⟩
set_option maxHeartbeats 1000000 in
theorem diag4 (h : Int) (w : World) (h0 : 0 ≤ h) (h1 : h < 65536) (f0 : h % 4 * 8 + h / 8192 = 8) (f1 : (h / 128 % 32 == 0) = false) :
    Calls Try.prog 35 #[.int .u16 h] w fun e w' => e = .returned (.string ⟨#[99, 46, 97, 100, 100, 105]⟩) ∧ Below w.heap.size w w' := by
  go_enter Try.func35, Try.ntmps35
  go_wp2
  go_ret
  exact ⟨rfl, (by repeat' (first | (with_reducible exact Below.refl _ _) | (with_reducible assumption) | (with_reducible refine below_drewN ?_ _) | (with_reducible refine Below.alloc ?_ ?_ _) | (with_reducible refine Below.drew ?_) | (with_reducible refine Below.setCell ?_ ?_ _) | (with_reducible exact Below.size (by assumption)) | go_size))⟩
set_option maxHeartbeats 1000000 in
theorem diag7 (h : Int) (w : World) (h0 : 0 ≤ h) (h1 : h < 65536) (f0 : h % 4 * 8 + h / 8192 = 11) (f1 : h / 128 % 32 = 2) :
    Calls Try.prog 35 #[.int .u16 h] w fun e w' => e = .returned (.string ⟨#[99, 46, 97, 100, 100, 105, 49, 54, 115, 112]⟩) ∧ Below w.heap.size w w' := by
  go_enter Try.func35, Try.ntmps35
  go_wp2
  go_ret
  exact ⟨rfl, (by repeat' (first | (with_reducible exact Below.refl _ _) | (with_reducible assumption) | (with_reducible refine below_drewN ?_ _) | (with_reducible refine Below.alloc ?_ ?_ _) | (with_reducible refine Below.drew ?_) | (with_reducible refine Below.setCell ?_ ?_ _) | (with_reducible exact Below.size (by assumption)) | go_size))⟩
set_option maxHeartbeats 1000000 in
theorem diag8 (h : Int) (w : World) (h0 : 0 ≤ h) (h1 : h < 65536) (f0 : h % 4 * 8 + h / 8192 = 11) (f1 : (h / 128 % 32 == 2) = false) :
    Calls Try.prog 35 #[.int .u16 h] w fun e w' => e = .returned (.string ⟨#[99, 46, 108, 117, 105]⟩) ∧ Below w.heap.size w w' := by
  go_enter Try.func35, Try.ntmps35
  go_wp2
  go_ret
  exact ⟨rfl, (by repeat' (first | (with_reducible exact Below.refl _ _) | (with_reducible assumption) | (with_reducible refine below_drewN ?_ _) | (with_reducible refine Below.alloc ?_ ?_ _) | (with_reducible refine Below.drew ?_) | (with_reducible refine Below.setCell ?_ ?_ _) | (with_reducible exact Below.size (by assumption)) | go_size))⟩
set_option maxHeartbeats 1000000 in
theorem diag9 (h : Int) (w : World) (h0 : 0 ≤ h) (h1 : h < 65536) (f0 : h % 4 * 8 + h / 8192 = 12) (f1 : h / 1024 % 4 = 0) :
    Calls Try.prog 35 #[.int .u16 h] w fun e w' => e = .returned (.string ⟨#[99, 46, 115, 114, 108, 105]⟩) ∧ Below w.heap.size w w' := by
  go_enter Try.func35, Try.ntmps35
  go_wp2
  go_ret
  exact ⟨rfl, (by repeat' (first | (with_reducible exact Below.refl _ _) | (with_reducible assumption) | (with_reducible refine below_drewN ?_ _) | (with_reducible refine Below.alloc ?_ ?_ _) | (with_reducible refine Below.drew ?_) | (with_reducible refine Below.setCell ?_ ?_ _) | (with_reducible exact Below.size (by assumption)) | go_size))⟩
set_option maxHeartbeats 1000000 in
theorem diag10 (h : Int) (w : World) (h0 : 0 ≤ h) (h1 : h < 65536) (f0 : h % 4 * 8 + h / 8192 = 12) (f1 : h / 1024 % 4 = 1) :
    Calls Try.prog 35 #[.int .u16 h] w fun e w' => e = .returned (.string ⟨#[99, 46, 115, 114, 97, 105]⟩) ∧ Below w.heap.size w w' := by
  go_enter Try.func35, Try.ntmps35
  go_wp2
  go_ret
  exact ⟨rfl, (by repeat' (first | (with_reducible exact Below.refl _ _) | (with_reducible assumption) | (with_reducible refine below_drewN ?_ _) | (with_reducible refine Below.alloc ?_ ?_ _) | (with_reducible refine Below.drew ?_) | (with_reducible refine Below.setCell ?_ ?_ _) | (with_reducible exact Below.size (by assumption)) | go_size))⟩
set_option maxHeartbeats 1000000 in
theorem diag11 (h : Int) (w : World) (h0 : 0 ≤ h) (h1 : h < 65536) (f0 : h % 4 * 8 + h / 8192 = 12) (f1 : h / 1024 % 4 = 2) :
    Calls Try.prog 35 #[.int .u16 h] w fun e w' => e = .returned (.string ⟨#[99, 46, 97, 110, 100, 105]⟩) ∧ Below w.heap.size w w' := by
  go_enter Try.func35, Try.ntmps35
  go_wp2
  go_ret
  exact ⟨rfl, (by repeat' (first | (with_reducible exact Below.refl _ _) | (with_reducible assumption) | (with_reducible refine below_drewN ?_ _) | (with_reducible refine Below.alloc ?_ ?_ _) | (with_reducible refine Below.drew ?_) | (with_reducible refine Below.setCell ?_ ?_ _) | (with_reducible exact Below.size (by assumption)) | go_size))⟩
set_option maxHeartbeats 1000000 in
theorem diag12 (h : Int) (w : World) (h0 : 0 ≤ h) (h1 : h < 65536) (f0 : h % 4 * 8 + h / 8192 = 12) (f1 : h / 1024 % 4 = 3) (f2 : h / 32 % 4 = 0) :
    Calls Try.prog 35 #[.int .u16 h] w fun e w' => e = .returned (.string ⟨#[99, 46, 115, 117, 98]⟩) ∧ Below w.heap.size w w' := by
  go_enter Try.func35, Try.ntmps35
  go_wp2
  go_ret
  exact ⟨rfl, (by repeat' (first | (with_reducible exact Below.refl _ _) | (with_reducible assumption) | (with_reducible refine below_drewN ?_ _) | (with_reducible refine Below.alloc ?_ ?_ _) | (with_reducible refine Below.drew ?_) | (with_reducible refine Below.setCell ?_ ?_ _) | (with_reducible exact Below.size (by assumption)) | go_size))⟩
set_option maxHeartbeats 1000000 in
theorem diag13 (h : Int) (w : World) (h0 : 0 ≤ h) (h1 : h < 65536) (f0 : h % 4 * 8 + h / 8192 = 12) (f1 : h / 1024 % 4 = 3) (f2 : h / 32 % 4 = 1) :
    Calls Try.prog 35 #[.int .u16 h] w fun e w' => e = .returned (.string ⟨#[99, 46, 120, 111, 114]⟩) ∧ Below w.heap.size w w' := by
  go_enter Try.func35, Try.ntmps35
  go_wp2
  go_ret
  exact ⟨rfl, (by repeat' (first | (with_reducible exact Below.refl _ _) | (with_reducible assumption) | (with_reducible refine below_drewN ?_ _) | (with_reducible refine Below.alloc ?_ ?_ _) | (with_reducible refine Below.drew ?_) | (with_reducible refine Below.setCell ?_ ?_ _) | (with_reducible exact Below.size (by assumption)) | go_size))⟩
set_option maxHeartbeats 1000000 in
theorem diag14 (h : Int) (w : World) (h0 : 0 ≤ h) (h1 : h < 65536) (f0 : h % 4 * 8 + h / 8192 = 12) (f1 : h / 1024 % 4 = 3) (f2 : h / 32 % 4 = 2) :
    Calls Try.prog 35 #[.int .u16 h] w fun e w' => e = .returned (.string ⟨#[99, 46, 111, 114]⟩) ∧ Below w.heap.size w w' := by
  go_enter Try.func35, Try.ntmps35
  go_wp2
  go_ret
  exact ⟨rfl, (by repeat' (first | (with_reducible exact Below.refl _ _) | (with_reducible assumption) | (with_reducible refine below_drewN ?_ _) | (with_reducible refine Below.alloc ?_ ?_ _) | (with_reducible refine Below.drew ?_) | (with_reducible refine Below.setCell ?_ ?_ _) | (with_reducible exact Below.size (by assumption)) | go_size))⟩
set_option maxHeartbeats 1000000 in
theorem diag15 (h : Int) (w : World) (h0 : 0 ≤ h) (h1 : h < 65536) (f0 : h % 4 * 8 + h / 8192 = 12) (f1 : h / 1024 % 4 = 3) (f2 : h / 32 % 4 = 3) :
    Calls Try.prog 35 #[.int .u16 h] w fun e w' => e = .returned (.string ⟨#[99, 46, 97, 110, 100]⟩) ∧ Below w.heap.size w w' := by
  go_enter Try.func35, Try.ntmps35
  go_wp2
  go_ret
  exact ⟨rfl, (by repeat' (first | (with_reducible exact Below.refl _ _) | (with_reducible assumption) | (with_reducible refine below_drewN ?_ _) | (with_reducible refine Below.alloc ?_ ?_ _) | (with_reducible refine Below.drew ?_) | (with_reducible refine Below.setCell ?_ ?_ _) | (with_reducible exact Below.size (by assumption)) | go_size))⟩
set_option maxHeartbeats 1000000 in
theorem diag22 (h : Int) (w : World) (h0 : 0 ≤ h) (h1 : h < 65536) (f0 : h % 4 * 8 + h / 8192 = 20) (f1 : decide (0 < h / 4 % 32) = true) (f2 : h / 4096 % 2 = 0) :
    Calls Try.prog 35 #[.int .u16 h] w fun e w' => e = .returned (.string ⟨#[99, 46, 109, 118]⟩) ∧ Below w.heap.size w w' := by
  go_enter Try.func35, Try.ntmps35
  go_wp2
  go_ret
  exact ⟨rfl, (by repeat' (first | (with_reducible exact Below.refl _ _) | (with_reducible assumption) | (with_reducible refine below_drewN ?_ _) | (with_reducible refine Below.alloc ?_ ?_ _) | (with_reducible refine Below.drew ?_) | (with_reducible refine Below.setCell ?_ ?_ _) | (with_reducible exact Below.size (by assumption)) | go_size))⟩
set_option maxHeartbeats 1000000 in
theorem diag25 (h : Int) (w : World) (h0 : 0 ≤ h) (h1 : h < 65536) (f0 : h % 4 * 8 + h / 8192 = 20) (f1 : decide (0 < h / 4 % 32) = true) (f2 : h / 4096 % 2 = 1) :
    Calls Try.prog 35 #[.int .u16 h] w fun e w' => e = .returned (.string ⟨#[99, 46, 97, 100, 100]⟩) ∧ Below w.heap.size w w' := by
  go_enter Try.func35, Try.ntmps35
  go_wp2
  go_ret
  exact ⟨rfl, (by repeat' (first | (with_reducible exact Below.refl _ _) | (with_reducible assumption) | (with_reducible refine below_drewN ?_ _) | (with_reducible refine Below.alloc ?_ ?_ _) | (with_reducible refine Below.drew ?_) | (with_reducible refine Below.setCell ?_ ?_ _) | (with_reducible exact Below.size (by assumption)) | go_size))⟩
set_option maxHeartbeats 1000000 in
theorem diag21 (h : Int) (w : World) (h0 : 0 ≤ h) (h1 : h < 65536) (f0 : h % 4 * 8 + h / 8192 = 20) (f1 : h / 4 % 32 = 0) (f2 : decide (0 < h / 128 % 32) = true) (f3 : h / 4096 % 2 = 0) :
    Calls Try.prog 35 #[.int .u16 h] w fun e w' => e = .returned (.string ⟨#[99, 46, 106, 114]⟩) ∧ Below w.heap.size w w' := by
  go_enter Try.func35, Try.ntmps35
  go_wp2
  go_ret
  exact ⟨rfl, (by repeat' (first | (with_reducible exact Below.refl _ _) | (with_reducible assumption) | (with_reducible refine below_drewN ?_ _) | (with_reducible refine Below.alloc ?_ ?_ _) | (with_reducible refine Below.drew ?_) | (with_reducible refine Below.setCell ?_ ?_ _) | (with_reducible exact Below.size (by assumption)) | go_size))⟩
set_option maxHeartbeats 1000000 in
theorem diag24 (h : Int) (w : World) (h0 : 0 ≤ h) (h1 : h < 65536) (f0 : h % 4 * 8 + h / 8192 = 20) (f1 : h / 4 % 32 = 0) (f2 : decide (0 < h / 128 % 32) = true) (f3 : h / 4096 % 2 = 1) :
    Calls Try.prog 35 #[.int .u16 h] w fun e w' => e = .returned (.string ⟨#[99, 46, 106, 97, 108, 114]⟩) ∧ Below w.heap.size w w' := by
  go_enter Try.func35, Try.ntmps35
  go_wp2
  go_ret
  exact ⟨rfl, (by repeat' (first | (with_reducible exact Below.refl _ _) | (with_reducible assumption) | (with_reducible refine below_drewN ?_ _) | (with_reducible refine Below.alloc ?_ ?_ _) | (with_reducible refine Below.drew ?_) | (with_reducible refine Below.setCell ?_ ?_ _) | (with_reducible exact Below.size (by assumption)) | go_size))⟩
set_option maxHeartbeats 1000000 in
theorem diag23 (h : Int) (w : World) (h0 : 0 ≤ h) (h1 : h < 65536) (f0 : h % 4 * 8 + h / 8192 = 20) (f1 : h / 4 % 32 = 0) (f2 : h / 128 % 32 = 0) :
    Calls Try.prog 35 #[.int .u16 h] w fun e w' => e = .returned (.string ⟨#[99, 46, 101, 98, 114, 101, 97, 107]⟩) ∧ Below w.heap.size w w' := by
  go_enter Try.func35, Try.ntmps35
  go_wp2
  go_ret
  exact ⟨rfl, (by repeat' (first | (with_reducible exact Below.refl _ _) | (with_reducible assumption) | (with_reducible refine below_drewN ?_ _) | (with_reducible refine Below.alloc ?_ ?_ _) | (with_reducible refine Below.drew ?_) | (with_reducible refine Below.setCell ?_ ?_ _) | (with_reducible exact Below.size (by assumption)) | go_size))⟩
set_option maxHeartbeats 1000000 in
theorem diag27 (h : Int) (w : World) (h0 : 0 ≤ h) (h1 : h < 65536) (f0 : (h % 4 * 8 + h / 8192 == 0) = false) (f1 : (h % 4 * 8 + h / 8192 == 2) = false) (f2 : (h % 4 * 8 + h / 8192 == 6) = false) (f3 : (h % 4 * 8 + h / 8192 == 8) = false) (f4 : (h % 4 * 8 + h / 8192 == 9) = false) (f5 : (h % 4 * 8 + h / 8192 == 10) = false) (f6 : (h % 4 * 8 + h / 8192 == 11) = false) (f7 : (h % 4 * 8 + h / 8192 == 12) = false) (f8 : (h % 4 * 8 + h / 8192 == 13) = false) (f9 : (h % 4 * 8 + h / 8192 == 14) = false) (f10 : (h % 4 * 8 + h / 8192 == 15) = false) (f11 : (h % 4 * 8 + h / 8192 == 16) = false) (f12 : (h % 4 * 8 + h / 8192 == 18) = false) (f13 : (h % 4 * 8 + h / 8192 == 20) = false) (f14 : (h % 4 * 8 + h / 8192 == 22) = false) :
    Calls Try.prog 35 #[.int .u16 h] w fun e w' => e = .returned (.string ⟨#[]⟩) ∧ Below w.heap.size w w' := by
  go_enter Try.func35, Try.ntmps35
  go_wp2
  go_ret
  exact ⟨rfl, (by repeat' (first | (with_reducible exact Below.refl _ _) | (with_reducible assumption) | (with_reducible refine below_drewN ?_ _) | (with_reducible refine Below.alloc ?_ ?_ _) | (with_reducible refine Below.drew ?_) | (with_reducible refine Below.setCell ?_ ?_ _) | (with_reducible exact Below.size (by assumption)) | go_size))⟩
/-- the name of a diagram -/
def dName (k : Nat) : ByteArray := if k < 27 then (prAt k).nm else ⟨#[]⟩
theorem diagram (h : Int) (w : World) (h0 : 0 ≤ h) (h1 : h < 65536) :
    Calls Try.prog 35 #[.int .u16 h] w fun e w' => e = .returned (.string (dName (diagK h))) ∧ Below w.heap.size w w' := by
  have hb : h / 4096 % 2 = 0 ∨ h / 4096 % 2 = 1 := by omega
  have ha : h / 1024 % 4 = 0 ∨ h / 1024 % 4 = 1 ∨ h / 1024 % 4 = 2 ∨ h / 1024 % 4 = 3 := by omega
  have hc : h / 32 % 4 = 0 ∨ h / 32 % 4 = 1 ∨ h / 32 % 4 = 2 ∨ h / 32 % 4 = 3 := by omega
  have hr : 0 ≤ h / 128 % 32 := by omega
  have hs : 0 ≤ h / 4 % 32 := by omega
  by_cases t0 : h % 4 * 8 + h / 8192 = 0
  · rw [show diagK h = 0 by unfold diagK; simp [t0]]; exact diag0 h w h0 h1 t0
  by_cases t2 : h % 4 * 8 + h / 8192 = 2
  · rw [show diagK h = 1 by unfold diagK; simp [t2]]; exact diag1 h w h0 h1 t2
  by_cases t6 : h % 4 * 8 + h / 8192 = 6
  · rw [show diagK h = 2 by unfold diagK; simp [t6]]; exact diag2 h w h0 h1 t6
  by_cases t9 : h % 4 * 8 + h / 8192 = 9
  · rw [show diagK h = 5 by unfold diagK; simp [t9]]; exact diag5 h w h0 h1 t9
  by_cases t10 : h % 4 * 8 + h / 8192 = 10
  · rw [show diagK h = 6 by unfold diagK; simp [t10]]; exact diag6 h w h0 h1 t10
  by_cases t13 : h % 4 * 8 + h / 8192 = 13
  · rw [show diagK h = 16 by unfold diagK; simp [t13]]; exact diag16 h w h0 h1 t13
  by_cases t14 : h % 4 * 8 + h / 8192 = 14
  · rw [show diagK h = 17 by unfold diagK; simp [t14]]; exact diag17 h w h0 h1 t14
  by_cases t15 : h % 4 * 8 + h / 8192 = 15
  · rw [show diagK h = 18 by unfold diagK; simp [t15]]; exact diag18 h w h0 h1 t15
  by_cases t16 : h % 4 * 8 + h / 8192 = 16
  · rw [show diagK h = 19 by unfold diagK; simp [t16]]; exact diag19 h w h0 h1 t16
  by_cases t18 : h % 4 * 8 + h / 8192 = 18
  · rw [show diagK h = 20 by unfold diagK; simp [t18]]; exact diag20 h w h0 h1 t18
  by_cases t22 : h % 4 * 8 + h / 8192 = 22
  · rw [show diagK h = 26 by unfold diagK; simp [t22]]; exact diag26 h w h0 h1 t22
  by_cases t8 : h % 4 * 8 + h / 8192 = 8
  · by_cases r : h / 128 % 32 = 0
    · rw [show diagK h = 3 by unfold diagK; simp [t8, r]]; exact diag3 h w h0 h1 t8 r
    · rw [show diagK h = 4 by unfold diagK; simp [t8, r]]; exact diag4 h w h0 h1 t8 (by simpa using r)
  by_cases t11 : h % 4 * 8 + h / 8192 = 11
  · by_cases r : h / 128 % 32 = 2
    · rw [show diagK h = 7 by unfold diagK; simp [t11, r]]; exact diag7 h w h0 h1 t11 r
    · rw [show diagK h = 8 by unfold diagK; simp [t11, r]]; exact diag8 h w h0 h1 t11 (by simpa using r)
  by_cases t12 : h % 4 * 8 + h / 8192 = 12
  · rcases ha with a | a | a | a
    · rw [show diagK h = 9 by unfold diagK; simp [t12, a]]; exact diag9 h w h0 h1 t12 a
    · rw [show diagK h = 10 by unfold diagK; simp [t12, a]]; exact diag10 h w h0 h1 t12 a
    · rw [show diagK h = 11 by unfold diagK; simp [t12, a]]; exact diag11 h w h0 h1 t12 a
    · rcases hc with c | c | c | c
      · rw [show diagK h = 12 by unfold diagK; simp [t12, a, c]]; exact diag12 h w h0 h1 t12 a c
      · rw [show diagK h = 13 by unfold diagK; simp [t12, a, c]]; exact diag13 h w h0 h1 t12 a c
      · rw [show diagK h = 14 by unfold diagK; simp [t12, a, c]]; exact diag14 h w h0 h1 t12 a c
      · rw [show diagK h = 15 by unfold diagK; simp [t12, a, c]]; exact diag15 h w h0 h1 t12 a c
  by_cases t20 : h % 4 * 8 + h / 8192 = 20
  · by_cases s : 0 < h / 4 % 32
    · rcases hb with b | b
      · rw [show diagK h = 22 by unfold diagK; simp [t20, s, b]]; exact diag22 h w h0 h1 t20 (by simpa using s) b
      · rw [show diagK h = 25 by unfold diagK; simp [t20, s, b]]; exact diag25 h w h0 h1 t20 (by simpa using s) b
    · have s0 : h / 4 % 32 = 0 := by omega
      by_cases r : 0 < h / 128 % 32
      · rcases hb with b | b
        · rw [show diagK h = 21 by unfold diagK; simp [t20, s0, r, b]]; exact diag21 h w h0 h1 t20 s0 (by simpa using r) b
        · rw [show diagK h = 24 by unfold diagK; simp [t20, s0, r, b]]; exact diag24 h w h0 h1 t20 s0 (by simpa using r) b
      · have r0 : h / 128 % 32 = 0 := by omega
        rw [show diagK h = 23 by unfold diagK; simp [t20, s0, r0]]; exact diag23 h w h0 h1 t20 s0 r0
  rw [show diagK h = 27 by unfold diagK; simp [t0, t2, t6, t8, t9, t10, t11, t12, t13, t14, t15, t16, t18, t20, t22]]; exact diag27 h w h0 h1 (by simpa using t0) (by simpa using t2) (by simpa using t6) (by simpa using t8) (by simpa using t9) (by simpa using t10) (by simpa using t11) (by simpa using t12) (by simpa using t13) (by simpa using t14) (by simpa using t15) (by simpa using t16) (by simpa using t18) (by simpa using t20) (by simpa using t22)
end Go.Proofs.Ytfecjdchgckjhaa.R9
