/- What the functions of package slim compute: the quarter 1. -/
import Derived.Test.YtplhoiokfjjcdaaSlim4
import Derived.Deep.DrawnRows
namespace Go.Proofs.Ytplhoiokfjjcdaa.S
set_option linter.unusedVariables false
set_option linter.unusedSimpArgs false
open Go.ChangeShapes Go.WideShapes Go.ChangeAt Go.RowKit Go.Proofs.Ytplhoiokfjjcdaa.P Go.Proofs.Ytplhoiokfjjcdaa.W
attribute [local go_sem ↓] Go.wp_at_zero Go.wp_at_succ

set_option maxRecDepth 100000 in
set_option maxHeartbeats 1000000 in
theorem sums3 (x : Int) (w : World) (h0 : 0 ≤ x) (h1 : x < 4294967296) (h3 : fld x 10 2 = 3) :
    Calls Try.prog 75 #[.int .u32 x] w fun e w' => e = .returned (qSums x).val ∧ Below w.heap.size w w' := by
  have HAT := hid (fun w (h l : Int) hl0 hl1 hh => at_ x h l w h0 h1 hl0 hl1 hh)
  have hr1 : 8 ≤ sR1 x ∧ sR1 x < 16 := by have := f3_lt x 7; unfold sR1; omega
  have hr2 : 8 ≤ sR2 x ∧ sR2 x < 16 := by have := f3_lt x 2; unfold sR2; omega
  have hs : 0 ≤ sRs2 x ∧ sRs2 x < 32 := bd5 x 2
  have ho : 0 ≤ fld x 12 1 ∧ fld x 12 1 < 2 := bd1 x 12
  have hk : 0 ≤ fld x 10 2 ∧ fld x 10 2 < 4 := bd2 x 10
  have hj : 0 ≤ fld x 5 2 ∧ fld x 5 2 < 4 := bd2 x 5
  have hq : Hid (qSums x = if fld x 10 2 = 2 then ⟨24, sR1 x, sR1 x, 0, sN6 x⟩ else if fld x 12 1 = 1 then .none else if fld x 10 2 = 0 then ⟨26, sR1 x, sR1 x, 0, sRs2 x⟩ else if fld x 10 2 = 1 then ⟨27, sR1 x, sR1 x, 0, sRs2 x⟩
    else ⟨if fld x 5 2 = 0 then 29 else if fld x 5 2 = 1 then 33 else if fld x 5 2 = 2 then 36 else 37, sR1 x, sR1 x, sR2 x, 0⟩) := hid rfl
  have hj4 : fld x 5 2 = 0 ∨ fld x 5 2 = 1 ∨ fld x 5 2 = 2 ∨ fld x 5 2 = 3 := by omega
  have hat5 : ∀ w, Calls Try.prog 48 #[.int .u32 x, .int .i64 6, .int .i64 5] w fun e w' => e = .returned (.int .i64 (fld x 5 2)) ∧ ∃ n, w' = w.drewN n := fun w => at_ x 6 5 w h0 h1 (by omega) (by omega) (by omega)
  have HAT5 := hid hat5
  clear hat5
  have ix0 : ∀ w, (Instr.index 100 (.agg #[.int .i64 29, .int .i64 33, .int .i64 36, .int .i64 37]) (.int .i64 0)).run Try.prog w = .ok (.int .i64 29) w := fun _ => by kernel_rfl
  have ix1 : ∀ w, (Instr.index 100 (.agg #[.int .i64 29, .int .i64 33, .int .i64 36, .int .i64 37]) (.int .i64 1)).run Try.prog w = .ok (.int .i64 33) w := fun _ => by kernel_rfl
  have ix2 : ∀ w, (Instr.index 100 (.agg #[.int .i64 29, .int .i64 33, .int .i64 36, .int .i64 37]) (.int .i64 2)).run Try.prog w = .ok (.int .i64 36) w := fun _ => by kernel_rfl
  have ix3 : ∀ w, (Instr.index 100 (.agg #[.int .i64 29, .int .i64 33, .int .i64 36, .int .i64 37]) (.int .i64 3)).run Try.prog w = .ok (.int .i64 37) w := fun _ => by kernel_rfl
  generalize fld x 5 2 = j at *
  rcases hj4 with rfl | rfl | rfl | rfl
  all_goals
    go_enter Try.func75, Try.ntmps75
    go_wp2_with (first | (go_at_call 48; refine (HAT.out _ _ _ (by omega) (by omega) (by omega)).mono ?_; rintro e w' ⟨rfl, m, rfl⟩) | (first | (go_at_call 70; refine (S.r1 _ _ (by omega) (by omega)).mono ?_; rintro e w' ⟨rfl, _, rfl⟩) | (go_at_call 69; refine (S.r2 _ _ (by omega) (by omega)).mono ?_; rintro e w' ⟨rfl, _, rfl⟩) | (go_at_call 73; refine (S.n6 _ _ (by omega) (by omega)).mono ?_; rintro e w' ⟨rfl, _, rfl⟩) | (go_at_call 78; refine (S.rs2 _ _ (by omega) (by omega)).mono ?_; rintro e w' ⟨rfl, _, rfl⟩)))
    go_region_with ((first | (go_at_call 48; refine (HAT5.out _).mono ?_; rintro e w' ⟨rfl, m, rfl⟩) | (first | (go_at_call 69; refine (S.r2 _ _ (by omega) (by omega)).mono ?_; rintro e w' ⟨rfl, _, rfl⟩))))
    all_goals go_wp2_with (first | (go_at_call 48; refine (HAT.out _ _ _ (by omega) (by omega) (by omega)).mono ?_; rintro e w' ⟨rfl, m, rfl⟩))
    all_goals (first | (have _tok := five4; refine bodyPost_ret (by simp [results, Try.results75, go_sem, five0, five1, five2, five3, five4, fived]; try rfl) rfl ?_) | go_returns)
    all_goals refine ⟨?_, (by repeat' (first | (with_reducible exact Below.refl _ _) | (with_reducible assumption) | (with_reducible refine below_drewN ?_ _) | (with_reducible refine Below.alloc ?_ ?_ _) | (with_reducible refine Below.drew ?_) | (with_reducible refine Below.setCell ?_ ?_ _) | (with_reducible exact Below.size (by assumption)) | go_size))⟩
    all_goals rw [hq.out]
    all_goals clear HAT HAT5 hq ix0 ix1 ix2 ix3
    all_goals simp_all [I5.val, I5.none]
set_option maxHeartbeats 1000000 in
theorem sumsN (x : Int) (w : World) (h0 : 0 ≤ x) (h1 : x < 4294967296) (h3 : fld x 10 2 ≠ 3) :
    Calls Try.prog 75 #[.int .u32 x] w fun e w' => e = .returned (qSums x).val ∧ Below w.heap.size w w' := by
  have HAT := hid (fun w (h l : Int) hl0 hl1 hh => at_ x h l w h0 h1 hl0 hl1 hh)
  have hr1 : 8 ≤ sR1 x ∧ sR1 x < 16 := by have := f3_lt x 7; unfold sR1; omega
  have hr2 : 8 ≤ sR2 x ∧ sR2 x < 16 := by have := f3_lt x 2; unfold sR2; omega
  have hs : 0 ≤ sRs2 x ∧ sRs2 x < 32 := bd5 x 2
  have ho : 0 ≤ fld x 12 1 ∧ fld x 12 1 < 2 := bd1 x 12
  have hk : 0 ≤ fld x 10 2 ∧ fld x 10 2 < 4 := bd2 x 10
  have hj : 0 ≤ fld x 5 2 ∧ fld x 5 2 < 4 := bd2 x 5
  have hq : Hid (qSums x = if fld x 10 2 = 2 then ⟨24, sR1 x, sR1 x, 0, sN6 x⟩ else if fld x 12 1 = 1 then .none else if fld x 10 2 = 0 then ⟨26, sR1 x, sR1 x, 0, sRs2 x⟩ else if fld x 10 2 = 1 then ⟨27, sR1 x, sR1 x, 0, sRs2 x⟩
    else ⟨if fld x 5 2 = 0 then 29 else if fld x 5 2 = 1 then 33 else if fld x 5 2 = 2 then 36 else 37, sR1 x, sR1 x, sR2 x, 0⟩) := hid rfl
  have hk3 : fld x 10 2 = 0 ∨ fld x 10 2 = 1 ∨ fld x 10 2 = 2 := by omega
  clear hk h3
  rcases hk3 with hk3 | hk3 | hk3
  all_goals
    go_enter Try.func75, Try.ntmps75
    go_wp2_with (first | (go_at_call 48; refine (HAT.out _ _ _ (by omega) (by omega) (by omega)).mono ?_; rintro e w' ⟨rfl, m, rfl⟩) | (first | (go_at_call 70; refine (S.r1 _ _ (by omega) (by omega)).mono ?_; rintro e w' ⟨rfl, _, rfl⟩) | (go_at_call 69; refine (S.r2 _ _ (by omega) (by omega)).mono ?_; rintro e w' ⟨rfl, _, rfl⟩) | (go_at_call 73; refine (S.n6 _ _ (by omega) (by omega)).mono ?_; rintro e w' ⟨rfl, _, rfl⟩) | (go_at_call 78; refine (S.rs2 _ _ (by omega) (by omega)).mono ?_; rintro e w' ⟨rfl, _, rfl⟩)))
    all_goals (first | (have _tok := five4; refine bodyPost_ret (by simp [results, Try.results75, go_sem, five0, five1, five2, five3, five4, fived]; try rfl) rfl ?_) | go_returns)
    all_goals refine ⟨?_, (by repeat' (first | (with_reducible exact Below.refl _ _) | (with_reducible assumption) | (with_reducible refine below_drewN ?_ _) | (with_reducible refine Below.alloc ?_ ?_ _) | (with_reducible refine Below.drew ?_) | (with_reducible refine Below.setCell ?_ ?_ _) | (with_reducible exact Below.size (by assumption)) | go_size))⟩
    all_goals rw [hq.out]
    all_goals clear HAT hq
    all_goals simp_all [I5.val, I5.none]
theorem sums (x : Int) (w : World) (h0 : 0 ≤ x) (h1 : x < 4294967296) :
    Calls Try.prog 75 #[.int .u32 x] w fun e w' => e = .returned (qSums x).val ∧ Below w.heap.size w w' :=
  if h : fld x 10 2 = 3 then sums3 x w h0 h1 h else sumsN x w h0 h1 h
theorem sums' (x : Int) (w : World) (h0 : 0 ≤ x) (h1 : x < 4294967296) :
    Calls Try.prog 75 #[.int .u32 x] w fun e w' => e = .returned (.agg #[.int .i64 (qSums x).op, .int .i64 (qSums x).rd, .int .i64 (qSums x).rs1, .int .i64 (qSums x).rs2, .int .i32 (qSums x).imm]) ∧ Below w.heap.size w w' := sums x w h0 h1
set_option maxHeartbeats 1000000 in
theorem second (x : Int) (w : World) (h0 : 0 ≤ x) (h1 : x < 4294967296) :
    Calls Try.prog 50 #[.int .u32 x] w fun e w' => e = .returned (q1 x).val ∧ Below w.heap.size w w' := by
  have HAT := hid (fun w (h l : Int) hl0 hl1 hh => at_ x h l w h0 h1 hl0 hl1 hh)
  have hr1 : 8 ≤ sR1 x ∧ sR1 x < 16 := by have := f3_lt x 7; unfold sR1; omega
  have hd : 0 ≤ sRd x ∧ sRd x < 32 := bd5 x 7
  have hf : 0 ≤ fld x 13 3 ∧ fld x 13 3 < 8 := f3_lt x 13
  have hq : Hid (q1 x = if fld x 13 3 = 0 then ⟨19, sRd x, sRd x, 0, sN6 x⟩ else if fld x 13 3 = 1 then ⟨3, 1, 0, 0, sJ x⟩ else if fld x 13 3 = 2 then ⟨19, sRd x, 0, 0, sN6 x⟩ else if fld x 13 3 = 3 then qUpper x else if fld x 13 3 = 4 then qSums x
    else if fld x 13 3 = 5 then ⟨3, 0, 0, 0, sJ x⟩ else if fld x 13 3 = 6 then ⟨5, 0, sR1 x, 0, sB x⟩ else ⟨6, 0, sR1 x, 0, sB x⟩) := hid rfl
  go_enter Try.func50, Try.ntmps50
  go_wp2_with (first | (go_at_call 48; refine (HAT.out _ _ _ (by omega) (by omega) (by omega)).mono ?_; rintro e w' ⟨rfl, m, rfl⟩) | (first | (go_at_call 72; refine (S.rd _ _ (by omega) (by omega)).mono ?_; rintro e w' ⟨rfl, _, rfl⟩) | (go_at_call 70; refine (S.r1 _ _ (by omega) (by omega)).mono ?_; rintro e w' ⟨rfl, _, rfl⟩) | (go_at_call 73; refine (S.n6 _ _ (by omega) (by omega)).mono ?_; rintro e w' ⟨rfl, _, rfl⟩)) | (go_at_call 76; refine (S.jump _ _ h0 h1).mono ?_; rintro e w' ⟨rfl, hbel⟩; (try (with_reducible replace hbel := bel_undrew hbel)); (try (with_reducible replace hbel := bel_undrewN hbel)); have hbw := bel_step (w := w) (by repeat' (first | (with_reducible exact Below.refl _ _) | (with_reducible assumption) | (with_reducible refine below_drewN ?_ _) | (with_reducible refine Below.alloc ?_ ?_ _) | (with_reducible refine Below.drew ?_) | (with_reducible refine Below.setCell ?_ ?_ _) | (with_reducible exact Below.size (by assumption)) | go_size)) hbel; have hsw := hbw.size; have hsb := hbel.size; (try simp at hsb); (try (refine lay (p := w.heap.size < w'.heap.size) ?_ ?_; rotate_left; intro hq0; rotate_left; omega)); (try (refine lay (p := w.heap.size + 1 < w'.heap.size) ?_ ?_; rotate_left; intro hq1; rotate_left; omega)); (try (refine lay (p := w.heap.size + 2 < w'.heap.size) ?_ ?_; rotate_left; intro hq2; rotate_left; omega)); (try (refine lay (p := w.heap.size + 3 < w'.heap.size) ?_ ?_; rotate_left; intro hq3; rotate_left; omega)); (try (refine lay (p := w.heap.size + 4 < w'.heap.size) ?_ ?_; rotate_left; intro hq4; rotate_left; omega)); (try (refine lay (p := w.heap.size + 5 < w'.heap.size) ?_ ?_; rotate_left; intro hq5; rotate_left; omega)); have hfive : Below (w.heap.size + 1) (w.alloc (.cells #[.int .i64 0, .int .i64 0, .int .i64 0, .int .i64 0, .int .i32 0] 25)) _ := Below.trans (by repeat' (first | (with_reducible exact Below.refl _ _) | (with_reducible assumption) | (with_reducible refine below_drewN ?_ _) | (with_reducible refine Below.alloc ?_ ?_ _) | (with_reducible refine Below.drew ?_) | (with_reducible refine Below.setCell ?_ ?_ _) | (with_reducible exact Below.size (by assumption)) | go_size)) (Below.mono hbel (by first | (simp; done) | (simp; omega) | omega)); obtain ⟨five0, five1, five2, five3, five4⟩ := S.five_old hfive; have fived := S.five_drew hfive; clear hfive; obtain ⟨hcel, hfro⟩ := bcell hbel; clear hbel) | (go_at_call 77; refine (S.branch _ _ h0 h1).mono ?_; rintro e w' ⟨rfl, hbel⟩; (try (with_reducible replace hbel := bel_undrew hbel)); (try (with_reducible replace hbel := bel_undrewN hbel)); have hbw := bel_step (w := w) (by repeat' (first | (with_reducible exact Below.refl _ _) | (with_reducible assumption) | (with_reducible refine below_drewN ?_ _) | (with_reducible refine Below.alloc ?_ ?_ _) | (with_reducible refine Below.drew ?_) | (with_reducible refine Below.setCell ?_ ?_ _) | (with_reducible exact Below.size (by assumption)) | go_size)) hbel; have hsw := hbw.size; have hsb := hbel.size; (try simp at hsb); (try (refine lay (p := w.heap.size < w'.heap.size) ?_ ?_; rotate_left; intro hq0; rotate_left; omega)); (try (refine lay (p := w.heap.size + 1 < w'.heap.size) ?_ ?_; rotate_left; intro hq1; rotate_left; omega)); (try (refine lay (p := w.heap.size + 2 < w'.heap.size) ?_ ?_; rotate_left; intro hq2; rotate_left; omega)); (try (refine lay (p := w.heap.size + 3 < w'.heap.size) ?_ ?_; rotate_left; intro hq3; rotate_left; omega)); (try (refine lay (p := w.heap.size + 4 < w'.heap.size) ?_ ?_; rotate_left; intro hq4; rotate_left; omega)); (try (refine lay (p := w.heap.size + 5 < w'.heap.size) ?_ ?_; rotate_left; intro hq5; rotate_left; omega)); have hfive : Below (w.heap.size + 1) (w.alloc (.cells #[.int .i64 0, .int .i64 0, .int .i64 0, .int .i64 0, .int .i32 0] 25)) _ := Below.trans (by repeat' (first | (with_reducible exact Below.refl _ _) | (with_reducible assumption) | (with_reducible refine below_drewN ?_ _) | (with_reducible refine Below.alloc ?_ ?_ _) | (with_reducible refine Below.drew ?_) | (with_reducible refine Below.setCell ?_ ?_ _) | (with_reducible exact Below.size (by assumption)) | go_size)) (Below.mono hbel (by first | (simp; done) | (simp; omega) | omega)); obtain ⟨five0, five1, five2, five3, five4⟩ := S.five_old hfive; have fived := S.five_drew hfive; clear hfive; obtain ⟨hcel, hfro⟩ := bcell hbel; clear hbel) | (first | (go_at_call 74; refine (S.upper' _ _ (by omega) (by omega)).mono ?_; rintro e w' ⟨rfl, hbel⟩; (try (with_reducible replace hbel := bel_undrew hbel)); (try (with_reducible replace hbel := bel_undrewN hbel)); have hbw := bel_step (w := w) (by repeat' (first | (with_reducible exact Below.refl _ _) | (with_reducible assumption) | (with_reducible refine below_drewN ?_ _) | (with_reducible refine Below.alloc ?_ ?_ _) | (with_reducible refine Below.drew ?_) | (with_reducible refine Below.setCell ?_ ?_ _) | (with_reducible exact Below.size (by assumption)) | go_size)) hbel; have hsw := hbw.size; have hsb := hbel.size; (try simp at hsb); (try (refine lay (p := w.heap.size < w'.heap.size) ?_ ?_; rotate_left; intro hq0; rotate_left; omega)); (try (refine lay (p := w.heap.size + 1 < w'.heap.size) ?_ ?_; rotate_left; intro hq1; rotate_left; omega)); (try (refine lay (p := w.heap.size + 2 < w'.heap.size) ?_ ?_; rotate_left; intro hq2; rotate_left; omega)); (try (refine lay (p := w.heap.size + 3 < w'.heap.size) ?_ ?_; rotate_left; intro hq3; rotate_left; omega)); (try (refine lay (p := w.heap.size + 4 < w'.heap.size) ?_ ?_; rotate_left; intro hq4; rotate_left; omega)); (try (refine lay (p := w.heap.size + 5 < w'.heap.size) ?_ ?_; rotate_left; intro hq5; rotate_left; omega)); have hfive : Below (w.heap.size + 1) (w.alloc (.cells #[.int .i64 0, .int .i64 0, .int .i64 0, .int .i64 0, .int .i32 0] 25)) _ := Below.trans (by repeat' (first | (with_reducible exact Below.refl _ _) | (with_reducible assumption) | (with_reducible refine below_drewN ?_ _) | (with_reducible refine Below.alloc ?_ ?_ _) | (with_reducible refine Below.drew ?_) | (with_reducible refine Below.setCell ?_ ?_ _) | (with_reducible exact Below.size (by assumption)) | go_size)) (Below.mono hbel (by first | (simp; done) | (simp; omega) | omega)); obtain ⟨five0, five1, five2, five3, five4⟩ := S.five_old hfive; have fived := S.five_drew hfive; clear hfive; obtain ⟨hcel, hfro⟩ := bcell hbel; clear hbel)) | (first | (go_at_call 75; refine (S.sums' _ _ (by omega) (by omega)).mono ?_; rintro e w' ⟨rfl, hbel⟩; (try (with_reducible replace hbel := bel_undrew hbel)); (try (with_reducible replace hbel := bel_undrewN hbel)); have hbw := bel_step (w := w) (by repeat' (first | (with_reducible exact Below.refl _ _) | (with_reducible assumption) | (with_reducible refine below_drewN ?_ _) | (with_reducible refine Below.alloc ?_ ?_ _) | (with_reducible refine Below.drew ?_) | (with_reducible refine Below.setCell ?_ ?_ _) | (with_reducible exact Below.size (by assumption)) | go_size)) hbel; have hsw := hbw.size; have hsb := hbel.size; (try simp at hsb); (try (refine lay (p := w.heap.size < w'.heap.size) ?_ ?_; rotate_left; intro hq0; rotate_left; omega)); (try (refine lay (p := w.heap.size + 1 < w'.heap.size) ?_ ?_; rotate_left; intro hq1; rotate_left; omega)); (try (refine lay (p := w.heap.size + 2 < w'.heap.size) ?_ ?_; rotate_left; intro hq2; rotate_left; omega)); (try (refine lay (p := w.heap.size + 3 < w'.heap.size) ?_ ?_; rotate_left; intro hq3; rotate_left; omega)); (try (refine lay (p := w.heap.size + 4 < w'.heap.size) ?_ ?_; rotate_left; intro hq4; rotate_left; omega)); (try (refine lay (p := w.heap.size + 5 < w'.heap.size) ?_ ?_; rotate_left; intro hq5; rotate_left; omega)); have hfive : Below (w.heap.size + 1) (w.alloc (.cells #[.int .i64 0, .int .i64 0, .int .i64 0, .int .i64 0, .int .i32 0] 25)) _ := Below.trans (by repeat' (first | (with_reducible exact Below.refl _ _) | (with_reducible assumption) | (with_reducible refine below_drewN ?_ _) | (with_reducible refine Below.alloc ?_ ?_ _) | (with_reducible refine Below.drew ?_) | (with_reducible refine Below.setCell ?_ ?_ _) | (with_reducible exact Below.size (by assumption)) | go_size)) (Below.mono hbel (by first | (simp; done) | (simp; omega) | omega)); obtain ⟨five0, five1, five2, five3, five4⟩ := S.five_old hfive; have fived := S.five_drew hfive; clear hfive; obtain ⟨hcel, hfro⟩ := bcell hbel; clear hbel)))
  all_goals (first | (have _tok := five4; refine bodyPost_ret (by simp [results, Try.results50, go_sem, five0, five1, five2, five3, five4, fived]; try rfl) rfl ?_) | go_returns)
  all_goals refine ⟨?_, (by repeat' (first | (with_reducible exact Below.refl _ _) | (with_reducible assumption) | (with_reducible refine below_drewN ?_ _) | (with_reducible refine Below.alloc ?_ ?_ _) | (with_reducible refine Below.drew ?_) | (with_reducible refine Below.setCell ?_ ?_ _) | (with_reducible exact Below.size (by assumption)) | go_size))⟩
  all_goals rw [hq.out]
  all_goals clear HAT hq
  all_goals simp_all [I5.val, I5.none]
theorem second' (x : Int) (w : World) (h0 : 0 ≤ x) (h1 : x < 4294967296) :
    Calls Try.prog 50 #[.int .u32 x] w fun e w' => e = .returned (.agg #[.int .i64 (q1 x).op, .int .i64 (q1 x).rd, .int .i64 (q1 x).rs1, .int .i64 (q1 x).rs2, .int .i32 (q1 x).imm]) ∧ Below w.heap.size w w' := second x w h0 h1
end Go.Proofs.Ytplhoiokfjjcdaa.S
