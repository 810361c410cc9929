/- What the functions of package slim compute: the instructions. -/
import Derived.Test.YtplhoiokfjjcdaaSlim2
import Derived.Deep.DrawnRows
namespace Go.Proofs.Ytplhoiokfjjcdaa.S
set_option linter.unusedVariables false
set_option linter.unusedSimpArgs false
open Go.ChangeShapes Go.WideShapes Go.ChangeAt Go.RowKit Go.Proofs.Ytplhoiokfjjcdaa.P Go.Proofs.Ytplhoiokfjjcdaa.W
attribute [local go_sem ↓] Go.wp_at_zero Go.wp_at_succ

theorem bd1 (x : Int) (l : Nat) : 0 ≤ fld x l 1 ∧ fld x l 1 < 2 := fld_bd x l 1
theorem bd2 (x : Int) (l : Nat) : 0 ≤ fld x l 2 ∧ fld x l 2 < 4 := fld_bd x l 2
theorem bd5 (x : Int) (l : Nat) : 0 ≤ fld x l 5 ∧ fld x l 5 < 32 := fld_bd x l 5

set_option maxHeartbeats 1000000 in
theorem moves (x : Int) (w : World) (h0 : 0 ≤ x) (h1 : x < 4294967296) :
    Calls Try.prog 79 #[.int .u32 x] w fun e w' => e = .returned (qMoves x).val ∧ Below w.heap.size w w' := by
  have ha := bd1 x 12
  have hd : 0 ≤ sRd x ∧ sRd x < 32 := bd5 x 7
  have hs : 0 ≤ sRs2 x ∧ sRs2 x < 32 := bd5 x 2
  have hq : Hid (qMoves x = if sRs2 x ≠ 0 then ⟨28, sRd x, if fld x 12 1 = 0 then 0 else sRd x, sRs2 x, 0⟩ else if sRd x ≠ 0 then ⟨4, fld x 12 1, sRd x, 0, 0⟩ else if fld x 12 1 = 1 then ⟨40, 0, 0, 0, 0⟩ else .none) := hid rfl
  have hat : ∀ w, Calls Try.prog 48 #[.int .u32 x, .int .i64 12, .int .i64 12] w fun e w' => e = .returned (.int .i64 (fld x 12 1)) ∧ ∃ n, w' = w.drewN n := fun w => at_ x 12 12 w h0 h1 (by omega) (by omega) (by omega)
  have hrd := fun w => S.rd x w h0 h1
  have hrs := fun w => S.rs2 x w h0 h1
  have HA := hid hat
  have HD := hid hrd
  have HS := hid hrs
  clear hat hrd hrs
  generalize fld x 12 1 = a at *
  generalize sRd x = d at *
  generalize sRs2 x = s at *
  have hm : a = 0 ∨ a = 1 := by omega
  rcases hm with rfl | rfl
  all_goals
    go_enter Try.func79, Try.ntmps79
    go_wp2_with (first | (go_at_call 48; refine (HA.out _).mono ?_; rintro e w' ⟨rfl, m, rfl⟩) | (go_at_call 72; refine (HD.out _).mono ?_; rintro e w' ⟨rfl, m, rfl⟩) | (go_at_call 78; refine (HS.out _).mono ?_; rintro e w' ⟨rfl, m, rfl⟩))
    all_goals go_returns
    all_goals refine ⟨?_, (by repeat' (first | (with_reducible exact Below.refl _ _) | (with_reducible assumption) | (with_reducible refine below_drewN ?_ _) | (with_reducible refine Below.alloc ?_ ?_ _) | (with_reducible refine Below.drew ?_) | (with_reducible refine Below.setCell ?_ ?_ _) | (with_reducible exact Below.size (by assumption)) | go_size))⟩
    all_goals clear HA HD HS
    all_goals rw [hq.out]; simp_all [I5.val, I5.none]
theorem moves' (x : Int) (w : World) (h0 : 0 ≤ x) (h1 : x < 4294967296) :
    Calls Try.prog 79 #[.int .u32 x] w fun e w' => e = .returned (.agg #[.int .i64 (qMoves x).op, .int .i64 (qMoves x).rd, .int .i64 (qMoves x).rs1, .int .i64 (qMoves x).rs2, .int .i32 (qMoves x).imm]) ∧ Below w.heap.size w w' := moves x w h0 h1

theorem joinL (x : Int) : bits .or .i64 (fld x 2 2 * 64) (fld x 12 1 * 32) = fld x 2 2 * 64 + fld x 12 1 * 32 ∧ bits .or .i64 (fld x 2 2 * 64 + fld x 12 1 * 32) (fld x 4 3 * 4) = sL x ∧ 0 ≤ sL x ∧ sL x < 256 := by
  obtain ⟨a0, a1⟩ := bd2 x 2
  obtain ⟨b0, b1⟩ := bd1 x 12
  obtain ⟨c0, c1⟩ := f3_lt x 4
  have e : sL x = (fld x 2 2 * 16 + fld x 12 1 * 8 + fld x 4 3) * 4 := by unfold sL; rw [lwsp_joined]
  rw [e]
  generalize fld x 2 2 = a at *
  generalize fld x 12 1 = b at *
  generalize fld x 4 3 = c at *
  have j1 := or_join64 a (b * 32) 6 (by omega) (by simp; omega) a0 (by simp; omega)
  have j2 := or_join64 (a * 2 + b) (c * 4) 5 (by omega) (by simp; omega) (by omega) (by simp; omega)
  simp at j1 j2
  refine ⟨j1, ?_, by omega, by omega⟩
  have e2 : a * 64 + b * 32 = (a * 2 + b) * 32 := by omega
  rw [e2, j2]; omega
theorem joinS (x : Int) : bits .or .i64 (fld x 7 2 * 64) (fld x 9 4 * 4) = sS x ∧ 0 ≤ sS x ∧ sS x < 256 := by
  obtain ⟨a0, a1⟩ := bd2 x 7
  have hc : 0 ≤ fld x 9 4 ∧ fld x 9 4 < 16 := fld_bd x 9 4
  obtain ⟨c0, c1⟩ := hc
  have e : sS x = (fld x 7 2 * 16 + fld x 9 4) * 4 := by unfold sS; rw [swsp_joined]
  rw [e]
  generalize fld x 7 2 = a at *
  generalize fld x 9 4 = c at *
  have j1 := or_join64 a (c * 4) 6 (by omega) (by simp; omega) a0 (by simp; omega)
  simp at j1
  refine ⟨by rw [j1]; omega, by omega, by omega⟩

set_option maxHeartbeats 1000000 in
theorem third (x : Int) (w : World) (h0 : 0 ≤ x) (h1 : x < 4294967296) :
    Calls Try.prog 51 #[.int .u32 x] w fun e w' => e = .returned (q2 x).val ∧ Below w.heap.size w w' := by
  obtain ⟨j1, j2, l0, l1⟩ := joinL x
  obtain ⟨j3, m0, m1⟩ := joinS x
  obtain ⟨a0, a1⟩ := bd1 x 12
  obtain ⟨u0, u1⟩ := bd2 x 2
  obtain ⟨v0, v1⟩ := f3_lt x 4
  obtain ⟨t0, t1⟩ := bd2 x 7
  have r4 : 0 ≤ fld x 9 4 ∧ fld x 9 4 < 16 := fld_bd x 9 4
  obtain ⟨r40, r41⟩ := r4
  have hs : 0 ≤ sRs2 x ∧ sRs2 x < 32 := bd5 x 2
  have hq : Hid (q2 x = if fld x 13 3 = 0 then (if fld x 12 1 = 0 then ⟨25, sRd x, sRd x, 0, sRs2 x⟩ else .none) else if fld x 13 3 = 2 then (if sRd x = 0 then .none else ⟨13, sRd x, 2, 0, sL x⟩) else if fld x 13 3 = 4 then qMoves x else if fld x 13 3 = 6 then ⟨18, 0, 2, sRs2 x, sS x⟩ else .none) := hid rfl
  have HAT := hid (fun w (h l : Int) hl0 hl1 hh => at_ x h l w h0 h1 hl0 hl1 hh)
  go_enter Try.func51, Try.ntmps51
  go_wp2_with (first | (go_at_call 48; refine (HAT.out _ _ _ (by omega) (by omega) (by omega)).mono ?_; rintro e w' ⟨rfl, m, rfl⟩) | (first | (go_at_call 72; refine (S.rd _ _ (by omega) (by omega)).mono ?_; rintro e w' ⟨rfl, _, rfl⟩) | (go_at_call 78; refine (S.rs2 _ _ (by omega) (by omega)).mono ?_; rintro e w' ⟨rfl, _, rfl⟩)) | (first | (go_at_call 79; refine (S.moves' _ _ (by omega) (by omega)).mono ?_; rintro e w' ⟨rfl, hbel⟩; (try (with_reducible replace hbel := bel_undrew hbel)); (try (with_reducible replace hbel := bel_undrewN hbel)); have hbw := bel_step (w := w) (by repeat' (first | (with_reducible exact Below.refl _ _) | (with_reducible assumption) | (with_reducible refine below_drewN ?_ _) | (with_reducible refine Below.alloc ?_ ?_ _) | (with_reducible refine Below.drew ?_) | (with_reducible refine Below.setCell ?_ ?_ _) | (with_reducible exact Below.size (by assumption)) | go_size)) hbel; have hsw := hbw.size; have hsb := hbel.size; (try simp at hsb); (try (refine lay (p := w.heap.size < w'.heap.size) ?_ ?_; rotate_left; intro hq0; rotate_left; omega)); (try (refine lay (p := w.heap.size + 1 < w'.heap.size) ?_ ?_; rotate_left; intro hq1; rotate_left; omega)); (try (refine lay (p := w.heap.size + 2 < w'.heap.size) ?_ ?_; rotate_left; intro hq2; rotate_left; omega)); (try (refine lay (p := w.heap.size + 3 < w'.heap.size) ?_ ?_; rotate_left; intro hq3; rotate_left; omega)); (try (refine lay (p := w.heap.size + 4 < w'.heap.size) ?_ ?_; rotate_left; intro hq4; rotate_left; omega)); (try (refine lay (p := w.heap.size + 5 < w'.heap.size) ?_ ?_; rotate_left; intro hq5; rotate_left; omega)); have hfive := Below.trans (B := w.heap.size + 1) (by repeat' (first | (with_reducible exact Below.refl _ _) | (with_reducible assumption) | (with_reducible refine below_drewN ?_ _) | (with_reducible refine Below.alloc ?_ ?_ _) | (with_reducible refine Below.drew ?_) | (with_reducible refine Below.setCell ?_ ?_ _) | (with_reducible exact Below.size (by assumption)) | go_size)) (Below.mono hbel (by first | (simp; done) | (simp; omega) | omega)); obtain ⟨five0, five1, five2, five3, five4⟩ := S.five_old hfive; have fived := S.five_drew hfive; clear hfive; obtain ⟨hcel, hfro⟩ := bcell hbel; clear hbel)))
  all_goals (first | (have _tok := five4; refine bodyPost_ret (by simp [results, Try.results51, go_sem, five0, five1, five2, five3, five4, fived]; try rfl) rfl ?_) | go_returns)
  all_goals refine ⟨?_, (by repeat' (first | (with_reducible exact Below.refl _ _) | (with_reducible assumption) | (with_reducible refine below_drewN ?_ _) | (with_reducible refine Below.alloc ?_ ?_ _) | (with_reducible refine Below.drew ?_) | (with_reducible refine Below.setCell ?_ ?_ _) | (with_reducible exact Below.size (by assumption)) | go_size))⟩
  all_goals rw [hq.out]
  all_goals clear HAT hq j1 j2 j3
  all_goals simp_all [I5.val, I5.none]
end Go.Proofs.Ytplhoiokfjjcdaa.S
