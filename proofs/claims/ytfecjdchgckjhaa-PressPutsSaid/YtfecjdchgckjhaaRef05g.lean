/- What typecaseref05.Expand computes. -/
import Derived.Test.YtfecjdchgckjhaaSlim6
import Derived.Test.YtfecjdchgckjhaaRef05a
import Derived.Deep.RegionHeld3
namespace Go.Proofs.Ytfecjdchgckjhaa.R5
set_option linter.unusedVariables false
set_option linter.unusedSimpArgs false
open Go.ChangeShapes Go.WideShapes Go.ChangeAt Go.RowKit Go.Proofs.Ytfecjdchgckjhaa.P Go.Proofs.Ytfecjdchgckjhaa.W
attribute [local go_sem ↓] Go.wp_at_zero Go.wp_at_succ

theorem fld02 (x : Int) : fld x 0 2 = x % 4 := by unfold fld; simp
def I5.is (i : I5) : Bool := decide (0 < i.op)
theorem quarter0' (x : Int) (w : World) (h0 : 0 ≤ x) (h1 : x < 4294967296) :
    Calls Try.prog 30 #[.int .u32 x] w fun e w' => e = .returned (.agg #[.int .i64 (q0 x).op, .int .i64 (q0 x).rd, .int .i64 (q0 x).rs1, .int .i64 (q0 x).rs2, .int .i32 (q0 x).imm]) ∧ Below w.heap.size w w' := quarter0 x w h0 h1
theorem quarter1' (x : Int) (w : World) (h0 : 0 ≤ x) (h1 : x < 4294967296) :
    Calls Try.prog 31 #[.int .u32 x] w fun e w' => e = .returned (.agg #[.int .i64 (q1 x).op, .int .i64 (q1 x).rd, .int .i64 (q1 x).rs1, .int .i64 (q1 x).rs2, .int .i32 (q1 x).imm]) ∧ Below w.heap.size w w' := quarter1 x w h0 h1
theorem quarter2' (x : Int) (w : World) (h0 : 0 ≤ x) (h1 : x < 4294967296) :
    Calls Try.prog 32 #[.int .u32 x] w fun e w' => e = .returned (.agg #[.int .i64 (q2 x).op, .int .i64 (q2 x).rd, .int .i64 (q2 x).rs1, .int .i64 (q2 x).rs2, .int .i32 (q2 x).imm]) ∧ Below w.heap.size w w' := quarter2 x w h0 h1
set_option maxHeartbeats 1000000 in
theorem Expand0 (x : Int) (w : World) (h0 : 0 ≤ x) (h1 : x < 65536) (hk : x % 4 = 0) :
    Calls Try.prog 12 #[.int .u16 x] w fun e w' => e = .returned (.tuple #[(qAll x).val, .bool (decide (0 < (qAll x).op))]) ∧ Below w.heap.size w w' := by
  have hq : Hid (qAll x = if fld x 0 2 = 0 then q0 x else if fld x 0 2 = 1 then q1 x else if fld x 0 2 = 2 then q2 x else .none) := hid rfl
  have HE : Hid (Ending.returned (.tuple #[.agg #[.int .i64 (q0 x).op, .int .i64 (q0 x).rd, .int .i64 (q0 x).rs1, .int .i64 (q0 x).rs2, .int .i32 (q0 x).imm], .bool (decide (0 < (q0 x).op))]) = Ending.returned (.tuple #[(qAll x).val, .bool (decide (0 < (qAll x).op))])) := hid (by rw [hq.out, fld02, hk]; simp [I5.val, I5.none])
  go_enter Try.func12, Try.ntmps12
  go_wp2_with fail
  refine (quarter0' x _ (by omega) (by omega)).mono ?_
  rintro e w1 ⟨rfl, hbel⟩
  have hbw : Below w.heap.size w w1 := bel_step (w := w) (by repeat' (first | (with_reducible exact Below.refl _ _) | (with_reducible assumption) | (with_reducible refine below_drewN ?_ _) | (with_reducible refine Below.alloc ?_ ?_ _) | (with_reducible refine Below.drew ?_) | (with_reducible refine Below.setCell ?_ ?_ _) | (with_reducible exact Below.size (by assumption)) | go_size)) hbel
  obtain ⟨z1, z0, c0, c1, c2, c3, c4, d0, d1, d2, d3, d4, f0, f1, f2, f3, f4, g0, g1, g2, g3, g4⟩ := S.two_old (by simpa using hbel)
  clear hbel
  generalize hB : w.heap.size = b at *
  have HB := hid hB
  clear hB
  obtain ⟨y1, y0, a0, a1, a2, a3, a4, b0, b1, b2, b3, b4, g0, g1, g2, g3, g4, hbw⟩ := S.five_both (.int .i64 (q0 x).op) (.int .i64 (q0 x).rd) (.int .i64 (q0 x).rs1) (.int .i64 (q0 x).rs2) (.int .i32 (q0 x).imm) hbw z1 z0 c0 c1 c2 c3 c4 d0 d1 d2 d3 d4 g0 g1 g2 g3 g4
  have Z := hid (show _ ∧ _ ∧ _ ∧ _ ∧ _ ∧ _ ∧ _ ∧ _ ∧ _ ∧ _ ∧ _ ∧ _ ∧ _ ∧ _ ∧ _ ∧ _ ∧ _ ∧ _ from ⟨y1, y0, a0, a1, a2, a3, a4, b0, b1, b2, b3, b4, g0, g1, g2, g3, g4, hbw⟩)
  clear y1 y0 a0 a1 a2 a3 a4 b0 b1 b2 b3 b4 g0 g1 g2 g3 g4 hbw d0 d1 d2 d3 d4
  go_wp2
  clear c0 c1 c2 c3 c4 f0 f1 f2 f3 f4 z0 z1
  generalize World.setCell _ ⟨b + 1, 4, none⟩ _ = W2 at *
  obtain ⟨y1, y0, a0, a1, a2, a3, a4, b0, b1, b2, b3, b4, g0, g1, g2, g3, g4, hbw⟩ := Z.out
  clear Z
  go_region_held3 (fun W => b < W.heap.size ∧ b + 1 < W.heap.size ∧ W.cell? ⟨b + 1, 0, none⟩ = some (.int .i64 (q0 x).op) ∧ W.cell? ⟨b + 1, 1, none⟩ = some (.int .i64 (q0 x).rd) ∧ W.cell? ⟨b + 1, 2, none⟩ = some (.int .i64 (q0 x).rs1) ∧ W.cell? ⟨b + 1, 3, none⟩ = some (.int .i64 (q0 x).rs2) ∧ W.cell? ⟨b + 1, 4, none⟩ = some (.int .i32 (q0 x).imm) ∧ W.cell? ⟨b, 0, none⟩ = some (cellv W ⟨b, 0, none⟩) ∧ W.cell? ⟨b, 1, none⟩ = some (cellv W ⟨b, 1, none⟩) ∧ W.cell? ⟨b, 2, none⟩ = some (cellv W ⟨b, 2, none⟩) ∧ W.cell? ⟨b, 3, none⟩ = some (cellv W ⟨b, 3, none⟩) ∧ W.cell? ⟨b, 4, none⟩ = some (cellv W ⟨b, 4, none⟩) ∧ W.frozen? ⟨b, 0, none⟩ = false ∧ W.frozen? ⟨b, 1, none⟩ = false ∧ W.frozen? ⟨b, 2, none⟩ = false ∧ W.frozen? ⟨b, 3, none⟩ = false ∧ W.frozen? ⟨b, 4, none⟩ = false) (((repeat' (refine And.intro ?_ ?_)) <;> (first | omega | (go_simp; done) | (refine cell_is ?_; go_simp; done) | (rw [hcel _ _ (by first | omega | (simp; omega))]; go_simp; done) | (rw [hfro _ _ (by first | omega | (simp; omega))]; go_simp; done) | (simp [*]; done)))) (fail)
  rename _ < _ ∧ _ => hH
  clear hH a0 a1 a2 a3 a4 y1 y0 g0 g1 g2 g3 g4
  obtain ⟨t0, t1, t2, t3, t4, hbF⟩ := S.five_all hbw b0 b1 b2 b3 b4 (.int .i64 (q0 x).op) (.int .i64 (q0 x).rd) (.int .i64 (q0 x).rs1) (.int .i64 (q0 x).rs2) (.int .i32 (q0 x).imm)
  clear b0 b1 b2 b3 b4 hbw
  generalize World.setCell _ ⟨b, 4, none⟩ _ = wf at *
  go_wp2
  refine bodyPost_ret (v := .tuple #[.agg #[.int .i64 (q0 x).op, .int .i64 (q0 x).rd, .int .i64 (q0 x).rs1, .int .i64 (q0 x).rs2, .int .i32 (q0 x).imm], .bool (decide (0 < (q0 x).op))]) (by simp [results, Try.results12, go_sem, t0, t1, t2, t3, t4]; try rfl) rfl ⟨HE.out, by rw [HB.out]; exact (by repeat' (first | (with_reducible exact Below.refl _ _) | (with_reducible assumption) | (with_reducible refine below_drewN ?_ _) | (with_reducible refine Below.alloc ?_ ?_ _) | (with_reducible refine Below.drew ?_) | (with_reducible refine Below.setCell ?_ ?_ _) | (with_reducible exact Below.size (by assumption)) | go_size))⟩
set_option maxHeartbeats 1000000 in
theorem Expand1 (x : Int) (w : World) (h0 : 0 ≤ x) (h1 : x < 65536) (hk : x % 4 = 1) :
    Calls Try.prog 12 #[.int .u16 x] w fun e w' => e = .returned (.tuple #[(qAll x).val, .bool (decide (0 < (qAll x).op))]) ∧ Below w.heap.size w w' := by
  have hq : Hid (qAll x = if fld x 0 2 = 0 then q0 x else if fld x 0 2 = 1 then q1 x else if fld x 0 2 = 2 then q2 x else .none) := hid rfl
  have HE : Hid (Ending.returned (.tuple #[.agg #[.int .i64 (q1 x).op, .int .i64 (q1 x).rd, .int .i64 (q1 x).rs1, .int .i64 (q1 x).rs2, .int .i32 (q1 x).imm], .bool (decide (0 < (q1 x).op))]) = Ending.returned (.tuple #[(qAll x).val, .bool (decide (0 < (qAll x).op))])) := hid (by rw [hq.out, fld02, hk]; simp [I5.val, I5.none])
  go_enter Try.func12, Try.ntmps12
  go_wp2_with fail
  refine (quarter1' x _ (by omega) (by omega)).mono ?_
  rintro e w1 ⟨rfl, hbel⟩
  have hbw : Below w.heap.size w w1 := bel_step (w := w) (by repeat' (first | (with_reducible exact Below.refl _ _) | (with_reducible assumption) | (with_reducible refine below_drewN ?_ _) | (with_reducible refine Below.alloc ?_ ?_ _) | (with_reducible refine Below.drew ?_) | (with_reducible refine Below.setCell ?_ ?_ _) | (with_reducible exact Below.size (by assumption)) | go_size)) hbel
  obtain ⟨z1, z0, c0, c1, c2, c3, c4, d0, d1, d2, d3, d4, f0, f1, f2, f3, f4, g0, g1, g2, g3, g4⟩ := S.two_old (by simpa using hbel)
  clear hbel
  generalize hB : w.heap.size = b at *
  have HB := hid hB
  clear hB
  obtain ⟨y1, y0, a0, a1, a2, a3, a4, b0, b1, b2, b3, b4, g0, g1, g2, g3, g4, hbw⟩ := S.five_both (.int .i64 (q1 x).op) (.int .i64 (q1 x).rd) (.int .i64 (q1 x).rs1) (.int .i64 (q1 x).rs2) (.int .i32 (q1 x).imm) hbw z1 z0 c0 c1 c2 c3 c4 d0 d1 d2 d3 d4 g0 g1 g2 g3 g4
  have Z := hid (show _ ∧ _ ∧ _ ∧ _ ∧ _ ∧ _ ∧ _ ∧ _ ∧ _ ∧ _ ∧ _ ∧ _ ∧ _ ∧ _ ∧ _ ∧ _ ∧ _ ∧ _ from ⟨y1, y0, a0, a1, a2, a3, a4, b0, b1, b2, b3, b4, g0, g1, g2, g3, g4, hbw⟩)
  clear y1 y0 a0 a1 a2 a3 a4 b0 b1 b2 b3 b4 g0 g1 g2 g3 g4 hbw d0 d1 d2 d3 d4
  go_wp2
  clear c0 c1 c2 c3 c4 f0 f1 f2 f3 f4 z0 z1
  generalize World.setCell _ ⟨b + 1, 4, none⟩ _ = W2 at *
  obtain ⟨y1, y0, a0, a1, a2, a3, a4, b0, b1, b2, b3, b4, g0, g1, g2, g3, g4, hbw⟩ := Z.out
  clear Z
  go_region_held3 (fun W => b < W.heap.size ∧ b + 1 < W.heap.size ∧ W.cell? ⟨b + 1, 0, none⟩ = some (.int .i64 (q1 x).op) ∧ W.cell? ⟨b + 1, 1, none⟩ = some (.int .i64 (q1 x).rd) ∧ W.cell? ⟨b + 1, 2, none⟩ = some (.int .i64 (q1 x).rs1) ∧ W.cell? ⟨b + 1, 3, none⟩ = some (.int .i64 (q1 x).rs2) ∧ W.cell? ⟨b + 1, 4, none⟩ = some (.int .i32 (q1 x).imm) ∧ W.cell? ⟨b, 0, none⟩ = some (cellv W ⟨b, 0, none⟩) ∧ W.cell? ⟨b, 1, none⟩ = some (cellv W ⟨b, 1, none⟩) ∧ W.cell? ⟨b, 2, none⟩ = some (cellv W ⟨b, 2, none⟩) ∧ W.cell? ⟨b, 3, none⟩ = some (cellv W ⟨b, 3, none⟩) ∧ W.cell? ⟨b, 4, none⟩ = some (cellv W ⟨b, 4, none⟩) ∧ W.frozen? ⟨b, 0, none⟩ = false ∧ W.frozen? ⟨b, 1, none⟩ = false ∧ W.frozen? ⟨b, 2, none⟩ = false ∧ W.frozen? ⟨b, 3, none⟩ = false ∧ W.frozen? ⟨b, 4, none⟩ = false) (((repeat' (refine And.intro ?_ ?_)) <;> (first | omega | (go_simp; done) | (refine cell_is ?_; go_simp; done) | (rw [hcel _ _ (by first | omega | (simp; omega))]; go_simp; done) | (rw [hfro _ _ (by first | omega | (simp; omega))]; go_simp; done) | (simp [*]; done)))) (fail)
  rename _ < _ ∧ _ => hH
  clear hH a0 a1 a2 a3 a4 y1 y0 g0 g1 g2 g3 g4
  obtain ⟨t0, t1, t2, t3, t4, hbF⟩ := S.five_all hbw b0 b1 b2 b3 b4 (.int .i64 (q1 x).op) (.int .i64 (q1 x).rd) (.int .i64 (q1 x).rs1) (.int .i64 (q1 x).rs2) (.int .i32 (q1 x).imm)
  clear b0 b1 b2 b3 b4 hbw
  generalize World.setCell _ ⟨b, 4, none⟩ _ = wf at *
  go_wp2
  refine bodyPost_ret (v := .tuple #[.agg #[.int .i64 (q1 x).op, .int .i64 (q1 x).rd, .int .i64 (q1 x).rs1, .int .i64 (q1 x).rs2, .int .i32 (q1 x).imm], .bool (decide (0 < (q1 x).op))]) (by simp [results, Try.results12, go_sem, t0, t1, t2, t3, t4]; try rfl) rfl ⟨HE.out, by rw [HB.out]; exact (by repeat' (first | (with_reducible exact Below.refl _ _) | (with_reducible assumption) | (with_reducible refine below_drewN ?_ _) | (with_reducible refine Below.alloc ?_ ?_ _) | (with_reducible refine Below.drew ?_) | (with_reducible refine Below.setCell ?_ ?_ _) | (with_reducible exact Below.size (by assumption)) | go_size))⟩
set_option maxHeartbeats 1000000 in
theorem Expand2 (x : Int) (w : World) (h0 : 0 ≤ x) (h1 : x < 65536) (hk : x % 4 = 2) :
    Calls Try.prog 12 #[.int .u16 x] w fun e w' => e = .returned (.tuple #[(qAll x).val, .bool (decide (0 < (qAll x).op))]) ∧ Below w.heap.size w w' := by
  have hq : Hid (qAll x = if fld x 0 2 = 0 then q0 x else if fld x 0 2 = 1 then q1 x else if fld x 0 2 = 2 then q2 x else .none) := hid rfl
  have HE : Hid (Ending.returned (.tuple #[.agg #[.int .i64 (q2 x).op, .int .i64 (q2 x).rd, .int .i64 (q2 x).rs1, .int .i64 (q2 x).rs2, .int .i32 (q2 x).imm], .bool (decide (0 < (q2 x).op))]) = Ending.returned (.tuple #[(qAll x).val, .bool (decide (0 < (qAll x).op))])) := hid (by rw [hq.out, fld02, hk]; simp [I5.val, I5.none])
  go_enter Try.func12, Try.ntmps12
  go_wp2_with fail
  refine (quarter2' x _ (by omega) (by omega)).mono ?_
  rintro e w1 ⟨rfl, hbel⟩
  have hbw : Below w.heap.size w w1 := bel_step (w := w) (by repeat' (first | (with_reducible exact Below.refl _ _) | (with_reducible assumption) | (with_reducible refine below_drewN ?_ _) | (with_reducible refine Below.alloc ?_ ?_ _) | (with_reducible refine Below.drew ?_) | (with_reducible refine Below.setCell ?_ ?_ _) | (with_reducible exact Below.size (by assumption)) | go_size)) hbel
  obtain ⟨z1, z0, c0, c1, c2, c3, c4, d0, d1, d2, d3, d4, f0, f1, f2, f3, f4, g0, g1, g2, g3, g4⟩ := S.two_old (by simpa using hbel)
  clear hbel
  generalize hB : w.heap.size = b at *
  have HB := hid hB
  clear hB
  obtain ⟨y1, y0, a0, a1, a2, a3, a4, b0, b1, b2, b3, b4, g0, g1, g2, g3, g4, hbw⟩ := S.five_both (.int .i64 (q2 x).op) (.int .i64 (q2 x).rd) (.int .i64 (q2 x).rs1) (.int .i64 (q2 x).rs2) (.int .i32 (q2 x).imm) hbw z1 z0 c0 c1 c2 c3 c4 d0 d1 d2 d3 d4 g0 g1 g2 g3 g4
  have Z := hid (show _ ∧ _ ∧ _ ∧ _ ∧ _ ∧ _ ∧ _ ∧ _ ∧ _ ∧ _ ∧ _ ∧ _ ∧ _ ∧ _ ∧ _ ∧ _ ∧ _ ∧ _ from ⟨y1, y0, a0, a1, a2, a3, a4, b0, b1, b2, b3, b4, g0, g1, g2, g3, g4, hbw⟩)
  clear y1 y0 a0 a1 a2 a3 a4 b0 b1 b2 b3 b4 g0 g1 g2 g3 g4 hbw d0 d1 d2 d3 d4
  go_wp2
  clear c0 c1 c2 c3 c4 f0 f1 f2 f3 f4 z0 z1
  generalize World.setCell _ ⟨b + 1, 4, none⟩ _ = W2 at *
  obtain ⟨y1, y0, a0, a1, a2, a3, a4, b0, b1, b2, b3, b4, g0, g1, g2, g3, g4, hbw⟩ := Z.out
  clear Z
  go_region_held3 (fun W => b < W.heap.size ∧ b + 1 < W.heap.size ∧ W.cell? ⟨b + 1, 0, none⟩ = some (.int .i64 (q2 x).op) ∧ W.cell? ⟨b + 1, 1, none⟩ = some (.int .i64 (q2 x).rd) ∧ W.cell? ⟨b + 1, 2, none⟩ = some (.int .i64 (q2 x).rs1) ∧ W.cell? ⟨b + 1, 3, none⟩ = some (.int .i64 (q2 x).rs2) ∧ W.cell? ⟨b + 1, 4, none⟩ = some (.int .i32 (q2 x).imm) ∧ W.cell? ⟨b, 0, none⟩ = some (cellv W ⟨b, 0, none⟩) ∧ W.cell? ⟨b, 1, none⟩ = some (cellv W ⟨b, 1, none⟩) ∧ W.cell? ⟨b, 2, none⟩ = some (cellv W ⟨b, 2, none⟩) ∧ W.cell? ⟨b, 3, none⟩ = some (cellv W ⟨b, 3, none⟩) ∧ W.cell? ⟨b, 4, none⟩ = some (cellv W ⟨b, 4, none⟩) ∧ W.frozen? ⟨b, 0, none⟩ = false ∧ W.frozen? ⟨b, 1, none⟩ = false ∧ W.frozen? ⟨b, 2, none⟩ = false ∧ W.frozen? ⟨b, 3, none⟩ = false ∧ W.frozen? ⟨b, 4, none⟩ = false) (((repeat' (refine And.intro ?_ ?_)) <;> (first | omega | (go_simp; done) | (refine cell_is ?_; go_simp; done) | (rw [hcel _ _ (by first | omega | (simp; omega))]; go_simp; done) | (rw [hfro _ _ (by first | omega | (simp; omega))]; go_simp; done) | (simp [*]; done)))) (fail)
  rename _ < _ ∧ _ => hH
  clear hH a0 a1 a2 a3 a4 y1 y0 g0 g1 g2 g3 g4
  obtain ⟨t0, t1, t2, t3, t4, hbF⟩ := S.five_all hbw b0 b1 b2 b3 b4 (.int .i64 (q2 x).op) (.int .i64 (q2 x).rd) (.int .i64 (q2 x).rs1) (.int .i64 (q2 x).rs2) (.int .i32 (q2 x).imm)
  clear b0 b1 b2 b3 b4 hbw
  generalize World.setCell _ ⟨b, 4, none⟩ _ = wf at *
  go_wp2
  refine bodyPost_ret (v := .tuple #[.agg #[.int .i64 (q2 x).op, .int .i64 (q2 x).rd, .int .i64 (q2 x).rs1, .int .i64 (q2 x).rs2, .int .i32 (q2 x).imm], .bool (decide (0 < (q2 x).op))]) (by simp [results, Try.results12, go_sem, t0, t1, t2, t3, t4]; try rfl) rfl ⟨HE.out, by rw [HB.out]; exact (by repeat' (first | (with_reducible exact Below.refl _ _) | (with_reducible assumption) | (with_reducible refine below_drewN ?_ _) | (with_reducible refine Below.alloc ?_ ?_ _) | (with_reducible refine Below.drew ?_) | (with_reducible refine Below.setCell ?_ ?_ _) | (with_reducible exact Below.size (by assumption)) | go_size))⟩
set_option maxHeartbeats 1000000 in
theorem Expand3 (x : Int) (w : World) (h0 : 0 ≤ x) (h1 : x < 65536) (hk : x % 4 = 3) :
    Calls Try.prog 12 #[.int .u16 x] w fun e w' => e = .returned (.tuple #[(qAll x).val, .bool (decide (0 < (qAll x).op))]) ∧ Below w.heap.size w w' := by
  have hq : Hid (qAll x = if fld x 0 2 = 0 then q0 x else if fld x 0 2 = 1 then q1 x else if fld x 0 2 = 2 then q2 x else .none) := hid rfl
  have HE : Hid (Ending.returned (.tuple #[.agg #[.int .i64 0, .int .i64 0, .int .i64 0, .int .i64 0, .int .i32 0], .bool false]) = Ending.returned (.tuple #[(qAll x).val, .bool (decide (0 < (qAll x).op))])) := hid (by rw [hq.out, fld02, hk]; simp [I5.val, I5.none])
  go_enter Try.func12, Try.ntmps12
  go_wp2_with fail
  have hbw : Below w.heap.size w ((w.alloc (.cells #[.int .i64 0, .int .i64 0, .int .i64 0, .int .i64 0, .int .i32 0] 23)).alloc (.cells #[.int .i64 0, .int .i64 0, .int .i64 0, .int .i64 0, .int .i32 0] 23)) := (by repeat' (first | (with_reducible exact Below.refl _ _) | (with_reducible assumption) | (with_reducible refine below_drewN ?_ _) | (with_reducible refine Below.alloc ?_ ?_ _) | (with_reducible refine Below.drew ?_) | (with_reducible refine Below.setCell ?_ ?_ _) | (with_reducible exact Below.size (by assumption)) | go_size))
  obtain ⟨y1, y0, a0, a1, a2, a3, a4, b0, b1, b2, b3, b4, f0, f1, f2, f3, f4, g0, g1, g2, g3, g4⟩ := S.two_old (w := w) (t := 23) (Below.refl _ _)
  clear f0 f1 f2 f3 f4
  generalize (w.alloc (.cells #[.int .i64 0, .int .i64 0, .int .i64 0, .int .i64 0, .int .i32 0] 23)).alloc (.cells #[.int .i64 0, .int .i64 0, .int .i64 0, .int .i64 0, .int .i32 0] 23) = W2 at *
  generalize hB : w.heap.size = b at *
  have HB := hid hB
  clear hB
  go_region_held3 (fun W => b < W.heap.size ∧ b + 1 < W.heap.size ∧ W.cell? ⟨b + 1, 0, none⟩ = some (.int .i64 0) ∧ W.cell? ⟨b + 1, 1, none⟩ = some (.int .i64 0) ∧ W.cell? ⟨b + 1, 2, none⟩ = some (.int .i64 0) ∧ W.cell? ⟨b + 1, 3, none⟩ = some (.int .i64 0) ∧ W.cell? ⟨b + 1, 4, none⟩ = some (.int .i32 0) ∧ W.cell? ⟨b, 0, none⟩ = some (cellv W ⟨b, 0, none⟩) ∧ W.cell? ⟨b, 1, none⟩ = some (cellv W ⟨b, 1, none⟩) ∧ W.cell? ⟨b, 2, none⟩ = some (cellv W ⟨b, 2, none⟩) ∧ W.cell? ⟨b, 3, none⟩ = some (cellv W ⟨b, 3, none⟩) ∧ W.cell? ⟨b, 4, none⟩ = some (cellv W ⟨b, 4, none⟩) ∧ W.frozen? ⟨b, 0, none⟩ = false ∧ W.frozen? ⟨b, 1, none⟩ = false ∧ W.frozen? ⟨b, 2, none⟩ = false ∧ W.frozen? ⟨b, 3, none⟩ = false ∧ W.frozen? ⟨b, 4, none⟩ = false) (((repeat' (refine And.intro ?_ ?_)) <;> (first | omega | (go_simp; done) | (refine cell_is ?_; go_simp; done) | (rw [hcel _ _ (by first | omega | (simp; omega))]; go_simp; done) | (rw [hfro _ _ (by first | omega | (simp; omega))]; go_simp; done) | (simp [*]; done)))) (fail)
  rename _ < _ ∧ _ => hH
  clear hH a0 a1 a2 a3 a4 y1 y0 g0 g1 g2 g3 g4
  obtain ⟨t0, t1, t2, t3, t4, hbF⟩ := S.five_all hbw b0 b1 b2 b3 b4 (.int .i64 0) (.int .i64 0) (.int .i64 0) (.int .i64 0) (.int .i32 0)
  clear b0 b1 b2 b3 b4 hbw
  generalize World.setCell _ ⟨b, 4, none⟩ _ = wf at *
  go_wp2
  refine bodyPost_ret (v := .tuple #[.agg #[.int .i64 0, .int .i64 0, .int .i64 0, .int .i64 0, .int .i32 0], .bool false]) (by simp [results, Try.results12, go_sem, t0, t1, t2, t3, t4]; try rfl) rfl ⟨HE.out, by rw [HB.out]; exact (by repeat' (first | (with_reducible exact Below.refl _ _) | (with_reducible assumption) | (with_reducible refine below_drewN ?_ _) | (with_reducible refine Below.alloc ?_ ?_ _) | (with_reducible refine Below.drew ?_) | (with_reducible refine Below.setCell ?_ ?_ _) | (with_reducible exact Below.size (by assumption)) | go_size))⟩
theorem Expand (x : Int) (w : World) (h0 : 0 ≤ x) (h1 : x < 65536) :
    Calls Try.prog 12 #[.int .u16 x] w fun e w' => e = .returned (.tuple #[(qAll x).val, .bool (decide (0 < (qAll x).op))]) ∧ Below w.heap.size w w' := by
  have h : x % 4 = 0 ∨ x % 4 = 1 ∨ x % 4 = 2 ∨ x % 4 = 3 := by omega
  rcases h with h | h | h | h
  · exact Expand0 x w h0 h1 h
  · exact Expand1 x w h0 h1 h
  · exact Expand2 x w h0 h1 h
  · exact Expand3 x w h0 h1 h
end Go.Proofs.Ytfecjdchgckjhaa.R5
