/- What slim.Expand computes. -/
import Derived.Test.YtplhoiokfjjcdaaSlim5
import Derived.Deep.RegionHeld3
namespace Go.Proofs.Ytplhoiokfjjcdaa.S
set_option linter.unusedVariables false
set_option linter.unusedSimpArgs false
open Go.ChangeShapes Go.WideShapes Go.ChangeAt Go.RowKit Go.Proofs.Ytplhoiokfjjcdaa.P Go.Proofs.Ytplhoiokfjjcdaa.W
attribute [local go_sem ↓] Go.wp_at_zero Go.wp_at_succ

def qNone (x : Int) : I5 := .none
/-- the answer: the instruction, and whether there is one -/
def I5.told (i : I5) : Value := .tuple #[i.val, .bool (!(i.op == 0))]
/-- behind five stores into a block -/
theorem five_all {w0 w : World} {b : Nat} {u0 u1 u2 u3 u4 : Value} (hb : Below b w0 w) (c0 : w.cell? ⟨b, 0, none⟩ = some u0) (c1 : w.cell? ⟨b, 1, none⟩ = some u1) (c2 : w.cell? ⟨b, 2, none⟩ = some u2) (c3 : w.cell? ⟨b, 3, none⟩ = some u3) (c4 : w.cell? ⟨b, 4, none⟩ = some u4) (v0 v1 v2 v3 v4 : Value) :
    (((((w.setCell ⟨b, 0, none⟩ v0).setCell ⟨b, 1, none⟩ v1).setCell ⟨b, 2, none⟩ v2).setCell ⟨b, 3, none⟩ v3).setCell ⟨b, 4, none⟩ v4).cell? ⟨b, 0, none⟩ = some v0 ∧ (((((w.setCell ⟨b, 0, none⟩ v0).setCell ⟨b, 1, none⟩ v1).setCell ⟨b, 2, none⟩ v2).setCell ⟨b, 3, none⟩ v3).setCell ⟨b, 4, none⟩ v4).cell? ⟨b, 1, none⟩ = some v1 ∧ (((((w.setCell ⟨b, 0, none⟩ v0).setCell ⟨b, 1, none⟩ v1).setCell ⟨b, 2, none⟩ v2).setCell ⟨b, 3, none⟩ v3).setCell ⟨b, 4, none⟩ v4).cell? ⟨b, 2, none⟩ = some v2 ∧ (((((w.setCell ⟨b, 0, none⟩ v0).setCell ⟨b, 1, none⟩ v1).setCell ⟨b, 2, none⟩ v2).setCell ⟨b, 3, none⟩ v3).setCell ⟨b, 4, none⟩ v4).cell? ⟨b, 3, none⟩ = some v3 ∧ (((((w.setCell ⟨b, 0, none⟩ v0).setCell ⟨b, 1, none⟩ v1).setCell ⟨b, 2, none⟩ v2).setCell ⟨b, 3, none⟩ v3).setCell ⟨b, 4, none⟩ v4).cell? ⟨b, 4, none⟩ = some v4 ∧ Below b w0 (((((w.setCell ⟨b, 0, none⟩ v0).setCell ⟨b, 1, none⟩ v1).setCell ⟨b, 2, none⟩ v2).setCell ⟨b, 3, none⟩ v3).setCell ⟨b, 4, none⟩ v4) := by
  obtain ⟨s0, s1, s2, s3, s4⟩ := five_ret c0 c1 c2 c3 c4
  have o : ∀ (W : World) (i j : Nat) (v : Value), i ≠ j → (W.setCell ⟨b, i, none⟩ v).cell? ⟨b, j, none⟩ = W.cell? ⟨b, j, none⟩ := fun W i j v h =>
    World.cell?_setCell_other W _ _ v (fun e => h (by injection e))
  refine ⟨?_, ?_, ?_, ?_, s4 v0 v1 v2 v3 v4, ((((hb.setCell (p := ⟨b, 0, none⟩) (Nat.le_refl _) v0).setCell (p := ⟨b, 1, none⟩) (Nat.le_refl _) v1).setCell (p := ⟨b, 2, none⟩) (Nat.le_refl _) v2).setCell (p := ⟨b, 3, none⟩) (Nat.le_refl _) v3).setCell (p := ⟨b, 4, none⟩) (Nat.le_refl _) v4⟩
  · rw [o _ 4 0 _ (by decide), o _ 3 0 _ (by decide), o _ 2 0 _ (by decide), o _ 1 0 _ (by decide)]; exact s0 v0
  · rw [o _ 4 1 _ (by decide), o _ 3 1 _ (by decide), o _ 2 1 _ (by decide)]; exact s1 v0 v1
  · rw [o _ 4 2 _ (by decide), o _ 3 2 _ (by decide)]; exact s2 v0 v1 v2
  · rw [o _ 4 3 _ (by decide)]; exact s3 v0 v1 v2 v3
theorem five_both {w0 w : World} {b : Nat} (v0 v1 v2 v3 v4 : Value) (hb : Below b w0 w) (z1 : b + 1 < w.heap.size) (z0 : b < w.heap.size)
    (c0 : w.cell? ⟨b + 1, 0, none⟩ = some (.int .i64 0)) (c1 : w.cell? ⟨b + 1, 1, none⟩ = some (.int .i64 0)) (c2 : w.cell? ⟨b + 1, 2, none⟩ = some (.int .i64 0)) (c3 : w.cell? ⟨b + 1, 3, none⟩ = some (.int .i64 0)) (c4 : w.cell? ⟨b + 1, 4, none⟩ = some (.int .i32 0))
    (d0 : w.cell? ⟨b, 0, none⟩ = some (.int .i64 0)) (d1 : w.cell? ⟨b, 1, none⟩ = some (.int .i64 0)) (d2 : w.cell? ⟨b, 2, none⟩ = some (.int .i64 0)) (d3 : w.cell? ⟨b, 3, none⟩ = some (.int .i64 0)) (d4 : w.cell? ⟨b, 4, none⟩ = some (.int .i32 0))
    (g0 : w.frozen? ⟨b, 0, none⟩ = false) (g1 : w.frozen? ⟨b, 1, none⟩ = false) (g2 : w.frozen? ⟨b, 2, none⟩ = false) (g3 : w.frozen? ⟨b, 3, none⟩ = false) (g4 : w.frozen? ⟨b, 4, none⟩ = false) :
    (b + 1 < (((((w.setCell ⟨b + 1, 0, none⟩ v0).setCell ⟨b + 1, 1, none⟩ v1).setCell ⟨b + 1, 2, none⟩ v2).setCell ⟨b + 1, 3, none⟩ v3).setCell ⟨b + 1, 4, none⟩ v4).heap.size) ∧ (b < (((((w.setCell ⟨b + 1, 0, none⟩ v0).setCell ⟨b + 1, 1, none⟩ v1).setCell ⟨b + 1, 2, none⟩ v2).setCell ⟨b + 1, 3, none⟩ v3).setCell ⟨b + 1, 4, none⟩ v4).heap.size) ∧ ((((((w.setCell ⟨b + 1, 0, none⟩ v0).setCell ⟨b + 1, 1, none⟩ v1).setCell ⟨b + 1, 2, none⟩ v2).setCell ⟨b + 1, 3, none⟩ v3).setCell ⟨b + 1, 4, none⟩ v4).cell? ⟨b + 1, 0, none⟩ = some v0) ∧ ((((((w.setCell ⟨b + 1, 0, none⟩ v0).setCell ⟨b + 1, 1, none⟩ v1).setCell ⟨b + 1, 2, none⟩ v2).setCell ⟨b + 1, 3, none⟩ v3).setCell ⟨b + 1, 4, none⟩ v4).cell? ⟨b + 1, 1, none⟩ = some v1) ∧ ((((((w.setCell ⟨b + 1, 0, none⟩ v0).setCell ⟨b + 1, 1, none⟩ v1).setCell ⟨b + 1, 2, none⟩ v2).setCell ⟨b + 1, 3, none⟩ v3).setCell ⟨b + 1, 4, none⟩ v4).cell? ⟨b + 1, 2, none⟩ = some v2) ∧ ((((((w.setCell ⟨b + 1, 0, none⟩ v0).setCell ⟨b + 1, 1, none⟩ v1).setCell ⟨b + 1, 2, none⟩ v2).setCell ⟨b + 1, 3, none⟩ v3).setCell ⟨b + 1, 4, none⟩ v4).cell? ⟨b + 1, 3, none⟩ = some v3) ∧ ((((((w.setCell ⟨b + 1, 0, none⟩ v0).setCell ⟨b + 1, 1, none⟩ v1).setCell ⟨b + 1, 2, none⟩ v2).setCell ⟨b + 1, 3, none⟩ v3).setCell ⟨b + 1, 4, none⟩ v4).cell? ⟨b + 1, 4, none⟩ = some v4) ∧ ((((((w.setCell ⟨b + 1, 0, none⟩ v0).setCell ⟨b + 1, 1, none⟩ v1).setCell ⟨b + 1, 2, none⟩ v2).setCell ⟨b + 1, 3, none⟩ v3).setCell ⟨b + 1, 4, none⟩ v4).cell? ⟨b, 0, none⟩ = some (.int .i64 0)) ∧ ((((((w.setCell ⟨b + 1, 0, none⟩ v0).setCell ⟨b + 1, 1, none⟩ v1).setCell ⟨b + 1, 2, none⟩ v2).setCell ⟨b + 1, 3, none⟩ v3).setCell ⟨b + 1, 4, none⟩ v4).cell? ⟨b, 1, none⟩ = some (.int .i64 0)) ∧ ((((((w.setCell ⟨b + 1, 0, none⟩ v0).setCell ⟨b + 1, 1, none⟩ v1).setCell ⟨b + 1, 2, none⟩ v2).setCell ⟨b + 1, 3, none⟩ v3).setCell ⟨b + 1, 4, none⟩ v4).cell? ⟨b, 2, none⟩ = some (.int .i64 0)) ∧ ((((((w.setCell ⟨b + 1, 0, none⟩ v0).setCell ⟨b + 1, 1, none⟩ v1).setCell ⟨b + 1, 2, none⟩ v2).setCell ⟨b + 1, 3, none⟩ v3).setCell ⟨b + 1, 4, none⟩ v4).cell? ⟨b, 3, none⟩ = some (.int .i64 0)) ∧ ((((((w.setCell ⟨b + 1, 0, none⟩ v0).setCell ⟨b + 1, 1, none⟩ v1).setCell ⟨b + 1, 2, none⟩ v2).setCell ⟨b + 1, 3, none⟩ v3).setCell ⟨b + 1, 4, none⟩ v4).cell? ⟨b, 4, none⟩ = some (.int .i32 0)) ∧ ((((((w.setCell ⟨b + 1, 0, none⟩ v0).setCell ⟨b + 1, 1, none⟩ v1).setCell ⟨b + 1, 2, none⟩ v2).setCell ⟨b + 1, 3, none⟩ v3).setCell ⟨b + 1, 4, none⟩ v4).frozen? ⟨b, 0, none⟩ = false) ∧ ((((((w.setCell ⟨b + 1, 0, none⟩ v0).setCell ⟨b + 1, 1, none⟩ v1).setCell ⟨b + 1, 2, none⟩ v2).setCell ⟨b + 1, 3, none⟩ v3).setCell ⟨b + 1, 4, none⟩ v4).frozen? ⟨b, 1, none⟩ = false) ∧ ((((((w.setCell ⟨b + 1, 0, none⟩ v0).setCell ⟨b + 1, 1, none⟩ v1).setCell ⟨b + 1, 2, none⟩ v2).setCell ⟨b + 1, 3, none⟩ v3).setCell ⟨b + 1, 4, none⟩ v4).frozen? ⟨b, 2, none⟩ = false) ∧ ((((((w.setCell ⟨b + 1, 0, none⟩ v0).setCell ⟨b + 1, 1, none⟩ v1).setCell ⟨b + 1, 2, none⟩ v2).setCell ⟨b + 1, 3, none⟩ v3).setCell ⟨b + 1, 4, none⟩ v4).frozen? ⟨b, 3, none⟩ = false) ∧ ((((((w.setCell ⟨b + 1, 0, none⟩ v0).setCell ⟨b + 1, 1, none⟩ v1).setCell ⟨b + 1, 2, none⟩ v2).setCell ⟨b + 1, 3, none⟩ v3).setCell ⟨b + 1, 4, none⟩ v4).frozen? ⟨b, 4, none⟩ = false) ∧ (Below b w0 (((((w.setCell ⟨b + 1, 0, none⟩ v0).setCell ⟨b + 1, 1, none⟩ v1).setCell ⟨b + 1, 2, none⟩ v2).setCell ⟨b + 1, 3, none⟩ v3).setCell ⟨b + 1, 4, none⟩ v4)) := by
  obtain ⟨s0, s1, s2, s3, s4⟩ := five_ret c0 c1 c2 c3 c4
  have o : ∀ (W : World) (i j : Nat) (v : Value), i ≠ j → (W.setCell ⟨b + 1, i, none⟩ v).cell? ⟨b + 1, j, none⟩ = W.cell? ⟨b + 1, j, none⟩ := fun W i j v h =>
    World.cell?_setCell_other W _ _ v (fun e => h (by injection e))
  have far := fun j => far_five (w := w) (b := b + 1) (c := b) (by omega) v0 v1 v2 v3 v4 j
  refine ⟨by simpa using z1, by simpa using z0, ?_, ?_, ?_, ?_, s4 v0 v1 v2 v3 v4, (far 0).1.trans d0, (far 1).1.trans d1, (far 2).1.trans d2, (far 3).1.trans d3, (far 4).1.trans d4, (far 0).2.trans g0, (far 1).2.trans g1, (far 2).2.trans g2, (far 3).2.trans g3, (far 4).2.trans g4, ?_⟩
  · rw [o _ 4 0 _ (by decide), o _ 3 0 _ (by decide), o _ 2 0 _ (by decide), o _ 1 0 _ (by decide)]; exact s0 v0
  · rw [o _ 4 1 _ (by decide), o _ 3 1 _ (by decide), o _ 2 1 _ (by decide)]; exact s1 v0 v1
  · rw [o _ 4 2 _ (by decide), o _ 3 2 _ (by decide)]; exact s2 v0 v1 v2
  · rw [o _ 4 3 _ (by decide)]; exact s3 v0 v1 v2 v3
  · exact ((((hb.setCell (p := ⟨b + 1, 0, none⟩) (Nat.le_succ _) v0).setCell (p := ⟨b + 1, 1, none⟩) (Nat.le_succ _) v1).setCell (p := ⟨b + 1, 2, none⟩) (Nat.le_succ _) v2).setCell (p := ⟨b + 1, 3, none⟩) (Nat.le_succ _) v3).setCell (p := ⟨b + 1, 4, none⟩) (Nat.le_succ _) v4
/-- the cells of two instructions that are 0, behind a call -/
theorem two_old {w w' : World} {t : TypeId} (h : Below (w.heap.size + 2) (((w.alloc (.cells #[.int .i64 0, .int .i64 0, .int .i64 0, .int .i64 0, .int .i32 0] t)).alloc (.cells #[.int .i64 0, .int .i64 0, .int .i64 0, .int .i64 0, .int .i32 0] t))) w') :
    (w.heap.size + 1 < w'.heap.size) ∧ (w.heap.size < w'.heap.size) ∧
    w'.cell? ⟨w.heap.size + 1, 0, none⟩ = some (.int .i64 0) ∧
    w'.cell? ⟨w.heap.size + 1, 1, none⟩ = some (.int .i64 0) ∧
    w'.cell? ⟨w.heap.size + 1, 2, none⟩ = some (.int .i64 0) ∧
    w'.cell? ⟨w.heap.size + 1, 3, none⟩ = some (.int .i64 0) ∧
    w'.cell? ⟨w.heap.size + 1, 4, none⟩ = some (.int .i32 0) ∧
    w'.cell? ⟨w.heap.size, 0, none⟩ = some (.int .i64 0) ∧
    w'.cell? ⟨w.heap.size, 1, none⟩ = some (.int .i64 0) ∧
    w'.cell? ⟨w.heap.size, 2, none⟩ = some (.int .i64 0) ∧
    w'.cell? ⟨w.heap.size, 3, none⟩ = some (.int .i64 0) ∧
    w'.cell? ⟨w.heap.size, 4, none⟩ = some (.int .i32 0) ∧
    w'.frozen? ⟨w.heap.size + 1, 0, none⟩ = false ∧ w'.frozen? ⟨w.heap.size + 1, 1, none⟩ = false ∧ w'.frozen? ⟨w.heap.size + 1, 2, none⟩ = false ∧ w'.frozen? ⟨w.heap.size + 1, 3, none⟩ = false ∧ w'.frozen? ⟨w.heap.size + 1, 4, none⟩ = false ∧ w'.frozen? ⟨w.heap.size, 0, none⟩ = false ∧ w'.frozen? ⟨w.heap.size, 1, none⟩ = false ∧ w'.frozen? ⟨w.heap.size, 2, none⟩ = false ∧ w'.frozen? ⟨w.heap.size, 3, none⟩ = false ∧ w'.frozen? ⟨w.heap.size, 4, none⟩ = false := by
  have hs := h.size
  simp only [World.size_alloc] at hs
  have hc : ∀ o j, o < w.heap.size + 2 → w'.cell? ⟨o, j, none⟩ = _ := fun o j ho => h.cell (p := ⟨o, j, none⟩) ho
  have hf : ∀ o j, o < w.heap.size + 2 → w'.frozen? ⟨o, j, none⟩ = _ := fun o j ho => h.frozen (p := ⟨o, j, none⟩) ho
  refine ⟨by omega, by omega, ?_, ?_, ?_, ?_, ?_, ?_, ?_, ?_, ?_, ?_, ?_, ?_, ?_, ?_, ?_, ?_, ?_, ?_, ?_, ?_⟩
  all_goals first | (rw [hc _ _ (by omega)]; go_simp; done) | (rw [hf _ _ (by omega)]; go_simp; done) | (rw [hc _ _ (by omega)]; simp) | (rw [hf _ _ (by omega)]; simp)
set_option maxHeartbeats 1000000 in
theorem Expand0 (x : Int) (w : World) (h0 : 0 ≤ x) (h1 : x < 65536) (hk : fld x 0 2 = 0) :
    Calls Try.prog 27 #[.int .u16 x] w fun e w' => e = .returned (I5.told (qAll x)) ∧ Below w.heap.size w w' := by
  have hq : Hid (qAll x = if fld x 0 2 = 0 then q0 x else if fld x 0 2 = 1 then q1 x else if fld x 0 2 = 2 then q2 x else .none) := hid rfl
  have HE : Hid (Ending.returned (.tuple #[.agg #[.int .i64 (q0 x).op, .int .i64 (q0 x).rd, .int .i64 (q0 x).rs1, .int .i64 (q0 x).rs2, .int .i32 (q0 x).imm], .bool (!((q0 x).op == 0))]) = Ending.returned (I5.told (qAll x))) := hid (by rw [hq.out, hk]; simp [I5.told, I5.val, I5.none])
  have HAT := hid (fun w (h l : Int) hl0 hl1 hh => at_ x h l w (by omega) (by omega) hl0 hl1 hh)
  go_enter Try.func27, Try.ntmps27
  go_wp2_with (first | (go_at_call 48; refine (HAT.out _ _ _ (by omega) (by omega) (by omega)).mono ?_; rintro e w' ⟨rfl, m, rfl⟩))
  refine (first' x _ (by omega) (by omega)).mono ?_
  rintro e w1 ⟨rfl, hbel⟩
  replace hbel := bel_undrewN hbel
  have hbw : Below w.heap.size w w1 := bel_step (w := w) (by repeat' (first | (with_reducible exact Below.refl _ _) | (with_reducible assumption) | (with_reducible refine below_drewN ?_ _) | (with_reducible refine Below.alloc ?_ ?_ _) | (with_reducible refine Below.drew ?_) | (with_reducible refine Below.setCell ?_ ?_ _) | (with_reducible exact Below.size (by assumption)) | go_size)) hbel
  obtain ⟨z1, z0, c0, c1, c2, c3, c4, d0, d1, d2, d3, d4, f0, f1, f2, f3, f4, g0, g1, g2, g3, g4⟩ := two_old (by simpa using hbel)
  clear hbel
  generalize hB : w.heap.size = b at *
  have HB := hid hB
  clear hB
  obtain ⟨y1, y0, a0, a1, a2, a3, a4, b0, b1, b2, b3, b4, g0, g1, g2, g3, g4, hbw⟩ := five_both (.int .i64 (q0 x).op) (.int .i64 (q0 x).rd) (.int .i64 (q0 x).rs1) (.int .i64 (q0 x).rs2) (.int .i32 (q0 x).imm) hbw z1 z0 c0 c1 c2 c3 c4 d0 d1 d2 d3 d4 g0 g1 g2 g3 g4
  have Z := hid (show _ ∧ _ ∧ _ ∧ _ ∧ _ ∧ _ ∧ _ ∧ _ ∧ _ ∧ _ ∧ _ ∧ _ ∧ _ ∧ _ ∧ _ ∧ _ ∧ _ ∧ _ from ⟨y1, y0, a0, a1, a2, a3, a4, b0, b1, b2, b3, b4, g0, g1, g2, g3, g4, hbw⟩)
  clear y1 y0 a0 a1 a2 a3 a4 b0 b1 b2 b3 b4 g0 g1 g2 g3 g4 hbw d0 d1 d2 d3 d4
  go_wp2
  clear c0 c1 c2 c3 c4 f0 f1 f2 f3 f4 z0 z1
  generalize World.setCell _ ⟨b + 1, 4, none⟩ _ = W2 at *
  obtain ⟨y1, y0, a0, a1, a2, a3, a4, b0, b1, b2, b3, b4, g0, g1, g2, g3, g4, hbw⟩ := Z.out
  clear Z
  go_region_held3 (fun W => b < W.heap.size ∧ b + 1 < W.heap.size ∧ W.cell? ⟨b + 1, 0, none⟩ = some (.int .i64 (q0 x).op) ∧ W.cell? ⟨b + 1, 1, none⟩ = some (.int .i64 (q0 x).rd) ∧ W.cell? ⟨b + 1, 2, none⟩ = some (.int .i64 (q0 x).rs1) ∧ W.cell? ⟨b + 1, 3, none⟩ = some (.int .i64 (q0 x).rs2) ∧ W.cell? ⟨b + 1, 4, none⟩ = some (.int .i32 (q0 x).imm) ∧ W.cell? ⟨b, 0, none⟩ = some (cellv W ⟨b, 0, none⟩) ∧ W.cell? ⟨b, 1, none⟩ = some (cellv W ⟨b, 1, none⟩) ∧ W.cell? ⟨b, 2, none⟩ = some (cellv W ⟨b, 2, none⟩) ∧ W.cell? ⟨b, 3, none⟩ = some (cellv W ⟨b, 3, none⟩) ∧ W.cell? ⟨b, 4, none⟩ = some (cellv W ⟨b, 4, none⟩) ∧ W.frozen? ⟨b, 0, none⟩ = false ∧ W.frozen? ⟨b, 1, none⟩ = false ∧ W.frozen? ⟨b, 2, none⟩ = false ∧ W.frozen? ⟨b, 3, none⟩ = false ∧ W.frozen? ⟨b, 4, none⟩ = false) (((repeat' (refine And.intro ?_ ?_)) <;> (first | omega | (go_simp; done) | (refine cell_is ?_; go_simp; done) | (rw [hcel _ _ (by first | omega | (simp; omega))]; go_simp; done) | (rw [hfro _ _ (by first | omega | (simp; omega))]; go_simp; done) | (simp [*]; done)))) (fail)
  rename _ < _ ∧ _ => hH
  clear hH a0 a1 a2 a3 a4 y1 y0 g0 g1 g2 g3 g4
  obtain ⟨t0, t1, t2, t3, t4, hbF⟩ := five_all hbw b0 b1 b2 b3 b4 (.int .i64 (q0 x).op) (.int .i64 (q0 x).rd) (.int .i64 (q0 x).rs1) (.int .i64 (q0 x).rs2) (.int .i32 (q0 x).imm)
  clear b0 b1 b2 b3 b4 hbw
  generalize World.setCell _ ⟨b, 4, none⟩ _ = wf at *
  go_wp2
  refine bodyPost_ret (v := .tuple #[.agg #[.int .i64 (q0 x).op, .int .i64 (q0 x).rd, .int .i64 (q0 x).rs1, .int .i64 (q0 x).rs2, .int .i32 (q0 x).imm], .bool (!((q0 x).op == 0))]) (by simp [results, Try.results27, go_sem, t0, t1, t2, t3, t4]; try rfl) rfl ⟨HE.out, by rw [HB.out]; exact (by repeat' (first | (with_reducible exact Below.refl _ _) | (with_reducible assumption) | (with_reducible refine below_drewN ?_ _) | (with_reducible refine Below.alloc ?_ ?_ _) | (with_reducible refine Below.drew ?_) | (with_reducible refine Below.setCell ?_ ?_ _) | (with_reducible exact Below.size (by assumption)) | go_size))⟩
set_option maxHeartbeats 1000000 in
theorem Expand1 (x : Int) (w : World) (h0 : 0 ≤ x) (h1 : x < 65536) (hk : fld x 0 2 = 1) :
    Calls Try.prog 27 #[.int .u16 x] w fun e w' => e = .returned (I5.told (qAll x)) ∧ Below w.heap.size w w' := by
  have hq : Hid (qAll x = if fld x 0 2 = 0 then q0 x else if fld x 0 2 = 1 then q1 x else if fld x 0 2 = 2 then q2 x else .none) := hid rfl
  have HE : Hid (Ending.returned (.tuple #[.agg #[.int .i64 (q1 x).op, .int .i64 (q1 x).rd, .int .i64 (q1 x).rs1, .int .i64 (q1 x).rs2, .int .i32 (q1 x).imm], .bool (!((q1 x).op == 0))]) = Ending.returned (I5.told (qAll x))) := hid (by rw [hq.out, hk]; simp [I5.told, I5.val, I5.none])
  have HAT := hid (fun w (h l : Int) hl0 hl1 hh => at_ x h l w (by omega) (by omega) hl0 hl1 hh)
  go_enter Try.func27, Try.ntmps27
  go_wp2_with (first | (go_at_call 48; refine (HAT.out _ _ _ (by omega) (by omega) (by omega)).mono ?_; rintro e w' ⟨rfl, m, rfl⟩))
  refine (second' x _ (by omega) (by omega)).mono ?_
  rintro e w1 ⟨rfl, hbel⟩
  replace hbel := bel_undrewN hbel
  have hbw : Below w.heap.size w w1 := bel_step (w := w) (by repeat' (first | (with_reducible exact Below.refl _ _) | (with_reducible assumption) | (with_reducible refine below_drewN ?_ _) | (with_reducible refine Below.alloc ?_ ?_ _) | (with_reducible refine Below.drew ?_) | (with_reducible refine Below.setCell ?_ ?_ _) | (with_reducible exact Below.size (by assumption)) | go_size)) hbel
  obtain ⟨z1, z0, c0, c1, c2, c3, c4, d0, d1, d2, d3, d4, f0, f1, f2, f3, f4, g0, g1, g2, g3, g4⟩ := two_old (by simpa using hbel)
  clear hbel
  generalize hB : w.heap.size = b at *
  have HB := hid hB
  clear hB
  obtain ⟨y1, y0, a0, a1, a2, a3, a4, b0, b1, b2, b3, b4, g0, g1, g2, g3, g4, hbw⟩ := five_both (.int .i64 (q1 x).op) (.int .i64 (q1 x).rd) (.int .i64 (q1 x).rs1) (.int .i64 (q1 x).rs2) (.int .i32 (q1 x).imm) hbw z1 z0 c0 c1 c2 c3 c4 d0 d1 d2 d3 d4 g0 g1 g2 g3 g4
  have Z := hid (show _ ∧ _ ∧ _ ∧ _ ∧ _ ∧ _ ∧ _ ∧ _ ∧ _ ∧ _ ∧ _ ∧ _ ∧ _ ∧ _ ∧ _ ∧ _ ∧ _ ∧ _ from ⟨y1, y0, a0, a1, a2, a3, a4, b0, b1, b2, b3, b4, g0, g1, g2, g3, g4, hbw⟩)
  clear y1 y0 a0 a1 a2 a3 a4 b0 b1 b2 b3 b4 g0 g1 g2 g3 g4 hbw d0 d1 d2 d3 d4
  go_wp2
  clear c0 c1 c2 c3 c4 f0 f1 f2 f3 f4 z0 z1
  generalize World.setCell _ ⟨b + 1, 4, none⟩ _ = W2 at *
  obtain ⟨y1, y0, a0, a1, a2, a3, a4, b0, b1, b2, b3, b4, g0, g1, g2, g3, g4, hbw⟩ := Z.out
  clear Z
  go_region_held3 (fun W => b < W.heap.size ∧ b + 1 < W.heap.size ∧ W.cell? ⟨b + 1, 0, none⟩ = some (.int .i64 (q1 x).op) ∧ W.cell? ⟨b + 1, 1, none⟩ = some (.int .i64 (q1 x).rd) ∧ W.cell? ⟨b + 1, 2, none⟩ = some (.int .i64 (q1 x).rs1) ∧ W.cell? ⟨b + 1, 3, none⟩ = some (.int .i64 (q1 x).rs2) ∧ W.cell? ⟨b + 1, 4, none⟩ = some (.int .i32 (q1 x).imm) ∧ W.cell? ⟨b, 0, none⟩ = some (cellv W ⟨b, 0, none⟩) ∧ W.cell? ⟨b, 1, none⟩ = some (cellv W ⟨b, 1, none⟩) ∧ W.cell? ⟨b, 2, none⟩ = some (cellv W ⟨b, 2, none⟩) ∧ W.cell? ⟨b, 3, none⟩ = some (cellv W ⟨b, 3, none⟩) ∧ W.cell? ⟨b, 4, none⟩ = some (cellv W ⟨b, 4, none⟩) ∧ W.frozen? ⟨b, 0, none⟩ = false ∧ W.frozen? ⟨b, 1, none⟩ = false ∧ W.frozen? ⟨b, 2, none⟩ = false ∧ W.frozen? ⟨b, 3, none⟩ = false ∧ W.frozen? ⟨b, 4, none⟩ = false) (((repeat' (refine And.intro ?_ ?_)) <;> (first | omega | (go_simp; done) | (refine cell_is ?_; go_simp; done) | (rw [hcel _ _ (by first | omega | (simp; omega))]; go_simp; done) | (rw [hfro _ _ (by first | omega | (simp; omega))]; go_simp; done) | (simp [*]; done)))) (fail)
  rename _ < _ ∧ _ => hH
  clear hH a0 a1 a2 a3 a4 y1 y0 g0 g1 g2 g3 g4
  obtain ⟨t0, t1, t2, t3, t4, hbF⟩ := five_all hbw b0 b1 b2 b3 b4 (.int .i64 (q1 x).op) (.int .i64 (q1 x).rd) (.int .i64 (q1 x).rs1) (.int .i64 (q1 x).rs2) (.int .i32 (q1 x).imm)
  clear b0 b1 b2 b3 b4 hbw
  generalize World.setCell _ ⟨b, 4, none⟩ _ = wf at *
  go_wp2
  refine bodyPost_ret (v := .tuple #[.agg #[.int .i64 (q1 x).op, .int .i64 (q1 x).rd, .int .i64 (q1 x).rs1, .int .i64 (q1 x).rs2, .int .i32 (q1 x).imm], .bool (!((q1 x).op == 0))]) (by simp [results, Try.results27, go_sem, t0, t1, t2, t3, t4]; try rfl) rfl ⟨HE.out, by rw [HB.out]; exact (by repeat' (first | (with_reducible exact Below.refl _ _) | (with_reducible assumption) | (with_reducible refine below_drewN ?_ _) | (with_reducible refine Below.alloc ?_ ?_ _) | (with_reducible refine Below.drew ?_) | (with_reducible refine Below.setCell ?_ ?_ _) | (with_reducible exact Below.size (by assumption)) | go_size))⟩
set_option maxHeartbeats 1000000 in
theorem Expand2 (x : Int) (w : World) (h0 : 0 ≤ x) (h1 : x < 65536) (hk : fld x 0 2 = 2) :
    Calls Try.prog 27 #[.int .u16 x] w fun e w' => e = .returned (I5.told (qAll x)) ∧ Below w.heap.size w w' := by
  have hq : Hid (qAll x = if fld x 0 2 = 0 then q0 x else if fld x 0 2 = 1 then q1 x else if fld x 0 2 = 2 then q2 x else .none) := hid rfl
  have HE : Hid (Ending.returned (.tuple #[.agg #[.int .i64 (q2 x).op, .int .i64 (q2 x).rd, .int .i64 (q2 x).rs1, .int .i64 (q2 x).rs2, .int .i32 (q2 x).imm], .bool (!((q2 x).op == 0))]) = Ending.returned (I5.told (qAll x))) := hid (by rw [hq.out, hk]; simp [I5.told, I5.val, I5.none])
  have HAT := hid (fun w (h l : Int) hl0 hl1 hh => at_ x h l w (by omega) (by omega) hl0 hl1 hh)
  go_enter Try.func27, Try.ntmps27
  go_wp2_with (first | (go_at_call 48; refine (HAT.out _ _ _ (by omega) (by omega) (by omega)).mono ?_; rintro e w' ⟨rfl, m, rfl⟩))
  refine (third' x _ (by omega) (by omega)).mono ?_
  rintro e w1 ⟨rfl, hbel⟩
  replace hbel := bel_undrewN hbel
  have hbw : Below w.heap.size w w1 := bel_step (w := w) (by repeat' (first | (with_reducible exact Below.refl _ _) | (with_reducible assumption) | (with_reducible refine below_drewN ?_ _) | (with_reducible refine Below.alloc ?_ ?_ _) | (with_reducible refine Below.drew ?_) | (with_reducible refine Below.setCell ?_ ?_ _) | (with_reducible exact Below.size (by assumption)) | go_size)) hbel
  obtain ⟨z1, z0, c0, c1, c2, c3, c4, d0, d1, d2, d3, d4, f0, f1, f2, f3, f4, g0, g1, g2, g3, g4⟩ := two_old (by simpa using hbel)
  clear hbel
  generalize hB : w.heap.size = b at *
  have HB := hid hB
  clear hB
  obtain ⟨y1, y0, a0, a1, a2, a3, a4, b0, b1, b2, b3, b4, g0, g1, g2, g3, g4, hbw⟩ := five_both (.int .i64 (q2 x).op) (.int .i64 (q2 x).rd) (.int .i64 (q2 x).rs1) (.int .i64 (q2 x).rs2) (.int .i32 (q2 x).imm) hbw z1 z0 c0 c1 c2 c3 c4 d0 d1 d2 d3 d4 g0 g1 g2 g3 g4
  have Z := hid (show _ ∧ _ ∧ _ ∧ _ ∧ _ ∧ _ ∧ _ ∧ _ ∧ _ ∧ _ ∧ _ ∧ _ ∧ _ ∧ _ ∧ _ ∧ _ ∧ _ ∧ _ from ⟨y1, y0, a0, a1, a2, a3, a4, b0, b1, b2, b3, b4, g0, g1, g2, g3, g4, hbw⟩)
  clear y1 y0 a0 a1 a2 a3 a4 b0 b1 b2 b3 b4 g0 g1 g2 g3 g4 hbw d0 d1 d2 d3 d4
  go_wp2
  clear c0 c1 c2 c3 c4 f0 f1 f2 f3 f4 z0 z1
  generalize World.setCell _ ⟨b + 1, 4, none⟩ _ = W2 at *
  obtain ⟨y1, y0, a0, a1, a2, a3, a4, b0, b1, b2, b3, b4, g0, g1, g2, g3, g4, hbw⟩ := Z.out
  clear Z
  go_region_held3 (fun W => b < W.heap.size ∧ b + 1 < W.heap.size ∧ W.cell? ⟨b + 1, 0, none⟩ = some (.int .i64 (q2 x).op) ∧ W.cell? ⟨b + 1, 1, none⟩ = some (.int .i64 (q2 x).rd) ∧ W.cell? ⟨b + 1, 2, none⟩ = some (.int .i64 (q2 x).rs1) ∧ W.cell? ⟨b + 1, 3, none⟩ = some (.int .i64 (q2 x).rs2) ∧ W.cell? ⟨b + 1, 4, none⟩ = some (.int .i32 (q2 x).imm) ∧ W.cell? ⟨b, 0, none⟩ = some (cellv W ⟨b, 0, none⟩) ∧ W.cell? ⟨b, 1, none⟩ = some (cellv W ⟨b, 1, none⟩) ∧ W.cell? ⟨b, 2, none⟩ = some (cellv W ⟨b, 2, none⟩) ∧ W.cell? ⟨b, 3, none⟩ = some (cellv W ⟨b, 3, none⟩) ∧ W.cell? ⟨b, 4, none⟩ = some (cellv W ⟨b, 4, none⟩) ∧ W.frozen? ⟨b, 0, none⟩ = false ∧ W.frozen? ⟨b, 1, none⟩ = false ∧ W.frozen? ⟨b, 2, none⟩ = false ∧ W.frozen? ⟨b, 3, none⟩ = false ∧ W.frozen? ⟨b, 4, none⟩ = false) (((repeat' (refine And.intro ?_ ?_)) <;> (first | omega | (go_simp; done) | (refine cell_is ?_; go_simp; done) | (rw [hcel _ _ (by first | omega | (simp; omega))]; go_simp; done) | (rw [hfro _ _ (by first | omega | (simp; omega))]; go_simp; done) | (simp [*]; done)))) (fail)
  rename _ < _ ∧ _ => hH
  clear hH a0 a1 a2 a3 a4 y1 y0 g0 g1 g2 g3 g4
  obtain ⟨t0, t1, t2, t3, t4, hbF⟩ := five_all hbw b0 b1 b2 b3 b4 (.int .i64 (q2 x).op) (.int .i64 (q2 x).rd) (.int .i64 (q2 x).rs1) (.int .i64 (q2 x).rs2) (.int .i32 (q2 x).imm)
  clear b0 b1 b2 b3 b4 hbw
  generalize World.setCell _ ⟨b, 4, none⟩ _ = wf at *
  go_wp2
  refine bodyPost_ret (v := .tuple #[.agg #[.int .i64 (q2 x).op, .int .i64 (q2 x).rd, .int .i64 (q2 x).rs1, .int .i64 (q2 x).rs2, .int .i32 (q2 x).imm], .bool (!((q2 x).op == 0))]) (by simp [results, Try.results27, go_sem, t0, t1, t2, t3, t4]; try rfl) rfl ⟨HE.out, by rw [HB.out]; exact (by repeat' (first | (with_reducible exact Below.refl _ _) | (with_reducible assumption) | (with_reducible refine below_drewN ?_ _) | (with_reducible refine Below.alloc ?_ ?_ _) | (with_reducible refine Below.drew ?_) | (with_reducible refine Below.setCell ?_ ?_ _) | (with_reducible exact Below.size (by assumption)) | go_size))⟩
set_option maxHeartbeats 1000000 in
theorem Expand3 (x : Int) (w : World) (h0 : 0 ≤ x) (h1 : x < 65536) (hk : fld x 0 2 = 3) :
    Calls Try.prog 27 #[.int .u16 x] w fun e w' => e = .returned (I5.told (qAll x)) ∧ Below w.heap.size w w' := by
  have hq : Hid (qAll x = if fld x 0 2 = 0 then q0 x else if fld x 0 2 = 1 then q1 x else if fld x 0 2 = 2 then q2 x else .none) := hid rfl
  have HE : Hid (Ending.returned (.tuple #[.agg #[.int .i64 0, .int .i64 0, .int .i64 0, .int .i64 0, .int .i32 0], .bool false]) = Ending.returned (I5.told (qAll x))) := hid (by rw [hq.out, hk]; simp [I5.told, I5.val, I5.none])
  have HAT := hid (fun w (h l : Int) hl0 hl1 hh => at_ x h l w (by omega) (by omega) hl0 hl1 hh)
  go_enter Try.func27, Try.ntmps27
  go_wp2_with (first | (go_at_call 48; refine (HAT.out _ _ _ (by omega) (by omega) (by omega)).mono ?_; rintro e w' ⟨rfl, m, rfl⟩))
  have hbw : Below w.heap.size w ((w.alloc (.cells #[.int .i64 0, .int .i64 0, .int .i64 0, .int .i64 0, .int .i32 0] 25)).alloc (.cells #[.int .i64 0, .int .i64 0, .int .i64 0, .int .i64 0, .int .i32 0] 25)) := (by repeat' (first | (with_reducible exact Below.refl _ _) | (with_reducible assumption) | (with_reducible refine below_drewN ?_ _) | (with_reducible refine Below.alloc ?_ ?_ _) | (with_reducible refine Below.drew ?_) | (with_reducible refine Below.setCell ?_ ?_ _) | (with_reducible exact Below.size (by assumption)) | go_size))
  obtain ⟨y1, y0, a0, a1, a2, a3, a4, b0, b1, b2, b3, b4, f0, f1, f2, f3, f4, g0, g1, g2, g3, g4⟩ := two_old (w := w) (t := 25) (Below.refl _ _)
  clear f0 f1 f2 f3 f4
  generalize (w.alloc (.cells #[.int .i64 0, .int .i64 0, .int .i64 0, .int .i64 0, .int .i32 0] 25)).alloc (.cells #[.int .i64 0, .int .i64 0, .int .i64 0, .int .i64 0, .int .i32 0] 25) = W2 at *
  generalize hB : w.heap.size = b at *
  have HB := hid hB
  clear hB
  go_region_held3 (fun W => b < W.heap.size ∧ b + 1 < W.heap.size ∧ W.cell? ⟨b + 1, 0, none⟩ = some (.int .i64 0) ∧ W.cell? ⟨b + 1, 1, none⟩ = some (.int .i64 0) ∧ W.cell? ⟨b + 1, 2, none⟩ = some (.int .i64 0) ∧ W.cell? ⟨b + 1, 3, none⟩ = some (.int .i64 0) ∧ W.cell? ⟨b + 1, 4, none⟩ = some (.int .i32 0) ∧ W.cell? ⟨b, 0, none⟩ = some (cellv W ⟨b, 0, none⟩) ∧ W.cell? ⟨b, 1, none⟩ = some (cellv W ⟨b, 1, none⟩) ∧ W.cell? ⟨b, 2, none⟩ = some (cellv W ⟨b, 2, none⟩) ∧ W.cell? ⟨b, 3, none⟩ = some (cellv W ⟨b, 3, none⟩) ∧ W.cell? ⟨b, 4, none⟩ = some (cellv W ⟨b, 4, none⟩) ∧ W.frozen? ⟨b, 0, none⟩ = false ∧ W.frozen? ⟨b, 1, none⟩ = false ∧ W.frozen? ⟨b, 2, none⟩ = false ∧ W.frozen? ⟨b, 3, none⟩ = false ∧ W.frozen? ⟨b, 4, none⟩ = false) (((repeat' (refine And.intro ?_ ?_)) <;> (first | omega | (go_simp; done) | (refine cell_is ?_; go_simp; done) | (rw [hcel _ _ (by first | omega | (simp; omega))]; go_simp; done) | (rw [hfro _ _ (by first | omega | (simp; omega))]; go_simp; done) | (simp [*]; done)))) (fail)
  rename _ < _ ∧ _ => hH
  clear hH a0 a1 a2 a3 a4 y1 y0 g0 g1 g2 g3 g4
  obtain ⟨t0, t1, t2, t3, t4, hbF⟩ := five_all (w := W2.drewN (m + 1)) (below_drewN hbw _) b0 b1 b2 b3 b4 (.int .i64 0) (.int .i64 0) (.int .i64 0) (.int .i64 0) (.int .i32 0)
  clear b0 b1 b2 b3 b4 hbw
  generalize World.setCell _ ⟨b, 4, none⟩ _ = wf at *
  go_wp2
  refine bodyPost_ret (v := .tuple #[.agg #[.int .i64 0, .int .i64 0, .int .i64 0, .int .i64 0, .int .i32 0], .bool false]) (by simp [results, Try.results27, go_sem, t0, t1, t2, t3, t4]; try rfl) rfl ⟨HE.out, by rw [HB.out]; exact (by repeat' (first | (with_reducible exact Below.refl _ _) | (with_reducible assumption) | (with_reducible refine below_drewN ?_ _) | (with_reducible refine Below.alloc ?_ ?_ _) | (with_reducible refine Below.drew ?_) | (with_reducible refine Below.setCell ?_ ?_ _) | (with_reducible exact Below.size (by assumption)) | go_size))⟩
theorem Expand (x : Int) (w : World) (h0 : 0 ≤ x) (h1 : x < 65536) :
    Calls Try.prog 27 #[.int .u16 x] w fun e w' => e = .returned (I5.told (qAll x)) ∧ Below w.heap.size w w' := by
  have hk : 0 ≤ fld x 0 2 ∧ fld x 0 2 < 4 := bd2 x 0
  have h : fld x 0 2 = 0 ∨ fld x 0 2 = 1 ∨ fld x 0 2 = 2 ∨ fld x 0 2 = 3 := by omega
  rcases h with h | h | h | h
  · exact Expand0 x w h0 h1 h
  · exact Expand1 x w h0 h1 h
  · exact Expand2 x w h0 h1 h
  · exact Expand3 x w h0 h1 h
end Go.Proofs.Ytplhoiokfjjcdaa.S
