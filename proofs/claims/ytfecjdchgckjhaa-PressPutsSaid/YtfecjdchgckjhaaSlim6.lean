/- What slim.Expand computes. -/
import Derived.Test.YtfecjdchgckjhaaSlim
import Derived.Deep.RegionHeld3
namespace Go.Proofs.Ytfecjdchgckjhaa.S
set_option linter.unusedVariables false
set_option linter.unusedSimpArgs false
open Go.ChangeShapes Go.WideShapes Go.ChangeAt Go.RowKit Go.Proofs.Ytfecjdchgckjhaa.P Go.Proofs.Ytfecjdchgckjhaa.W
attribute [local go_sem ↓] Go.wp_at_zero Go.wp_at_succ

def qNone (x : Int) : I5 := .none
/-- the answer: the instruction, and whether there is one -/
def I5.told (i : I5) : Value := .tuple #[i.val, .bool (!(i.op == 0))]
/-- behind five stores into a block -/
theorem five_all {w0 w : World} {b : Nat} {u0 u1 u2 u3 u4 : Value} (hb : Below b w0 w) (c0 : w.cell? ⟨b, 0, none⟩ = some u0) (c1 : w.cell? ⟨b, 1, none⟩ = some u1) (c2 : w.cell? ⟨b, 2, none⟩ = some u2) (c3 : w.cell? ⟨b, 3, none⟩ = some u3) (c4 : w.cell? ⟨b, 4, none⟩ = some u4) (v0 v1 v2 v3 v4 : Value) :
    (((((w.setCell ⟨b, 0, none⟩ v0).setCell ⟨b, 1, none⟩ v1).setCell ⟨b, 2, none⟩ v2).setCell ⟨b, 3, none⟩ v3).setCell ⟨b, 4, none⟩ v4).cell? ⟨b, 0, none⟩ = some v0 ∧ (((((w.setCell ⟨b, 0, none⟩ v0).setCell ⟨b, 1, none⟩ v1).setCell ⟨b, 2, none⟩ v2).setCell ⟨b, 3, none⟩ v3).setCell ⟨b, 4, none⟩ v4).cell? ⟨b, 1, none⟩ = some v1 ∧ (((((w.setCell ⟨b, 0, none⟩ v0).setCell ⟨b, 1, none⟩ v1).setCell ⟨b, 2, none⟩ v2).setCell ⟨b, 3, none⟩ v3).setCell ⟨b, 4, none⟩ v4).cell? ⟨b, 2, none⟩ = some v2 ∧ (((((w.setCell ⟨b, 0, none⟩ v0).setCell ⟨b, 1, none⟩ v1).setCell ⟨b, 2, none⟩ v2).setCell ⟨b, 3, none⟩ v3).setCell ⟨b, 4, none⟩ v4).cell? ⟨b, 3, none⟩ = some v3 ∧ (((((w.setCell ⟨b, 0, none⟩ v0).setCell ⟨b, 1, none⟩ v1).setCell ⟨b, 2, none⟩ v2).setCell ⟨b, 3, none⟩ v3).setCell ⟨b, 4, none⟩ v4).cell? ⟨b, 4, none⟩ = some v4 ∧ Below b w0 (((((w.setCell ⟨b, 0, none⟩ v0).setCell ⟨b, 1, none⟩ v1).setCell ⟨b, 2, none⟩ v2).setCell ⟨b, 3, none⟩ v3).setCell ⟨b, 4, none⟩ v4) := by
  obtain ⟨s0, s1, s2, s3, s4⟩ := five_ret c0 c1 c2 c3 c4
  have o : ∀ (W : World) (i j : Nat) (v : Value), i ≠ j → (W.setCell ⟨b, i, none⟩ v).cell? ⟨b, j, none⟩ = W.cell? ⟨b, j, none⟩ := fun W i j v h =>
    World.cell?_setCell_other W _ _ v (fun e => h (by injection e))
  refine ⟨?_, ?_, ?_, ?_, s4 v0 v1 v2 v3 v4, ((((hb.setCell (p := ⟨b, 0, none⟩) (Nat.le_refl _) v0).setCell (p := ⟨b, 1, none⟩) (Nat.le_refl _) v1).setCell (p := ⟨b, 2, none⟩) (Nat.le_refl _) v2).setCell (p := ⟨b, 3, none⟩) (Nat.le_refl _) v3).setCell (p := ⟨b, 4, none⟩) (Nat.le_refl _) v4⟩
  · rw [o _ 4 0 _ (by decide), o _ 3 0 _ (by decide), o _ 2 0 _ (by decide), o _ 1 0 _ (by decide)]; exact s0 v0
  · rw [o _ 4 1 _ (by decide), o _ 3 1 _ (by decide), o _ 2 1 _ (by decide)]; exact s1 v0 v1
  · rw [o _ 4 2 _ (by decide), o _ 3 2 _ (by decide)]; exact s2 v0 v1 v2
  · rw [o _ 4 3 _ (by decide)]; exact s3 v0 v1 v2 v3
theorem five_both {w0 w : World} {b : Nat} (v0 v1 v2 v3 v4 : Value) (hb : Below b w0 w) (z1 : b + 1 < w.heap.size) (z0 : b < w.heap.size)
    (c0 : w.cell? ⟨b + 1, 0, none⟩ = some (.int .i64 0)) (c1 : w.cell? ⟨b + 1, 1, none⟩ = some (.int .i64 0)) (c2 : w.cell? ⟨b + 1, 2, none⟩ = some (.int .i64 0)) (c3 : w.cell? ⟨b + 1, 3, none⟩ = some (.int .i64 0)) (c4 : w.cell? ⟨b + 1, 4, none⟩ = some (.int .i32 0))
    (d0 : w.cell? ⟨b, 0, none⟩ = some (.int .i64 0)) (d1 : w.cell? ⟨b, 1, none⟩ = some (.int .i64 0)) (d2 : w.cell? ⟨b, 2, none⟩ = some (.int .i64 0)) (d3 : w.cell? ⟨b, 3, none⟩ = some (.int .i64 0)) (d4 : w.cell? ⟨b, 4, none⟩ = some (.int .i32 0))
    (g0 : w.frozen? ⟨b, 0, none⟩ = false) (g1 : w.frozen? ⟨b, 1, none⟩ = false) (g2 : w.frozen? ⟨b, 2, none⟩ = false) (g3 : w.frozen? ⟨b, 3, none⟩ = false) (g4 : w.frozen? ⟨b, 4, none⟩ = false) :
    (b + 1 < (((((w.setCell ⟨b + 1, 0, none⟩ v0).setCell ⟨b + 1, 1, none⟩ v1).setCell ⟨b + 1, 2, none⟩ v2).setCell ⟨b + 1, 3, none⟩ v3).setCell ⟨b + 1, 4, none⟩ v4).heap.size) ∧ (b < (((((w.setCell ⟨b + 1, 0, none⟩ v0).setCell ⟨b + 1, 1, none⟩ v1).setCell ⟨b + 1, 2, none⟩ v2).setCell ⟨b + 1, 3, none⟩ v3).setCell ⟨b + 1, 4, none⟩ v4).heap.size) ∧ ((((((w.setCell ⟨b + 1, 0, none⟩ v0).setCell ⟨b + 1, 1, none⟩ v1).setCell ⟨b + 1, 2, none⟩ v2).setCell ⟨b + 1, 3, none⟩ v3).setCell ⟨b + 1, 4, none⟩ v4).cell? ⟨b + 1, 0, none⟩ = some v0) ∧ ((((((w.setCell ⟨b + 1, 0, none⟩ v0).setCell ⟨b + 1, 1, none⟩ v1).setCell ⟨b + 1, 2, none⟩ v2).setCell ⟨b + 1, 3, none⟩ v3).setCell ⟨b + 1, 4, none⟩ v4).cell? ⟨b + 1, 1, none⟩ = some v1) ∧ ((((((w.setCell ⟨b + 1, 0, none⟩ v0).setCell ⟨b + 1, 1, none⟩ v1).setCell ⟨b + 1, 2, none⟩ v2).setCell ⟨b + 1, 3, none⟩ v3).setCell ⟨b + 1, 4, none⟩ v4).cell? ⟨b + 1, 2, none⟩ = some v2) ∧ ((((((w.setCell ⟨b + 1, 0, none⟩ v0).setCell ⟨b + 1, 1, none⟩ v1).setCell ⟨b + 1, 2, none⟩ v2).setCell ⟨b + 1, 3, none⟩ v3).setCell ⟨b + 1, 4, none⟩ v4).cell? ⟨b + 1, 3, none⟩ = some v3) ∧ ((((((w.setCell ⟨b + 1, 0, none⟩ v0).setCell ⟨b + 1, 1, none⟩ v1).setCell ⟨b + 1, 2, none⟩ v2).setCell ⟨b + 1, 3, none⟩ v3).setCell ⟨b + 1, 4, none⟩ v4).cell? ⟨b + 1, 4, none⟩ = some v4) ∧ ((((((w.setCell ⟨b + 1, 0, none⟩ v0).setCell ⟨b + 1, 1, none⟩ v1).setCell ⟨b + 1, 2, none⟩ v2).setCell ⟨b + 1, 3, none⟩ v3).setCell ⟨b + 1, 4, none⟩ v4).cell? ⟨b, 0, none⟩ = some (.int .i64 0)) ∧ ((((((w.setCell ⟨b + 1, 0, none⟩ v0).setCell ⟨b + 1, 1, none⟩ v1).setCell ⟨b + 1, 2, none⟩ v2).setCell ⟨b + 1, 3, none⟩ v3).setCell ⟨b + 1, 4, none⟩ v4).cell? ⟨b, 1, none⟩ = some (.int .i64 0)) ∧ ((((((w.setCell ⟨b + 1, 0, none⟩ v0).setCell ⟨b + 1, 1, none⟩ v1).setCell ⟨b + 1, 2, none⟩ v2).setCell ⟨b + 1, 3, none⟩ v3).setCell ⟨b + 1, 4, none⟩ v4).cell? ⟨b, 2, none⟩ = some (.int .i64 0)) ∧ ((((((w.setCell ⟨b + 1, 0, none⟩ v0).setCell ⟨b + 1, 1, none⟩ v1).setCell ⟨b + 1, 2, none⟩ v2).setCell ⟨b + 1, 3, none⟩ v3).setCell ⟨b + 1, 4, none⟩ v4).cell? ⟨b, 3, none⟩ = some (.int .i64 0)) ∧ ((((((w.setCell ⟨b + 1, 0, none⟩ v0).setCell ⟨b + 1, 1, none⟩ v1).setCell ⟨b + 1, 2, none⟩ v2).setCell ⟨b + 1, 3, none⟩ v3).setCell ⟨b + 1, 4, none⟩ v4).cell? ⟨b, 4, none⟩ = some (.int .i32 0)) ∧ ((((((w.setCell ⟨b + 1, 0, none⟩ v0).setCell ⟨b + 1, 1, none⟩ v1).setCell ⟨b + 1, 2, none⟩ v2).setCell ⟨b + 1, 3, none⟩ v3).setCell ⟨b + 1, 4, none⟩ v4).frozen? ⟨b, 0, none⟩ = false) ∧ ((((((w.setCell ⟨b + 1, 0, none⟩ v0).setCell ⟨b + 1, 1, none⟩ v1).setCell ⟨b + 1, 2, none⟩ v2).setCell ⟨b + 1, 3, none⟩ v3).setCell ⟨b + 1, 4, none⟩ v4).frozen? ⟨b, 1, none⟩ = false) ∧ ((((((w.setCell ⟨b + 1, 0, none⟩ v0).setCell ⟨b + 1, 1, none⟩ v1).setCell ⟨b + 1, 2, none⟩ v2).setCell ⟨b + 1, 3, none⟩ v3).setCell ⟨b + 1, 4, none⟩ v4).frozen? ⟨b, 2, none⟩ = false) ∧ ((((((w.setCell ⟨b + 1, 0, none⟩ v0).setCell ⟨b + 1, 1, none⟩ v1).setCell ⟨b + 1, 2, none⟩ v2).setCell ⟨b + 1, 3, none⟩ v3).setCell ⟨b + 1, 4, none⟩ v4).frozen? ⟨b, 3, none⟩ = false) ∧ ((((((w.setCell ⟨b + 1, 0, none⟩ v0).setCell ⟨b + 1, 1, none⟩ v1).setCell ⟨b + 1, 2, none⟩ v2).setCell ⟨b + 1, 3, none⟩ v3).setCell ⟨b + 1, 4, none⟩ v4).frozen? ⟨b, 4, none⟩ = false) ∧ (Below b w0 (((((w.setCell ⟨b + 1, 0, none⟩ v0).setCell ⟨b + 1, 1, none⟩ v1).setCell ⟨b + 1, 2, none⟩ v2).setCell ⟨b + 1, 3, none⟩ v3).setCell ⟨b + 1, 4, none⟩ v4)) := by
  obtain ⟨s0, s1, s2, s3, s4⟩ := five_ret c0 c1 c2 c3 c4
  have o : ∀ (W : World) (i j : Nat) (v : Value), i ≠ j → (W.setCell ⟨b + 1, i, none⟩ v).cell? ⟨b + 1, j, none⟩ = W.cell? ⟨b + 1, j, none⟩ := fun W i j v h =>
    World.cell?_setCell_other W _ _ v (fun e => h (by injection e))
  have far := fun j => far_five (w := w) (b := b + 1) (c := b) (by omega) v0 v1 v2 v3 v4 j
  refine ⟨by simpa using z1, by simpa using z0, ?_, ?_, ?_, ?_, s4 v0 v1 v2 v3 v4, (far 0).1.trans d0, (far 1).1.trans d1, (far 2).1.trans d2, (far 3).1.trans d3, (far 4).1.trans d4, (far 0).2.trans g0, (far 1).2.trans g1, (far 2).2.trans g2, (far 3).2.trans g3, (far 4).2.trans g4, ?_⟩
  · rw [o _ 4 0 _ (by decide), o _ 3 0 _ (by decide), o _ 2 0 _ (by decide), o _ 1 0 _ (by decide)]; exact s0 v0
  · rw [o _ 4 1 _ (by decide), o _ 3 1 _ (by decide), o _ 2 1 _ (by decide)]; exact s1 v0 v1
  · rw [o _ 4 2 _ (by decide), o _ 3 2 _ (by decide)]; exact s2 v0 v1 v2
  · rw [o _ 4 3 _ (by decide)]; exact s3 v0 v1 v2 v3
  · exact ((((hb.setCell (p := ⟨b + 1, 0, none⟩) (Nat.le_succ _) v0).setCell (p := ⟨b + 1, 1, none⟩) (Nat.le_succ _) v1).setCell (p := ⟨b + 1, 2, none⟩) (Nat.le_succ _) v2).setCell (p := ⟨b + 1, 3, none⟩) (Nat.le_succ _) v3).setCell (p := ⟨b + 1, 4, none⟩) (Nat.le_succ _) v4
/-- the cells of two instructions that are 0, behind a call -/
theorem two_old {w w' : World} {t : TypeId} (h : Below (w.heap.size + 2) (((w.alloc (.cells #[.int .i64 0, .int .i64 0, .int .i64 0, .int .i64 0, .int .i32 0] t)).alloc (.cells #[.int .i64 0, .int .i64 0, .int .i64 0, .int .i64 0, .int .i32 0] t))) w') :
    (w.heap.size + 1 < w'.heap.size) ∧ (w.heap.size < w'.heap.size) ∧
    w'.cell? ⟨w.heap.size + 1, 0, none⟩ = some (.int .i64 0) ∧
    w'.cell? ⟨w.heap.size + 1, 1, none⟩ = some (.int .i64 0) ∧
    w'.cell? ⟨w.heap.size + 1, 2, none⟩ = some (.int .i64 0) ∧
    w'.cell? ⟨w.heap.size + 1, 3, none⟩ = some (.int .i64 0) ∧
    w'.cell? ⟨w.heap.size + 1, 4, none⟩ = some (.int .i32 0) ∧
    w'.cell? ⟨w.heap.size, 0, none⟩ = some (.int .i64 0) ∧
    w'.cell? ⟨w.heap.size, 1, none⟩ = some (.int .i64 0) ∧
    w'.cell? ⟨w.heap.size, 2, none⟩ = some (.int .i64 0) ∧
    w'.cell? ⟨w.heap.size, 3, none⟩ = some (.int .i64 0) ∧
    w'.cell? ⟨w.heap.size, 4, none⟩ = some (.int .i32 0) ∧
    w'.frozen? ⟨w.heap.size + 1, 0, none⟩ = false ∧ w'.frozen? ⟨w.heap.size + 1, 1, none⟩ = false ∧ w'.frozen? ⟨w.heap.size + 1, 2, none⟩ = false ∧ w'.frozen? ⟨w.heap.size + 1, 3, none⟩ = false ∧ w'.frozen? ⟨w.heap.size + 1, 4, none⟩ = false ∧ w'.frozen? ⟨w.heap.size, 0, none⟩ = false ∧ w'.frozen? ⟨w.heap.size, 1, none⟩ = false ∧ w'.frozen? ⟨w.heap.size, 2, none⟩ = false ∧ w'.frozen? ⟨w.heap.size, 3, none⟩ = false ∧ w'.frozen? ⟨w.heap.size, 4, none⟩ = false := by
  have hs := h.size
  simp only [World.size_alloc] at hs
  have hc : ∀ o j, o < w.heap.size + 2 → w'.cell? ⟨o, j, none⟩ = _ := fun o j ho => h.cell (p := ⟨o, j, none⟩) ho
  have hf : ∀ o j, o < w.heap.size + 2 → w'.frozen? ⟨o, j, none⟩ = _ := fun o j ho => h.frozen (p := ⟨o, j, none⟩) ho
  refine ⟨by omega, by omega, ?_, ?_, ?_, ?_, ?_, ?_, ?_, ?_, ?_, ?_, ?_, ?_, ?_, ?_, ?_, ?_, ?_, ?_, ?_, ?_⟩
  all_goals first | (rw [hc _ _ (by omega)]; go_simp; done) | (rw [hf _ _ (by omega)]; go_simp; done) | (rw [hc _ _ (by omega)]; simp) | (rw [hf _ _ (by omega)]; simp)
end Go.Proofs.Ytfecjdchgckjhaa.S
