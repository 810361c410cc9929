/- What the functions of package slim compute: the bits of a parcel. What the functions of package slim compute: the small ones. What the functions of package slim compute: the instructions. What the functions of package slim compute: the quarters. What the functions of package slim compute: the quarter 1. -/
import Derived.Test.YtfecjdchgckjhaaWide
import Derived.Test.YtfecjdchgckjhaaCells
import Derived.Test.YtfecjdchgckjhaaSlimP
import Derived.Deep.DrawnRows
namespace Go.Proofs.Ytfecjdchgckjhaa.S
set_option linter.unusedVariables false
open Go.ChangeShapes Go.WideShapes Go.ChangeAt Go.RowKit Go.Proofs.Ytfecjdchgckjhaa.P Go.Proofs.Ytfecjdchgckjhaa.W

def FieldAt (x l n r : Int) : Prop := ∀ w, Calls Try.prog 40 #[.int .u32 x, .int .i64 l, .int .i64 n] w fun e w' => e = .returned (.int .u32 r) ∧ ∃ n, w' = w.drewN n
/-- the cells of pairs: from where, to where; the places to where go down by one, to K -/
def PairCells (w : World) (b : Nat) (fs : List Int) (K : Nat) : Prop :=
  ∀ i, i < fs.length → w.cell? ⟨b, i * 2, none⟩ = some (.int .i64 (fs.getD i 0)) ∧ w.cell? ⟨b, i * 2 + 1, none⟩ = some (.int .i64 ((K + (fs.length - 1 - i) : Nat) : Int))
theorem sum_round (x : Int) (fs : List Int) (k j : Nat) (hk : k < fs.length) (hj : k + 1 + j ≤ 31) :
    bits .or .u32 (bitsV x (fs.take k) * 2 ^ (j + 1)) (bi x (fs.getD k 0) * 2 ^ j) = bitsV x (fs.take (k + 1)) * 2 ^ j ∧ 0 ≤ bitsV x (fs.take (k + 1)) * 2 ^ j ∧ bitsV x (fs.take (k + 1)) * 2 ^ j < 4294967296 := by
  have e : fs.take (k + 1) = fs.take k ++ [fs.getD k 0] := by
    rw [List.take_succ_eq_append_getElem hk]; simp [List.getD, hk]
  have hb := bitsV_bd x (fs.take k)
  have hb2 := bitsV_bd x (fs.take (k + 1))
  have hl : (fs.take k).length = k := by rw [List.length_take]; omega
  have hl2 : (fs.take (k + 1)).length = k + 1 := by rw [List.length_take]; omega
  rw [hl] at hb
  rw [hl2] at hb2
  have hs : bitsV x (fs.take (k + 1)) = 2 * bitsV x (fs.take k) + bi x (fs.getD k 0) := by rw [e, bitsV_snoc]
  have hi := bi_bd x (fs.getD k 0)
  have hp := p2pos j
  have h32 : (2 : Int) ^ (k + 1 + j) ≤ 2 ^ 31 := p2le hj
  rw [p2add] at h32
  have h31 : (2 : Int) ^ 31 = 2147483648 := by decide
  rw [h31] at h32
  have hv : bitsV x (fs.take (k + 1)) * 2 ^ j < 2 ^ (k + 1) * 2 ^ j := Int.mul_lt_mul_of_pos_right hb2.2 hp
  have hv0 : 0 ≤ bitsV x (fs.take (k + 1)) * 2 ^ j := Int.mul_nonneg hb2.1 (Int.le_of_lt hp)
  have hex : bitsV x (fs.take k) * 2 ^ (j + 1) + bi x (fs.getD k 0) * 2 ^ j = bitsV x (fs.take (k + 1)) * 2 ^ j := by
    rw [hs, p2succ, Int.add_mul]
    congr 1
    rw [← Int.mul_assoc, Int.mul_comm 2 (bitsV x (fs.take k))]
  have hlo : bi x (fs.getD k 0) * 2 ^ j < 2 ^ (j + 1) := by
    rw [p2succ]
    have : bi x (fs.getD k 0) = 0 ∨ bi x (fs.getD k 0) = 1 := by omega
    rcases this with e | e <;> rw [e] <;> omega
  have hlo0 : 0 ≤ bi x (fs.getD k 0) * 2 ^ j := Int.mul_nonneg hi.1 (Int.le_of_lt hp)
  refine ⟨?_, hv0, by omega⟩
  rw [or_join' _ _ (j + 1) hlo0 hlo hb.1 (by rw [Int.add_comm, hex]; omega), hex]
end Go.Proofs.Ytfecjdchgckjhaa.S

namespace Go.Proofs.Ytfecjdchgckjhaa.S
set_option linter.unusedVariables false
open Go.ChangeShapes Go.WideShapes Go.ChangeAt Go.RowKit Go.Proofs.Ytfecjdchgckjhaa.P Go.Proofs.Ytfecjdchgckjhaa.W

/-- what stores into a block leave there, one behind the other -/
theorem five_ret {w : World} {b : Nat} {u0 u1 u2 u3 u4 : Value} (c0 : w.cell? ⟨b, 0, none⟩ = some u0) (c1 : w.cell? ⟨b, 1, none⟩ = some u1) (c2 : w.cell? ⟨b, 2, none⟩ = some u2) (c3 : w.cell? ⟨b, 3, none⟩ = some u3) (c4 : w.cell? ⟨b, 4, none⟩ = some u4) :
    (∀ v0 : Value, (w.setCell ⟨b, 0, none⟩ v0).cell? ⟨b, 0, none⟩ = some v0) ∧
    (∀ v0 v1 : Value, ((w.setCell ⟨b, 0, none⟩ v0).setCell ⟨b, 1, none⟩ v1).cell? ⟨b, 1, none⟩ = some v1) ∧
    (∀ v0 v1 v2 : Value, (((w.setCell ⟨b, 0, none⟩ v0).setCell ⟨b, 1, none⟩ v1).setCell ⟨b, 2, none⟩ v2).cell? ⟨b, 2, none⟩ = some v2) ∧
    (∀ v0 v1 v2 v3 : Value, ((((w.setCell ⟨b, 0, none⟩ v0).setCell ⟨b, 1, none⟩ v1).setCell ⟨b, 2, none⟩ v2).setCell ⟨b, 3, none⟩ v3).cell? ⟨b, 3, none⟩ = some v3) ∧
    (∀ v0 v1 v2 v3 v4 : Value, (((((w.setCell ⟨b, 0, none⟩ v0).setCell ⟨b, 1, none⟩ v1).setCell ⟨b, 2, none⟩ v2).setCell ⟨b, 3, none⟩ v3).setCell ⟨b, 4, none⟩ v4).cell? ⟨b, 4, none⟩ = some v4) := by
  have o : ∀ (W : World) (i j : Nat) (v : Value), i ≠ j → (W.setCell ⟨b, i, none⟩ v).cell? ⟨b, j, none⟩ = W.cell? ⟨b, j, none⟩ := fun W i j v h =>
    World.cell?_setCell_other W _ _ v (fun e => h (by injection e))
  have s : ∀ (W : World) (j : Nat) (u v : Value), W.cell? ⟨b, j, none⟩ = some u → (W.setCell ⟨b, j, none⟩ v).cell? ⟨b, j, none⟩ = some v := by
    intro W j u v h
    have := World.cell?_setCell_same W ⟨b, j, none⟩ v h
    exact this
  refine ⟨?_, ?_, ?_, ?_, ?_⟩
  · intro v0; exact s _ _ _ _ c0
  · intro v0 v1; exact s _ _ _ _ ((o _ 0 1 _ (by decide)).trans c1)
  · intro v0 v1 v2; exact s _ _ _ _ ((o _ 1 2 _ (by decide)).trans ((o _ 0 2 _ (by decide)).trans c2))
  · intro v0 v1 v2 v3; exact s _ _ _ _ ((o _ 2 3 _ (by decide)).trans ((o _ 1 3 _ (by decide)).trans ((o _ 0 3 _ (by decide)).trans c3)))
  · intro v0 v1 v2 v3 v4; exact s _ _ _ _ ((o _ 3 4 _ (by decide)).trans ((o _ 2 4 _ (by decide)).trans ((o _ 1 4 _ (by decide)).trans ((o _ 0 4 _ (by decide)).trans c4))))
/-- .. in a world behind a call -/
theorem five_old {w w' : World} {t : TypeId} (h : Below (w.heap.size + 1) (w.alloc (.cells #[.int .i64 0, .int .i64 0, .int .i64 0, .int .i64 0, .int .i32 0] t)) w') :
    (∀ v0 : Value, (w'.setCell ⟨w.heap.size, 0, none⟩ v0).cell? ⟨w.heap.size, 0, none⟩ = some v0) ∧
    (∀ v0 v1 : Value, ((w'.setCell ⟨w.heap.size, 0, none⟩ v0).setCell ⟨w.heap.size, 1, none⟩ v1).cell? ⟨w.heap.size, 1, none⟩ = some v1) ∧
    (∀ v0 v1 v2 : Value, (((w'.setCell ⟨w.heap.size, 0, none⟩ v0).setCell ⟨w.heap.size, 1, none⟩ v1).setCell ⟨w.heap.size, 2, none⟩ v2).cell? ⟨w.heap.size, 2, none⟩ = some v2) ∧
    (∀ v0 v1 v2 v3 : Value, ((((w'.setCell ⟨w.heap.size, 0, none⟩ v0).setCell ⟨w.heap.size, 1, none⟩ v1).setCell ⟨w.heap.size, 2, none⟩ v2).setCell ⟨w.heap.size, 3, none⟩ v3).cell? ⟨w.heap.size, 3, none⟩ = some v3) ∧
    (∀ v0 v1 v2 v3 v4 : Value, (((((w'.setCell ⟨w.heap.size, 0, none⟩ v0).setCell ⟨w.heap.size, 1, none⟩ v1).setCell ⟨w.heap.size, 2, none⟩ v2).setCell ⟨w.heap.size, 3, none⟩ v3).setCell ⟨w.heap.size, 4, none⟩ v4).cell? ⟨w.heap.size, 4, none⟩ = some v4) :=
  five_ret (u0 := .int .i64 0) (u1 := .int .i64 0) (u2 := .int .i64 0) (u3 := .int .i64 0) (u4 := .int .i32 0) ((h.cell (p := ⟨w.heap.size, 0, none⟩) (Nat.lt_succ_self _)).trans (by simp)) ((h.cell (p := ⟨w.heap.size, 1, none⟩) (Nat.lt_succ_self _)).trans (by simp)) ((h.cell (p := ⟨w.heap.size, 2, none⟩) (Nat.lt_succ_self _)).trans (by simp))
    ((h.cell (p := ⟨w.heap.size, 3, none⟩) (Nat.lt_succ_self _)).trans (by simp)) ((h.cell (p := ⟨w.heap.size, 4, none⟩) (Nat.lt_succ_self _)).trans (by simp))
/-- .. and draws -/
theorem five_drew {w w' : World} {t : TypeId} (h : Below (w.heap.size + 1) (w.alloc (.cells #[.int .i64 0, .int .i64 0, .int .i64 0, .int .i64 0, .int .i32 0] t)) w') (n : Nat) :
    (∀ v0 : Value, ((w'.drewN n).setCell ⟨w.heap.size, 0, none⟩ v0).cell? ⟨w.heap.size, 0, none⟩ = some v0) ∧
    (∀ v0 v1 : Value, (((w'.drewN n).setCell ⟨w.heap.size, 0, none⟩ v0).setCell ⟨w.heap.size, 1, none⟩ v1).cell? ⟨w.heap.size, 1, none⟩ = some v1) ∧
    (∀ v0 v1 v2 : Value, ((((w'.drewN n).setCell ⟨w.heap.size, 0, none⟩ v0).setCell ⟨w.heap.size, 1, none⟩ v1).setCell ⟨w.heap.size, 2, none⟩ v2).cell? ⟨w.heap.size, 2, none⟩ = some v2) ∧
    (∀ v0 v1 v2 v3 : Value, (((((w'.drewN n).setCell ⟨w.heap.size, 0, none⟩ v0).setCell ⟨w.heap.size, 1, none⟩ v1).setCell ⟨w.heap.size, 2, none⟩ v2).setCell ⟨w.heap.size, 3, none⟩ v3).cell? ⟨w.heap.size, 3, none⟩ = some v3) ∧
    (∀ v0 v1 v2 v3 v4 : Value, ((((((w'.drewN n).setCell ⟨w.heap.size, 0, none⟩ v0).setCell ⟨w.heap.size, 1, none⟩ v1).setCell ⟨w.heap.size, 2, none⟩ v2).setCell ⟨w.heap.size, 3, none⟩ v3).setCell ⟨w.heap.size, 4, none⟩ v4).cell? ⟨w.heap.size, 4, none⟩ = some v4) :=
  five_old (below_drewN h n)
theorem f3_lt (x : Int) (l : Nat) : 0 ≤ fld x l 3 ∧ fld x l 3 < 8 := fld_bd x l 3
end Go.Proofs.Ytfecjdchgckjhaa.S

namespace Go.Proofs.Ytfecjdchgckjhaa.S
set_option linter.unusedVariables false
set_option linter.unusedSimpArgs false
open Go.ChangeShapes Go.WideShapes Go.ChangeAt Go.RowKit Go.Proofs.Ytfecjdchgckjhaa.P Go.Proofs.Ytfecjdchgckjhaa.W
attribute [local go_sem ↓] Go.wp_at_zero Go.wp_at_succ

theorem bd1 (x : Int) (l : Nat) : 0 ≤ fld x l 1 ∧ fld x l 1 < 2 := fld_bd x l 1
theorem bd2 (x : Int) (l : Nat) : 0 ≤ fld x l 2 ∧ fld x l 2 < 4 := fld_bd x l 2
theorem bd5 (x : Int) (l : Nat) : 0 ≤ fld x l 5 ∧ fld x l 5 < 32 := fld_bd x l 5

theorem joinL (x : Int) : bits .or .i64 (fld x 2 2 * 64) (fld x 12 1 * 32) = fld x 2 2 * 64 + fld x 12 1 * 32 ∧ bits .or .i64 (fld x 2 2 * 64 + fld x 12 1 * 32) (fld x 4 3 * 4) = sL x ∧ 0 ≤ sL x ∧ sL x < 256 := by
  obtain ⟨a0, a1⟩ := bd2 x 2
  obtain ⟨b0, b1⟩ := bd1 x 12
  obtain ⟨c0, c1⟩ := f3_lt x 4
  have e : sL x = (fld x 2 2 * 16 + fld x 12 1 * 8 + fld x 4 3) * 4 := by unfold sL; rw [lwsp_joined]
  rw [e]
  generalize fld x 2 2 = a at *
  generalize fld x 12 1 = b at *
  generalize fld x 4 3 = c at *
  have j1 := or_join64 a (b * 32) 6 (by omega) (by simp; omega) a0 (by simp; omega)
  have j2 := or_join64 (a * 2 + b) (c * 4) 5 (by omega) (by simp; omega) (by omega) (by simp; omega)
  simp at j1 j2
  refine ⟨j1, ?_, by omega, by omega⟩
  have e2 : a * 64 + b * 32 = (a * 2 + b) * 32 := by omega
  rw [e2, j2]; omega
theorem joinS (x : Int) : bits .or .i64 (fld x 7 2 * 64) (fld x 9 4 * 4) = sS x ∧ 0 ≤ sS x ∧ sS x < 256 := by
  obtain ⟨a0, a1⟩ := bd2 x 7
  have hc : 0 ≤ fld x 9 4 ∧ fld x 9 4 < 16 := fld_bd x 9 4
  obtain ⟨c0, c1⟩ := hc
  have e : sS x = (fld x 7 2 * 16 + fld x 9 4) * 4 := by unfold sS; rw [swsp_joined]
  rw [e]
  generalize fld x 7 2 = a at *
  generalize fld x 9 4 = c at *
  have j1 := or_join64 a (c * 4) 6 (by omega) (by simp; omega) a0 (by simp; omega)
  simp at j1
  refine ⟨by rw [j1]; omega, by omega, by omega⟩

end Go.Proofs.Ytfecjdchgckjhaa.S

namespace Go.Proofs.Ytfecjdchgckjhaa.S
set_option linter.unusedVariables false
set_option linter.unusedSimpArgs false
open Go.ChangeShapes Go.WideShapes Go.ChangeAt Go.RowKit Go.Proofs.Ytfecjdchgckjhaa.P Go.Proofs.Ytfecjdchgckjhaa.W
attribute [local go_sem ↓] Go.wp_at_zero Go.wp_at_succ

end Go.Proofs.Ytfecjdchgckjhaa.S

namespace Go.Proofs.Ytfecjdchgckjhaa.S
set_option linter.unusedVariables false
set_option linter.unusedSimpArgs false
open Go.ChangeShapes Go.WideShapes Go.ChangeAt Go.RowKit Go.Proofs.Ytfecjdchgckjhaa.P Go.Proofs.Ytfecjdchgckjhaa.W
attribute [local go_sem ↓] Go.wp_at_zero Go.wp_at_succ

end Go.Proofs.Ytfecjdchgckjhaa.S
