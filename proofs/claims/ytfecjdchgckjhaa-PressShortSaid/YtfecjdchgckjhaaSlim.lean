/- What the functions of package slim compute: the bits of a parcel. -/
import Derived.Test.YtfecjdchgckjhaaWide
import Derived.Test.YtfecjdchgckjhaaCells
namespace Go.Proofs.Ytfecjdchgckjhaa.S
set_option linter.unusedVariables false
open Go.ChangeShapes Go.WideShapes Go.ChangeAt Go.RowKit Go.Proofs.Ytfecjdchgckjhaa.P Go.Proofs.Ytfecjdchgckjhaa.W

def FieldAt (x l n r : Int) : Prop := ∀ w, Calls Try.prog 40 #[.int .u32 x, .int .i64 l, .int .i64 n] w fun e w' => e = .returned (.int .u32 r) ∧ ∃ n, w' = w.drewN n
/-- the cells of pairs: from where, to where; the places to where go down by one, to K -/
def PairCells (w : World) (b : Nat) (fs : List Int) (K : Nat) : Prop :=
  ∀ i, i < fs.length → w.cell? ⟨b, i * 2, none⟩ = some (.int .i64 (fs.getD i 0)) ∧ w.cell? ⟨b, i * 2 + 1, none⟩ = some (.int .i64 ((K + (fs.length - 1 - i) : Nat) : Int))
theorem sum_round (x : Int) (fs : List Int) (k j : Nat) (hk : k < fs.length) (hj : k + 1 + j ≤ 31) :
    bits .or .u32 (bitsV x (fs.take k) * 2 ^ (j + 1)) (bi x (fs.getD k 0) * 2 ^ j) = bitsV x (fs.take (k + 1)) * 2 ^ j ∧ 0 ≤ bitsV x (fs.take (k + 1)) * 2 ^ j ∧ bitsV x (fs.take (k + 1)) * 2 ^ j < 4294967296 := by
  have e : fs.take (k + 1) = fs.take k ++ [fs.getD k 0] := by
    rw [List.take_succ_eq_append_getElem hk]; simp [List.getD, hk]
  have hb := bitsV_bd x (fs.take k)
  have hb2 := bitsV_bd x (fs.take (k + 1))
  have hl : (fs.take k).length = k := by rw [List.length_take]; omega
  have hl2 : (fs.take (k + 1)).length = k + 1 := by rw [List.length_take]; omega
  rw [hl] at hb
  rw [hl2] at hb2
  have hs : bitsV x (fs.take (k + 1)) = 2 * bitsV x (fs.take k) + bi x (fs.getD k 0) := by rw [e, bitsV_snoc]
  have hi := bi_bd x (fs.getD k 0)
  have hp := p2pos j
  have h32 : (2 : Int) ^ (k + 1 + j) ≤ 2 ^ 31 := p2le hj
  rw [p2add] at h32
  have h31 : (2 : Int) ^ 31 = 2147483648 := by decide
  rw [h31] at h32
  have hv : bitsV x (fs.take (k + 1)) * 2 ^ j < 2 ^ (k + 1) * 2 ^ j := Int.mul_lt_mul_of_pos_right hb2.2 hp
  have hv0 : 0 ≤ bitsV x (fs.take (k + 1)) * 2 ^ j := Int.mul_nonneg hb2.1 (Int.le_of_lt hp)
  have hex : bitsV x (fs.take k) * 2 ^ (j + 1) + bi x (fs.getD k 0) * 2 ^ j = bitsV x (fs.take (k + 1)) * 2 ^ j := by
    rw [hs, p2succ, Int.add_mul]
    congr 1
    rw [← Int.mul_assoc, Int.mul_comm 2 (bitsV x (fs.take k))]
  have hlo : bi x (fs.getD k 0) * 2 ^ j < 2 ^ (j + 1) := by
    rw [p2succ]
    have : bi x (fs.getD k 0) = 0 ∨ bi x (fs.getD k 0) = 1 := by omega
    rcases this with e | e <;> rw [e] <;> omega
  have hlo0 : 0 ≤ bi x (fs.getD k 0) * 2 ^ j := Int.mul_nonneg hi.1 (Int.le_of_lt hp)
  refine ⟨?_, hv0, by omega⟩
  rw [or_join' _ _ (j + 1) hlo0 hlo hb.1 (by rw [Int.add_comm, hex]; omega), hex]
end Go.Proofs.Ytfecjdchgckjhaa.S
