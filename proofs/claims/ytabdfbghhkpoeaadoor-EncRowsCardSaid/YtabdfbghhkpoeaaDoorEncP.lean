/- The table of package enc, in plain terms. No program is in sight. -/
import Derived.Test.YtabdfbghhkpoeaaDoorSlimMay
import Derived.Test.YtabdfbghhkpoeaaDoorDecP
namespace Go.Proofs.YtabdfbghhkpoeaaDoor.P
set_option linter.unusedVariables false
set_option linter.unusedSimpArgs false
open Go Go.RowKit

/-- the rows: operation, what is fixed, and where -/
def encL : List (Int × Int × Int) := [(1, 55, 127), (2, 23, 127), (3, 111, 127), (4, 103, 28799), (5, 99, 28799), (6, 4195, 28799), (7, 16483, 28799), (8, 20579, 28799), (9, 24675, 28799), (10, 28771, 28799), (11, 3, 28799), (12, 4099, 28799), (13, 8195, 28799), (14, 16387, 28799), (15, 20483, 28799), (16, 35, 28799), (17, 4131, 28799), (18, 8227, 28799), (19, 19, 28799), (20, 8211, 28799), (21, 12307, 28799), (22, 16403, 28799), (23, 24595, 28799), (24, 28691, 28799), (25, 4115, 4261441663), (26, 20499, 4261441663), (27, 1073762323, 4261441663), (28, 51, 4261441663), (29, 1073741875, 4261441663), (30, 4147, 4261441663), (31, 8243, 4261441663), (32, 12339, 4261441663), (33, 16435, 4261441663), (34, 20531, 4261441663), (35, 1073762355, 4261441663), (36, 24627, 4261441663), (37, 28723, 4261441663), (38, 267386895, 4294967295), (39, 115, 4294967295), (40, 1048691, 4294967295), (41, 33554483, 4261441663), (42, 33558579, 4261441663), (43, 33562675, 4261441663), (44, 33566771, 4261441663), (45, 33570867, 4261441663), (46, 33574963, 4261441663), (47, 33579059, 4261441663), (48, 33583155, 4261441663)]
theorem encL_length : encL.length = 48 := rfl
def flat3 (L : List (Int × Int × Int)) : List Value := L.flatMap fun r => [.int .i64 r.1, .int .u32 r.2.1, .int .u32 r.2.2]
theorem flat3_length (L : List (Int × Int × Int)) : (flat3 L).length = L.length * 3 := by
  induction L with
  | nil => rfl
  | cons r t ih => simp [flat3] at *; omega
theorem flat3_at (L : List (Int × Int × Int)) (k : Nat) (h : k < L.length) :
    (flat3 L)[k * 3]? = some (.int .i64 (L.getD k (0, 0, 0)).1) ∧ (flat3 L)[k * 3 + 1]? = some (.int .u32 (L.getD k (0, 0, 0)).2.1) ∧ (flat3 L)[k * 3 + 2]? = some (.int .u32 (L.getD k (0, 0, 0)).2.2) := by
  induction L generalizing k with
  | nil => simp at h
  | cons r t ih =>
    cases k with
    | zero => simp [flat3]
    | succ k =>
      have := ih k (by simpa using h)
      have e : flat3 (r :: t) = [.int .i64 r.1, .int .u32 r.2.1, .int .u32 r.2.2] ++ flat3 t := rfl
      rw [e]
      refine ⟨?_, ?_, ?_⟩
      · rw [List.getElem?_append_right (by simp; omega)]; simpa [show (k + 1) * 3 - 3 = k * 3 by omega] using this.1
      · rw [List.getElem?_append_right (by simp; omega)]; simpa [show (k + 1) * 3 + 1 - 3 = k * 3 + 1 by omega] using this.2.1
      · rw [List.getElem?_append_right (by simp; omega)]; simpa [show (k + 1) * 3 + 2 - 3 = k * 3 + 2 by omega] using this.2.2
/-- the bits of an opcode, f3 and f7 -/
def atV (c f3 f7 : Int) : Int := c + f3 * 4096 + f7 * 33554432
/-- what is fixed of an operation, and where -/
def matchV (op : Int) : Int := (encL.getD (op - 1).toNat (0, 0, 0)).2.1
def maskV (op : Int) : Int := (encL.getD (op - 1).toNat (0, 0, 0)).2.2
theorem encL_op : ∀ k, k < 48 → (encL.getD k (0, 0, 0)).1 = (k : Int) + 1 := by decide
/-- a word fits a row -/
def fitB (x : Int) (k : Nat) : Bool := bits .and .u32 x (encL.getD k (0, 0, 0)).2.2 == (encL.getD k (0, 0, 0)).2.1
end Go.Proofs.YtabdfbghhkpoeaaDoor.P
