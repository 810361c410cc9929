/- What wide.Decode computes, by opcodes. -/
import Derived.Test.YtabdfbghhkpoeaaDoorWide2
namespace Go.Proofs.YtabdfbghhkpoeaaDoor.V
set_option linter.unusedVariables false
open Go.ChangeShapes Go.WideShapes Go.ChangeAt Go.RowKit Go.Proofs.YtabdfbghhkpoeaaDoor.P Go.Proofs.YtabdfbghhkpoeaaDoor.W

theorem and127 (x c : Int) (h0 : 0 ≤ x) (h1 : x < 4294967296) (hc : x % 128 = c) : bits .and .u32 x 127 = c := by
  have := and_maskI x 7 h0 h1 (by decide)
  have e : (2 : Int) ^ 7 = 128 := by decide
  rw [e] at this
  exact this.trans hc

/-- what is known of a world with the cells of an instruction that is 0 -/
structure Zero (w : World) (b : Nat) : Prop where
  lt : b < w.heap.size
  c0 : w.cell? ⟨b, 0, none⟩ = some (.int .i64 0)
  c1 : w.cell? ⟨b, 1, none⟩ = some (.int .i64 0)
  c2 : w.cell? ⟨b, 2, none⟩ = some (.int .i64 0)
  c3 : w.cell? ⟨b, 3, none⟩ = some (.int .i64 0)
  c4 : w.cell? ⟨b, 4, none⟩ = some (.int .i32 0)
  f : ∀ j, w.frozen? ⟨b, j, none⟩ = false
theorem Zero.new (w : World) (t : TypeId) : Zero (w.alloc (.cells #[.int .i64 0, .int .i64 0, .int .i64 0, .int .i64 0, .int .i32 0] t)) w.heap.size :=
  ⟨by simp, by simp, by simp, by simp, by simp, by simp, fun j => by rw [frozen?_alloc_cells]; simp [World.frozen?]⟩
theorem Zero.below {w w' : World} {b B : Nat} (h : Zero w b) (hb : Below B w w') (hB : b < B) : Zero w' b :=
  ⟨Nat.lt_of_lt_of_le h.lt hb.size, (hb.cell (p := ⟨b, 0, none⟩) hB).trans h.c0, (hb.cell (p := ⟨b, 1, none⟩) hB).trans h.c1, (hb.cell (p := ⟨b, 2, none⟩) hB).trans h.c2,
   (hb.cell (p := ⟨b, 3, none⟩) hB).trans h.c3, (hb.cell (p := ⟨b, 4, none⟩) hB).trans h.c4, fun j => (hb.frozen (p := ⟨b, j, none⟩) hB).trans (h.f j)⟩
/-- .. with the cells of a word's parts -/
structure Parts (w : World) (b : Nat) (x : Int) : Prop where
  lt : b < w.heap.size
  c0 : w.cell? ⟨b, 0, none⟩ = some (.int .u32 x)
  c1 : w.cell? ⟨b, 1, none⟩ = some (.int .i64 (fld x 7 5))
  c2 : w.cell? ⟨b, 2, none⟩ = some (.int .i64 (fld x 12 3))
  c3 : w.cell? ⟨b, 3, none⟩ = some (.int .i64 (fld x 15 5))
  c4 : w.cell? ⟨b, 4, none⟩ = some (.int .i64 (fld x 20 5))
  c5 : w.cell? ⟨b, 5, none⟩ = some (.int .u32 (fld x 25 7))
theorem Parts.new (w : World) (t : TypeId) (x : Int) : Parts (w.alloc (.cells #[.int .u32 x, .int .i64 (fld x 7 5), .int .i64 (fld x 12 3), .int .i64 (fld x 15 5), .int .i64 (fld x 20 5), .int .u32 (fld x 25 7)] t)) w.heap.size x :=
  ⟨by simp, by simp, by simp, by simp, by simp, by simp, by simp⟩
theorem Parts.below {w w' : World} {b B : Nat} {x : Int} (h : Parts w b x) (hb : Below B w w') (hB : b < B) : Parts w' b x :=
  ⟨Nat.lt_of_lt_of_le h.lt hb.size, (hb.cell (p := ⟨b, 0, none⟩) hB).trans h.c0, (hb.cell (p := ⟨b, 1, none⟩) hB).trans h.c1, (hb.cell (p := ⟨b, 2, none⟩) hB).trans h.c2,
   (hb.cell (p := ⟨b, 3, none⟩) hB).trans h.c3, (hb.cell (p := ⟨b, 4, none⟩) hB).trans h.c4, (hb.cell (p := ⟨b, 5, none⟩) hB).trans h.c5⟩

theorem Zero.far {w : World} {b c : Nat} (h : Zero w c) (hne : b ≠ c) (v0 v1 v2 v3 v4 : Value) :
    Zero (((((w.setCell ⟨b, 0, none⟩ v0).setCell ⟨b, 1, none⟩ v1).setCell ⟨b, 2, none⟩ v2).setCell ⟨b, 3, none⟩ v3).setCell ⟨b, 4, none⟩ v4) c :=
  ⟨by simpa using h.lt, (far_five hne v0 v1 v2 v3 v4 0).1.trans h.c0, (far_five hne v0 v1 v2 v3 v4 1).1.trans h.c1, (far_five hne v0 v1 v2 v3 v4 2).1.trans h.c2,
   (far_five hne v0 v1 v2 v3 v4 3).1.trans h.c3, (far_five hne v0 v1 v2 v3 v4 4).1.trans h.c4, fun j => (far_five hne v0 v1 v2 v3 v4 j).2.trans (h.f j)⟩

/-- .. with the cells of an instruction -/
structure Five (w : World) (b : Nat) (v0 v1 v2 v3 v4 : Value) : Prop where
  lt : b < w.heap.size
  c0 : w.cell? ⟨b, 0, none⟩ = some v0
  c1 : w.cell? ⟨b, 1, none⟩ = some v1
  c2 : w.cell? ⟨b, 2, none⟩ = some v2
  c3 : w.cell? ⟨b, 3, none⟩ = some v3
  c4 : w.cell? ⟨b, 4, none⟩ = some v4
  f0 : w.frozen? ⟨b, 0, none⟩ = false
  f1 : w.frozen? ⟨b, 1, none⟩ = false
  f2 : w.frozen? ⟨b, 2, none⟩ = false
  f3 : w.frozen? ⟨b, 3, none⟩ = false
  f4 : w.frozen? ⟨b, 4, none⟩ = false
/-- behind a region that ends with the store of an instruction -/
theorem after {w0 w : World} {b c : Nat} {v0 v1 v2 v3 v4 u0 u1 u2 u3 u4 : Value} {B : Nat} (hz : Zero w c) (hne : b ≠ c) (hb : Below B w0 w) (hB : B ≤ b)
    (hs : b < (((((w.setCell ⟨b, 0, none⟩ v0).setCell ⟨b, 1, none⟩ v1).setCell ⟨b, 2, none⟩ v2).setCell ⟨b, 3, none⟩ v3).setCell ⟨b, 4, none⟩ v4).heap.size)
    (e0 : (((((w.setCell ⟨b, 0, none⟩ v0).setCell ⟨b, 1, none⟩ v1).setCell ⟨b, 2, none⟩ v2).setCell ⟨b, 3, none⟩ v3).setCell ⟨b, 4, none⟩ v4).cell? ⟨b, 0, none⟩ = some u0)
    (e1 : (((((w.setCell ⟨b, 0, none⟩ v0).setCell ⟨b, 1, none⟩ v1).setCell ⟨b, 2, none⟩ v2).setCell ⟨b, 3, none⟩ v3).setCell ⟨b, 4, none⟩ v4).cell? ⟨b, 1, none⟩ = some u1)
    (e2 : (((((w.setCell ⟨b, 0, none⟩ v0).setCell ⟨b, 1, none⟩ v1).setCell ⟨b, 2, none⟩ v2).setCell ⟨b, 3, none⟩ v3).setCell ⟨b, 4, none⟩ v4).cell? ⟨b, 2, none⟩ = some u2)
    (e3 : (((((w.setCell ⟨b, 0, none⟩ v0).setCell ⟨b, 1, none⟩ v1).setCell ⟨b, 2, none⟩ v2).setCell ⟨b, 3, none⟩ v3).setCell ⟨b, 4, none⟩ v4).cell? ⟨b, 3, none⟩ = some u3)
    (e4 : (((((w.setCell ⟨b, 0, none⟩ v0).setCell ⟨b, 1, none⟩ v1).setCell ⟨b, 2, none⟩ v2).setCell ⟨b, 3, none⟩ v3).setCell ⟨b, 4, none⟩ v4).cell? ⟨b, 4, none⟩ = some u4)
    (g0 : (((((w.setCell ⟨b, 0, none⟩ v0).setCell ⟨b, 1, none⟩ v1).setCell ⟨b, 2, none⟩ v2).setCell ⟨b, 3, none⟩ v3).setCell ⟨b, 4, none⟩ v4).frozen? ⟨b, 0, none⟩ = false)
    (g1 : (((((w.setCell ⟨b, 0, none⟩ v0).setCell ⟨b, 1, none⟩ v1).setCell ⟨b, 2, none⟩ v2).setCell ⟨b, 3, none⟩ v3).setCell ⟨b, 4, none⟩ v4).frozen? ⟨b, 1, none⟩ = false)
    (g2 : (((((w.setCell ⟨b, 0, none⟩ v0).setCell ⟨b, 1, none⟩ v1).setCell ⟨b, 2, none⟩ v2).setCell ⟨b, 3, none⟩ v3).setCell ⟨b, 4, none⟩ v4).frozen? ⟨b, 2, none⟩ = false)
    (g3 : (((((w.setCell ⟨b, 0, none⟩ v0).setCell ⟨b, 1, none⟩ v1).setCell ⟨b, 2, none⟩ v2).setCell ⟨b, 3, none⟩ v3).setCell ⟨b, 4, none⟩ v4).frozen? ⟨b, 3, none⟩ = false)
    (g4 : (((((w.setCell ⟨b, 0, none⟩ v0).setCell ⟨b, 1, none⟩ v1).setCell ⟨b, 2, none⟩ v2).setCell ⟨b, 3, none⟩ v3).setCell ⟨b, 4, none⟩ v4).frozen? ⟨b, 4, none⟩ = false) :
    Five (((((w.setCell ⟨b, 0, none⟩ v0).setCell ⟨b, 1, none⟩ v1).setCell ⟨b, 2, none⟩ v2).setCell ⟨b, 3, none⟩ v3).setCell ⟨b, 4, none⟩ v4) b v0 v1 v2 v3 v4 ∧
    Zero (((((w.setCell ⟨b, 0, none⟩ v0).setCell ⟨b, 1, none⟩ v1).setCell ⟨b, 2, none⟩ v2).setCell ⟨b, 3, none⟩ v3).setCell ⟨b, 4, none⟩ v4) c ∧
    Below B w0 (((((w.setCell ⟨b, 0, none⟩ v0).setCell ⟨b, 1, none⟩ v1).setCell ⟨b, 2, none⟩ v2).setCell ⟨b, 3, none⟩ v3).setCell ⟨b, 4, none⟩ v4) := by
  obtain ⟨c0, c1, c2, c3, c4⟩ := five_cells e0 e1 e2 e3 e4
  exact ⟨⟨hs, c0, c1, c2, c3, c4, g0, g1, g2, g3, g4⟩, hz.far hne v0 v1 v2 v3 v4,
    ((((hb.setCell (p := ⟨b, 0, none⟩) hB v0).setCell (p := ⟨b, 1, none⟩) hB v1).setCell (p := ⟨b, 2, none⟩) hB v2).setCell (p := ⟨b, 3, none⟩) hB v3).setCell (p := ⟨b, 4, none⟩) hB v4⟩

end Go.Proofs.YtabdfbghhkpoeaaDoor.V
