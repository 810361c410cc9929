/- The cells of an instruction that a call has made. -/
import Derived.Test.YtoabdbnecjbgkaaWord
namespace Go.Proofs.Ytoabdbnecjbgkaa.W
set_option linter.unusedVariables false
open Go.ChangeShapes Go.WideShapes Go.ChangeAt Go.RowKit Go.Proofs.Ytoabdbnecjbgkaa.P

/-- what is known of a world with the cells of an instruction -/
structure Inst (w : World) (b : Nat) (v0 v1 v2 v3 v4 : Value) : Prop where
  lt : b < w.heap.size
  c0 : w.cell? ⟨b, 0, none⟩ = some v0
  c1 : w.cell? ⟨b, 1, none⟩ = some v1
  c2 : w.cell? ⟨b, 2, none⟩ = some v2
  c3 : w.cell? ⟨b, 3, none⟩ = some v3
  c4 : w.cell? ⟨b, 4, none⟩ = some v4
theorem Inst.new (w : World) (t : TypeId) (v0 v1 v2 v3 v4 : Value) : Inst (w.alloc (.cells #[v0, v1, v2, v3, v4] t)) w.heap.size v0 v1 v2 v3 v4 :=
  ⟨by simp, by simp, by simp, by simp, by simp, by simp⟩
theorem Inst.below {w w' : World} {b B : Nat} {v0 v1 v2 v3 v4 : Value} (h : Inst w b v0 v1 v2 v3 v4) (hb : Below B w w') (hB : b < B) : Inst w' b v0 v1 v2 v3 v4 :=
  ⟨Nat.lt_of_lt_of_le h.lt hb.size, (hb.cell (p := ⟨b, 0, none⟩) hB).trans h.c0, (hb.cell (p := ⟨b, 1, none⟩) hB).trans h.c1, (hb.cell (p := ⟨b, 2, none⟩) hB).trans h.c2,
   (hb.cell (p := ⟨b, 3, none⟩) hB).trans h.c3, (hb.cell (p := ⟨b, 4, none⟩) hB).trans h.c4⟩
theorem below_alloc (w : World) (o : Obj) : Below w.heap.size w (w.alloc o) := (Below.refl _ _).alloc (Nat.le_refl _) _
end Go.Proofs.Ytoabdbnecjbgkaa.W
