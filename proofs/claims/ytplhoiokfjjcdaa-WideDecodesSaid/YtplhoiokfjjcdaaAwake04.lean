/- The test that the statements of layer 4 begin with. -/
import Derived.Test.YtplhoiokfjjcdaaWide4
namespace Go.Proofs.Ytplhoiokfjjcdaa.A4
set_option linter.unusedVariables false
open Go.ChangeShapes Go.WideShapes Go.ChangeAt Go.RowKit Go.Proofs.Ytplhoiokfjjcdaa.P Go.Proofs.Ytplhoiokfjjcdaa.W Go.Proofs.Ytplhoiokfjjcdaa.V

/-- what is known of a world with the cells of an instruction -/
structure Inst (w : World) (b : Nat) (v0 v1 v2 v3 v4 : Value) : Prop where
  lt : b < w.heap.size
  c0 : w.cell? ⟨b, 0, none⟩ = some v0
  c1 : w.cell? ⟨b, 1, none⟩ = some v1
  c2 : w.cell? ⟨b, 2, none⟩ = some v2
  c3 : w.cell? ⟨b, 3, none⟩ = some v3
  c4 : w.cell? ⟨b, 4, none⟩ = some v4
theorem Inst.new (w : World) (t : TypeId) (v0 v1 v2 v3 v4 : Value) : Inst (w.alloc (.cells #[v0, v1, v2, v3, v4] t)) w.heap.size v0 v1 v2 v3 v4 :=
  ⟨by simp, by simp, by simp, by simp, by simp, by simp⟩
theorem Inst.below {w w' : World} {b B : Nat} {v0 v1 v2 v3 v4 : Value} (h : Inst w b v0 v1 v2 v3 v4) (hb : Below B w w') (hB : b < B) : Inst w' b v0 v1 v2 v3 v4 :=
  ⟨Nat.lt_of_lt_of_le h.lt hb.size, (hb.cell (p := ⟨b, 0, none⟩) hB).trans h.c0, (hb.cell (p := ⟨b, 1, none⟩) hB).trans h.c1, (hb.cell (p := ⟨b, 2, none⟩) hB).trans h.c2,
   (hb.cell (p := ⟨b, 3, none⟩) hB).trans h.c3, (hb.cell (p := ⟨b, 4, none⟩) hB).trans h.c4⟩
theorem below_alloc (w : World) (o : Obj) : Below w.heap.size w (w.alloc o) := (Below.refl _ _).alloc (Nat.le_refl _) _
theorem d1 : decV 5243027 = .tuple #[.agg #[.int .i64 19, .int .i64 1, .int .i64 0, .int .i64 0, .int .i32 5], .bool true] := by kernel_rfl
theorem d2 : decV 4261416675 = .tuple #[.agg #[.int .i64 5, .int .i64 0, .int .i64 0, .int .i64 0, .int .i32 (-4)], .bool true] := by kernel_rfl
theorem d3 : decV 0 = .tuple #[.agg #[.int .i64 0, .int .i64 0, .int .i64 0, .int .i64 0, .int .i32 0], .bool false] := by kernel_rfl
theorem c1 (w : World) : Calls Try.prog 13 #[.int .u32 5243027] w fun e w' => e = .returned (.tuple #[.agg #[.int .i64 19, .int .i64 1, .int .i64 0, .int .i64 0, .int .i32 5], .bool true]) ∧ Below w.heap.size w w' := by
  rw [← d1]; exact Decode _ _ (by decide) (by decide)
theorem c2 (w : World) : Calls Try.prog 13 #[.int .u32 4261416675] w fun e w' => e = .returned (.tuple #[.agg #[.int .i64 5, .int .i64 0, .int .i64 0, .int .i64 0, .int .i32 (-4)], .bool true]) ∧ Below w.heap.size w w' := by
  rw [← d2]; exact Decode _ _ (by decide) (by decide)
theorem c3 (w : World) : Calls Try.prog 13 #[.int .u32 0] w fun e w' => e = .returned (.tuple #[.agg #[.int .i64 0, .int .i64 0, .int .i64 0, .int .i64 0, .int .i32 0], .bool false]) ∧ Below w.heap.size w w' := by
  rw [← d3]; exact Decode _ _ (by decide) (by decide)

set_option maxHeartbeats 1000000 in
theorem awake (w : World) : Calls Try.prog 12 #[] w fun e w' => e = .returned (.bool true) ∧ Below w.heap.size w w' := by
  go_enter Try.func12, Try.ntmps12
  go_wp2_with fail
  refine (c1 _).mono ?_
  rintro e w1 ⟨rfl, hb1⟩
  go_wp2_with fail
  have k1 := Inst.new w1 25 (.int .i64 19) (.int .i64 1) (.int .i64 0) (.int .i64 0) (.int .i32 5)
  have hb2 := bel_step hb1 (below_alloc w1 (.cells #[.int .i64 19, .int .i64 1, .int .i64 0, .int .i64 0, .int .i32 5] 25))
  generalize w1.alloc (.cells #[.int .i64 19, .int .i64 1, .int .i64 0, .int .i64 0, .int .i32 5] 25) = w2 at *
  generalize w1.heap.size = p1 at *
  refine (c2 _).mono ?_
  rintro e w3 ⟨rfl, hb3⟩
  replace k1 := k1.below hb3 k1.lt
  have hb4 := bel_step hb2 hb3
  clear hb1 hb2 hb3 w1 w2
  go_wp2_with fail
  have k2 := Inst.new w3 25 (.int .i64 5) (.int .i64 0) (.int .i64 0) (.int .i64 0) (.int .i32 (-4))
  have hb5 := bel_step hb4 (below_alloc w3 (.cells #[.int .i64 5, .int .i64 0, .int .i64 0, .int .i64 0, .int .i32 (-4)] 25))
  replace k1 := k1.below (below_alloc w3 (.cells #[.int .i64 5, .int .i64 0, .int .i64 0, .int .i64 0, .int .i32 (-4)] 25)) k1.lt
  generalize w3.alloc (.cells #[.int .i64 5, .int .i64 0, .int .i64 0, .int .i64 0, .int .i32 (-4)] 25) = w4 at *
  generalize w3.heap.size = p2 at *
  refine (c3 _).mono ?_
  rintro e w5 ⟨rfl, hb6⟩
  replace k1 := k1.below hb6 k1.lt
  replace k2 := k2.below hb6 k2.lt
  have hb7 := bel_step hb5 hb6
  clear hb4 hb5 hb6 w3 w4
  obtain ⟨l1, i0, i1, i2, i3, i4⟩ := k1
  obtain ⟨l2, j0, j1, j2, j3, j4⟩ := k2
  go_wp2
  go_ret
  exact ⟨rfl, (by repeat' (first | (with_reducible exact Below.refl _ _) | (with_reducible assumption) | (with_reducible refine below_drewN ?_ _) | (with_reducible refine Below.alloc ?_ ?_ _) | (with_reducible refine Below.drew ?_) | (with_reducible refine Below.setCell ?_ ?_ _) | (with_reducible exact Below.size (by assumption)) | go_size))⟩
end Go.Proofs.Ytplhoiokfjjcdaa.A4
