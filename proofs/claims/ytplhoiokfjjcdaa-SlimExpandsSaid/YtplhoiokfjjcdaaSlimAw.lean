/- The answers that keep layer 5's statements awake. -/
import Derived.Test.YtplhoiokfjjcdaaSlim6
import Derived.Test.YtplhoiokfjjcdaaCells
namespace Go.Proofs.Ytplhoiokfjjcdaa.A5
set_option linter.unusedVariables false
set_option linter.unusedSimpArgs false
open Go.ChangeShapes Go.WideShapes Go.ChangeAt Go.RowKit Go.Proofs.Ytplhoiokfjjcdaa.P Go.Proofs.Ytplhoiokfjjcdaa.W

theorem d1 : S.I5.told (qAll 17685) = .tuple #[.agg #[.int .i64 19, .int .i64 10, .int .i64 0, .int .i64 0, .int .i32 5], .bool true] := by kernel_rfl
theorem d2 : S.I5.told (qAll 32898) = .tuple #[.agg #[.int .i64 4, .int .i64 0, .int .i64 1, .int .i64 0, .int .i32 0], .bool true] := by kernel_rfl
theorem d3 : S.I5.told (qAll 0) = .tuple #[.agg #[.int .i64 0, .int .i64 0, .int .i64 0, .int .i64 0, .int .i32 0], .bool false] := by kernel_rfl
theorem c1 (w : World) : Calls Try.prog 27 #[.int .u16 17685] w fun e w' => e = .returned (.tuple #[.agg #[.int .i64 19, .int .i64 10, .int .i64 0, .int .i64 0, .int .i32 5], .bool true]) ∧ Below w.heap.size w w' := by
  rw [← d1]; exact S.Expand _ _ (by decide) (by decide)
theorem c2 (w : World) : Calls Try.prog 27 #[.int .u16 32898] w fun e w' => e = .returned (.tuple #[.agg #[.int .i64 4, .int .i64 0, .int .i64 1, .int .i64 0, .int .i32 0], .bool true]) ∧ Below w.heap.size w w' := by
  rw [← d2]; exact S.Expand _ _ (by decide) (by decide)
theorem c3 (w : World) : Calls Try.prog 27 #[.int .u16 0] w fun e w' => e = .returned (.tuple #[.agg #[.int .i64 0, .int .i64 0, .int .i64 0, .int .i64 0, .int .i32 0], .bool false]) ∧ Below w.heap.size w w' := by
  rw [← d3]; exact S.Expand _ _ (by decide) (by decide)

set_option maxHeartbeats 1000000 in
theorem awake (w : World) : Calls Try.prog 26 #[] w fun e w' => e = .returned (.bool true) ∧ Below w.heap.size w w' := by
  go_enter Try.func26, Try.ntmps26
  go_wp2_with fail
  refine (c1 _).mono ?_
  rintro e w1 ⟨rfl, hb1⟩
  go_wp2_with fail
  have k1 := Inst.new w1 25 (.int .i64 19) (.int .i64 10) (.int .i64 0) (.int .i64 0) (.int .i32 5)
  have hb2 := bel_step hb1 (below_alloc w1 (.cells #[.int .i64 19, .int .i64 10, .int .i64 0, .int .i64 0, .int .i32 5] 25))
  generalize w1.alloc (.cells #[.int .i64 19, .int .i64 10, .int .i64 0, .int .i64 0, .int .i32 5] 25) = w2 at *
  generalize w1.heap.size = p1 at *
  refine (c2 _).mono ?_
  rintro e w3 ⟨rfl, hb3⟩
  replace k1 := k1.below hb3 k1.lt
  have hb4 := bel_step hb2 hb3
  clear hb1 hb2 hb3 w1 w2
  go_wp2_with fail
  have k2 := Inst.new w3 25 (.int .i64 4) (.int .i64 0) (.int .i64 1) (.int .i64 0) (.int .i32 0)
  have hb5 := bel_step hb4 (below_alloc w3 (.cells #[.int .i64 4, .int .i64 0, .int .i64 1, .int .i64 0, .int .i32 0] 25))
  replace k1 := k1.below (below_alloc w3 (.cells #[.int .i64 4, .int .i64 0, .int .i64 1, .int .i64 0, .int .i32 0] 25)) k1.lt
  generalize w3.alloc (.cells #[.int .i64 4, .int .i64 0, .int .i64 1, .int .i64 0, .int .i32 0] 25) = w4 at *
  generalize w3.heap.size = p2 at *
  refine (c3 _).mono ?_
  rintro e w5 ⟨rfl, hb6⟩
  replace k1 := k1.below hb6 k1.lt
  replace k2 := k2.below hb6 k2.lt
  have hb7 := bel_step hb5 hb6
  clear hb4 hb5 hb6 w3 w4
  obtain ⟨l1, i0, i1, i2, i3, i4⟩ := k1
  obtain ⟨l2, j0, j1, j2, j3, j4⟩ := k2
  go_wp2
  have k3 := Inst.new w5 25 (.int .i64 0) (.int .i64 0) (.int .i64 0) (.int .i64 0) (.int .i32 0)
  go_ret
  exact ⟨rfl, (by repeat' (first | (with_reducible exact Below.refl _ _) | (with_reducible assumption) | (with_reducible refine below_drewN ?_ _) | (with_reducible refine Below.alloc ?_ ?_ _) | (with_reducible refine Below.drew ?_) | (with_reducible refine Below.setCell ?_ ?_ _) | (with_reducible exact Below.size (by assumption)) | go_size))⟩
end Go.Proofs.Ytplhoiokfjjcdaa.A5
