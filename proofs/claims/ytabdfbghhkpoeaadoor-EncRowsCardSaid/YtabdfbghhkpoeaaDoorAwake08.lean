/- The test that the statements of layer 8 begin with. -/
import Derived.Test.YtabdfbghhkpoeaaDoorEncGet
namespace Go.Proofs.YtabdfbghhkpoeaaDoor.A8
set_option linter.unusedVariables false
open Go.ChangeShapes Go.WideShapes Go.ChangeAt Go.RowKit Go.Proofs.YtabdfbghhkpoeaaDoor.P Go.Proofs.YtabdfbghhkpoeaaDoor.W Go.Proofs.YtabdfbghhkpoeaaDoor.V Go.Proofs.YtabdfbghhkpoeaaDoor.E

theorem g1 : getB 5243027 = true := by kernel_rfl
theorem g2 : getB 15 = false := by kernel_rfl
theorem c1 (w : World) (hT : Tabs w) : Calls Tryd.prog 8 #[.agg #[.int .i64 19, .int .i64 1, .int .i64 0, .int .i64 0, .int .i32 5]] w fun e w' => e = .returned (.tuple #[.int .u32 5243027, .bool true]) ∧ Below w.heap.size w w' := by
  have h := Put_yes 19 1 0 0 5 w (by decide) (by decide) (by decide) hT
  have e : encW 19 1 0 0 5 = 5243027 := by decide
  rw [e] at h; exact h
theorem c2 (w : World) (hT : Tabs w) : Calls Tryd.prog 12 #[.int .u32 5243027] w fun e w' => e = .returned (.tuple #[.agg #[.int .i64 19, .int .i64 1, .int .i64 0, .int .i64 0, .int .i32 5], .bool true]) ∧ Below w.heap.size w w' := by
  have h := Get_is 5243027 w (by decide) (by decide) g1 hT
  have e1 : opN 5243027 = 19 := by decide
  have e2 : dRd 5243027 = 1 := by decide
  have e3 : dRs1 5243027 = 0 := by decide
  have e4 : dRs2 5243027 = 0 := by decide
  have e5 : dImm 5243027 = 5 := by decide
  rw [e1, e2, e3, e4, e5] at h; exact h
theorem c3 (w : World) : Calls Tryd.prog 12 #[.int .u32 15] w fun e w' => e = .returned (.tuple #[.agg #[.int .i64 0, .int .i64 0, .int .i64 0, .int .i64 0, .int .i32 0], .bool false]) ∧ Below w.heap.size w w' :=
  Get_isnt 15 w (by decide) (by decide) g2

set_option maxHeartbeats 1000000 in
theorem awake (w : World) (hT : Tabs w) : Calls Tryd.prog 7 #[] w fun e w' => e = .returned (.bool true) ∧ Below w.heap.size w w' := by
  replace hT := hid hT
  go_enter Tryd.func7, Tryd.ntmps7
  go_wp2_with fail
  refine (c1 _ hT.out).mono ?_
  rintro e w1 ⟨rfl, hb1⟩
  go_wp2_with fail
  refine (c2 _ (hT.out.below hb1)).mono ?_
  rintro e w2 ⟨rfl, hb2⟩
  replace hb2 := bel_step hb1 hb2
  clear hb1
  go_wp2_with fail
  have k1 := Inst.new w2 23 (.int .i64 19) (.int .i64 1) (.int .i64 0) (.int .i64 0) (.int .i32 5)
  have hb4 := bel_step hb2 (below_alloc w2 (.cells #[.int .i64 19, .int .i64 1, .int .i64 0, .int .i64 0, .int .i32 5] 23))
  generalize w2.alloc (.cells #[.int .i64 19, .int .i64 1, .int .i64 0, .int .i64 0, .int .i32 5] 23) = w3 at *
  generalize w2.heap.size = p1 at *
  refine (c3 _).mono ?_
  rintro e w5 ⟨rfl, hb6⟩
  replace k1 := k1.below hb6 k1.lt
  have hb7 := bel_step hb4 hb6
  clear hb4 hb6 hb2 w2 w3
  obtain ⟨l1, i0, i1, i2, i3, i4⟩ := k1
  go_wp2
  go_ret
  exact ⟨rfl, (by repeat' (first | (with_reducible exact Below.refl _ _) | (with_reducible assumption) | (with_reducible refine below_drewN ?_ _) | (with_reducible refine Below.alloc ?_ ?_ _) | (with_reducible refine Below.drew ?_) | (with_reducible refine Below.setCell ?_ ?_ _) | (with_reducible exact Below.size (by assumption)) | go_size))⟩
end Go.Proofs.YtabdfbghhkpoeaaDoor.A8
