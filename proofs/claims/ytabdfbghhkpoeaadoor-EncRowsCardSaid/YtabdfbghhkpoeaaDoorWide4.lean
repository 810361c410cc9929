/- What wide.Decode computes, by opcodes: the rest, and the whole. -/
import Derived.Test.YtabdfbghhkpoeaaDoorWide3
namespace Go.Proofs.YtabdfbghhkpoeaaDoor.V
set_option linter.unusedVariables false
open Go.ChangeShapes Go.WideShapes Go.ChangeAt Go.RowKit Go.Proofs.YtabdfbghhkpoeaaDoor.P Go.Proofs.YtabdfbghhkpoeaaDoor.W

theorem regOp_form (x : Int) : regOp (fld x 12 3) (fld x 25 7) = 0 ∨ form (regOp (fld x 12 3) (fld x 25 7)) = 8 := by
  obtain ⟨f0, f1⟩ := f3_bd x
  unfold regOp
  split
  · exact pick_form f0 f1 (by decide)
  · split
    · exact pick_form f0 f1 (by decide)
    · split
      · exact pick_form f0 f1 (by decide)
      · exact .inl rfl

theorem after_zero {w0 w : World} {b c B : Nat} (hI : Zero w b) (hz : Zero w c) (hne : b ≠ c) (hb : Below B w0 w) (hB : B ≤ b) (v0 v1 v2 v3 v4 : Value) :
    Five (((((w.setCell ⟨b, 0, none⟩ v0).setCell ⟨b, 1, none⟩ v1).setCell ⟨b, 2, none⟩ v2).setCell ⟨b, 3, none⟩ v3).setCell ⟨b, 4, none⟩ v4) b v0 v1 v2 v3 v4 ∧
    Zero (((((w.setCell ⟨b, 0, none⟩ v0).setCell ⟨b, 1, none⟩ v1).setCell ⟨b, 2, none⟩ v2).setCell ⟨b, 3, none⟩ v3).setCell ⟨b, 4, none⟩ v4) c ∧
    Below B w0 (((((w.setCell ⟨b, 0, none⟩ v0).setCell ⟨b, 1, none⟩ v1).setCell ⟨b, 2, none⟩ v2).setCell ⟨b, 3, none⟩ v3).setCell ⟨b, 4, none⟩ v4) := by
  obtain ⟨il, i0, i1, i2, i3, i4, ifr⟩ := hI
  have o : ∀ (W : World) (i j : Nat) (v : Value), i ≠ j → (W.setCell ⟨b, i, none⟩ v).cell? ⟨b, j, none⟩ = W.cell? ⟨b, j, none⟩ := fun W i j v hij =>
    World.cell?_setCell_other W _ _ v (fun e => hij (by injection e))
  refine after (u0 := v0) (u1 := v1) (u2 := v2) (u3 := v3) (u4 := v4) hz hne hb hB (by simpa using il) ?_ ?_ ?_ ?_ ?_ ?_ ?_ ?_ ?_ ?_
  · simp only [o _ 4 0 _ (by decide), o _ 3 0 _ (by decide), o _ 2 0 _ (by decide), o _ 1 0 _ (by decide)]
    exact World.cell?_setCell_same _ _ _ i0
  · simp only [o _ 4 1 _ (by decide), o _ 3 1 _ (by decide), o _ 2 1 _ (by decide)]
    exact World.cell?_setCell_same _ _ _ ((o _ 0 1 _ (by decide)).trans i1)
  · simp only [o _ 4 2 _ (by decide), o _ 3 2 _ (by decide)]
    exact World.cell?_setCell_same _ _ _ (by simp only [o _ 1 2 _ (by decide), o _ 0 2 _ (by decide)]; exact i2)
  · simp only [o _ 4 3 _ (by decide)]
    exact World.cell?_setCell_same _ _ _ (by simp only [o _ 2 3 _ (by decide), o _ 1 3 _ (by decide), o _ 0 3 _ (by decide)]; exact i3)
  · exact World.cell?_setCell_same _ _ _ (by simp only [o _ 3 4 _ (by decide), o _ 2 4 _ (by decide), o _ 1 4 _ (by decide), o _ 0 4 _ (by decide)]; exact i4)
  all_goals (simp only [World.frozen?_setCell]; exact ifr _)
theorem Five.last {w : World} {b : Nat} {v0 v1 v2 v3 v4 : Value} (h : Five w b v0 v1 v2 v3 v4) (v : Value) : Five (w.setCell ⟨b, 4, none⟩ v) b v0 v1 v2 v3 v := by
  obtain ⟨s1, c0, c1, c2, c3, c4, g0, g1, g2, g3, g4⟩ := h
  have o : ∀ (j : Nat), 4 ≠ j → (w.setCell ⟨b, 4, none⟩ v).cell? ⟨b, j, none⟩ = w.cell? ⟨b, j, none⟩ := fun j hij =>
    World.cell?_setCell_other w _ _ v (fun e => hij (by injection e))
  exact ⟨by simpa using s1, (o 0 (by decide)).trans c0, (o 1 (by decide)).trans c1, (o 2 (by decide)).trans c2, (o 3 (by decide)).trans c3, World.cell?_setCell_same _ _ _ c4,
    (World.frozen?_setCell ..).trans g0, (World.frozen?_setCell ..).trans g1, (World.frozen?_setCell ..).trans g2, (World.frozen?_setCell ..).trans g3, (World.frozen?_setCell ..).trans g4⟩
theorem Zero.last {w : World} {b c : Nat} (h : Zero w c) (hne : b ≠ c) (v : Value) : Zero (w.setCell ⟨b, 4, none⟩ v) c := by
  obtain ⟨tl, t0, t1, t2, t3, t4, tf⟩ := h
  have o : ∀ (j : Nat), (w.setCell ⟨b, 4, none⟩ v).cell? ⟨c, j, none⟩ = w.cell? ⟨c, j, none⟩ := fun j =>
    World.cell?_setCell_other w _ _ v (fun e => hne (by injection e))
  exact ⟨by simpa using tl, (o 0).trans t0, (o 1).trans t1, (o 2).trans t2, (o 3).trans t3, (o 4).trans t4, fun j => (World.frozen?_setCell ..).trans (tf j)⟩

theorem bareOp_form (x : Int) : bareOp x = 0 ∨ form (bareOp x) = 9 := by
  unfold bareOp
  split
  · exact .inr (by decide)
  · split
    · exact .inr (by decide)
    · exact .inl rfl

theorem shift_form {x : Int} (h : fld x 12 3 = 1 ∨ fld x 12 3 = 5) : numOp (fld x 12 3) (fld x 25 7) = 0 ∨ form (numOp (fld x 12 3) (fld x 25 7)) = 7 := by
  unfold numOp
  split
  · exact .inr (by decide)
  · split
    · exact .inl rfl
    · rcases h with h | h <;> rw [h] <;> exact .inr (by decide)
theorem num_form {x : Int} (h : ¬ (fld x 12 3 = 1 ∨ fld x 12 3 = 5)) : numOp (fld x 12 3) (fld x 25 7) = 0 ∨ form (numOp (fld x 12 3) (fld x 25 7)) = 6 := by
  obtain ⟨f0, f1⟩ := f3_bd x
  unfold numOp
  rw [if_neg (by omega), if_neg (by omega)]
  generalize fld x 12 3 = k at *
  have : k = 0 ∨ k = 2 ∨ k = 3 ∨ k = 4 ∨ k = 6 ∨ k = 7 := by omega
  rcases this with rfl | rfl | rfl | rfl | rfl | rfl <;> exact .inr (by decide)
end Go.Proofs.YtabdfbghhkpoeaaDoor.V
