/- A cell behind a store into it: what was stored, if it was there. -/
import Derived.Test.YtcbibefbjfhdcaaDoorWord
namespace Go.Proofs.YtcbibefbjfhdcaaDoor.W
set_option linter.unusedVariables false
open Go.ChangeShapes Go.WideShapes Go.ChangeAt Go.RowKit Go.Proofs.YtcbibefbjfhdcaaDoor.P

theorem setCell_map (w : World) (a : Addr) (v : Value) : (w.setCell a v).cell? a = (w.cell? a).map fun _ => v := by
  cases hc : w.cell? a with
  | some x => exact World.cell?_setCell_same w a v hc
  | none =>
    cases hs : (w.setCell a v).cell? a with
    | none => rfl
    | some u =>
      have h := cell_set hs
      exfalso
      unfold World.cell? World.setCell at *
      simp only [Array.getElem?_modify, ↓reduceIte] at h
      cases hb : w.heap[a.block]? with
      | none => rw [hb] at h; simp at h
      | some o =>
        rw [hb] at h hc
        cases o with
        | cells c t f =>
          simp only [Option.map_some] at h hc
          cases hs : a.spot.isSome with
          | true => simp [hs] at h
          | false =>
            simp [hs] at hc
            simp only [hs] at h
            rw [Array.getElem?_eq_none (by simp; omega)] at h
            simp at h
        | _ => simp at h
theorem five_all {w0 w : World} {b : Nat} {u0 u1 u2 u3 u4 : Value} (hb : Below b w0 w) (hl : b < w.heap.size) (c0 : w.cell? ⟨b, 0, none⟩ = some u0) (c1 : w.cell? ⟨b, 1, none⟩ = some u1) (c2 : w.cell? ⟨b, 2, none⟩ = some u2) (c3 : w.cell? ⟨b, 3, none⟩ = some u3) (c4 : w.cell? ⟨b, 4, none⟩ = some u4) (v0 v1 v2 v3 v4 : Value) :
    (((((w.setCell ⟨b, 0, none⟩ v0).setCell ⟨b, 1, none⟩ v1).setCell ⟨b, 2, none⟩ v2).setCell ⟨b, 3, none⟩ v3).setCell ⟨b, 4, none⟩ v4).cell? ⟨b, 0, none⟩ = some v0 ∧ (((((w.setCell ⟨b, 0, none⟩ v0).setCell ⟨b, 1, none⟩ v1).setCell ⟨b, 2, none⟩ v2).setCell ⟨b, 3, none⟩ v3).setCell ⟨b, 4, none⟩ v4).cell? ⟨b, 1, none⟩ = some v1 ∧ (((((w.setCell ⟨b, 0, none⟩ v0).setCell ⟨b, 1, none⟩ v1).setCell ⟨b, 2, none⟩ v2).setCell ⟨b, 3, none⟩ v3).setCell ⟨b, 4, none⟩ v4).cell? ⟨b, 2, none⟩ = some v2 ∧ (((((w.setCell ⟨b, 0, none⟩ v0).setCell ⟨b, 1, none⟩ v1).setCell ⟨b, 2, none⟩ v2).setCell ⟨b, 3, none⟩ v3).setCell ⟨b, 4, none⟩ v4).cell? ⟨b, 3, none⟩ = some v3 ∧ (((((w.setCell ⟨b, 0, none⟩ v0).setCell ⟨b, 1, none⟩ v1).setCell ⟨b, 2, none⟩ v2).setCell ⟨b, 3, none⟩ v3).setCell ⟨b, 4, none⟩ v4).cell? ⟨b, 4, none⟩ = some v4 ∧ b < (((((w.setCell ⟨b, 0, none⟩ v0).setCell ⟨b, 1, none⟩ v1).setCell ⟨b, 2, none⟩ v2).setCell ⟨b, 3, none⟩ v3).setCell ⟨b, 4, none⟩ v4).heap.size ∧ Below b w0 (((((w.setCell ⟨b, 0, none⟩ v0).setCell ⟨b, 1, none⟩ v1).setCell ⟨b, 2, none⟩ v2).setCell ⟨b, 3, none⟩ v3).setCell ⟨b, 4, none⟩ v4) := by
  have o : ∀ (W : World) (i j : Nat) (v : Value), i ≠ j → (W.setCell ⟨b, i, none⟩ v).cell? ⟨b, j, none⟩ = W.cell? ⟨b, j, none⟩ := fun W i j v h =>
    World.cell?_setCell_other W _ _ v (fun e => h (by injection e))
  have s : ∀ (W : World) (j : Nat) (u v : Value), W.cell? ⟨b, j, none⟩ = some u → (W.setCell ⟨b, j, none⟩ v).cell? ⟨b, j, none⟩ = some v := by
    intro W j u v h
    have := World.cell?_setCell_same W ⟨b, j, none⟩ v h
    exact this
  refine ⟨?_, ?_, ?_, ?_, ?_, by simpa using hl, ((((hb.setCell (p := ⟨b, 0, none⟩) (Nat.le_refl _) v0).setCell (p := ⟨b, 1, none⟩) (Nat.le_refl _) v1).setCell (p := ⟨b, 2, none⟩) (Nat.le_refl _) v2).setCell (p := ⟨b, 3, none⟩) (Nat.le_refl _) v3).setCell (p := ⟨b, 4, none⟩) (Nat.le_refl _) v4⟩
  · rw [o _ 4 0 _ (by decide), o _ 3 0 _ (by decide), o _ 2 0 _ (by decide), o _ 1 0 _ (by decide)]; exact s _ _ _ _ c0
  · rw [o _ 4 1 _ (by decide), o _ 3 1 _ (by decide), o _ 2 1 _ (by decide)]; exact s _ _ _ _ ((o _ 0 1 _ (by decide)).trans c1)
  · rw [o _ 4 2 _ (by decide), o _ 3 2 _ (by decide)]; exact s _ _ _ _ ((o _ 1 2 _ (by decide)).trans ((o _ 0 2 _ (by decide)).trans c2))
  · rw [o _ 4 3 _ (by decide)]; exact s _ _ _ _ ((o _ 2 3 _ (by decide)).trans ((o _ 1 3 _ (by decide)).trans ((o _ 0 3 _ (by decide)).trans c3)))
  · exact s _ _ _ _ ((o _ 3 4 _ (by decide)).trans ((o _ 2 4 _ (by decide)).trans ((o _ 1 4 _ (by decide)).trans ((o _ 0 4 _ (by decide)).trans c4))))
end Go.Proofs.YtcbibefbjfhdcaaDoor.W
