/- What the functions of package slim compute: the small ones. -/
import Derived.Test.YtfecjdchgckjhaaSlim
import Derived.Test.YtfecjdchgckjhaaSlimP
namespace Go.Proofs.Ytfecjdchgckjhaa.S
set_option linter.unusedVariables false
open Go.ChangeShapes Go.WideShapes Go.ChangeAt Go.RowKit Go.Proofs.Ytfecjdchgckjhaa.P Go.Proofs.Ytfecjdchgckjhaa.W

/-- what stores into a block leave there, one behind the other -/
theorem five_ret {w : World} {b : Nat} {u0 u1 u2 u3 u4 : Value} (c0 : w.cell? ⟨b, 0, none⟩ = some u0) (c1 : w.cell? ⟨b, 1, none⟩ = some u1) (c2 : w.cell? ⟨b, 2, none⟩ = some u2) (c3 : w.cell? ⟨b, 3, none⟩ = some u3) (c4 : w.cell? ⟨b, 4, none⟩ = some u4) :
    (∀ v0 : Value, (w.setCell ⟨b, 0, none⟩ v0).cell? ⟨b, 0, none⟩ = some v0) ∧
    (∀ v0 v1 : Value, ((w.setCell ⟨b, 0, none⟩ v0).setCell ⟨b, 1, none⟩ v1).cell? ⟨b, 1, none⟩ = some v1) ∧
    (∀ v0 v1 v2 : Value, (((w.setCell ⟨b, 0, none⟩ v0).setCell ⟨b, 1, none⟩ v1).setCell ⟨b, 2, none⟩ v2).cell? ⟨b, 2, none⟩ = some v2) ∧
    (∀ v0 v1 v2 v3 : Value, ((((w.setCell ⟨b, 0, none⟩ v0).setCell ⟨b, 1, none⟩ v1).setCell ⟨b, 2, none⟩ v2).setCell ⟨b, 3, none⟩ v3).cell? ⟨b, 3, none⟩ = some v3) ∧
    (∀ v0 v1 v2 v3 v4 : Value, (((((w.setCell ⟨b, 0, none⟩ v0).setCell ⟨b, 1, none⟩ v1).setCell ⟨b, 2, none⟩ v2).setCell ⟨b, 3, none⟩ v3).setCell ⟨b, 4, none⟩ v4).cell? ⟨b, 4, none⟩ = some v4) := by
  have o : ∀ (W : World) (i j : Nat) (v : Value), i ≠ j → (W.setCell ⟨b, i, none⟩ v).cell? ⟨b, j, none⟩ = W.cell? ⟨b, j, none⟩ := fun W i j v h =>
    World.cell?_setCell_other W _ _ v (fun e => h (by injection e))
  have s : ∀ (W : World) (j : Nat) (u v : Value), W.cell? ⟨b, j, none⟩ = some u → (W.setCell ⟨b, j, none⟩ v).cell? ⟨b, j, none⟩ = some v := by
    intro W j u v h
    have := World.cell?_setCell_same W ⟨b, j, none⟩ v h
    exact this
  refine ⟨?_, ?_, ?_, ?_, ?_⟩
  · intro v0; exact s _ _ _ _ c0
  · intro v0 v1; exact s _ _ _ _ ((o _ 0 1 _ (by decide)).trans c1)
  · intro v0 v1 v2; exact s _ _ _ _ ((o _ 1 2 _ (by decide)).trans ((o _ 0 2 _ (by decide)).trans c2))
  · intro v0 v1 v2 v3; exact s _ _ _ _ ((o _ 2 3 _ (by decide)).trans ((o _ 1 3 _ (by decide)).trans ((o _ 0 3 _ (by decide)).trans c3)))
  · intro v0 v1 v2 v3 v4; exact s _ _ _ _ ((o _ 3 4 _ (by decide)).trans ((o _ 2 4 _ (by decide)).trans ((o _ 1 4 _ (by decide)).trans ((o _ 0 4 _ (by decide)).trans c4))))
/-- .. in a world behind a call -/
theorem five_old {w w' : World} {t : TypeId} (h : Below (w.heap.size + 1) (w.alloc (.cells #[.int .i64 0, .int .i64 0, .int .i64 0, .int .i64 0, .int .i32 0] t)) w') :
    (∀ v0 : Value, (w'.setCell ⟨w.heap.size, 0, none⟩ v0).cell? ⟨w.heap.size, 0, none⟩ = some v0) ∧
    (∀ v0 v1 : Value, ((w'.setCell ⟨w.heap.size, 0, none⟩ v0).setCell ⟨w.heap.size, 1, none⟩ v1).cell? ⟨w.heap.size, 1, none⟩ = some v1) ∧
    (∀ v0 v1 v2 : Value, (((w'.setCell ⟨w.heap.size, 0, none⟩ v0).setCell ⟨w.heap.size, 1, none⟩ v1).setCell ⟨w.heap.size, 2, none⟩ v2).cell? ⟨w.heap.size, 2, none⟩ = some v2) ∧
    (∀ v0 v1 v2 v3 : Value, ((((w'.setCell ⟨w.heap.size, 0, none⟩ v0).setCell ⟨w.heap.size, 1, none⟩ v1).setCell ⟨w.heap.size, 2, none⟩ v2).setCell ⟨w.heap.size, 3, none⟩ v3).cell? ⟨w.heap.size, 3, none⟩ = some v3) ∧
    (∀ v0 v1 v2 v3 v4 : Value, (((((w'.setCell ⟨w.heap.size, 0, none⟩ v0).setCell ⟨w.heap.size, 1, none⟩ v1).setCell ⟨w.heap.size, 2, none⟩ v2).setCell ⟨w.heap.size, 3, none⟩ v3).setCell ⟨w.heap.size, 4, none⟩ v4).cell? ⟨w.heap.size, 4, none⟩ = some v4) :=
  five_ret (u0 := .int .i64 0) (u1 := .int .i64 0) (u2 := .int .i64 0) (u3 := .int .i64 0) (u4 := .int .i32 0) ((h.cell (p := ⟨w.heap.size, 0, none⟩) (Nat.lt_succ_self _)).trans (by simp)) ((h.cell (p := ⟨w.heap.size, 1, none⟩) (Nat.lt_succ_self _)).trans (by simp)) ((h.cell (p := ⟨w.heap.size, 2, none⟩) (Nat.lt_succ_self _)).trans (by simp))
    ((h.cell (p := ⟨w.heap.size, 3, none⟩) (Nat.lt_succ_self _)).trans (by simp)) ((h.cell (p := ⟨w.heap.size, 4, none⟩) (Nat.lt_succ_self _)).trans (by simp))
/-- .. and draws -/
theorem five_drew {w w' : World} {t : TypeId} (h : Below (w.heap.size + 1) (w.alloc (.cells #[.int .i64 0, .int .i64 0, .int .i64 0, .int .i64 0, .int .i32 0] t)) w') (n : Nat) :
    (∀ v0 : Value, ((w'.drewN n).setCell ⟨w.heap.size, 0, none⟩ v0).cell? ⟨w.heap.size, 0, none⟩ = some v0) ∧
    (∀ v0 v1 : Value, (((w'.drewN n).setCell ⟨w.heap.size, 0, none⟩ v0).setCell ⟨w.heap.size, 1, none⟩ v1).cell? ⟨w.heap.size, 1, none⟩ = some v1) ∧
    (∀ v0 v1 v2 : Value, ((((w'.drewN n).setCell ⟨w.heap.size, 0, none⟩ v0).setCell ⟨w.heap.size, 1, none⟩ v1).setCell ⟨w.heap.size, 2, none⟩ v2).cell? ⟨w.heap.size, 2, none⟩ = some v2) ∧
    (∀ v0 v1 v2 v3 : Value, (((((w'.drewN n).setCell ⟨w.heap.size, 0, none⟩ v0).setCell ⟨w.heap.size, 1, none⟩ v1).setCell ⟨w.heap.size, 2, none⟩ v2).setCell ⟨w.heap.size, 3, none⟩ v3).cell? ⟨w.heap.size, 3, none⟩ = some v3) ∧
    (∀ v0 v1 v2 v3 v4 : Value, ((((((w'.drewN n).setCell ⟨w.heap.size, 0, none⟩ v0).setCell ⟨w.heap.size, 1, none⟩ v1).setCell ⟨w.heap.size, 2, none⟩ v2).setCell ⟨w.heap.size, 3, none⟩ v3).setCell ⟨w.heap.size, 4, none⟩ v4).cell? ⟨w.heap.size, 4, none⟩ = some v4) :=
  five_old (below_drewN h n)
theorem f3_lt (x : Int) (l : Nat) : 0 ≤ fld x l 3 ∧ fld x l 3 < 8 := fld_bd x l 3
end Go.Proofs.Ytfecjdchgckjhaa.S
