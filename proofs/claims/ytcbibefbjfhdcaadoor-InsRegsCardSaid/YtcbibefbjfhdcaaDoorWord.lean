/- What the functions of package word compute: one contract each. -/
import Derived.Test.YtcbibefbjfhdcaaDoorRows
import Derived.Test.YtcbibefbjfhdcaaDoorWordP
import Derived.WalkKit
import Derived.ProofKit
import Derived.OpenShut
import Derived.Deep.QuietTactic
import Derived.Handy
import Derived.BigQuiet
namespace Go.Proofs.YtcbibefbjfhdcaaDoor.W
set_option linter.unusedVariables false
open Go.ChangeShapes Go.WideShapes Go.ChangeAt Go.RowKit Go.Proofs.YtcbibefbjfhdcaaDoor.P

theorem ret_int {k : IntKind} {a b : Int} (h : a = b) : Ending.returned (.int k a) = .returned (.int k b) := by rw [h]
theorem ret_bool {a b : Bool} (h : a = b) : Ending.returned (.bool a) = .returned (.bool b) := by rw [h]

theorem below_drewN {B : Nat} {a w : World} (h : Below B a w) (n : Nat) : Below B a (w.drewN n) := h.trans ⟨rfl, rfl, rfl, Nat.le_refl _, fun _ _ => rfl⟩

theorem bcell {W w1 : World} (hb : Below W.heap.size W w1) : (∀ b o, b < W.heap.size → w1.cell? ⟨b, o, none⟩ = W.cell? ⟨b, o, none⟩) ∧ (∀ b o, b < W.heap.size → w1.frozen? ⟨b, o, none⟩ = W.frozen? ⟨b, o, none⟩) :=
  ⟨fun b o h => hb.cell (p := ⟨b, o, none⟩) h, fun b o h => hb.frozen (p := ⟨b, o, none⟩) h⟩
theorem bel_step {w W w' : World} (h : Below w.heap.size w W) (k : Below W.heap.size W w') : Below w.heap.size w w' := h.trans (k.mono h.size)

/-- what a cell holds, where it is there -/
def cellv (w : World) (a : Addr) : Value := (w.cell? a).getD undef
theorem cell_is {w : World} {a : Addr} (h : (w.cell? a).isSome = true) : w.cell? a = some (cellv w a) := by
  unfold cellv
  cases hc : w.cell? a with
  | none => rw [hc] at h; cases h
  | some v => rfl
theorem cell_set {w : World} {a : Addr} {v u : Value} (h : (w.setCell a v).cell? a = some u) : (w.setCell a v).cell? a = some v := by
  cases hc : w.cell? a with
  | some x => exact World.cell?_setCell_same w a v hc
  | none =>
    exfalso
    unfold World.cell? World.setCell at *
    simp only [Array.getElem?_modify, ↓reduceIte] at h
    cases hb : w.heap[a.block]? with
    | none => rw [hb] at h; simp at h
    | some o =>
      rw [hb] at h hc
      cases o with
      | cells c t f =>
        simp only [Option.map_some] at h hc
        cases hs : a.spot.isSome with
        | true => simp [hs] at h
        | false =>
          simp [hs] at hc
          simp only [hs] at h
          rw [Array.getElem?_eq_none (by simp; omega)] at h
          simp at h
      | _ => simp at h
theorem five_cells {w : World} {b : Nat} {v0 v1 v2 v3 v4 u0 u1 u2 u3 u4 : Value}
    (e0 : (((((w.setCell ⟨b, 0, none⟩ v0).setCell ⟨b, 1, none⟩ v1).setCell ⟨b, 2, none⟩ v2).setCell ⟨b, 3, none⟩ v3).setCell ⟨b, 4, none⟩ v4).cell? ⟨b, 0, none⟩ = some u0)
    (e1 : (((((w.setCell ⟨b, 0, none⟩ v0).setCell ⟨b, 1, none⟩ v1).setCell ⟨b, 2, none⟩ v2).setCell ⟨b, 3, none⟩ v3).setCell ⟨b, 4, none⟩ v4).cell? ⟨b, 1, none⟩ = some u1)
    (e2 : (((((w.setCell ⟨b, 0, none⟩ v0).setCell ⟨b, 1, none⟩ v1).setCell ⟨b, 2, none⟩ v2).setCell ⟨b, 3, none⟩ v3).setCell ⟨b, 4, none⟩ v4).cell? ⟨b, 2, none⟩ = some u2)
    (e3 : (((((w.setCell ⟨b, 0, none⟩ v0).setCell ⟨b, 1, none⟩ v1).setCell ⟨b, 2, none⟩ v2).setCell ⟨b, 3, none⟩ v3).setCell ⟨b, 4, none⟩ v4).cell? ⟨b, 3, none⟩ = some u3)
    (e4 : (((((w.setCell ⟨b, 0, none⟩ v0).setCell ⟨b, 1, none⟩ v1).setCell ⟨b, 2, none⟩ v2).setCell ⟨b, 3, none⟩ v3).setCell ⟨b, 4, none⟩ v4).cell? ⟨b, 4, none⟩ = some u4) :
    (((((w.setCell ⟨b, 0, none⟩ v0).setCell ⟨b, 1, none⟩ v1).setCell ⟨b, 2, none⟩ v2).setCell ⟨b, 3, none⟩ v3).setCell ⟨b, 4, none⟩ v4).cell? ⟨b, 0, none⟩ = some v0 ∧
    (((((w.setCell ⟨b, 0, none⟩ v0).setCell ⟨b, 1, none⟩ v1).setCell ⟨b, 2, none⟩ v2).setCell ⟨b, 3, none⟩ v3).setCell ⟨b, 4, none⟩ v4).cell? ⟨b, 1, none⟩ = some v1 ∧
    (((((w.setCell ⟨b, 0, none⟩ v0).setCell ⟨b, 1, none⟩ v1).setCell ⟨b, 2, none⟩ v2).setCell ⟨b, 3, none⟩ v3).setCell ⟨b, 4, none⟩ v4).cell? ⟨b, 2, none⟩ = some v2 ∧
    (((((w.setCell ⟨b, 0, none⟩ v0).setCell ⟨b, 1, none⟩ v1).setCell ⟨b, 2, none⟩ v2).setCell ⟨b, 3, none⟩ v3).setCell ⟨b, 4, none⟩ v4).cell? ⟨b, 3, none⟩ = some v3 ∧
    (((((w.setCell ⟨b, 0, none⟩ v0).setCell ⟨b, 1, none⟩ v1).setCell ⟨b, 2, none⟩ v2).setCell ⟨b, 3, none⟩ v3).setCell ⟨b, 4, none⟩ v4).cell? ⟨b, 4, none⟩ = some v4 := by
  have o : ∀ (W : World) (i j : Nat) (v : Value), i ≠ j → (W.setCell ⟨b, i, none⟩ v).cell? ⟨b, j, none⟩ = W.cell? ⟨b, j, none⟩ := fun W i j v h =>
    World.cell?_setCell_other W _ _ v (fun e => h (by injection e))
  simp only [o _ 4 0 _ (by decide), o _ 3 0 _ (by decide), o _ 2 0 _ (by decide), o _ 1 0 _ (by decide)] at e0 ⊢
  simp only [o _ 4 1 _ (by decide), o _ 3 1 _ (by decide), o _ 2 1 _ (by decide)] at e1 ⊢
  simp only [o _ 4 2 _ (by decide), o _ 3 2 _ (by decide)] at e2 ⊢
  simp only [o _ 4 3 _ (by decide)] at e3 ⊢
  exact ⟨cell_set e0, cell_set e1, cell_set e2, cell_set e3, cell_set e4⟩
theorem far_five {w : World} {b c : Nat} (h : b ≠ c) (v0 v1 v2 v3 v4 : Value) (j : Nat) :
    (((((w.setCell ⟨b, 0, none⟩ v0).setCell ⟨b, 1, none⟩ v1).setCell ⟨b, 2, none⟩ v2).setCell ⟨b, 3, none⟩ v3).setCell ⟨b, 4, none⟩ v4).cell? ⟨c, j, none⟩ = w.cell? ⟨c, j, none⟩ ∧
    (((((w.setCell ⟨b, 0, none⟩ v0).setCell ⟨b, 1, none⟩ v1).setCell ⟨b, 2, none⟩ v2).setCell ⟨b, 3, none⟩ v3).setCell ⟨b, 4, none⟩ v4).frozen? ⟨c, j, none⟩ = w.frozen? ⟨c, j, none⟩ := by
  have o : ∀ (W : World) (i : Nat) (v : Value), (W.setCell ⟨b, i, none⟩ v).cell? ⟨c, j, none⟩ = W.cell? ⟨c, j, none⟩ := fun W i v =>
    World.cell?_setCell_other W _ _ v (fun e => h (by injection e))
  simp only [o, World.frozen?_setCell, and_self]
theorem bel_undrew {w w' : World} (h : Below w.drew.heap.size w.drew w') : Below w.heap.size w w' := ⟨h.os, h.tape, h.output, h.size, h.block⟩
theorem bel_undrewN {w w' : World} {n : Nat} (h : Below (w.drewN n).heap.size (w.drewN n) w') : Below w.heap.size w w' := ⟨h.os, h.tape, h.output, h.size, h.block⟩
theorem hid {p : Prop} (h : p) : Hid p := h
theorem lay {p q : Prop} (hp : p) (h : p → q) : q := h hp

theorem within (n a b : Int) (w : World) :
    Calls Tryd.prog 63 #[.int .i64 n, .int .i64 a, .int .i64 b] w fun e w' => e = .returned (.int .i64 (min (max n a) b)) ∧ w = w' := by
  go_enter Tryd.func63, Tryd.ntmps63
  go_wp2
  all_goals (go_ret; exact ⟨ret_int (by first | omega | simp ; omega), rfl⟩)

theorem Sign (x n : Int) (w : World) :
    Calls Tryd.prog 53 #[.int .u32 x, .int .i64 n] w fun e w' => e = .returned (.int .i32 (sgn x (held n))) ∧ w = w' := by
  go_enter Tryd.func53, Tryd.ntmps53
  go_wp2_with (go_at_call 63; refine (within _ _ _ _).mono ?_; rintro e w' ⟨rfl, rfl⟩)
  · have h : (min (max n 0) 32 == 0) = true := by assumption
    go_ret
    exact ⟨ret_int (by
      have : held n = 0 := by unfold held; simp at h; omega
      rw [this, sgn_zero]), rfl⟩
  · have h : (min (max n 0) 32 == 0) = false := by assumption
    go_ret
    exact ⟨ret_int (by
      have h1 : 1 ≤ held n := by unfold held; simp at h; omega
      have h2 := held_le n
      have h3 : (32 - min (max n 0) 32).toNat = 32 - held n := by unfold held; omega
      show wrap32 (x * 2 ^ (32 - min (max n 0) 32).toNat % 4294967296) / 2 ^ (32 - min (max n 0) 32).toNat = _
      rw [h3, sgn_shift x _ h1 h2]), rfl⟩

theorem Fits (v n : Int) (w : World) :
    Calls Tryd.prog 41 #[.int .i32 v, .int .i64 n] w fun e w' => e = .returned (.bool (sgn (v % 4294967296) (held n) == v)) ∧ w = w' := by
  go_enter Tryd.func41, Tryd.ntmps41
  go_wp2_with (go_at_call 53; refine (Sign _ _ _).mono ?_; rintro e w' ⟨rfl, rfl⟩)
  go_ret
  exact ⟨rfl, rfl⟩

end Go.Proofs.YtcbibefbjfhdcaaDoor.W
