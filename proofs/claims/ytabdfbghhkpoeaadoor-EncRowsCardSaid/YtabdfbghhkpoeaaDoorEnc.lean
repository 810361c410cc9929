/- What the functions of package enc compute: the table, and a row of it. -/
import Derived.Test.YtabdfbghhkpoeaaDoorEncP
import Derived.Test.YtabdfbghhkpoeaaDoorIns
import Derived.Test.YtabdfbghhkpoeaaDoorCells
import Derived.Test.YtabdfbghhkpoeaaDoorCellMap
namespace Go.Proofs.YtabdfbghhkpoeaaDoor.E
set_option linter.unusedVariables false
set_option linter.unusedSimpArgs false
open Go.ChangeShapes Go.WideShapes Go.ChangeAt Go.RowKit Go.Proofs.YtabdfbghhkpoeaaDoor.P Go.Proofs.YtabdfbghhkpoeaaDoor.W

theorem at_ (c f3 f7 : Int) (w : World) (c0 : 0 ≤ c) (c1 : c < 128) (d0 : 0 ≤ f3) (d1 : f3 < 8) (e0 : 0 ≤ f7) (e1 : f7 < 128) :
    Calls Tryd.prog 38 #[.int .u32 c, .int .u32 f3, .int .u32 f7] w fun e w' => e = .returned (.int .u32 (atV c f3 f7)) ∧ w = w' := by
  have j1 := or_join c f3 12 c0 (by simp; omega) d0 (by simp; omega)
  have j2 := or_join (c + f3 * 4096) f7 25 (by omega) (by simp; omega) e0 (by simp; omega)
  simp at j1 j2
  have HJ := hid j2
  clear j2
  go_enter Tryd.func38, Tryd.ntmps38
  go_wp2
  go_ret
  exact ⟨ret_int HJ.out, rfl⟩

/-- the table lies there -/
def RowsAt (w : World) (b : Nat) : Prop := b < w.heap.size ∧ ∀ k, k < 48 → w.cell? ⟨b, k * 3, none⟩ = some (.int .i64 (encL.getD k (0, 0, 0)).1) ∧ w.cell? ⟨b, k * 3 + 1, none⟩ = some (.int .u32 (encL.getD k (0, 0, 0)).2.1) ∧ w.cell? ⟨b, k * 3 + 2, none⟩ = some (.int .u32 (encL.getD k (0, 0, 0)).2.2)
theorem RowsAt.below {w w' : World} {b : Nat} (h : RowsAt w b) (hb : Below w.heap.size w w') : RowsAt w' b :=
  ⟨Nat.lt_of_lt_of_le h.1 hb.size, fun k hk => ⟨(hb.cell (p := ⟨b, k * 3, none⟩) h.1).trans (h.2 k hk).1, (hb.cell (p := ⟨b, k * 3 + 1, none⟩) h.1).trans (h.2 k hk).2.1, (hb.cell (p := ⟨b, k * 3 + 2, none⟩) h.1).trans (h.2 k hk).2.2⟩⟩
theorem cell_new (w : World) (l : List Value) (t : TypeId) (i : Nat) : (w.alloc (.cells l.toArray t)).cell? ⟨w.heap.size, i, none⟩ = l[i]? := by
  have h := heap_alloc_new w (.cells l.toArray t)
  unfold World.cell?
  simp only [h]
  simp
theorem RowsAt.new (w : World) (t : TypeId) : RowsAt (w.alloc (.cells (flat3 encL).toArray t)) w.heap.size := by
  refine ⟨by simp, fun k hk => ?_⟩
  obtain ⟨h1, h2, h3⟩ := flat3_at encL k (by rw [encL_length]; exact hk)
  exact ⟨(cell_new _ _ _ _).trans h1, (cell_new _ _ _ _).trans h2, (cell_new _ _ _ _).trans h3⟩
theorem wp_of_run {P : Program} {o : Oper} {a : Act} {w w' : World} {v : Value} {K : Act → World → Prop} {Q : Exit → Act → World → Prop} (h : (execOp a.eval o).run P w = .ok (.value v) w') (hk : K (a.put o.dst v) w') : o.wp P a w K Q := by
  unfold Oper.wp
  rw [h]
  exact hk
set_option maxRecDepth 100000 in
set_option maxHeartbeats 8000000 in
theorem Rows (w : World) : Calls Tryd.prog 14 #[] w fun e w' => ∃ b, e = .returned (.slice (some ⟨b, 0, none⟩) 48 48) ∧ RowsAt w' b ∧ w.heap.size ≤ b ∧ Below w.heap.size w w' := by
  go_enter Tryd.func14, Tryd.ntmps14
  go_wp2_with (first | (go_at_call 38; (with_reducible refine (at_ _ _ _ _ (by decide) (by decide) (by decide) (by decide) (by decide) (by decide)).mono ?_); rintro e w' ⟨rfl, rfl⟩))
  refine wp_of_run (v := .slice (some ⟨w.heap.size, 0, none⟩) 48 48) (w' := w.alloc (.cells (flat3 encL).toArray 37)) (by kernel_rfl) ?_
  go_wp2
  go_ret
  exact ⟨w.heap.size, rfl, RowsAt.new w 37, Nat.le_refl _, below_alloc w _⟩
end Go.Proofs.YtabdfbghhkpoeaaDoor.E
