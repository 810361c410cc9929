/- What press.rows computes: the table. -/
import Derived.Test.YtfecjdchgckjhaaPressQ
import Derived.Test.YtfecjdchgckjhaaIns
import Derived.Test.YtfecjdchgckjhaaCells
import Derived.Test.YtfecjdchgckjhaaCellMap
namespace Go.Proofs.Ytfecjdchgckjhaa.F
set_option linter.unusedVariables false
set_option linter.unusedSimpArgs false
open Go.ChangeShapes Go.WideShapes Go.ChangeAt Go.RowKit Go.Proofs.Ytfecjdchgckjhaa.P Go.Proofs.Ytfecjdchgckjhaa.W

/-- the cells of a row lie there -/
structure Row12 (w : World) (b o : Nat) (r : PR) : Prop where
  lt : b < w.heap.size
  c0 : w.cell? ⟨b, o, none⟩ = some (.string r.nm)
  c1 : w.cell? ⟨b, o + 1, none⟩ = some (.int .i64 r.op)
  c2 : w.cell? ⟨b, o + 2, none⟩ = some (.int .u16 r.m)
  c3 : w.cell? ⟨b, o + 3, none⟩ = some (.int .i64 r.rd)
  c4 : w.cell? ⟨b, o + 4, none⟩ = some (.int .i64 r.r1)
  c5 : w.cell? ⟨b, o + 5, none⟩ = some (.int .i64 r.r2)
  c6 : w.cell? ⟨b, o + 6, none⟩ = some (.int .i64 r.sg)
  c7 : w.cell? ⟨b, o + 7, none⟩ = some (.int .i64 r.un)
  c8 : w.cell? ⟨b, o + 8, none⟩ = some (.int .i32 r.lo)
  c9 : w.cell? ⟨b, o + 9, none⟩ = some (.int .i32 r.hi)
  c10 : w.cell? ⟨b, o + 10, none⟩ = some (.bool r.no)
  c11 : w.cell? ⟨b, o + 11, none⟩ = some (.string r.bt)
theorem Row12.below {w w' : World} {b o B : Nat} {r : PR} (h : Row12 w b o r) (hb : Below B w w') (hB : b < B) : Row12 w' b o r :=
  have c : ∀ j, w'.cell? ⟨b, j, none⟩ = w.cell? ⟨b, j, none⟩ := fun j => hb.cell (p := ⟨b, j, none⟩) hB
  ⟨Nat.lt_of_lt_of_le h.lt hb.size, (c _).trans h.c0, (c _).trans h.c1, (c _).trans h.c2, (c _).trans h.c3, (c _).trans h.c4, (c _).trans h.c5, (c _).trans h.c6, (c _).trans h.c7, (c _).trans h.c8, (c _).trans h.c9, (c _).trans h.c10, (c _).trans h.c11⟩
theorem cell_new (w : World) (l : List Value) (t : TypeId) (i : Nat) : (w.alloc (.cells l.toArray t)).cell? ⟨w.heap.size, i, none⟩ = l[i]? := by
  have h := heap_alloc_new w (.cells l.toArray t)
  unfold World.cell?
  simp only [h]
  simp
theorem Row12.new (w : World) (t : TypeId) (r : PR) : Row12 (w.alloc (.cells r.cells.toArray t)) w.heap.size 0 r :=
  ⟨by simp, (cell_new _ _ _ _).trans rfl, (cell_new _ _ _ _).trans rfl, (cell_new _ _ _ _).trans rfl, (cell_new _ _ _ _).trans rfl, (cell_new _ _ _ _).trans rfl, (cell_new _ _ _ _).trans rfl, (cell_new _ _ _ _).trans rfl, (cell_new _ _ _ _).trans rfl, (cell_new _ _ _ _).trans rfl, (cell_new _ _ _ _).trans rfl, (cell_new _ _ _ _).trans rfl, (cell_new _ _ _ _).trans rfl⟩
/-- the table lies there -/
def RowsAt (w : World) (b : Nat) : Prop := b < w.heap.size ∧ ∀ k, k < 27 → Row12 w b (k * 12) (prAt k)
theorem RowsAt.below {w w' : World} {b : Nat} (h : RowsAt w b) (hb : Below w.heap.size w w') : RowsAt w' b :=
  ⟨Nat.lt_of_lt_of_le h.1 hb.size, fun k hk => (h.2 k hk).below hb h.1⟩
theorem RowsAt.new (w : World) (t : TypeId) : RowsAt (w.alloc (.cells (prFlat prL).toArray t)) w.heap.size := by
  refine ⟨by simp, fun k hk => ?_⟩
  have e : ∀ j, j < 12 → (w.alloc (.cells (prFlat prL).toArray t)).cell? ⟨w.heap.size, k * 12 + j, none⟩ = (prAt k).cells[j]? := fun j hj =>
    (cell_new _ _ _ _).trans (prFlat_at prL k (by rw [prL_length]; exact hk) j hj)
  exact ⟨by simp, (e 0 (by decide)).trans rfl, (e 1 (by decide)).trans rfl, (e 2 (by decide)).trans rfl, (e 3 (by decide)).trans rfl, (e 4 (by decide)).trans rfl, (e 5 (by decide)).trans rfl, (e 6 (by decide)).trans rfl, (e 7 (by decide)).trans rfl, (e 8 (by decide)).trans rfl, (e 9 (by decide)).trans rfl, (e 10 (by decide)).trans rfl, (e 11 (by decide)).trans rfl⟩
theorem wp_of_run {P : Program} {o : Oper} {a : Act} {w w' : World} {v : Value} {K : Act → World → Prop} {Q : Exit → Act → World → Prop} (h : (execOp a.eval o).run P w = .ok (.value v) w') (hk : K (a.put o.dst v) w') : o.wp P a w K Q := by
  unfold Oper.wp
  rw [h]
  exact hk
set_option maxRecDepth 100000 in
set_option maxHeartbeats 8000000 in
theorem rows (w : World) : Calls Try.prog 33 #[] w fun e w' => ∃ b, e = .returned (.slice (some ⟨b, 0, none⟩) 27 27) ∧ RowsAt w' b ∧ w.heap.size ≤ b ∧ Below w.heap.size w w' := by
  go_enter Try.func33, Try.ntmps33
  go_wp2
  refine wp_of_run (v := .slice (some ⟨w.heap.size, 0, none⟩) 27 27) (w' := w.alloc (.cells (prFlat prL).toArray 40)) (by kernel_rfl) ?_
  go_wp2
  go_ret
  exact ⟨w.heap.size, rfl, RowsAt.new w 40, Nat.le_refl _, below_alloc w _⟩

end Go.Proofs.Ytfecjdchgckjhaa.F
