/- What the condition on the listed variables gives the walks: the tables of package enc. -/
import Derived.Test.YtabdfbghhkpoeaaDoorLaid
import Derived.Test.YtabdfbghhkpoeaaDoorEncT
import Derived.Test.YtabdfbghhkpoeaaDoorTie
import Derived.Stop.Joined
namespace Go.Proofs.YtabdfbghhkpoeaaDoor.E
set_option linter.unusedVariables false
set_option linter.unusedSimpArgs false
open Go.ChangeShapes Go.WideShapes Go.ChangeAt Go.RowKit Go.Proofs.YtabdfbghhkpoeaaDoor.P Go.Proofs.YtabdfbghhkpoeaaDoor.W

def laidE : List (String × DataW Unit) := Rows.encPutsRow.laid
def spansL : List (List Int) := [[0, 0, 0, 0, 0, 0, 0, 0, 0, 0, 0, 0], [12, 12, 20, 0, 0, 0, 0, 0, 0, 0, 0, 0], [21, 1, 10, 20, 11, 1, 12, 12, 8, 31, 20, 1], [8, 1, 4, 25, 5, 6, 7, 11, 1, 31, 12, 1], [20, 0, 12, 0, 0, 0, 0, 0, 0, 0, 0, 0], [7, 0, 5, 25, 5, 7, 0, 0, 0, 0, 0, 0], [20, 0, 12, 0, 0, 0, 0, 0, 0, 0, 0, 0], [20, 0, 5, 0, 0, 0, 0, 0, 0, 0, 0, 0], [0, 0, 0, 0, 0, 0, 0, 0, 0, 0, 0, 0], [0, 0, 0, 0, 0, 0, 0, 0, 0, 0, 0, 0]]
def widthsL : List Int := [0, 32, 21, 13, 12, 12, 12, 0, 0, 0]
def regsL : List Int := [0, 1, 1, 6, 3, 6, 3, 3, 7, 0]
theorem tabs_of_laid {W : World} (h : laidMetH Tryd.prog laidE W) : Tabs W := by
  rw [MakeChecks.laidMetH_plain _ _ _ (by kernel_rfl)] at h
  obtain ⟨ps, ⟨g0, t0, cs0, f0, p0, q0, hg0, ht0, hv0, hd0, ⟨g1, t1, cs1, f1, p1, q1, hg1, ht1, hv1, hd1, ⟨g2, t2, cs2, f2, p2, q2, hg2, ht2, hv2, hd2, _, _⟩, _⟩, _⟩, _, _⟩ := h
  obtain rfl := Option.some.inj ((show Tryd.prog.globalNamed (laidE.getD 0 ("", .nil)).1 = some 1 by kernel_rfl).symm.trans hg0)
  obtain rfl := Option.some.inj ((show Tryd.prog.globalNamed (laidE.getD 1 ("", .nil)).1 = some 2 by kernel_rfl).symm.trans hg1)
  obtain rfl := Option.some.inj ((show Tryd.prog.globalNamed (laidE.getD 2 ("", .nil)).1 = some 0 by kernel_rfl).symm.trans hg2)
  obtain rfl := Option.some.inj ((show (Tryd.prog.globals[1]?).map (·.type) = some 70 by kernel_rfl).symm.trans ht0)
  obtain rfl := Option.some.inj ((show (Tryd.prog.globals[2]?).map (·.type) = some 57 by kernel_rfl).symm.trans ht1)
  obtain rfl := Option.some.inj ((show (Tryd.prog.globals[0]?).map (·.type) = some 57 by kernel_rfl).symm.trans ht2)
  have r0 := ints_rows (zs := spansL) Tryd.underlying70 Tryd.underlying69 Tryd.underlying3 (by kernel_rfl) (by kernel_rfl) (by kernel_rfl) hd0
  have r1 := ints_row (zs := widthsL) Tryd.underlying57 Tryd.underlying3 (by kernel_rfl) (by kernel_rfl) hd1
  have r2 := ints_row (zs := regsL) Tryd.underlying57 Tryd.underlying3 (by kernel_rfl) (by kernel_rfl) hd2
  have c0 : ∀ i j, i < 10 → j < 12 → W.cell? ⟨1, i * 12 + j, none⟩ = (spansL[i]?.bind (·[j]?)).map (Value.int .i64) := fun i j hi hj => by
    have := World.var?_cell hg0 hv0 (i * 12 + j)
    rw [this, ← r0 i hi j hj]; simp
  have c1 : ∀ i, W.cell? ⟨2, i, none⟩ = (widthsL.map (Value.int .i64))[i]? := fun i => by
    have := World.var?_cell hg1 hv1 i
    rw [this, ← r1]; simp
  have c2 : ∀ i, W.cell? ⟨0, i, none⟩ = (regsL.map (Value.int .i64))[i]? := fun i => by
    have := World.var?_cell hg2 hv2 i
    rw [this, ← r2]; simp
  refine ⟨World.block_lt_of_cell? W ⟨1, 0, none⟩ (c0 0 0 (by decide) (by decide)), World.block_lt_of_cell? W ⟨2, 0, none⟩ (c1 0), World.block_lt_of_cell? W ⟨0, 0, none⟩ (c2 0),
    ⟨c0 1 0 (by decide) (by decide), c0 1 1 (by decide) (by decide), c0 1 2 (by decide) (by decide), c0 1 3 (by decide) (by decide), c0 1 4 (by decide) (by decide), c0 1 5 (by decide) (by decide), c0 1 6 (by decide) (by decide), c0 1 7 (by decide) (by decide), c0 1 8 (by decide) (by decide), c0 1 9 (by decide) (by decide), c0 1 10 (by decide) (by decide), c0 1 11 (by decide) (by decide)⟩,
    ⟨c0 2 0 (by decide) (by decide), c0 2 1 (by decide) (by decide), c0 2 2 (by decide) (by decide), c0 2 3 (by decide) (by decide), c0 2 4 (by decide) (by decide), c0 2 5 (by decide) (by decide), c0 2 6 (by decide) (by decide), c0 2 7 (by decide) (by decide), c0 2 8 (by decide) (by decide), c0 2 9 (by decide) (by decide), c0 2 10 (by decide) (by decide), c0 2 11 (by decide) (by decide)⟩,
    ⟨c0 3 0 (by decide) (by decide), c0 3 1 (by decide) (by decide), c0 3 2 (by decide) (by decide), c0 3 3 (by decide) (by decide), c0 3 4 (by decide) (by decide), c0 3 5 (by decide) (by decide), c0 3 6 (by decide) (by decide), c0 3 7 (by decide) (by decide), c0 3 8 (by decide) (by decide), c0 3 9 (by decide) (by decide), c0 3 10 (by decide) (by decide), c0 3 11 (by decide) (by decide)⟩,
    ⟨c0 4 0 (by decide) (by decide), c0 4 1 (by decide) (by decide), c0 4 2 (by decide) (by decide), c0 4 3 (by decide) (by decide), c0 4 4 (by decide) (by decide), c0 4 5 (by decide) (by decide), c0 4 6 (by decide) (by decide), c0 4 7 (by decide) (by decide), c0 4 8 (by decide) (by decide), c0 4 9 (by decide) (by decide), c0 4 10 (by decide) (by decide), c0 4 11 (by decide) (by decide)⟩,
    ⟨c0 5 0 (by decide) (by decide), c0 5 1 (by decide) (by decide), c0 5 2 (by decide) (by decide), c0 5 3 (by decide) (by decide), c0 5 4 (by decide) (by decide), c0 5 5 (by decide) (by decide), c0 5 6 (by decide) (by decide), c0 5 7 (by decide) (by decide), c0 5 8 (by decide) (by decide), c0 5 9 (by decide) (by decide), c0 5 10 (by decide) (by decide), c0 5 11 (by decide) (by decide)⟩,
    ⟨c0 6 0 (by decide) (by decide), c0 6 1 (by decide) (by decide), c0 6 2 (by decide) (by decide), c0 6 3 (by decide) (by decide), c0 6 4 (by decide) (by decide), c0 6 5 (by decide) (by decide), c0 6 6 (by decide) (by decide), c0 6 7 (by decide) (by decide), c0 6 8 (by decide) (by decide), c0 6 9 (by decide) (by decide), c0 6 10 (by decide) (by decide), c0 6 11 (by decide) (by decide)⟩,
    ⟨c0 7 0 (by decide) (by decide), c0 7 1 (by decide) (by decide), c0 7 2 (by decide) (by decide), c0 7 3 (by decide) (by decide), c0 7 4 (by decide) (by decide), c0 7 5 (by decide) (by decide), c0 7 6 (by decide) (by decide), c0 7 7 (by decide) (by decide), c0 7 8 (by decide) (by decide), c0 7 9 (by decide) (by decide), c0 7 10 (by decide) (by decide), c0 7 11 (by decide) (by decide)⟩,
    c1 1, c1 2, c1 3, c1 4, c1 5, c1 6, c1 7, c2 1, c2 2, c2 3, c2 4, c2 5, c2 6, c2 7, c2 8, c2 9⟩
/-- the door's own heap meets the condition: three closed facts -/
theorem door_met (os : Os) (args : Array Value) : laidMetH Tryd.prog laidE ((World.doorLaid Tryd.prog 400 os).forCall (fun _ _ => 0) ⟨#[], args, []⟩).memory :=
  laidMetH_of_parts3 (fuel := 8) (laidMet_of_run' 8 (by kernel_rfl) (by kernel_rfl)) (by kernel_rfl) (by kernel_rfl)
end Go.Proofs.YtabdfbghhkpoeaaDoor.E
