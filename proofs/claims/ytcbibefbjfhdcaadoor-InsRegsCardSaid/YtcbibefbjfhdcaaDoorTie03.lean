/- What the condition on the listed variables gives the walks: the lists of package ins. -/
import Derived.Test.YtcbibefbjfhdcaaDoorLaid
import Derived.Test.YtcbibefbjfhdcaaDoorInsT
import Derived.Test.YtcbibefbjfhdcaaDoorTie
import Derived.Stop.Joined
namespace Go.Proofs.YtcbibefbjfhdcaaDoor.I
set_option linter.unusedVariables false
set_option linter.unusedSimpArgs false
open Go.ChangeShapes Go.WideShapes Go.ChangeAt Go.RowKit Go.Proofs.YtcbibefbjfhdcaaDoor.P Go.Proofs.YtcbibefbjfhdcaaDoor.W

def laidI : List (String × DataW Unit) := Rows.insMayRow.laid
theorem tabs_of_laid {W : World} (h : laidMetH Tryd.prog laidI W) : Tabs W := by
  rw [MakeChecks.laidMetH_plain _ _ _ (by kernel_rfl)] at h
  obtain ⟨ps, ⟨g2, t2, cs2, f2, p2, q2, hg2, ht2, hv2, hd2, ⟨g3, t3, cs3, f3, p3, q3, hg3, ht3, hv3, hd3, ⟨g4, t4, cs4, f4, p4, q4, hg4, ht4, hv4, hd4, ⟨g0, t0, cs0, f0, p0, q0, hg0, ht0, hv0, hd0, ⟨g1, t1, cs1, f1, p1, q1, hg1, ht1, hv1, hd1, _, _⟩, _⟩, _⟩, _⟩, _⟩, _, _⟩ := h
  obtain rfl := Option.some.inj ((show Tryd.prog.globalNamed (laidI.getD 3 ("", .nil)).1 = some 0 by kernel_rfl).symm.trans hg0)
  obtain rfl := Option.some.inj ((show Tryd.prog.globalNamed (laidI.getD 4 ("", .nil)).1 = some 1 by kernel_rfl).symm.trans hg1)
  obtain rfl := Option.some.inj ((show (Tryd.prog.globals[0]?).map (·.type) = some 49 by kernel_rfl).symm.trans ht0)
  obtain rfl := Option.some.inj ((show (Tryd.prog.globals[1]?).map (·.type) = some 50 by kernel_rfl).symm.trans ht1)
  have r0 := strs_row (zs := names.map (·.data.toList)) Tryd.underlying49 Tryd.underlying9 (by kernel_rfl) (by kernel_rfl) hd0
  have r1 := strs_row (zs := regNames.map (·.data.toList)) Tryd.underlying50 Tryd.underlying9 (by kernel_rfl) (by kernel_rfl) hd1
  have c0 : ∀ i, i < 49 → W.cell? ⟨0, i, none⟩ = some (.string (names.getD i ⟨#[]⟩)) := fun i hi => by
    have := World.var?_cell hg0 hv0 i
    rw [this, ← show (names.map Value.string)[i]? = some (.string (names.getD i ⟨#[]⟩)) by simp [List.getD, show i < names.length from hi]]
    rw [← Array.getElem?_toList, r0, List.map_map]; rfl
  have c1 : ∀ i, i < 32 → W.cell? ⟨1, i, none⟩ = some (.string (regNames.getD i ⟨#[]⟩)) := fun i hi => by
    have := World.var?_cell hg1 hv1 i
    rw [this, ← show (regNames.map Value.string)[i]? = some (.string (regNames.getD i ⟨#[]⟩)) by simp [List.getD, show i < regNames.length from hi]]
    rw [← Array.getElem?_toList, r1, List.map_map]; rfl
  exact ⟨⟨World.block_lt_of_cell? W ⟨0, 0, none⟩ (c0 0 (by decide)), c0⟩, ⟨World.block_lt_of_cell? W ⟨1, 0, none⟩ (c1 0 (by decide)), c1⟩⟩
/-- the door's own heap meets the condition: three closed facts -/
theorem door_met (os : Os) (args : Array Value) : laidMetH Tryd.prog laidI ((World.doorLaid Tryd.prog 400 os).forCall (fun _ _ => 0) ⟨#[], args, []⟩).memory :=
  laidMetH_of_parts3 (fuel := 8) (laidMet_of_run' 8 (by kernel_rfl) (by kernel_rfl)) (by kernel_rfl) (by kernel_rfl)
end Go.Proofs.YtcbibefbjfhdcaaDoor.I
