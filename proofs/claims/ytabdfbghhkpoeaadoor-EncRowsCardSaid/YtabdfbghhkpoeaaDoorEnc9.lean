/- What enc.Get computes where no row fits. -/
import Derived.Test.YtabdfbghhkpoeaaDoorEnc8
import Derived.Deep.Cut
namespace Go.Proofs.YtabdfbghhkpoeaaDoor.E
set_option linter.unusedVariables false
set_option linter.unusedSimpArgs false
open Go.ChangeShapes Go.WideShapes Go.ChangeAt Go.RowKit Go.Proofs.YtabdfbghhkpoeaaDoor.P Go.Proofs.YtabdfbghhkpoeaaDoor.W

set_option maxHeartbeats 1000000 in
theorem Get_no (x : Int) (w : World) (x0 : 0 ≤ x) (x1 : x < 4294967296) (hlow : ∀ k, k < 48 → fitB x k = false) :
    Calls Tryd.prog 12 #[.int .u32 x] w fun e w' => e = .returned (.tuple #[.agg #[.int .i64 0, .int .i64 0, .int .i64 0, .int .i64 0, .int .i32 0], .bool false]) ∧ Below w.heap.size w w' := by
  have hF := hid (fun b pb w hR hp hc => firstNone x b pb w hR hp hc hlow)
  clear hlow
  go_enter Tryd.func12, Tryd.ntmps12
  go_wp2_with fail
  refine (Rows _).mono ?_
  rintro e w3 ⟨b, rfl, hR, hbb, hb1⟩
  have cx := (hb1.cell (p := ⟨w.heap.size, 0, none⟩) (by simp; omega)).trans (show _ = some (Value.int IntKind.u32 x) by go_simp)
  go_wp2_with fail
  refine (hF.out b w.heap.size _ hR (by have := hb1.size; simp at this; omega) cx).mono ?_
  rintro e w4 ⟨rfl, hb2⟩
  replace hb1 := bel_step hb1 hb2
  clear hb2 hR cx hbb
  have hs1 := hb1.size
  simp only [World.size_alloc] at hs1
  have hc : ∀ j, w4.cell? ⟨w.heap.size + 1, j, none⟩ = _ := fun j => hb1.cell (p := ⟨w.heap.size + 1, j, none⟩) (by simp)
  have hf : ∀ j, w4.frozen? ⟨w.heap.size + 1, j, none⟩ = _ := fun j => hb1.frozen (p := ⟨w.heap.size + 1, j, none⟩) (by simp)
  have z0 : w4.cell? ⟨w.heap.size + 1, 0, none⟩ = some (.int .i64 0) := (hc 0).trans (by go_simp)
  have z1 : w4.cell? ⟨w.heap.size + 1, 1, none⟩ = some (.int .i64 0) := (hc 1).trans (by go_simp)
  have z2 : w4.cell? ⟨w.heap.size + 1, 2, none⟩ = some (.int .i64 0) := (hc 2).trans (by go_simp)
  have z3 : w4.cell? ⟨w.heap.size + 1, 3, none⟩ = some (.int .i64 0) := (hc 3).trans (by go_simp)
  have z4 : w4.cell? ⟨w.heap.size + 1, 4, none⟩ = some (.int .i32 0) := (hc 4).trans (by go_simp)
  have f0 : w4.frozen? ⟨w.heap.size + 1, 0, none⟩ = false := (hf 0).trans (by go_simp)
  have f1 : w4.frozen? ⟨w.heap.size + 1, 1, none⟩ = false := (hf 1).trans (by go_simp)
  have f2 : w4.frozen? ⟨w.heap.size + 1, 2, none⟩ = false := (hf 2).trans (by go_simp)
  have f3 : w4.frozen? ⟨w.heap.size + 1, 3, none⟩ = false := (hf 3).trans (by go_simp)
  have f4 : w4.frozen? ⟨w.heap.size + 1, 4, none⟩ = false := (hf 4).trans (by go_simp)
  have hbw : Below w.heap.size w w4 := bel_step (w := w) (by repeat' (first | (with_reducible exact Below.refl _ _) | (with_reducible assumption) | (with_reducible refine below_drewN ?_ _) | (with_reducible refine Below.alloc ?_ ?_ _) | (with_reducible refine Below.drew ?_) | (with_reducible refine Below.setCell ?_ ?_ _) | (with_reducible exact Below.size (by assumption)) | go_size)) hb1
  have hne : w.heap.size + 1 ≠ w4.heap.size := by omega
  have hlt : w.heap.size + 1 < w4.heap.size := by omega
  clear hc hf hb1 hs1
  go_upto_region 3 with (fail)
  have cz : ∀ (o : Obj) j, (w4.alloc o).cell? ⟨w.heap.size + 1, j, none⟩ = w4.cell? ⟨w.heap.size + 1, j, none⟩ := fun o j => World.cell?_alloc_old _ _ _ hne
  have fz : ∀ (c : Array Value) (t : TypeId) j, (w4.alloc (.cells c t)).frozen? ⟨w.heap.size + 1, j, none⟩ = w4.frozen? ⟨w.heap.size + 1, j, none⟩ := fun c t j => by go_simp
  have q0 := (cz (.cells #[.int .i64 0, .int .u32 0, .int .u32 0] 37) 0).trans z0
  have q1 := (cz (.cells #[.int .i64 0, .int .u32 0, .int .u32 0] 37) 1).trans z1
  have q2 := (cz (.cells #[.int .i64 0, .int .u32 0, .int .u32 0] 37) 2).trans z2
  have q3 := (cz (.cells #[.int .i64 0, .int .u32 0, .int .u32 0] 37) 3).trans z3
  have q4 := (cz (.cells #[.int .i64 0, .int .u32 0, .int .u32 0] 37) 4).trans z4
  have e0 := (fz #[.int .i64 0, .int .u32 0, .int .u32 0] 37 0).trans f0
  have e1 := (fz #[.int .i64 0, .int .u32 0, .int .u32 0] 37 1).trans f1
  have e2 := (fz #[.int .i64 0, .int .u32 0, .int .u32 0] 37 2).trans f2
  have e3 := (fz #[.int .i64 0, .int .u32 0, .int .u32 0] 37 3).trans f3
  have e4 := (fz #[.int .i64 0, .int .u32 0, .int .u32 0] 37 4).trans f4
  have hbr : Below w.heap.size w (w4.alloc (.cells #[.int .i64 0, .int .u32 0, .int .u32 0] 37)) := hbw.alloc (by omega) _
  have hlr : w.heap.size + 1 < (w4.alloc (.cells #[.int .i64 0, .int .u32 0, .int .u32 0] 37)).heap.size := by simp; omega
  clear cz fz z0 z1 z2 z3 z4 f0 f1 f2 f3 f4 hbw hne hlt
  generalize w4.alloc (.cells #[.int .i64 0, .int .u32 0, .int .u32 0] 37) = w5 at *
  generalize hB : w.heap.size = B at *
  have HB := hid hB
  clear hB
  go_wp2
  refine bodyPost_ret (v := .tuple #[.agg #[.int .i64 0, .int .i64 0, .int .i64 0, .int .i64 0, .int .i32 0], .bool false]) (by simp [results, Tryd.results12, go_sem, setCell_map, q0, q1, q2, q3, q4]; try rfl) rfl ⟨rfl, by rw [HB.out]; exact (by repeat' (first | (with_reducible exact Below.refl _ _) | (with_reducible assumption) | (with_reducible refine below_drewN ?_ _) | (with_reducible refine Below.alloc ?_ ?_ _) | (with_reducible refine Below.drew ?_) | (with_reducible refine Below.setCell ?_ ?_ _) | (with_reducible exact Below.size (by assumption)) | go_size))⟩
end Go.Proofs.YtabdfbghhkpoeaaDoor.E
