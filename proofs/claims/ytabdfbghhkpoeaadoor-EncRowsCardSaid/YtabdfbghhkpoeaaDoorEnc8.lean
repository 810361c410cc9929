/- What enc.Get computes where no row fits. -/
import Derived.Test.YtabdfbghhkpoeaaDoorEnc2
namespace Go.Proofs.YtabdfbghhkpoeaaDoor.E
set_option linter.unusedVariables false
set_option linter.unusedSimpArgs false
open Go.ChangeShapes Go.WideShapes Go.ChangeAt Go.RowKit Go.Proofs.YtabdfbghhkpoeaaDoor.P Go.Proofs.YtabdfbghhkpoeaaDoor.W

/-- no row for which the closure says yes -/
theorem firstNone (y : Int) (b pb : Nat) (w : World) (hR : RowsAt w b) (hp : pb < w.heap.size) (hc : w.cell? ⟨pb, 0, none⟩ = some (.int .u32 y)) (hlow : ∀ k, k < 48 → (bits .and .u32 y (encL.getD k (0, 0, 0)).2.2 == (encL.getD k (0, 0, 0)).2.1) = false) :
    Calls Tryd.prog 17 #[.slice (some ⟨b, 0, none⟩) 48 48, .func (.func 34) #[] #[.pointer (some ⟨pb, 0, none⟩)]] w
      fun e w' => e = .returned (.tuple #[.agg #[.int .i64 0, .int .u32 0, .int .u32 0], .bool false]) ∧ Below w.heap.size w w' := by
  have HR := hid hR
  have HC := hid hc
  have HL := hid hlow
  clear hR hc hlow
  go_enter Tryd.func17, Tryd.ntmps17
  go_wp2
  go_loopw [11] (fun i wr => ∃ k : Nat, k ≤ 48 ∧ i = .int .i64 k ∧ Below (w.heap.size + 1) (w.alloc (.cells #[.int .i64 0, .int .u32 0, .int .u32 0] 37)) wr) (fun i _ => 48 + 1 - (intOf i).toNat)
  case atStart => exact ⟨0, by omega, rfl, Below.refl _ _⟩
  case round =>
    obtain ⟨k, hk, rfl, hbel⟩ := hrel
    have hsz := hbel.size
    simp only [World.size_alloc] at hsz
    have hbw : Below w.heap.size w wr := (below_alloc w _).trans (hbel.mono (Nat.le_succ _))
    have z0 : wr.cell? ⟨w.heap.size, 0, none⟩ = some (.int .i64 0) := (hbel.cell (p := ⟨w.heap.size, 0, none⟩) (Nat.lt_succ_self _)).trans (by simp)
    have z1 : wr.cell? ⟨w.heap.size, 1, none⟩ = some (.int .u32 0) := (hbel.cell (p := ⟨w.heap.size, 1, none⟩) (Nat.lt_succ_self _)).trans (by simp)
    have z2 : wr.cell? ⟨w.heap.size, 2, none⟩ = some (.int .u32 0) := (hbel.cell (p := ⟨w.heap.size, 2, none⟩) (Nat.lt_succ_self _)).trans (by simp)
    by_cases hs : k < 48
    · obtain ⟨hb, hcells⟩ := HR.out.below hbw
      obtain ⟨c0, c1, c2⟩ := hcells k (by omega)
      have hpc := (hbw.cell (p := ⟨pb, 0, none⟩) hp).trans HC.out
      clear hcells
      have hpl : pb < wr.heap.size := by omega
      have hne : pb ≠ wr.heap.size := by omega
      have hlt : (k : Int) < 48 := by omega
      have ht := HL.out k hs
      generalize encL.getD k (0, 0, 0) = r at *
      obtain ⟨r0, r1, r2⟩ := r
      simp only [] at c0 c1 c2 ht
      go_wp2_with fail
      refine (get1 r0 r1 r2 y pb _ (by simp; omega) (by go_simp)).mono ?_
      rintro e w' ⟨rfl, hb2⟩
      rw [ht]
      have hb3 : Below (w.heap.size + 1) (w.alloc (.cells #[.int .i64 0, .int .u32 0, .int .u32 0] 37)) w' := hbel.trans (((Below.refl _ _).alloc hsz _).trans (hb2.mono (by simp; omega)))
      go_wp2
      go_roundw
      case rel => exact ⟨k + 1, by omega, by go_num, hb3⟩
      case measure => simp [intOf]; omega
    · obtain rfl : k = 48 := by omega
      have f0 : wr.frozen? ⟨w.heap.size, 0, none⟩ = false := (hbel.frozen (p := ⟨w.heap.size, 0, none⟩) (Nat.lt_succ_self _)).trans (by rw [frozen?_alloc_cells]; simp [World.frozen?])
      have f1 : wr.frozen? ⟨w.heap.size, 1, none⟩ = false := (hbel.frozen (p := ⟨w.heap.size, 1, none⟩) (Nat.lt_succ_self _)).trans (by rw [frozen?_alloc_cells]; simp [World.frozen?])
      have f2 : wr.frozen? ⟨w.heap.size, 2, none⟩ = false := (hbel.frozen (p := ⟨w.heap.size, 2, none⟩) (Nat.lt_succ_self _)).trans (by rw [frozen?_alloc_cells]; simp [World.frozen?])
      have hne : w.heap.size ≠ wr.heap.size := by omega
      have hlt : w.heap.size < wr.heap.size := by omega
      clear hbel
      have hnw : ∀ (v0 v1 v2 : Value) (o : Obj) (j : Nat), ((((wr.setCell ⟨w.heap.size, 0, none⟩ v0).setCell ⟨w.heap.size, 1, none⟩ v1).setCell ⟨w.heap.size, 2, none⟩ v2).alloc o).cell? ⟨w.heap.size, j, none⟩ = (((wr.setCell ⟨w.heap.size, 0, none⟩ v0).setCell ⟨w.heap.size, 1, none⟩ v1).setCell ⟨w.heap.size, 2, none⟩ v2).cell? ⟨w.heap.size, j, none⟩ := fun v0 v1 v2 o j => World.cell?_alloc_old _ _ _ (by simp; omega)
      go_wp2
      refine bodyPost_ret (v := .tuple #[.agg #[.int .i64 0, .int .u32 0, .int .u32 0], .bool false]) (by simp [results, Tryd.results17, go_sem, setCell_map, hnw, z0, z1, z2]; try rfl) rfl ⟨rfl, (by repeat' (first | (with_reducible exact Below.refl _ _) | (with_reducible assumption) | (with_reducible refine below_drewN ?_ _) | (with_reducible refine Below.alloc ?_ ?_ _) | (with_reducible refine Below.drew ?_) | (with_reducible refine Below.setCell ?_ ?_ _) | (with_reducible exact Below.size (by assumption)) | go_size))⟩
end Go.Proofs.YtabdfbghhkpoeaaDoor.E
