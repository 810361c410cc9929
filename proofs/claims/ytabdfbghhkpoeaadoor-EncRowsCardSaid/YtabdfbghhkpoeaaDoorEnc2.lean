/- What the functions of package enc compute: the first row of which something is so. -/
import Derived.Test.YtabdfbghhkpoeaaDoorEnc
namespace Go.Proofs.YtabdfbghhkpoeaaDoor.E
set_option linter.unusedVariables false
set_option linter.unusedSimpArgs false
open Go.ChangeShapes Go.WideShapes Go.ChangeAt Go.RowKit Go.Proofs.YtabdfbghhkpoeaaDoor.P Go.Proofs.YtabdfbghhkpoeaaDoor.W

theorem put1 (o m k op : Int) (b : Nat) (w : World) (hb : b < w.heap.size) (hc : w.cell? ⟨b, 0, none⟩ = some (.int .i64 op)) :
    Calls Tryd.prog 18 #[.agg #[.int .i64 o, .int .u32 m, .int .u32 k], .pointer (some ⟨b, 0, none⟩)] w fun e w' => e = .returned (.bool (o == op)) ∧ Below w.heap.size w w' := by
  have hne : b ≠ w.heap.size := by omega
  have hc2 := (World.cell?_alloc_old w (.cells #[.int .i64 o, .int .u32 m, .int .u32 k] 37) ⟨b, 0, none⟩ hne).trans hc
  go_enter Tryd.func18, Tryd.ntmps18
  go_wp2
  go_ret
  exact ⟨rfl, (by repeat' (first | (with_reducible exact Below.refl _ _) | (with_reducible assumption) | (with_reducible refine below_drewN ?_ _) | (with_reducible refine Below.alloc ?_ ?_ _) | (with_reducible refine Below.drew ?_) | (with_reducible refine Below.setCell ?_ ?_ _) | (with_reducible exact Below.size (by assumption)) | go_size))⟩
theorem get1 (o m k x : Int) (b : Nat) (w : World) (hb : b < w.heap.size) (hc : w.cell? ⟨b, 0, none⟩ = some (.int .u32 x)) :
    Calls Tryd.prog 34 #[.agg #[.int .i64 o, .int .u32 m, .int .u32 k], .pointer (some ⟨b, 0, none⟩)] w fun e w' => e = .returned (.bool (bits .and .u32 x k == m)) ∧ Below w.heap.size w w' := by
  have hne : b ≠ w.heap.size := by omega
  have hc2 := (World.cell?_alloc_old w (.cells #[.int .i64 o, .int .u32 m, .int .u32 k] 37) ⟨b, 0, none⟩ hne).trans hc
  go_enter Tryd.func34, Tryd.ntmps34
  go_wp2
  go_ret
  exact ⟨rfl, (by repeat' (first | (with_reducible exact Below.refl _ _) | (with_reducible assumption) | (with_reducible refine below_drewN ?_ _) | (with_reducible refine Below.alloc ?_ ?_ _) | (with_reducible refine Below.drew ?_) | (with_reducible refine Below.setCell ?_ ?_ _) | (with_reducible exact Below.size (by assumption)) | go_size))⟩



/-- the first row for which the closure says yes -/
theorem firstPut (y : Int) (n : Nat) (b pb : Nat) (w : World) (hn : n < 48) (hR : RowsAt w b) (hp : pb < w.heap.size) (hc : w.cell? ⟨pb, 0, none⟩ = some (.int .i64 y)) (hlow : ∀ k, k < n → ((encL.getD k (0, 0, 0)).1 == y) = false) (hyes : ((encL.getD n (0, 0, 0)).1 == y) = true) :
    Calls Tryd.prog 17 #[.slice (some ⟨b, 0, none⟩) 48 48, .func (.func 18) #[] #[.pointer (some ⟨pb, 0, none⟩)]] w
      fun e w' => e = .returned (.tuple #[.agg #[.int .i64 (encL.getD n (0, 0, 0)).1, .int .u32 (encL.getD n (0, 0, 0)).2.1, .int .u32 (encL.getD n (0, 0, 0)).2.2], .bool true]) ∧ Below w.heap.size w w' := by
  have HR := hid hR
  have HC := hid hc
  have HL := hid hlow
  have HY := hid hyes
  clear hR hc hlow hyes
  go_enter Tryd.func17, Tryd.ntmps17
  go_wp2
  go_loopw [11] (fun i wr => ∃ k : Nat, k ≤ n ∧ i = .int .i64 k ∧ Below (w.heap.size + 1) (w.alloc (.cells #[.int .i64 0, .int .u32 0, .int .u32 0] 37)) wr) (fun i _ => n + 1 - (intOf i).toNat)
  case atStart => exact ⟨0, by omega, rfl, Below.refl _ _⟩
  case round =>
    obtain ⟨k, hk, rfl, hbel⟩ := hrel
    have hsz := hbel.size
    simp only [World.size_alloc] at hsz
    have hbw : Below w.heap.size w wr := (below_alloc w _).trans (hbel.mono (Nat.le_succ _))
    obtain ⟨hb, hcells⟩ := HR.out.below hbw
    obtain ⟨c0, c1, c2⟩ := hcells k (by omega)
    have hpc := (hbw.cell (p := ⟨pb, 0, none⟩) hp).trans HC.out
    clear hcells
    have hpl : pb < wr.heap.size := by omega
    have hne : pb ≠ wr.heap.size := by omega
    have z0 : wr.cell? ⟨w.heap.size, 0, none⟩ = some (.int .i64 0) := (hbel.cell (p := ⟨w.heap.size, 0, none⟩) (Nat.lt_succ_self _)).trans (by simp)
    have z1 : wr.cell? ⟨w.heap.size, 1, none⟩ = some (.int .u32 0) := (hbel.cell (p := ⟨w.heap.size, 1, none⟩) (Nat.lt_succ_self _)).trans (by simp)
    have z2 : wr.cell? ⟨w.heap.size, 2, none⟩ = some (.int .u32 0) := (hbel.cell (p := ⟨w.heap.size, 2, none⟩) (Nat.lt_succ_self _)).trans (by simp)
    have hlt : (k : Int) < 48 := by omega
    by_cases hs : k < n
    · have ht := HL.out k hs
      generalize encL.getD k (0, 0, 0) = r at *
      obtain ⟨r0, r1, r2⟩ := r
      simp only [] at c0 c1 c2 ht
      go_wp2_with fail
      refine (put1 r0 r1 r2 y pb _ (by simp; omega) (by go_simp)).mono ?_
      rintro e w' ⟨rfl, hb2⟩
      rw [ht]
      have hb3 : Below (w.heap.size + 1) (w.alloc (.cells #[.int .i64 0, .int .u32 0, .int .u32 0] 37)) w' := hbel.trans (((Below.refl _ _).alloc hsz _).trans (hb2.mono (by simp; omega)))
      go_wp2
      go_roundw
      case rel => exact ⟨k + 1, by omega, by go_num, hb3⟩
      case measure => simp [intOf]; omega
    · obtain rfl : k = n := by omega
      have ht := HY.out
      generalize hg : encL.getD k (0, 0, 0) = r at *
      obtain ⟨r0, r1, r2⟩ := r
      have HG := hid hg
      clear hg
      simp only [] at c0 c1 c2 ht
      go_wp2_with fail
      refine (put1 r0 r1 r2 y pb _ (by simp; omega) (by go_simp)).mono ?_
      rintro e w' ⟨rfl, hb2⟩
      rw [ht]
      have hb3 : Below (w.heap.size + 1) (w.alloc (.cells #[.int .i64 0, .int .u32 0, .int .u32 0] 37)) w' := hbel.trans (((Below.refl _ _).alloc hsz _).trans (hb2.mono (by simp; omega)))
      have q0 : w'.cell? ⟨wr.heap.size, 0, none⟩ = some (.int .i64 r0) := (hb2.cell (p := ⟨wr.heap.size, 0, none⟩) (by simp)).trans (by simp)
      have q1 : w'.cell? ⟨wr.heap.size, 1, none⟩ = some (.int .u32 r1) := (hb2.cell (p := ⟨wr.heap.size, 1, none⟩) (by simp)).trans (by simp)
      have q2 : w'.cell? ⟨wr.heap.size, 2, none⟩ = some (.int .u32 r2) := (hb2.cell (p := ⟨wr.heap.size, 2, none⟩) (by simp)).trans (by simp)
      have y0 : w'.cell? ⟨w.heap.size, 0, none⟩ = some (.int .i64 0) := (hb3.cell (p := ⟨w.heap.size, 0, none⟩) (Nat.lt_succ_self _)).trans (by simp)
      have y1 : w'.cell? ⟨w.heap.size, 1, none⟩ = some (.int .u32 0) := (hb3.cell (p := ⟨w.heap.size, 1, none⟩) (Nat.lt_succ_self _)).trans (by simp)
      have y2 : w'.cell? ⟨w.heap.size, 2, none⟩ = some (.int .u32 0) := (hb3.cell (p := ⟨w.heap.size, 2, none⟩) (Nat.lt_succ_self _)).trans (by simp)
      have f0 : w'.frozen? ⟨w.heap.size, 0, none⟩ = false := (hb3.frozen (p := ⟨w.heap.size, 0, none⟩) (Nat.lt_succ_self _)).trans (by rw [frozen?_alloc_cells]; simp [World.frozen?])
      have f1 : w'.frozen? ⟨w.heap.size, 1, none⟩ = false := (hb3.frozen (p := ⟨w.heap.size, 1, none⟩) (Nat.lt_succ_self _)).trans (by rw [frozen?_alloc_cells]; simp [World.frozen?])
      have f2 : w'.frozen? ⟨w.heap.size, 2, none⟩ = false := (hb3.frozen (p := ⟨w.heap.size, 2, none⟩) (Nat.lt_succ_self _)).trans (by rw [frozen?_alloc_cells]; simp [World.frozen?])
      have hs2 := hb3.size
      simp only [World.size_alloc] at hs2
      have hz : w.heap.size < w'.heap.size := by omega
      have hbw2 : Below w.heap.size w w' := (below_alloc w _).trans (hb3.mono (Nat.le_succ _))
      clear hb2 hb3 z0 z1 z2 c0 c1 c2 hb hpc hbel hbw
      go_wp2
      refine bodyPost_ret (v := .tuple #[.agg #[.int .i64 r0, .int .u32 r1, .int .u32 r2], .bool true]) (by simp [results, Tryd.results17, go_sem, setCell_map, y0, y1, y2]; try rfl) rfl ⟨by rw [HG.out], (by repeat' (first | (with_reducible exact Below.refl _ _) | (with_reducible assumption) | (with_reducible refine below_drewN ?_ _) | (with_reducible refine Below.alloc ?_ ?_ _) | (with_reducible refine Below.drew ?_) | (with_reducible refine Below.setCell ?_ ?_ _) | (with_reducible exact Below.size (by assumption)) | go_size))⟩

/-- the first row for which the closure says yes -/
theorem firstGet (y : Int) (n : Nat) (b pb : Nat) (w : World) (hn : n < 48) (hR : RowsAt w b) (hp : pb < w.heap.size) (hc : w.cell? ⟨pb, 0, none⟩ = some (.int .u32 y)) (hlow : ∀ k, k < n → (bits .and .u32 y (encL.getD k (0, 0, 0)).2.2 == (encL.getD k (0, 0, 0)).2.1) = false) (hyes : (bits .and .u32 y (encL.getD n (0, 0, 0)).2.2 == (encL.getD n (0, 0, 0)).2.1) = true) :
    Calls Tryd.prog 17 #[.slice (some ⟨b, 0, none⟩) 48 48, .func (.func 34) #[] #[.pointer (some ⟨pb, 0, none⟩)]] w
      fun e w' => e = .returned (.tuple #[.agg #[.int .i64 (encL.getD n (0, 0, 0)).1, .int .u32 (encL.getD n (0, 0, 0)).2.1, .int .u32 (encL.getD n (0, 0, 0)).2.2], .bool true]) ∧ Below w.heap.size w w' := by
  have HR := hid hR
  have HC := hid hc
  have HL := hid hlow
  have HY := hid hyes
  clear hR hc hlow hyes
  go_enter Tryd.func17, Tryd.ntmps17
  go_wp2
  go_loopw [11] (fun i wr => ∃ k : Nat, k ≤ n ∧ i = .int .i64 k ∧ Below (w.heap.size + 1) (w.alloc (.cells #[.int .i64 0, .int .u32 0, .int .u32 0] 37)) wr) (fun i _ => n + 1 - (intOf i).toNat)
  case atStart => exact ⟨0, by omega, rfl, Below.refl _ _⟩
  case round =>
    obtain ⟨k, hk, rfl, hbel⟩ := hrel
    have hsz := hbel.size
    simp only [World.size_alloc] at hsz
    have hbw : Below w.heap.size w wr := (below_alloc w _).trans (hbel.mono (Nat.le_succ _))
    obtain ⟨hb, hcells⟩ := HR.out.below hbw
    obtain ⟨c0, c1, c2⟩ := hcells k (by omega)
    have hpc := (hbw.cell (p := ⟨pb, 0, none⟩) hp).trans HC.out
    clear hcells
    have hpl : pb < wr.heap.size := by omega
    have hne : pb ≠ wr.heap.size := by omega
    have z0 : wr.cell? ⟨w.heap.size, 0, none⟩ = some (.int .i64 0) := (hbel.cell (p := ⟨w.heap.size, 0, none⟩) (Nat.lt_succ_self _)).trans (by simp)
    have z1 : wr.cell? ⟨w.heap.size, 1, none⟩ = some (.int .u32 0) := (hbel.cell (p := ⟨w.heap.size, 1, none⟩) (Nat.lt_succ_self _)).trans (by simp)
    have z2 : wr.cell? ⟨w.heap.size, 2, none⟩ = some (.int .u32 0) := (hbel.cell (p := ⟨w.heap.size, 2, none⟩) (Nat.lt_succ_self _)).trans (by simp)
    have hlt : (k : Int) < 48 := by omega
    by_cases hs : k < n
    · have ht := HL.out k hs
      generalize encL.getD k (0, 0, 0) = r at *
      obtain ⟨r0, r1, r2⟩ := r
      simp only [] at c0 c1 c2 ht
      go_wp2_with fail
      refine (get1 r0 r1 r2 y pb _ (by simp; omega) (by go_simp)).mono ?_
      rintro e w' ⟨rfl, hb2⟩
      rw [ht]
      have hb3 : Below (w.heap.size + 1) (w.alloc (.cells #[.int .i64 0, .int .u32 0, .int .u32 0] 37)) w' := hbel.trans (((Below.refl _ _).alloc hsz _).trans (hb2.mono (by simp; omega)))
      go_wp2
      go_roundw
      case rel => exact ⟨k + 1, by omega, by go_num, hb3⟩
      case measure => simp [intOf]; omega
    · obtain rfl : k = n := by omega
      have ht := HY.out
      generalize hg : encL.getD k (0, 0, 0) = r at *
      obtain ⟨r0, r1, r2⟩ := r
      have HG := hid hg
      clear hg
      simp only [] at c0 c1 c2 ht
      go_wp2_with fail
      refine (get1 r0 r1 r2 y pb _ (by simp; omega) (by go_simp)).mono ?_
      rintro e w' ⟨rfl, hb2⟩
      rw [ht]
      have hb3 : Below (w.heap.size + 1) (w.alloc (.cells #[.int .i64 0, .int .u32 0, .int .u32 0] 37)) w' := hbel.trans (((Below.refl _ _).alloc hsz _).trans (hb2.mono (by simp; omega)))
      have q0 : w'.cell? ⟨wr.heap.size, 0, none⟩ = some (.int .i64 r0) := (hb2.cell (p := ⟨wr.heap.size, 0, none⟩) (by simp)).trans (by simp)
      have q1 : w'.cell? ⟨wr.heap.size, 1, none⟩ = some (.int .u32 r1) := (hb2.cell (p := ⟨wr.heap.size, 1, none⟩) (by simp)).trans (by simp)
      have q2 : w'.cell? ⟨wr.heap.size, 2, none⟩ = some (.int .u32 r2) := (hb2.cell (p := ⟨wr.heap.size, 2, none⟩) (by simp)).trans (by simp)
      have y0 : w'.cell? ⟨w.heap.size, 0, none⟩ = some (.int .i64 0) := (hb3.cell (p := ⟨w.heap.size, 0, none⟩) (Nat.lt_succ_self _)).trans (by simp)
      have y1 : w'.cell? ⟨w.heap.size, 1, none⟩ = some (.int .u32 0) := (hb3.cell (p := ⟨w.heap.size, 1, none⟩) (Nat.lt_succ_self _)).trans (by simp)
      have y2 : w'.cell? ⟨w.heap.size, 2, none⟩ = some (.int .u32 0) := (hb3.cell (p := ⟨w.heap.size, 2, none⟩) (Nat.lt_succ_self _)).trans (by simp)
      have f0 : w'.frozen? ⟨w.heap.size, 0, none⟩ = false := (hb3.frozen (p := ⟨w.heap.size, 0, none⟩) (Nat.lt_succ_self _)).trans (by rw [frozen?_alloc_cells]; simp [World.frozen?])
      have f1 : w'.frozen? ⟨w.heap.size, 1, none⟩ = false := (hb3.frozen (p := ⟨w.heap.size, 1, none⟩) (Nat.lt_succ_self _)).trans (by rw [frozen?_alloc_cells]; simp [World.frozen?])
      have f2 : w'.frozen? ⟨w.heap.size, 2, none⟩ = false := (hb3.frozen (p := ⟨w.heap.size, 2, none⟩) (Nat.lt_succ_self _)).trans (by rw [frozen?_alloc_cells]; simp [World.frozen?])
      have hs2 := hb3.size
      simp only [World.size_alloc] at hs2
      have hz : w.heap.size < w'.heap.size := by omega
      have hbw2 : Below w.heap.size w w' := (below_alloc w _).trans (hb3.mono (Nat.le_succ _))
      clear hb2 hb3 z0 z1 z2 c0 c1 c2 hb hpc hbel hbw
      go_wp2
      refine bodyPost_ret (v := .tuple #[.agg #[.int .i64 r0, .int .u32 r1, .int .u32 r2], .bool true]) (by simp [results, Tryd.results17, go_sem, setCell_map, y0, y1, y2]; try rfl) rfl ⟨by rw [HG.out], (by repeat' (first | (with_reducible exact Below.refl _ _) | (with_reducible assumption) | (with_reducible refine below_drewN ?_ _) | (with_reducible refine Below.alloc ?_ ?_ _) | (with_reducible refine Below.drew ?_) | (with_reducible refine Below.setCell ?_ ?_ _) | (with_reducible exact Below.size (by assumption)) | go_size))⟩
end Go.Proofs.YtabdfbghhkpoeaaDoor.E
