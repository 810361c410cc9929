/- What typecaseref09.frame computes. -/
import Derived.Test.YtfecjdchgckjhaaRef09a
namespace Go.Proofs.Ytfecjdchgckjhaa.R9
set_option linter.unusedVariables false
set_option linter.unusedSimpArgs false
open Go.ChangeShapes Go.WideShapes Go.ChangeAt Go.RowKit Go.Proofs.Ytfecjdchgckjhaa.P Go.Proofs.Ytfecjdchgckjhaa.W Go.Proofs.Ytfecjdchgckjhaa.F

def frameL : List Int := [0, 16384, 49152, 1, 1, 8193, 16385, 24833, 24577, 32769, 33793, 34817, 35841, 35873, 35905, 35937, 40961, 49153, 57345, 2, 16386, 32770, 32770, 36866, 36866, 36866, 49154]
theorem frame_at : ∀ k, k < 27 → frameL.getD k 0 = frameK k := by decide
theorem names_apart : ∀ k, k < 27 → ∀ j, j < k → ((prAt j).nm.data.toList == (prAt k).nm.data.toList) = false := by decide
theorem names_unlike {j k : Nat} (hk : k < 27) (hj : j < k) : ((prAt j).nm.toList == (prAt k).nm.toList) = false := by
  rw [ByteArray.toList_eq, ByteArray.toList_eq]; exact names_apart k hk j hj
set_option maxHeartbeats 2000000 in
theorem frame (n : Nat) (w : World) (hn : n < 27) :
    Calls Try.prog 23 #[.string (prAt n).nm] w fun e w' => e = .returned (.int .i64 (frameK n)) ∧ Below w.heap.size w w' := by
  have HL := hid (fun j hj => names_unlike hn (j := j) hj)
  generalize hnm : (prAt n).nm = nm at *
  have HNM := hid hnm
  clear hnm
  go_enter Try.func23, Try.ntmps23
  go_wp2_with fail
  refine (Names _).mono ?_
  rintro e w1 ⟨b, rfl, hb1, hR⟩
  replace hR := hid hR
  go_upto_region 3 with (fail)
  have hF : ∀ k, k < 27 → (w1.alloc (.cells (frameL.map (Value.int .i64)).toArray 3)).cell? ⟨w1.heap.size, k, none⟩ = some (.int .i64 (frameK k)) := fun k hk => by
    rw [F.cell_new]
    have : k < frameL.length := hk
    rw [← frame_at k hk]; simp [this]
  have hba := below_alloc w1 (.cells (frameL.map (Value.int .i64)).toArray 3)
  have hsz : w1.heap.size < (w1.alloc (.cells (frameL.map (Value.int .i64)).toArray 3)).heap.size := by simp
  change (∀ k, k < 27 → (w1.alloc (.cells #[.int .i64 0, .int .i64 16384, .int .i64 49152, .int .i64 1, .int .i64 1, .int .i64 8193, .int .i64 16385, .int .i64 24833, .int .i64 24577, .int .i64 32769, .int .i64 33793, .int .i64 34817, .int .i64 35841, .int .i64 35873, .int .i64 35905, .int .i64 35937, .int .i64 40961, .int .i64 49153, .int .i64 57345, .int .i64 2, .int .i64 16386, .int .i64 32770, .int .i64 32770, .int .i64 36866, .int .i64 36866, .int .i64 36866, .int .i64 49154] 3)).cell? ⟨w1.heap.size, k, none⟩ = some (.int .i64 (frameK k))) at hF
  change Below w1.heap.size w1 (w1.alloc (.cells #[.int .i64 0, .int .i64 16384, .int .i64 49152, .int .i64 1, .int .i64 1, .int .i64 8193, .int .i64 16385, .int .i64 24833, .int .i64 24577, .int .i64 32769, .int .i64 33793, .int .i64 34817, .int .i64 35841, .int .i64 35873, .int .i64 35905, .int .i64 35937, .int .i64 40961, .int .i64 49153, .int .i64 57345, .int .i64 2, .int .i64 16386, .int .i64 32770, .int .i64 32770, .int .i64 36866, .int .i64 36866, .int .i64 36866, .int .i64 49154] 3)) at hba
  generalize w1.alloc (.cells #[.int .i64 0, .int .i64 16384, .int .i64 49152, .int .i64 1, .int .i64 1, .int .i64 8193, .int .i64 16385, .int .i64 24833, .int .i64 24577, .int .i64 32769, .int .i64 33793, .int .i64 34817, .int .i64 35841, .int .i64 35873, .int .i64 35905, .int .i64 35937, .int .i64 40961, .int .i64 49153, .int .i64 57345, .int .i64 2, .int .i64 16386, .int .i64 32770, .int .i64 32770, .int .i64 36866, .int .i64 36866, .int .i64 36866, .int .i64 49154] 3) = w2 at *
  clear hsz
  have HFR := hid hF
  have hR2 := hid (hR.out.below hba hR.out.1)
  have hbw := bel_step hb1 hba
  clear hF hba hb1 hR
  go_wp2
  go_loop [5] (fun i => ∃ k : Nat, k ≤ n ∧ i = .int .i64 k) (fun i => n + 1 - (intOf i).toNat)
  case atStart => exact ⟨0, by omega, rfl⟩
  case round =>
    obtain ⟨k, hk, rfl⟩ := hrel
    have hlt : (k : Int) < 27 := by omega
    have hc := hR2.out.2 k (by show k < names9.length; rw [show names9.length = 27 from rfl]; omega)
    rw [names9_at k (by omega)] at hc
    have hf := HFR.out k (by omega)
    by_cases hs : k < n
    · have ht := HL.out k hs
      generalize (prAt k).nm = q at *
      go_wp2
      go_round
      case rel => exact ⟨k + 1, by omega, by go_num⟩
      case measure => simp [intOf]; omega
    · obtain rfl : k = n := by omega
      have ht : (nm.toList == nm.toList) = true := beq_self_eq_true _
      rw [HNM.out] at hc
      generalize hv : frameK k = v at *
      have HV := hid hv
      clear hv
      go_wp2
      go_ret
      exact ⟨by rw [HV.out]; rfl, hbw⟩

end Go.Proofs.Ytfecjdchgckjhaa.R9
