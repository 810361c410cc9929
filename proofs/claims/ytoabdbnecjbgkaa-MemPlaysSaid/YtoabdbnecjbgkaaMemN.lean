/- What mem.New computes. -/
import Derived.Test.YtoabdbnecjbgkaaMemX
import Derived.Test.YtoabdbnecjbgkaaCells
namespace Go.Proofs.Ytoabdbnecjbgkaa.M
set_option linter.unusedVariables false
set_option linter.unusedSimpArgs false
open Go.ChangeShapes Go.WideShapes Go.ChangeAt Go.RowKit Go.Proofs.Ytoabdbnecjbgkaa.P Go.Proofs.Ytoabdbnecjbgkaa.W Go.Maps

set_option maxRecDepth 100000 in
set_option maxHeartbeats 1000000 in
theorem New (w : World) (v : Value) (l : List (Int × Int)) (hv : CellsAt w v l) (hl : ∀ c ∈ l, okC c) (hll : l.length < 5000000000) :
    Calls Try.prog 9 #[v] w fun e w' => ∃ p B, e = .returned (.pointer (some ⟨p, 0, none⟩)) ∧ w.heap.size ≤ p ∧ w.heap.size ≤ B ∧ MemAt w' p B l.length (made none0 l) ∧ Below w.heap.size w w' := by
  have HV := hid hv
  obtain ⟨ao, cap, rfl, -⟩ := id hv
  have HL := hid hl
  clear hv hl
  have hmm := @run_makeMap Try.prog
  go_enter Try.func9, Try.ntmps9
  go_wp2
  have hM0 : MemAt ((w.alloc (.map #[] 0)).alloc (.cells #[.map (some w.heap.size)] 60)) (w.heap.size + 1) w.heap.size 0 none0 := by
    refine ⟨by simp, none0_byt, .map [], ((World.ownsMap_made w _ _ _).alloc _), Reads.made⟩
  have hb0 : Below w.heap.size w ((w.alloc (.map #[] 0)).alloc (.cells #[.map (some w.heap.size)] 60)) := (by repeat' (first | (with_reducible exact Below.refl _ _) | (with_reducible assumption) | (with_reducible refine below_drewN ?_ _) | (with_reducible refine Below.alloc ?_ ?_ _) | (with_reducible refine Below.drew ?_) | (with_reducible refine Below.setCell ?_ ?_ _) | (with_reducible exact Below.size (by assumption)) | go_size))
  have HM := hid hM0
  have HB := hid hb0
  clear hM0 hb0
  generalize (w.alloc (.map #[] 0)).alloc (.cells #[.map (some w.heap.size)] 60) = w0 at *
  go_loopw [11] (fun i wr => ∃ k : Nat, k ≤ l.length ∧ i = .int .i64 k ∧ MemAt wr (w.heap.size + 1) w.heap.size k (made none0 (l.take k)) ∧ Below w.heap.size w wr) (fun i wr => l.length - (intOf i).toNat)
  case atStart => exact ⟨0, by omega, rfl, HM.out, HB.out⟩
  case round =>
    obtain ⟨k, hk, rfl, hM, hbw⟩ := hrel
    by_cases hk2 : k < l.length
    · have hkl : (k : Int) < l.length := by omega
      have hVr := HV.out.old hbw
      obtain ⟨ao2, cap2, h1, h2⟩ := hVr
      injection h1 with h1 _ h3
      subst h1
      obtain ⟨b, o, rfl, hc0, hc1⟩ := h2 k hk2
      clear h2 h3
      have hok := HL.out (l.getD k (0, 0)) (by simp [List.getD, hk2])
      have HT := hid (made_take none0 l k hk2)
      have HM1 := hid hM
      have HB1 := hid hbw
      generalize l.getD k (0, 0) = c at *
      obtain ⟨ca, cb⟩ := c
      clear hM hbw
      go_wp2_with fail
      have hP := put (wr.alloc (.cells #[.int .u32 ca, .int .u8 cb] 33)) (w.heap.size + 1) w.heap.size k _ ca cb (HM1.out.below (below_alloc _ _)) hok.1 hok.2 (by unfold maxLen; omega)
      rw [← HT.out] at hP
      refine hP.mono ?_
      rintro e w1 ⟨rfl, hM1, hg1⟩
      have hb1 : Below w.heap.size w w1 := Below.grown (HB1.out.alloc HB1.out.size _) hg1 (by have := HB1.out.size; simp; omega) (fun j hj => by cases hj; exact Nat.le_refl _)
      go_wp2_with fail
      go_roundw
      case rel => exact ⟨k + 1, by omega, by go_num, hM1, hb1⟩
      case measure => simp [intOf]; omega
    · obtain rfl : k = l.length := by omega
      rw [List.take_length] at hM
      go_wp2
      go_ret
      exact ⟨_, _, rfl, by omega, by omega, hM, hbw⟩
end Go.Proofs.Ytoabdbnecjbgkaa.M
