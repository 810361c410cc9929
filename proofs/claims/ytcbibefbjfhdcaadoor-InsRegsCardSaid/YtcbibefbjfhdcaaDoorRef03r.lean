/- What typecaseref03.Reg computes. -/
import Derived.Test.YtcbibefbjfhdcaaDoorRef03q
import Derived.Deep.RegionHeld3
namespace Go.Proofs.YtcbibefbjfhdcaaDoor.R3
set_option linter.unusedVariables false
set_option linter.unusedSimpArgs false
open Go.ChangeShapes Go.WideShapes Go.ChangeAt Go.RowKit Go.Proofs.YtcbibefbjfhdcaaDoor.P Go.Proofs.YtcbibefbjfhdcaaDoor.W

set_option maxHeartbeats 2000000 in
set_option maxRecDepth 10000 in
theorem Reg (s : ByteArray) (w : World) :
    Calls Tryd.prog 18 #[.string s] w fun e w' => e = .returned (.tuple #[.int .i64 (regR s), .bool (regOk s)]) ∧ Below w.heap.size w w' := by
  have H1 := hid (fun k hk h => reg_found (s := s) k hk h)
  have H2 := hid (fun h => reg_fp8 (s := s) h)
  have H3 := hid (fun h h2 => reg_none (s := s) h h2)
  generalize regR s = rr at *
  generalize regOk s = ro at *
  go_enter Tryd.func18, Tryd.ntmps18
  go_wp2
  go_loopw [4] (fun i wr => ∃ k : Nat, k ≤ 32 ∧ i = .int .i64 k ∧ regFrom s 0 32 = regFrom s k (32 - k) ∧ Below w.heap.size w wr) (fun i _ => 32 - (intOf i).toNat)
  case atStart => exact ⟨0, by omega, rfl, rfl, Below.refl _ _⟩
  case round =>
    obtain ⟨k, hk, rfl, hix, hbel⟩ := hrel
    by_cases hk2 : k < 32
    · have hlt : (k : Int) < 32 := by omega
      have HX := hid (fun w => NumX k hk2 w)
      have HN := hid (fun w => RegName (k : Int) w)
      have e : regV (k : Int) = regN k := by unfold regV; rw [if_pos ⟨by omega, hlt⟩, Int.toNat_natCast]
      rw [e] at HN
      clear e
      have hstep : regFrom s k (32 - k) = if isReg s k = true then k else regFrom s (k + 1) (32 - (k + 1)) := by
        obtain ⟨j, hj⟩ : ∃ j, 32 - k = j + 1 := ⟨31 - k, by omega⟩
        have hj2 : 32 - (k + 1) = j := by omega
        rw [hj, hj2]; rfl
      unfold isReg at hstep
      have HI := hid (hix.trans hstep)
      clear hix hstep
      generalize numN k = t1 at *
      generalize regN k = t2 at *
      have HB := hid hbel
      clear hbel
      go_wp2_with ((first | (go_at_call 21; (with_reducible refine (HX.out _).mono ?_)) | (go_at_call 20; (with_reducible refine (HN.out _).mono ?_))); rintro e w' ⟨rfl, hbel2⟩; (try (with_reducible replace hbel2 := bel_undrew hbel2)); (try (with_reducible replace hbel2 := bel_undrewN hbel2)); have hbr2 : Below wr.heap.size wr w' := bel_step (w := wr) (by repeat' (first | (with_reducible exact Below.refl _ _) | (with_reducible assumption) | (with_reducible refine below_drewN ?_ _) | (with_reducible refine Below.alloc ?_ ?_ _) | (with_reducible refine Below.drew ?_) | (with_reducible refine Below.setCell ?_ ?_ _) | (with_reducible exact Below.size (by assumption)) | go_size)) hbel2; clear hbel2)
      · have h : (t1.toList == s.toList) = true := by rename t1.toList = s.toList => h; rw [h]; exact beq_self_eq_true _
        go_ret2
        obtain ⟨e1, e2⟩ := H1.out k hk2 (by rw [HI.out, h]; simp)
        exact ⟨by rw [e1, e2]; rfl, bel_step HB.out hbr2⟩
      · have h : (t2.toList == s.toList || t1.toList == s.toList) = true := by clear H1 H2 H3 HI; simp_all
        go_ret2
        obtain ⟨e1, e2⟩ := H1.out k hk2 (by rw [HI.out, h]; simp)
        exact ⟨by rw [e1, e2]; rfl, bel_step HB.out hbr2⟩
      · have h : (t2.toList == s.toList || t1.toList == s.toList) = false := by clear H1 H2 H3 HI; simp_all
        go_roundw
        case rel => exact ⟨k + 1, by omega, by go_num, by rw [HI.out, h]; simp, bel_step HB.out hbr2⟩
        case measure => simp [intOf]; omega
    · obtain rfl : k = 32 := by omega
      have HI := hid hix
      have HB := hid hbel
      clear hix hbel
      go_wp2
      · rename (s.toList == _) = true => h
        go_ret2
        obtain ⟨e1, e2⟩ := H2.out h
        exact ⟨by rw [e1, e2]; rfl, HB.out⟩
      · rename (s.toList == _) = false => h
        go_ret2
        obtain ⟨e1, e2⟩ := H3.out h (by rw [HI.out]; rfl)
        exact ⟨by rw [e1, e2]; rfl, HB.out⟩
end Go.Proofs.YtcbibefbjfhdcaaDoor.R3
