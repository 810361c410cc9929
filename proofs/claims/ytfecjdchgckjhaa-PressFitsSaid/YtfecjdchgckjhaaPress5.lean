/- What the functions of package press compute: a register read out of a parcel. -/
import Derived.Test.YtfecjdchgckjhaaPress4
namespace Go.Proofs.Ytfecjdchgckjhaa.F
set_option linter.unusedVariables false
set_option linter.unusedSimpArgs false
open Go.ChangeShapes Go.WideShapes Go.ChangeAt Go.RowKit Go.Proofs.Ytfecjdchgckjhaa.P Go.Proofs.Ytfecjdchgckjhaa.W

theorem at_ (low n h : Int) (b : Nat) (w : World) (l0 : 0 ≤ low) (n0 : 0 ≤ n) (n1 : n ≤ 31) (h0 : 0 ≤ h) (h1 : h < 65536) (hc : w.cell? ⟨b, 0, none⟩ = some (.int .u16 h)) :
    Calls Try.prog 61 #[.int .i64 low, .int .i64 n, .pointer (some ⟨b, 0, none⟩)] w fun e w' => e = .returned (.int .i64 (fld h low.toNat n.toNat)) ∧ ∃ m, w' = w.drewN m := by
  have hF : ∀ w, Calls Try.prog 40 #[.int .u32 h, .int .i64 low, .int .i64 n] w fun e w' => e = .returned (.int .u32 (fld h low.toNat n.toNat)) ∧ ∃ n, w' = w.drewN n := fun w => by
    have hh := W.Field h low n w h0 (by omega)
    rw [show (max low 0).toNat = low.toNat by omega, show held n = n.toNat by unfold held; omega] at hh
    exact hh
  have hb := fld_lt32 h low.toNat (b := n.toNat) (by omega)
  have HF := hid hF
  clear hF
  generalize fld h low.toNat n.toNat = f at *
  go_enter Try.func61, Try.ntmps61
  go_wp2_with (go_at_call 40; (with_reducible refine (HF.out _).mono ?_); rintro e w' ⟨rfl, m, rfl⟩)
  go_ret
  exact ⟨rfl, _, rfl⟩
set_option maxHeartbeats 2000000 in
theorem read (kind h rd : Int) (w : World) (k0 : 0 ≤ kind) (k1 : kind ≤ 10) (h0 : 0 ≤ h) (h1 : h < 65536) :
    Calls Try.prog 50 #[.int .i64 kind, .int .u16 h, .int .i64 rd] w fun e w' => e = .returned (.int .i64 (readK kind h rd)) ∧ Below w.heap.size w w' := by
  have HA := hid (fun (w : World) (b : Nat) hc => at_ 7 5 h b w (by decide) (by decide) (by decide) h0 h1 hc)
  have HB := hid (fun (w : World) (b : Nat) hc => at_ 2 5 h b w (by decide) (by decide) (by decide) h0 h1 hc)
  have HC := hid (fun (w : World) (b : Nat) hc => at_ 7 3 h b w (by decide) (by decide) (by decide) h0 h1 hc)
  have HD := hid (fun (w : World) (b : Nat) hc => at_ 2 3 h b w (by decide) (by decide) (by decide) h0 h1 hc)
  have e1 : fld h (7 : Int).toNat (5 : Int).toNat = fld h 7 5 := rfl
  have e2 : fld h (2 : Int).toNat (5 : Int).toNat = fld h 2 5 := rfl
  have e3 : fld h (7 : Int).toNat (3 : Int).toNat = fld h 7 3 := rfl
  have e4 : fld h (2 : Int).toNat (3 : Int).toNat = fld h 2 3 := rfl
  rw [e1] at HA
  rw [e2] at HB
  rw [e3] at HC
  rw [e4] at HD
  clear e1 e2 e3 e4
  have b3 : 0 ≤ fld h 7 3 ∧ fld h 7 3 < 8 := fld_bd h 7 3
  have b4 : 0 ≤ fld h 2 3 ∧ fld h 2 3 < 8 := fld_bd h 2 3
  have hK : Hid (∀ kind, readK kind h rd = if kind = 1 ∨ kind = 2 ∨ kind = 10 then fld h 7 5 else if kind = 4 ∨ kind = 5 then fld h 2 5 else if kind = 6 then 8 + fld h 7 3 else if kind = 7 then 8 + fld h 2 3
      else if kind = 3 then rd else if kind = 8 then 1 else if kind = 9 then 2 else 0) := hid fun _ => rfl
  generalize fld h 7 5 = f1 at *
  generalize fld h 2 5 = f2 at *
  generalize fld h 7 3 = f3 at *
  generalize fld h 2 3 = f4 at *
  have hc : kind = 0 ∨ kind = 1 ∨ kind = 2 ∨ kind = 3 ∨ kind = 4 ∨ kind = 5 ∨ kind = 6 ∨ kind = 7 ∨ kind = 8 ∨ kind = 9 ∨ kind = 10 := by omega
  rcases hc with rfl | rfl | rfl | rfl | rfl | rfl | rfl | rfl | rfl | rfl | rfl
  all_goals
    go_enter Try.func50, Try.ntmps50
    go_wp2_with (first | (go_at_call 61; (with_reducible refine (HA.out _ _ (by go_simp)).mono ?_); rintro e w' ⟨rfl, m, rfl⟩) | (go_at_call 61; (with_reducible refine (HB.out _ _ (by go_simp)).mono ?_); rintro e w' ⟨rfl, m, rfl⟩) | (go_at_call 61; (with_reducible refine (HC.out _ _ (by go_simp)).mono ?_); rintro e w' ⟨rfl, m, rfl⟩) | (go_at_call 61; (with_reducible refine (HD.out _ _ (by go_simp)).mono ?_); rintro e w' ⟨rfl, m, rfl⟩))
    go_ret
    exact ⟨by rw [hK.out]; rfl, (by repeat' (first | (with_reducible exact Below.refl _ _) | (with_reducible assumption) | (with_reducible refine below_drewN ?_ _) | (with_reducible refine Below.alloc ?_ ?_ _) | (with_reducible refine Below.drew ?_) | (with_reducible refine Below.setCell ?_ ?_ _) | (with_reducible exact Below.size (by assumption)) | go_size))⟩
end Go.Proofs.Ytfecjdchgckjhaa.F
