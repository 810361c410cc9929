/- What the functions of package typecaseref05 compute: the quarters. -/
import Derived.Test.YtfecjdchgckjhaaRef05b
import Derived.Deep.Cut
import Derived.Deep.RegionHeld3
namespace Go.Proofs.Ytfecjdchgckjhaa.R5
set_option linter.unusedVariables false
set_option linter.unusedSimpArgs false
open Go.ChangeShapes Go.WideShapes Go.ChangeAt Go.RowKit Go.Proofs.Ytfecjdchgckjhaa.P Go.Proofs.Ytfecjdchgckjhaa.W Go.Proofs.Ytfecjdchgckjhaa.O Go.Proofs.Ytfecjdchgckjhaa.R4

set_option maxRecDepth 100000 in
set_option maxHeartbeats 2000000 in
theorem quarter0 (x : Int) (w : World) (h0 : 0 ≤ x) (h1 : x < 4294967296) :
    Calls Try.prog 30 #[.int .u32 x] w fun e w' => e = .returned (q0 x).val ∧ Below w.heap.size w w' := by
  have HBU := hid (fun v B w => plain_U x v B w h0 h1)
  have HBV := hid (fun v B w => plain_V x v B w h0 h1)
  have HFf := hid (show ∀ w, Calls Try.prog 46 #[.int .u32 x, .int .i64 15, .int .i64 13] w fun e w' => e = .returned (.int .i64 (fld x 13 3)) ∧ w = w' from fun w => field x 15 13 w h0 h1 (by omega) (by omega) (by omega))
  have HW2 := hid (show ∀ w, Calls Try.prog 47 #[.int .u32 x, .int .i64 2] w fun e w' => e = .returned (.int .i64 (sR2 x)) ∧ w = w' from fun w => few x 2 w h0 h1 (by omega) (by omega))
  have HW7 := hid (show ∀ w, Calls Try.prog 47 #[.int .u32 x, .int .i64 7] w fun e w' => e = .returned (.int .i64 (sR1 x)) ∧ w = w' from fun w => few x 7 w h0 h1 (by omega) (by omega))
  have hu := bitsV_bd x lU
  have e1 : (2 : Int) ^ lU.length = 256 := by decide
  rw [e1] at hu
  have hu2 : 0 ≤ sU x ∧ sU x < 1024 := by unfold sU; omega
  clear hu e1
  have hq : Hid (q0 x = if fld x 13 3 = 0 then (if sU x = 0 then .none else ⟨19, sR2 x, 2, 0, sU x⟩) else if fld x 13 3 = 2 then ⟨13, sR2 x, sR1 x, 0, sV x⟩ else if fld x 13 3 = 6 then ⟨18, 0, sR1 x, sR2 x, sV x⟩ else .none) := hid rfl
  generalize fld x 13 3 = f at *
  generalize sU x = u at *
  generalize sV x = v at *
  generalize sR1 x = r1 at *
  generalize sR2 x = r2 at *
  have hc : (f = 0 ∧ u = 0) ∨ (f = 0 ∧ (u == 0) = false ∧ (u != 0) = true) ∨ (f = 2) ∨ (f = 6) ∨ ((f == 0) = false ∧ (f != 0) = true ∧ (f == 2) = false ∧ (f != 2) = true ∧ (f == 6) = false ∧ (f != 6) = true) := by first | omega | (simp only [bne_iff_ne, beq_eq_false_iff_ne, ne_eq]; omega)
  rcases hc with ⟨rfl, rfl⟩ | ⟨rfl, k0, k1⟩ | rfl | rfl | ⟨k0, k1, k2, k3, k4, k5⟩
  all_goals
    go_enter Try.func30, Try.ntmps30
    go_upto_region 1 with (fail)
    have HR := hid (Res.start w 23)
    generalize w.alloc (.cells #[.int .i64 0, .int .i64 0, .int .i64 0, .int .i64 0, .int .i32 0] 23) = w1 at *
    go_wp2_with (first | (go_at_call 45; (with_reducible refine (R5.list_U _).mono ?_); rintro e w' ⟨v, rfl, hi, hb⟩; replace HR := hid (Res.lit HR.out hb); clear hb) | (go_at_call 45; (with_reducible refine (R5.list_V _).mono ?_); rintro e w' ⟨v, rfl, hi, hb⟩; replace HR := hid (Res.lit HR.out hb); clear hb) | (go_at_call 44; (with_reducible refine (HBU.out _ _ _ hi).mono ?_); rintro e w' ⟨rfl, hb⟩; replace HR := hid (Res.call HR.out hb); clear hb hi) | (go_at_call 44; (with_reducible refine (HBV.out _ _ _ hi).mono ?_); rintro e w' ⟨rfl, hb⟩; replace HR := hid (Res.call HR.out hb); clear hb hi; (try clear hbw zl c0 c1 c2 c3 c4 f0 f1 f2 f3 f4 five0 five1 five2 five3 five4); obtain ⟨hbw, zl, c0, c1, c2, c3, c4, f0, f1, f2, f3, f4⟩ := HR.out; obtain ⟨five0, five1, five2, five3, five4⟩ := S.five_ret c0 c1 c2 c3 c4) | (go_at_call 46; (with_reducible refine (HFf.out _).mono ?_); rintro e w' ⟨rfl, rfl⟩) | (go_at_call 47; (with_reducible refine (HW2.out _).mono ?_); rintro e w' ⟨rfl, rfl⟩) | (go_at_call 47; (with_reducible refine (HW7.out _).mono ?_); rintro e w' ⟨rfl, rfl⟩))
    all_goals (refine bodyPost_ret (by simp [results, Try.results30, go_sem, five0, five1, five2, five3, five4]; try rfl) rfl ?_)
    all_goals refine ⟨?_, (by repeat' (first | (with_reducible exact Below.refl _ _) | (with_reducible assumption) | (with_reducible refine below_drewN ?_ _) | (with_reducible refine Below.alloc ?_ ?_ _) | (with_reducible refine Below.drew ?_) | (with_reducible refine Below.setCell ?_ ?_ _) | (with_reducible exact Below.size (by assumption)) | go_size))⟩
    all_goals rw [hq.out]
    all_goals clear HR HBU HBV HFf HW2 HW7 hq hbw zl c0 c1 c2 c3 c4 f0 f1 f2 f3 f4 five0 five1 five2 five3 five4
    all_goals simp_all [I5.val, I5.none]
end Go.Proofs.Ytfecjdchgckjhaa.R5
