/- What the functions of package typecaseref05 compute: the quarters. -/
import Derived.Test.YtfecjdchgckjhaaRef05b
import Derived.Deep.Cut
import Derived.Deep.RegionHeld3
namespace Go.Proofs.Ytfecjdchgckjhaa.R5
set_option linter.unusedVariables false
set_option linter.unusedSimpArgs false
open Go.ChangeShapes Go.WideShapes Go.ChangeAt Go.RowKit Go.Proofs.Ytfecjdchgckjhaa.P Go.Proofs.Ytfecjdchgckjhaa.W Go.Proofs.Ytfecjdchgckjhaa.O Go.Proofs.Ytfecjdchgckjhaa.R4

set_option maxRecDepth 100000 in
set_option maxHeartbeats 2000000 in
theorem quarter2 (x : Int) (w : World) (h0 : 0 ≤ x) (h1 : x < 4294967296) :
    Calls Try.prog 32 #[.int .u32 x] w fun e w' => e = .returned (q2 x).val ∧ Below w.heap.size w w' := by
  have HBL := hid (fun v B w => plain_L x v B w h0 h1)
  have HBS := hid (fun v B w => plain_S x v B w h0 h1)
  have HFd := hid (show ∀ w, Calls Try.prog 46 #[.int .u32 x, .int .i64 11, .int .i64 7] w fun e w' => e = .returned (.int .i64 (fld x 7 5)) ∧ w = w' from fun w => field x 11 7 w h0 h1 (by omega) (by omega) (by omega))
  have HFs := hid (show ∀ w, Calls Try.prog 46 #[.int .u32 x, .int .i64 6, .int .i64 2] w fun e w' => e = .returned (.int .i64 (fld x 2 5)) ∧ w = w' from fun w => field x 6 2 w h0 h1 (by omega) (by omega) (by omega))
  have HFo := hid (show ∀ w, Calls Try.prog 46 #[.int .u32 x, .int .i64 12, .int .i64 12] w fun e w' => e = .returned (.int .i64 (fld x 12 1)) ∧ w = w' from fun w => field x 12 12 w h0 h1 (by omega) (by omega) (by omega))
  have HFf := hid (show ∀ w, Calls Try.prog 46 #[.int .u32 x, .int .i64 15, .int .i64 13] w fun e w' => e = .returned (.int .i64 (fld x 13 3)) ∧ w = w' from fun w => field x 15 13 w h0 h1 (by omega) (by omega) (by omega))
  have hf : 0 ≤ fld x 13 3 ∧ fld x 13 3 < 8 := fld_bd x 13 3
  have ho : 0 ≤ fld x 12 1 ∧ fld x 12 1 < 2 := fld_bd x 12 1
  have hs : 0 ≤ fld x 2 5 ∧ fld x 2 5 < 32 := fld_bd x 2 5
  have hq : Hid (q2 x = if fld x 13 3 = 0 then (if fld x 12 1 = 0 then ⟨25, fld x 7 5, fld x 7 5, 0, fld x 2 5⟩ else .none) else if fld x 13 3 = 2 then (if fld x 7 5 = 0 then .none else ⟨13, fld x 7 5, 2, 0, sL x⟩) else if fld x 13 3 = 4 then (if fld x 2 5 ≠ 0 then ⟨28, fld x 7 5, if fld x 12 1 = 0 then 0 else fld x 7 5, fld x 2 5, 0⟩ else if fld x 7 5 ≠ 0 then ⟨4, fld x 12 1, fld x 7 5, 0, 0⟩ else if fld x 12 1 = 1 then ⟨40, 0, 0, 0, 0⟩ else .none) else if fld x 13 3 = 6 then ⟨18, 0, 2, fld x 2 5, sS x⟩ else .none) := hid rfl
  generalize fld x 13 3 = f at *
  generalize fld x 7 5 = d at *
  generalize fld x 2 5 = s at *
  generalize fld x 12 1 = o at *
  generalize sL x = vl at *
  generalize sS x = vs at *
  have hc : (f = 0 ∧ o = 0) ∨ (f = 0 ∧ o = 1) ∨ (f = 2 ∧ d = 0) ∨ (f = 2 ∧ (d == 0) = false ∧ (d != 0) = true) ∨ (f = 6) ∨ (f = 4 ∧ o = 0 ∧ (s == 0) = false ∧ (s != 0) = true) ∨ (f = 4 ∧ o = 1 ∧ (s == 0) = false ∧ (s != 0) = true) ∨ (f = 4 ∧ o = 0 ∧ s = 0 ∧ (d == 0) = false ∧ (d != 0) = true) ∨ (f = 4 ∧ o = 1 ∧ s = 0 ∧ (d == 0) = false ∧ (d != 0) = true) ∨ (f = 4 ∧ o = 0 ∧ s = 0 ∧ d = 0) ∨ (f = 4 ∧ o = 1 ∧ s = 0 ∧ d = 0) ∨ ((f == 0) = false ∧ (f != 0) = true ∧ (f == 2) = false ∧ (f != 2) = true ∧ (f == 6) = false ∧ (f != 6) = true ∧ (f == 4) = false ∧ (f != 4) = true) := by first | omega | (simp only [bne_iff_ne, beq_eq_false_iff_ne, ne_eq]; omega)
  rcases hc with ⟨rfl, rfl⟩ | ⟨rfl, rfl⟩ | ⟨rfl, rfl⟩ | ⟨rfl, k0, k1⟩ | rfl | ⟨rfl, rfl, k0, k1⟩ | ⟨rfl, rfl, k0, k1⟩ | ⟨rfl, rfl, rfl, k0, k1⟩ | ⟨rfl, rfl, rfl, k0, k1⟩ | ⟨rfl, rfl, rfl, rfl⟩ | ⟨rfl, rfl, rfl, rfl⟩ | ⟨k0, k1, k2, k3, k4, k5, k6, k7⟩
  all_goals
    go_enter Try.func32, Try.ntmps32
    go_upto_region 1 with (fail)
    have HR := hid (Res.start w 23)
    generalize w.alloc (.cells #[.int .i64 0, .int .i64 0, .int .i64 0, .int .i64 0, .int .i32 0] 23) = w1 at *
    (try clear hbw zl c0 c1 c2 c3 c4 f0 f1 f2 f3 f4 five0 five1 five2 five3 five4); obtain ⟨hbw, zl, c0, c1, c2, c3, c4, f0, f1, f2, f3, f4⟩ := HR.out; obtain ⟨five0, five1, five2, five3, five4⟩ := S.five_ret c0 c1 c2 c3 c4
    go_wp2_with (first | (go_at_call 45; (with_reducible refine (R5.list_L _).mono ?_); rintro e w' ⟨v, rfl, hi, hb⟩; replace HR := hid (Res.lit HR.out hb); clear hb) | (go_at_call 45; (with_reducible refine (R5.list_S _).mono ?_); rintro e w' ⟨v, rfl, hi, hb⟩; replace HR := hid (Res.lit HR.out hb); clear hb) | (go_at_call 44; (with_reducible refine (HBL.out _ _ _ hi).mono ?_); rintro e w' ⟨rfl, hb⟩; replace HR := hid (Res.call HR.out hb); clear hb hi; (try clear hbw zl c0 c1 c2 c3 c4 f0 f1 f2 f3 f4 five0 five1 five2 five3 five4); obtain ⟨hbw, zl, c0, c1, c2, c3, c4, f0, f1, f2, f3, f4⟩ := HR.out; obtain ⟨five0, five1, five2, five3, five4⟩ := S.five_ret c0 c1 c2 c3 c4) | (go_at_call 44; (with_reducible refine (HBS.out _ _ _ hi).mono ?_); rintro e w' ⟨rfl, hb⟩; replace HR := hid (Res.call HR.out hb); clear hb hi; (try clear hbw zl c0 c1 c2 c3 c4 f0 f1 f2 f3 f4 five0 five1 five2 five3 five4); obtain ⟨hbw, zl, c0, c1, c2, c3, c4, f0, f1, f2, f3, f4⟩ := HR.out; obtain ⟨five0, five1, five2, five3, five4⟩ := S.five_ret c0 c1 c2 c3 c4) | (go_at_call 46; (with_reducible refine (HFd.out _).mono ?_); rintro e w' ⟨rfl, rfl⟩) | (go_at_call 46; (with_reducible refine (HFs.out _).mono ?_); rintro e w' ⟨rfl, rfl⟩) | (go_at_call 46; (with_reducible refine (HFo.out _).mono ?_); rintro e w' ⟨rfl, rfl⟩) | (go_at_call 46; (with_reducible refine (HFf.out _).mono ?_); rintro e w' ⟨rfl, rfl⟩))
    all_goals (refine bodyPost_ret (by simp [results, Try.results32, go_sem, five0, five1, five2, five3, five4]; try rfl) rfl ?_)
    all_goals refine ⟨?_, (by repeat' (first | (with_reducible exact Below.refl _ _) | (with_reducible assumption) | (with_reducible refine below_drewN ?_ _) | (with_reducible refine Below.alloc ?_ ?_ _) | (with_reducible refine Below.drew ?_) | (with_reducible refine Below.setCell ?_ ?_ _) | (with_reducible exact Below.size (by assumption)) | go_size))⟩
    all_goals rw [hq.out]
    all_goals clear HR HBL HBS HFd HFs HFo HFf hq hbw zl c0 c1 c2 c3 c4 f0 f1 f2 f3 f4 five0 five1 five2 five3 five4
    all_goals simp_all [I5.val, I5.none]
end Go.Proofs.Ytfecjdchgckjhaa.R5
