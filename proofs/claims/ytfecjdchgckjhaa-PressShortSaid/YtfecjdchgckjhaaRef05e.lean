/- What the functions of package typecaseref05 compute: the quarters. -/
import Derived.Test.YtfecjdchgckjhaaRef05b
import Derived.Test.YtfecjdchgckjhaaRef05c
import Derived.Deep.Cut
import Derived.Deep.RegionHeld3
namespace Go.Proofs.Ytfecjdchgckjhaa.R5
set_option linter.unusedVariables false
set_option linter.unusedSimpArgs false
open Go.ChangeShapes Go.WideShapes Go.ChangeAt Go.RowKit Go.Proofs.Ytfecjdchgckjhaa.P Go.Proofs.Ytfecjdchgckjhaa.W Go.Proofs.Ytfecjdchgckjhaa.O Go.Proofs.Ytfecjdchgckjhaa.R4

set_option maxRecDepth 100000 in
set_option maxHeartbeats 2000000 in
theorem quarter1 (x : Int) (w : World) (h0 : 0 ≤ x) (h1 : x < 4294967296) :
    Calls Try.prog 31 #[.int .u32 x] w fun e w' => e = .returned (q1 x).val ∧ Below w.heap.size w w' := by
  have HBN6 := hid (fun v B w => bits_N6 x v B w h0 h1)
  have HBJ := hid (fun v B w => bits_J x v B w h0 h1)
  have HBB := hid (fun v B w => bits_B x v B w h0 h1)
  have HBA := hid (fun v B w => bits_A x v B w h0 h1)
  have HFd := hid (show ∀ w, Calls Try.prog 46 #[.int .u32 x, .int .i64 11, .int .i64 7] w fun e w' => e = .returned (.int .i64 (fld x 7 5)) ∧ w = w' from fun w => field x 11 7 w h0 h1 (by omega) (by omega) (by omega))
  have HFf := hid (show ∀ w, Calls Try.prog 46 #[.int .u32 x, .int .i64 15, .int .i64 13] w fun e w' => e = .returned (.int .i64 (fld x 13 3)) ∧ w = w' from fun w => field x 15 13 w h0 h1 (by omega) (by omega) (by omega))
  have HW7 := hid (show ∀ w, Calls Try.prog 47 #[.int .u32 x, .int .i64 7] w fun e w' => e = .returned (.int .i64 (sR1 x)) ∧ w = w' from fun w => few x 7 w h0 h1 (by omega) (by omega))
  have HS := hid (show ∀ w, Calls Try.prog 49 #[.int .u32 x, .int .i32 (sN6 x)] w fun e w' => e = .returned (.agg #[.int .i64 (qSums x).op, .int .i64 (qSums x).rd, .int .i64 (qSums x).rs1, .int .i64 (qSums x).rs2, .int .i32 (qSums x).imm]) ∧ Below w.heap.size w w' from fun w => sums x w h0 h1)
  have hn := sN6_bd x
  have hf : 0 ≤ fld x 13 3 ∧ fld x 13 3 < 8 := fld_bd x 13 3
  have hq : Hid (q1 x = if fld x 13 3 = 0 then ⟨19, fld x 7 5, fld x 7 5, 0, sN6 x⟩ else if fld x 13 3 = 1 then ⟨3, 1, 0, 0, sJ x⟩ else if fld x 13 3 = 2 then ⟨19, fld x 7 5, 0, 0, sN6 x⟩ else if fld x 13 3 = 3 then (if sN6 x = 0 then .none else if fld x 7 5 = 2 then ⟨19, 2, 2, 0, sA x⟩ else ⟨1, fld x 7 5, 0, 0, sN6 x * 4096⟩) else if fld x 13 3 = 4 then qSums x else if fld x 13 3 = 5 then ⟨3, 0, 0, 0, sJ x⟩ else if fld x 13 3 = 6 then ⟨5, 0, sR1 x, 0, sB x⟩ else ⟨6, 0, sR1 x, 0, sB x⟩) := hid rfl
  generalize fld x 13 3 = f at *
  generalize fld x 7 5 = d at *
  generalize sN6 x = n at *
  generalize sJ x = j at *
  generalize sB x = bb at *
  generalize sA x = aa at *
  generalize sR1 x = r1 at *
  have hc : (f = 0) ∨ (f = 1) ∨ (f = 2) ∨ (f = 3 ∧ n = 0) ∨ (f = 3 ∧ d = 2 ∧ (n == 0) = false ∧ (n != 0) = true) ∨ (f = 3 ∧ (n == 0) = false ∧ (n != 0) = true ∧ (d == 2) = false ∧ (d != 2) = true) ∨ (f = 4) ∨ (f = 5) ∨ (f = 6) ∨ (f = 7) := by first | omega | (simp only [bne_iff_ne, beq_eq_false_iff_ne, ne_eq]; omega)
  rcases hc with rfl | rfl | rfl | ⟨rfl, rfl⟩ | ⟨rfl, rfl, k0, k1⟩ | ⟨rfl, k0, k1, k2, k3⟩ | rfl | rfl | rfl | rfl
  all_goals
    go_enter Try.func31, Try.ntmps31
    go_upto_region 1 with (fail)
    have HR := hid (Res.start w 23)
    generalize w.alloc (.cells #[.int .i64 0, .int .i64 0, .int .i64 0, .int .i64 0, .int .i32 0] 23) = w1 at *
    go_wp2_with (first | (go_at_call 45; (with_reducible refine (R5.list_N6 _).mono ?_); rintro e w' ⟨v, rfl, hi, hb⟩; replace HR := hid (Res.lit HR.out hb); clear hb) | (go_at_call 45; (with_reducible refine (R5.list_J _).mono ?_); rintro e w' ⟨v, rfl, hi, hb⟩; replace HR := hid (Res.lit HR.out hb); clear hb) | (go_at_call 45; (with_reducible refine (R5.list_B _).mono ?_); rintro e w' ⟨v, rfl, hi, hb⟩; replace HR := hid (Res.lit HR.out hb); clear hb; (try clear hbw zl c0 c1 c2 c3 c4 f0 f1 f2 f3 f4 five0 five1 five2 five3 five4); obtain ⟨hbw, zl, c0, c1, c2, c3, c4, f0, f1, f2, f3, f4⟩ := HR.out; obtain ⟨five0, five1, five2, five3, five4⟩ := S.five_ret c0 c1 c2 c3 c4) | (go_at_call 45; (with_reducible refine (R5.list_A _).mono ?_); rintro e w' ⟨v, rfl, hi, hb⟩; replace HR := hid (Res.lit HR.out hb); clear hb; (try clear hbw zl c0 c1 c2 c3 c4 f0 f1 f2 f3 f4 five0 five1 five2 five3 five4); obtain ⟨hbw, zl, c0, c1, c2, c3, c4, f0, f1, f2, f3, f4⟩ := HR.out; obtain ⟨five0, five1, five2, five3, five4⟩ := S.five_ret c0 c1 c2 c3 c4) | (go_at_call 48; (with_reducible refine (HBN6.out _ _ _ hi).mono ?_); rintro e w' ⟨rfl, rfl⟩; clear hi) | (go_at_call 48; (with_reducible refine (HBJ.out _ _ _ hi).mono ?_); rintro e w' ⟨rfl, rfl⟩; clear hi) | (go_at_call 48; (with_reducible refine (HBB.out _ _ _ hi).mono ?_); rintro e w' ⟨rfl, rfl⟩; clear hi) | (go_at_call 48; (with_reducible refine (HBA.out _ _ _ hi).mono ?_); rintro e w' ⟨rfl, rfl⟩; clear hi) | (go_at_call 46; (with_reducible refine (HFd.out _).mono ?_); rintro e w' ⟨rfl, rfl⟩) | (go_at_call 46; (with_reducible refine (HFf.out _).mono ?_); rintro e w' ⟨rfl, rfl⟩) | (go_at_call 47; (with_reducible refine (HW7.out _).mono ?_); rintro e w' ⟨rfl, rfl⟩) | (go_at_call 49; (with_reducible refine (HS.out _).mono ?_); rintro e w' ⟨rfl, hb⟩; replace HR := hid (Res.call HR.out hb); clear hb; (try clear hbw zl c0 c1 c2 c3 c4 f0 f1 f2 f3 f4 five0 five1 five2 five3 five4); obtain ⟨hbw, zl, c0, c1, c2, c3, c4, f0, f1, f2, f3, f4⟩ := HR.out; obtain ⟨five0, five1, five2, five3, five4⟩ := S.five_ret c0 c1 c2 c3 c4))
    all_goals (refine bodyPost_ret (by simp [results, Try.results31, go_sem, five0, five1, five2, five3, five4]; try rfl) rfl ?_)
    all_goals refine ⟨?_, (by repeat' (first | (with_reducible exact Below.refl _ _) | (with_reducible assumption) | (with_reducible refine below_drewN ?_ _) | (with_reducible refine Below.alloc ?_ ?_ _) | (with_reducible refine Below.drew ?_) | (with_reducible refine Below.setCell ?_ ?_ _) | (with_reducible exact Below.size (by assumption)) | go_size))⟩
    all_goals rw [hq.out]
    all_goals clear HR HBN6 HBJ HBB HBA HFd HFf HW7 HS hq hbw zl c0 c1 c2 c3 c4 f0 f1 f2 f3 f4 five0 five1 five2 five3 five4
    all_goals simp_all [I5.val, I5.none]
end Go.Proofs.Ytfecjdchgckjhaa.R5
