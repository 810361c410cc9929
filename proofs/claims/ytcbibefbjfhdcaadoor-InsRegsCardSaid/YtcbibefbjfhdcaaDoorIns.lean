/- What the functions of package ins compute that ask what may be. -/
import Derived.Test.YtcbibefbjfhdcaaDoorWord
import Derived.Test.YtcbibefbjfhdcaaDoorWordP
import Derived.Handy
namespace Go.Proofs.YtcbibefbjfhdcaaDoor.I
set_option linter.unusedVariables false
open Go.ChangeShapes Go.WideShapes Go.ChangeAt Go.RowKit Go.Proofs.YtcbibefbjfhdcaaDoor.P Go.Proofs.YtcbibefbjfhdcaaDoor.W

theorem FormOf (op : Int) (w : World) :
    Calls Tryd.prog 13 #[.int .i64 op] w fun e w' => e = .returned (.int .i64 (form op)) ∧ w = w' := by
  go_enter Tryd.func13, Tryd.ntmps13
  go_wp2
  all_goals (go_ret; refine ⟨ret_int ?_, rfl⟩)
  all_goals try simp only [Bool.not_eq_true', Bool.not_eq_false', decide_eq_false_iff_not, decide_eq_true_eq, beq_iff_eq, beq_eq_false_iff_ne] at *
  all_goals first | (refine (form_none ?_).symm; omega) | (refine (form_upper ?_).symm; omega) | (refine (form_branch ?_).symm; omega) | (refine (form_load ?_).symm; omega) | (refine (form_store ?_).symm; omega) | (refine (form_number ?_).symm; omega) | (refine (form_shift ?_).symm; omega) | (refine (form_bare ?_).symm; omega) | (refine (form_register ?_).symm; omega) | (obtain rfl : op = 3 := (by assumption); rfl) | (obtain rfl : op = 4 := (by assumption); rfl)

theorem reg (n : Int) (is : Bool) (w : World) :
    Calls Tryd.prog 27 #[.int .i64 n, .bool is] w fun e w' => e = .returned (.bool (regB n is)) ∧ w = w' := by
  go_enter Tryd.func27, Tryd.ntmps27
  go_wp2
  all_goals (go_ret; refine ⟨ret_bool ?_, rfl⟩)
  all_goals (simp [regB, *] <;> omega)

theorem tmod_zero (v k : Int) (hk : 0 < k) : (v.tmod k = 0) ↔ (v % k = 0) := by
  rw [← Int.dvd_iff_tmod_eq_zero, Int.dvd_iff_emod_eq_zero]

theorem number (f v : Int) (f0 : 0 ≤ f) (f1 : f ≤ 9) (w : World) :
    Calls Tryd.prog 28 #[.int .i64 f, .int .i32 v] w fun e w' => e = .returned (.bool (numB f v)) ∧ w = w' := by
  have h21 : held 21 = 21 := by decide
  have h13 : held 13 = 13 := by decide
  have h12 : held 12 = 12 := by decide
  go_enter Tryd.func28, Tryd.ntmps28
  go_wp2_with (first | (go_at_call 41; refine (W.Fits _ _ _).mono ?_; rintro e w' ⟨rfl, rfl⟩))
  all_goals (go_ret; refine ⟨ret_bool ?_, rfl⟩)
  all_goals
    have t2 := tmod_zero v 2 (by decide)
    have t4 := tmod_zero v 4096 (by decide)
    simp [numB, *] <;> simp_all <;> (first | omega | (rw [Bool.eq_iff_iff, beq_iff_eq, beq_iff_eq]; exact t4))

theorem of_ (f : Int) (f0 : 0 ≤ f) (f1 : f ≤ 9) (w : World) :
    Calls Tryd.prog 26 #[.int .i64 f] w fun e w' => e = .returned (.agg #[.bool (hasRd f), .bool (hasRs1 f), .bool (hasRs2 f)]) ∧ Below w.heap.size w w' := by
  have hf : f = 0 ∨ f = 1 ∨ f = 2 ∨ f = 3 ∨ f = 4 ∨ f = 5 ∨ f = 6 ∨ f = 7 ∨ f = 8 ∨ f = 9 := by omega
  rcases hf with rfl | rfl | rfl | rfl | rfl | rfl | rfl | rfl | rfl | rfl
  all_goals
    go_enter Tryd.func26, Tryd.ntmps26
    go_wp2
    go_returns
    exact ⟨rfl, by go_grown⟩

theorem May (op rd rs1 rs2 imm : Int) (w : World) :
    Calls Tryd.prog 11 #[.agg #[.int .i64 op, .int .i64 rd, .int .i64 rs1, .int .i64 rs2, .int .i32 imm]] w fun e w' => e = .returned (.bool (mayB op rd rs1 rs2 imm)) ∧ Below w.heap.size w w' := by
  obtain ⟨f0, f1⟩ := form_bd op
  go_enter Tryd.func11, Tryd.ntmps11
  go_wp2_with (first | (go_at_call 13; refine (I.FormOf _ _).mono ?_; rintro e w' ⟨rfl, rfl⟩) | (go_at_call 26; refine (I.of_ _ (by omega) (by omega) _).mono ?_; rintro e w' ⟨rfl, hbel⟩; (try (with_reducible replace hbel := bel_undrew hbel)); (try (with_reducible replace hbel := bel_undrewN hbel)); have hbw := bel_step (w := w) (by repeat' (first | (with_reducible exact Below.refl _ _) | (with_reducible assumption) | (with_reducible refine below_drewN ?_ _) | (with_reducible refine Below.alloc ?_ ?_ _) | (with_reducible refine Below.drew ?_) | (with_reducible refine Below.setCell ?_ ?_ _) | (with_reducible exact Below.size (by assumption)) | go_size)) hbel; have hsw := hbw.size; have hsb := hbel.size; (try simp at hsb); (try (refine lay (p := w.heap.size < w'.heap.size) ?_ ?_; rotate_left; intro hq0; rotate_left; omega)); (try (refine lay (p := w.heap.size + 1 < w'.heap.size) ?_ ?_; rotate_left; intro hq1; rotate_left; omega)); (try (refine lay (p := w.heap.size + 2 < w'.heap.size) ?_ ?_; rotate_left; intro hq2; rotate_left; omega)); (try (refine lay (p := w.heap.size + 3 < w'.heap.size) ?_ ?_; rotate_left; intro hq3; rotate_left; omega)); (try (refine lay (p := w.heap.size + 4 < w'.heap.size) ?_ ?_; rotate_left; intro hq4; rotate_left; omega)); (try (refine lay (p := w.heap.size + 5 < w'.heap.size) ?_ ?_; rotate_left; intro hq5; rotate_left; omega)); obtain ⟨hcel, hfro⟩ := bcell hbel; clear hbel) | (go_at_call 27; refine (I.reg _ _ _).mono ?_; rintro e w' ⟨rfl, rfl⟩) | (go_at_call 28; refine (I.number _ _ (by omega) (by omega) _).mono ?_; rintro e w' ⟨rfl, rfl⟩))
  all_goals go_ret
  all_goals exact ⟨ret_bool (by simp [mayB, bne, *]), by go_grown⟩
end Go.Proofs.YtcbibefbjfhdcaaDoor.I
