/- What the functions of typecaseref03 compute that ask what may be. -/
import Derived.Test.YtfecjdchgckjhaaNames
import Derived.Test.YtfecjdchgckjhaaRef01
import Derived.Test.YtfecjdchgckjhaaIns
import Derived.Test.YtfecjdchgckjhaaCells
namespace Go.Proofs.Ytfecjdchgckjhaa.R3
set_option linter.unusedVariables false
open Go.ChangeShapes Go.WideShapes Go.ChangeAt Go.RowKit Go.Proofs.Ytfecjdchgckjhaa.P Go.Proofs.Ytfecjdchgckjhaa.W

theorem reg (n : Int) (is : Bool) (w : World) :
    Calls Try.prog 42 #[.int .i64 n, .bool is] w fun e w' => e = .returned (.bool (regB n is)) ∧ w = w' := by
  go_enter Try.func42, Try.ntmps42
  go_wp2
  all_goals (go_ret; refine ⟨ret_bool ?_, rfl⟩)
  all_goals (rw [Bool.eq_iff_iff]; cases is <;> simp_all [regB] <;> omega)

theorem fits (v n : Int) (w : World) :
    Calls Try.prog 57 #[.int .i32 v, .int .i64 n] w fun e w' => e = .returned (.bool (sgn (v % 4294967296) (held n) == v)) ∧ w = w' := by
  go_enter Try.func57, Try.ntmps57
  go_wp2_with (first | (go_at_call 60; refine (R1.Sign _ _ _ (by omega) (by omega)).mono ?_; rintro e w' ⟨rfl, rfl⟩))
  go_ret
  exact ⟨rfl, rfl⟩

theorem number (f v : Int) (f0 : 0 ≤ f) (f1 : f ≤ 9) (v0 : -2147483648 ≤ v) (v1 : v < 2147483648) (w : World) :
    Calls Try.prog 43 #[.int .i64 f, .int .i32 v] w fun e w' => e = .returned (.bool (numB f v)) ∧ w = w' := by
  have h21 : held 21 = 21 := by decide
  have h13 : held 13 = 13 := by decide
  have h12 : held 12 = 12 := by decide
  go_enter Try.func43, Try.ntmps43
  go_wp2_with (go_at_call 57; refine (fits _ _ _).mono ?_; rintro e w' ⟨rfl, rfl⟩)
  all_goals (go_ret; refine ⟨ret_bool ?_, rfl⟩)
  all_goals simp only [beq_iff_eq, beq_eq_false_iff_ne, ne_eq] at *
  all_goals clear h21 h13 h12
  all_goals (rw [Bool.eq_iff_iff]; simp [numB, *] <;> omega)

set_option maxHeartbeats 4000000 in
theorem May (op rd rs1 rs2 imm : Int) (w : World) (o0 : -9223372036854775808 ≤ op) (o1 : op < 9223372036854775808) (v0 : -2147483648 ≤ imm) (v1 : imm < 2147483648) :
    Calls Try.prog 26 #[.agg #[.int .i64 op, .int .i64 rd, .int .i64 rs1, .int .i64 rs2, .int .i32 imm]] w fun e w' => e = .returned (.bool (mayB op rd rs1 rs2 imm)) ∧ Below w.heap.size w w' := by
  obtain ⟨f0, f1⟩ := form_bd op
  have hr : hasRd (form op) = (form op == 1 || form op == 2 || form op == 4 || form op == 6 || form op == 7 || form op == 8) := rfl
  have hr1 : hasRs1 (form op) = (decide (3 ≤ form op) && decide (form op ≤ 8)) := rfl
  have hr2 : hasRs2 (form op) = (form op == 3 || form op == 5 || form op == 8) := rfl
  have HM : Hid (mayB op rd rs1 rs2 imm = (!(form op == 0) && regB rd (hasRd (form op)) && regB rs1 (hasRs1 (form op)) && regB rs2 (hasRs2 (form op)) && numB (form op) imm)) := hid rfl
  rw [hr, hr1, hr2] at HM
  clear hr hr1 hr2
  go_enter Try.func26, Try.ntmps26
  go_wp2_with fail
  refine (Form _ _ o0 o1).mono ?_
  rintro e w' ⟨rfl, hb⟩
  have z1 := (Inst.new w 23 (.int .i64 op) (.int .i64 rd) (.int .i64 rs1) (.int .i64 rs2) (.int .i32 imm)).below hb (by simp)
  have hb2 := hid (bel_step (below_alloc w _) hb)
  obtain ⟨zl, c0, c1, c2, c3, c4⟩ := z1
  clear hb
  generalize form op = f at *
  have hf : f = 0 ∨ f = 1 ∨ f = 2 ∨ f = 3 ∨ f = 4 ∨ f = 5 ∨ f = 6 ∨ f = 7 ∨ f = 8 ∨ f = 9 := by omega
  rcases hf with rfl | rfl | rfl | rfl | rfl | rfl | rfl | rfl | rfl | rfl
  all_goals go_wp2_with (first | (go_at_call 42; refine (reg _ _ _).mono ?_; rintro e w3 ⟨rfl, rfl⟩) | (go_at_call 43; refine (number _ _ (by decide) (by decide) v0 v1 _).mono ?_; rintro e w3 ⟨rfl, rfl⟩))
  all_goals go_ret
  all_goals refine ⟨ret_bool ?_, hb2.out⟩
  all_goals (rw [HM.out]; simp [*])
end Go.Proofs.Ytfecjdchgckjhaa.R3
