/- What the reference asks of an instruction, name by name, is what the row asks. No program is in sight. What typecaseref09.Fits computes. -/
import Derived.Test.YtfecjdchgckjhaaRef09a
import Derived.Deep.Cut
import Derived.Deep.DeepCutAuto
import Derived.Deep.RegionWith
namespace Go.Proofs.Ytfecjdchgckjhaa.R9
set_option linter.unusedVariables false
set_option linter.unusedSimpArgs false
open Go.ChangeShapes Go.WideShapes Go.ChangeAt Go.RowKit Go.Proofs.Ytfecjdchgckjhaa.P Go.Proofs.Ytfecjdchgckjhaa.W Go.Proofs.Ytfecjdchgckjhaa.F

theorem rg_none {op rd rs1 rs2 imm : Int} (h : mayB op rd rs1 rs2 imm = true) : (hasRd (form op) = false → rd = 0) ∧ (hasRs1 (form op) = false → rs1 = 0) ∧ (hasRs2 (form op) = false → rs2 = 0) ∧ numB (form op) imm = true ∧ (0 ≤ rd ∧ rd < 32) ∧ (0 ≤ rs1 ∧ rs1 < 32) ∧ (0 ≤ rs2 ∧ rs2 < 32) := by
  obtain ⟨r0, r1, r2⟩ := may_regs h
  unfold mayB at h
  simp only [Bool.and_eq_true, Bool.not_eq_true', beq_eq_false_iff_ne, ne_eq] at h
  obtain ⟨⟨⟨⟨h0, h1⟩, h2⟩, h3⟩, h4⟩ := h
  have r : ∀ n b, regB n b = true → (b = false → n = 0) := by
    intro n b hr hb
    simp only [regB, Bool.and_eq_true, Bool.or_eq_true, decide_eq_true_eq, beq_iff_eq] at hr
    rcases hr.2 with h | h
    · rw [hb] at h; cases h
    · exact h
  exact ⟨r _ _ h1, r _ _ h2, r _ _ h3, h4, r0, r1, r2⟩
theorem plain0 (op rd rs1 rs2 imm : Int) (hm : mayB op rd rs1 rs2 imm = true) : ((op == 19) && fewB rd && (rs1 == 2) && fromB imm 4 4 1020) = fitR (prAt 0) op rd rs1 rs2 imm := by
  by_cases e : op = 19
  · subst e
    obtain ⟨a1, a2, a3, a4, a5, a6, a7⟩ := rg_none hm
    obtain rfl : rs2 = 0 := a3 (by decide)
    clear a1 a2 a3 a4
    rw [Bool.eq_iff_iff]
    simp only [fitR, hm, prAt, prL, regK, fewB, fromB, List.getD_eq_getElem?_getD, List.getElem?_cons_succ, List.getElem?_cons_zero, Option.getD_some]
    simp
    try (intros; constructor <;> intro h <;> omega)
  · have e1 : (op == 19) = false := by simpa using e
    have e2 : (op == (prAt 0).op) = false := e1
    unfold fitR
    rw [e1, e2]; simp
theorem plain1 (op rd rs1 rs2 imm : Int) (hm : mayB op rd rs1 rs2 imm = true) : ((op == 13) && fewB rd && fewB rs1 && fromB imm 4 0 124) = fitR (prAt 1) op rd rs1 rs2 imm := by
  by_cases e : op = 13
  · subst e
    obtain ⟨a1, a2, a3, a4, a5, a6, a7⟩ := rg_none hm
    obtain rfl : rs2 = 0 := a3 (by decide)
    clear a1 a2 a3 a4
    rw [Bool.eq_iff_iff]
    simp only [fitR, hm, prAt, prL, regK, fewB, fromB, List.getD_eq_getElem?_getD, List.getElem?_cons_succ, List.getElem?_cons_zero, Option.getD_some]
    simp
    try (intros; constructor <;> intro h <;> omega)
  · have e1 : (op == 13) = false := by simpa using e
    have e2 : (op == (prAt 1).op) = false := e1
    unfold fitR
    rw [e1, e2]; simp
theorem plain2 (op rd rs1 rs2 imm : Int) (hm : mayB op rd rs1 rs2 imm = true) : ((op == 18) && fewB rs1 && fewB rs2 && fromB imm 4 0 124) = fitR (prAt 2) op rd rs1 rs2 imm := by
  by_cases e : op = 18
  · subst e
    obtain ⟨a1, a2, a3, a4, a5, a6, a7⟩ := rg_none hm
    obtain rfl : rd = 0 := a1 (by decide)
    clear a1 a2 a3 a4
    rw [Bool.eq_iff_iff]
    simp only [fitR, hm, prAt, prL, regK, fewB, fromB, List.getD_eq_getElem?_getD, List.getElem?_cons_succ, List.getElem?_cons_zero, Option.getD_some]
    simp
    try (intros; constructor <;> intro h <;> omega)
  · have e1 : (op == 18) = false := by simpa using e
    have e2 : (op == (prAt 2).op) = false := e1
    unfold fitR
    rw [e1, e2]; simp
theorem plain3 (op rd rs1 rs2 imm : Int) (hm : mayB op rd rs1 rs2 imm = true) : ((op == 19) && (rd == 0) && (rs1 == 0) && (imm == 0)) = fitR (prAt 3) op rd rs1 rs2 imm := by
  by_cases e : op = 19
  · subst e
    obtain ⟨a1, a2, a3, a4, a5, a6, a7⟩ := rg_none hm
    obtain rfl : rs2 = 0 := a3 (by decide)
    clear a1 a2 a3 a4
    rw [Bool.eq_iff_iff]
    simp only [fitR, hm, prAt, prL, regK, fewB, fromB, List.getD_eq_getElem?_getD, List.getElem?_cons_succ, List.getElem?_cons_zero, Option.getD_some]
    simp
    try (intros; constructor <;> intro h <;> omega)
  · have e1 : (op == 19) = false := by simpa using e
    have e2 : (op == (prAt 3).op) = false := e1
    unfold fitR
    rw [e1, e2]; simp
theorem plain4 (op rd rs1 rs2 imm : Int) (hm : mayB op rd rs1 rs2 imm = true) : ((op == 19) && !(rd == 0) && (rd == rs1) && fromB imm 1 (-32) 31 && !(imm == 0)) = fitR (prAt 4) op rd rs1 rs2 imm := by
  by_cases e : op = 19
  · subst e
    obtain ⟨a1, a2, a3, a4, a5, a6, a7⟩ := rg_none hm
    obtain rfl : rs2 = 0 := a3 (by decide)
    clear a1 a2 a3 a4
    rw [Bool.eq_iff_iff]
    simp only [fitR, hm, prAt, prL, regK, fewB, fromB, List.getD_eq_getElem?_getD, List.getElem?_cons_succ, List.getElem?_cons_zero, Option.getD_some]
    simp
    try (intros; constructor <;> intro h <;> omega)
  · have e1 : (op == 19) = false := by simpa using e
    have e2 : (op == (prAt 4).op) = false := e1
    unfold fitR
    rw [e1, e2]; simp
theorem plain5 (op rd rs1 rs2 imm : Int) (hm : mayB op rd rs1 rs2 imm = true) : ((op == 3) && (rd == 1) && fromB imm 2 (-2048) 2047) = fitR (prAt 5) op rd rs1 rs2 imm := by
  by_cases e : op = 3
  · subst e
    obtain ⟨a1, a2, a3, a4, a5, a6, a7⟩ := rg_none hm
    obtain rfl : rs1 = 0 := a2 (by decide)
    obtain rfl : rs2 = 0 := a3 (by decide)
    clear a1 a2 a3 a4
    rw [Bool.eq_iff_iff]
    simp only [fitR, hm, prAt, prL, regK, fewB, fromB, List.getD_eq_getElem?_getD, List.getElem?_cons_succ, List.getElem?_cons_zero, Option.getD_some]
    simp
    try (intros; constructor <;> intro h <;> omega)
  · have e1 : (op == 3) = false := by simpa using e
    have e2 : (op == (prAt 5).op) = false := e1
    unfold fitR
    rw [e1, e2]; simp
theorem plain6 (op rd rs1 rs2 imm : Int) (hm : mayB op rd rs1 rs2 imm = true) : ((op == 19) && !(rd == 0) && (rs1 == 0) && fromB imm 1 (-32) 31) = fitR (prAt 6) op rd rs1 rs2 imm := by
  by_cases e : op = 19
  · subst e
    obtain ⟨a1, a2, a3, a4, a5, a6, a7⟩ := rg_none hm
    obtain rfl : rs2 = 0 := a3 (by decide)
    clear a1 a2 a3 a4
    rw [Bool.eq_iff_iff]
    simp only [fitR, hm, prAt, prL, regK, fewB, fromB, List.getD_eq_getElem?_getD, List.getElem?_cons_succ, List.getElem?_cons_zero, Option.getD_some]
    simp
    try (intros; constructor <;> intro h <;> omega)
  · have e1 : (op == 19) = false := by simpa using e
    have e2 : (op == (prAt 6).op) = false := e1
    unfold fitR
    rw [e1, e2]; simp
theorem plain7 (op rd rs1 rs2 imm : Int) (hm : mayB op rd rs1 rs2 imm = true) : ((op == 19) && (rd == 2) && (rs1 == 2) && fromB imm 16 (-512) 511 && !(imm == 0)) = fitR (prAt 7) op rd rs1 rs2 imm := by
  by_cases e : op = 19
  · subst e
    obtain ⟨a1, a2, a3, a4, a5, a6, a7⟩ := rg_none hm
    obtain rfl : rs2 = 0 := a3 (by decide)
    clear a1 a2 a3 a4
    rw [Bool.eq_iff_iff]
    simp only [fitR, hm, prAt, prL, regK, fewB, fromB, List.getD_eq_getElem?_getD, List.getElem?_cons_succ, List.getElem?_cons_zero, Option.getD_some]
    simp
    try (intros; constructor <;> intro h <;> omega)
  · have e1 : (op == 19) = false := by simpa using e
    have e2 : (op == (prAt 7).op) = false := e1
    unfold fitR
    rw [e1, e2]; simp
theorem plain8 (op rd rs1 rs2 imm : Int) (hm : mayB op rd rs1 rs2 imm = true) : ((op == 1) && !(rd == 0) && !(rd == 2) && fromB imm 4096 (-131072) 126976 && !(imm == 0)) = fitR (prAt 8) op rd rs1 rs2 imm := by
  by_cases e : op = 1
  · subst e
    obtain ⟨a1, a2, a3, a4, a5, a6, a7⟩ := rg_none hm
    obtain rfl : rs1 = 0 := a2 (by decide)
    obtain rfl : rs2 = 0 := a3 (by decide)
    clear a1 a2 a3 a4
    rw [Bool.eq_iff_iff]
    simp only [fitR, hm, prAt, prL, regK, fewB, fromB, List.getD_eq_getElem?_getD, List.getElem?_cons_succ, List.getElem?_cons_zero, Option.getD_some]
    simp
    try (intros; constructor <;> intro h <;> omega)
  · have e1 : (op == 1) = false := by simpa using e
    have e2 : (op == (prAt 8).op) = false := e1
    unfold fitR
    rw [e1, e2]; simp
theorem plain9 (op rd rs1 rs2 imm : Int) (hm : mayB op rd rs1 rs2 imm = true) : ((op == 26) && fewB rd && (rd == rs1) && fromB imm 1 1 31) = fitR (prAt 9) op rd rs1 rs2 imm := by
  by_cases e : op = 26
  · subst e
    obtain ⟨a1, a2, a3, a4, a5, a6, a7⟩ := rg_none hm
    obtain rfl : rs2 = 0 := a3 (by decide)
    clear a1 a2 a3 a4
    rw [Bool.eq_iff_iff]
    simp only [fitR, hm, prAt, prL, regK, fewB, fromB, List.getD_eq_getElem?_getD, List.getElem?_cons_succ, List.getElem?_cons_zero, Option.getD_some]
    simp
    try (intros; constructor <;> intro h <;> omega)
  · have e1 : (op == 26) = false := by simpa using e
    have e2 : (op == (prAt 9).op) = false := e1
    unfold fitR
    rw [e1, e2]; simp
theorem plain10 (op rd rs1 rs2 imm : Int) (hm : mayB op rd rs1 rs2 imm = true) : ((op == 27) && fewB rd && (rd == rs1) && fromB imm 1 1 31) = fitR (prAt 10) op rd rs1 rs2 imm := by
  by_cases e : op = 27
  · subst e
    obtain ⟨a1, a2, a3, a4, a5, a6, a7⟩ := rg_none hm
    obtain rfl : rs2 = 0 := a3 (by decide)
    clear a1 a2 a3 a4
    rw [Bool.eq_iff_iff]
    simp only [fitR, hm, prAt, prL, regK, fewB, fromB, List.getD_eq_getElem?_getD, List.getElem?_cons_succ, List.getElem?_cons_zero, Option.getD_some]
    simp
    try (intros; constructor <;> intro h <;> omega)
  · have e1 : (op == 27) = false := by simpa using e
    have e2 : (op == (prAt 10).op) = false := e1
    unfold fitR
    rw [e1, e2]; simp
theorem plain11 (op rd rs1 rs2 imm : Int) (hm : mayB op rd rs1 rs2 imm = true) : ((op == 24) && fewB rd && (rd == rs1) && fromB imm 1 (-32) 31) = fitR (prAt 11) op rd rs1 rs2 imm := by
  by_cases e : op = 24
  · subst e
    obtain ⟨a1, a2, a3, a4, a5, a6, a7⟩ := rg_none hm
    obtain rfl : rs2 = 0 := a3 (by decide)
    clear a1 a2 a3 a4
    rw [Bool.eq_iff_iff]
    simp only [fitR, hm, prAt, prL, regK, fewB, fromB, List.getD_eq_getElem?_getD, List.getElem?_cons_succ, List.getElem?_cons_zero, Option.getD_some]
    simp
    try (intros; constructor <;> intro h <;> omega)
  · have e1 : (op == 24) = false := by simpa using e
    have e2 : (op == (prAt 11).op) = false := e1
    unfold fitR
    rw [e1, e2]; simp
theorem plain12 (op rd rs1 rs2 imm : Int) (hm : mayB op rd rs1 rs2 imm = true) : ((op == 29) && fewB rd && (rd == rs1) && fewB rs2) = fitR (prAt 12) op rd rs1 rs2 imm := by
  by_cases e : op = 29
  · subst e
    obtain ⟨a1, a2, a3, a4, a5, a6, a7⟩ := rg_none hm
    obtain rfl : imm = 0 := by simpa [numB, show form 29 = 8 from by decide] using a4
    clear a1 a2 a3 a4
    rw [Bool.eq_iff_iff]
    simp only [fitR, hm, prAt, prL, regK, fewB, fromB, List.getD_eq_getElem?_getD, List.getElem?_cons_succ, List.getElem?_cons_zero, Option.getD_some]
    simp
    try (intros; constructor <;> intro h <;> omega)
  · have e1 : (op == 29) = false := by simpa using e
    have e2 : (op == (prAt 12).op) = false := e1
    unfold fitR
    rw [e1, e2]; simp
theorem plain13 (op rd rs1 rs2 imm : Int) (hm : mayB op rd rs1 rs2 imm = true) : ((op == 33) && fewB rd && (rd == rs1) && fewB rs2) = fitR (prAt 13) op rd rs1 rs2 imm := by
  by_cases e : op = 33
  · subst e
    obtain ⟨a1, a2, a3, a4, a5, a6, a7⟩ := rg_none hm
    obtain rfl : imm = 0 := by simpa [numB, show form 33 = 8 from by decide] using a4
    clear a1 a2 a3 a4
    rw [Bool.eq_iff_iff]
    simp only [fitR, hm, prAt, prL, regK, fewB, fromB, List.getD_eq_getElem?_getD, List.getElem?_cons_succ, List.getElem?_cons_zero, Option.getD_some]
    simp
    try (intros; constructor <;> intro h <;> omega)
  · have e1 : (op == 33) = false := by simpa using e
    have e2 : (op == (prAt 13).op) = false := e1
    unfold fitR
    rw [e1, e2]; simp
theorem plain14 (op rd rs1 rs2 imm : Int) (hm : mayB op rd rs1 rs2 imm = true) : ((op == 36) && fewB rd && (rd == rs1) && fewB rs2) = fitR (prAt 14) op rd rs1 rs2 imm := by
  by_cases e : op = 36
  · subst e
    obtain ⟨a1, a2, a3, a4, a5, a6, a7⟩ := rg_none hm
    obtain rfl : imm = 0 := by simpa [numB, show form 36 = 8 from by decide] using a4
    clear a1 a2 a3 a4
    rw [Bool.eq_iff_iff]
    simp only [fitR, hm, prAt, prL, regK, fewB, fromB, List.getD_eq_getElem?_getD, List.getElem?_cons_succ, List.getElem?_cons_zero, Option.getD_some]
    simp
    try (intros; constructor <;> intro h <;> omega)
  · have e1 : (op == 36) = false := by simpa using e
    have e2 : (op == (prAt 14).op) = false := e1
    unfold fitR
    rw [e1, e2]; simp
theorem plain15 (op rd rs1 rs2 imm : Int) (hm : mayB op rd rs1 rs2 imm = true) : ((op == 37) && fewB rd && (rd == rs1) && fewB rs2) = fitR (prAt 15) op rd rs1 rs2 imm := by
  by_cases e : op = 37
  · subst e
    obtain ⟨a1, a2, a3, a4, a5, a6, a7⟩ := rg_none hm
    obtain rfl : imm = 0 := by simpa [numB, show form 37 = 8 from by decide] using a4
    clear a1 a2 a3 a4
    rw [Bool.eq_iff_iff]
    simp only [fitR, hm, prAt, prL, regK, fewB, fromB, List.getD_eq_getElem?_getD, List.getElem?_cons_succ, List.getElem?_cons_zero, Option.getD_some]
    simp
    try (intros; constructor <;> intro h <;> omega)
  · have e1 : (op == 37) = false := by simpa using e
    have e2 : (op == (prAt 15).op) = false := e1
    unfold fitR
    rw [e1, e2]; simp
theorem plain16 (op rd rs1 rs2 imm : Int) (hm : mayB op rd rs1 rs2 imm = true) : ((op == 3) && (rd == 0) && fromB imm 2 (-2048) 2047) = fitR (prAt 16) op rd rs1 rs2 imm := by
  by_cases e : op = 3
  · subst e
    obtain ⟨a1, a2, a3, a4, a5, a6, a7⟩ := rg_none hm
    obtain rfl : rs1 = 0 := a2 (by decide)
    obtain rfl : rs2 = 0 := a3 (by decide)
    clear a1 a2 a3 a4
    rw [Bool.eq_iff_iff]
    simp only [fitR, hm, prAt, prL, regK, fewB, fromB, List.getD_eq_getElem?_getD, List.getElem?_cons_succ, List.getElem?_cons_zero, Option.getD_some]
    simp
    try (intros; constructor <;> intro h <;> omega)
  · have e1 : (op == 3) = false := by simpa using e
    have e2 : (op == (prAt 16).op) = false := e1
    unfold fitR
    rw [e1, e2]; simp
theorem plain17 (op rd rs1 rs2 imm : Int) (hm : mayB op rd rs1 rs2 imm = true) : ((op == 5) && fewB rs1 && (rs2 == 0) && fromB imm 2 (-256) 255) = fitR (prAt 17) op rd rs1 rs2 imm := by
  by_cases e : op = 5
  · subst e
    obtain ⟨a1, a2, a3, a4, a5, a6, a7⟩ := rg_none hm
    obtain rfl : rd = 0 := a1 (by decide)
    clear a1 a2 a3 a4
    rw [Bool.eq_iff_iff]
    simp only [fitR, hm, prAt, prL, regK, fewB, fromB, List.getD_eq_getElem?_getD, List.getElem?_cons_succ, List.getElem?_cons_zero, Option.getD_some]
    simp
    try (intros; constructor <;> intro h <;> omega)
  · have e1 : (op == 5) = false := by simpa using e
    have e2 : (op == (prAt 17).op) = false := e1
    unfold fitR
    rw [e1, e2]; simp
theorem plain18 (op rd rs1 rs2 imm : Int) (hm : mayB op rd rs1 rs2 imm = true) : ((op == 6) && fewB rs1 && (rs2 == 0) && fromB imm 2 (-256) 255) = fitR (prAt 18) op rd rs1 rs2 imm := by
  by_cases e : op = 6
  · subst e
    obtain ⟨a1, a2, a3, a4, a5, a6, a7⟩ := rg_none hm
    obtain rfl : rd = 0 := a1 (by decide)
    clear a1 a2 a3 a4
    rw [Bool.eq_iff_iff]
    simp only [fitR, hm, prAt, prL, regK, fewB, fromB, List.getD_eq_getElem?_getD, List.getElem?_cons_succ, List.getElem?_cons_zero, Option.getD_some]
    simp
    try (intros; constructor <;> intro h <;> omega)
  · have e1 : (op == 6) = false := by simpa using e
    have e2 : (op == (prAt 18).op) = false := e1
    unfold fitR
    rw [e1, e2]; simp
theorem plain19 (op rd rs1 rs2 imm : Int) (hm : mayB op rd rs1 rs2 imm = true) : ((op == 25) && !(rd == 0) && (rd == rs1) && fromB imm 1 1 31) = fitR (prAt 19) op rd rs1 rs2 imm := by
  by_cases e : op = 25
  · subst e
    obtain ⟨a1, a2, a3, a4, a5, a6, a7⟩ := rg_none hm
    obtain rfl : rs2 = 0 := a3 (by decide)
    clear a1 a2 a3 a4
    rw [Bool.eq_iff_iff]
    simp only [fitR, hm, prAt, prL, regK, fewB, fromB, List.getD_eq_getElem?_getD, List.getElem?_cons_succ, List.getElem?_cons_zero, Option.getD_some]
    simp
    try (intros; constructor <;> intro h <;> omega)
  · have e1 : (op == 25) = false := by simpa using e
    have e2 : (op == (prAt 19).op) = false := e1
    unfold fitR
    rw [e1, e2]; simp
theorem plain20 (op rd rs1 rs2 imm : Int) (hm : mayB op rd rs1 rs2 imm = true) : ((op == 13) && !(rd == 0) && (rs1 == 2) && fromB imm 4 0 252) = fitR (prAt 20) op rd rs1 rs2 imm := by
  by_cases e : op = 13
  · subst e
    obtain ⟨a1, a2, a3, a4, a5, a6, a7⟩ := rg_none hm
    obtain rfl : rs2 = 0 := a3 (by decide)
    clear a1 a2 a3 a4
    rw [Bool.eq_iff_iff]
    simp only [fitR, hm, prAt, prL, regK, fewB, fromB, List.getD_eq_getElem?_getD, List.getElem?_cons_succ, List.getElem?_cons_zero, Option.getD_some]
    simp
    try (intros; constructor <;> intro h <;> omega)
  · have e1 : (op == 13) = false := by simpa using e
    have e2 : (op == (prAt 20).op) = false := e1
    unfold fitR
    rw [e1, e2]; simp
theorem plain21 (op rd rs1 rs2 imm : Int) (hm : mayB op rd rs1 rs2 imm = true) : ((op == 4) && (rd == 0) && !(rs1 == 0) && (imm == 0)) = fitR (prAt 21) op rd rs1 rs2 imm := by
  by_cases e : op = 4
  · subst e
    obtain ⟨a1, a2, a3, a4, a5, a6, a7⟩ := rg_none hm
    obtain rfl : rs2 = 0 := a3 (by decide)
    clear a1 a2 a3 a4
    rw [Bool.eq_iff_iff]
    simp only [fitR, hm, prAt, prL, regK, fewB, fromB, List.getD_eq_getElem?_getD, List.getElem?_cons_succ, List.getElem?_cons_zero, Option.getD_some]
    simp
    try (intros; constructor <;> intro h <;> omega)
  · have e1 : (op == 4) = false := by simpa using e
    have e2 : (op == (prAt 21).op) = false := e1
    unfold fitR
    rw [e1, e2]; simp
theorem plain22 (op rd rs1 rs2 imm : Int) (hm : mayB op rd rs1 rs2 imm = true) : ((op == 28) && !(rd == 0) && (rs1 == 0) && !(rs2 == 0)) = fitR (prAt 22) op rd rs1 rs2 imm := by
  by_cases e : op = 28
  · subst e
    obtain ⟨a1, a2, a3, a4, a5, a6, a7⟩ := rg_none hm
    obtain rfl : imm = 0 := by simpa [numB, show form 28 = 8 from by decide] using a4
    clear a1 a2 a3 a4
    rw [Bool.eq_iff_iff]
    simp only [fitR, hm, prAt, prL, regK, fewB, fromB, List.getD_eq_getElem?_getD, List.getElem?_cons_succ, List.getElem?_cons_zero, Option.getD_some]
    simp
    try (intros; constructor <;> intro h <;> omega)
  · have e1 : (op == 28) = false := by simpa using e
    have e2 : (op == (prAt 22).op) = false := e1
    unfold fitR
    rw [e1, e2]; simp
theorem plain23 (op rd rs1 rs2 imm : Int) (hm : mayB op rd rs1 rs2 imm = true) : ((op == 40)) = fitR (prAt 23) op rd rs1 rs2 imm := by
  by_cases e : op = 40
  · subst e
    obtain ⟨a1, a2, a3, a4, a5, a6, a7⟩ := rg_none hm
    obtain rfl : rd = 0 := a1 (by decide)
    obtain rfl : rs1 = 0 := a2 (by decide)
    obtain rfl : rs2 = 0 := a3 (by decide)
    obtain rfl : imm = 0 := by simpa [numB, show form 40 = 9 from by decide] using a4
    clear a1 a2 a3 a4
    rw [Bool.eq_iff_iff]
    simp only [fitR, hm, prAt, prL, regK, fewB, fromB, List.getD_eq_getElem?_getD, List.getElem?_cons_succ, List.getElem?_cons_zero, Option.getD_some]
    simp
    try (intros; constructor <;> intro h <;> omega)
  · have e1 : (op == 40) = false := by simpa using e
    have e2 : (op == (prAt 23).op) = false := e1
    unfold fitR
    rw [e1, e2]; simp
theorem plain24 (op rd rs1 rs2 imm : Int) (hm : mayB op rd rs1 rs2 imm = true) : ((op == 4) && (rd == 1) && !(rs1 == 0) && (imm == 0)) = fitR (prAt 24) op rd rs1 rs2 imm := by
  by_cases e : op = 4
  · subst e
    obtain ⟨a1, a2, a3, a4, a5, a6, a7⟩ := rg_none hm
    obtain rfl : rs2 = 0 := a3 (by decide)
    clear a1 a2 a3 a4
    rw [Bool.eq_iff_iff]
    simp only [fitR, hm, prAt, prL, regK, fewB, fromB, List.getD_eq_getElem?_getD, List.getElem?_cons_succ, List.getElem?_cons_zero, Option.getD_some]
    simp
    try (intros; constructor <;> intro h <;> omega)
  · have e1 : (op == 4) = false := by simpa using e
    have e2 : (op == (prAt 24).op) = false := e1
    unfold fitR
    rw [e1, e2]; simp
theorem plain25 (op rd rs1 rs2 imm : Int) (hm : mayB op rd rs1 rs2 imm = true) : ((op == 28) && !(rd == 0) && (rd == rs1) && !(rs2 == 0)) = fitR (prAt 25) op rd rs1 rs2 imm := by
  by_cases e : op = 28
  · subst e
    obtain ⟨a1, a2, a3, a4, a5, a6, a7⟩ := rg_none hm
    obtain rfl : imm = 0 := by simpa [numB, show form 28 = 8 from by decide] using a4
    clear a1 a2 a3 a4
    rw [Bool.eq_iff_iff]
    simp only [fitR, hm, prAt, prL, regK, fewB, fromB, List.getD_eq_getElem?_getD, List.getElem?_cons_succ, List.getElem?_cons_zero, Option.getD_some]
    simp
    try (intros; constructor <;> intro h <;> omega)
  · have e1 : (op == 28) = false := by simpa using e
    have e2 : (op == (prAt 25).op) = false := e1
    unfold fitR
    rw [e1, e2]; simp
theorem plain26 (op rd rs1 rs2 imm : Int) (hm : mayB op rd rs1 rs2 imm = true) : ((op == 18) && (rs1 == 2) && fromB imm 4 0 252) = fitR (prAt 26) op rd rs1 rs2 imm := by
  by_cases e : op = 18
  · subst e
    obtain ⟨a1, a2, a3, a4, a5, a6, a7⟩ := rg_none hm
    obtain rfl : rd = 0 := a1 (by decide)
    clear a1 a2 a3 a4
    rw [Bool.eq_iff_iff]
    simp only [fitR, hm, prAt, prL, regK, fewB, fromB, List.getD_eq_getElem?_getD, List.getElem?_cons_succ, List.getElem?_cons_zero, Option.getD_some]
    simp
    try (intros; constructor <;> intro h <;> omega)
  · have e1 : (op == 18) = false := by simpa using e
    have e2 : (op == (prAt 26).op) = false := e1
    unfold fitR
    rw [e1, e2]; simp
end Go.Proofs.Ytfecjdchgckjhaa.R9

namespace Go.Proofs.Ytfecjdchgckjhaa.R9
set_option linter.unusedVariables false
set_option linter.unusedSimpArgs false
open Go.ChangeShapes Go.WideShapes Go.ChangeAt Go.RowKit Go.Proofs.Ytfecjdchgckjhaa.P Go.Proofs.Ytfecjdchgckjhaa.W Go.Proofs.Ytfecjdchgckjhaa.F

theorem may_op {op rd rs1 rs2 imm : Int} (h : mayB op rd rs1 rs2 imm = true) : 1 ≤ op ∧ op ≤ 48 := by
  by_cases k : op < 1 ∨ 48 < op
  · exfalso
    have := form_none k
    simp [mayB, this] at h
  · omega
theorem names_at (w : World) : Calls Try.prog 27 #[] w fun e w' => ∃ b, e = .returned (.slice (some ⟨b, 0, none⟩) 49 49) ∧ Below w.heap.size w w' ∧ R3.StrsAt w' b names :=
  (R3.Names w).mono fun _ _ ⟨h1, h2, h3⟩ => ⟨_, h1, h2, h3⟩
theorem name_size {k : Nat} (h : k < 49) : (nameN k).size ≤ 10 := by
  have : ∀ k, k < 49 → (nameN k).size ≤ 10 := by decide
  exact this k h
theorem pre_is (s : ByteArray) (l : List UInt8) : ((⟨#[99, 46]⟩ ++ s : ByteArray).toList == 99 :: 46 :: l) = (s.toList == l) := by
  rw [ByteArray.toList_eq, ByteArray.toList_eq]
  have e : (⟨#[99, 46]⟩ ++ s : ByteArray).data.toList = 99 :: 46 :: s.data.toList := by rw [ByteArray.data_append]; simp
  rw [e]; simp
/-- a name is one operation's alone -/
theorem name_is {c : Int} {l : List UInt8} (h : ∀ j : Nat, j < 49 → ((nameN j).data.toList == l) = ((j : Int) == c)) {op : Int} (h0 : 1 ≤ op) (h1 : op ≤ 48) : ((nameN op.toNat).toList == l) = (op == c) := by
  have := h op.toNat (by omega)
  rw [ByteArray.toList_eq, this, show ((op.toNat : Nat) : Int) = op by omega]
end Go.Proofs.Ytfecjdchgckjhaa.R9
