/- Instructions in plain terms: an operation's form, what may be. No program is in sight. -/
import Derived.Test.YtfecjdchgckjhaaBits
namespace Go.Proofs.Ytfecjdchgckjhaa.P
set_option linter.unusedVariables false
open Go Go.RowKit

/-- an operation's form; 0: there is none -/
def form (op : Int) : Int :=
  if op < 1 ∨ 48 < op then 0 else if op ≤ 2 then 1 else if op = 3 then 2 else if op = 4 then 4 else if op ≤ 10 then 3 else if op ≤ 15 then 4
  else if op ≤ 18 then 5 else if op ≤ 24 then 6 else if op ≤ 27 then 7 else if 38 ≤ op ∧ op ≤ 40 then 9 else 8
/-- which registers a form has -/
def hasRd (f : Int) : Bool := f == 1 || f == 2 || f == 4 || f == 6 || f == 7 || f == 8
def hasRs1 (f : Int) : Bool := decide (3 ≤ f) && decide (f ≤ 8)
def hasRs2 (f : Int) : Bool := f == 3 || f == 5 || f == 8
/-- may a register be there? -/
def regB (n : Int) (is : Bool) : Bool := decide (0 ≤ n) && decide (n < 32) && (is || n == 0)
/-- may a number be there? -/
def numB (f v : Int) : Bool :=
  if f = 1 then v % 4096 == 0 else if f = 2 then v % 2 == 0 && sgn (v % 4294967296) 21 == v else if f = 3 then v % 2 == 0 && sgn (v % 4294967296) 13 == v
  else if f = 4 ∨ f = 5 ∨ f = 6 then sgn (v % 4294967296) 12 == v else if f = 7 then decide (0 ≤ v) && decide (v < 32) else v == 0
def mayB (op rd rs1 rs2 imm : Int) : Bool :=
  !(form op == 0) && regB rd (hasRd (form op)) && regB rs1 (hasRs1 (form op)) && regB rs2 (hasRs2 (form op)) && numB (form op) imm
theorem form_bd (op : Int) : 0 ≤ form op ∧ form op ≤ 9 := by
  unfold form; repeat' split
  all_goals omega
theorem form_none {op : Int} (h : op < 1 ∨ 48 < op) : form op = 0 := by unfold form; rw [if_pos h]
theorem form_upper {op : Int} (h : 1 ≤ op ∧ op ≤ 2) : form op = 1 := by
  unfold form; repeat' split
  all_goals omega
theorem form_jump : form 3 = 2 := by decide
theorem form_jalr : form 4 = 4 := by decide
theorem form_branch {op : Int} (h : 5 ≤ op ∧ op ≤ 10) : form op = 3 := by
  unfold form; repeat' split
  all_goals omega
theorem form_load {op : Int} (h : 11 ≤ op ∧ op ≤ 15) : form op = 4 := by
  unfold form; repeat' split
  all_goals omega
theorem form_store {op : Int} (h : 16 ≤ op ∧ op ≤ 18) : form op = 5 := by
  unfold form; repeat' split
  all_goals omega
theorem form_number {op : Int} (h : 19 ≤ op ∧ op ≤ 24) : form op = 6 := by
  unfold form; repeat' split
  all_goals omega
theorem form_shift {op : Int} (h : 25 ≤ op ∧ op ≤ 27) : form op = 7 := by
  unfold form; repeat' split
  all_goals omega
theorem form_bare {op : Int} (h : 38 ≤ op ∧ op ≤ 40) : form op = 9 := by
  unfold form; repeat' split
  all_goals omega
theorem form_register {op : Int} (h : 28 ≤ op ∧ op ≤ 37 ∨ 41 ≤ op ∧ op ≤ 48) : form op = 8 := by
  unfold form; repeat' split
  all_goals omega
end Go.Proofs.Ytfecjdchgckjhaa.P
