/- What a parcel stands for may be. No program is in sight. -/
import Derived.Test.YtfecjdchgckjhaaSlimP
namespace Go.Proofs.Ytfecjdchgckjhaa.P
set_option linter.unusedVariables false
set_option linter.unusedSimpArgs false
open Go Go.RowKit

def I5.may (i : I5) : Prop := mayB i.op i.rd i.rs1 i.rs2 i.imm = true
theorem sgn12n (v : Int) (h0 : -2048 ≤ v) (h1 : v < 2048) : sgn (v % 4294967296) 12 = v := by
  have e : (2 : Int) ^ 12 = 4096 := by decide
  unfold sgn; rw [e]; split <;> omega
theorem sgn13n (v : Int) (h0 : -4096 ≤ v) (h1 : v < 4096) : sgn (v % 4294967296) 13 = v := by
  have e : (2 : Int) ^ 13 = 8192 := by decide
  unfold sgn; rw [e]; split <;> omega
theorem sgn21n (v : Int) (h0 : -1048576 ≤ v) (h1 : v < 1048576) : sgn (v % 4294967296) 21 = v := by
  have e : (2 : Int) ^ 21 = 2097152 := by decide
  unfold sgn; rw [e]; split <;> omega
/-- a register is there -/
def rg (n : Int) : Prop := 0 ≤ n ∧ n < 32
theorem may_number {op rd rs1 imm : Int} (h : form op = 6) (a : rg rd) (b : rg rs1) (h0 : -2048 ≤ imm) (h1 : imm < 2048) : mayB op rd rs1 0 imm = true := by
  obtain ⟨a0, a1⟩ := a; obtain ⟨b0, b1⟩ := b
  simp [mayB, h, hasRd, hasRs1, hasRs2, regB, numB, sgn12n imm h0 h1, *]
theorem may_load {op rd rs1 imm : Int} (h : form op = 4) (a : rg rd) (b : rg rs1) (h0 : -2048 ≤ imm) (h1 : imm < 2048) : mayB op rd rs1 0 imm = true := by
  obtain ⟨a0, a1⟩ := a; obtain ⟨b0, b1⟩ := b
  simp [mayB, h, hasRd, hasRs1, hasRs2, regB, numB, sgn12n imm h0 h1, *]
theorem may_store {op rs1 rs2 imm : Int} (h : form op = 5) (a : rg rs1) (b : rg rs2) (h0 : -2048 ≤ imm) (h1 : imm < 2048) : mayB op 0 rs1 rs2 imm = true := by
  obtain ⟨a0, a1⟩ := a; obtain ⟨b0, b1⟩ := b
  simp [mayB, h, hasRd, hasRs1, hasRs2, regB, numB, sgn12n imm h0 h1, *]
theorem may_shift {op rd rs1 imm : Int} (h : form op = 7) (a : rg rd) (b : rg rs1) (h0 : 0 ≤ imm) (h1 : imm < 32) : mayB op rd rs1 0 imm = true := by
  obtain ⟨a0, a1⟩ := a; obtain ⟨b0, b1⟩ := b
  simp [mayB, h, hasRd, hasRs1, hasRs2, regB, numB, *]
theorem may_register {op rd rs1 rs2 : Int} (h : form op = 8) (a : rg rd) (b : rg rs1) (c : rg rs2) : mayB op rd rs1 rs2 0 = true := by
  obtain ⟨a0, a1⟩ := a; obtain ⟨b0, b1⟩ := b; obtain ⟨c0, c1⟩ := c
  simp [mayB, h, hasRd, hasRs1, hasRs2, regB, numB, *]
theorem may_upper {op rd imm : Int} (h : form op = 1) (a : rg rd) (h0 : imm % 4096 = 0) : mayB op rd 0 0 imm = true := by
  obtain ⟨a0, a1⟩ := a
  simp [mayB, h, hasRd, hasRs1, hasRs2, regB, numB, *]
theorem may_jump {op rd imm : Int} (h : form op = 2) (a : rg rd) (h2 : imm % 2 = 0) (h0 : -1048576 ≤ imm) (h1 : imm < 1048576) : mayB op rd 0 0 imm = true := by
  obtain ⟨a0, a1⟩ := a
  simp [mayB, h, hasRd, hasRs1, hasRs2, regB, numB, sgn21n imm h0 h1, *]
theorem may_branch {op rs1 rs2 imm : Int} (h : form op = 3) (a : rg rs1) (b : rg rs2) (h2 : imm % 2 = 0) (h0 : -4096 ≤ imm) (h1 : imm < 4096) : mayB op 0 rs1 rs2 imm = true := by
  obtain ⟨a0, a1⟩ := a; obtain ⟨b0, b1⟩ := b
  simp [mayB, h, hasRd, hasRs1, hasRs2, regB, numB, sgn13n imm h0 h1, *]
theorem may_bare {op : Int} (h : form op = 9) : mayB op 0 0 0 0 = true := by
  simp [mayB, h, hasRd, hasRs1, hasRs2, regB, numB]

theorem rg0 : rg 0 := ⟨by decide, by decide⟩
theorem rg1 : rg 1 := ⟨by decide, by decide⟩
theorem rg2 : rg 2 := ⟨by decide, by decide⟩
theorem rg_rd (x : Int) : rg (sRd x) := fld_bd x 7 5
theorem rg_rs2 (x : Int) : rg (sRs2 x) := fld_bd x 2 5
theorem rg_r1 (x : Int) : rg (sR1 x) := by have : 0 ≤ fld x 7 3 ∧ fld x 7 3 < 8 := fld_bd x 7 3; unfold rg sR1; omega
theorem rg_r2 (x : Int) : rg (sR2 x) := by have : 0 ≤ fld x 2 3 ∧ fld x 2 3 < 8 := fld_bd x 2 3; unfold rg sR2; omega
theorem bdV (x : Int) : 0 ≤ sV x ∧ sV x < 128 := by have h := bitsV_bd x lV; have e : (2 : Int) ^ lV.length = 32 := by decide
                                                    rw [e] at h; unfold sV; omega
theorem bdU (x : Int) : 0 ≤ sU x ∧ sU x < 1024 := by have h := bitsV_bd x lU; have e : (2 : Int) ^ lU.length = 256 := by decide
                                                     rw [e] at h; unfold sU; omega
theorem bdL (x : Int) : 0 ≤ sL x ∧ sL x < 256 := by have h := bitsV_bd x lL; have e : (2 : Int) ^ lL.length = 64 := by decide
                                                    rw [e] at h; unfold sL; omega
theorem bdS (x : Int) : 0 ≤ sS x ∧ sS x < 256 := by have h := bitsV_bd x lS; have e : (2 : Int) ^ lS.length = 64 := by decide
                                                    rw [e] at h; unfold sS; omega
theorem bdJ (x : Int) : -2048 ≤ sJ x ∧ sJ x < 2048 ∧ sJ x % 2 = 0 := by
  have e : (2 : Int) ^ 12 = 4096 := by decide
  unfold sJ sgn; rw [e]; generalize bitsV x lJ = v; split <;> omega
theorem bdB (x : Int) : -256 ≤ sB x ∧ sB x < 256 ∧ sB x % 2 = 0 := by
  have e : (2 : Int) ^ 9 = 512 := by decide
  unfold sB sgn; rw [e]; generalize bitsV x lB = v; split <;> omega
theorem bdA (x : Int) : -512 ≤ sA x ∧ sA x < 512 ∧ sA x % 16 = 0 := by
  have e : (2 : Int) ^ 10 = 1024 := by decide
  unfold sA sgn; rw [e]; generalize bitsV x lA = v; split <;> omega
theorem bdOne (x : Int) : 0 ≤ sOne x ∧ sOne x < 2 := fld_bd x 12 1
/-- nothing, or what may be -/
def I5.ok (i : I5) : Prop := i = .none ∨ (0 < i.op ∧ i.may)
theorem ok_none : I5.none.ok := .inl rfl
theorem ok_of {op rd rs1 rs2 imm : Int} (h : 0 < op) (m : mayB op rd rs1 rs2 imm = true) : I5.ok ⟨op, rd, rs1, rs2, imm⟩ := .inr ⟨h, m⟩
theorem ok_q0 (x : Int) : (q0 x).ok := by
  have u := bdU x; have v := bdV x
  unfold q0
  repeat' split
  all_goals first
    | exact ok_none
    | exact ok_of (by decide) (may_number (by decide) (rg_r2 x) rg2 (by omega) (by omega))
    | exact ok_of (by decide) (may_load (by decide) (rg_r2 x) (rg_r1 x) (by omega) (by omega))
    | exact ok_of (by decide) (may_store (by decide) (rg_r1 x) (rg_r2 x) (by omega) (by omega))
theorem ok_upper (x : Int) : (qUpper x).ok := by
  have n := sN6_bd x; have a := bdA x
  unfold qUpper
  repeat' split
  all_goals first
    | exact ok_none
    | exact ok_of (by decide) (may_number (by decide) rg2 rg2 (by omega) (by omega))
    | exact ok_of (by decide) (may_upper (by decide) (rg_rd x) (by show sN6 x * 4096 % 4096 = 0; omega))
theorem ok_sums (x : Int) : (qSums x).ok := by
  have n := sN6_bd x; have s := rg_rs2 x
  unfold qSums
  repeat' split
  all_goals first
    | exact ok_none
    | exact ok_of (by decide) (may_number (by decide) (rg_r1 x) (rg_r1 x) (by omega) (by omega))
    | exact ok_of (by decide) (may_shift (by decide) (rg_r1 x) (rg_r1 x) s.1 s.2)
    | exact ok_of (by decide) (may_register (by decide) (rg_r1 x) (rg_r1 x) (rg_r2 x))
theorem ok_q1 (x : Int) : (q1 x).ok := by
  have n := sN6_bd x; have j := bdJ x; have b := bdB x
  unfold q1
  repeat' split
  all_goals first
    | exact ok_upper x
    | exact ok_sums x
    | exact ok_of (by decide) (may_number (by decide) (rg_rd x) (rg_rd x) (by omega) (by omega))
    | exact ok_of (by decide) (may_number (by decide) (rg_rd x) rg0 (by omega) (by omega))
    | exact ok_of (by decide) (may_jump (by decide) rg1 j.2.2 (by omega) (by omega))
    | exact ok_of (by decide) (may_jump (by decide) rg0 j.2.2 (by omega) (by omega))
    | exact ok_of (by decide) (may_branch (by decide) (rg_r1 x) rg0 b.2.2 (by omega) (by omega))
theorem ok_moves (x : Int) : (qMoves x).ok := by
  have o := bdOne x
  have ro : rg (sOne x) := ⟨o.1, by omega⟩
  have ri : rg (if sOne x = 0 then 0 else sRd x) := by split; exact rg0; exact rg_rd x
  unfold qMoves
  repeat' (first | exact ok_none | exact ok_of (by decide) (may_register (by decide) (rg_rd x) ri (rg_rs2 x)) | exact ok_of (by decide) (may_load (by decide) ro (rg_rd x) (by decide) (by decide)) | exact ok_of (by decide) (may_bare (by decide)) | split)
theorem ok_q2 (x : Int) : (q2 x).ok := by
  have s := rg_rs2 x; have l := bdL x; have v := bdS x
  unfold q2
  repeat' split
  all_goals first
    | exact ok_none
    | exact ok_moves x
    | exact ok_of (by decide) (may_shift (by decide) (rg_rd x) (rg_rd x) s.1 s.2)
    | exact ok_of (by decide) (may_load (by decide) (rg_rd x) rg2 (by omega) (by omega))
    | exact ok_of (by decide) (may_store (by decide) rg2 (rg_rs2 x) (by omega) (by omega))
theorem ok_all (x : Int) : (qAll x).ok := by
  unfold qAll
  repeat' split
  · exact ok_q0 x
  · exact ok_q1 x
  · exact ok_q2 x
  · exact ok_none
end Go.Proofs.Ytfecjdchgckjhaa.P
