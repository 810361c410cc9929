/- What a parcel stands for, in plain terms: by its bits. No program is in sight. What a parcel stands for may be. No program is in sight. -/
import Derived.Test.YtfecjdchgckjhaaWordP
namespace Go.Proofs.Ytfecjdchgckjhaa.P
set_option linter.unusedVariables false
open Go Go.RowKit

/-- an instruction: its operation, its registers, its number -/
structure I5 where
  op : Int
  rd : Int
  rs1 : Int
  rs2 : Int
  imm : Int
def I5.val (i : I5) : Value := .agg #[.int .i64 i.op, .int .i64 i.rd, .int .i64 i.rs1, .int .i64 i.rs2, .int .i32 i.imm]
def I5.none : I5 := ⟨0, 0, 0, 0, 0⟩

def lN6 : List Int := [12, 6, 5, 4, 3, 2]
def lJ : List Int := [12, 8, 10, 9, 6, 7, 2, 11, 5, 4, 3]
def lB : List Int := [12, 6, 5, 2, 11, 10, 4, 3]
def lV : List Int := [5, 12, 11, 10, 6]
def lU : List Int := [10, 9, 8, 7, 12, 11, 5, 6]
def lA : List Int := [12, 4, 3, 5, 2, 6]
def lL : List Int := [3, 2, 12, 6, 5, 4]
def lS : List Int := [8, 7, 12, 11, 10, 9]
def sN6 (x : Int) : Int := sgn (bitsV x lN6) 6
def sJ (x : Int) : Int := sgn (bitsV x lJ * 2) 12
def sB (x : Int) : Int := sgn (bitsV x lB * 2) 9
def sV (x : Int) : Int := bitsV x lV * 4
def sU (x : Int) : Int := bitsV x lU * 4
def sA (x : Int) : Int := sgn (bitsV x lA * 16) 10
def sL (x : Int) : Int := bitsV x lL * 4
def sS (x : Int) : Int := bitsV x lS * 4
def sRd (x : Int) : Int := fld x 7 5
def sRs2 (x : Int) : Int := fld x 2 5
def sR1 (x : Int) : Int := 8 + fld x 7 3
def sR2 (x : Int) : Int := 8 + fld x 2 3
def sF (x : Int) : Int := fld x 13 3
def sOne (x : Int) : Int := fld x 12 1

def q0 (x : Int) : I5 :=
  if sF x = 0 then (if sU x = 0 then .none else ⟨19, sR2 x, 2, 0, sU x⟩)
  else if sF x = 2 then ⟨13, sR2 x, sR1 x, 0, sV x⟩
  else if sF x = 6 then ⟨18, 0, sR1 x, sR2 x, sV x⟩ else .none
def qUpper (x : Int) : I5 :=
  if sN6 x = 0 then .none else if sRd x = 2 then ⟨19, 2, 2, 0, sA x⟩ else ⟨1, sRd x, 0, 0, sN6 x * 4096⟩
def qSums (x : Int) : I5 :=
  if fld x 10 2 = 2 then ⟨24, sR1 x, sR1 x, 0, sN6 x⟩
  else if sOne x = 1 then .none
  else if fld x 10 2 = 0 then ⟨26, sR1 x, sR1 x, 0, sRs2 x⟩
  else if fld x 10 2 = 1 then ⟨27, sR1 x, sR1 x, 0, sRs2 x⟩
  else ⟨if fld x 5 2 = 0 then 29 else if fld x 5 2 = 1 then 33 else if fld x 5 2 = 2 then 36 else 37, sR1 x, sR1 x, sR2 x, 0⟩
def q1 (x : Int) : I5 :=
  if sF x = 0 then ⟨19, sRd x, sRd x, 0, sN6 x⟩
  else if sF x = 1 then ⟨3, 1, 0, 0, sJ x⟩
  else if sF x = 2 then ⟨19, sRd x, 0, 0, sN6 x⟩
  else if sF x = 3 then qUpper x
  else if sF x = 4 then qSums x
  else if sF x = 5 then ⟨3, 0, 0, 0, sJ x⟩
  else if sF x = 6 then ⟨5, 0, sR1 x, 0, sB x⟩
  else ⟨6, 0, sR1 x, 0, sB x⟩
def qMoves (x : Int) : I5 :=
  if sRs2 x ≠ 0 then ⟨28, sRd x, if sOne x = 0 then 0 else sRd x, sRs2 x, 0⟩
  else if sRd x ≠ 0 then ⟨4, sOne x, sRd x, 0, 0⟩
  else if sOne x = 1 then ⟨40, 0, 0, 0, 0⟩ else .none
def q2 (x : Int) : I5 :=
  if sF x = 0 then (if sOne x = 0 then ⟨25, sRd x, sRd x, 0, sRs2 x⟩ else .none)
  else if sF x = 2 then (if sRd x = 0 then .none else ⟨13, sRd x, 2, 0, sL x⟩)
  else if sF x = 4 then qMoves x
  else if sF x = 6 then ⟨18, 0, 2, sRs2 x, sS x⟩ else .none
def qAll (x : Int) : I5 :=
  if fld x 0 2 = 0 then q0 x else if fld x 0 2 = 1 then q1 x else if fld x 0 2 = 2 then q2 x else .none

theorem fld_one (x : Int) (l : Nat) : fld x l 1 = bi x (l : Int) := by unfold bi fld; rw [if_pos (by omega)]; simp
theorem fld_bits (x : Int) (l n : Nat) : fld x l n = bitsV x (dn l n) := (bitsV_dn x l n).symm
theorem n6_joined (x : Int) : bitsV x lN6 = fld x 12 1 * 32 + fld x 2 5 := by
  have h := bitsV_append x (dn 12 1) (dn 2 5)
  rw [bitsV_dn, bitsV_dn] at h
  exact h
theorem lwsp_joined (x : Int) : bitsV x lL = fld x 2 2 * 16 + fld x 12 1 * 8 + fld x 4 3 := by
  have h := bitsV_append x (dn 2 2) (dn 12 1 ++ dn 4 3)
  have h2 := bitsV_append x (dn 12 1) (dn 4 3)
  rw [h2, bitsV_dn, bitsV_dn, bitsV_dn] at h
  have e : bitsV x lL = fld x 2 2 * 2 ^ 4 + (fld x 12 1 * 2 ^ 3 + fld x 4 3) := h
  rw [e]; omega
theorem swsp_joined (x : Int) : bitsV x lS = fld x 7 2 * 16 + fld x 9 4 := by
  have h := bitsV_append x (dn 7 2) (dn 9 4)
  rw [bitsV_dn, bitsV_dn] at h
  exact h
theorem sN6_bd (x : Int) : -32 ≤ sN6 x ∧ sN6 x < 32 := by
  unfold sN6
  have e : (2 : Int) ^ 6 = 64 := by decide
  unfold sgn; rw [e]
  generalize bitsV x lN6 = v
  split <;> omega
theorem i64_or (a b : Int) (h1 : 0 ≤ a) (h2 : a < 4294967296) (h3 : 0 ≤ b) (h4 : b < 4294967296) : bits .or .i64 a b = ((a.toNat ||| b.toNat : Nat) : Int) := by
  obtain ⟨A, rfl⟩ := Int.eq_ofNat_of_zero_le h1
  obtain ⟨B, rfl⟩ := Int.eq_ofNat_of_zero_le h3
  have hx : A ||| B < 2 ^ 32 := Nat.or_lt_two_pow (by omega) (by omega)
  have e : (2 : Nat) ^ 32 = 4294967296 := by decide
  rw [e] at hx
  show IntKind.i64.wrap ((BitVec.ofInt 64 (A : Int) ||| BitVec.ofInt 64 (B : Int)).toNat : Int) = _
  rw [BitVec.toNat_or, ofInt_u64 A (by omega), ofInt_u64 B (by omega)]
  show IntKind.i64.wrap ((A ||| B : Nat) : Int) = ((A ||| B : Nat) : Int)
  generalize A ||| B = C at *
  simp only [IntKind.wrap, IntKind.bits, IntKind.signed]
  simp
  omega
theorem or_join64 (hi lo : Int) (K : Nat) (l0 : 0 ≤ lo) (l1 : lo < 2 ^ K) (h0 : 0 ≤ hi) (h1 : lo + hi * 2 ^ K < 4294967296) : bits .or .i64 (hi * 2 ^ K) lo = hi * 2 ^ K + lo := by
  have hp := p2pos K
  have hm : 0 ≤ hi * 2 ^ K := Int.mul_nonneg h0 (Int.le_of_lt hp)
  rw [i64_or _ lo hm (by omega) l0 (by omega)]
  have := or_join' lo hi K l0 l1 h0 h1
  rw [u32_or _ lo hm (by omega) l0 (by omega)] at this
  exact this
end Go.Proofs.Ytfecjdchgckjhaa.P

namespace Go.Proofs.Ytfecjdchgckjhaa.P
set_option linter.unusedVariables false
set_option linter.unusedSimpArgs false
open Go Go.RowKit

def I5.may (i : I5) : Prop := mayB i.op i.rd i.rs1 i.rs2 i.imm = true
theorem sgn12n (v : Int) (h0 : -2048 ≤ v) (h1 : v < 2048) : sgn (v % 4294967296) 12 = v := by
  have e : (2 : Int) ^ 12 = 4096 := by decide
  unfold sgn; rw [e]; split <;> omega
theorem sgn13n (v : Int) (h0 : -4096 ≤ v) (h1 : v < 4096) : sgn (v % 4294967296) 13 = v := by
  have e : (2 : Int) ^ 13 = 8192 := by decide
  unfold sgn; rw [e]; split <;> omega
theorem sgn21n (v : Int) (h0 : -1048576 ≤ v) (h1 : v < 1048576) : sgn (v % 4294967296) 21 = v := by
  have e : (2 : Int) ^ 21 = 2097152 := by decide
  unfold sgn; rw [e]; split <;> omega
/-- a register is there -/
def rg (n : Int) : Prop := 0 ≤ n ∧ n < 32
theorem may_number {op rd rs1 imm : Int} (h : form op = 6) (a : rg rd) (b : rg rs1) (h0 : -2048 ≤ imm) (h1 : imm < 2048) : mayB op rd rs1 0 imm = true := by
  obtain ⟨a0, a1⟩ := a; obtain ⟨b0, b1⟩ := b
  simp [mayB, h, hasRd, hasRs1, hasRs2, regB, numB, sgn12n imm h0 h1, *]
theorem may_load {op rd rs1 imm : Int} (h : form op = 4) (a : rg rd) (b : rg rs1) (h0 : -2048 ≤ imm) (h1 : imm < 2048) : mayB op rd rs1 0 imm = true := by
  obtain ⟨a0, a1⟩ := a; obtain ⟨b0, b1⟩ := b
  simp [mayB, h, hasRd, hasRs1, hasRs2, regB, numB, sgn12n imm h0 h1, *]
theorem may_store {op rs1 rs2 imm : Int} (h : form op = 5) (a : rg rs1) (b : rg rs2) (h0 : -2048 ≤ imm) (h1 : imm < 2048) : mayB op 0 rs1 rs2 imm = true := by
  obtain ⟨a0, a1⟩ := a; obtain ⟨b0, b1⟩ := b
  simp [mayB, h, hasRd, hasRs1, hasRs2, regB, numB, sgn12n imm h0 h1, *]
theorem may_shift {op rd rs1 imm : Int} (h : form op = 7) (a : rg rd) (b : rg rs1) (h0 : 0 ≤ imm) (h1 : imm < 32) : mayB op rd rs1 0 imm = true := by
  obtain ⟨a0, a1⟩ := a; obtain ⟨b0, b1⟩ := b
  simp [mayB, h, hasRd, hasRs1, hasRs2, regB, numB, *]
theorem may_register {op rd rs1 rs2 : Int} (h : form op = 8) (a : rg rd) (b : rg rs1) (c : rg rs2) : mayB op rd rs1 rs2 0 = true := by
  obtain ⟨a0, a1⟩ := a; obtain ⟨b0, b1⟩ := b; obtain ⟨c0, c1⟩ := c
  simp [mayB, h, hasRd, hasRs1, hasRs2, regB, numB, *]
theorem may_upper {op rd imm : Int} (h : form op = 1) (a : rg rd) (h0 : imm % 4096 = 0) : mayB op rd 0 0 imm = true := by
  obtain ⟨a0, a1⟩ := a
  simp [mayB, h, hasRd, hasRs1, hasRs2, regB, numB, *]
theorem may_jump {op rd imm : Int} (h : form op = 2) (a : rg rd) (h2 : imm % 2 = 0) (h0 : -1048576 ≤ imm) (h1 : imm < 1048576) : mayB op rd 0 0 imm = true := by
  obtain ⟨a0, a1⟩ := a
  simp [mayB, h, hasRd, hasRs1, hasRs2, regB, numB, sgn21n imm h0 h1, *]
theorem may_branch {op rs1 rs2 imm : Int} (h : form op = 3) (a : rg rs1) (b : rg rs2) (h2 : imm % 2 = 0) (h0 : -4096 ≤ imm) (h1 : imm < 4096) : mayB op 0 rs1 rs2 imm = true := by
  obtain ⟨a0, a1⟩ := a; obtain ⟨b0, b1⟩ := b
  simp [mayB, h, hasRd, hasRs1, hasRs2, regB, numB, sgn13n imm h0 h1, *]
theorem may_bare {op : Int} (h : form op = 9) : mayB op 0 0 0 0 = true := by
  simp [mayB, h, hasRd, hasRs1, hasRs2, regB, numB]

theorem rg0 : rg 0 := ⟨by decide, by decide⟩
theorem rg1 : rg 1 := ⟨by decide, by decide⟩
theorem rg2 : rg 2 := ⟨by decide, by decide⟩
theorem rg_rd (x : Int) : rg (sRd x) := fld_bd x 7 5
theorem rg_rs2 (x : Int) : rg (sRs2 x) := fld_bd x 2 5
theorem rg_r1 (x : Int) : rg (sR1 x) := by have : 0 ≤ fld x 7 3 ∧ fld x 7 3 < 8 := fld_bd x 7 3; unfold rg sR1; omega
theorem rg_r2 (x : Int) : rg (sR2 x) := by have : 0 ≤ fld x 2 3 ∧ fld x 2 3 < 8 := fld_bd x 2 3; unfold rg sR2; omega
theorem bdV (x : Int) : 0 ≤ sV x ∧ sV x < 128 := by have h := bitsV_bd x lV; have e : (2 : Int) ^ lV.length = 32 := by decide
                                                    rw [e] at h; unfold sV; omega
theorem bdU (x : Int) : 0 ≤ sU x ∧ sU x < 1024 := by have h := bitsV_bd x lU; have e : (2 : Int) ^ lU.length = 256 := by decide
                                                     rw [e] at h; unfold sU; omega
theorem bdL (x : Int) : 0 ≤ sL x ∧ sL x < 256 := by have h := bitsV_bd x lL; have e : (2 : Int) ^ lL.length = 64 := by decide
                                                    rw [e] at h; unfold sL; omega
theorem bdS (x : Int) : 0 ≤ sS x ∧ sS x < 256 := by have h := bitsV_bd x lS; have e : (2 : Int) ^ lS.length = 64 := by decide
                                                    rw [e] at h; unfold sS; omega
theorem bdJ (x : Int) : -2048 ≤ sJ x ∧ sJ x < 2048 ∧ sJ x % 2 = 0 := by
  have e : (2 : Int) ^ 12 = 4096 := by decide
  unfold sJ sgn; rw [e]; generalize bitsV x lJ = v; split <;> omega
theorem bdB (x : Int) : -256 ≤ sB x ∧ sB x < 256 ∧ sB x % 2 = 0 := by
  have e : (2 : Int) ^ 9 = 512 := by decide
  unfold sB sgn; rw [e]; generalize bitsV x lB = v; split <;> omega
theorem bdA (x : Int) : -512 ≤ sA x ∧ sA x < 512 ∧ sA x % 16 = 0 := by
  have e : (2 : Int) ^ 10 = 1024 := by decide
  unfold sA sgn; rw [e]; generalize bitsV x lA = v; split <;> omega
theorem bdOne (x : Int) : 0 ≤ sOne x ∧ sOne x < 2 := fld_bd x 12 1
/-- nothing, or what may be -/
def I5.ok (i : I5) : Prop := i = .none ∨ (0 < i.op ∧ i.may)
theorem ok_none : I5.none.ok := .inl rfl
theorem ok_of {op rd rs1 rs2 imm : Int} (h : 0 < op) (m : mayB op rd rs1 rs2 imm = true) : I5.ok ⟨op, rd, rs1, rs2, imm⟩ := .inr ⟨h, m⟩
theorem ok_q0 (x : Int) : (q0 x).ok := by
  have u := bdU x; have v := bdV x
  unfold q0
  repeat' split
  all_goals first
    | exact ok_none
    | exact ok_of (by decide) (may_number (by decide) (rg_r2 x) rg2 (by omega) (by omega))
    | exact ok_of (by decide) (may_load (by decide) (rg_r2 x) (rg_r1 x) (by omega) (by omega))
    | exact ok_of (by decide) (may_store (by decide) (rg_r1 x) (rg_r2 x) (by omega) (by omega))
theorem ok_upper (x : Int) : (qUpper x).ok := by
  have n := sN6_bd x; have a := bdA x
  unfold qUpper
  repeat' split
  all_goals first
    | exact ok_none
    | exact ok_of (by decide) (may_number (by decide) rg2 rg2 (by omega) (by omega))
    | exact ok_of (by decide) (may_upper (by decide) (rg_rd x) (by show sN6 x * 4096 % 4096 = 0; omega))
theorem ok_sums (x : Int) : (qSums x).ok := by
  have n := sN6_bd x; have s := rg_rs2 x
  unfold qSums
  repeat' split
  all_goals first
    | exact ok_none
    | exact ok_of (by decide) (may_number (by decide) (rg_r1 x) (rg_r1 x) (by omega) (by omega))
    | exact ok_of (by decide) (may_shift (by decide) (rg_r1 x) (rg_r1 x) s.1 s.2)
    | exact ok_of (by decide) (may_register (by decide) (rg_r1 x) (rg_r1 x) (rg_r2 x))
theorem ok_q1 (x : Int) : (q1 x).ok := by
  have n := sN6_bd x; have j := bdJ x; have b := bdB x
  unfold q1
  repeat' split
  all_goals first
    | exact ok_upper x
    | exact ok_sums x
    | exact ok_of (by decide) (may_number (by decide) (rg_rd x) (rg_rd x) (by omega) (by omega))
    | exact ok_of (by decide) (may_number (by decide) (rg_rd x) rg0 (by omega) (by omega))
    | exact ok_of (by decide) (may_jump (by decide) rg1 j.2.2 (by omega) (by omega))
    | exact ok_of (by decide) (may_jump (by decide) rg0 j.2.2 (by omega) (by omega))
    | exact ok_of (by decide) (may_branch (by decide) (rg_r1 x) rg0 b.2.2 (by omega) (by omega))
theorem ok_moves (x : Int) : (qMoves x).ok := by
  have o := bdOne x
  have ro : rg (sOne x) := ⟨o.1, by omega⟩
  have ri : rg (if sOne x = 0 then 0 else sRd x) := by split; exact rg0; exact rg_rd x
  unfold qMoves
  repeat' (first | exact ok_none | exact ok_of (by decide) (may_register (by decide) (rg_rd x) ri (rg_rs2 x)) | exact ok_of (by decide) (may_load (by decide) ro (rg_rd x) (by decide) (by decide)) | exact ok_of (by decide) (may_bare (by decide)) | split)
theorem ok_q2 (x : Int) : (q2 x).ok := by
  have s := rg_rs2 x; have l := bdL x; have v := bdS x
  unfold q2
  repeat' split
  all_goals first
    | exact ok_none
    | exact ok_moves x
    | exact ok_of (by decide) (may_shift (by decide) (rg_rd x) (rg_rd x) s.1 s.2)
    | exact ok_of (by decide) (may_load (by decide) (rg_rd x) rg2 (by omega) (by omega))
    | exact ok_of (by decide) (may_store (by decide) rg2 (rg_rs2 x) (by omega) (by omega))
theorem ok_all (x : Int) : (qAll x).ok := by
  unfold qAll
  repeat' split
  · exact ok_q0 x
  · exact ok_q1 x
  · exact ok_q2 x
  · exact ok_none
end Go.Proofs.Ytfecjdchgckjhaa.P
