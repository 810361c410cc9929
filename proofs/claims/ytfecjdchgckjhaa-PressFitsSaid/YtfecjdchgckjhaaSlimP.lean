/- What a parcel stands for, in plain terms: by its bits. No program is in sight. -/
import Derived.Test.YtfecjdchgckjhaaBits
import Derived.Test.YtfecjdchgckjhaaInsP
namespace Go.Proofs.Ytfecjdchgckjhaa.P
set_option linter.unusedVariables false
open Go Go.RowKit

/-- an instruction: its operation, its registers, its number -/
structure I5 where
  op : Int
  rd : Int
  rs1 : Int
  rs2 : Int
  imm : Int
def I5.val (i : I5) : Value := .agg #[.int .i64 i.op, .int .i64 i.rd, .int .i64 i.rs1, .int .i64 i.rs2, .int .i32 i.imm]
def I5.none : I5 := ⟨0, 0, 0, 0, 0⟩

def lN6 : List Int := [12, 6, 5, 4, 3, 2]
def lJ : List Int := [12, 8, 10, 9, 6, 7, 2, 11, 5, 4, 3]
def lB : List Int := [12, 6, 5, 2, 11, 10, 4, 3]
def lV : List Int := [5, 12, 11, 10, 6]
def lU : List Int := [10, 9, 8, 7, 12, 11, 5, 6]
def lA : List Int := [12, 4, 3, 5, 2, 6]
def lL : List Int := [3, 2, 12, 6, 5, 4]
def lS : List Int := [8, 7, 12, 11, 10, 9]
def sN6 (x : Int) : Int := sgn (bitsV x lN6) 6
def sJ (x : Int) : Int := sgn (bitsV x lJ * 2) 12
def sB (x : Int) : Int := sgn (bitsV x lB * 2) 9
def sV (x : Int) : Int := bitsV x lV * 4
def sU (x : Int) : Int := bitsV x lU * 4
def sA (x : Int) : Int := sgn (bitsV x lA * 16) 10
def sL (x : Int) : Int := bitsV x lL * 4
def sS (x : Int) : Int := bitsV x lS * 4
def sRd (x : Int) : Int := fld x 7 5
def sRs2 (x : Int) : Int := fld x 2 5
def sR1 (x : Int) : Int := 8 + fld x 7 3
def sR2 (x : Int) : Int := 8 + fld x 2 3
def sF (x : Int) : Int := fld x 13 3
def sOne (x : Int) : Int := fld x 12 1

def q0 (x : Int) : I5 :=
  if sF x = 0 then (if sU x = 0 then .none else ⟨19, sR2 x, 2, 0, sU x⟩)
  else if sF x = 2 then ⟨13, sR2 x, sR1 x, 0, sV x⟩
  else if sF x = 6 then ⟨18, 0, sR1 x, sR2 x, sV x⟩ else .none
def qUpper (x : Int) : I5 :=
  if sN6 x = 0 then .none else if sRd x = 2 then ⟨19, 2, 2, 0, sA x⟩ else ⟨1, sRd x, 0, 0, sN6 x * 4096⟩
def qSums (x : Int) : I5 :=
  if fld x 10 2 = 2 then ⟨24, sR1 x, sR1 x, 0, sN6 x⟩
  else if sOne x = 1 then .none
  else if fld x 10 2 = 0 then ⟨26, sR1 x, sR1 x, 0, sRs2 x⟩
  else if fld x 10 2 = 1 then ⟨27, sR1 x, sR1 x, 0, sRs2 x⟩
  else ⟨if fld x 5 2 = 0 then 29 else if fld x 5 2 = 1 then 33 else if fld x 5 2 = 2 then 36 else 37, sR1 x, sR1 x, sR2 x, 0⟩
def q1 (x : Int) : I5 :=
  if sF x = 0 then ⟨19, sRd x, sRd x, 0, sN6 x⟩
  else if sF x = 1 then ⟨3, 1, 0, 0, sJ x⟩
  else if sF x = 2 then ⟨19, sRd x, 0, 0, sN6 x⟩
  else if sF x = 3 then qUpper x
  else if sF x = 4 then qSums x
  else if sF x = 5 then ⟨3, 0, 0, 0, sJ x⟩
  else if sF x = 6 then ⟨5, 0, sR1 x, 0, sB x⟩
  else ⟨6, 0, sR1 x, 0, sB x⟩
def qMoves (x : Int) : I5 :=
  if sRs2 x ≠ 0 then ⟨28, sRd x, if sOne x = 0 then 0 else sRd x, sRs2 x, 0⟩
  else if sRd x ≠ 0 then ⟨4, sOne x, sRd x, 0, 0⟩
  else if sOne x = 1 then ⟨40, 0, 0, 0, 0⟩ else .none
def q2 (x : Int) : I5 :=
  if sF x = 0 then (if sOne x = 0 then ⟨25, sRd x, sRd x, 0, sRs2 x⟩ else .none)
  else if sF x = 2 then (if sRd x = 0 then .none else ⟨13, sRd x, 2, 0, sL x⟩)
  else if sF x = 4 then qMoves x
  else if sF x = 6 then ⟨18, 0, 2, sRs2 x, sS x⟩ else .none
def qAll (x : Int) : I5 :=
  if fld x 0 2 = 0 then q0 x else if fld x 0 2 = 1 then q1 x else if fld x 0 2 = 2 then q2 x else .none

theorem fld_one (x : Int) (l : Nat) : fld x l 1 = bi x (l : Int) := by unfold bi fld; rw [if_pos (by omega)]; simp
theorem fld_bits (x : Int) (l n : Nat) : fld x l n = bitsV x (dn l n) := (bitsV_dn x l n).symm
theorem n6_joined (x : Int) : bitsV x lN6 = fld x 12 1 * 32 + fld x 2 5 := by
  have h := bitsV_append x (dn 12 1) (dn 2 5)
  rw [bitsV_dn, bitsV_dn] at h
  exact h
theorem lwsp_joined (x : Int) : bitsV x lL = fld x 2 2 * 16 + fld x 12 1 * 8 + fld x 4 3 := by
  have h := bitsV_append x (dn 2 2) (dn 12 1 ++ dn 4 3)
  have h2 := bitsV_append x (dn 12 1) (dn 4 3)
  rw [h2, bitsV_dn, bitsV_dn, bitsV_dn] at h
  have e : bitsV x lL = fld x 2 2 * 2 ^ 4 + (fld x 12 1 * 2 ^ 3 + fld x 4 3) := h
  rw [e]; omega
theorem swsp_joined (x : Int) : bitsV x lS = fld x 7 2 * 16 + fld x 9 4 := by
  have h := bitsV_append x (dn 7 2) (dn 9 4)
  rw [bitsV_dn, bitsV_dn] at h
  exact h
theorem sN6_bd (x : Int) : -32 ≤ sN6 x ∧ sN6 x < 32 := by
  unfold sN6
  have e : (2 : Int) ^ 6 = 64 := by decide
  unfold sgn; rw [e]
  generalize bitsV x lN6 = v
  split <;> omega
theorem i64_or (a b : Int) (h1 : 0 ≤ a) (h2 : a < 4294967296) (h3 : 0 ≤ b) (h4 : b < 4294967296) : bits .or .i64 a b = ((a.toNat ||| b.toNat : Nat) : Int) := by
  obtain ⟨A, rfl⟩ := Int.eq_ofNat_of_zero_le h1
  obtain ⟨B, rfl⟩ := Int.eq_ofNat_of_zero_le h3
  have hx : A ||| B < 2 ^ 32 := Nat.or_lt_two_pow (by omega) (by omega)
  have e : (2 : Nat) ^ 32 = 4294967296 := by decide
  rw [e] at hx
  show IntKind.i64.wrap ((BitVec.ofInt 64 (A : Int) ||| BitVec.ofInt 64 (B : Int)).toNat : Int) = _
  rw [BitVec.toNat_or, ofInt_u64 A (by omega), ofInt_u64 B (by omega)]
  show IntKind.i64.wrap ((A ||| B : Nat) : Int) = ((A ||| B : Nat) : Int)
  generalize A ||| B = C at *
  simp only [IntKind.wrap, IntKind.bits, IntKind.signed]
  simp
  omega
theorem or_join64 (hi lo : Int) (K : Nat) (l0 : 0 ≤ lo) (l1 : lo < 2 ^ K) (h0 : 0 ≤ hi) (h1 : lo + hi * 2 ^ K < 4294967296) : bits .or .i64 (hi * 2 ^ K) lo = hi * 2 ^ K + lo := by
  have hp := p2pos K
  have hm : 0 ≤ hi * 2 ^ K := Int.mul_nonneg h0 (Int.le_of_lt hp)
  rw [i64_or _ lo hm (by omega) l0 (by omega)]
  have := or_join' lo hi K l0 l1 h0 h1
  rw [u32_or _ lo hm (by omega) l0 (by omega)] at this
  exact this
end Go.Proofs.Ytfecjdchgckjhaa.P
