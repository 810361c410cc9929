/- The table of package press, in plain terms; what an instruction must be to fit a row. No program is in sight. -/
import Derived.Test.YtfecjdchgckjhaaSlimMay
namespace Go.Proofs.Ytfecjdchgckjhaa.P
set_option linter.unusedVariables false
set_option linter.unusedSimpArgs false
open Go Go.RowKit

/-- a row: its name, its operation, what is fixed, its registers' kinds, the bits of its sign, its unit, the least and the greatest number, whether 0 may be, its bits' letters -/
structure PR where
  nm : ByteArray
  op : Int
  m : Int
  rd : Int
  r1 : Int
  r2 : Int
  sg : Int
  un : Int
  lo : Int
  hi : Int
  no : Bool
  bt : ByteArray
def prL : List PR := [⟨⟨#[99, 46, 97, 100, 100, 105, 52, 115, 112, 110]⟩, 19, 0, 7, 9, 0, 0, 4, 4, 1020, false, ⟨#[105, 104, 103, 102, 107, 106, 100, 101]⟩⟩,
  ⟨⟨#[99, 46, 108, 119]⟩, 13, 16384, 7, 6, 0, 0, 4, 0, 124, true, ⟨#[100, 107, 106, 105, 101]⟩⟩,
  ⟨⟨#[99, 46, 115, 119]⟩, 18, 49152, 0, 6, 7, 0, 4, 0, 124, true, ⟨#[100, 107, 106, 105, 101]⟩⟩,
  ⟨⟨#[99, 46, 110, 111, 112]⟩, 19, 1, 0, 0, 0, 0, 1, 0, 0, true, ⟨#[]⟩⟩,
  ⟨⟨#[99, 46, 97, 100, 100, 105]⟩, 19, 1, 2, 3, 0, 6, 1, -32, 31, false, ⟨#[107, 101, 100, 99, 98, 97]⟩⟩,
  ⟨⟨#[99, 46, 106, 97, 108]⟩, 3, 8193, 8, 0, 0, 12, 2, -2048, 2046, true, ⟨#[107, 103, 105, 104, 101, 102, 97, 106, 100, 99, 98]⟩⟩,
  ⟨⟨#[99, 46, 108, 105]⟩, 19, 16385, 2, 0, 0, 6, 1, -32, 31, true, ⟨#[107, 101, 100, 99, 98, 97]⟩⟩,
  ⟨⟨#[99, 46, 97, 100, 100, 105, 49, 54, 115, 112]⟩, 19, 24833, 9, 9, 0, 10, 16, -512, 496, false, ⟨#[107, 99, 98, 100, 97, 101]⟩⟩,
  ⟨⟨#[99, 46, 108, 117, 105]⟩, 1, 24577, 10, 0, 0, 18, 4096, -131072, 126976, false, ⟨#[107, 101, 100, 99, 98, 97]⟩⟩,
  ⟨⟨#[99, 46, 115, 114, 108, 105]⟩, 26, 32769, 6, 3, 0, 0, 1, 1, 31, false, ⟨#[101, 100, 99, 98, 97]⟩⟩,
  ⟨⟨#[99, 46, 115, 114, 97, 105]⟩, 27, 33793, 6, 3, 0, 0, 1, 1, 31, false, ⟨#[101, 100, 99, 98, 97]⟩⟩,
  ⟨⟨#[99, 46, 97, 110, 100, 105]⟩, 24, 34817, 6, 3, 0, 6, 1, -32, 31, true, ⟨#[107, 101, 100, 99, 98, 97]⟩⟩,
  ⟨⟨#[99, 46, 115, 117, 98]⟩, 29, 35841, 6, 3, 7, 0, 1, 0, 0, true, ⟨#[]⟩⟩,
  ⟨⟨#[99, 46, 120, 111, 114]⟩, 33, 35873, 6, 3, 7, 0, 1, 0, 0, true, ⟨#[]⟩⟩,
  ⟨⟨#[99, 46, 111, 114]⟩, 36, 35905, 6, 3, 7, 0, 1, 0, 0, true, ⟨#[]⟩⟩,
  ⟨⟨#[99, 46, 97, 110, 100]⟩, 37, 35937, 6, 3, 7, 0, 1, 0, 0, true, ⟨#[]⟩⟩,
  ⟨⟨#[99, 46, 106]⟩, 3, 40961, 0, 0, 0, 12, 2, -2048, 2046, true, ⟨#[107, 103, 105, 104, 101, 102, 97, 106, 100, 99, 98]⟩⟩,
  ⟨⟨#[99, 46, 98, 101, 113, 122]⟩, 5, 49153, 0, 6, 0, 9, 2, -256, 254, true, ⟨#[107, 101, 100, 97, 106, 105, 99, 98]⟩⟩,
  ⟨⟨#[99, 46, 98, 110, 101, 122]⟩, 6, 57345, 0, 6, 0, 9, 2, -256, 254, true, ⟨#[107, 101, 100, 97, 106, 105, 99, 98]⟩⟩,
  ⟨⟨#[99, 46, 115, 108, 108, 105]⟩, 25, 2, 2, 3, 0, 0, 1, 1, 31, false, ⟨#[101, 100, 99, 98, 97]⟩⟩,
  ⟨⟨#[99, 46, 108, 119, 115, 112]⟩, 13, 16386, 2, 9, 0, 0, 4, 0, 252, true, ⟨#[98, 97, 107, 101, 100, 99]⟩⟩,
  ⟨⟨#[99, 46, 106, 114]⟩, 4, 32770, 0, 2, 0, 0, 1, 0, 0, true, ⟨#[]⟩⟩,
  ⟨⟨#[99, 46, 109, 118]⟩, 28, 32770, 2, 0, 5, 0, 1, 0, 0, true, ⟨#[]⟩⟩,
  ⟨⟨#[99, 46, 101, 98, 114, 101, 97, 107]⟩, 40, 36866, 0, 0, 0, 0, 1, 0, 0, true, ⟨#[]⟩⟩,
  ⟨⟨#[99, 46, 106, 97, 108, 114]⟩, 4, 36866, 8, 2, 0, 0, 1, 0, 0, true, ⟨#[]⟩⟩,
  ⟨⟨#[99, 46, 97, 100, 100]⟩, 28, 36866, 2, 3, 5, 0, 1, 0, 0, true, ⟨#[]⟩⟩,
  ⟨⟨#[99, 46, 115, 119, 115, 112]⟩, 18, 49154, 0, 9, 4, 0, 4, 0, 252, true, ⟨#[103, 102, 107, 106, 105, 104]⟩⟩]
theorem prL_length : prL.length = 27 := rfl
def prZ : PR := ⟨⟨#[]⟩, 0, 0, 0, 0, 0, 0, 0, 0, 0, false, ⟨#[]⟩⟩
def prAt (k : Nat) : PR := prL.getD k prZ
/-- the cells of a row -/
def PR.cells (r : PR) : List Value := [.string r.nm, .int .i64 r.op, .int .u16 r.m, .int .i64 r.rd, .int .i64 r.r1, .int .i64 r.r2, .int .i64 r.sg, .int .i64 r.un, .int .i32 r.lo, .int .i32 r.hi, .bool r.no, .string r.bt]
def prFlat (L : List PR) : List Value := L.flatMap PR.cells
theorem prFlat_at (L : List PR) (k : Nat) (h : k < L.length) (j : Nat) (hj : j < 12) : (prFlat L)[k * 12 + j]? = (L.getD k prZ).cells[j]? := by
  induction L generalizing k with
  | nil => simp at h
  | cons r t ih =>
    have e : prFlat (r :: t) = r.cells ++ prFlat t := rfl
    have hl : r.cells.length = 12 := rfl
    rw [e]
    cases k with
    | zero => rw [List.getElem?_append_left (by rw [hl]; omega)]; simp
    | succ k =>
      rw [List.getElem?_append_right (by rw [hl]; omega), hl, show (k + 1) * 12 + j - 12 = k * 12 + j by omega]
      exact ih k (by simpa using h)
/-- may a register of a kind be there? -/
def regK (kind n rd : Int) : Bool :=
  if kind = 10 then (!(n == 2)) && !(n == 0) else if kind = 2 ∨ kind = 5 then !(n == 0) else if kind = 6 ∨ kind = 7 then decide (8 ≤ n) && decide (n < 16) else if kind = 3 then n == rd
  else if kind = 8 then n == 1 else if kind = 9 then n == 2 else if kind = 0 then n == 0 else true
/-- is an instruction one of a row's? -/
def fitR (r : PR) (op rd rs1 rs2 imm : Int) : Bool :=
  mayB op rd rs1 rs2 imm && (op == r.op) && regK r.rd rd 0 && regK r.r1 rs1 rd && regK r.r2 rs2 rd && decide (r.lo ≤ imm) && decide (imm ≤ r.hi) && (imm % r.un == 0) && (r.no || !(imm == 0))
/-- a register where a row's kind has it -/
def laidK (kind n : Int) : Int :=
  if kind = 1 ∨ kind = 2 ∨ kind = 10 then n * 128 else if kind = 4 ∨ kind = 5 then n * 4 else if kind = 6 then (n - 8) * 128 else if kind = 7 then (n - 8) * 4 else 0
/-- the bits of a number, each where its letter says -/
def putB (v : Int) (h : Int) : List UInt8 → Int
  | [] => h
  | c :: t => putB v (bits .or .u16 h (fld v t.length 1 * 2 ^ (c.toNat - 95))) t
/-- an instruction's parcel, by a row -/
def putR (r : PR) (rd rs1 rs2 imm : Int) : Int :=
  putB (imm % 4294967296 / r.un) (bits .or .u16 (bits .or .u16 (bits .or .u16 r.m (laidK r.rd rd)) (laidK r.r1 rs1)) (laidK r.r2 rs2)) r.bt.data.toList
/-- the register that a parcel has where a row's kind has it -/
def readK (kind h rd : Int) : Int :=
  if kind = 1 ∨ kind = 2 ∨ kind = 10 then fld h 7 5 else if kind = 4 ∨ kind = 5 then fld h 2 5 else if kind = 6 then 8 + fld h 7 3 else if kind = 7 then 8 + fld h 2 3
  else if kind = 3 then rd else if kind = 8 then 1 else if kind = 9 then 2 else 0
def gotB (h : Int) (v : Int) : List UInt8 → Int
  | [] => v
  | c :: t => gotB h (bits .or .u32 (v * 2 % 4294967296) (fld h (c.toNat - 95) 1)) t
def gotV (r : PR) (h : Int) : Int := gotB h 0 r.bt.data.toList * r.un % 4294967296
/-- the instruction that a parcel would be of a row -/
def gRdR (r : PR) (h : Int) : Int := readK r.rd h 0
def gR1R (r : PR) (h : Int) : Int := readK r.r1 h (gRdR r h)
def gR2R (r : PR) (h : Int) : Int := readK r.r2 h (gRdR r h)
def gImR (r : PR) (h : Int) : Int := if 0 < r.sg then sgn (gotV r h) r.sg.toNat else sgn (gotV r h) 32
end Go.Proofs.Ytfecjdchgckjhaa.P
