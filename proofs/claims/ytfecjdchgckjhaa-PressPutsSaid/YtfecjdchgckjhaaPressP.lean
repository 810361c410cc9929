/- The table of package press, in plain terms; what an instruction must be to fit a row. No program is in sight. What the reference lays into a parcel; by which diagram a parcel is expanded; what is asked of each parcel. No program is in sight. -/
import Derived.Test.YtfecjdchgckjhaaSlimP
namespace Go.Proofs.Ytfecjdchgckjhaa.P
set_option linter.unusedVariables false
set_option linter.unusedSimpArgs false
open Go Go.RowKit

/-- a row: its name, its operation, what is fixed, its registers' kinds, the bits of its sign, its unit, the least and the greatest number, whether 0 may be, its bits' letters -/
structure PR where
  nm : ByteArray
  op : Int
  m : Int
  rd : Int
  r1 : Int
  r2 : Int
  sg : Int
  un : Int
  lo : Int
  hi : Int
  no : Bool
  bt : ByteArray
def prL : List PR := [⟨⟨#[99, 46, 97, 100, 100, 105, 52, 115, 112, 110]⟩, 19, 0, 7, 9, 0, 0, 4, 4, 1020, false, ⟨#[105, 104, 103, 102, 107, 106, 100, 101]⟩⟩,
  ⟨⟨#[99, 46, 108, 119]⟩, 13, 16384, 7, 6, 0, 0, 4, 0, 124, true, ⟨#[100, 107, 106, 105, 101]⟩⟩,
  ⟨⟨#[99, 46, 115, 119]⟩, 18, 49152, 0, 6, 7, 0, 4, 0, 124, true, ⟨#[100, 107, 106, 105, 101]⟩⟩,
  ⟨⟨#[99, 46, 110, 111, 112]⟩, 19, 1, 0, 0, 0, 0, 1, 0, 0, true, ⟨#[]⟩⟩,
  ⟨⟨#[99, 46, 97, 100, 100, 105]⟩, 19, 1, 2, 3, 0, 6, 1, -32, 31, false, ⟨#[107, 101, 100, 99, 98, 97]⟩⟩,
  ⟨⟨#[99, 46, 106, 97, 108]⟩, 3, 8193, 8, 0, 0, 12, 2, -2048, 2046, true, ⟨#[107, 103, 105, 104, 101, 102, 97, 106, 100, 99, 98]⟩⟩,
  ⟨⟨#[99, 46, 108, 105]⟩, 19, 16385, 2, 0, 0, 6, 1, -32, 31, true, ⟨#[107, 101, 100, 99, 98, 97]⟩⟩,
  ⟨⟨#[99, 46, 97, 100, 100, 105, 49, 54, 115, 112]⟩, 19, 24833, 9, 9, 0, 10, 16, -512, 496, false, ⟨#[107, 99, 98, 100, 97, 101]⟩⟩,
  ⟨⟨#[99, 46, 108, 117, 105]⟩, 1, 24577, 10, 0, 0, 18, 4096, -131072, 126976, false, ⟨#[107, 101, 100, 99, 98, 97]⟩⟩,
  ⟨⟨#[99, 46, 115, 114, 108, 105]⟩, 26, 32769, 6, 3, 0, 0, 1, 1, 31, false, ⟨#[101, 100, 99, 98, 97]⟩⟩,
  ⟨⟨#[99, 46, 115, 114, 97, 105]⟩, 27, 33793, 6, 3, 0, 0, 1, 1, 31, false, ⟨#[101, 100, 99, 98, 97]⟩⟩,
  ⟨⟨#[99, 46, 97, 110, 100, 105]⟩, 24, 34817, 6, 3, 0, 6, 1, -32, 31, true, ⟨#[107, 101, 100, 99, 98, 97]⟩⟩,
  ⟨⟨#[99, 46, 115, 117, 98]⟩, 29, 35841, 6, 3, 7, 0, 1, 0, 0, true, ⟨#[]⟩⟩,
  ⟨⟨#[99, 46, 120, 111, 114]⟩, 33, 35873, 6, 3, 7, 0, 1, 0, 0, true, ⟨#[]⟩⟩,
  ⟨⟨#[99, 46, 111, 114]⟩, 36, 35905, 6, 3, 7, 0, 1, 0, 0, true, ⟨#[]⟩⟩,
  ⟨⟨#[99, 46, 97, 110, 100]⟩, 37, 35937, 6, 3, 7, 0, 1, 0, 0, true, ⟨#[]⟩⟩,
  ⟨⟨#[99, 46, 106]⟩, 3, 40961, 0, 0, 0, 12, 2, -2048, 2046, true, ⟨#[107, 103, 105, 104, 101, 102, 97, 106, 100, 99, 98]⟩⟩,
  ⟨⟨#[99, 46, 98, 101, 113, 122]⟩, 5, 49153, 0, 6, 0, 9, 2, -256, 254, true, ⟨#[107, 101, 100, 97, 106, 105, 99, 98]⟩⟩,
  ⟨⟨#[99, 46, 98, 110, 101, 122]⟩, 6, 57345, 0, 6, 0, 9, 2, -256, 254, true, ⟨#[107, 101, 100, 97, 106, 105, 99, 98]⟩⟩,
  ⟨⟨#[99, 46, 115, 108, 108, 105]⟩, 25, 2, 2, 3, 0, 0, 1, 1, 31, false, ⟨#[101, 100, 99, 98, 97]⟩⟩,
  ⟨⟨#[99, 46, 108, 119, 115, 112]⟩, 13, 16386, 2, 9, 0, 0, 4, 0, 252, true, ⟨#[98, 97, 107, 101, 100, 99]⟩⟩,
  ⟨⟨#[99, 46, 106, 114]⟩, 4, 32770, 0, 2, 0, 0, 1, 0, 0, true, ⟨#[]⟩⟩,
  ⟨⟨#[99, 46, 109, 118]⟩, 28, 32770, 2, 0, 5, 0, 1, 0, 0, true, ⟨#[]⟩⟩,
  ⟨⟨#[99, 46, 101, 98, 114, 101, 97, 107]⟩, 40, 36866, 0, 0, 0, 0, 1, 0, 0, true, ⟨#[]⟩⟩,
  ⟨⟨#[99, 46, 106, 97, 108, 114]⟩, 4, 36866, 8, 2, 0, 0, 1, 0, 0, true, ⟨#[]⟩⟩,
  ⟨⟨#[99, 46, 97, 100, 100]⟩, 28, 36866, 2, 3, 5, 0, 1, 0, 0, true, ⟨#[]⟩⟩,
  ⟨⟨#[99, 46, 115, 119, 115, 112]⟩, 18, 49154, 0, 9, 4, 0, 4, 0, 252, true, ⟨#[103, 102, 107, 106, 105, 104]⟩⟩]
theorem prL_length : prL.length = 27 := rfl
def prZ : PR := ⟨⟨#[]⟩, 0, 0, 0, 0, 0, 0, 0, 0, 0, false, ⟨#[]⟩⟩
def prAt (k : Nat) : PR := prL.getD k prZ
/-- the cells of a row -/
def PR.cells (r : PR) : List Value := [.string r.nm, .int .i64 r.op, .int .u16 r.m, .int .i64 r.rd, .int .i64 r.r1, .int .i64 r.r2, .int .i64 r.sg, .int .i64 r.un, .int .i32 r.lo, .int .i32 r.hi, .bool r.no, .string r.bt]
def prFlat (L : List PR) : List Value := L.flatMap PR.cells
theorem prFlat_at (L : List PR) (k : Nat) (h : k < L.length) (j : Nat) (hj : j < 12) : (prFlat L)[k * 12 + j]? = (L.getD k prZ).cells[j]? := by
  induction L generalizing k with
  | nil => simp at h
  | cons r t ih =>
    have e : prFlat (r :: t) = r.cells ++ prFlat t := rfl
    have hl : r.cells.length = 12 := rfl
    rw [e]
    cases k with
    | zero => rw [List.getElem?_append_left (by rw [hl]; omega)]; simp
    | succ k =>
      rw [List.getElem?_append_right (by rw [hl]; omega), hl, show (k + 1) * 12 + j - 12 = k * 12 + j by omega]
      exact ih k (by simpa using h)
/-- may a register of a kind be there? -/
def regK (kind n rd : Int) : Bool :=
  if kind = 10 then (!(n == 2)) && !(n == 0) else if kind = 2 ∨ kind = 5 then !(n == 0) else if kind = 6 ∨ kind = 7 then decide (8 ≤ n) && decide (n < 16) else if kind = 3 then n == rd
  else if kind = 8 then n == 1 else if kind = 9 then n == 2 else if kind = 0 then n == 0 else true
/-- is an instruction one of a row's? -/
def fitR (r : PR) (op rd rs1 rs2 imm : Int) : Bool :=
  mayB op rd rs1 rs2 imm && (op == r.op) && regK r.rd rd 0 && regK r.r1 rs1 rd && regK r.r2 rs2 rd && decide (r.lo ≤ imm) && decide (imm ≤ r.hi) && (imm % r.un == 0) && (r.no || !(imm == 0))
/-- a register where a row's kind has it -/
def laidK (kind n : Int) : Int :=
  if kind = 1 ∨ kind = 2 ∨ kind = 10 then n * 128 else if kind = 4 ∨ kind = 5 then n * 4 else if kind = 6 then (n - 8) * 128 else if kind = 7 then (n - 8) * 4 else 0
/-- the bits of a number, each where its letter says -/
def putB (v : Int) (h : Int) : List UInt8 → Int
  | [] => h
  | c :: t => putB v (bits .or .u16 h (fld v t.length 1 * 2 ^ (c.toNat - 95))) t
/-- an instruction's parcel, by a row -/
def putR (r : PR) (rd rs1 rs2 imm : Int) : Int :=
  putB (imm % 4294967296 / r.un) (bits .or .u16 (bits .or .u16 (bits .or .u16 r.m (laidK r.rd rd)) (laidK r.r1 rs1)) (laidK r.r2 rs2)) r.bt.data.toList
/-- the register that a parcel has where a row's kind has it -/
def readK (kind h rd : Int) : Int :=
  if kind = 1 ∨ kind = 2 ∨ kind = 10 then fld h 7 5 else if kind = 4 ∨ kind = 5 then fld h 2 5 else if kind = 6 then 8 + fld h 7 3 else if kind = 7 then 8 + fld h 2 3
  else if kind = 3 then rd else if kind = 8 then 1 else if kind = 9 then 2 else 0
def gotB (h : Int) (v : Int) : List UInt8 → Int
  | [] => v
  | c :: t => gotB h (bits .or .u32 (v * 2 % 4294967296) (fld h (c.toNat - 95) 1)) t
def gotV (r : PR) (h : Int) : Int := gotB h 0 r.bt.data.toList * r.un % 4294967296
/-- the instruction that a parcel would be of a row -/
def gRdR (r : PR) (h : Int) : Int := readK r.rd h 0
def gR1R (r : PR) (h : Int) : Int := readK r.r1 h (gRdR r h)
def gR2R (r : PR) (h : Int) : Int := readK r.r2 h (gRdR r h)
def gImR (r : PR) (h : Int) : Int := if 0 < r.sg then sgn (gotV r h) r.sg.toNat else sgn (gotV r h) 32
end Go.Proofs.Ytfecjdchgckjhaa.P

namespace Go.Proofs.Ytfecjdchgckjhaa.P
set_option linter.unusedVariables false
set_option linter.unusedSimpArgs false
open Go Go.RowKit

/-- what is fixed, the places of the number's bits from the highest on, and the unit, by the reference -/
def frameK (k : Nat) : Int := ([0, 16384, 49152, 1, 1, 8193, 16385, 24833, 24577, 32769, 33793, 34817, 35841, 35873, 35905, 35937, 40961, 49153, 57345, 2, 16386, 32770, 32770, 36866, 36866, 36866, 49154] : List Int).getD k 0
def placesK (k : Nat) : List Int := ([[10, 9, 8, 7, 12, 11, 5, 6], [5, 12, 11, 10, 6], [5, 12, 11, 10, 6], [], [12, 6, 5, 4, 3, 2], [12, 8, 10, 9, 6, 7, 2, 11, 5, 4, 3], [12, 6, 5, 4, 3, 2], [12, 4, 3, 5, 2, 6], [12, 6, 5, 4, 3, 2], [6, 5, 4, 3, 2], [6, 5, 4, 3, 2], [12, 6, 5, 4, 3, 2], [], [], [], [], [12, 8, 10, 9, 6, 7, 2, 11, 5, 4, 3], [12, 6, 5, 2, 11, 10, 4, 3], [12, 6, 5, 2, 11, 10, 4, 3], [6, 5, 4, 3, 2], [3, 2, 12, 6, 5, 4], [], [], [], [], [], [8, 7, 12, 11, 10, 9]] : List (List Int)).getD k []
def unitK (k : Nat) : Int := ([4, 4, 4, 1, 1, 2, 1, 16, 4096, 1, 1, 1, 1, 1, 1, 1, 2, 2, 2, 1, 4, 1, 1, 1, 1, 1, 4] : List Int).getD k 1
def regsK (k : Nat) (rd rs1 rs2 : Int) : Int :=
  if k = 0 then (rd - 8) * 4 else if k = 1 then (rd - 8) * 4 + (rs1 - 8) * 128 else if k = 2 then (rs2 - 8) * 4 + (rs1 - 8) * 128 else if k = 3 then 0 else if k = 4 then rd * 128 else if k = 5 then 0 else if k = 6 then rd * 128 else if k = 7 then 0 else if k = 8 then rd * 128 else if k = 9 then (rd - 8) * 128 else if k = 10 then (rd - 8) * 128 else if k = 11 then (rd - 8) * 128 else if k = 12 then (rd - 8) * 128 + (rs2 - 8) * 4 else if k = 13 then (rd - 8) * 128 + (rs2 - 8) * 4 else if k = 14 then (rd - 8) * 128 + (rs2 - 8) * 4 else if k = 15 then (rd - 8) * 128 + (rs2 - 8) * 4 else if k = 16 then 0 else if k = 17 then (rs1 - 8) * 128 else if k = 18 then (rs1 - 8) * 128 else if k = 19 then rd * 128 else if k = 20 then rd * 128 else if k = 21 then rs1 * 128 else if k = 22 then rd * 128 + rs2 * 4 else if k = 23 then 0 else if k = 24 then rs1 * 128 else if k = 25 then rd * 128 + rs2 * 4 else if k = 26 then rs2 * 4 else 0
/-- the bits of a number, from the lowest on, each at its place -/
def refB (v h : Int) : List Int → Int
  | [] => h
  | l :: t => refB (v / 2) (h + v % 2 * 2 ^ l.toNat) t
def refR (k : Nat) (rd rs1 rs2 imm : Int) : Int := refB ((imm + 4294967296) / unitK k) (frameK k + regsK k rd rs1 rs2) (placesK k).reverse
/-- the diagram of a parcel; 27: there is none -/
def diagK (h : Int) : Nat :=
  if h % 4 * 8 + h / 8192 = 0 then 0 else if h % 4 * 8 + h / 8192 = 2 then 1 else if h % 4 * 8 + h / 8192 = 6 then 2
  else if h % 4 * 8 + h / 8192 = 8 then (if h / 128 % 32 = 0 then 3 else 4)
  else if h % 4 * 8 + h / 8192 = 9 then 5 else if h % 4 * 8 + h / 8192 = 10 then 6
  else if h % 4 * 8 + h / 8192 = 11 then (if h / 128 % 32 = 2 then 7 else 8)
  else if h % 4 * 8 + h / 8192 = 12 then (if h / 1024 % 4 < 3 then 9 + (h / 1024 % 4).toNat else 12 + (h / 32 % 4).toNat)
  else if h % 4 * 8 + h / 8192 = 13 then 16 else if h % 4 * 8 + h / 8192 = 14 then 17 else if h % 4 * 8 + h / 8192 = 15 then 18
  else if h % 4 * 8 + h / 8192 = 16 then 19 else if h % 4 * 8 + h / 8192 = 18 then 20
  else if h % 4 * 8 + h / 8192 = 20 then (if 0 < h / 4 % 32 then (if h / 4096 % 2 = 0 then 22 else 25) else if 0 < h / 128 % 32 then (if h / 4096 % 2 = 0 then 21 else 24) else 23)
  else if h % 4 * 8 + h / 8192 = 22 then 26 else 27
def eqI (i : I5) (a b c d e : Int) : Bool := i.op == a && i.rd == b && i.rs1 == c && i.rs2 == d && i.imm == e
/-- WHAT IS ASKED of an instruction's parcel by a row -/
def chk (k : Nat) (rd rs1 rs2 imm : Int) : Bool :=
  let r := prAt k
  let h := putR r rd rs1 rs2 imm
  decide (0 ≤ h) && decide (h < 65536) && !(h % 4 == 3) && eqI (qAll h) r.op rd rs1 rs2 imm && gRdR r h == rd && gR1R r h == rs1 && gR2R r h == rs2 && gImR r h == imm && diagK h == k && refR k rd rs1 rs2 imm == h
def allN (p : Nat → Bool) : Nat → Bool
  | 0 => true
  | n + 1 => p n && allN p n
theorem allN_get {p : Nat → Bool} {n : Nat} (h : allN p n = true) (j : Nat) (hj : j < n) : p j = true := by
  induction n with
  | zero => omega
  | succ n ih =>
    simp only [allN, Bool.and_eq_true] at h
    by_cases e : j = n
    · rw [e]; exact h.1
    · exact ih h.2 (by omega)
/-- the registers of a kind -/
def domK (kind : Int) : List Int :=
  if kind = 0 then [0] else if kind = 2 ∨ kind = 5 then (List.range 31).map (fun j : Nat => (j : Int) + 1) else if kind = 6 ∨ kind = 7 then (List.range 8).map (fun j : Nat => (j : Int) + 8) else if kind = 8 then [1] else if kind = 9 then [2]
  else if kind = 10 then 1 :: (List.range 29).map (fun j : Nat => (j : Int) + 3) else (List.range 32).map (fun j : Nat => (j : Int))
def domS (kind rd : Int) : List Int := if kind = 3 then [rd] else domK kind
theorem in_dom {kind n rd : Int} (h : regK kind n rd = true) (r : rg n) : n ∈ domS kind rd := by
  obtain ⟨r0, r1⟩ := r
  have hr : ∀ (a : Int) (m : Nat), a ≤ n → n < a + m → n ∈ (List.range m).map (fun j : Nat => (j : Int) + a) := fun a m h0 h1 => by
    rw [List.mem_map]; exact ⟨(n - a).toNat, by rw [List.mem_range]; omega, by omega⟩
  unfold regK at h
  unfold domS domK
  by_cases h10 : kind = 10
  · subst h10; simp at h; simp; by_cases e : n = 1
    · left; exact e
    · right; exact ⟨(n - 3).toNat, by omega, by omega⟩
  rw [if_neg h10] at h
  by_cases h25 : kind = 2 ∨ kind = 5
  · rw [if_pos h25] at h; simp at h
    rw [if_neg (by omega), if_neg (by omega), if_pos h25]; exact hr 1 31 (by omega) (by omega)
  rw [if_neg h25] at h
  by_cases h67 : kind = 6 ∨ kind = 7
  · rw [if_pos h67] at h; simp at h
    rw [if_neg (by omega), if_neg (by omega), if_neg h25, if_pos h67]; exact hr 8 8 (by omega) (by omega)
  rw [if_neg h67] at h
  by_cases h3 : kind = 3
  · rw [if_pos h3] at h; simp at h; rw [if_pos h3]; simpa using h
  rw [if_neg h3] at h
  by_cases h8 : kind = 8
  · rw [if_pos h8] at h; simp at h; rw [if_neg h3, if_neg (by omega), if_neg h25, if_neg h67, if_pos h8]; simpa using h
  rw [if_neg h8] at h
  by_cases h9 : kind = 9
  · rw [if_pos h9] at h; simp at h; rw [if_neg h3, if_neg (by omega), if_neg h25, if_neg h67, if_neg h8, if_pos h9]; simpa using h
  rw [if_neg h9] at h
  by_cases h0 : kind = 0
  · rw [if_pos h0] at h; simp at h; rw [if_neg h3, if_pos h0]; simpa using h
  rw [if_neg h3, if_neg h0, if_neg h25, if_neg h67, if_neg h8, if_neg h9, if_neg h10, List.mem_map]
  exact ⟨n.toNat, by rw [List.mem_range]; omega, by omega⟩
def rowChk (k : Nat) : Bool :=
  let r := prAt k
  (domK r.rd).all fun a => (domS r.r1 a).all fun b => (domS r.r2 a).all fun c => allN (fun j => (!r.no && (r.lo + r.un * (j : Int)) == 0) || chk k a b c (r.lo + r.un * (j : Int))) (((r.hi - r.lo) / r.un).toNat + 1)
theorem row_shape : ∀ k, k < 27 → (prAt k).rd ≠ 3 ∧ 0 < (prAt k).un ∧ (prAt k).lo % (prAt k).un = 0 := by decide
theorem chk_of {k : Nat} (hk : k < 27) (h : rowChk k = true) {op rd rs1 rs2 imm : Int} (hf : fitR (prAt k) op rd rs1 rs2 imm = true) (r0 : rg rd) (r1 : rg rs1) (r2 : rg rs2) : chk k rd rs1 rs2 imm = true := by
  obtain ⟨h3, hu, hl⟩ := row_shape k hk
  unfold fitR at hf
  simp only [Bool.and_eq_true, decide_eq_true_eq, beq_iff_eq, Bool.or_eq_true, Bool.not_eq_true', beq_eq_false_iff_ne] at hf
  obtain ⟨⟨⟨⟨⟨⟨⟨⟨_, _⟩, ha⟩, hb⟩, hc⟩, hlo⟩, hhi⟩, hm⟩, hn⟩ := hf
  unfold rowChk at h
  simp only [] at h
  have ha' := in_dom ha r0
  rw [domS, if_neg h3] at ha'
  have h := List.all_eq_true.1 h rd ha'
  have h := List.all_eq_true.1 h rs1 (in_dom hb r1)
  have h := List.all_eq_true.1 h rs2 (in_dom hc r2)
  generalize prAt k = r at *
  have hd : imm = r.lo + r.un * ((imm - r.lo) / r.un) := by
    have e : (imm - r.lo) % r.un = 0 := by rw [Int.sub_emod, hm, hl]; simp
    have := Int.mul_ediv_add_emod (imm - r.lo) r.un
    omega
  have hj0 : 0 ≤ (imm - r.lo) / r.un := Int.ediv_nonneg (by omega) (Int.le_of_lt hu)
  have hj1 : (imm - r.lo) / r.un ≤ (r.hi - r.lo) / r.un := Int.ediv_le_ediv hu (by omega)
  have h := allN_get h ((imm - r.lo) / r.un).toNat (by omega)
  rw [show ((((imm - r.lo) / r.un).toNat : Nat) : Int) = (imm - r.lo) / r.un by omega, ← hd] at h
  simp only [Bool.or_eq_true, Bool.and_eq_true, Bool.not_eq_true', beq_iff_eq] at h
  rcases h with ⟨e1, e2⟩ | h
  · rcases hn with e | e
    · rw [e] at e1; cases e1
    · exact absurd e2 e
  · exact h
/-- WHAT IS ASKED of every parcel: one that is expanded to what fits its diagram's row is what that is put into -/
def inj (x : Nat) : Bool :=
  let h : Int := x
  let i := qAll h
  let k := diagK h
  !(decide (k < 27) && fitR (prAt k) i.op i.rd i.rs1 i.rs2 i.imm) || putR (prAt k) i.rd i.rs1 i.rs2 i.imm == h
end Go.Proofs.Ytfecjdchgckjhaa.P
