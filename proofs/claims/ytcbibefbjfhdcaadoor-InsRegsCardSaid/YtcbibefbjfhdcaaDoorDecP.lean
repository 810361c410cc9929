/- The instruction of a word in plain terms. No program is in sight. The names of the operations, in plain terms. No program is in sight. -/
import Derived.Test.YtcbibefbjfhdcaaDoorWordP
namespace Go.Proofs.YtcbibefbjfhdcaaDoor.P
set_option linter.unusedVariables false
open Go Go.RowKit

/-- the operation at a place of a list -/
def pick (l : List Int) (k : Int) : Int := l.getD k.toNat 0
/-- a word's operation; 0: it has none -/
def opN (w : Int) : Int :=
  if w % 128 = 55 then 1 else if w % 128 = 23 then 2 else if w % 128 = 111 then 3
  else if w % 128 = 103 then pick [4, 0, 0, 0, 0, 0, 0, 0] (fld w 12 3)
  else if w % 128 = 3 then pick [11, 12, 13, 0, 14, 15, 0, 0] (fld w 12 3)
  else if w % 128 = 99 then pick [5, 6, 0, 0, 7, 8, 9, 10] (fld w 12 3)
  else if w % 128 = 35 then pick [16, 17, 18, 0, 0, 0, 0, 0] (fld w 12 3)
  else if w % 128 = 19 then
    (if fld w 12 3 = 5 ∧ fld w 25 7 = 32 then 27 else if (fld w 12 3 = 1 ∨ fld w 12 3 = 5) ∧ fld w 25 7 ≠ 0 then 0 else pick [19, 25, 20, 21, 22, 26, 23, 24] (fld w 12 3))
  else if w % 128 = 51 then
    (if fld w 25 7 = 0 then pick [28, 30, 31, 32, 33, 34, 36, 37] (fld w 12 3) else if fld w 25 7 = 1 then pick [41, 42, 43, 44, 45, 46, 47, 48] (fld w 12 3)
     else if fld w 25 7 = 32 then pick [29, 0, 0, 0, 0, 35, 0, 0] (fld w 12 3) else 0)
  else if w % 128 = 15 then pick [38, 0, 0, 0, 0, 0, 0, 0] (fld w 12 3)
  else if w % 128 = 115 then (if w = 115 then 39 else if w = 1048691 then 40 else 0)
  else 0
def dRd (w : Int) : Int := if hasRd (form (opN w)) then fld w 7 5 else 0
def dRs1 (w : Int) : Int := if hasRs1 (form (opN w)) then fld w 15 5 else 0
def dRs2 (w : Int) : Int := if hasRs2 (form (opN w)) then fld w 20 5 else 0
/-- the number of a form -/
def immOf (f w : Int) : Int :=
  if f = 1 then immU w else if f = 2 then immJ w else if f = 3 then immB w else if f = 4 ∨ f = 6 then immI w else if f = 5 then immS w else if f = 7 then fld w 20 5 else 0
def dImm (w : Int) : Int := immOf (form (opN w)) w

theorem pick_cases {l : List Int} {k : Int} (h0 : 0 ≤ k) (h1 : k < 8) {P : Int → Prop} (h : ∀ i, i < 8 → P (l.getD i 0)) : P (pick l k) := h _ (by omega)
theorem f3_bd (w : Int) : 0 ≤ fld w 12 3 ∧ fld w 12 3 < 8 := by
  have := fld_bd w 12 3
  have e : (2 : Int) ^ 3 = 8 := by decide
  rw [e] at this; exact this
theorem r5_bd (w : Int) (l : Nat) : 0 ≤ fld w l 5 ∧ fld w l 5 < 32 := by
  have := fld_bd w l 5
  have e : (2 : Int) ^ 5 = 32 := by decide
  rw [e] at this; exact this
/-- every operation of a list, where it is one, has the form f -/
theorem pick_form {l : List Int} {k f : Int} (h0 : 0 ≤ k) (h1 : k < 8) (h : ∀ i, i < 8 → l.getD i 0 = 0 ∨ form (l.getD i 0) = f) : pick l k = 0 ∨ form (pick l k) = f :=
  pick_cases (P := fun x => x = 0 ∨ form x = f) h0 h1 h

/-- the instruction of a word, and whether it has one -/
def decV (x : Int) : Value := .tuple #[.agg #[.int .i64 (opN x), .int .i64 (dRd x), .int .i64 (dRs1 x), .int .i64 (dRs2 x), .int .i32 (dImm x)], .bool (!(opN x == 0))]
theorem decV_none {x : Int} (h : opN x = 0) : decV x = .tuple #[.agg #[.int .i64 0, .int .i64 0, .int .i64 0, .int .i64 0, .int .i32 0], .bool false] := by
  have f0 : form 0 = 0 := by decide
  unfold decV dRd dRs1 dRs2 dImm; rw [h, f0]; rfl
theorem decV_some {x op f : Int} (h : opN x = op) (h0 : op ≠ 0) (hf : form op = f) :
    decV x = .tuple #[.agg #[.int .i64 op, .int .i64 (if hasRd f then fld x 7 5 else 0), .int .i64 (if hasRs1 f then fld x 15 5 else 0), .int .i64 (if hasRs2 f then fld x 20 5 else 0), .int .i32 (immOf f x)], .bool true] := by
  have e : (op == 0) = false := beq_eq_false_iff_ne.2 h0
  unfold decV dRd dRs1 dRs2 dImm; rw [h, hf, e]; rfl
theorem opN_jalr {x : Int} (h : x % 128 = 103) : opN x = pick [4, 0, 0, 0, 0, 0, 0, 0] (fld x 12 3) := by unfold opN; rw [h]; rfl
theorem opN_load {x : Int} (h : x % 128 = 3) : opN x = pick [11, 12, 13, 0, 14, 15, 0, 0] (fld x 12 3) := by unfold opN; rw [h]; rfl
theorem opN_branch {x : Int} (h : x % 128 = 99) : opN x = pick [5, 6, 0, 0, 7, 8, 9, 10] (fld x 12 3) := by unfold opN; rw [h]; rfl
theorem opN_store {x : Int} (h : x % 128 = 35) : opN x = pick [16, 17, 18, 0, 0, 0, 0, 0] (fld x 12 3) := by unfold opN; rw [h]; rfl
theorem opN_number {x : Int} (h : x % 128 = 19) : opN x = if fld x 12 3 = 5 ∧ fld x 25 7 = 32 then 27 else if (fld x 12 3 = 1 ∨ fld x 12 3 = 5) ∧ fld x 25 7 ≠ 0 then 0 else pick [19, 25, 20, 21, 22, 26, 23, 24] (fld x 12 3) := by
  unfold opN; rw [h]; rfl
theorem opN_register {x : Int} (h : x % 128 = 51) : opN x = if fld x 25 7 = 0 then pick [28, 30, 31, 32, 33, 34, 36, 37] (fld x 12 3) else if fld x 25 7 = 1 then pick [41, 42, 43, 44, 45, 46, 47, 48] (fld x 12 3)
     else if fld x 25 7 = 32 then pick [29, 0, 0, 0, 0, 35, 0, 0] (fld x 12 3) else 0 := by unfold opN; rw [h]; rfl
theorem opN_fence {x : Int} (h : x % 128 = 15) : opN x = pick [38, 0, 0, 0, 0, 0, 0, 0] (fld x 12 3) := by unfold opN; rw [h]; rfl
theorem opN_bare {x : Int} (h : x % 128 = 115) : opN x = if x = 115 then 39 else if x = 1048691 then 40 else 0 := by unfold opN; rw [h]; rfl
theorem opN_lui {x : Int} (h : x % 128 = 55) : opN x = 1 := by unfold opN; rw [h]; rfl
theorem opN_auipc {x : Int} (h : x % 128 = 23) : opN x = 2 := by unfold opN; rw [h]; rfl
theorem opN_jal {x : Int} (h : x % 128 = 111) : opN x = 3 := by unfold opN; rw [h]; rfl
theorem opN_else {x : Int} (h : x % 128 ≠ 55 ∧ x % 128 ≠ 23 ∧ x % 128 ≠ 111 ∧ x % 128 ≠ 103 ∧ x % 128 ≠ 3 ∧ x % 128 ≠ 99 ∧ x % 128 ≠ 35 ∧ x % 128 ≠ 19 ∧ x % 128 ≠ 51 ∧ x % 128 ≠ 15 ∧ x % 128 ≠ 115) : opN x = 0 := by
  unfold opN; simp [h]
end Go.Proofs.YtcbibefbjfhdcaaDoor.P

namespace Go.Proofs.YtcbibefbjfhdcaaDoor.P
set_option linter.unusedVariables false
open Go Go.RowKit

/-- the operations' names, by their numbers -/
def names : List ByteArray := [⟨#[]⟩,
  ⟨#[108, 117, 105]⟩,
  ⟨#[97, 117, 105, 112, 99]⟩,
  ⟨#[106, 97, 108]⟩,
  ⟨#[106, 97, 108, 114]⟩,
  ⟨#[98, 101, 113]⟩,
  ⟨#[98, 110, 101]⟩,
  ⟨#[98, 108, 116]⟩,
  ⟨#[98, 103, 101]⟩,
  ⟨#[98, 108, 116, 117]⟩,
  ⟨#[98, 103, 101, 117]⟩,
  ⟨#[108, 98]⟩,
  ⟨#[108, 104]⟩,
  ⟨#[108, 119]⟩,
  ⟨#[108, 98, 117]⟩,
  ⟨#[108, 104, 117]⟩,
  ⟨#[115, 98]⟩,
  ⟨#[115, 104]⟩,
  ⟨#[115, 119]⟩,
  ⟨#[97, 100, 100, 105]⟩,
  ⟨#[115, 108, 116, 105]⟩,
  ⟨#[115, 108, 116, 105, 117]⟩,
  ⟨#[120, 111, 114, 105]⟩,
  ⟨#[111, 114, 105]⟩,
  ⟨#[97, 110, 100, 105]⟩,
  ⟨#[115, 108, 108, 105]⟩,
  ⟨#[115, 114, 108, 105]⟩,
  ⟨#[115, 114, 97, 105]⟩,
  ⟨#[97, 100, 100]⟩,
  ⟨#[115, 117, 98]⟩,
  ⟨#[115, 108, 108]⟩,
  ⟨#[115, 108, 116]⟩,
  ⟨#[115, 108, 116, 117]⟩,
  ⟨#[120, 111, 114]⟩,
  ⟨#[115, 114, 108]⟩,
  ⟨#[115, 114, 97]⟩,
  ⟨#[111, 114]⟩,
  ⟨#[97, 110, 100]⟩,
  ⟨#[102, 101, 110, 99, 101]⟩,
  ⟨#[101, 99, 97, 108, 108]⟩,
  ⟨#[101, 98, 114, 101, 97, 107]⟩,
  ⟨#[109, 117, 108]⟩,
  ⟨#[109, 117, 108, 104]⟩,
  ⟨#[109, 117, 108, 104, 115, 117]⟩,
  ⟨#[109, 117, 108, 104, 117]⟩,
  ⟨#[100, 105, 118]⟩,
  ⟨#[100, 105, 118, 117]⟩,
  ⟨#[114, 101, 109]⟩,
  ⟨#[114, 101, 109, 117]⟩]
def nameN (k : Nat) : ByteArray := names.getD k ⟨#[]⟩
theorem names_length : names.length = 49 := rfl
/-- the place of a name, from the place k on, n places are looked at; 0: it is none -/
def ixFrom (s : ByteArray) : Nat → Nat → Int
  | _, 0 => 0
  | k, n + 1 => if ((nameN k).toList == s.toList) = true then (k : Int) else ixFrom s (k + 1) n
/-- the operation of a name; 0: there is none -/
def ixN (s : ByteArray) : Int := if s.toList.isEmpty = true then 0 else ixFrom s 1 48
/-- the same, over the bytes -/
def ixFromD (s : List UInt8) : Nat → Nat → Int
  | _, 0 => 0
  | k, n + 1 => if ((nameN k).data.toList == s) = true then (k : Int) else ixFromD s (k + 1) n
def ixD (s : List UInt8) : Int := if s.isEmpty = true then 0 else ixFromD s 1 48
theorem ixFrom_eq (s : ByteArray) (n : Nat) : ∀ k, ixFrom s k n = ixFromD s.data.toList k n := by
  induction n with
  | zero => intro k; rfl
  | succ n ih => intro k; unfold ixFrom ixFromD; rw [ByteArray.toList_eq, ByteArray.toList_eq, ih]
theorem ixN_eq (s : ByteArray) : ixN s = ixD s.data.toList := by
  unfold ixN ixD; rw [ByteArray.toList_eq, ixFrom_eq]
theorem ixN_none : ixN ⟨#[]⟩ = 0 := by rw [ixN_eq]; rfl
/-- the operations of a list of names -/
theorem ix_pick {l : List ByteArray} {m : List Int} {k : Int} (h0 : 0 ≤ k) (h1 : k < 8) (h : ∀ i, i < 8 → ixD (l.getD i ⟨#[]⟩).data.toList = m.getD i 0) : ixN (l.getD k.toNat ⟨#[]⟩) = pick m k := by
  rw [ixN_eq]; exact h _ (by omega)
end Go.Proofs.YtcbibefbjfhdcaaDoor.P
