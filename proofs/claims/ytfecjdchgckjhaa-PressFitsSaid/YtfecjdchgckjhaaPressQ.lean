/- What the reference lays into a parcel; by which diagram a parcel is expanded; what is asked of each parcel. No program is in sight. -/
import Derived.Test.YtfecjdchgckjhaaPressP
namespace Go.Proofs.Ytfecjdchgckjhaa.P
set_option linter.unusedVariables false
set_option linter.unusedSimpArgs false
open Go Go.RowKit

/-- what is fixed, the places of the number's bits from the highest on, and the unit, by the reference -/
def frameK (k : Nat) : Int := ([0, 16384, 49152, 1, 1, 8193, 16385, 24833, 24577, 32769, 33793, 34817, 35841, 35873, 35905, 35937, 40961, 49153, 57345, 2, 16386, 32770, 32770, 36866, 36866, 36866, 49154] : List Int).getD k 0
def placesK (k : Nat) : List Int := ([[10, 9, 8, 7, 12, 11, 5, 6], [5, 12, 11, 10, 6], [5, 12, 11, 10, 6], [], [12, 6, 5, 4, 3, 2], [12, 8, 10, 9, 6, 7, 2, 11, 5, 4, 3], [12, 6, 5, 4, 3, 2], [12, 4, 3, 5, 2, 6], [12, 6, 5, 4, 3, 2], [6, 5, 4, 3, 2], [6, 5, 4, 3, 2], [12, 6, 5, 4, 3, 2], [], [], [], [], [12, 8, 10, 9, 6, 7, 2, 11, 5, 4, 3], [12, 6, 5, 2, 11, 10, 4, 3], [12, 6, 5, 2, 11, 10, 4, 3], [6, 5, 4, 3, 2], [3, 2, 12, 6, 5, 4], [], [], [], [], [], [8, 7, 12, 11, 10, 9]] : List (List Int)).getD k []
def unitK (k : Nat) : Int := ([4, 4, 4, 1, 1, 2, 1, 16, 4096, 1, 1, 1, 1, 1, 1, 1, 2, 2, 2, 1, 4, 1, 1, 1, 1, 1, 4] : List Int).getD k 1
def regsK (k : Nat) (rd rs1 rs2 : Int) : Int :=
  if k = 0 then (rd - 8) * 4 else if k = 1 then (rd - 8) * 4 + (rs1 - 8) * 128 else if k = 2 then (rs2 - 8) * 4 + (rs1 - 8) * 128 else if k = 3 then 0 else if k = 4 then rd * 128 else if k = 5 then 0 else if k = 6 then rd * 128 else if k = 7 then 0 else if k = 8 then rd * 128 else if k = 9 then (rd - 8) * 128 else if k = 10 then (rd - 8) * 128 else if k = 11 then (rd - 8) * 128 else if k = 12 then (rd - 8) * 128 + (rs2 - 8) * 4 else if k = 13 then (rd - 8) * 128 + (rs2 - 8) * 4 else if k = 14 then (rd - 8) * 128 + (rs2 - 8) * 4 else if k = 15 then (rd - 8) * 128 + (rs2 - 8) * 4 else if k = 16 then 0 else if k = 17 then (rs1 - 8) * 128 else if k = 18 then (rs1 - 8) * 128 else if k = 19 then rd * 128 else if k = 20 then rd * 128 else if k = 21 then rs1 * 128 else if k = 22 then rd * 128 + rs2 * 4 else if k = 23 then 0 else if k = 24 then rs1 * 128 else if k = 25 then rd * 128 + rs2 * 4 else if k = 26 then rs2 * 4 else 0
/-- the bits of a number, from the lowest on, each at its place -/
def refB (v h : Int) : List Int → Int
  | [] => h
  | l :: t => refB (v / 2) (h + v % 2 * 2 ^ l.toNat) t
def refR (k : Nat) (rd rs1 rs2 imm : Int) : Int := refB ((imm + 4294967296) / unitK k) (frameK k + regsK k rd rs1 rs2) (placesK k).reverse
/-- the diagram of a parcel; 27: there is none -/
def diagK (h : Int) : Nat :=
  if h % 4 * 8 + h / 8192 = 0 then 0 else if h % 4 * 8 + h / 8192 = 2 then 1 else if h % 4 * 8 + h / 8192 = 6 then 2
  else if h % 4 * 8 + h / 8192 = 8 then (if h / 128 % 32 = 0 then 3 else 4)
  else if h % 4 * 8 + h / 8192 = 9 then 5 else if h % 4 * 8 + h / 8192 = 10 then 6
  else if h % 4 * 8 + h / 8192 = 11 then (if h / 128 % 32 = 2 then 7 else 8)
  else if h % 4 * 8 + h / 8192 = 12 then (if h / 1024 % 4 < 3 then 9 + (h / 1024 % 4).toNat else 12 + (h / 32 % 4).toNat)
  else if h % 4 * 8 + h / 8192 = 13 then 16 else if h % 4 * 8 + h / 8192 = 14 then 17 else if h % 4 * 8 + h / 8192 = 15 then 18
  else if h % 4 * 8 + h / 8192 = 16 then 19 else if h % 4 * 8 + h / 8192 = 18 then 20
  else if h % 4 * 8 + h / 8192 = 20 then (if 0 < h / 4 % 32 then (if h / 4096 % 2 = 0 then 22 else 25) else if 0 < h / 128 % 32 then (if h / 4096 % 2 = 0 then 21 else 24) else 23)
  else if h % 4 * 8 + h / 8192 = 22 then 26 else 27
def eqI (i : I5) (a b c d e : Int) : Bool := i.op == a && i.rd == b && i.rs1 == c && i.rs2 == d && i.imm == e
/-- WHAT IS ASKED of an instruction's parcel by a row -/
def chk (k : Nat) (rd rs1 rs2 imm : Int) : Bool :=
  let r := prAt k
  let h := putR r rd rs1 rs2 imm
  decide (0 ≤ h) && decide (h < 65536) && !(h % 4 == 3) && eqI (qAll h) r.op rd rs1 rs2 imm && gRdR r h == rd && gR1R r h == rs1 && gR2R r h == rs2 && gImR r h == imm && diagK h == k && refR k rd rs1 rs2 imm == h
def allN (p : Nat → Bool) : Nat → Bool
  | 0 => true
  | n + 1 => p n && allN p n
theorem allN_get {p : Nat → Bool} {n : Nat} (h : allN p n = true) (j : Nat) (hj : j < n) : p j = true := by
  induction n with
  | zero => omega
  | succ n ih =>
    simp only [allN, Bool.and_eq_true] at h
    by_cases e : j = n
    · rw [e]; exact h.1
    · exact ih h.2 (by omega)
/-- the registers of a kind -/
def domK (kind : Int) : List Int :=
  if kind = 0 then [0] else if kind = 2 ∨ kind = 5 then (List.range 31).map (fun j : Nat => (j : Int) + 1) else if kind = 6 ∨ kind = 7 then (List.range 8).map (fun j : Nat => (j : Int) + 8) else if kind = 8 then [1] else if kind = 9 then [2]
  else if kind = 10 then 1 :: (List.range 29).map (fun j : Nat => (j : Int) + 3) else (List.range 32).map (fun j : Nat => (j : Int))
def domS (kind rd : Int) : List Int := if kind = 3 then [rd] else domK kind
theorem in_dom {kind n rd : Int} (h : regK kind n rd = true) (r : rg n) : n ∈ domS kind rd := by
  obtain ⟨r0, r1⟩ := r
  have hr : ∀ (a : Int) (m : Nat), a ≤ n → n < a + m → n ∈ (List.range m).map (fun j : Nat => (j : Int) + a) := fun a m h0 h1 => by
    rw [List.mem_map]; exact ⟨(n - a).toNat, by rw [List.mem_range]; omega, by omega⟩
  unfold regK at h
  unfold domS domK
  by_cases h10 : kind = 10
  · subst h10; simp at h; simp; by_cases e : n = 1
    · left; exact e
    · right; exact ⟨(n - 3).toNat, by omega, by omega⟩
  rw [if_neg h10] at h
  by_cases h25 : kind = 2 ∨ kind = 5
  · rw [if_pos h25] at h; simp at h
    rw [if_neg (by omega), if_neg (by omega), if_pos h25]; exact hr 1 31 (by omega) (by omega)
  rw [if_neg h25] at h
  by_cases h67 : kind = 6 ∨ kind = 7
  · rw [if_pos h67] at h; simp at h
    rw [if_neg (by omega), if_neg (by omega), if_neg h25, if_pos h67]; exact hr 8 8 (by omega) (by omega)
  rw [if_neg h67] at h
  by_cases h3 : kind = 3
  · rw [if_pos h3] at h; simp at h; rw [if_pos h3]; simpa using h
  rw [if_neg h3] at h
  by_cases h8 : kind = 8
  · rw [if_pos h8] at h; simp at h; rw [if_neg h3, if_neg (by omega), if_neg h25, if_neg h67, if_pos h8]; simpa using h
  rw [if_neg h8] at h
  by_cases h9 : kind = 9
  · rw [if_pos h9] at h; simp at h; rw [if_neg h3, if_neg (by omega), if_neg h25, if_neg h67, if_neg h8, if_pos h9]; simpa using h
  rw [if_neg h9] at h
  by_cases h0 : kind = 0
  · rw [if_pos h0] at h; simp at h; rw [if_neg h3, if_pos h0]; simpa using h
  rw [if_neg h3, if_neg h0, if_neg h25, if_neg h67, if_neg h8, if_neg h9, if_neg h10, List.mem_map]
  exact ⟨n.toNat, by rw [List.mem_range]; omega, by omega⟩
def rowChk (k : Nat) : Bool :=
  let r := prAt k
  (domK r.rd).all fun a => (domS r.r1 a).all fun b => (domS r.r2 a).all fun c => allN (fun j => (!r.no && (r.lo + r.un * (j : Int)) == 0) || chk k a b c (r.lo + r.un * (j : Int))) (((r.hi - r.lo) / r.un).toNat + 1)
theorem row_shape : ∀ k, k < 27 → (prAt k).rd ≠ 3 ∧ 0 < (prAt k).un ∧ (prAt k).lo % (prAt k).un = 0 := by decide
theorem chk_of {k : Nat} (hk : k < 27) (h : rowChk k = true) {op rd rs1 rs2 imm : Int} (hf : fitR (prAt k) op rd rs1 rs2 imm = true) (r0 : rg rd) (r1 : rg rs1) (r2 : rg rs2) : chk k rd rs1 rs2 imm = true := by
  obtain ⟨h3, hu, hl⟩ := row_shape k hk
  unfold fitR at hf
  simp only [Bool.and_eq_true, decide_eq_true_eq, beq_iff_eq, Bool.or_eq_true, Bool.not_eq_true', beq_eq_false_iff_ne] at hf
  obtain ⟨⟨⟨⟨⟨⟨⟨⟨_, _⟩, ha⟩, hb⟩, hc⟩, hlo⟩, hhi⟩, hm⟩, hn⟩ := hf
  unfold rowChk at h
  simp only [] at h
  have ha' := in_dom ha r0
  rw [domS, if_neg h3] at ha'
  have h := List.all_eq_true.1 h rd ha'
  have h := List.all_eq_true.1 h rs1 (in_dom hb r1)
  have h := List.all_eq_true.1 h rs2 (in_dom hc r2)
  generalize prAt k = r at *
  have hd : imm = r.lo + r.un * ((imm - r.lo) / r.un) := by
    have e : (imm - r.lo) % r.un = 0 := by rw [Int.sub_emod, hm, hl]; simp
    have := Int.mul_ediv_add_emod (imm - r.lo) r.un
    omega
  have hj0 : 0 ≤ (imm - r.lo) / r.un := Int.ediv_nonneg (by omega) (Int.le_of_lt hu)
  have hj1 : (imm - r.lo) / r.un ≤ (r.hi - r.lo) / r.un := Int.ediv_le_ediv hu (by omega)
  have h := allN_get h ((imm - r.lo) / r.un).toNat (by omega)
  rw [show ((((imm - r.lo) / r.un).toNat : Nat) : Int) = (imm - r.lo) / r.un by omega, ← hd] at h
  simp only [Bool.or_eq_true, Bool.and_eq_true, Bool.not_eq_true', beq_iff_eq] at h
  rcases h with ⟨e1, e2⟩ | h
  · rcases hn with e | e
    · rw [e] at e1; cases e1
    · exact absurd e2 e
  · exact h
/-- WHAT IS ASKED of every parcel: one that is expanded to what fits its diagram's row is what that is put into -/
def inj (x : Nat) : Bool :=
  let h : Int := x
  let i := qAll h
  let k := diagK h
  !(decide (k < 27) && fitR (prAt k) i.op i.rd i.rs1 i.rs2 i.imm) || putR (prAt k) i.rd i.rs1 i.rs2 i.imm == h
end Go.Proofs.Ytfecjdchgckjhaa.P
