/- Which parcels are got: what the reference gets is what a row hits. No program is in sight. -/
import Derived.Test.YtfecjdchgckjhaaAwake09
import Derived.Test.YtfecjdchgckjhaaSlimP
import Derived.Test.YtfecjdchgckjhaaPressI0
import Derived.Test.YtfecjdchgckjhaaPressI1
namespace Go.Proofs.Ytfecjdchgckjhaa.A9
set_option linter.unusedVariables false
set_option linter.unusedSimpArgs false
open Go.ChangeShapes Go.WideShapes Go.ChangeAt Go.RowKit Go.Proofs.Ytfecjdchgckjhaa.P Go.Proofs.Ytfecjdchgckjhaa.W Go.Proofs.Ytfecjdchgckjhaa.F

/-- is a parcel got by the reference? -/
def getQ (h : Int) : Bool := decide (0 < (qAll h).op) && (decide (diagK h < 27) && fitR (prAt (diagK h)) (qAll h).op (qAll h).rd (qAll h).rs1 (qAll h).rs2 (qAll h).imm)
theorem inj_all (m : Nat) (hm : m < 64) : allN (fun j => inj (1024 * m + j)) 1024 = true := by
  have hc : m = 0 ∨ m = 1 ∨ m = 2 ∨ m = 3 ∨ m = 4 ∨ m = 5 ∨ m = 6 ∨ m = 7 ∨ m = 8 ∨ m = 9 ∨ m = 10 ∨ m = 11 ∨ m = 12 ∨ m = 13 ∨ m = 14 ∨ m = 15 ∨ m = 16 ∨ m = 17 ∨ m = 18 ∨ m = 19 ∨ m = 20 ∨ m = 21 ∨ m = 22 ∨ m = 23 ∨ m = 24 ∨ m = 25 ∨ m = 26 ∨ m = 27 ∨ m = 28 ∨ m = 29 ∨ m = 30 ∨ m = 31 ∨ m = 32 ∨ m = 33 ∨ m = 34 ∨ m = 35 ∨ m = 36 ∨ m = 37 ∨ m = 38 ∨ m = 39 ∨ m = 40 ∨ m = 41 ∨ m = 42 ∨ m = 43 ∨ m = 44 ∨ m = 45 ∨ m = 46 ∨ m = 47 ∨ m = 48 ∨ m = 49 ∨ m = 50 ∨ m = 51 ∨ m = 52 ∨ m = 53 ∨ m = 54 ∨ m = 55 ∨ m = 56 ∨ m = 57 ∨ m = 58 ∨ m = 59 ∨ m = 60 ∨ m = 61 ∨ m = 62 ∨ m = 63 := by omega
  rcases hc with rfl | rfl | rfl | rfl | rfl | rfl | rfl | rfl | rfl | rfl | rfl | rfl | rfl | rfl | rfl | rfl | rfl | rfl | rfl | rfl | rfl | rfl | rfl | rfl | rfl | rfl | rfl | rfl | rfl | rfl | rfl | rfl | rfl | rfl | rfl | rfl | rfl | rfl | rfl | rfl | rfl | rfl | rfl | rfl | rfl | rfl | rfl | rfl | rfl | rfl | rfl | rfl | rfl | rfl | rfl | rfl | rfl | rfl | rfl | rfl | rfl | rfl | rfl | rfl
  · exact inj0
  · exact inj1
  · exact inj2
  · exact inj3
  · exact inj4
  · exact inj5
  · exact inj6
  · exact inj7
  · exact inj8
  · exact inj9
  · exact inj10
  · exact inj11
  · exact inj12
  · exact inj13
  · exact inj14
  · exact inj15
  · exact inj16
  · exact inj17
  · exact inj18
  · exact inj19
  · exact inj20
  · exact inj21
  · exact inj22
  · exact inj23
  · exact inj24
  · exact inj25
  · exact inj26
  · exact inj27
  · exact inj28
  · exact inj29
  · exact inj30
  · exact inj31
  · exact inj32
  · exact inj33
  · exact inj34
  · exact inj35
  · exact inj36
  · exact inj37
  · exact inj38
  · exact inj39
  · exact inj40
  · exact inj41
  · exact inj42
  · exact inj43
  · exact inj44
  · exact inj45
  · exact inj46
  · exact inj47
  · exact inj48
  · exact inj49
  · exact inj50
  · exact inj51
  · exact inj52
  · exact inj53
  · exact inj54
  · exact inj55
  · exact inj56
  · exact inj57
  · exact inj58
  · exact inj59
  · exact inj60
  · exact inj61
  · exact inj62
  · exact inj63
theorem inj_at (h : Int) (h0 : 0 ≤ h) (h1 : h < 65536) (hk : diagK h < 27) (hf : fitR (prAt (diagK h)) (qAll h).op (qAll h).rd (qAll h).rs1 (qAll h).rs2 (qAll h).imm = true) : putR (prAt (diagK h)) (qAll h).rd (qAll h).rs1 (qAll h).rs2 (qAll h).imm = h := by
  have hm := allN_get (inj_all (h.toNat / 1024) (by omega)) (h.toNat % 1024) (Nat.mod_lt _ (by decide))
  have e : ((1024 * (h.toNat / 1024) + h.toNat % 1024 : Nat) : Int) = h := by omega
  simp only [inj] at hm
  rw [e, hf, show decide (diagK h < 27) = true by simpa using hk] at hm
  simpa using hm
theorem ops_pos : ∀ k, k < 27 → 0 < (prAt k).op := by decide
theorem got_cases (h : Int) (h0 : 0 ≤ h) (h1 : h < 65536) : (∃ k, k < 27 ∧ hitR (prAt k) h = true ∧ (∀ j, j < k → hitR (prAt j) h = false) ∧ getQ h = true ∧ diagK h = k ∧ (qAll h).op = (prAt k).op ∧ (qAll h).rd = gRdR (prAt k) h ∧ (qAll h).rs1 = gR1R (prAt k) h ∧ (qAll h).rs2 = gR2R (prAt k) h ∧ (qAll h).imm = gImR (prAt k) h ∧ fitR (prAt k) (prAt k).op (gRdR (prAt k) h) (gR1R (prAt k) h) (gR2R (prAt k) h) (gImR (prAt k) h) = true ∧ putR (prAt k) (gRdR (prAt k) h) (gR1R (prAt k) h) (gR2R (prAt k) h) (gImR (prAt k) h) = h) ∨ ((∀ k, k < 27 → hitR (prAt k) h = false) ∧ getQ h = false) := by
  by_cases hx : ∃ k, k < 27 ∧ hitR (prAt k) h = true
  · obtain ⟨k, hk, hh⟩ := hx
    refine .inl ⟨k, hk, hh, fun j hj => ?_, ?_⟩
    · cases h2 : hitR (prAt j) h with
      | false => rfl
      | true => have := hit_one (by omega) hk h2 hh; omega
    · have hh' := hh
      unfold hitR at hh'
      simp only [Bool.and_eq_true, beq_iff_eq] at hh'
      obtain ⟨a, b⟩ := hh'
      obtain ⟨-, -, ⟨q1, q2, q3, q4, q5⟩, -, dk, -⟩ := put_is hk a
      rw [b] at q1 q2 q3 q4 q5 dk
      refine ⟨?_, dk, q1, q2, q3, q4, q5, a, b⟩
      unfold getQ
      rw [dk, q1, q2, q3, q4, q5, a]
      simp [ops_pos k hk, hk]
  · have hx' : ∀ k, k < 27 → hitR (prAt k) h = false := fun k hk => by
      cases e : hitR (prAt k) h with
      | false => rfl
      | true => exact absurd ⟨k, hk, e⟩ hx
    refine .inr ⟨hx', ?_⟩
    cases e : getQ h with
    | false => rfl
    | true =>
      exfalso
      unfold getQ at e
      simp only [Bool.and_eq_true, decide_eq_true_eq] at e
      obtain ⟨-, hk, hf⟩ := e
      have := (put_hit hk hf).1
      rw [inj_at h h0 h1 hk hf, hx' _ hk] at this
      cases this
def small (i : I5) : Prop := -2147483648 ≤ i.imm ∧ i.imm < 2147483648
theorem small_of {op rd rs1 rs2 imm : Int} (h0 : -2147483648 ≤ imm) (h1 : imm < 2147483648) : small ⟨op, rd, rs1, rs2, imm⟩ := ⟨h0, h1⟩
theorem small_none : small .none := ⟨by decide, by decide⟩
theorem small_q0 (x : Int) : small (q0 x) := by
  have u := bdU x; have v := bdV x
  unfold q0
  repeat' (first | exact small_none | exact small_of (by omega) (by omega) | split)
theorem small_qUpper (x : Int) : small (qUpper x) := by
  have n := sN6_bd x; have a := bdA x
  unfold qUpper
  repeat' (first | exact small_none | exact small_of (by omega) (by omega) | split)
theorem small_qSums (x : Int) : small (qSums x) := by
  have n := sN6_bd x; have s := rg_rs2 x; unfold rg at s
  unfold qSums
  repeat' (first | exact small_none | exact small_of (by omega) (by omega) | split)
theorem small_qMoves (x : Int) : small (qMoves x) := by
  skip
  unfold qMoves
  repeat' (first | exact small_none | exact small_of (by omega) (by omega) | split)
theorem small_q1 (x : Int) : small (q1 x) := by
  have n := sN6_bd x; have j := bdJ x; have b := bdB x
  unfold q1
  repeat' (first | exact small_none | exact small_of (by omega) (by omega) | exact small_qUpper x | exact small_qSums x | split)
theorem small_q2 (x : Int) : small (q2 x) := by
  have s := rg_rs2 x; unfold rg at s; have l := bdL x; have v := bdS x
  unfold q2
  repeat' (first | exact small_none | exact small_of (by omega) (by omega) | exact small_qMoves x | split)
theorem small_qAll (x : Int) : small (qAll x) := by
  skip
  unfold qAll
  repeat' (first | exact small_none | exact small_of (by omega) (by omega) | exact small_q0 x | exact small_q1 x | exact small_q2 x | split)
theorem qAll_bd (x : Int) : (-9223372036854775808 ≤ (qAll x).op ∧ (qAll x).op < 9223372036854775808) ∧ (-2147483648 ≤ (qAll x).imm ∧ (qAll x).imm < 2147483648) := by
  refine ⟨?_, small_qAll x⟩
  rcases ok_all x with h | ⟨h, m⟩
  · rw [h]; exact ⟨by decide, by decide⟩
  · unfold I5.may at m
    by_cases k : (qAll x).op < 1 ∨ 48 < (qAll x).op
    · have h2 := form_none k
      simp [mayB, h2] at m
    · omega
end Go.Proofs.Ytfecjdchgckjhaa.A9
