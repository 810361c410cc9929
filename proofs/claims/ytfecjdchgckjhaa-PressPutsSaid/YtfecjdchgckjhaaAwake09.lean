/- The test that the statements of layer 9 begin with; what a short's parcel is. -/
import Derived.Test.YtfecjdchgckjhaaPress7
import Derived.Test.YtfecjdchgckjhaaPress8
import Derived.Test.YtfecjdchgckjhaaPressE0
import Derived.Test.YtfecjdchgckjhaaPressE1
import Derived.Test.YtfecjdchgckjhaaPressE2
import Derived.Deep.Cut
namespace Go.Proofs.Ytfecjdchgckjhaa.A9
set_option linter.unusedVariables false
set_option linter.unusedSimpArgs false
open Go.ChangeShapes Go.WideShapes Go.ChangeAt Go.RowKit Go.Proofs.Ytfecjdchgckjhaa.P Go.Proofs.Ytfecjdchgckjhaa.W Go.Proofs.Ytfecjdchgckjhaa.F

theorem row_all (k : Nat) (hk : k < 27) : rowChk k = true := by
  have hc : k = 0 ∨ k = 1 ∨ k = 2 ∨ k = 3 ∨ k = 4 ∨ k = 5 ∨ k = 6 ∨ k = 7 ∨ k = 8 ∨ k = 9 ∨ k = 10 ∨ k = 11 ∨ k = 12 ∨ k = 13 ∨ k = 14 ∨ k = 15 ∨ k = 16 ∨ k = 17 ∨ k = 18 ∨ k = 19 ∨ k = 20 ∨ k = 21 ∨ k = 22 ∨ k = 23 ∨ k = 24 ∨ k = 25 ∨ k = 26 := by omega
  rcases hc with rfl | rfl | rfl | rfl | rfl | rfl | rfl | rfl | rfl | rfl | rfl | rfl | rfl | rfl | rfl | rfl | rfl | rfl | rfl | rfl | rfl | rfl | rfl | rfl | rfl | rfl | rfl
  · exact row0
  · exact row1
  · exact row2
  · exact row3
  · exact row4
  · exact row5
  · exact row6
  · exact row7
  · exact row8
  · exact row9
  · exact row10
  · exact row11
  · exact row12
  · exact row13
  · exact row14
  · exact row15
  · exact row16
  · exact row17
  · exact row18
  · exact row19
  · exact row20
  · exact row21
  · exact row22
  · exact row23
  · exact row24
  · exact row25
  · exact row26
/-- WHAT A FITTING INSTRUCTION's PARCEL IS -/
theorem put_is {k : Nat} (hk : k < 27) {op rd rs1 rs2 imm : Int} (hf : fitR (prAt k) op rd rs1 rs2 imm = true) :
    (0 ≤ putR (prAt k) rd rs1 rs2 imm ∧ putR (prAt k) rd rs1 rs2 imm < 65536) ∧ putR (prAt k) rd rs1 rs2 imm % 4 ≠ 3 ∧
    ((qAll (putR (prAt k) rd rs1 rs2 imm)).op = op ∧ (qAll (putR (prAt k) rd rs1 rs2 imm)).rd = rd ∧ (qAll (putR (prAt k) rd rs1 rs2 imm)).rs1 = rs1 ∧ (qAll (putR (prAt k) rd rs1 rs2 imm)).rs2 = rs2 ∧ (qAll (putR (prAt k) rd rs1 rs2 imm)).imm = imm) ∧
    (gRdR (prAt k) (putR (prAt k) rd rs1 rs2 imm) = rd ∧ gR1R (prAt k) (putR (prAt k) rd rs1 rs2 imm) = rs1 ∧ gR2R (prAt k) (putR (prAt k) rd rs1 rs2 imm) = rs2 ∧ gImR (prAt k) (putR (prAt k) rd rs1 rs2 imm) = imm) ∧
    diagK (putR (prAt k) rd rs1 rs2 imm) = k ∧ refR k rd rs1 rs2 imm = putR (prAt k) rd rs1 rs2 imm := by
  obtain ⟨r0, r1, r2⟩ := may_regs (fit_may hf).1
  have h := chk_of hk (row_all k hk) hf r0 r1 r2
  have ho := (fit_may hf).2
  unfold chk at h
  simp only [Bool.and_eq_true, decide_eq_true_eq, beq_iff_eq, Bool.not_eq_true', beq_eq_false_iff_ne, eqI] at h
  obtain ⟨⟨⟨⟨⟨⟨⟨⟨⟨a1, a2⟩, a3⟩, ⟨⟨⟨⟨b1, b2⟩, b3⟩, b4⟩, b5⟩⟩, c1⟩, c2⟩, c3⟩, c4⟩, d1⟩, d2⟩ := h
  exact ⟨⟨a1, a2⟩, a3, ⟨b1.trans ho.symm, b2, b3, b4, b5⟩, ⟨c1, c2, c3, c4⟩, d1, d2⟩
/-- a parcel is hit by one row at most -/
theorem hit_one {h : Int} {j k : Nat} (hj : j < 27) (hk : k < 27) (a : hitR (prAt j) h = true) (b : hitR (prAt k) h = true) : j = k := by
  unfold hitR at a b
  simp only [Bool.and_eq_true, beq_iff_eq] at a b
  have e1 := (put_is hj a.1).2.2.2.2.1
  have e2 := (put_is hk b.1).2.2.2.2.1
  rw [a.2] at e1
  rw [b.2] at e2
  exact e1.symm.trans e2
/-- what is put is hit -/
theorem put_hit {k : Nat} (hk : k < 27) {op rd rs1 rs2 imm : Int} (hf : fitR (prAt k) op rd rs1 rs2 imm = true) : hitR (prAt k) (putR (prAt k) rd rs1 rs2 imm) = true ∧ ∀ j, j < k → hitR (prAt j) (putR (prAt k) rd rs1 rs2 imm) = false := by
  obtain ⟨_, _, _, ⟨c1, c2, c3, c4⟩, _, _⟩ := put_is hk hf
  have ho := (fit_may hf).2
  have h1 : hitR (prAt k) (putR (prAt k) rd rs1 rs2 imm) = true := by
    unfold hitR
    rw [c1, c2, c3, c4, ← ho, hf]; simp
  refine ⟨h1, fun j hj => ?_⟩
  cases h2 : hitR (prAt j) (putR (prAt k) rd rs1 rs2 imm) with
  | false => rfl
  | true => have := hit_one (by omega) hk h2 h1; omega

theorem names_apart : ∀ k, k < 27 → ∀ j, j < k → ((prAt j).nm.data.toList == (prAt k).nm.data.toList) = false := by decide
theorem names_unlike {j k : Nat} (hk : k < 27) (hj : j < k) : ((prAt j).nm.toList == (prAt k).nm.toList) = false := by
  rw [ByteArray.toList_eq, ByteArray.toList_eq]; exact names_apart k hk j hj
theorem c1 (w : World) : Calls Try.prog 9 #[.string ⟨#[99, 46, 108, 105]⟩, .agg #[.int .i64 19, .int .i64 10, .int .i64 0, .int .i64 0, .int .i32 5]] w fun e w' => e = .returned (.tuple #[.int .u16 17685, .bool true]) ∧ Below w.heap.size w w' := by
  have h := Put_yes (prAt 6).nm 6 19 10 0 0 5 w (by decide) (fun k hk => names_unlike (by decide) hk) (beq_self_eq_true _) (by decide) (by decide) (by decide)
  have e : putR (prAt 6) 10 0 0 5 = 17685 := by decide
  rw [e] at h; exact h
theorem hits0 : ∀ k, k < 27 → hitR (prAt k) 0 = false := by decide +kernel
theorem c2 (w : World) : Calls Try.prog 13 #[.int .u16 0] w fun e w' => e = .returned (.tuple #[.string ⟨#[]⟩, .agg #[.int .i64 0, .int .i64 0, .int .i64 0, .int .i64 0, .int .i32 0], .bool false]) ∧ Below w.heap.size w w' :=
  Get_no 0 w (by decide) (by decide) hits0
theorem hits1 : hitR (prAt 21) 32898 = true ∧ ∀ k, k < 21 → hitR (prAt k) 32898 = false := by decide +kernel
theorem got1 : gRdR (prAt 21) 32898 = 0 ∧ gR1R (prAt 21) 32898 = 1 ∧ gR2R (prAt 21) 32898 = 0 ∧ gImR (prAt 21) 32898 = 0 := by decide +kernel
theorem c3 (w : World) : Calls Try.prog 13 #[.int .u16 32898] w fun e w' => e = .returned (.tuple #[.string ⟨#[99, 46, 106, 114]⟩, .agg #[.int .i64 4, .int .i64 0, .int .i64 1, .int .i64 0, .int .i32 0], .bool true]) ∧ Below w.heap.size w w' := by
  have h := Get_yes 21 32898 w (by decide) (by decide) (by decide) hits1.2 hits1.1
  rw [got1.1, got1.2.1, got1.2.2.1, got1.2.2.2] at h
  exact h
theorem fits2 : fitR (prAt 7) 19 2 2 0 48 = true ∧ ∀ k, k < 7 → fitR (prAt k) 19 2 2 0 48 = false := by decide +kernel
theorem c4 (w : World) : Calls Try.prog 18 #[.agg #[.int .i64 19, .int .i64 2, .int .i64 2, .int .i64 0, .int .i32 48]] w fun e w' => e = .returned (.string ⟨#[99, 46, 97, 100, 100, 105, 49, 54, 115, 112]⟩) ∧ Below w.heap.size w w' :=
  Short_yes 7 19 2 2 0 48 w (by decide) fits2.2 fits2.1 (by decide) (by decide)
set_option maxHeartbeats 1000000 in
theorem awake (w : World) : Calls Try.prog 8 #[] w fun e w' => e = .returned (.bool true) ∧ Below w.heap.size w w' := by
  go_enter Try.func8, Try.ntmps8
  go_wp2_with fail
  refine (c1 _).mono ?_
  rintro e w1 ⟨rfl, hb1⟩
  go_wp2_with fail
  refine (c2 _).mono ?_
  rintro e w2 ⟨rfl, hb2⟩
  replace hb2 := bel_step hb1 hb2
  clear hb1
  go_upto_region 3 with (fail)
  replace hb2 := bel_step hb2 (below_alloc w2 (.cells #[.int .i64 0, .int .i64 0, .int .i64 0, .int .i64 0, .int .i32 0] 23))
  generalize w2.alloc (.cells #[.int .i64 0, .int .i64 0, .int .i64 0, .int .i64 0, .int .i32 0] 23) = w3 at *
  generalize w2.heap.size = p1 at *
  go_wp2_with fail
  refine (c3 _).mono ?_
  rintro e w4 ⟨rfl, hb3⟩
  replace hb2 := bel_step hb2 hb3
  clear hb3
  have k1 := Inst.new w4 23 (.int .i64 4) (.int .i64 0) (.int .i64 1) (.int .i64 0) (.int .i32 0)
  go_upto_region 4 with (fail)
  replace hb2 := bel_step hb2 (below_alloc w4 (.cells #[.int .i64 4, .int .i64 0, .int .i64 1, .int .i64 0, .int .i32 0] 23))
  generalize w4.alloc (.cells #[.int .i64 4, .int .i64 0, .int .i64 1, .int .i64 0, .int .i32 0] 23) = w5 at *
  generalize w4.heap.size = p2 at *
  obtain ⟨l1, i0, i1, i2, i3, i4⟩ := k1
  go_wp2_with fail
  refine (c4 _).mono ?_
  rintro e w6 ⟨rfl, hb3⟩
  replace hb2 := bel_step hb2 hb3
  clear hb3 l1 i0 i1 i2 i3 i4
  go_wp2_with fail
  refine (F.Names _).mono ?_
  rintro e w7 ⟨b, c, rfl, hb3, -, -⟩
  replace hb2 := bel_step hb2 hb3
  clear hb3
  go_wp2
  go_ret
  exact ⟨rfl, hb2⟩
end Go.Proofs.Ytfecjdchgckjhaa.A9
namespace Go.Proofs.Ytfecjdchgckjhaa.A9
set_option linter.unusedVariables false
set_option linter.unusedSimpArgs false
open Go.ChangeShapes Go.WideShapes Go.ChangeAt Go.RowKit Go.Proofs.Ytfecjdchgckjhaa.P Go.Proofs.Ytfecjdchgckjhaa.W Go.Proofs.Ytfecjdchgckjhaa.F

theorem name_of {k : Nat} {name : ByteArray} (h : ((prAt k).nm.toList == name.toList) = true) : (prAt k).nm = name := by
  rw [beq_iff_eq, ByteArray.toList_eq, ByteArray.toList_eq] at h
  cases hn : (prAt k).nm
  cases name
  rw [hn] at h
  simp at h
  rw [h]
/-- which short a name is; 27: none -/
def ixK (name : ByteArray) : Nat → Nat
  | 0 => 27
  | n + 1 => if ((prAt (26 - n)).nm.toList == name.toList) = true then 26 - n else ixK name n
theorem name_cases (name : ByteArray) : (∃ k, k < 27 ∧ (prAt k).nm = name ∧ ((prAt k).nm.toList == name.toList) = true ∧ ∀ j, j < k → ((prAt j).nm.toList == name.toList) = false) ∨ (∀ k, k < 27 → ((prAt k).nm.toList == name.toList) = false) := by
  by_cases h : ∃ k, k < 27 ∧ ((prAt k).nm.toList == name.toList) = true
  · obtain ⟨k, hk, h⟩ := h
    have hn := name_of h
    exact .inl ⟨k, hk, hn, h, fun j hj => by rw [← hn]; exact names_unlike hk hj⟩
  · exact .inr fun k hk => by
      cases hh : ((prAt k).nm.toList == name.toList) with
      | false => rfl
      | true => exact absurd ⟨k, hk, hh⟩ h
/-- press.Put, whatever the name: what it comes to, and what that is worth -/
theorem put_any (name : ByteArray) (op rd rs1 rs2 imm : Int) (i0 : -2147483648 ≤ imm) (i1 : imm < 2147483648) :
    ∃ (x : Int) (m : Bool), (∀ w, Calls Try.prog 9 #[.string name, .agg #[.int .i64 op, .int .i64 rd, .int .i64 rs1, .int .i64 rs2, .int .i32 imm]] w fun e w' => e = .returned (.tuple #[.int .u16 x, .bool m]) ∧ Below w.heap.size w w') ∧
      (0 ≤ x ∧ x < 65536) ∧ (m = false → x = 0 ∧ ∀ k, k < 27 → (prAt k).nm = name → fitR (prAt k) op rd rs1 rs2 imm = false) ∧ (m = true → ∃ k, k < 27 ∧ (prAt k).nm = name ∧ fitR (prAt k) op rd rs1 rs2 imm = true ∧ x = putR (prAt k) rd rs1 rs2 imm) := by
  rcases name_cases name with ⟨k, hk, hn, hy, hl⟩ | hl
  · cases hf : fitR (prAt k) op rd rs1 rs2 imm
    · refine ⟨0, false, fun w => Put_unfit name k op rd rs1 rs2 imm w hk hl hy i0 i1 hf, ⟨by decide, by decide⟩, fun _ => ⟨rfl, fun j hj hjn => ?_⟩, fun h => by cases h⟩
      have : j = k := by
        by_cases h1 : j < k
        · have := hl j h1; rw [hjn] at this; simp at this
        · by_cases h2 : k < j
          · have := names_unlike hj h2; rw [hjn, hn] at this; simp at this
          · omega
      rw [this]; exact hf
    · exact ⟨_, true, fun w => Put_yes name k op rd rs1 rs2 imm w hk hl hy i0 i1 hf, (put_is hk hf).1, (fun h => by cases h), fun _ => ⟨k, hk, hn, hf, rfl⟩⟩
  · refine ⟨0, false, fun w => Put_no name op rd rs1 rs2 imm w hl, ⟨by decide, by decide⟩, fun _ => ⟨rfl, fun j hj hjn => ?_⟩, fun h => by cases h⟩
    have := hl j hj; rw [hjn] at this; simp at this
end Go.Proofs.Ytfecjdchgckjhaa.A9
