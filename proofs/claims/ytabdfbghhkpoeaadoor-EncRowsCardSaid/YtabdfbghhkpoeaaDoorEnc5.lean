/- What enc.Put computes. -/
import Derived.Test.YtabdfbghhkpoeaaDoorEncT
import Derived.Test.YtabdfbghhkpoeaaDoorEnc2
import Derived.Test.YtabdfbghhkpoeaaDoorEncPut
import Derived.Test.YtabdfbghhkpoeaaDoorInsArg
namespace Go.Proofs.YtabdfbghhkpoeaaDoor.E
set_option linter.unusedVariables false
set_option linter.unusedSimpArgs false
open Go.ChangeShapes Go.WideShapes Go.ChangeAt Go.RowKit Go.Proofs.YtabdfbghhkpoeaaDoor.P Go.Proofs.YtabdfbghhkpoeaaDoor.W

theorem ret_two' {a b : Int} {p q : Bool} (h1 : a = b) (h2 : p = q) : Ending.returned (.tuple #[.int .u32 a, .bool p]) = .returned (.tuple #[.int .u32 b, .bool q]) := by rw [h1, h2]
theorem may_regs {op rd rs1 rs2 imm : Int} (h : mayB op rd rs1 rs2 imm = true) :
    (1 ≤ op ∧ op ≤ 48) ∧ (1 ≤ form op ∧ form op ≤ 9) ∧ rg rd ∧ rg rs1 ∧ rg rs2 ∧ (hasRd (form op) = false → rd = 0) ∧ (hasRs1 (form op) = false → rs1 = 0) ∧ (hasRs2 (form op) = false → rs2 = 0) := by
  unfold mayB at h
  simp only [Bool.and_eq_true, Bool.not_eq_true', beq_eq_false_iff_ne, ne_eq] at h
  obtain ⟨⟨⟨⟨h0, h1⟩, h2⟩, h3⟩, _⟩ := h
  have hb := form_bd op
  have ho : 1 ≤ op ∧ op ≤ 48 := by
    by_cases k : op < 1 ∨ 48 < op
    · exact absurd (form_none k) h0
    · omega
  have r : ∀ n b, regB n b = true → rg n ∧ (b = false → n = 0) := by
    intro n b hr
    simp only [regB, Bool.and_eq_true, Bool.or_eq_true, decide_eq_true_eq, beq_iff_eq] at hr
    refine ⟨⟨hr.1.1, hr.1.2⟩, fun hb => ?_⟩
    rcases hr.2 with h | h
    · rw [hb] at h; cases h
    · exact h
  exact ⟨ho, by omega, (r _ _ h1).1, (r _ _ h2).1, (r _ _ h3).1, (r _ _ h1).2, (r _ _ h2).2, (r _ _ h3).2⟩

theorem laid (f v : Int) (w : World) (v0 : 0 ≤ v) (v1 : v < 4294967296) (hf : 1 ≤ f ∧ f ≤ 7) (hT : Tabs w) :
    Calls Tryd.prog 20 #[.int .i64 f, .int .u32 v] w fun e w' => e = .returned (.int .u32 (laidV f v)) ∧ ∃ n, w' = w.drewN n := by
  have h : f = 1 ∨ f = 2 ∨ f = 3 ∨ f = 4 ∨ f = 5 ∨ f = 6 ∨ f = 7 := by omega
  rcases h with rfl | rfl | rfl | rfl | rfl | rfl | rfl
  · exact laid1 v w v0 v1 hT.s1
  · exact laid2 v w v0 v1 hT.s2
  · exact laid3 v w v0 v1 hT.s3
  · exact laid4 v w v0 v1 hT.s4
  · exact laid5 v w v0 v1 hT.s5
  · exact laid6 v w v0 v1 hT.s6
  · exact laid7 v w v0 v1 hT.s7
theorem read (f v : Int) (w : World) (v0 : 0 ≤ v) (v1 : v < 4294967296) (hf : 1 ≤ f ∧ f ≤ 7) (hT : Tabs w) :
    Calls Tryd.prog 37 #[.int .i64 f, .int .u32 v] w fun e w' => e = .returned (.int .i32 (readV f v)) ∧ ∃ n, w' = w.drewN n := by
  have h : f = 1 ∨ f = 2 ∨ f = 3 ∨ f = 4 ∨ f = 5 ∨ f = 6 ∨ f = 7 := by omega
  rcases h with rfl | rfl | rfl | rfl | rfl | rfl | rfl
  · exact read1 v w v0 v1 hT.s1 hT.w1
  · exact read2 v w v0 v1 hT.s2 hT.w2
  · exact read3 v w v0 v1 hT.s3 hT.w3
  · exact read4 v w v0 v1 hT.s4 hT.w4
  · exact read5 v w v0 v1 hT.s5 hT.w5
  · exact read6 v w v0 v1 hT.s6 hT.w6
  · exact read7 v w v0 v1 hT.s7 hT.w7

/-- the steps in which a word is put together -/
theorem put_steps {op rd rs1 rs2 imm : Int} (h : mayB op rd rs1 rs2 imm = true) :
    bits .or .u32 (matchV op) (rd * 128) = matchV op + rd * 128 ∧ bits .or .u32 (matchV op + rd * 128) (rs1 * 32768) = matchV op + rd * 128 + rs1 * 32768 ∧
    bits .or .u32 (matchV op + rd * 128 + rs1 * 32768) (rs2 * 1048576) = matchV op + rd * 128 + rs1 * 32768 + rs2 * 1048576 ∧
    (form op ≠ 8 → form op ≠ 9 → bits .or .u32 (matchV op + rd * 128 + rs1 * 32768 + rs2 * 1048576) (laidV (form op) (imm % 4294967296)) = encW op rd rs1 rs2 imm) ∧
    (form op = 8 ∨ form op = 9 → matchV op + rd * 128 + rs1 * 32768 + rs2 * 1048576 = encW op rd rs1 rs2 imm) ∧ 0 ≤ matchV op ∧ matchV op < 4294967296 := by
  obtain ⟨ho, hf, a, b, d, hd, hs, ht⟩ := may_regs h
  have hm : 0 ≤ matchV op ∧ matchV op < 4294967296 := by
    have : ∀ k : Nat, k < 48 → 0 ≤ matchV ((k : Int) + 1) ∧ matchV ((k : Int) + 1) < 4294967296 := by decide
    have := this (op - 1).toNat (by omega)
    rw [show (((op - 1).toNat : Nat) : Int) + 1 = op by omega] at this
    exact this
  by_cases h9 : form op = 9
  · obtain rfl := hd (by rw [h9]; rfl)
    obtain rfl := hs (by rw [h9]; rfl)
    obtain rfl := ht (by rw [h9]; rfl)
    have z := or_zero' (matchV op) hm.1 hm.2
    refine ⟨by simpa using z, by simpa using z, by simpa using z, fun _ h => absurd h9 h, fun _ => ?_, hm⟩
    unfold encW laidV; rw [h9]; simp
  · obtain ⟨e, h70, h71, h7⟩ := match_parts op ho.1 ho.2 h9
    obtain ⟨s1, s2, s3⟩ := reg_steps (mC op) (m3 op) (m7 op) rd rs1 rs2 (mC_bd op) (m3_bd op) ⟨h70, h71⟩ a b d
    rw [← e] at s1 s2 s3
    refine ⟨s1, s2, s3, fun h8 _ => ?_, fun hh => ?_, hm⟩
    · have hw : form op = 1 ∨ form op = 2 → m3 op = 0 := by
        intro h12
        have h3 : op ≤ 3 := by
          by_cases k : op ≤ 3
          · exact k
          · exfalso
            have : 3 < op := by omega
            unfold form at h12
            revert h12
            repeat' split
            all_goals omega
        have := match_wide (op - 1).toNat (by omega)
        rw [show (((op - 1).toNat : Nat) : Int) + 1 = op by omega] at this
        exact this
      have := laid_step (mC op) (m3 op) (m7 op) rd rs1 rs2 (form op) (imm % 4294967296) (mC_bd op) (m3_bd op) ⟨h70, h71⟩ a b d (by omega) (by omega) (by omega) hd hs ht (by omega) hw
      rw [← e] at this
      exact this
    · unfold encW
      rcases hh with h8 | h8
      · have : laidV (form op) (imm % 4294967296) = 0 := by rw [h8]; rfl
        rw [this]; omega
      · exact absurd h8 h9

set_option maxHeartbeats 2000000 in
theorem Put_yes (op rd rs1 rs2 imm : Int) (w : World) (hm : mayB op rd rs1 rs2 imm = true) (i0 : -2147483648 ≤ imm) (i1 : imm < 2147483648) (hT : Tabs w) :
    Calls Tryd.prog 8 #[.agg #[.int .i64 op, .int .i64 rd, .int .i64 rs1, .int .i64 rs2, .int .i32 imm]] w fun e w' => e = .returned (.tuple #[.int .u32 (encW op rd rs1 rs2 imm), .bool true]) ∧ Below w.heap.size w w' := by
  obtain ⟨ho, hf, ⟨a0, a1⟩, ⟨b0, b1⟩, ⟨d0, d1⟩, -, -, -⟩ := may_regs hm
  obtain ⟨s1, s2, s3, s4, s5, m0, m1⟩ := put_steps hm
  obtain ⟨n, hn⟩ : ∃ n : Nat, op = (n : Int) + 1 := ⟨(op - 1).toNat, by omega⟩
  have hn48 : n < 48 := by omega
  have hlow : ∀ k, k < n → ((encL.getD k (0, 0, 0)).1 == op) = false := by
    intro k hk
    rw [encL_op k (by omega)]
    simp only [beq_eq_false_iff_ne, ne_eq]; omega
  have hyes : ((encL.getD n (0, 0, 0)).1 == op) = true := by rw [encL_op n hn48, hn]; simp
  have hmv : (encL.getD n (0, 0, 0)).2.1 = matchV op := by unfold matchV; rw [show (op - 1).toNat = n by omega]
  have hF := fun b pb w hR hp hc => firstPut op n b pb w hn48 hR hp hc hlow hyes
  rw [hmv] at hF
  have HF := hid hF
  have HM := hid (fun w => I.May op rd rs1 rs2 imm w)
  have HFO := hid (fun w => I.FormOf op w)
  rw [hm] at HM
  clear hlow hyes hmv hF hn hm
  generalize (encL.getD n (0, 0, 0)).1 = q0 at *
  generalize (encL.getD n (0, 0, 0)).2.2 = q2 at *
  generalize encW op rd rs1 rs2 imm = r at *
  generalize matchV op = m at *
  generalize form op = f at *
  have h8 : (f = 8) ∨ (f = 9) ∨ ((f == 8) = false ∧ (f == 9) = false ∧ f ≤ 7) := by
    by_cases x : f = 8
    · exact .inl x
    · by_cases y : f = 9
      · exact .inr (.inl y)
      · exact .inr (.inr ⟨by simpa using x, by simpa using y, by omega⟩)
  have hv : 0 ≤ imm % 4294967296 ∧ imm % 4294967296 < 4294967296 := by omega
  obtain ⟨v0, v1⟩ := hv
  have S5 := hid s5
  have S4 := hid s4
  clear s5 s4
  go_enter Tryd.func8, Tryd.ntmps8
  go_wp2_with fail
  have z0 := Inst.new w 23 (.int .i64 op) (.int .i64 rd) (.int .i64 rs1) (.int .i64 rs2) (.int .i32 imm)
  have hb0 := below_alloc w (.cells #[.int .i64 op, .int .i64 rd, .int .i64 rs1, .int .i64 rs2, .int .i32 imm] 23)
  generalize w.alloc (.cells #[.int .i64 op, .int .i64 rd, .int .i64 rs1, .int .i64 rs2, .int .i32 imm] 23) = w1 at *
  refine (HM.out _).mono ?_
  rintro e w2 ⟨rfl, hb1⟩
  replace z0 := z0.below hb1 z0.lt
  replace hb0 := bel_step hb0 hb1
  clear hb1
  go_wp2_with fail
  refine (Rows _).mono ?_
  rintro e w3 ⟨b, rfl, hR, hbb, hb1⟩
  replace z0 := z0.below hb1 z0.lt
  replace hb0 := bel_step hb0 hb1
  clear hb1
  go_wp2_with fail
  refine (HF.out b w.heap.size _ hR z0.lt z0.c0).mono ?_
  rintro e w4 ⟨rfl, hb1⟩
  replace z0 := z0.below hb1 z0.lt
  replace hb0 := bel_step hb0 hb1
  clear hb1 hR
  obtain ⟨zl, c0, c1, c2, c3, c4⟩ := z0
  have hne : w.heap.size ≠ w4.heap.size := by omega
  have HT := hid hT
  clear hT HF HM
  rcases h8 with rfl | rfl | ⟨k8, k9, k7⟩
  all_goals
    go_wp2_with (first | (go_at_call 19; (with_reducible refine (HFO.out _).mono ?_); rintro e w' ⟨rfl, rfl⟩) | (go_at_call 20; (refine (laid f _ _ v0 v1 ⟨by omega, by omega⟩ (Tabs.below HT.out (by repeat' (first | (with_reducible exact Below.refl _ _) | (with_reducible assumption) | (with_reducible refine below_drewN ?_ _) | (with_reducible refine Below.alloc ?_ ?_ _) | (with_reducible refine Below.drew ?_) | (with_reducible refine Below.setCell ?_ ?_ _) | (with_reducible exact Below.size (by assumption)) | go_size)))).mono ?_); rintro e w' ⟨rfl, q, rfl⟩))
    go_ret2
    refine ⟨ret_two' ?_ rfl, (by repeat' (first | (with_reducible exact Below.refl _ _) | (with_reducible assumption) | (with_reducible refine below_drewN ?_ _) | (with_reducible refine Below.alloc ?_ ?_ _) | (with_reducible refine Below.drew ?_) | (with_reducible refine Below.setCell ?_ ?_ _) | (with_reducible exact Below.size (by assumption)) | go_size))⟩
    first | (exact S5.out (by simp; done)) | (exact S4.out (by simpa using k8) (by simpa using k9))
set_option maxHeartbeats 1000000 in
theorem Put_no (op rd rs1 rs2 imm : Int) (w : World) (hm : mayB op rd rs1 rs2 imm = false) :
    Calls Tryd.prog 8 #[.agg #[.int .i64 op, .int .i64 rd, .int .i64 rs1, .int .i64 rs2, .int .i32 imm]] w fun e w' => e = .returned (.tuple #[.int .u32 0, .bool false]) ∧ Below w.heap.size w w' := by
  have HM := hid (fun w => I.May op rd rs1 rs2 imm w)
  rw [hm] at HM
  go_enter Tryd.func8, Tryd.ntmps8
  go_wp2_with (first | (go_at_call 16; (with_reducible refine (HM.out _).mono ?_); rintro e w' ⟨rfl, hbel⟩; (try (with_reducible replace hbel := bel_undrew hbel)); (try (with_reducible replace hbel := bel_undrewN hbel)); have hbw := bel_step (w := w) (by repeat' (first | (with_reducible exact Below.refl _ _) | (with_reducible assumption) | (with_reducible refine below_drewN ?_ _) | (with_reducible refine Below.alloc ?_ ?_ _) | (with_reducible refine Below.drew ?_) | (with_reducible refine Below.setCell ?_ ?_ _) | (with_reducible exact Below.size (by assumption)) | go_size)) hbel; have hsw := hbw.size; have hsb := hbel.size; (try simp at hsb); (try (refine lay (p := w.heap.size < w'.heap.size) ?_ ?_; rotate_left; intro hq0; rotate_left; omega)); (try (refine lay (p := w.heap.size + 1 < w'.heap.size) ?_ ?_; rotate_left; intro hq1; rotate_left; omega)); (try (refine lay (p := w.heap.size + 2 < w'.heap.size) ?_ ?_; rotate_left; intro hq2; rotate_left; omega)); (try (refine lay (p := w.heap.size + 3 < w'.heap.size) ?_ ?_; rotate_left; intro hq3; rotate_left; omega)); (try (refine lay (p := w.heap.size + 4 < w'.heap.size) ?_ ?_; rotate_left; intro hq4; rotate_left; omega)); (try (refine lay (p := w.heap.size + 5 < w'.heap.size) ?_ ?_; rotate_left; intro hq5; rotate_left; omega)); obtain ⟨hcel, hfro⟩ := bcell hbel; clear hbel))
  go_ret2
  exact ⟨rfl, (by repeat' (first | (with_reducible exact Below.refl _ _) | (with_reducible assumption) | (with_reducible refine below_drewN ?_ _) | (with_reducible refine Below.alloc ?_ ?_ _) | (with_reducible refine Below.drew ?_) | (with_reducible refine Below.setCell ?_ ?_ _) | (with_reducible exact Below.size (by assumption)) | go_size))⟩
end Go.Proofs.YtabdfbghhkpoeaaDoor.E
