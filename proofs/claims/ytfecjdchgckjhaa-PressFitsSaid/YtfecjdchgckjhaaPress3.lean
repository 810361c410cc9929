/- What the functions of package press compute: the first short; a register laid; the unit's shift. -/
import Derived.Test.YtfecjdchgckjhaaPress2
namespace Go.Proofs.Ytfecjdchgckjhaa.F
set_option linter.unusedVariables false
set_option linter.unusedSimpArgs false
open Go.ChangeShapes Go.WideShapes Go.ChangeAt Go.RowKit Go.Proofs.Ytfecjdchgckjhaa.P Go.Proofs.Ytfecjdchgckjhaa.W

set_option maxHeartbeats 2000000 in
theorem Short_yes (n : Nat) (op rd rs1 rs2 imm : Int) (w : World) (hn : n < 27) (hlow : ∀ k, k < n → fitR (prAt k) op rd rs1 rs2 imm = false) (hyes : fitR (prAt n) op rd rs1 rs2 imm = true) (i0 : -2147483648 ≤ imm) (i1 : imm < 2147483648) :
    Calls Try.prog 18 #[.agg #[.int .i64 op, .int .i64 rd, .int .i64 rs1, .int .i64 rs2, .int .i32 imm]] w fun e w' => e = .returned (.string (prAt n).nm) ∧ Below w.heap.size w w' := by
  have HL := hid hlow
  have HY := hid hyes
  clear hlow hyes
  go_enter Try.func18, Try.ntmps18
  go_wp2_with fail
  have z0 := Inst.new w 23 (.int .i64 op) (.int .i64 rd) (.int .i64 rs1) (.int .i64 rs2) (.int .i32 imm)
  have hb0 := below_alloc w (.cells #[.int .i64 op, .int .i64 rd, .int .i64 rs1, .int .i64 rs2, .int .i32 imm] 23)
  generalize w.alloc (.cells #[.int .i64 op, .int .i64 rd, .int .i64 rs1, .int .i64 rs2, .int .i32 imm] 23) = w0 at *
  go_step3
  go_wp2_with fail
  go_step3
  go_wp2_with fail
  refine (rows _).mono ?_
  rintro e w1 ⟨b, rfl, hR, hbb, hb1⟩
  replace z0 := hid (z0.below hb1 z0.lt)
  replace hb0 := bel_step hb0 hb1
  replace hR := hid hR
  clear hb1 hbb
  go_wp2
  go_loopw [7] (fun i wr => ∃ k : Nat, k ≤ n ∧ i = .int .i64 k ∧ Below w1.heap.size w1 wr) (fun i _ => n + 1 - (intOf i).toNat)
  case atStart => exact ⟨0, by omega, rfl, Below.refl _ _⟩
  case round =>
    obtain ⟨k, hk, rfl, hbel⟩ := hrel
    have hsz := hbel.size
    have hbw : Below w.heap.size w wr := bel_step hb0 hbel
    obtain ⟨hb, hcells⟩ := hR.out.below hbel
    have hrow := hcells k (by omega)
    have z1 := z0.out.below hbel z0.out.lt
    have hlt : (k : Int) < 27 := by omega
    have HF := hid (fun w => fits (prAt k) op rd rs1 rs2 imm w (fine_at (show k < 27 by omega)) i0 i1)
    have hv : fitR (prAt k) op rd rs1 rs2 imm = if k < n then false else true := by
      split
      · exact HL.out k (by assumption)
      · obtain rfl : k = n := by omega
        exact HY.out
    rw [hv] at HF
    clear hcells hv
    generalize hr : prAt k = r at *
    have HR := hid hr
    clear hr
    obtain ⟨nm, rop, m, krd, kr1, kr2, sg, un, lo, hi, no, bt⟩ := r
    simp only [] at HF
    obtain ⟨rl, c0, c1, c2, c3, c4, c5, c6, c7, c8, c9, c10, c11⟩ := hrow
    simp only [] at c0 c1 c2 c3 c4 c5 c6 c7 c8 c9 c10 c11
    have zr : Row12 (wr.alloc (.cells #[.string nm, .int .i64 rop, .int .u16 m, .int .i64 krd, .int .i64 kr1, .int .i64 kr2, .int .i64 sg, .int .i64 un, .int .i32 lo, .int .i32 hi, .bool no, .string bt] 40)) wr.heap.size 0 ⟨nm, rop, m, krd, kr1, kr2, sg, un, lo, hi, no, bt⟩ := Row12.fresh wr 40 ⟨nm, rop, m, krd, kr1, kr2, sg, un, lo, hi, no, bt⟩
    replace z1 := z1.below (below_alloc wr (.cells #[.string nm, .int .i64 rop, .int .u16 m, .int .i64 krd, .int .i64 kr1, .int .i64 kr2, .int .i64 sg, .int .i64 un, .int .i32 lo, .int .i32 hi, .bool no, .string bt] 40)) z1.lt
    have hbw2 : Below w1.heap.size w1 (wr.alloc (.cells #[.string nm, .int .i64 rop, .int .u16 m, .int .i64 krd, .int .i64 kr1, .int .i64 kr2, .int .i64 sg, .int .i64 un, .int .i32 lo, .int .i32 hi, .bool no, .string bt] 40)) := bel_step hbel (below_alloc wr _)
    go_upto_region 4 with (fail)
    clear rl c0 c1 c2 c3 c4 c5 c6 c7 c8 c9 c10 c11
    generalize wr.alloc (.cells #[.string nm, .int .i64 rop, .int .u16 m, .int .i64 krd, .int .i64 kr1, .int .i64 kr2, .int .i64 sg, .int .i64 un, .int .i32 lo, .int .i32 hi, .bool no, .string bt] 40) = w2 at *
    obtain ⟨rl, c0, c1, c2, c3, c4, c5, c6, c7, c8, c9, c10, c11⟩ := id zr
    obtain ⟨yl, y0, y1, y2, y3, y4⟩ := z1
    simp only [Nat.zero_add] at c0 c1 c2 c3 c4 c5 c6 c7 c8 c9 c10 c11
    have ZR := hid zr
    clear zr
    go_wp2_with fail
    refine (HF.out _).mono ?_
    rintro e w3 ⟨rfl, hb1⟩
    have hbw3 : Below w1.heap.size w1 w3 := bel_step hbw2 hb1
    have d0 := (hb1.cell (p := ⟨wr.heap.size, 0, none⟩) rl).trans c0
    have hw3 : Below w.heap.size w w3 := bel_step hb0 hbw3
    clear HF hb1 hbw2 hbel hb yl y0 y1 y2 y3 y4 rl c0 c1 c2 c3 c4 c5 c6 c7 c8 c9 c10 c11 ZR
    by_cases hs : k < n
    · rw [if_pos hs]
      go_wp2
      go_roundw
      case rel => exact ⟨k + 1, by omega, by go_num, hbw3⟩
      case measure => simp [intOf]; omega
    · rw [if_neg hs]
      obtain rfl : k = n := by omega
      go_wp2
      rw [Exit.noGoto_ret]
      go_ret
      exact ⟨by rw [HR.out]; rfl, hw3⟩
set_option maxHeartbeats 2000000 in
theorem Short_no (op rd rs1 rs2 imm : Int) (w : World) (hlow : ∀ k, k < 27 → fitR (prAt k) op rd rs1 rs2 imm = false) (i0 : -2147483648 ≤ imm) (i1 : imm < 2147483648) :
    Calls Try.prog 18 #[.agg #[.int .i64 op, .int .i64 rd, .int .i64 rs1, .int .i64 rs2, .int .i32 imm]] w fun e w' => e = .returned (.string ⟨#[]⟩) ∧ Below w.heap.size w w' := by
  have HL := hid hlow
  clear hlow
  go_enter Try.func18, Try.ntmps18
  go_wp2_with fail
  have z0 := Inst.new w 23 (.int .i64 op) (.int .i64 rd) (.int .i64 rs1) (.int .i64 rs2) (.int .i32 imm)
  have hb0 := below_alloc w (.cells #[.int .i64 op, .int .i64 rd, .int .i64 rs1, .int .i64 rs2, .int .i32 imm] 23)
  generalize w.alloc (.cells #[.int .i64 op, .int .i64 rd, .int .i64 rs1, .int .i64 rs2, .int .i32 imm] 23) = w0 at *
  go_step3
  go_wp2_with fail
  go_step3
  go_wp2_with fail
  refine (rows _).mono ?_
  rintro e w1 ⟨b, rfl, hR, hbb, hb1⟩
  replace z0 := hid (z0.below hb1 z0.lt)
  replace hb0 := bel_step hb0 hb1
  replace hR := hid hR
  clear hb1 hbb
  go_wp2
  go_loopw [7] (fun i wr => ∃ k : Nat, k ≤ 27 ∧ i = .int .i64 k ∧ Below w1.heap.size w1 wr) (fun i _ => 27 + 1 - (intOf i).toNat)
  case atStart => exact ⟨0, by omega, rfl, Below.refl _ _⟩
  case round =>
    obtain ⟨k, hk, rfl, hbel⟩ := hrel
    have hsz := hbel.size
    by_cases hs : k < 27
    · obtain ⟨hb, hcells⟩ := hR.out.below hbel
      have hrow := hcells k (by omega)
      have z1 := z0.out.below hbel z0.out.lt
      have hlt : (k : Int) < 27 := by omega
      have HF := hid (fun w => fits (prAt k) op rd rs1 rs2 imm w (fine_at (show k < 27 by omega)) i0 i1)
      rw [HL.out k hs] at HF
      clear hcells
      generalize prAt k = r at *
      obtain ⟨nm, rop, m, krd, kr1, kr2, sg, un, lo, hi, no, bt⟩ := r
      simp only [] at HF
      obtain ⟨rl, c0, c1, c2, c3, c4, c5, c6, c7, c8, c9, c10, c11⟩ := hrow
      simp only [] at c0 c1 c2 c3 c4 c5 c6 c7 c8 c9 c10 c11
      have zr : Row12 (wr.alloc (.cells #[.string nm, .int .i64 rop, .int .u16 m, .int .i64 krd, .int .i64 kr1, .int .i64 kr2, .int .i64 sg, .int .i64 un, .int .i32 lo, .int .i32 hi, .bool no, .string bt] 40)) wr.heap.size 0 ⟨nm, rop, m, krd, kr1, kr2, sg, un, lo, hi, no, bt⟩ := Row12.fresh wr 40 ⟨nm, rop, m, krd, kr1, kr2, sg, un, lo, hi, no, bt⟩
      replace z1 := z1.below (below_alloc wr (.cells #[.string nm, .int .i64 rop, .int .u16 m, .int .i64 krd, .int .i64 kr1, .int .i64 kr2, .int .i64 sg, .int .i64 un, .int .i32 lo, .int .i32 hi, .bool no, .string bt] 40)) z1.lt
      have hbw2 : Below w1.heap.size w1 (wr.alloc (.cells #[.string nm, .int .i64 rop, .int .u16 m, .int .i64 krd, .int .i64 kr1, .int .i64 kr2, .int .i64 sg, .int .i64 un, .int .i32 lo, .int .i32 hi, .bool no, .string bt] 40)) := bel_step hbel (below_alloc wr _)
      go_upto_region 4 with (fail)
      clear rl c0 c1 c2 c3 c4 c5 c6 c7 c8 c9 c10 c11
      generalize wr.alloc (.cells #[.string nm, .int .i64 rop, .int .u16 m, .int .i64 krd, .int .i64 kr1, .int .i64 kr2, .int .i64 sg, .int .i64 un, .int .i32 lo, .int .i32 hi, .bool no, .string bt] 40) = w2 at *
      obtain ⟨rl, c0, c1, c2, c3, c4, c5, c6, c7, c8, c9, c10, c11⟩ := zr
      obtain ⟨yl, y0, y1, y2, y3, y4⟩ := z1
      simp only [Nat.zero_add] at c0 c1 c2 c3 c4 c5 c6 c7 c8 c9 c10 c11
      go_wp2_with fail
      refine (HF.out _).mono ?_
      rintro e w3 ⟨rfl, hb1⟩
      have hbw3 : Below w1.heap.size w1 w3 := bel_step hbw2 hb1
      clear HF hb1 hbw2 hbel hb yl y0 y1 y2 y3 y4 rl c0 c1 c2 c3 c4 c5 c6 c7 c8 c9 c10 c11
      go_wp2
      go_roundw
      case rel => exact ⟨k + 1, by omega, by go_num, hbw3⟩
      case measure => simp [intOf]; omega
    · obtain rfl : k = 27 := by omega
      go_wp2
      try rw [Exit.noGoto_ret]
      go_ret
      exact ⟨rfl, bel_step hb0 hbel⟩

/-- what a register of a kind is, where it is laid -/
def kindOk (kind n : Int) : Prop := (kind = 6 ∨ kind = 7 → 8 ≤ n ∧ n < 16) ∧ (0 ≤ n ∧ n < 32)
theorem laid (kind n : Int) (w : World) (k0 : 0 ≤ kind) (k1 : kind ≤ 10) (h : kindOk kind n) :
    Calls Try.prog 38 #[.int .i64 kind, .int .i64 n] w fun e w' => e = .returned (.int .u16 (laidK kind n)) ∧ w = w' := by
  obtain ⟨h1, n0, n1⟩ := h
  have hc : kind = 0 ∨ kind = 1 ∨ kind = 2 ∨ kind = 3 ∨ kind = 4 ∨ kind = 5 ∨ kind = 6 ∨ kind = 7 ∨ kind = 8 ∨ kind = 9 ∨ kind = 10 := by omega
  have hm : kind = 6 ∨ kind = 7 → 0 ≤ n - 8 ∧ n - 8 < 8 := fun e => by have := h1 e; omega
  by_cases e : kind = 6 ∨ kind = 7
  · obtain ⟨m0, m1⟩ := hm e
    clear hm h1 hc
    rcases e with rfl | rfl
    all_goals
      go_enter Try.func38, Try.ntmps38
      go_wp2
      all_goals (go_ret; refine ⟨ret_int ?_, rfl⟩)
      all_goals (simp [laidK] <;> (try omega))
  · clear hm h1
    rcases hc with rfl | rfl | rfl | rfl | rfl | rfl | rfl | rfl | rfl | rfl | rfl
    all_goals try (exact absurd (by decide) e)
    all_goals
      clear e
      go_enter Try.func38, Try.ntmps38
      go_wp2
      all_goals (go_ret; refine ⟨ret_int ?_, rfl⟩)
      all_goals (simp [laidK] <;> (try omega))
end Go.Proofs.Ytfecjdchgckjhaa.F
