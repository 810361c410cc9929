/- What the functions of package press compute: registers, what fits a row. -/
import Derived.Test.YtfecjdchgckjhaaPress0
namespace Go.Proofs.Ytfecjdchgckjhaa.F
set_option linter.unusedVariables false
set_option linter.unusedSimpArgs false
open Go.ChangeShapes Go.WideShapes Go.ChangeAt Go.RowKit Go.Proofs.Ytfecjdchgckjhaa.P Go.Proofs.Ytfecjdchgckjhaa.W

theorem reg (kind n rd : Int) (w : World) (k0 : 0 ≤ kind) (k1 : kind ≤ 10) :
    Calls Try.prog 37 #[.int .i64 kind, .int .i64 n, .int .i64 rd] w fun e w' => e = .returned (.bool (regK kind n rd)) ∧ w = w' := by
  have hc : kind = 0 ∨ kind = 1 ∨ kind = 2 ∨ kind = 3 ∨ kind = 4 ∨ kind = 5 ∨ kind = 6 ∨ kind = 7 ∨ kind = 8 ∨ kind = 9 ∨ kind = 10 := by omega
  rcases hc with rfl | rfl | rfl | rfl | rfl | rfl | rfl | rfl | rfl | rfl | rfl
  all_goals
    go_enter Try.func37, Try.ntmps37
    go_wp2
    all_goals (go_ret; refine ⟨ret_bool ?_, rfl⟩)
    all_goals (simp [regK, bne, *] <;> (try omega))
/-- what may stand in a row -/
structure _root_.Go.Proofs.Ytfecjdchgckjhaa.P.PR.fine (r : PR) : Prop where
  d0 : 0 ≤ r.rd
  d1 : r.rd ≤ 10
  a0 : 0 ≤ r.r1
  a1 : r.r1 ≤ 10
  b0 : 0 ≤ r.r2
  b1 : r.r2 ≤ 10
  u0 : 0 < r.un
  u1 : r.un ≤ 4096
  m0 : 0 ≤ r.m
  m1 : r.m < 65536
  s0 : 0 ≤ r.sg
  s1 : r.sg ≤ 18
theorem fine_all : ∀ k, k < 27 → (0 ≤ (prAt k).rd ∧ (prAt k).rd ≤ 10) ∧ (0 ≤ (prAt k).r1 ∧ (prAt k).r1 ≤ 10) ∧ (0 ≤ (prAt k).r2 ∧ (prAt k).r2 ≤ 10) ∧ (0 < (prAt k).un ∧ (prAt k).un ≤ 4096) ∧ (0 ≤ (prAt k).m ∧ (prAt k).m < 65536) ∧ (0 ≤ (prAt k).sg ∧ (prAt k).sg ≤ 18) := by decide
theorem fine_at {k : Nat} (h : k < 27) : (prAt k).fine := by
  obtain ⟨⟨h1, h2⟩, ⟨h3, h4⟩, ⟨h5, h6⟩, ⟨h7, h8⟩, ⟨h9, ha⟩, hb, hc⟩ := fine_all k h
  exact ⟨h1, h2, h3, h4, h5, h6, h7, h8, h9, ha, hb, hc⟩
theorem Row12.fresh (w : World) (t : TypeId) (r : PR) : Row12 (w.alloc (.cells #[.string r.nm, .int .i64 r.op, .int .u16 r.m, .int .i64 r.rd, .int .i64 r.r1, .int .i64 r.r2, .int .i64 r.sg, .int .i64 r.un, .int .i32 r.lo, .int .i32 r.hi, .bool r.no, .string r.bt] t)) w.heap.size 0 r := Row12.new w t r
theorem tmod_zero (v k : Int) (hk : 0 < k) : (v.tmod k == 0) = (v % k == 0) := by
  rw [Bool.eq_iff_iff, beq_iff_eq, beq_iff_eq, ← Int.dvd_iff_tmod_eq_zero, Int.dvd_iff_emod_eq_zero]
/-- a row as a value -/
def _root_.Go.Proofs.Ytfecjdchgckjhaa.P.PR.val (r : PR) : Value := .agg #[.string r.nm, .int .i64 r.op, .int .u16 r.m, .int .i64 r.rd, .int .i64 r.r1, .int .i64 r.r2, .int .i64 r.sg, .int .i64 r.un, .int .i32 r.lo, .int .i32 r.hi, .bool r.no, .string r.bt]
set_option maxHeartbeats 2000000 in
theorem fits (r : PR) (op rd rs1 rs2 imm : Int) (w : World) (hr : r.fine) (i0 : -2147483648 ≤ imm) (i1 : imm < 2147483648) :
    Calls Try.prog 21 #[.agg #[.string r.nm, .int .i64 r.op, .int .u16 r.m, .int .i64 r.rd, .int .i64 r.r1, .int .i64 r.r2, .int .i64 r.sg, .int .i64 r.un, .int .i32 r.lo, .int .i32 r.hi, .bool r.no, .string r.bt], .agg #[.int .i64 op, .int .i64 rd, .int .i64 rs1, .int .i64 rs2, .int .i32 imm]] w fun e w' => e = .returned (.bool (fitR r op rd rs1 rs2 imm)) ∧ Below w.heap.size w w' := by
  obtain ⟨d0, d1, a0, a1, b0, b1, u0, u1, -, -, -, -⟩ := hr
  have HM := hid (fun w => I.May op rd rs1 rs2 imm w)
  have HD := hid (fun w => reg r.rd rd 0 w d0 d1)
  have HA := hid (fun w => reg r.r1 rs1 rd w a0 a1)
  have HB := hid (fun w => reg r.r2 rs2 rd w b0 b1)
  have ht := tmod_zero imm r.un u0
  have hf : Hid (fitR r op rd rs1 rs2 imm = (mayB op rd rs1 rs2 imm && (op == r.op) && regK r.rd rd 0 && regK r.r1 rs1 rd && regK r.r2 rs2 rd && decide (r.lo ≤ imm) && decide (imm ≤ r.hi) && (imm.tmod r.un == 0) && (r.no || !(imm == 0)))) := hid (by rw [ht]; rfl)
  have z0 := fun w => Row12.fresh w 40 r
  obtain ⟨nm, rop, m, krd, kr1, kr2, sg, un, lo, hi, no, bt⟩ := r
  simp only [] at HD HA HB hf u0 u1 ht ⊢
  clear ht d0 d1 a0 a1 b0 b1 z0
  generalize mayB op rd rs1 rs2 imm = vm at *
  generalize regK krd rd 0 = vd at *
  generalize regK kr1 rs1 rd = va at *
  generalize regK kr2 rs2 rd = vb at *
  go_enter Try.func21, Try.ntmps21
  go_wp2_with fail
  have z0 : Row12 _ w.heap.size 0 ⟨nm, rop, m, krd, kr1, kr2, sg, un, lo, hi, no, bt⟩ := Row12.fresh w 40 ⟨nm, rop, m, krd, kr1, kr2, sg, un, lo, hi, no, bt⟩
  have hb0 := below_alloc w (.cells #[.string nm, .int .i64 rop, .int .u16 m, .int .i64 krd, .int .i64 kr1, .int .i64 kr2, .int .i64 sg, .int .i64 un, .int .i32 lo, .int .i32 hi, .bool no, .string bt] 40)
  have hsz : (w.alloc (.cells #[.string nm, .int .i64 rop, .int .u16 m, .int .i64 krd, .int .i64 kr1, .int .i64 kr2, .int .i64 sg, .int .i64 un, .int .i32 lo, .int .i32 hi, .bool no, .string bt] 40)).heap.size = w.heap.size + 1 := by simp
  simp only [] at z0
  generalize w.alloc (.cells #[.string nm, .int .i64 rop, .int .u16 m, .int .i64 krd, .int .i64 kr1, .int .i64 kr2, .int .i64 sg, .int .i64 un, .int .i32 lo, .int .i32 hi, .bool no, .string bt] 40) = w1 at *
  have z1 := Inst.new w1 23 (.int .i64 op) (.int .i64 rd) (.int .i64 rs1) (.int .i64 rs2) (.int .i32 imm)
  have hb1 := below_alloc w1 (.cells #[.int .i64 op, .int .i64 rd, .int .i64 rs1, .int .i64 rs2, .int .i32 imm] 23)
  rw [hsz] at z1
  generalize w1.alloc (.cells #[.int .i64 op, .int .i64 rd, .int .i64 rs1, .int .i64 rs2, .int .i32 imm] 23) = w2 at *
  replace z0 := z0.below hb1 z0.lt
  replace hb0 := bel_step hb0 hb1
  clear hb1 hsz
  refine (HM.out _).mono ?_
  rintro e w3 ⟨rfl, hb1⟩
  replace z0 := z0.below hb1 z0.lt
  replace z1 := z1.below hb1 z1.lt
  replace hb0 := bel_step hb0 hb1
  clear hb1 HM w1 w2
  obtain ⟨zl, c0, c1, c2, c3, c4, c5, c6, c7, c8, c9, c10, c11⟩ := z0
  obtain ⟨yl, y0, y1, y2, y3, y4⟩ := z1
  simp only [Nat.zero_add] at c0 c1 c2 c3 c4 c5 c6 c7 c8 c9 c10 c11
  cases vm
  · clear HD HA HB
    by_cases e : op = rop
    · subst e
      go_wp2
      go_ret
      exact ⟨ret_bool (by rw [hf.out]; rfl), hb0⟩
    · go_wp2
      go_ret
      exact ⟨ret_bool (by rw [hf.out]; rfl), hb0⟩
  · by_cases e : op = rop
    · subst e
      cases vd <;> cases va <;> cases vb <;> cases no
      all_goals
        go_wp2_with (first | (go_at_call 37; (with_reducible refine (HD.out _).mono ?_); rintro e w' ⟨rfl, rfl⟩) | (go_at_call 37; (with_reducible refine (HA.out _).mono ?_); rintro e w' ⟨rfl, rfl⟩) | (go_at_call 37; (with_reducible refine (HB.out _).mono ?_); rintro e w' ⟨rfl, rfl⟩))
        all_goals go_ret
        all_goals (refine ⟨ret_bool ?_, hb0⟩; rw [hf.out]; clear hf HD HA HB; simp [*, bne] <;> (intros; first | omega | simp_all))
    · have hne : (op != rop) = true := by simpa using e
      have hne2 : (op == rop) = false := by simpa using e
      clear e
      go_wp2
      go_ret
      exact ⟨ret_bool (by rw [hf.out, hne2]; simp), hb0⟩
end Go.Proofs.Ytfecjdchgckjhaa.F
