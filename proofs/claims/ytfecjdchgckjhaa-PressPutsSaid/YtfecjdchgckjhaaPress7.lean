/- What press.Put and press.Get compute. -/
import Derived.Test.YtfecjdchgckjhaaPress5
import Derived.RegionTactic
import Derived.BigRegion
namespace Go.Proofs.Ytfecjdchgckjhaa.F
set_option linter.unusedVariables false
set_option linter.unusedSimpArgs false
open Go.ChangeShapes Go.WideShapes Go.ChangeAt Go.RowKit Go.Proofs.Ytfecjdchgckjhaa.P Go.Proofs.Ytfecjdchgckjhaa.W

theorem may_regs {op rd rs1 rs2 imm : Int} (h : mayB op rd rs1 rs2 imm = true) : rg rd ∧ rg rs1 ∧ rg rs2 := by
  unfold mayB at h
  simp only [Bool.and_eq_true, Bool.not_eq_true', beq_eq_false_iff_ne, ne_eq] at h
  obtain ⟨⟨⟨⟨h0, h1⟩, h2⟩, h3⟩, h4⟩ := h
  have r : ∀ n b, regB n b = true → rg n := by
    intro n b hr
    simp only [regB, Bool.and_eq_true, Bool.or_eq_true, decide_eq_true_eq, beq_iff_eq] at hr
    exact ⟨hr.1.1, hr.1.2⟩
  exact ⟨r _ _ h1, r _ _ h2, r _ _ h3⟩
theorem kind_ok {kind n rd : Int} (h : regK kind n rd = true) (r : rg n) : kindOk kind n := by
  refine ⟨fun e => ?_, r⟩
  unfold regK at h
  rw [if_neg (by omega), if_neg (by omega), if_pos e] at h
  simpa using h
theorem fit_may {r : PR} {op rd rs1 rs2 imm : Int} (h : fitR r op rd rs1 rs2 imm = true) : mayB op rd rs1 rs2 imm = true ∧ op = r.op := by
  unfold fitR at h
  simp only [Bool.and_eq_true, beq_iff_eq] at h
  exact ⟨h.1.1.1.1.1.1.1.1, h.1.1.1.1.1.1.1.2⟩
theorem fit_kinds {r : PR} {op rd rs1 rs2 imm : Int} (h : fitR r op rd rs1 rs2 imm = true) : kindOk r.rd rd ∧ kindOk r.r1 rs1 ∧ kindOk r.r2 rs2 := by
  obtain ⟨r0, r1, r2⟩ := may_regs (fit_may h).1
  unfold fitR at h
  simp only [Bool.and_eq_true] at h
  exact ⟨kind_ok h.1.1.1.1.1.1.2 r0, kind_ok h.1.1.1.1.1.2 r1, kind_ok h.1.1.1.1.2 r2⟩
theorem gIm_bd (r : PR) (h : Int) (s1 : r.sg ≤ 18) : -2147483648 ≤ gImR r h ∧ gImR r h < 2147483648 := by
  unfold gImR
  split
  · have := sgn_bd (gotV r h) (b := r.sg.toNat) (by omega); omega
  · have := sgn_bd (gotV r h) (b := 32) (by omega); omega
theorem bits_all : ∀ k, k < 27 → (∀ c ∈ (prAt k).bt.data.toList, 97 ≤ c.toNat ∧ c.toNat ≤ 107) ∧ (prAt k).bt.size ≤ 11 := by decide

/-- the row fits, and the parcel is put as it was -/
def hitR (r : PR) (h : Int) : Bool := fitR r r.op (gRdR r h) (gR1R r h) (gR2R r h) (gImR r h) && (putR r (gRdR r h) (gR1R r h) (gR2R r h) (gImR r h) == h)

set_option maxHeartbeats 2000000 in
theorem Put_yes (name : ByteArray) (n : Nat) (op rd rs1 rs2 imm : Int) (w : World) (hn : n < 27) (hlow : ∀ k, k < n → ((prAt k).nm.toList == name.toList) = false) (hyes : ((prAt n).nm.toList == name.toList) = true) (i0 : -2147483648 ≤ imm) (i1 : imm < 2147483648) (hf : fitR (prAt n) op rd rs1 rs2 imm = true) :
    Calls Try.prog 9 #[.string name, .agg #[.int .i64 op, .int .i64 rd, .int .i64 rs1, .int .i64 rs2, .int .i32 imm]] w fun e w' => e = .returned (.tuple #[.int .u16 (putR (prAt n) rd rs1 rs2 imm), .bool true]) ∧ Below w.heap.size w w' := by
  have HO := hid (fun w => of_yes name n w hn hlow hyes)
  have HF := hid (fun w => fits (prAt n) op rd rs1 rs2 imm w (fine_at hn) i0 i1)
  obtain ⟨kd, ka, kb⟩ := fit_kinds hf
  have HP := hid (fun w => put (prAt n) op rd rs1 rs2 imm w (fine_at hn) (unit_all n hn) (bits_all n hn).1 (bits_all n hn).2 kd ka kb i0 i1)
  rw [hf] at HF
  clear hlow hyes hf kd ka kb
  generalize putR (prAt n) rd rs1 rs2 imm = v at *
  generalize prAt n = r at *
  obtain ⟨nm, rop, m, krd, kr1, kr2, sg, un, lo, hi, no, bt⟩ := r
  simp only [] at HF HP
  simp only [PR.val] at HO
  go_enter Try.func9, Try.ntmps9
  go_wp2_with fail
  have z0 := Inst.new w 23 (.int .i64 op) (.int .i64 rd) (.int .i64 rs1) (.int .i64 rs2) (.int .i32 imm)
  have hb0 := below_alloc w (.cells #[.int .i64 op, .int .i64 rd, .int .i64 rs1, .int .i64 rs2, .int .i32 imm] 23)
  generalize w.alloc (.cells #[.int .i64 op, .int .i64 rd, .int .i64 rs1, .int .i64 rs2, .int .i32 imm] 23) = w1 at *
  refine (HO.out _).mono ?_
  rintro e w2 ⟨rfl, hb1⟩
  replace z0 := z0.below hb1 z0.lt
  replace hb0 := bel_step hb0 hb1
  clear hb1 HO w1
  have zr : Row12 (w2.alloc (.cells #[.string nm, .int .i64 rop, .int .u16 m, .int .i64 krd, .int .i64 kr1, .int .i64 kr2, .int .i64 sg, .int .i64 un, .int .i32 lo, .int .i32 hi, .bool no, .string bt] 40)) w2.heap.size 0 ⟨nm, rop, m, krd, kr1, kr2, sg, un, lo, hi, no, bt⟩ := Row12.fresh w2 40 ⟨nm, rop, m, krd, kr1, kr2, sg, un, lo, hi, no, bt⟩
  go_upto_region 2 with (fail)
  replace z0 := z0.below (below_alloc w2 (.cells #[.string nm, .int .i64 rop, .int .u16 m, .int .i64 krd, .int .i64 kr1, .int .i64 kr2, .int .i64 sg, .int .i64 un, .int .i32 lo, .int .i32 hi, .bool no, .string bt] 40)) z0.lt
  replace hb0 := bel_step hb0 (below_alloc w2 (.cells #[.string nm, .int .i64 rop, .int .u16 m, .int .i64 krd, .int .i64 kr1, .int .i64 kr2, .int .i64 sg, .int .i64 un, .int .i32 lo, .int .i32 hi, .bool no, .string bt] 40))
  generalize w2.alloc (.cells #[.string nm, .int .i64 rop, .int .u16 m, .int .i64 krd, .int .i64 kr1, .int .i64 kr2, .int .i64 sg, .int .i64 un, .int .i32 lo, .int .i32 hi, .bool no, .string bt] 40) = w3 at *
  obtain ⟨rl, c0, c1, c2, c3, c4, c5, c6, c7, c8, c9, c10, c11⟩ := id zr
  simp only [Nat.zero_add] at c0 c1 c2 c3 c4 c5 c6 c7 c8 c9 c10 c11
  obtain ⟨yl, y0, y1, y2, y3, y4⟩ := id z0
  have ZR := hid zr
  have Z0 := hid z0
  clear zr z0
  go_wp2_with fail
  refine (HF.out _).mono ?_
  rintro e w4 ⟨rfl, hb1⟩
  have zr := ZR.out.below hb1 ZR.out.lt
  have z0 := Z0.out.below hb1 Z0.out.lt
  replace hb0 := bel_step hb0 hb1
  clear hb1 rl c0 c1 c2 c3 c4 c5 c6 c7 c8 c9 c10 c11 yl y0 y1 y2 y3 y4 ZR Z0 HF
  obtain ⟨rl, c0, c1, c2, c3, c4, c5, c6, c7, c8, c9, c10, c11⟩ := zr
  simp only [Nat.zero_add] at c0 c1 c2 c3 c4 c5 c6 c7 c8 c9 c10 c11
  obtain ⟨yl, y0, y1, y2, y3, y4⟩ := z0
  go_wp2_with fail
  refine (HP.out _).mono ?_
  rintro e w5 ⟨rfl, hb1⟩
  replace hb0 := bel_step hb0 hb1
  clear hb1 rl c0 c1 c2 c3 c4 c5 c6 c7 c8 c9 c10 c11 yl y0 y1 y2 y3 y4
  go_wp2
  go_ret2
  exact ⟨rfl, hb0⟩
set_option maxHeartbeats 2000000 in
theorem Put_unfit (name : ByteArray) (n : Nat) (op rd rs1 rs2 imm : Int) (w : World) (hn : n < 27) (hlow : ∀ k, k < n → ((prAt k).nm.toList == name.toList) = false) (hyes : ((prAt n).nm.toList == name.toList) = true) (i0 : -2147483648 ≤ imm) (i1 : imm < 2147483648) (hf : fitR (prAt n) op rd rs1 rs2 imm = false) :
    Calls Try.prog 9 #[.string name, .agg #[.int .i64 op, .int .i64 rd, .int .i64 rs1, .int .i64 rs2, .int .i32 imm]] w fun e w' => e = .returned (.tuple #[.int .u16 0, .bool false]) ∧ Below w.heap.size w w' := by
  have HO := hid (fun w => of_yes name n w hn hlow hyes)
  have HF := hid (fun w => fits (prAt n) op rd rs1 rs2 imm w (fine_at hn) i0 i1)
  rw [hf] at HF
  clear hlow hyes hf
  generalize prAt n = r at *
  obtain ⟨nm, rop, m, krd, kr1, kr2, sg, un, lo, hi, no, bt⟩ := r
  simp only [] at HF
  simp only [PR.val] at HO
  go_enter Try.func9, Try.ntmps9
  go_wp2_with fail
  have z0 := Inst.new w 23 (.int .i64 op) (.int .i64 rd) (.int .i64 rs1) (.int .i64 rs2) (.int .i32 imm)
  have hb0 := below_alloc w (.cells #[.int .i64 op, .int .i64 rd, .int .i64 rs1, .int .i64 rs2, .int .i32 imm] 23)
  generalize w.alloc (.cells #[.int .i64 op, .int .i64 rd, .int .i64 rs1, .int .i64 rs2, .int .i32 imm] 23) = w1 at *
  refine (HO.out _).mono ?_
  rintro e w2 ⟨rfl, hb1⟩
  replace z0 := z0.below hb1 z0.lt
  replace hb0 := bel_step hb0 hb1
  clear hb1 HO w1
  have zr : Row12 (w2.alloc (.cells #[.string nm, .int .i64 rop, .int .u16 m, .int .i64 krd, .int .i64 kr1, .int .i64 kr2, .int .i64 sg, .int .i64 un, .int .i32 lo, .int .i32 hi, .bool no, .string bt] 40)) w2.heap.size 0 ⟨nm, rop, m, krd, kr1, kr2, sg, un, lo, hi, no, bt⟩ := Row12.fresh w2 40 ⟨nm, rop, m, krd, kr1, kr2, sg, un, lo, hi, no, bt⟩
  go_upto_region 2 with (fail)
  replace z0 := z0.below (below_alloc w2 (.cells #[.string nm, .int .i64 rop, .int .u16 m, .int .i64 krd, .int .i64 kr1, .int .i64 kr2, .int .i64 sg, .int .i64 un, .int .i32 lo, .int .i32 hi, .bool no, .string bt] 40)) z0.lt
  replace hb0 := bel_step hb0 (below_alloc w2 (.cells #[.string nm, .int .i64 rop, .int .u16 m, .int .i64 krd, .int .i64 kr1, .int .i64 kr2, .int .i64 sg, .int .i64 un, .int .i32 lo, .int .i32 hi, .bool no, .string bt] 40))
  generalize w2.alloc (.cells #[.string nm, .int .i64 rop, .int .u16 m, .int .i64 krd, .int .i64 kr1, .int .i64 kr2, .int .i64 sg, .int .i64 un, .int .i32 lo, .int .i32 hi, .bool no, .string bt] 40) = w3 at *
  obtain ⟨rl, c0, c1, c2, c3, c4, c5, c6, c7, c8, c9, c10, c11⟩ := zr
  simp only [Nat.zero_add] at c0 c1 c2 c3 c4 c5 c6 c7 c8 c9 c10 c11
  obtain ⟨yl, y0, y1, y2, y3, y4⟩ := z0
  go_wp2_with fail
  refine (HF.out _).mono ?_
  rintro e w4 ⟨rfl, hb1⟩
  replace hb0 := bel_step hb0 hb1
  clear hb1 rl c0 c1 c2 c3 c4 c5 c6 c7 c8 c9 c10 c11 yl y0 y1 y2 y3 y4
  go_wp2
  go_ret2
  exact ⟨rfl, hb0⟩
theorem Put_no (name : ByteArray) (op rd rs1 rs2 imm : Int) (w : World) (hlow : ∀ k, k < 27 → ((prAt k).nm.toList == name.toList) = false) :
    Calls Try.prog 9 #[.string name, .agg #[.int .i64 op, .int .i64 rd, .int .i64 rs1, .int .i64 rs2, .int .i32 imm]] w fun e w' => e = .returned (.tuple #[.int .u16 0, .bool false]) ∧ Below w.heap.size w w' := by
  have HO := hid (fun w => of_no name w hlow)
  clear hlow
  simp only [PR.val, prZ] at HO
  go_enter Try.func9, Try.ntmps9
  go_wp2_with fail
  refine (HO.out _).mono ?_
  rintro e w2 ⟨rfl, hb1⟩
  have hb0 : Below w.heap.size w w2 := bel_step (w := w) (by repeat' (first | (with_reducible exact Below.refl _ _) | (with_reducible assumption) | (with_reducible refine below_drewN ?_ _) | (with_reducible refine Below.alloc ?_ ?_ _) | (with_reducible refine Below.drew ?_) | (with_reducible refine Below.setCell ?_ ?_ _) | (with_reducible exact Below.size (by assumption)) | go_size)) hb1
  clear hb1 HO
  go_wp2
  go_ret2
  exact ⟨rfl, (by repeat' (first | (with_reducible exact Below.refl _ _) | (with_reducible assumption) | (with_reducible refine below_drewN ?_ _) | (with_reducible refine Below.alloc ?_ ?_ _) | (with_reducible refine Below.drew ?_) | (with_reducible refine Below.setCell ?_ ?_ _) | (with_reducible exact Below.size (by assumption)) | go_size))⟩

set_option maxHeartbeats 4000000 in
theorem Get_no (h : Int) (w : World) (h0 : 0 ≤ h) (h1 : h < 65536) (hlow : ∀ k, k < 27 → hitR (prAt k) h = false) :
    Calls Try.prog 13 #[.int .u16 h] w fun e w' => e = .returned (.tuple #[.string ⟨#[]⟩, .agg #[.int .i64 0, .int .i64 0, .int .i64 0, .int .i64 0, .int .i32 0], .bool false]) ∧ Below w.heap.size w w' := by
  have HL := hid hlow
  clear hlow
  go_enter Try.func13, Try.ntmps13
  go_wp2_with fail
  have z0 := Five.new w 23 (.int .i64 0) (.int .i64 0) (.int .i64 0) (.int .i64 0) (.int .i32 0)
  have hb0 := below_alloc w (.cells #[.int .i64 0, .int .i64 0, .int .i64 0, .int .i64 0, .int .i32 0] 23)
  generalize w.alloc (.cells #[.int .i64 0, .int .i64 0, .int .i64 0, .int .i64 0, .int .i32 0] 23) = w0 at *
  refine (rows _).mono ?_
  rintro e w1 ⟨b, rfl, hR, hbb, hb1⟩
  replace z0 := hid (z0.below hb1 z0.lt)
  replace hb0 := bel_step hb0 hb1
  replace hR := hid hR
  clear hb1 hbb
  go_wp2
  go_loopw [10] (fun i wr => ∃ k : Nat, k ≤ 27 ∧ i = .int .i64 k ∧ Below w1.heap.size w1 wr) (fun i _ => 27 + 1 - (intOf i).toNat)
  case atStart => exact ⟨0, by omega, rfl, Below.refl _ _⟩
  case round =>
    obtain ⟨k, hk, rfl, hbel⟩ := hrel
    have hsz := hbel.size
    by_cases hs : k < 27
    · have hm := hid (HL.out k hs)
      obtain ⟨hb, hcells⟩ := hR.out.below hbel
      have hrow := hcells k (by omega)
      have z1 := z0.out.below hbel z0.out.lt
      have hlt : (k : Int) < 27 := by omega
      have hk27 : k < 27 := by omega
      have HGT := hid (fun w => got (prAt k) h w (fine_at hk27) (unit_all k hk27) (bits_all k hk27).1 (bits_all k hk27).2 h0 h1)
      have hib := gIm_bd (prAt k) h (fine_at hk27).s1
      have HF := hid (fun w => fits (prAt k) (prAt k).op (gRdR (prAt k) h) (gR1R (prAt k) h) (gR2R (prAt k) h) (gImR (prAt k) h) w (fine_at hk27) hib.1 hib.2)
      have HP := hid (fun (hf : fitR (prAt k) (prAt k).op (gRdR (prAt k) h) (gR1R (prAt k) h) (gR2R (prAt k) h) (gImR (prAt k) h) = true) w => put (prAt k) (prAt k).op (gRdR (prAt k) h) (gR1R (prAt k) h) (gR2R (prAt k) h) (gImR (prAt k) h) w (fine_at hk27) (unit_all k hk27) (bits_all k hk27).1 (bits_all k hk27).2 (fit_kinds hf).1 (fit_kinds hf).2.1 (fit_kinds hf).2.2 hib.1 hib.2)
      have hh : hitR (prAt k) h = (fitR (prAt k) (prAt k).op (gRdR (prAt k) h) (gR1R (prAt k) h) (gR2R (prAt k) h) (gImR (prAt k) h) && (putR (prAt k) (gRdR (prAt k) h) (gR1R (prAt k) h) (gR2R (prAt k) h) (gImR (prAt k) h) == h)) := rfl
      have HH := hid hh
      clear hcells hib hh hk27
      generalize fitR (prAt k) (prAt k).op (gRdR (prAt k) h) (gR1R (prAt k) h) (gR2R (prAt k) h) (gImR (prAt k) h) = vf at *
      generalize putR (prAt k) (gRdR (prAt k) h) (gR1R (prAt k) h) (gR2R (prAt k) h) (gImR (prAt k) h) = vp at *
      generalize hx1 : gRdR (prAt k) h = x1 at *
      generalize hx2 : gR1R (prAt k) h = x2 at *
      generalize hx3 : gR2R (prAt k) h = x3 at *
      generalize hx4 : gImR (prAt k) h = x4 at *
      have HX := hid (And.intro hx1 (And.intro hx2 (And.intro hx3 hx4)))
      clear hx1 hx2 hx3 hx4
      generalize hr : prAt k = r at *
      have HR := hid hr
      clear hr
      obtain ⟨nm, rop, m, krd, kr1, kr2, sg, un, lo, hi, no, bt⟩ := r
      simp only [] at HGT HF HP
      obtain ⟨rl, c0, c1, c2, c3, c4, c5, c6, c7, c8, c9, c10, c11⟩ := hrow
      simp only [] at c0 c1 c2 c3 c4 c5 c6 c7 c8 c9 c10 c11
      have zr : Row12 (wr.alloc (.cells #[.string nm, .int .i64 rop, .int .u16 m, .int .i64 krd, .int .i64 kr1, .int .i64 kr2, .int .i64 sg, .int .i64 un, .int .i32 lo, .int .i32 hi, .bool no, .string bt] 40)) wr.heap.size 0 ⟨nm, rop, m, krd, kr1, kr2, sg, un, lo, hi, no, bt⟩ := Row12.fresh wr 40 ⟨nm, rop, m, krd, kr1, kr2, sg, un, lo, hi, no, bt⟩
      replace z1 := z1.below (below_alloc wr (.cells #[.string nm, .int .i64 rop, .int .u16 m, .int .i64 krd, .int .i64 kr1, .int .i64 kr2, .int .i64 sg, .int .i64 un, .int .i32 lo, .int .i32 hi, .bool no, .string bt] 40)) z1.lt
      have hbw2 : Below w1.heap.size w1 (wr.alloc (.cells #[.string nm, .int .i64 rop, .int .u16 m, .int .i64 krd, .int .i64 kr1, .int .i64 kr2, .int .i64 sg, .int .i64 un, .int .i32 lo, .int .i32 hi, .bool no, .string bt] 40)) := bel_step hbel (below_alloc wr _)
      go_upto_region 4 with (fail)
      clear rl c0 c1 c2 c3 c4 c5 c6 c7 c8 c9 c10 c11
      generalize wr.alloc (.cells #[.string nm, .int .i64 rop, .int .u16 m, .int .i64 krd, .int .i64 kr1, .int .i64 kr2, .int .i64 sg, .int .i64 un, .int .i32 lo, .int .i32 hi, .bool no, .string bt] 40) = w2 at *
      generalize wr.heap.size = br at *
      obtain ⟨rl, c0, c1, c2, c3, c4, c5, c6, c7, c8, c9, c10, c11⟩ := id zr
      simp only [Nat.zero_add] at c0 c1 c2 c3 c4 c5 c6 c7 c8 c9 c10 c11
      have ZR := hid zr
      have Z1 := hid z1
      clear zr z1
      go_wp2_with fail
      refine (HGT.out _).mono ?_
      rintro e w3 ⟨rfl, hb1⟩
      have zr := ZR.out.below hb1 ZR.out.lt
      have z1 := Z1.out.below hb1 Z1.out.lt
      replace hbw2 := bel_step hbw2 hb1
      clear hb1 HGT hbel hb rl c0 c1 c2 c3 c4 c5 c6 c7 c8 c9 c10 c11 ZR Z1
      have zi := Inst.new w3 23 (.int .i64 rop) (.int .i64 x1) (.int .i64 x2) (.int .i64 x3) (.int .i32 x4)
      go_upto_region 5 with (fail)
      replace zr := zr.below (below_alloc w3 (.cells #[.int .i64 rop, .int .i64 x1, .int .i64 x2, .int .i64 x3, .int .i32 x4] 23)) zr.lt
      have hne0 : w.heap.size < w3.heap.size := z1.lt
      replace z1 := z1.below (below_alloc w3 (.cells #[.int .i64 rop, .int .i64 x1, .int .i64 x2, .int .i64 x3, .int .i32 x4] 23)) z1.lt
      replace hbw2 := bel_step hbw2 (below_alloc w3 (.cells #[.int .i64 rop, .int .i64 x1, .int .i64 x2, .int .i64 x3, .int .i32 x4] 23))
      generalize w3.alloc (.cells #[.int .i64 rop, .int .i64 x1, .int .i64 x2, .int .i64 x3, .int .i32 x4] 23) = w4 at *
      generalize w3.heap.size = bi at *
      obtain ⟨rl, c0, c1, c2, c3, c4, c5, c6, c7, c8, c9, c10, c11⟩ := id zr
      simp only [Nat.zero_add] at c0 c1 c2 c3 c4 c5 c6 c7 c8 c9 c10 c11
      obtain ⟨il, y0, y1, y2, y3, y4⟩ := id zi
      have ZR := hid zr
      have Z1 := hid z1
      have ZI := hid zi
      clear zr z1 zi
      go_wp2_with fail
      refine (HF.out _).mono ?_
      rintro e w5 ⟨rfl, hb1⟩
      have zr := ZR.out.below hb1 ZR.out.lt
      have z1 := Z1.out.below hb1 Z1.out.lt
      have zi := ZI.out.below hb1 ZI.out.lt
      replace hbw2 := bel_step hbw2 hb1
      clear hb1 HF rl c0 c1 c2 c3 c4 c5 c6 c7 c8 c9 c10 c11 il y0 y1 y2 y3 y4 ZR Z1 ZI
      obtain ⟨rl, c0, c1, c2, c3, c4, c5, c6, c7, c8, c9, c10, c11⟩ := id zr
      simp only [Nat.zero_add] at c0 c1 c2 c3 c4 c5 c6 c7 c8 c9 c10 c11
      obtain ⟨il, y0, y1, y2, y3, y4⟩ := id zi
      have ZR := hid zr
      have Z1 := hid z1
      have ZI := hid zi
      clear zr z1 zi
      cases vf
      · clear HP HH
        go_wp2
        go_roundw
        case rel => exact ⟨k + 1, by omega, by go_num, hbw2⟩
        case measure => simp [intOf]; omega
      · have hvp : (vp == h) = false := by have := HH.out.symm.trans hm.out; simpa using this
        replace HP := hid (HP.out rfl)
        clear HH
        go_wp2_with fail
        refine (HP.out _).mono ?_
        rintro e w6 ⟨rfl, hb1⟩
        replace hbw2 := bel_step hbw2 hb1
        clear hb1 HP rl c0 c1 c2 c3 c4 c5 c6 c7 c8 c9 c10 c11 il y0 y1 y2 y3 y4 ZR Z1 ZI
        go_wp2
        go_roundw
        case rel => exact ⟨k + 1, by omega, by go_num, hbw2⟩
        case measure => simp [intOf]; omega
    · obtain rfl : k = 27 := by omega
      have z1 := z0.out.below hbel z0.out.lt
      have hbf := bel_step hb0 hbel
      obtain ⟨zl, t0, t1, t2, t3, t4, g0, g1, g2, g3, g4⟩ := z1
      go_wp2
      refine bodyPost_ret (v := .tuple #[.string ⟨#[]⟩, .agg #[.int .i64 0, .int .i64 0, .int .i64 0, .int .i64 0, .int .i32 0], .bool false]) (by simp [results, Try.results13, go_sem, setCell_map, t0, t1, t2, t3, t4]; try rfl) rfl ⟨rfl, (by repeat' (first | (with_reducible exact Below.refl _ _) | (with_reducible assumption) | (with_reducible refine below_drewN ?_ _) | (with_reducible refine Below.alloc ?_ ?_ _) | (with_reducible refine Below.drew ?_) | (with_reducible refine Below.setCell ?_ ?_ _) | (with_reducible exact Below.size (by assumption)) | go_size))⟩
set_option maxHeartbeats 4000000 in
theorem Get_yes (n : Nat) (h : Int) (w : World) (hn : n < 27) (h0 : 0 ≤ h) (h1 : h < 65536) (hlow : ∀ k, k < n → hitR (prAt k) h = false) (hyes : hitR (prAt n) h = true) :
    Calls Try.prog 13 #[.int .u16 h] w fun e w' => e = .returned (.tuple #[.string (prAt n).nm, .agg #[.int .i64 (prAt n).op, .int .i64 (gRdR (prAt n) h), .int .i64 (gR1R (prAt n) h), .int .i64 (gR2R (prAt n) h), .int .i32 (gImR (prAt n) h)], .bool true]) ∧ Below w.heap.size w w' := by
  have HL := hid hlow
  clear hlow
  have HY := hid hyes
  clear hyes
  go_enter Try.func13, Try.ntmps13
  go_wp2_with fail
  have z0 := Five.new w 23 (.int .i64 0) (.int .i64 0) (.int .i64 0) (.int .i64 0) (.int .i32 0)
  have hb0 := below_alloc w (.cells #[.int .i64 0, .int .i64 0, .int .i64 0, .int .i64 0, .int .i32 0] 23)
  generalize w.alloc (.cells #[.int .i64 0, .int .i64 0, .int .i64 0, .int .i64 0, .int .i32 0] 23) = w0 at *
  refine (rows _).mono ?_
  rintro e w1 ⟨b, rfl, hR, hbb, hb1⟩
  replace z0 := hid (z0.below hb1 z0.lt)
  replace hb0 := bel_step hb0 hb1
  replace hR := hid hR
  clear hb1 hbb
  go_wp2
  go_loopw [10] (fun i wr => ∃ k : Nat, k ≤ n ∧ i = .int .i64 k ∧ Below w1.heap.size w1 wr) (fun i _ => n + 1 - (intOf i).toNat)
  case atStart => exact ⟨0, by omega, rfl, Below.refl _ _⟩
  case round =>
    obtain ⟨k, hk, rfl, hbel⟩ := hrel
    have hsz := hbel.size
    by_cases hs : k < n
    · have hm := hid (HL.out k hs)
      obtain ⟨hb, hcells⟩ := hR.out.below hbel
      have hrow := hcells k (by omega)
      have z1 := z0.out.below hbel z0.out.lt
      have hlt : (k : Int) < 27 := by omega
      have hk27 : k < 27 := by omega
      have HGT := hid (fun w => got (prAt k) h w (fine_at hk27) (unit_all k hk27) (bits_all k hk27).1 (bits_all k hk27).2 h0 h1)
      have hib := gIm_bd (prAt k) h (fine_at hk27).s1
      have HF := hid (fun w => fits (prAt k) (prAt k).op (gRdR (prAt k) h) (gR1R (prAt k) h) (gR2R (prAt k) h) (gImR (prAt k) h) w (fine_at hk27) hib.1 hib.2)
      have HP := hid (fun (hf : fitR (prAt k) (prAt k).op (gRdR (prAt k) h) (gR1R (prAt k) h) (gR2R (prAt k) h) (gImR (prAt k) h) = true) w => put (prAt k) (prAt k).op (gRdR (prAt k) h) (gR1R (prAt k) h) (gR2R (prAt k) h) (gImR (prAt k) h) w (fine_at hk27) (unit_all k hk27) (bits_all k hk27).1 (bits_all k hk27).2 (fit_kinds hf).1 (fit_kinds hf).2.1 (fit_kinds hf).2.2 hib.1 hib.2)
      have hh : hitR (prAt k) h = (fitR (prAt k) (prAt k).op (gRdR (prAt k) h) (gR1R (prAt k) h) (gR2R (prAt k) h) (gImR (prAt k) h) && (putR (prAt k) (gRdR (prAt k) h) (gR1R (prAt k) h) (gR2R (prAt k) h) (gImR (prAt k) h) == h)) := rfl
      have HH := hid hh
      clear hcells hib hh hk27
      generalize fitR (prAt k) (prAt k).op (gRdR (prAt k) h) (gR1R (prAt k) h) (gR2R (prAt k) h) (gImR (prAt k) h) = vf at *
      generalize putR (prAt k) (gRdR (prAt k) h) (gR1R (prAt k) h) (gR2R (prAt k) h) (gImR (prAt k) h) = vp at *
      generalize hx1 : gRdR (prAt k) h = x1 at *
      generalize hx2 : gR1R (prAt k) h = x2 at *
      generalize hx3 : gR2R (prAt k) h = x3 at *
      generalize hx4 : gImR (prAt k) h = x4 at *
      have HX := hid (And.intro hx1 (And.intro hx2 (And.intro hx3 hx4)))
      clear hx1 hx2 hx3 hx4
      generalize hr : prAt k = r at *
      have HR := hid hr
      clear hr
      obtain ⟨nm, rop, m, krd, kr1, kr2, sg, un, lo, hi, no, bt⟩ := r
      simp only [] at HGT HF HP
      obtain ⟨rl, c0, c1, c2, c3, c4, c5, c6, c7, c8, c9, c10, c11⟩ := hrow
      simp only [] at c0 c1 c2 c3 c4 c5 c6 c7 c8 c9 c10 c11
      have zr : Row12 (wr.alloc (.cells #[.string nm, .int .i64 rop, .int .u16 m, .int .i64 krd, .int .i64 kr1, .int .i64 kr2, .int .i64 sg, .int .i64 un, .int .i32 lo, .int .i32 hi, .bool no, .string bt] 40)) wr.heap.size 0 ⟨nm, rop, m, krd, kr1, kr2, sg, un, lo, hi, no, bt⟩ := Row12.fresh wr 40 ⟨nm, rop, m, krd, kr1, kr2, sg, un, lo, hi, no, bt⟩
      replace z1 := z1.below (below_alloc wr (.cells #[.string nm, .int .i64 rop, .int .u16 m, .int .i64 krd, .int .i64 kr1, .int .i64 kr2, .int .i64 sg, .int .i64 un, .int .i32 lo, .int .i32 hi, .bool no, .string bt] 40)) z1.lt
      have hbw2 : Below w1.heap.size w1 (wr.alloc (.cells #[.string nm, .int .i64 rop, .int .u16 m, .int .i64 krd, .int .i64 kr1, .int .i64 kr2, .int .i64 sg, .int .i64 un, .int .i32 lo, .int .i32 hi, .bool no, .string bt] 40)) := bel_step hbel (below_alloc wr _)
      go_upto_region 4 with (fail)
      clear rl c0 c1 c2 c3 c4 c5 c6 c7 c8 c9 c10 c11
      generalize wr.alloc (.cells #[.string nm, .int .i64 rop, .int .u16 m, .int .i64 krd, .int .i64 kr1, .int .i64 kr2, .int .i64 sg, .int .i64 un, .int .i32 lo, .int .i32 hi, .bool no, .string bt] 40) = w2 at *
      generalize wr.heap.size = br at *
      obtain ⟨rl, c0, c1, c2, c3, c4, c5, c6, c7, c8, c9, c10, c11⟩ := id zr
      simp only [Nat.zero_add] at c0 c1 c2 c3 c4 c5 c6 c7 c8 c9 c10 c11
      have ZR := hid zr
      have Z1 := hid z1
      clear zr z1
      go_wp2_with fail
      refine (HGT.out _).mono ?_
      rintro e w3 ⟨rfl, hb1⟩
      have zr := ZR.out.below hb1 ZR.out.lt
      have z1 := Z1.out.below hb1 Z1.out.lt
      replace hbw2 := bel_step hbw2 hb1
      clear hb1 HGT hbel hb rl c0 c1 c2 c3 c4 c5 c6 c7 c8 c9 c10 c11 ZR Z1
      have zi := Inst.new w3 23 (.int .i64 rop) (.int .i64 x1) (.int .i64 x2) (.int .i64 x3) (.int .i32 x4)
      go_upto_region 5 with (fail)
      replace zr := zr.below (below_alloc w3 (.cells #[.int .i64 rop, .int .i64 x1, .int .i64 x2, .int .i64 x3, .int .i32 x4] 23)) zr.lt
      have hne0 : w.heap.size < w3.heap.size := z1.lt
      replace z1 := z1.below (below_alloc w3 (.cells #[.int .i64 rop, .int .i64 x1, .int .i64 x2, .int .i64 x3, .int .i32 x4] 23)) z1.lt
      replace hbw2 := bel_step hbw2 (below_alloc w3 (.cells #[.int .i64 rop, .int .i64 x1, .int .i64 x2, .int .i64 x3, .int .i32 x4] 23))
      generalize w3.alloc (.cells #[.int .i64 rop, .int .i64 x1, .int .i64 x2, .int .i64 x3, .int .i32 x4] 23) = w4 at *
      generalize w3.heap.size = bi at *
      obtain ⟨rl, c0, c1, c2, c3, c4, c5, c6, c7, c8, c9, c10, c11⟩ := id zr
      simp only [Nat.zero_add] at c0 c1 c2 c3 c4 c5 c6 c7 c8 c9 c10 c11
      obtain ⟨il, y0, y1, y2, y3, y4⟩ := id zi
      have ZR := hid zr
      have Z1 := hid z1
      have ZI := hid zi
      clear zr z1 zi
      go_wp2_with fail
      refine (HF.out _).mono ?_
      rintro e w5 ⟨rfl, hb1⟩
      have zr := ZR.out.below hb1 ZR.out.lt
      have z1 := Z1.out.below hb1 Z1.out.lt
      have zi := ZI.out.below hb1 ZI.out.lt
      replace hbw2 := bel_step hbw2 hb1
      clear hb1 HF rl c0 c1 c2 c3 c4 c5 c6 c7 c8 c9 c10 c11 il y0 y1 y2 y3 y4 ZR Z1 ZI
      obtain ⟨rl, c0, c1, c2, c3, c4, c5, c6, c7, c8, c9, c10, c11⟩ := id zr
      simp only [Nat.zero_add] at c0 c1 c2 c3 c4 c5 c6 c7 c8 c9 c10 c11
      obtain ⟨il, y0, y1, y2, y3, y4⟩ := id zi
      have ZR := hid zr
      have Z1 := hid z1
      have ZI := hid zi
      clear zr z1 zi
      cases vf
      · clear HP HH
        go_wp2
        go_roundw
        case rel => exact ⟨k + 1, by omega, by go_num, hbw2⟩
        case measure => simp [intOf]; omega
      · have hvp : (vp == h) = false := by have := HH.out.symm.trans hm.out; simpa using this
        replace HP := hid (HP.out rfl)
        clear HH
        go_wp2_with fail
        refine (HP.out _).mono ?_
        rintro e w6 ⟨rfl, hb1⟩
        replace hbw2 := bel_step hbw2 hb1
        clear hb1 HP rl c0 c1 c2 c3 c4 c5 c6 c7 c8 c9 c10 c11 il y0 y1 y2 y3 y4 ZR Z1 ZI
        go_wp2
        go_roundw
        case rel => exact ⟨k + 1, by omega, by go_num, hbw2⟩
        case measure => simp [intOf]; omega
    · obtain rfl : k = n := by omega
      have hm := hid HY.out
      obtain ⟨hb, hcells⟩ := hR.out.below hbel
      have hrow := hcells k (by omega)
      have z1 := z0.out.below hbel z0.out.lt
      have hlt : (k : Int) < 27 := by omega
      have hk27 : k < 27 := by omega
      have HGT := hid (fun w => got (prAt k) h w (fine_at hk27) (unit_all k hk27) (bits_all k hk27).1 (bits_all k hk27).2 h0 h1)
      have hib := gIm_bd (prAt k) h (fine_at hk27).s1
      have HF := hid (fun w => fits (prAt k) (prAt k).op (gRdR (prAt k) h) (gR1R (prAt k) h) (gR2R (prAt k) h) (gImR (prAt k) h) w (fine_at hk27) hib.1 hib.2)
      have HP := hid (fun (hf : fitR (prAt k) (prAt k).op (gRdR (prAt k) h) (gR1R (prAt k) h) (gR2R (prAt k) h) (gImR (prAt k) h) = true) w => put (prAt k) (prAt k).op (gRdR (prAt k) h) (gR1R (prAt k) h) (gR2R (prAt k) h) (gImR (prAt k) h) w (fine_at hk27) (unit_all k hk27) (bits_all k hk27).1 (bits_all k hk27).2 (fit_kinds hf).1 (fit_kinds hf).2.1 (fit_kinds hf).2.2 hib.1 hib.2)
      have hh : hitR (prAt k) h = (fitR (prAt k) (prAt k).op (gRdR (prAt k) h) (gR1R (prAt k) h) (gR2R (prAt k) h) (gImR (prAt k) h) && (putR (prAt k) (gRdR (prAt k) h) (gR1R (prAt k) h) (gR2R (prAt k) h) (gImR (prAt k) h) == h)) := rfl
      have HH := hid hh
      clear hcells hib hh hk27
      generalize fitR (prAt k) (prAt k).op (gRdR (prAt k) h) (gR1R (prAt k) h) (gR2R (prAt k) h) (gImR (prAt k) h) = vf at *
      generalize putR (prAt k) (gRdR (prAt k) h) (gR1R (prAt k) h) (gR2R (prAt k) h) (gImR (prAt k) h) = vp at *
      generalize hx1 : gRdR (prAt k) h = x1 at *
      generalize hx2 : gR1R (prAt k) h = x2 at *
      generalize hx3 : gR2R (prAt k) h = x3 at *
      generalize hx4 : gImR (prAt k) h = x4 at *
      have HX := hid (And.intro hx1 (And.intro hx2 (And.intro hx3 hx4)))
      clear hx1 hx2 hx3 hx4
      generalize hr : prAt k = r at *
      have HR := hid hr
      clear hr
      obtain ⟨nm, rop, m, krd, kr1, kr2, sg, un, lo, hi, no, bt⟩ := r
      simp only [] at HGT HF HP
      obtain ⟨rl, c0, c1, c2, c3, c4, c5, c6, c7, c8, c9, c10, c11⟩ := hrow
      simp only [] at c0 c1 c2 c3 c4 c5 c6 c7 c8 c9 c10 c11
      have zr : Row12 (wr.alloc (.cells #[.string nm, .int .i64 rop, .int .u16 m, .int .i64 krd, .int .i64 kr1, .int .i64 kr2, .int .i64 sg, .int .i64 un, .int .i32 lo, .int .i32 hi, .bool no, .string bt] 40)) wr.heap.size 0 ⟨nm, rop, m, krd, kr1, kr2, sg, un, lo, hi, no, bt⟩ := Row12.fresh wr 40 ⟨nm, rop, m, krd, kr1, kr2, sg, un, lo, hi, no, bt⟩
      replace z1 := z1.below (below_alloc wr (.cells #[.string nm, .int .i64 rop, .int .u16 m, .int .i64 krd, .int .i64 kr1, .int .i64 kr2, .int .i64 sg, .int .i64 un, .int .i32 lo, .int .i32 hi, .bool no, .string bt] 40)) z1.lt
      have hbw2 : Below w1.heap.size w1 (wr.alloc (.cells #[.string nm, .int .i64 rop, .int .u16 m, .int .i64 krd, .int .i64 kr1, .int .i64 kr2, .int .i64 sg, .int .i64 un, .int .i32 lo, .int .i32 hi, .bool no, .string bt] 40)) := bel_step hbel (below_alloc wr _)
      go_upto_region 4 with (fail)
      clear rl c0 c1 c2 c3 c4 c5 c6 c7 c8 c9 c10 c11
      generalize wr.alloc (.cells #[.string nm, .int .i64 rop, .int .u16 m, .int .i64 krd, .int .i64 kr1, .int .i64 kr2, .int .i64 sg, .int .i64 un, .int .i32 lo, .int .i32 hi, .bool no, .string bt] 40) = w2 at *
      generalize wr.heap.size = br at *
      obtain ⟨rl, c0, c1, c2, c3, c4, c5, c6, c7, c8, c9, c10, c11⟩ := id zr
      simp only [Nat.zero_add] at c0 c1 c2 c3 c4 c5 c6 c7 c8 c9 c10 c11
      have ZR := hid zr
      have Z1 := hid z1
      clear zr z1
      go_wp2_with fail
      refine (HGT.out _).mono ?_
      rintro e w3 ⟨rfl, hb1⟩
      have zr := ZR.out.below hb1 ZR.out.lt
      have z1 := Z1.out.below hb1 Z1.out.lt
      replace hbw2 := bel_step hbw2 hb1
      clear hb1 HGT hbel hb rl c0 c1 c2 c3 c4 c5 c6 c7 c8 c9 c10 c11 ZR Z1
      have zi := Inst.new w3 23 (.int .i64 rop) (.int .i64 x1) (.int .i64 x2) (.int .i64 x3) (.int .i32 x4)
      go_upto_region 5 with (fail)
      replace zr := zr.below (below_alloc w3 (.cells #[.int .i64 rop, .int .i64 x1, .int .i64 x2, .int .i64 x3, .int .i32 x4] 23)) zr.lt
      have hne0 : w.heap.size < w3.heap.size := z1.lt
      replace z1 := z1.below (below_alloc w3 (.cells #[.int .i64 rop, .int .i64 x1, .int .i64 x2, .int .i64 x3, .int .i32 x4] 23)) z1.lt
      replace hbw2 := bel_step hbw2 (below_alloc w3 (.cells #[.int .i64 rop, .int .i64 x1, .int .i64 x2, .int .i64 x3, .int .i32 x4] 23))
      generalize w3.alloc (.cells #[.int .i64 rop, .int .i64 x1, .int .i64 x2, .int .i64 x3, .int .i32 x4] 23) = w4 at *
      generalize w3.heap.size = bi at *
      obtain ⟨rl, c0, c1, c2, c3, c4, c5, c6, c7, c8, c9, c10, c11⟩ := id zr
      simp only [Nat.zero_add] at c0 c1 c2 c3 c4 c5 c6 c7 c8 c9 c10 c11
      obtain ⟨il, y0, y1, y2, y3, y4⟩ := id zi
      have ZR := hid zr
      have Z1 := hid z1
      have ZI := hid zi
      clear zr z1 zi
      go_wp2_with fail
      refine (HF.out _).mono ?_
      rintro e w5 ⟨rfl, hb1⟩
      have zr := ZR.out.below hb1 ZR.out.lt
      have z1 := Z1.out.below hb1 Z1.out.lt
      have zi := ZI.out.below hb1 ZI.out.lt
      replace hbw2 := bel_step hbw2 hb1
      clear hb1 HF rl c0 c1 c2 c3 c4 c5 c6 c7 c8 c9 c10 c11 il y0 y1 y2 y3 y4 ZR Z1 ZI
      obtain ⟨rl, c0, c1, c2, c3, c4, c5, c6, c7, c8, c9, c10, c11⟩ := id zr
      simp only [Nat.zero_add] at c0 c1 c2 c3 c4 c5 c6 c7 c8 c9 c10 c11
      obtain ⟨il, y0, y1, y2, y3, y4⟩ := id zi
      have ZR := hid zr
      have Z1 := hid z1
      have ZI := hid zi
      clear zr z1 zi
      have hvv : vf = true ∧ vp = h := by have := HH.out.symm.trans hm.out; simpa using this
      obtain ⟨rfl, rfl⟩ := hvv
      replace HP := hid (HP.out rfl)
      clear HH
      go_wp2_with fail
      refine (HP.out _).mono ?_
      rintro e w6 ⟨rfl, hb1⟩
      have d0 := (hb1.cell (p := ⟨br, 0, none⟩) rl).trans c0
      have zi := ZI.out.below hb1 ZI.out.lt
      have z1 := Z1.out.below hb1 Z1.out.lt
      have hrl : br < w6.heap.size := Nat.lt_of_lt_of_le rl hb1.size
      replace hbw2 := bel_step hbw2 hb1
      have hbf := bel_step hb0 hbw2
      clear hb1 HP rl c0 c1 c2 c3 c4 c5 c6 c7 c8 c9 c10 c11 il y0 y1 y2 y3 y4 ZR Z1 ZI hbw2
      obtain ⟨il, y0, y1, y2, y3, y4⟩ := zi
      obtain ⟨zl, t0, t1, t2, t3, t4, g0, g1, g2, g3, g4⟩ := z1
      have hne1 : w.heap.size ≠ bi := Nat.ne_of_lt hne0
      have hne2 : bi ≠ w.heap.size := fun e => hne1 e.symm
      go_wp2
      go_region
      all_goals go_wp2
      all_goals refine bodyPost_ret (v := .tuple #[.string nm, .agg #[.int .i64 rop, .int .i64 x1, .int .i64 x2, .int .i64 x3, .int .i32 x4], .bool true]) (by simp [results, Try.results13, go_sem, setCell_map, t0, t1, t2, t3, t4]; try rfl) rfl ⟨by obtain ⟨e1, e2, e3, e4⟩ := HX.out; rw [← e1, ← e2, ← e3, ← e4, HR.out], (by repeat' (first | (with_reducible exact Below.refl _ _) | (with_reducible assumption) | (with_reducible refine below_drewN ?_ _) | (with_reducible refine Below.alloc ?_ ?_ _) | (with_reducible refine Below.drew ?_) | (with_reducible refine Below.setCell ?_ ?_ _) | (with_reducible exact Below.size (by assumption)) | go_size))⟩
end Go.Proofs.Ytfecjdchgckjhaa.F
