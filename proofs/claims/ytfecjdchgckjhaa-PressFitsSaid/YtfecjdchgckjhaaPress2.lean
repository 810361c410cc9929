/- What the functions of package press compute: the row of a name, what fits a short. -/
import Derived.Test.YtfecjdchgckjhaaPress1
import Derived.Deep.Cut
namespace Go.Proofs.Ytfecjdchgckjhaa.F
set_option linter.unusedVariables false
set_option linter.unusedSimpArgs false
open Go.ChangeShapes Go.WideShapes Go.ChangeAt Go.RowKit Go.Proofs.Ytfecjdchgckjhaa.P Go.Proofs.Ytfecjdchgckjhaa.W

theorem free_new (w : World) (c : Array Value) (t : TypeId) (j : Nat) : (w.alloc (.cells c t)).frozen? ⟨w.heap.size, j, none⟩ = false := by
  rw [frozen?_alloc_cells]; simp [World.frozen?]
theorem free_below {w w' : World} {b B : Nat} (h : ∀ j, w.frozen? ⟨b, j, none⟩ = false) (hb : Below B w w') (hB : b < B) : ∀ j, w'.frozen? ⟨b, j, none⟩ = false :=
  fun j => (hb.frozen (p := ⟨b, j, none⟩) hB).trans (h j)
set_option maxHeartbeats 2000000 in
theorem of_yes (name : ByteArray) (n : Nat) (w : World) (hn : n < 27) (hlow : ∀ k, k < n → ((prAt k).nm.toList == name.toList) = false) (hyes : ((prAt n).nm.toList == name.toList) = true) :
    Calls Try.prog 20 #[.string name] w fun e w' => e = .returned (.tuple #[(prAt n).val, .bool true]) ∧ Below w.heap.size w w' := by
  have HL := hid hlow
  clear hlow
  go_enter Try.func20, Try.ntmps20
  go_wp2_with fail
  have Z0 : Row12 (w.alloc (.cells #[.string ⟨#[]⟩, .int .i64 0, .int .u16 0, .int .i64 0, .int .i64 0, .int .i64 0, .int .i64 0, .int .i64 0, .int .i32 0, .int .i32 0, .bool false, .string ⟨#[]⟩] 40)) w.heap.size 0 prZ := Row12.fresh w 40 prZ
  have F0 : ∀ j, (w.alloc (.cells #[.string ⟨#[]⟩, .int .i64 0, .int .u16 0, .int .i64 0, .int .i64 0, .int .i64 0, .int .i64 0, .int .i64 0, .int .i32 0, .int .i32 0, .bool false, .string ⟨#[]⟩] 40)).frozen? ⟨w.heap.size, j, none⟩ = false := free_new w _ 40
  have hb0 := below_alloc w (.cells #[.string ⟨#[]⟩, .int .i64 0, .int .u16 0, .int .i64 0, .int .i64 0, .int .i64 0, .int .i64 0, .int .i64 0, .int .i32 0, .int .i32 0, .bool false, .string ⟨#[]⟩] 40)
  generalize w.alloc (.cells #[.string ⟨#[]⟩, .int .i64 0, .int .u16 0, .int .i64 0, .int .i64 0, .int .i64 0, .int .i64 0, .int .i64 0, .int .i32 0, .int .i32 0, .bool false, .string ⟨#[]⟩] 40) = w0 at *
  refine (rows _).mono ?_
  rintro e w1 ⟨b, rfl, hR, hbb, hb1⟩
  replace F0 := free_below F0 hb1 Z0.lt
  replace Z0 := Z0.below hb1 Z0.lt
  replace hb0 := bel_step hb0 hb1
  replace hR := hid hR
  replace Z0 := hid Z0
  replace F0 := hid F0
  have hws : w.heap.size < w1.heap.size := Z0.out.lt
  clear hb1 hbb
  go_wp2
  go_loopw [8] (fun i wr => ∃ k : Nat, k ≤ n ∧ i = .int .i64 k ∧ Below w1.heap.size w1 wr) (fun i _ => n + 1 - (intOf i).toNat)
  case atStart => exact ⟨0, by omega, rfl, Below.refl _ _⟩
  case round =>
    obtain ⟨k, hk, rfl, hbel⟩ := hrel
    have hsz := hbel.size
    have hbw : Below w.heap.size w wr := bel_step hb0 hbel
    obtain ⟨hb, hcells⟩ := hR.out.below hbel
    have hrow := hcells k (by omega)
    clear hcells
    have hlt : (k : Int) < 27 := by omega
    by_cases hs : k < n
    · have ht := HL.out k hs
      generalize prAt k = r at *
      obtain ⟨nm, rop, m, krd, kr1, kr2, sg, un, lo, hi, no, bt⟩ := r
      obtain ⟨rl, c0, c1, c2, c3, c4, c5, c6, c7, c8, c9, c10, c11⟩ := hrow
      simp only [] at c0 c1 c2 c3 c4 c5 c6 c7 c8 c9 c10 c11 ht
      have hbw2 : Below w1.heap.size w1 (wr.alloc (.cells #[.string nm, .int .i64 rop, .int .u16 m, .int .i64 krd, .int .i64 kr1, .int .i64 kr2, .int .i64 sg, .int .i64 un, .int .i32 lo, .int .i32 hi, .bool no, .string bt] 40)) := bel_step hbel (below_alloc wr _)
      go_wp2
      go_roundw
      case rel => exact ⟨k + 1, by omega, by go_num, hbw2⟩
      case measure => simp [intOf]; omega
    · obtain rfl : k = n := by omega
      have ht := hyes
      have HV : Hid ((prAt k).val = (prAt k).val) := hid rfl
      generalize hr : prAt k = r at *
      have HR := hid hr
      obtain ⟨nm, rop, m, krd, kr1, kr2, sg, un, lo, hi, no, bt⟩ := r
      have z1 := (Z0.out.below hbel Z0.out.lt)
      have f1 := free_below F0.out hbel Z0.out.lt
      have zr : Row12 (wr.alloc (.cells #[.string nm, .int .i64 rop, .int .u16 m, .int .i64 krd, .int .i64 kr1, .int .i64 kr2, .int .i64 sg, .int .i64 un, .int .i32 lo, .int .i32 hi, .bool no, .string bt] 40)) wr.heap.size 0 ⟨nm, rop, m, krd, kr1, kr2, sg, un, lo, hi, no, bt⟩ := Row12.fresh wr 40 ⟨nm, rop, m, krd, kr1, kr2, sg, un, lo, hi, no, bt⟩
      replace z1 := z1.below (below_alloc wr (.cells #[.string nm, .int .i64 rop, .int .u16 m, .int .i64 krd, .int .i64 kr1, .int .i64 kr2, .int .i64 sg, .int .i64 un, .int .i32 lo, .int .i32 hi, .bool no, .string bt] 40)) z1.lt
      replace f1 := free_below f1 (below_alloc wr (.cells #[.string nm, .int .i64 rop, .int .u16 m, .int .i64 krd, .int .i64 kr1, .int .i64 kr2, .int .i64 sg, .int .i64 un, .int .i32 lo, .int .i32 hi, .bool no, .string bt] 40)) (Nat.lt_of_lt_of_le hws hsz)
      have hbw2 : Below w.heap.size w (wr.alloc (.cells #[.string nm, .int .i64 rop, .int .u16 m, .int .i64 krd, .int .i64 kr1, .int .i64 kr2, .int .i64 sg, .int .i64 un, .int .i32 lo, .int .i32 hi, .bool no, .string bt] 40)) := bel_step hbw (below_alloc wr _)
      have hne : w.heap.size ≠ wr.heap.size := by omega
      obtain ⟨rl, c0, c1, c2, c3, c4, c5, c6, c7, c8, c9, c10, c11⟩ := hrow
      simp only [] at c0 c1 c2 c3 c4 c5 c6 c7 c8 c9 c10 c11 ht
      clear hr hyes
      go_upto_region 4 with (fail)
      clear rl c0 c1 c2 c3 c4 c5 c6 c7 c8 c9 c10 c11
      generalize wr.alloc (.cells #[.string nm, .int .i64 rop, .int .u16 m, .int .i64 krd, .int .i64 kr1, .int .i64 kr2, .int .i64 sg, .int .i64 un, .int .i32 lo, .int .i32 hi, .bool no, .string bt] 40) = w2 at *
      obtain ⟨rl, c0, c1, c2, c3, c4, c5, c6, c7, c8, c9, c10, c11⟩ := zr
      obtain ⟨zl, z0, z1, z2, z3, z4, z5, z6, z7, z8, z9, z10, z11⟩ := z1
      simp only [Nat.zero_add, prZ] at c0 c1 c2 c3 c4 c5 c6 c7 c8 c9 c10 c11 z0 z1 z2 z3 z4 z5 z6 z7 z8 z9 z10 z11
      clear hbel hbw hsz hb hlt hb0 Z0 F0 hR HL hws
      go_wp2
      refine bodyPost_ret (v := .tuple #[.agg #[.string nm, .int .i64 rop, .int .u16 m, .int .i64 krd, .int .i64 kr1, .int .i64 kr2, .int .i64 sg, .int .i64 un, .int .i32 lo, .int .i32 hi, .bool no, .string bt], .bool true]) (by simp [results, Try.results20, go_sem, setCell_map, z0, z1, z2, z3, z4, z5, z6, z7, z8, z9, z10, z11]; try rfl) rfl ⟨by rw [HR.out]; rfl, (by repeat' (first | (with_reducible exact Below.refl _ _) | (with_reducible assumption) | (with_reducible refine below_drewN ?_ _) | (with_reducible refine Below.alloc ?_ ?_ _) | (with_reducible refine Below.drew ?_) | (with_reducible refine Below.setCell ?_ ?_ _) | (with_reducible exact Below.size (by assumption)) | go_size))⟩
set_option maxHeartbeats 2000000 in
theorem of_no (name : ByteArray) (w : World) (hlow : ∀ k, k < 27 → ((prAt k).nm.toList == name.toList) = false) :
    Calls Try.prog 20 #[.string name] w fun e w' => e = .returned (.tuple #[prZ.val, .bool false]) ∧ Below w.heap.size w w' := by
  have HL := hid hlow
  clear hlow
  go_enter Try.func20, Try.ntmps20
  go_wp2_with fail
  have Z0 : Row12 (w.alloc (.cells #[.string ⟨#[]⟩, .int .i64 0, .int .u16 0, .int .i64 0, .int .i64 0, .int .i64 0, .int .i64 0, .int .i64 0, .int .i32 0, .int .i32 0, .bool false, .string ⟨#[]⟩] 40)) w.heap.size 0 prZ := Row12.fresh w 40 prZ
  have F0 : ∀ j, (w.alloc (.cells #[.string ⟨#[]⟩, .int .i64 0, .int .u16 0, .int .i64 0, .int .i64 0, .int .i64 0, .int .i64 0, .int .i64 0, .int .i32 0, .int .i32 0, .bool false, .string ⟨#[]⟩] 40)).frozen? ⟨w.heap.size, j, none⟩ = false := free_new w _ 40
  have hb0 := below_alloc w (.cells #[.string ⟨#[]⟩, .int .i64 0, .int .u16 0, .int .i64 0, .int .i64 0, .int .i64 0, .int .i64 0, .int .i64 0, .int .i32 0, .int .i32 0, .bool false, .string ⟨#[]⟩] 40)
  generalize w.alloc (.cells #[.string ⟨#[]⟩, .int .i64 0, .int .u16 0, .int .i64 0, .int .i64 0, .int .i64 0, .int .i64 0, .int .i64 0, .int .i32 0, .int .i32 0, .bool false, .string ⟨#[]⟩] 40) = w0 at *
  refine (rows _).mono ?_
  rintro e w1 ⟨b, rfl, hR, hbb, hb1⟩
  replace F0 := free_below F0 hb1 Z0.lt
  replace Z0 := Z0.below hb1 Z0.lt
  replace hb0 := bel_step hb0 hb1
  replace hR := hid hR
  replace Z0 := hid Z0
  replace F0 := hid F0
  have hws : w.heap.size < w1.heap.size := Z0.out.lt
  clear hb1 hbb
  go_wp2
  go_loopw [8] (fun i wr => ∃ k : Nat, k ≤ 27 ∧ i = .int .i64 k ∧ Below w1.heap.size w1 wr) (fun i _ => 27 + 1 - (intOf i).toNat)
  case atStart => exact ⟨0, by omega, rfl, Below.refl _ _⟩
  case round =>
    obtain ⟨k, hk, rfl, hbel⟩ := hrel
    have hsz := hbel.size
    have hbw : Below w.heap.size w wr := bel_step hb0 hbel
    by_cases hs : k < 27
    · obtain ⟨hb, hcells⟩ := hR.out.below hbel
      have hrow := hcells k (by omega)
      clear hcells
      have hlt : (k : Int) < 27 := by omega
      have ht := HL.out k hs
      generalize prAt k = r at *
      obtain ⟨nm, rop, m, krd, kr1, kr2, sg, un, lo, hi, no, bt⟩ := r
      obtain ⟨rl, c0, c1, c2, c3, c4, c5, c6, c7, c8, c9, c10, c11⟩ := hrow
      simp only [] at c0 c1 c2 c3 c4 c5 c6 c7 c8 c9 c10 c11 ht
      have hbw2 : Below w1.heap.size w1 (wr.alloc (.cells #[.string nm, .int .i64 rop, .int .u16 m, .int .i64 krd, .int .i64 kr1, .int .i64 kr2, .int .i64 sg, .int .i64 un, .int .i32 lo, .int .i32 hi, .bool no, .string bt] 40)) := bel_step hbel (below_alloc wr _)
      go_wp2
      go_roundw
      case rel => exact ⟨k + 1, by omega, by go_num, hbw2⟩
      case measure => simp [intOf]; omega
    · obtain rfl : k = 27 := by omega
      have z1 := (Z0.out.below hbel Z0.out.lt)
      have f1 := free_below F0.out hbel Z0.out.lt
      obtain ⟨zl, z0, z1, z2, z3, z4, z5, z6, z7, z8, z9, z10, z11⟩ := z1
      simp only [Nat.zero_add, prZ] at z0 z1 z2 z3 z4 z5 z6 z7 z8 z9 z10 z11
      clear hbel hsz hb0 Z0 F0 hR HL hws
      go_wp2
      refine bodyPost_ret (v := .tuple #[prZ.val, .bool false]) (by simp [results, Try.results20, go_sem, setCell_map, PR.val, prZ, z0, z1, z2, z3, z4, z5, z6, z7, z8, z9, z10, z11]; try rfl) rfl ⟨rfl, (by repeat' (first | (with_reducible exact Below.refl _ _) | (with_reducible assumption) | (with_reducible refine below_drewN ?_ _) | (with_reducible refine Below.alloc ?_ ?_ _) | (with_reducible refine Below.drew ?_) | (with_reducible refine Below.setCell ?_ ?_ _) | (with_reducible exact Below.size (by assumption)) | go_size))⟩

/-- is an instruction one of a short's? -/
theorem Fits_yes (name : ByteArray) (n : Nat) (op rd rs1 rs2 imm : Int) (w : World) (hn : n < 27) (hlow : ∀ k, k < n → ((prAt k).nm.toList == name.toList) = false) (hyes : ((prAt n).nm.toList == name.toList) = true) (i0 : -2147483648 ≤ imm) (i1 : imm < 2147483648) :
    Calls Try.prog 17 #[.string name, .agg #[.int .i64 op, .int .i64 rd, .int .i64 rs1, .int .i64 rs2, .int .i32 imm]] w fun e w' => e = .returned (.bool (fitR (prAt n) op rd rs1 rs2 imm)) ∧ Below w.heap.size w w' := by
  have HO := hid (fun w => of_yes name n w hn hlow hyes)
  have HF := hid (fun w => fits (prAt n) op rd rs1 rs2 imm w (fine_at hn) i0 i1)
  clear hlow hyes
  generalize fitR (prAt n) op rd rs1 rs2 imm = v at *
  generalize prAt n = r at *
  obtain ⟨nm, rop, m, krd, kr1, kr2, sg, un, lo, hi, no, bt⟩ := r
  simp only [] at HF
  simp only [PR.val] at HO
  go_enter Try.func17, Try.ntmps17
  go_wp2_with fail
  have z0 := Inst.new w 23 (.int .i64 op) (.int .i64 rd) (.int .i64 rs1) (.int .i64 rs2) (.int .i32 imm)
  have hb0 := below_alloc w (.cells #[.int .i64 op, .int .i64 rd, .int .i64 rs1, .int .i64 rs2, .int .i32 imm] 23)
  generalize w.alloc (.cells #[.int .i64 op, .int .i64 rd, .int .i64 rs1, .int .i64 rs2, .int .i32 imm] 23) = w1 at *
  refine (HO.out _).mono ?_
  rintro e w2 ⟨rfl, hb1⟩
  replace z0 := z0.below hb1 z0.lt
  replace hb0 := bel_step hb0 hb1
  clear hb1 HO w1
  have zr : Row12 (w2.alloc (.cells #[.string nm, .int .i64 rop, .int .u16 m, .int .i64 krd, .int .i64 kr1, .int .i64 kr2, .int .i64 sg, .int .i64 un, .int .i32 lo, .int .i32 hi, .bool no, .string bt] 40)) w2.heap.size 0 ⟨nm, rop, m, krd, kr1, kr2, sg, un, lo, hi, no, bt⟩ := Row12.fresh w2 40 ⟨nm, rop, m, krd, kr1, kr2, sg, un, lo, hi, no, bt⟩
  go_upto_region 2 with (fail)
  replace z0 := z0.below (below_alloc w2 (.cells #[.string nm, .int .i64 rop, .int .u16 m, .int .i64 krd, .int .i64 kr1, .int .i64 kr2, .int .i64 sg, .int .i64 un, .int .i32 lo, .int .i32 hi, .bool no, .string bt] 40)) z0.lt
  replace hb0 := bel_step hb0 (below_alloc w2 (.cells #[.string nm, .int .i64 rop, .int .u16 m, .int .i64 krd, .int .i64 kr1, .int .i64 kr2, .int .i64 sg, .int .i64 un, .int .i32 lo, .int .i32 hi, .bool no, .string bt] 40))
  generalize w2.alloc (.cells #[.string nm, .int .i64 rop, .int .u16 m, .int .i64 krd, .int .i64 kr1, .int .i64 kr2, .int .i64 sg, .int .i64 un, .int .i32 lo, .int .i32 hi, .bool no, .string bt] 40) = w3 at *
  obtain ⟨rl, c0, c1, c2, c3, c4, c5, c6, c7, c8, c9, c10, c11⟩ := zr
  simp only [Nat.zero_add] at c0 c1 c2 c3 c4 c5 c6 c7 c8 c9 c10 c11
  obtain ⟨yl, y0, y1, y2, y3, y4⟩ := z0
  go_wp2_with fail
  refine (HF.out _).mono ?_
  rintro e w4 ⟨rfl, hb1⟩
  replace hb0 := bel_step hb0 hb1
  go_wp2
  go_ret
  exact ⟨rfl, hb0⟩
theorem Fits_no (name : ByteArray) (op rd rs1 rs2 imm : Int) (w : World) (hlow : ∀ k, k < 27 → ((prAt k).nm.toList == name.toList) = false) :
    Calls Try.prog 17 #[.string name, .agg #[.int .i64 op, .int .i64 rd, .int .i64 rs1, .int .i64 rs2, .int .i32 imm]] w fun e w' => e = .returned (.bool false) ∧ Below w.heap.size w w' := by
  have HO := hid (fun w => of_no name w hlow)
  clear hlow
  simp only [PR.val, prZ] at HO
  go_enter Try.func17, Try.ntmps17
  go_wp2_with fail
  refine (HO.out _).mono ?_
  rintro e w2 ⟨rfl, hb1⟩
  have hb0 : Below w.heap.size w w2 := bel_step (w := w) (by repeat' (first | (with_reducible exact Below.refl _ _) | (with_reducible assumption) | (with_reducible refine below_drewN ?_ _) | (with_reducible refine Below.alloc ?_ ?_ _) | (with_reducible refine Below.drew ?_) | (with_reducible refine Below.setCell ?_ ?_ _) | (with_reducible exact Below.size (by assumption)) | go_size)) hb1
  clear hb1 HO
  go_wp2
  go_ret
  exact ⟨rfl, (by repeat' (first | (with_reducible exact Below.refl _ _) | (with_reducible assumption) | (with_reducible refine below_drewN ?_ _) | (with_reducible refine Below.alloc ?_ ?_ _) | (with_reducible refine Below.drew ?_) | (with_reducible refine Below.setCell ?_ ?_ _) | (with_reducible exact Below.size (by assumption)) | go_size))⟩
end Go.Proofs.Ytfecjdchgckjhaa.F
