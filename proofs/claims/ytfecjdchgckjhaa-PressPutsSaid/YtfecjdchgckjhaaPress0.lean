/- What press.rows computes: the table. What the functions of package press compute: registers, what fits a row. What the functions of package press compute: the row of a name, what fits a short. What the functions of package press compute: the first short; a register laid; the unit's shift. What the functions of package press compute: the shift of a unit; a parcel put together. -/
import Derived.Test.YtfecjdchgckjhaaPressP
import Derived.Test.YtfecjdchgckjhaaIns
import Derived.Test.YtfecjdchgckjhaaCells
import Derived.Test.YtfecjdchgckjhaaCellMap
import Derived.Deep.Cut
import Derived.Lib.OthersKept
import Derived.Deep.QuietTactic
import Derived.BigQuiet
import Derived.IntWalk
import Derived.Deep.RegionHeld3
namespace Go.Proofs.Ytfecjdchgckjhaa.F
set_option linter.unusedVariables false
set_option linter.unusedSimpArgs false
open Go.ChangeShapes Go.WideShapes Go.ChangeAt Go.RowKit Go.Proofs.Ytfecjdchgckjhaa.P Go.Proofs.Ytfecjdchgckjhaa.W

/-- the cells of a row lie there -/
structure Row12 (w : World) (b o : Nat) (r : PR) : Prop where
  lt : b < w.heap.size
  c0 : w.cell? ⟨b, o, none⟩ = some (.string r.nm)
  c1 : w.cell? ⟨b, o + 1, none⟩ = some (.int .i64 r.op)
  c2 : w.cell? ⟨b, o + 2, none⟩ = some (.int .u16 r.m)
  c3 : w.cell? ⟨b, o + 3, none⟩ = some (.int .i64 r.rd)
  c4 : w.cell? ⟨b, o + 4, none⟩ = some (.int .i64 r.r1)
  c5 : w.cell? ⟨b, o + 5, none⟩ = some (.int .i64 r.r2)
  c6 : w.cell? ⟨b, o + 6, none⟩ = some (.int .i64 r.sg)
  c7 : w.cell? ⟨b, o + 7, none⟩ = some (.int .i64 r.un)
  c8 : w.cell? ⟨b, o + 8, none⟩ = some (.int .i32 r.lo)
  c9 : w.cell? ⟨b, o + 9, none⟩ = some (.int .i32 r.hi)
  c10 : w.cell? ⟨b, o + 10, none⟩ = some (.bool r.no)
  c11 : w.cell? ⟨b, o + 11, none⟩ = some (.string r.bt)
theorem Row12.below {w w' : World} {b o B : Nat} {r : PR} (h : Row12 w b o r) (hb : Below B w w') (hB : b < B) : Row12 w' b o r :=
  have c : ∀ j, w'.cell? ⟨b, j, none⟩ = w.cell? ⟨b, j, none⟩ := fun j => hb.cell (p := ⟨b, j, none⟩) hB
  ⟨Nat.lt_of_lt_of_le h.lt hb.size, (c _).trans h.c0, (c _).trans h.c1, (c _).trans h.c2, (c _).trans h.c3, (c _).trans h.c4, (c _).trans h.c5, (c _).trans h.c6, (c _).trans h.c7, (c _).trans h.c8, (c _).trans h.c9, (c _).trans h.c10, (c _).trans h.c11⟩
theorem cell_new (w : World) (l : List Value) (t : TypeId) (i : Nat) : (w.alloc (.cells l.toArray t)).cell? ⟨w.heap.size, i, none⟩ = l[i]? := by
  have h := heap_alloc_new w (.cells l.toArray t)
  unfold World.cell?
  simp only [h]
  simp
theorem Row12.new (w : World) (t : TypeId) (r : PR) : Row12 (w.alloc (.cells r.cells.toArray t)) w.heap.size 0 r :=
  ⟨by simp, (cell_new _ _ _ _).trans rfl, (cell_new _ _ _ _).trans rfl, (cell_new _ _ _ _).trans rfl, (cell_new _ _ _ _).trans rfl, (cell_new _ _ _ _).trans rfl, (cell_new _ _ _ _).trans rfl, (cell_new _ _ _ _).trans rfl, (cell_new _ _ _ _).trans rfl, (cell_new _ _ _ _).trans rfl, (cell_new _ _ _ _).trans rfl, (cell_new _ _ _ _).trans rfl, (cell_new _ _ _ _).trans rfl⟩
/-- the table lies there -/
def RowsAt (w : World) (b : Nat) : Prop := b < w.heap.size ∧ ∀ k, k < 27 → Row12 w b (k * 12) (prAt k)
theorem RowsAt.below {w w' : World} {b : Nat} (h : RowsAt w b) (hb : Below w.heap.size w w') : RowsAt w' b :=
  ⟨Nat.lt_of_lt_of_le h.1 hb.size, fun k hk => (h.2 k hk).below hb h.1⟩
theorem RowsAt.new (w : World) (t : TypeId) : RowsAt (w.alloc (.cells (prFlat prL).toArray t)) w.heap.size := by
  refine ⟨by simp, fun k hk => ?_⟩
  have e : ∀ j, j < 12 → (w.alloc (.cells (prFlat prL).toArray t)).cell? ⟨w.heap.size, k * 12 + j, none⟩ = (prAt k).cells[j]? := fun j hj =>
    (cell_new _ _ _ _).trans (prFlat_at prL k (by rw [prL_length]; exact hk) j hj)
  exact ⟨by simp, (e 0 (by decide)).trans rfl, (e 1 (by decide)).trans rfl, (e 2 (by decide)).trans rfl, (e 3 (by decide)).trans rfl, (e 4 (by decide)).trans rfl, (e 5 (by decide)).trans rfl, (e 6 (by decide)).trans rfl, (e 7 (by decide)).trans rfl, (e 8 (by decide)).trans rfl, (e 9 (by decide)).trans rfl, (e 10 (by decide)).trans rfl, (e 11 (by decide)).trans rfl⟩
theorem wp_of_run {P : Program} {o : Oper} {a : Act} {w w' : World} {v : Value} {K : Act → World → Prop} {Q : Exit → Act → World → Prop} (h : (execOp a.eval o).run P w = .ok (.value v) w') (hk : K (a.put o.dst v) w') : o.wp P a w K Q := by
  unfold Oper.wp
  rw [h]
  exact hk
set_option maxRecDepth 100000 in
set_option maxHeartbeats 8000000 in
theorem rows (w : World) : Calls Try.prog 33 #[] w fun e w' => ∃ b, e = .returned (.slice (some ⟨b, 0, none⟩) 27 27) ∧ RowsAt w' b ∧ w.heap.size ≤ b ∧ Below w.heap.size w w' := by
  go_enter Try.func33, Try.ntmps33
  go_wp2
  refine wp_of_run (v := .slice (some ⟨w.heap.size, 0, none⟩) 27 27) (w' := w.alloc (.cells (prFlat prL).toArray 40)) (by kernel_rfl) ?_
  go_wp2
  go_ret
  exact ⟨w.heap.size, rfl, RowsAt.new w 40, Nat.le_refl _, below_alloc w _⟩

end Go.Proofs.Ytfecjdchgckjhaa.F

namespace Go.Proofs.Ytfecjdchgckjhaa.F
set_option linter.unusedVariables false
set_option linter.unusedSimpArgs false
open Go.ChangeShapes Go.WideShapes Go.ChangeAt Go.RowKit Go.Proofs.Ytfecjdchgckjhaa.P Go.Proofs.Ytfecjdchgckjhaa.W

theorem reg (kind n rd : Int) (w : World) (k0 : 0 ≤ kind) (k1 : kind ≤ 10) :
    Calls Try.prog 37 #[.int .i64 kind, .int .i64 n, .int .i64 rd] w fun e w' => e = .returned (.bool (regK kind n rd)) ∧ w = w' := by
  have hc : kind = 0 ∨ kind = 1 ∨ kind = 2 ∨ kind = 3 ∨ kind = 4 ∨ kind = 5 ∨ kind = 6 ∨ kind = 7 ∨ kind = 8 ∨ kind = 9 ∨ kind = 10 := by omega
  rcases hc with rfl | rfl | rfl | rfl | rfl | rfl | rfl | rfl | rfl | rfl | rfl
  all_goals
    go_enter Try.func37, Try.ntmps37
    go_wp2
    all_goals (go_ret; refine ⟨ret_bool ?_, rfl⟩)
    all_goals (simp [regK, bne, *] <;> (try omega))
/-- what may stand in a row -/
structure _root_.Go.Proofs.Ytfecjdchgckjhaa.P.PR.fine (r : PR) : Prop where
  d0 : 0 ≤ r.rd
  d1 : r.rd ≤ 10
  a0 : 0 ≤ r.r1
  a1 : r.r1 ≤ 10
  b0 : 0 ≤ r.r2
  b1 : r.r2 ≤ 10
  u0 : 0 < r.un
  u1 : r.un ≤ 4096
  m0 : 0 ≤ r.m
  m1 : r.m < 65536
  s0 : 0 ≤ r.sg
  s1 : r.sg ≤ 18
theorem fine_all : ∀ k, k < 27 → (0 ≤ (prAt k).rd ∧ (prAt k).rd ≤ 10) ∧ (0 ≤ (prAt k).r1 ∧ (prAt k).r1 ≤ 10) ∧ (0 ≤ (prAt k).r2 ∧ (prAt k).r2 ≤ 10) ∧ (0 < (prAt k).un ∧ (prAt k).un ≤ 4096) ∧ (0 ≤ (prAt k).m ∧ (prAt k).m < 65536) ∧ (0 ≤ (prAt k).sg ∧ (prAt k).sg ≤ 18) := by decide
theorem fine_at {k : Nat} (h : k < 27) : (prAt k).fine := by
  obtain ⟨⟨h1, h2⟩, ⟨h3, h4⟩, ⟨h5, h6⟩, ⟨h7, h8⟩, ⟨h9, ha⟩, hb, hc⟩ := fine_all k h
  exact ⟨h1, h2, h3, h4, h5, h6, h7, h8, h9, ha, hb, hc⟩
theorem Row12.fresh (w : World) (t : TypeId) (r : PR) : Row12 (w.alloc (.cells #[.string r.nm, .int .i64 r.op, .int .u16 r.m, .int .i64 r.rd, .int .i64 r.r1, .int .i64 r.r2, .int .i64 r.sg, .int .i64 r.un, .int .i32 r.lo, .int .i32 r.hi, .bool r.no, .string r.bt] t)) w.heap.size 0 r := Row12.new w t r
theorem tmod_zero (v k : Int) (hk : 0 < k) : (v.tmod k == 0) = (v % k == 0) := by
  rw [Bool.eq_iff_iff, beq_iff_eq, beq_iff_eq, ← Int.dvd_iff_tmod_eq_zero, Int.dvd_iff_emod_eq_zero]
/-- a row as a value -/
def _root_.Go.Proofs.Ytfecjdchgckjhaa.P.PR.val (r : PR) : Value := .agg #[.string r.nm, .int .i64 r.op, .int .u16 r.m, .int .i64 r.rd, .int .i64 r.r1, .int .i64 r.r2, .int .i64 r.sg, .int .i64 r.un, .int .i32 r.lo, .int .i32 r.hi, .bool r.no, .string r.bt]
set_option maxHeartbeats 2000000 in
theorem fits (r : PR) (op rd rs1 rs2 imm : Int) (w : World) (hr : r.fine) (i0 : -2147483648 ≤ imm) (i1 : imm < 2147483648) :
    Calls Try.prog 21 #[.agg #[.string r.nm, .int .i64 r.op, .int .u16 r.m, .int .i64 r.rd, .int .i64 r.r1, .int .i64 r.r2, .int .i64 r.sg, .int .i64 r.un, .int .i32 r.lo, .int .i32 r.hi, .bool r.no, .string r.bt], .agg #[.int .i64 op, .int .i64 rd, .int .i64 rs1, .int .i64 rs2, .int .i32 imm]] w fun e w' => e = .returned (.bool (fitR r op rd rs1 rs2 imm)) ∧ Below w.heap.size w w' := by
  obtain ⟨d0, d1, a0, a1, b0, b1, u0, u1, -, -, -, -⟩ := hr
  have HM := hid (fun w => I.May op rd rs1 rs2 imm w)
  have HD := hid (fun w => reg r.rd rd 0 w d0 d1)
  have HA := hid (fun w => reg r.r1 rs1 rd w a0 a1)
  have HB := hid (fun w => reg r.r2 rs2 rd w b0 b1)
  have ht := tmod_zero imm r.un u0
  have hf : Hid (fitR r op rd rs1 rs2 imm = (mayB op rd rs1 rs2 imm && (op == r.op) && regK r.rd rd 0 && regK r.r1 rs1 rd && regK r.r2 rs2 rd && decide (r.lo ≤ imm) && decide (imm ≤ r.hi) && (imm.tmod r.un == 0) && (r.no || !(imm == 0)))) := hid (by rw [ht]; rfl)
  have z0 := fun w => Row12.fresh w 40 r
  obtain ⟨nm, rop, m, krd, kr1, kr2, sg, un, lo, hi, no, bt⟩ := r
  simp only [] at HD HA HB hf u0 u1 ht ⊢
  clear ht d0 d1 a0 a1 b0 b1 z0
  generalize mayB op rd rs1 rs2 imm = vm at *
  generalize regK krd rd 0 = vd at *
  generalize regK kr1 rs1 rd = va at *
  generalize regK kr2 rs2 rd = vb at *
  go_enter Try.func21, Try.ntmps21
  go_wp2_with fail
  have z0 : Row12 _ w.heap.size 0 ⟨nm, rop, m, krd, kr1, kr2, sg, un, lo, hi, no, bt⟩ := Row12.fresh w 40 ⟨nm, rop, m, krd, kr1, kr2, sg, un, lo, hi, no, bt⟩
  have hb0 := below_alloc w (.cells #[.string nm, .int .i64 rop, .int .u16 m, .int .i64 krd, .int .i64 kr1, .int .i64 kr2, .int .i64 sg, .int .i64 un, .int .i32 lo, .int .i32 hi, .bool no, .string bt] 40)
  have hsz : (w.alloc (.cells #[.string nm, .int .i64 rop, .int .u16 m, .int .i64 krd, .int .i64 kr1, .int .i64 kr2, .int .i64 sg, .int .i64 un, .int .i32 lo, .int .i32 hi, .bool no, .string bt] 40)).heap.size = w.heap.size + 1 := by simp
  simp only [] at z0
  generalize w.alloc (.cells #[.string nm, .int .i64 rop, .int .u16 m, .int .i64 krd, .int .i64 kr1, .int .i64 kr2, .int .i64 sg, .int .i64 un, .int .i32 lo, .int .i32 hi, .bool no, .string bt] 40) = w1 at *
  have z1 := Inst.new w1 23 (.int .i64 op) (.int .i64 rd) (.int .i64 rs1) (.int .i64 rs2) (.int .i32 imm)
  have hb1 := below_alloc w1 (.cells #[.int .i64 op, .int .i64 rd, .int .i64 rs1, .int .i64 rs2, .int .i32 imm] 23)
  rw [hsz] at z1
  generalize w1.alloc (.cells #[.int .i64 op, .int .i64 rd, .int .i64 rs1, .int .i64 rs2, .int .i32 imm] 23) = w2 at *
  replace z0 := z0.below hb1 z0.lt
  replace hb0 := bel_step hb0 hb1
  clear hb1 hsz
  refine (HM.out _).mono ?_
  rintro e w3 ⟨rfl, hb1⟩
  replace z0 := z0.below hb1 z0.lt
  replace z1 := z1.below hb1 z1.lt
  replace hb0 := bel_step hb0 hb1
  clear hb1 HM w1 w2
  obtain ⟨zl, c0, c1, c2, c3, c4, c5, c6, c7, c8, c9, c10, c11⟩ := z0
  obtain ⟨yl, y0, y1, y2, y3, y4⟩ := z1
  simp only [Nat.zero_add] at c0 c1 c2 c3 c4 c5 c6 c7 c8 c9 c10 c11
  cases vm
  · clear HD HA HB
    by_cases e : op = rop
    · subst e
      go_wp2
      go_ret
      exact ⟨ret_bool (by rw [hf.out]; rfl), hb0⟩
    · go_wp2
      go_ret
      exact ⟨ret_bool (by rw [hf.out]; rfl), hb0⟩
  · by_cases e : op = rop
    · subst e
      cases vd <;> cases va <;> cases vb <;> cases no
      all_goals
        go_wp2_with (first | (go_at_call 37; (with_reducible refine (HD.out _).mono ?_); rintro e w' ⟨rfl, rfl⟩) | (go_at_call 37; (with_reducible refine (HA.out _).mono ?_); rintro e w' ⟨rfl, rfl⟩) | (go_at_call 37; (with_reducible refine (HB.out _).mono ?_); rintro e w' ⟨rfl, rfl⟩))
        all_goals go_ret
        all_goals (refine ⟨ret_bool ?_, hb0⟩; rw [hf.out]; clear hf HD HA HB; simp [*, bne] <;> (intros; first | omega | simp_all))
    · have hne : (op != rop) = true := by simpa using e
      have hne2 : (op == rop) = false := by simpa using e
      clear e
      go_wp2
      go_ret
      exact ⟨ret_bool (by rw [hf.out, hne2]; simp), hb0⟩
end Go.Proofs.Ytfecjdchgckjhaa.F

namespace Go.Proofs.Ytfecjdchgckjhaa.F
set_option linter.unusedVariables false
set_option linter.unusedSimpArgs false
open Go.ChangeShapes Go.WideShapes Go.ChangeAt Go.RowKit Go.Proofs.Ytfecjdchgckjhaa.P Go.Proofs.Ytfecjdchgckjhaa.W

theorem free_new (w : World) (c : Array Value) (t : TypeId) (j : Nat) : (w.alloc (.cells c t)).frozen? ⟨w.heap.size, j, none⟩ = false := by
  rw [frozen?_alloc_cells]; simp [World.frozen?]
theorem free_below {w w' : World} {b B : Nat} (h : ∀ j, w.frozen? ⟨b, j, none⟩ = false) (hb : Below B w w') (hB : b < B) : ∀ j, w'.frozen? ⟨b, j, none⟩ = false :=
  fun j => (hb.frozen (p := ⟨b, j, none⟩) hB).trans (h j)
set_option maxHeartbeats 2000000 in
theorem of_yes (name : ByteArray) (n : Nat) (w : World) (hn : n < 27) (hlow : ∀ k, k < n → ((prAt k).nm.toList == name.toList) = false) (hyes : ((prAt n).nm.toList == name.toList) = true) :
    Calls Try.prog 20 #[.string name] w fun e w' => e = .returned (.tuple #[(prAt n).val, .bool true]) ∧ Below w.heap.size w w' := by
  have HL := hid hlow
  clear hlow
  go_enter Try.func20, Try.ntmps20
  go_wp2_with fail
  have Z0 : Row12 (w.alloc (.cells #[.string ⟨#[]⟩, .int .i64 0, .int .u16 0, .int .i64 0, .int .i64 0, .int .i64 0, .int .i64 0, .int .i64 0, .int .i32 0, .int .i32 0, .bool false, .string ⟨#[]⟩] 40)) w.heap.size 0 prZ := Row12.fresh w 40 prZ
  have F0 : ∀ j, (w.alloc (.cells #[.string ⟨#[]⟩, .int .i64 0, .int .u16 0, .int .i64 0, .int .i64 0, .int .i64 0, .int .i64 0, .int .i64 0, .int .i32 0, .int .i32 0, .bool false, .string ⟨#[]⟩] 40)).frozen? ⟨w.heap.size, j, none⟩ = false := free_new w _ 40
  have hb0 := below_alloc w (.cells #[.string ⟨#[]⟩, .int .i64 0, .int .u16 0, .int .i64 0, .int .i64 0, .int .i64 0, .int .i64 0, .int .i64 0, .int .i32 0, .int .i32 0, .bool false, .string ⟨#[]⟩] 40)
  generalize w.alloc (.cells #[.string ⟨#[]⟩, .int .i64 0, .int .u16 0, .int .i64 0, .int .i64 0, .int .i64 0, .int .i64 0, .int .i64 0, .int .i32 0, .int .i32 0, .bool false, .string ⟨#[]⟩] 40) = w0 at *
  refine (rows _).mono ?_
  rintro e w1 ⟨b, rfl, hR, hbb, hb1⟩
  replace F0 := free_below F0 hb1 Z0.lt
  replace Z0 := Z0.below hb1 Z0.lt
  replace hb0 := bel_step hb0 hb1
  replace hR := hid hR
  replace Z0 := hid Z0
  replace F0 := hid F0
  have hws : w.heap.size < w1.heap.size := Z0.out.lt
  clear hb1 hbb
  go_wp2
  go_loopw [8] (fun i wr => ∃ k : Nat, k ≤ n ∧ i = .int .i64 k ∧ Below w1.heap.size w1 wr) (fun i _ => n + 1 - (intOf i).toNat)
  case atStart => exact ⟨0, by omega, rfl, Below.refl _ _⟩
  case round =>
    obtain ⟨k, hk, rfl, hbel⟩ := hrel
    have hsz := hbel.size
    have hbw : Below w.heap.size w wr := bel_step hb0 hbel
    obtain ⟨hb, hcells⟩ := hR.out.below hbel
    have hrow := hcells k (by omega)
    clear hcells
    have hlt : (k : Int) < 27 := by omega
    by_cases hs : k < n
    · have ht := HL.out k hs
      generalize prAt k = r at *
      obtain ⟨nm, rop, m, krd, kr1, kr2, sg, un, lo, hi, no, bt⟩ := r
      obtain ⟨rl, c0, c1, c2, c3, c4, c5, c6, c7, c8, c9, c10, c11⟩ := hrow
      simp only [] at c0 c1 c2 c3 c4 c5 c6 c7 c8 c9 c10 c11 ht
      have hbw2 : Below w1.heap.size w1 (wr.alloc (.cells #[.string nm, .int .i64 rop, .int .u16 m, .int .i64 krd, .int .i64 kr1, .int .i64 kr2, .int .i64 sg, .int .i64 un, .int .i32 lo, .int .i32 hi, .bool no, .string bt] 40)) := bel_step hbel (below_alloc wr _)
      go_wp2
      go_roundw
      case rel => exact ⟨k + 1, by omega, by go_num, hbw2⟩
      case measure => simp [intOf]; omega
    · obtain rfl : k = n := by omega
      have ht := hyes
      have HV : Hid ((prAt k).val = (prAt k).val) := hid rfl
      generalize hr : prAt k = r at *
      have HR := hid hr
      obtain ⟨nm, rop, m, krd, kr1, kr2, sg, un, lo, hi, no, bt⟩ := r
      have z1 := (Z0.out.below hbel Z0.out.lt)
      have f1 := free_below F0.out hbel Z0.out.lt
      have zr : Row12 (wr.alloc (.cells #[.string nm, .int .i64 rop, .int .u16 m, .int .i64 krd, .int .i64 kr1, .int .i64 kr2, .int .i64 sg, .int .i64 un, .int .i32 lo, .int .i32 hi, .bool no, .string bt] 40)) wr.heap.size 0 ⟨nm, rop, m, krd, kr1, kr2, sg, un, lo, hi, no, bt⟩ := Row12.fresh wr 40 ⟨nm, rop, m, krd, kr1, kr2, sg, un, lo, hi, no, bt⟩
      replace z1 := z1.below (below_alloc wr (.cells #[.string nm, .int .i64 rop, .int .u16 m, .int .i64 krd, .int .i64 kr1, .int .i64 kr2, .int .i64 sg, .int .i64 un, .int .i32 lo, .int .i32 hi, .bool no, .string bt] 40)) z1.lt
      replace f1 := free_below f1 (below_alloc wr (.cells #[.string nm, .int .i64 rop, .int .u16 m, .int .i64 krd, .int .i64 kr1, .int .i64 kr2, .int .i64 sg, .int .i64 un, .int .i32 lo, .int .i32 hi, .bool no, .string bt] 40)) (Nat.lt_of_lt_of_le hws hsz)
      have hbw2 : Below w.heap.size w (wr.alloc (.cells #[.string nm, .int .i64 rop, .int .u16 m, .int .i64 krd, .int .i64 kr1, .int .i64 kr2, .int .i64 sg, .int .i64 un, .int .i32 lo, .int .i32 hi, .bool no, .string bt] 40)) := bel_step hbw (below_alloc wr _)
      have hne : w.heap.size ≠ wr.heap.size := by omega
      obtain ⟨rl, c0, c1, c2, c3, c4, c5, c6, c7, c8, c9, c10, c11⟩ := hrow
      simp only [] at c0 c1 c2 c3 c4 c5 c6 c7 c8 c9 c10 c11 ht
      clear hr hyes
      go_upto_region 4 with (fail)
      clear rl c0 c1 c2 c3 c4 c5 c6 c7 c8 c9 c10 c11
      generalize wr.alloc (.cells #[.string nm, .int .i64 rop, .int .u16 m, .int .i64 krd, .int .i64 kr1, .int .i64 kr2, .int .i64 sg, .int .i64 un, .int .i32 lo, .int .i32 hi, .bool no, .string bt] 40) = w2 at *
      obtain ⟨rl, c0, c1, c2, c3, c4, c5, c6, c7, c8, c9, c10, c11⟩ := zr
      obtain ⟨zl, z0, z1, z2, z3, z4, z5, z6, z7, z8, z9, z10, z11⟩ := z1
      simp only [Nat.zero_add, prZ] at c0 c1 c2 c3 c4 c5 c6 c7 c8 c9 c10 c11 z0 z1 z2 z3 z4 z5 z6 z7 z8 z9 z10 z11
      clear hbel hbw hsz hb hlt hb0 Z0 F0 hR HL hws
      go_wp2
      refine bodyPost_ret (v := .tuple #[.agg #[.string nm, .int .i64 rop, .int .u16 m, .int .i64 krd, .int .i64 kr1, .int .i64 kr2, .int .i64 sg, .int .i64 un, .int .i32 lo, .int .i32 hi, .bool no, .string bt], .bool true]) (by simp [results, Try.results20, go_sem, setCell_map, z0, z1, z2, z3, z4, z5, z6, z7, z8, z9, z10, z11]; try rfl) rfl ⟨by rw [HR.out]; rfl, (by repeat' (first | (with_reducible exact Below.refl _ _) | (with_reducible assumption) | (with_reducible refine below_drewN ?_ _) | (with_reducible refine Below.alloc ?_ ?_ _) | (with_reducible refine Below.drew ?_) | (with_reducible refine Below.setCell ?_ ?_ _) | (with_reducible exact Below.size (by assumption)) | go_size))⟩
set_option maxHeartbeats 2000000 in
theorem of_no (name : ByteArray) (w : World) (hlow : ∀ k, k < 27 → ((prAt k).nm.toList == name.toList) = false) :
    Calls Try.prog 20 #[.string name] w fun e w' => e = .returned (.tuple #[prZ.val, .bool false]) ∧ Below w.heap.size w w' := by
  have HL := hid hlow
  clear hlow
  go_enter Try.func20, Try.ntmps20
  go_wp2_with fail
  have Z0 : Row12 (w.alloc (.cells #[.string ⟨#[]⟩, .int .i64 0, .int .u16 0, .int .i64 0, .int .i64 0, .int .i64 0, .int .i64 0, .int .i64 0, .int .i32 0, .int .i32 0, .bool false, .string ⟨#[]⟩] 40)) w.heap.size 0 prZ := Row12.fresh w 40 prZ
  have F0 : ∀ j, (w.alloc (.cells #[.string ⟨#[]⟩, .int .i64 0, .int .u16 0, .int .i64 0, .int .i64 0, .int .i64 0, .int .i64 0, .int .i64 0, .int .i32 0, .int .i32 0, .bool false, .string ⟨#[]⟩] 40)).frozen? ⟨w.heap.size, j, none⟩ = false := free_new w _ 40
  have hb0 := below_alloc w (.cells #[.string ⟨#[]⟩, .int .i64 0, .int .u16 0, .int .i64 0, .int .i64 0, .int .i64 0, .int .i64 0, .int .i64 0, .int .i32 0, .int .i32 0, .bool false, .string ⟨#[]⟩] 40)
  generalize w.alloc (.cells #[.string ⟨#[]⟩, .int .i64 0, .int .u16 0, .int .i64 0, .int .i64 0, .int .i64 0, .int .i64 0, .int .i64 0, .int .i32 0, .int .i32 0, .bool false, .string ⟨#[]⟩] 40) = w0 at *
  refine (rows _).mono ?_
  rintro e w1 ⟨b, rfl, hR, hbb, hb1⟩
  replace F0 := free_below F0 hb1 Z0.lt
  replace Z0 := Z0.below hb1 Z0.lt
  replace hb0 := bel_step hb0 hb1
  replace hR := hid hR
  replace Z0 := hid Z0
  replace F0 := hid F0
  have hws : w.heap.size < w1.heap.size := Z0.out.lt
  clear hb1 hbb
  go_wp2
  go_loopw [8] (fun i wr => ∃ k : Nat, k ≤ 27 ∧ i = .int .i64 k ∧ Below w1.heap.size w1 wr) (fun i _ => 27 + 1 - (intOf i).toNat)
  case atStart => exact ⟨0, by omega, rfl, Below.refl _ _⟩
  case round =>
    obtain ⟨k, hk, rfl, hbel⟩ := hrel
    have hsz := hbel.size
    have hbw : Below w.heap.size w wr := bel_step hb0 hbel
    by_cases hs : k < 27
    · obtain ⟨hb, hcells⟩ := hR.out.below hbel
      have hrow := hcells k (by omega)
      clear hcells
      have hlt : (k : Int) < 27 := by omega
      have ht := HL.out k hs
      generalize prAt k = r at *
      obtain ⟨nm, rop, m, krd, kr1, kr2, sg, un, lo, hi, no, bt⟩ := r
      obtain ⟨rl, c0, c1, c2, c3, c4, c5, c6, c7, c8, c9, c10, c11⟩ := hrow
      simp only [] at c0 c1 c2 c3 c4 c5 c6 c7 c8 c9 c10 c11 ht
      have hbw2 : Below w1.heap.size w1 (wr.alloc (.cells #[.string nm, .int .i64 rop, .int .u16 m, .int .i64 krd, .int .i64 kr1, .int .i64 kr2, .int .i64 sg, .int .i64 un, .int .i32 lo, .int .i32 hi, .bool no, .string bt] 40)) := bel_step hbel (below_alloc wr _)
      go_wp2
      go_roundw
      case rel => exact ⟨k + 1, by omega, by go_num, hbw2⟩
      case measure => simp [intOf]; omega
    · obtain rfl : k = 27 := by omega
      have z1 := (Z0.out.below hbel Z0.out.lt)
      have f1 := free_below F0.out hbel Z0.out.lt
      obtain ⟨zl, z0, z1, z2, z3, z4, z5, z6, z7, z8, z9, z10, z11⟩ := z1
      simp only [Nat.zero_add, prZ] at z0 z1 z2 z3 z4 z5 z6 z7 z8 z9 z10 z11
      clear hbel hsz hb0 Z0 F0 hR HL hws
      go_wp2
      refine bodyPost_ret (v := .tuple #[prZ.val, .bool false]) (by simp [results, Try.results20, go_sem, setCell_map, PR.val, prZ, z0, z1, z2, z3, z4, z5, z6, z7, z8, z9, z10, z11]; try rfl) rfl ⟨rfl, (by repeat' (first | (with_reducible exact Below.refl _ _) | (with_reducible assumption) | (with_reducible refine below_drewN ?_ _) | (with_reducible refine Below.alloc ?_ ?_ _) | (with_reducible refine Below.drew ?_) | (with_reducible refine Below.setCell ?_ ?_ _) | (with_reducible exact Below.size (by assumption)) | go_size))⟩

/-- is an instruction one of a short's? -/
theorem Fits_yes (name : ByteArray) (n : Nat) (op rd rs1 rs2 imm : Int) (w : World) (hn : n < 27) (hlow : ∀ k, k < n → ((prAt k).nm.toList == name.toList) = false) (hyes : ((prAt n).nm.toList == name.toList) = true) (i0 : -2147483648 ≤ imm) (i1 : imm < 2147483648) :
    Calls Try.prog 17 #[.string name, .agg #[.int .i64 op, .int .i64 rd, .int .i64 rs1, .int .i64 rs2, .int .i32 imm]] w fun e w' => e = .returned (.bool (fitR (prAt n) op rd rs1 rs2 imm)) ∧ Below w.heap.size w w' := by
  have HO := hid (fun w => of_yes name n w hn hlow hyes)
  have HF := hid (fun w => fits (prAt n) op rd rs1 rs2 imm w (fine_at hn) i0 i1)
  clear hlow hyes
  generalize fitR (prAt n) op rd rs1 rs2 imm = v at *
  generalize prAt n = r at *
  obtain ⟨nm, rop, m, krd, kr1, kr2, sg, un, lo, hi, no, bt⟩ := r
  simp only [] at HF
  simp only [PR.val] at HO
  go_enter Try.func17, Try.ntmps17
  go_wp2_with fail
  have z0 := Inst.new w 23 (.int .i64 op) (.int .i64 rd) (.int .i64 rs1) (.int .i64 rs2) (.int .i32 imm)
  have hb0 := below_alloc w (.cells #[.int .i64 op, .int .i64 rd, .int .i64 rs1, .int .i64 rs2, .int .i32 imm] 23)
  generalize w.alloc (.cells #[.int .i64 op, .int .i64 rd, .int .i64 rs1, .int .i64 rs2, .int .i32 imm] 23) = w1 at *
  refine (HO.out _).mono ?_
  rintro e w2 ⟨rfl, hb1⟩
  replace z0 := z0.below hb1 z0.lt
  replace hb0 := bel_step hb0 hb1
  clear hb1 HO w1
  have zr : Row12 (w2.alloc (.cells #[.string nm, .int .i64 rop, .int .u16 m, .int .i64 krd, .int .i64 kr1, .int .i64 kr2, .int .i64 sg, .int .i64 un, .int .i32 lo, .int .i32 hi, .bool no, .string bt] 40)) w2.heap.size 0 ⟨nm, rop, m, krd, kr1, kr2, sg, un, lo, hi, no, bt⟩ := Row12.fresh w2 40 ⟨nm, rop, m, krd, kr1, kr2, sg, un, lo, hi, no, bt⟩
  go_upto_region 2 with (fail)
  replace z0 := z0.below (below_alloc w2 (.cells #[.string nm, .int .i64 rop, .int .u16 m, .int .i64 krd, .int .i64 kr1, .int .i64 kr2, .int .i64 sg, .int .i64 un, .int .i32 lo, .int .i32 hi, .bool no, .string bt] 40)) z0.lt
  replace hb0 := bel_step hb0 (below_alloc w2 (.cells #[.string nm, .int .i64 rop, .int .u16 m, .int .i64 krd, .int .i64 kr1, .int .i64 kr2, .int .i64 sg, .int .i64 un, .int .i32 lo, .int .i32 hi, .bool no, .string bt] 40))
  generalize w2.alloc (.cells #[.string nm, .int .i64 rop, .int .u16 m, .int .i64 krd, .int .i64 kr1, .int .i64 kr2, .int .i64 sg, .int .i64 un, .int .i32 lo, .int .i32 hi, .bool no, .string bt] 40) = w3 at *
  obtain ⟨rl, c0, c1, c2, c3, c4, c5, c6, c7, c8, c9, c10, c11⟩ := zr
  simp only [Nat.zero_add] at c0 c1 c2 c3 c4 c5 c6 c7 c8 c9 c10 c11
  obtain ⟨yl, y0, y1, y2, y3, y4⟩ := z0
  go_wp2_with fail
  refine (HF.out _).mono ?_
  rintro e w4 ⟨rfl, hb1⟩
  replace hb0 := bel_step hb0 hb1
  go_wp2
  go_ret
  exact ⟨rfl, hb0⟩
theorem Fits_no (name : ByteArray) (op rd rs1 rs2 imm : Int) (w : World) (hlow : ∀ k, k < 27 → ((prAt k).nm.toList == name.toList) = false) :
    Calls Try.prog 17 #[.string name, .agg #[.int .i64 op, .int .i64 rd, .int .i64 rs1, .int .i64 rs2, .int .i32 imm]] w fun e w' => e = .returned (.bool false) ∧ Below w.heap.size w w' := by
  have HO := hid (fun w => of_no name w hlow)
  clear hlow
  simp only [PR.val, prZ] at HO
  go_enter Try.func17, Try.ntmps17
  go_wp2_with fail
  refine (HO.out _).mono ?_
  rintro e w2 ⟨rfl, hb1⟩
  have hb0 : Below w.heap.size w w2 := bel_step (w := w) (by repeat' (first | (with_reducible exact Below.refl _ _) | (with_reducible assumption) | (with_reducible refine below_drewN ?_ _) | (with_reducible refine Below.alloc ?_ ?_ _) | (with_reducible refine Below.drew ?_) | (with_reducible refine Below.setCell ?_ ?_ _) | (with_reducible exact Below.size (by assumption)) | go_size)) hb1
  clear hb1 HO
  go_wp2
  go_ret
  exact ⟨rfl, (by repeat' (first | (with_reducible exact Below.refl _ _) | (with_reducible assumption) | (with_reducible refine below_drewN ?_ _) | (with_reducible refine Below.alloc ?_ ?_ _) | (with_reducible refine Below.drew ?_) | (with_reducible refine Below.setCell ?_ ?_ _) | (with_reducible exact Below.size (by assumption)) | go_size))⟩
end Go.Proofs.Ytfecjdchgckjhaa.F

namespace Go.Proofs.Ytfecjdchgckjhaa.F
set_option linter.unusedVariables false
set_option linter.unusedSimpArgs false
open Go.ChangeShapes Go.WideShapes Go.ChangeAt Go.RowKit Go.Proofs.Ytfecjdchgckjhaa.P Go.Proofs.Ytfecjdchgckjhaa.W

set_option maxHeartbeats 2000000 in
theorem Short_yes (n : Nat) (op rd rs1 rs2 imm : Int) (w : World) (hn : n < 27) (hlow : ∀ k, k < n → fitR (prAt k) op rd rs1 rs2 imm = false) (hyes : fitR (prAt n) op rd rs1 rs2 imm = true) (i0 : -2147483648 ≤ imm) (i1 : imm < 2147483648) :
    Calls Try.prog 18 #[.agg #[.int .i64 op, .int .i64 rd, .int .i64 rs1, .int .i64 rs2, .int .i32 imm]] w fun e w' => e = .returned (.string (prAt n).nm) ∧ Below w.heap.size w w' := by
  have HL := hid hlow
  have HY := hid hyes
  clear hlow hyes
  go_enter Try.func18, Try.ntmps18
  go_wp2_with fail
  have z0 := Inst.new w 23 (.int .i64 op) (.int .i64 rd) (.int .i64 rs1) (.int .i64 rs2) (.int .i32 imm)
  have hb0 := below_alloc w (.cells #[.int .i64 op, .int .i64 rd, .int .i64 rs1, .int .i64 rs2, .int .i32 imm] 23)
  generalize w.alloc (.cells #[.int .i64 op, .int .i64 rd, .int .i64 rs1, .int .i64 rs2, .int .i32 imm] 23) = w0 at *
  go_step3
  go_wp2_with fail
  go_step3
  go_wp2_with fail
  refine (rows _).mono ?_
  rintro e w1 ⟨b, rfl, hR, hbb, hb1⟩
  replace z0 := hid (z0.below hb1 z0.lt)
  replace hb0 := bel_step hb0 hb1
  replace hR := hid hR
  clear hb1 hbb
  go_wp2
  go_loopw [7] (fun i wr => ∃ k : Nat, k ≤ n ∧ i = .int .i64 k ∧ Below w1.heap.size w1 wr) (fun i _ => n + 1 - (intOf i).toNat)
  case atStart => exact ⟨0, by omega, rfl, Below.refl _ _⟩
  case round =>
    obtain ⟨k, hk, rfl, hbel⟩ := hrel
    have hsz := hbel.size
    have hbw : Below w.heap.size w wr := bel_step hb0 hbel
    obtain ⟨hb, hcells⟩ := hR.out.below hbel
    have hrow := hcells k (by omega)
    have z1 := z0.out.below hbel z0.out.lt
    have hlt : (k : Int) < 27 := by omega
    have HF := hid (fun w => fits (prAt k) op rd rs1 rs2 imm w (fine_at (show k < 27 by omega)) i0 i1)
    have hv : fitR (prAt k) op rd rs1 rs2 imm = if k < n then false else true := by
      split
      · exact HL.out k (by assumption)
      · obtain rfl : k = n := by omega
        exact HY.out
    rw [hv] at HF
    clear hcells hv
    generalize hr : prAt k = r at *
    have HR := hid hr
    clear hr
    obtain ⟨nm, rop, m, krd, kr1, kr2, sg, un, lo, hi, no, bt⟩ := r
    simp only [] at HF
    obtain ⟨rl, c0, c1, c2, c3, c4, c5, c6, c7, c8, c9, c10, c11⟩ := hrow
    simp only [] at c0 c1 c2 c3 c4 c5 c6 c7 c8 c9 c10 c11
    have zr : Row12 (wr.alloc (.cells #[.string nm, .int .i64 rop, .int .u16 m, .int .i64 krd, .int .i64 kr1, .int .i64 kr2, .int .i64 sg, .int .i64 un, .int .i32 lo, .int .i32 hi, .bool no, .string bt] 40)) wr.heap.size 0 ⟨nm, rop, m, krd, kr1, kr2, sg, un, lo, hi, no, bt⟩ := Row12.fresh wr 40 ⟨nm, rop, m, krd, kr1, kr2, sg, un, lo, hi, no, bt⟩
    replace z1 := z1.below (below_alloc wr (.cells #[.string nm, .int .i64 rop, .int .u16 m, .int .i64 krd, .int .i64 kr1, .int .i64 kr2, .int .i64 sg, .int .i64 un, .int .i32 lo, .int .i32 hi, .bool no, .string bt] 40)) z1.lt
    have hbw2 : Below w1.heap.size w1 (wr.alloc (.cells #[.string nm, .int .i64 rop, .int .u16 m, .int .i64 krd, .int .i64 kr1, .int .i64 kr2, .int .i64 sg, .int .i64 un, .int .i32 lo, .int .i32 hi, .bool no, .string bt] 40)) := bel_step hbel (below_alloc wr _)
    go_upto_region 4 with (fail)
    clear rl c0 c1 c2 c3 c4 c5 c6 c7 c8 c9 c10 c11
    generalize wr.alloc (.cells #[.string nm, .int .i64 rop, .int .u16 m, .int .i64 krd, .int .i64 kr1, .int .i64 kr2, .int .i64 sg, .int .i64 un, .int .i32 lo, .int .i32 hi, .bool no, .string bt] 40) = w2 at *
    obtain ⟨rl, c0, c1, c2, c3, c4, c5, c6, c7, c8, c9, c10, c11⟩ := id zr
    obtain ⟨yl, y0, y1, y2, y3, y4⟩ := z1
    simp only [Nat.zero_add] at c0 c1 c2 c3 c4 c5 c6 c7 c8 c9 c10 c11
    have ZR := hid zr
    clear zr
    go_wp2_with fail
    refine (HF.out _).mono ?_
    rintro e w3 ⟨rfl, hb1⟩
    have hbw3 : Below w1.heap.size w1 w3 := bel_step hbw2 hb1
    have d0 := (hb1.cell (p := ⟨wr.heap.size, 0, none⟩) rl).trans c0
    have hw3 : Below w.heap.size w w3 := bel_step hb0 hbw3
    clear HF hb1 hbw2 hbel hb yl y0 y1 y2 y3 y4 rl c0 c1 c2 c3 c4 c5 c6 c7 c8 c9 c10 c11 ZR
    by_cases hs : k < n
    · rw [if_pos hs]
      go_wp2
      go_roundw
      case rel => exact ⟨k + 1, by omega, by go_num, hbw3⟩
      case measure => simp [intOf]; omega
    · rw [if_neg hs]
      obtain rfl : k = n := by omega
      go_wp2
      rw [Exit.noGoto_ret]
      go_ret
      exact ⟨by rw [HR.out]; rfl, hw3⟩
set_option maxHeartbeats 2000000 in
theorem Short_no (op rd rs1 rs2 imm : Int) (w : World) (hlow : ∀ k, k < 27 → fitR (prAt k) op rd rs1 rs2 imm = false) (i0 : -2147483648 ≤ imm) (i1 : imm < 2147483648) :
    Calls Try.prog 18 #[.agg #[.int .i64 op, .int .i64 rd, .int .i64 rs1, .int .i64 rs2, .int .i32 imm]] w fun e w' => e = .returned (.string ⟨#[]⟩) ∧ Below w.heap.size w w' := by
  have HL := hid hlow
  clear hlow
  go_enter Try.func18, Try.ntmps18
  go_wp2_with fail
  have z0 := Inst.new w 23 (.int .i64 op) (.int .i64 rd) (.int .i64 rs1) (.int .i64 rs2) (.int .i32 imm)
  have hb0 := below_alloc w (.cells #[.int .i64 op, .int .i64 rd, .int .i64 rs1, .int .i64 rs2, .int .i32 imm] 23)
  generalize w.alloc (.cells #[.int .i64 op, .int .i64 rd, .int .i64 rs1, .int .i64 rs2, .int .i32 imm] 23) = w0 at *
  go_step3
  go_wp2_with fail
  go_step3
  go_wp2_with fail
  refine (rows _).mono ?_
  rintro e w1 ⟨b, rfl, hR, hbb, hb1⟩
  replace z0 := hid (z0.below hb1 z0.lt)
  replace hb0 := bel_step hb0 hb1
  replace hR := hid hR
  clear hb1 hbb
  go_wp2
  go_loopw [7] (fun i wr => ∃ k : Nat, k ≤ 27 ∧ i = .int .i64 k ∧ Below w1.heap.size w1 wr) (fun i _ => 27 + 1 - (intOf i).toNat)
  case atStart => exact ⟨0, by omega, rfl, Below.refl _ _⟩
  case round =>
    obtain ⟨k, hk, rfl, hbel⟩ := hrel
    have hsz := hbel.size
    by_cases hs : k < 27
    · obtain ⟨hb, hcells⟩ := hR.out.below hbel
      have hrow := hcells k (by omega)
      have z1 := z0.out.below hbel z0.out.lt
      have hlt : (k : Int) < 27 := by omega
      have HF := hid (fun w => fits (prAt k) op rd rs1 rs2 imm w (fine_at (show k < 27 by omega)) i0 i1)
      rw [HL.out k hs] at HF
      clear hcells
      generalize prAt k = r at *
      obtain ⟨nm, rop, m, krd, kr1, kr2, sg, un, lo, hi, no, bt⟩ := r
      simp only [] at HF
      obtain ⟨rl, c0, c1, c2, c3, c4, c5, c6, c7, c8, c9, c10, c11⟩ := hrow
      simp only [] at c0 c1 c2 c3 c4 c5 c6 c7 c8 c9 c10 c11
      have zr : Row12 (wr.alloc (.cells #[.string nm, .int .i64 rop, .int .u16 m, .int .i64 krd, .int .i64 kr1, .int .i64 kr2, .int .i64 sg, .int .i64 un, .int .i32 lo, .int .i32 hi, .bool no, .string bt] 40)) wr.heap.size 0 ⟨nm, rop, m, krd, kr1, kr2, sg, un, lo, hi, no, bt⟩ := Row12.fresh wr 40 ⟨nm, rop, m, krd, kr1, kr2, sg, un, lo, hi, no, bt⟩
      replace z1 := z1.below (below_alloc wr (.cells #[.string nm, .int .i64 rop, .int .u16 m, .int .i64 krd, .int .i64 kr1, .int .i64 kr2, .int .i64 sg, .int .i64 un, .int .i32 lo, .int .i32 hi, .bool no, .string bt] 40)) z1.lt
      have hbw2 : Below w1.heap.size w1 (wr.alloc (.cells #[.string nm, .int .i64 rop, .int .u16 m, .int .i64 krd, .int .i64 kr1, .int .i64 kr2, .int .i64 sg, .int .i64 un, .int .i32 lo, .int .i32 hi, .bool no, .string bt] 40)) := bel_step hbel (below_alloc wr _)
      go_upto_region 4 with (fail)
      clear rl c0 c1 c2 c3 c4 c5 c6 c7 c8 c9 c10 c11
      generalize wr.alloc (.cells #[.string nm, .int .i64 rop, .int .u16 m, .int .i64 krd, .int .i64 kr1, .int .i64 kr2, .int .i64 sg, .int .i64 un, .int .i32 lo, .int .i32 hi, .bool no, .string bt] 40) = w2 at *
      obtain ⟨rl, c0, c1, c2, c3, c4, c5, c6, c7, c8, c9, c10, c11⟩ := zr
      obtain ⟨yl, y0, y1, y2, y3, y4⟩ := z1
      simp only [Nat.zero_add] at c0 c1 c2 c3 c4 c5 c6 c7 c8 c9 c10 c11
      go_wp2_with fail
      refine (HF.out _).mono ?_
      rintro e w3 ⟨rfl, hb1⟩
      have hbw3 : Below w1.heap.size w1 w3 := bel_step hbw2 hb1
      clear HF hb1 hbw2 hbel hb yl y0 y1 y2 y3 y4 rl c0 c1 c2 c3 c4 c5 c6 c7 c8 c9 c10 c11
      go_wp2
      go_roundw
      case rel => exact ⟨k + 1, by omega, by go_num, hbw3⟩
      case measure => simp [intOf]; omega
    · obtain rfl : k = 27 := by omega
      go_wp2
      try rw [Exit.noGoto_ret]
      go_ret
      exact ⟨rfl, bel_step hb0 hbel⟩

/-- what a register of a kind is, where it is laid -/
def kindOk (kind n : Int) : Prop := (kind = 6 ∨ kind = 7 → 8 ≤ n ∧ n < 16) ∧ (0 ≤ n ∧ n < 32)
theorem laid (kind n : Int) (w : World) (k0 : 0 ≤ kind) (k1 : kind ≤ 10) (h : kindOk kind n) :
    Calls Try.prog 38 #[.int .i64 kind, .int .i64 n] w fun e w' => e = .returned (.int .u16 (laidK kind n)) ∧ w = w' := by
  obtain ⟨h1, n0, n1⟩ := h
  have hc : kind = 0 ∨ kind = 1 ∨ kind = 2 ∨ kind = 3 ∨ kind = 4 ∨ kind = 5 ∨ kind = 6 ∨ kind = 7 ∨ kind = 8 ∨ kind = 9 ∨ kind = 10 := by omega
  have hm : kind = 6 ∨ kind = 7 → 0 ≤ n - 8 ∧ n - 8 < 8 := fun e => by have := h1 e; omega
  by_cases e : kind = 6 ∨ kind = 7
  · obtain ⟨m0, m1⟩ := hm e
    clear hm h1 hc
    rcases e with rfl | rfl
    all_goals
      go_enter Try.func38, Try.ntmps38
      go_wp2
      all_goals (go_ret; refine ⟨ret_int ?_, rfl⟩)
      all_goals (simp [laidK] <;> (try omega))
  · clear hm h1
    rcases hc with rfl | rfl | rfl | rfl | rfl | rfl | rfl | rfl | rfl | rfl | rfl
    all_goals try (exact absurd (by decide) e)
    all_goals
      clear e
      go_enter Try.func38, Try.ntmps38
      go_wp2
      all_goals (go_ret; refine ⟨ret_int ?_, rfl⟩)
      all_goals (simp [laidK] <;> (try omega))
end Go.Proofs.Ytfecjdchgckjhaa.F

namespace Go.Proofs.Ytfecjdchgckjhaa.F
set_option linter.unusedVariables false
set_option linter.unusedSimpArgs false
open Go.ChangeShapes Go.WideShapes Go.ChangeAt Go.RowKit Go.Proofs.Ytfecjdchgckjhaa.P Go.Proofs.Ytfecjdchgckjhaa.W

/-- the power of a unit -/
def shiftN (u : Int) : Nat := if u = 1 then 0 else if u = 2 then 1 else if u = 4 then 2 else if u = 16 then 4 else 12
theorem unit_all : ∀ k, k < 27 → (prAt k).un = 1 ∨ (prAt k).un = 2 ∨ (prAt k).un = 4 ∨ (prAt k).un = 16 ∨ (prAt k).un = 4096 := by decide
theorem shift (r : PR) (w : World) (hu : r.un = 1 ∨ r.un = 2 ∨ r.un = 4 ∨ r.un = 16 ∨ r.un = 4096) :
    Calls Try.prog 39 #[.agg #[.string r.nm, .int .i64 r.op, .int .u16 r.m, .int .i64 r.rd, .int .i64 r.r1, .int .i64 r.r2, .int .i64 r.sg, .int .i64 r.un, .int .i32 r.lo, .int .i32 r.hi, .bool r.no, .string r.bt]] w fun e w' => e = .returned (.int .i64 (shiftN r.un)) ∧ Below w.heap.size w w' := by
  obtain ⟨nm, rop, m, krd, kr1, kr2, sg, un, lo, hi, no, bt⟩ := r
  simp only [] at hu ⊢
  rcases hu with rfl | rfl | rfl | rfl | rfl
  · go_enter Try.func39, Try.ntmps39
    go_wp2
    refine wp_loop_rounds 1 ?_
    rw [rounds_succ]
    go_wp2
    go_ret
    exact ⟨rfl, (by repeat' (first | (with_reducible exact Below.refl _ _) | (with_reducible assumption) | (with_reducible refine below_drewN ?_ _) | (with_reducible refine Below.alloc ?_ ?_ _) | (with_reducible refine Below.drew ?_) | (with_reducible refine Below.setCell ?_ ?_ _) | (with_reducible exact Below.size (by assumption)) | go_size))⟩
  · go_enter Try.func39, Try.ntmps39
    go_wp2
    refine wp_loop_rounds 2 ?_
    iterate 2 (rw [rounds_succ]; go_wp2)
    go_ret
    exact ⟨rfl, (by repeat' (first | (with_reducible exact Below.refl _ _) | (with_reducible assumption) | (with_reducible refine below_drewN ?_ _) | (with_reducible refine Below.alloc ?_ ?_ _) | (with_reducible refine Below.drew ?_) | (with_reducible refine Below.setCell ?_ ?_ _) | (with_reducible exact Below.size (by assumption)) | go_size))⟩
  · go_enter Try.func39, Try.ntmps39
    go_wp2
    refine wp_loop_rounds 3 ?_
    iterate 3 (rw [rounds_succ]; go_wp2)
    go_ret
    exact ⟨rfl, (by repeat' (first | (with_reducible exact Below.refl _ _) | (with_reducible assumption) | (with_reducible refine below_drewN ?_ _) | (with_reducible refine Below.alloc ?_ ?_ _) | (with_reducible refine Below.drew ?_) | (with_reducible refine Below.setCell ?_ ?_ _) | (with_reducible exact Below.size (by assumption)) | go_size))⟩
  · go_enter Try.func39, Try.ntmps39
    go_wp2
    refine wp_loop_rounds 5 ?_
    iterate 5 (rw [rounds_succ]; go_wp2)
    go_ret
    exact ⟨rfl, (by repeat' (first | (with_reducible exact Below.refl _ _) | (with_reducible assumption) | (with_reducible refine below_drewN ?_ _) | (with_reducible refine Below.alloc ?_ ?_ _) | (with_reducible refine Below.drew ?_) | (with_reducible refine Below.setCell ?_ ?_ _) | (with_reducible exact Below.size (by assumption)) | go_size))⟩
  · go_enter Try.func39, Try.ntmps39
    go_wp2
    refine wp_loop_rounds 13 ?_
    iterate 13 (rw [rounds_succ]; go_wp2)
    go_ret
    exact ⟨rfl, (by repeat' (first | (with_reducible exact Below.refl _ _) | (with_reducible assumption) | (with_reducible refine below_drewN ?_ _) | (with_reducible refine Below.alloc ?_ ?_ _) | (with_reducible refine Below.drew ?_) | (with_reducible refine Below.setCell ?_ ?_ _) | (with_reducible exact Below.size (by assumption)) | go_size))⟩
theorem quiet_same {P : Program} {f : FuncId} {args : Array Value} {w : World} {n : Nat} {v : Value}
    (h : Calls P f args (w.drewN n) fun e w' => e = .returned v ∧ w.drewN n = w') : Calls P f args (w.drewN n) fun e w'' => e = .returned v ∧ ∃ m, w'' = w.drewN m :=
  h.mono fun _ _ ⟨he, hm⟩ => ⟨he, n, hm.symm⟩
theorem letter (f : Int) (cn : Nat) (hf : 0 ≤ f ∧ f < 2) (h0 : 97 ≤ cn) (h1 : cn ≤ 107) : IntKind.u16.wrap (f * 2 ^ (cn - 97 + 2)) = f * 2 ^ (cn - 95) := by
  rw [show cn - 97 + 2 = cn - 95 by omega]
  have hp : (2 : Int) ^ (cn - 95) ≤ 2 ^ 12 := p2le (by omega)
  have h12 : (2 : Int) ^ 12 = 4096 := by decide
  have hq := p2pos (cn - 95)
  show f * 2 ^ (cn - 95) % 65536 = _
  have hc : f = 0 ∨ f = 1 := by omega
  rcases hc with rfl | rfl <;> omega
set_option maxHeartbeats 2000000 in
theorem put (r : PR) (op rd rs1 rs2 imm : Int) (w : World) (hr : r.fine) (hu : r.un = 1 ∨ r.un = 2 ∨ r.un = 4 ∨ r.un = 16 ∨ r.un = 4096) (hb : ∀ c ∈ r.bt.data.toList, 97 ≤ c.toNat ∧ c.toNat ≤ 107) (hl : r.bt.size ≤ 11)
    (kd : kindOk r.rd rd) (ka : kindOk r.r1 rs1) (kb : kindOk r.r2 rs2) (i0 : -2147483648 ≤ imm) (i1 : imm < 2147483648) :
    Calls Try.prog 22 #[.agg #[.string r.nm, .int .i64 r.op, .int .u16 r.m, .int .i64 r.rd, .int .i64 r.r1, .int .i64 r.r2, .int .i64 r.sg, .int .i64 r.un, .int .i32 r.lo, .int .i32 r.hi, .bool r.no, .string r.bt], .agg #[.int .i64 op, .int .i64 rd, .int .i64 rs1, .int .i64 rs2, .int .i32 imm]] w fun e w' => e = .returned (.int .u16 (putR r rd rs1 rs2 imm)) ∧ Below w.heap.size w w' := by
  have HS := hid (fun w => shift r w hu)
  obtain ⟨d0, d1, a0, a1, b0, b1, u0, u1, m0, m1, -, -⟩ := hr
  have HD := hid (fun w => laid r.rd rd w d0 d1 kd)
  have HA := hid (fun w => laid r.r1 rs1 w a0 a1 ka)
  have HB := hid (fun w => laid r.r2 rs2 w b0 b1 kb)
  have hsh : (2 : Int) ^ shiftN r.un = r.un ∧ shiftN r.un ≤ 12 := by rcases hu with h | h | h | h | h <;> rw [h] <;> decide
  have HR : Hid (putR r rd rs1 rs2 imm = putB (imm % 4294967296 / 2 ^ shiftN r.un) (bits .or .u16 (bits .or .u16 (bits .or .u16 r.m (laidK r.rd rd)) (laidK r.r1 rs1)) (laidK r.r2 rs2)) r.bt.data.toList) := hid (by rw [hsh.1]; rfl)
  obtain ⟨-, hs12⟩ := hsh
  obtain ⟨nm, rop, m, krd, kr1, kr2, sg, un, lo, hi, no, bt⟩ := r
  simp only [] at *
  clear hu d0 d1 a0 a1 b0 b1 u0 u1 kd ka kb
  generalize shiftN un = s at *
  generalize laidK krd rd = l1 at *
  generalize laidK kr1 rs1 = l2 at *
  generalize laidK kr2 rs2 = l3 at *
  generalize putR ⟨nm, rop, m, krd, kr1, kr2, sg, un, lo, hi, no, bt⟩ rd rs1 rs2 imm = P at *
  go_enter Try.func22, Try.ntmps22
  go_upto_region 1 with (fail)
  have z0 : Row12 (w.alloc (.cells #[.string nm, .int .i64 rop, .int .u16 m, .int .i64 krd, .int .i64 kr1, .int .i64 kr2, .int .i64 sg, .int .i64 un, .int .i32 lo, .int .i32 hi, .bool no, .string bt] 40)) w.heap.size 0 ⟨nm, rop, m, krd, kr1, kr2, sg, un, lo, hi, no, bt⟩ := Row12.fresh w 40 ⟨nm, rop, m, krd, kr1, kr2, sg, un, lo, hi, no, bt⟩
  have hb0 := below_alloc w (.cells #[.string nm, .int .i64 rop, .int .u16 m, .int .i64 krd, .int .i64 kr1, .int .i64 kr2, .int .i64 sg, .int .i64 un, .int .i32 lo, .int .i32 hi, .bool no, .string bt] 40)
  have hsz : (w.alloc (.cells #[.string nm, .int .i64 rop, .int .u16 m, .int .i64 krd, .int .i64 kr1, .int .i64 kr2, .int .i64 sg, .int .i64 un, .int .i32 lo, .int .i32 hi, .bool no, .string bt] 40)).heap.size = w.heap.size + 1 := by simp
  generalize w.alloc (.cells #[.string nm, .int .i64 rop, .int .u16 m, .int .i64 krd, .int .i64 kr1, .int .i64 kr2, .int .i64 sg, .int .i64 un, .int .i32 lo, .int .i32 hi, .bool no, .string bt] 40) = w1 at *
  have z1 := Inst.new w1 23 (.int .i64 op) (.int .i64 rd) (.int .i64 rs1) (.int .i64 rs2) (.int .i32 imm)
  have hb1 := below_alloc w1 (.cells #[.int .i64 op, .int .i64 rd, .int .i64 rs1, .int .i64 rs2, .int .i32 imm] 23)
  rw [hsz] at z1
  generalize w1.alloc (.cells #[.int .i64 op, .int .i64 rd, .int .i64 rs1, .int .i64 rs2, .int .i32 imm] 23) = w2 at *
  replace z0 := z0.below hb1 z0.lt
  replace hb0 := bel_step hb0 hb1
  clear hb1 hsz w1
  obtain ⟨zl, c0, c1, c2, c3, c4, c5, c6, c7, c8, c9, c10, c11⟩ := id z0
  obtain ⟨yl, y0, y1, y2, y3, y4⟩ := id z1
  simp only [Nat.zero_add] at c0 c1 c2 c3 c4 c5 c6 c7 c8 c9 c10 c11
  have Z0 := hid z0
  have Z1 := hid z1
  clear z0 z1
  go_quiet ((first | (go_at_call 38; (with_reducible exact quiet_same (HD.out _))) | (go_at_call 38; (with_reducible exact quiet_same (HA.out _))) | (go_at_call 38; (with_reducible exact quiet_same (HB.out _)))))
  go_upto_region 2 with (fail)
  have z0 := Z0.out.below (below_drewN (Below.refl _ _) nq) Z0.out.lt
  have z1 := Z1.out.below (below_drewN (Below.refl _ _) nq) Z1.out.lt
  replace hb0 : Below w.heap.size w (w2.drewN nq) := below_drewN hb0 _
  clear c0 c1 c2 c3 c4 c5 c6 c7 c8 c9 c10 c11 y0 y1 y2 y3 y4 Z0 Z1 HD HA HB zl yl
  generalize w2.drewN nq = w3 at *
  clear w2
  obtain ⟨zl, c0, c1, c2, c3, c4, c5, c6, c7, c8, c9, c10, c11⟩ := z0
  obtain ⟨yl, y0, y1, y2, y3, y4⟩ := z1
  simp only [Nat.zero_add] at c0 c1 c2 c3 c4 c5 c6 c7 c8 c9 c10 c11
  go_region_held3 (fun W => w.heap.size + 1 < W.heap.size ∧ w.heap.size < W.heap.size ∧ W.cell? ⟨w.heap.size, 0, none⟩ = some (.string nm) ∧ W.cell? ⟨w.heap.size, 1, none⟩ = some (.int .i64 rop) ∧ W.cell? ⟨w.heap.size, 2, none⟩ = some (.int .u16 m) ∧ W.cell? ⟨w.heap.size, 3, none⟩ = some (.int .i64 krd) ∧ W.cell? ⟨w.heap.size, 4, none⟩ = some (.int .i64 kr1) ∧ W.cell? ⟨w.heap.size, 5, none⟩ = some (.int .i64 kr2) ∧ W.cell? ⟨w.heap.size, 6, none⟩ = some (.int .i64 sg) ∧ W.cell? ⟨w.heap.size, 7, none⟩ = some (.int .i64 un) ∧ W.cell? ⟨w.heap.size, 8, none⟩ = some (.int .i32 lo) ∧ W.cell? ⟨w.heap.size, 9, none⟩ = some (.int .i32 hi) ∧ W.cell? ⟨w.heap.size, 10, none⟩ = some (.bool no) ∧ W.cell? ⟨w.heap.size, 11, none⟩ = some (.string bt) ∧ W.cell? ⟨w.heap.size + 1, 4, none⟩ = some (.int .i32 imm)) (((repeat' (refine And.intro ?_ ?_)) <;> (first | omega | (go_simp; done) | (refine cell_is ?_; go_simp; done) | (rw [hcel _ _ (by first | omega | (simp; omega))]; go_simp; done) | (rw [hfro _ _ (by first | omega | (simp; omega))]; go_simp; done) | (simp [*]; done)))) ((go_at_call 39; (with_reducible refine (HS.out _).mono ?_); rintro e w' ⟨rfl, hbel⟩; (try (with_reducible replace hbel := bel_undrew hbel)); (try (with_reducible replace hbel := bel_undrewN hbel)); have hbw : Below w.heap.size w w' := bel_step hb0 hbel; have hsw := hbw.size; have hsb := hbel.size; (try simp at hsb); obtain ⟨hcel, hfro⟩ := bcell hbel; clear hbel))
  go_upto_region 3 with (fail)
  have h1 := (hcel _ 11 zl).trans c11
  have h2 := (hcel _ 4 yl).trans y4
  have hsz1 : w.heap.size + 1 < w'.heap.size := Nat.lt_of_lt_of_le yl hsb
  clear zl yl c0 c1 c2 c3 c4 c5 c6 c7 c8 c9 c10 c11 y0 y1 y2 y3 y4 hcel hfro hb0 hsb hsw w3 nq
  have hV : IntKind.u32.wrap imm = imm % 4294967296 := rfl
  rw [hV]
  have v0 : 0 ≤ imm % 4294967296 / 2 ^ s ∧ imm % 4294967296 / 2 ^ s < 4294967296 := div_bd _ s (by omega) (by omega)
  generalize imm % 4294967296 / 2 ^ s = V at *
  generalize bits .or .u16 (bits .or .u16 (bits .or .u16 m l1) l2) l3 = H at *
  have HBT := hid hb
  clear hb HS
  go_wp2
  go_loopw [5] (fun h wr => ∃ (pos : Nat) (hv : Int), pos ≤ bt.size ∧ h = .int .u16 hv ∧ putB V hv (bt.data.toList.drop pos) = P ∧ wr.heap[w'.heap.size]? = some (.stringIter bt pos) ∧ Below w'.heap.size w' wr) (fun _ wr => bt.size - wr.iterPos w'.heap.size)
  case atStart =>
    refine ⟨0, H, by omega, rfl, HR.out.symm, ?_, ?_⟩
    · have := World.iter_heap w' bt 0
      simpa using this
    · exact (Below.refl _ _).alloc (Nat.le_refl _) _
  case round =>
    obtain ⟨pos, hv, hpos, rfl, hP, hit, hbr⟩ := hrel
    have hsz : w'.heap.size < wr.heap.size := (Array.getElem?_eq_some_iff.1 hit).1
    by_cases hp : pos < bt.size
    · have hc := HBT.out (bt[pos]'hp) (by rw [Array.mem_toList_iff]; exact Array.getElem_mem _)
      have hnx : ∀ ty, (Instr.next (.pointer (some ⟨w'.heap.size, 0, none⟩)) true ty).run Try.prog wr = _ := fun ty => Lib.run_next_ascii_at wr w'.heap.size bt pos ty hit hp (by omega)
      have hit2 := Lib.iterAt_heap wr w'.heap.size bt pos (pos + 1) hit
      have hbr2 := Lib.below_iterAt hbr (k := w'.heap.size) (Nat.le_refl _) bt (pos + 1)
      have e1 := (hbr2.cell (p := ⟨w.heap.size, 11, none⟩) (show w.heap.size < w'.heap.size by omega)).trans h1
      have hit3 : ∀ n, ((wr.iterAt w'.heap.size bt (pos + 1)).drewN n).heap[w'.heap.size]? = some (.stringIter bt (pos + 1)) := fun n => by simpa using hit2
      have hbr3 : ∀ n, Below w'.heap.size w' ((wr.iterAt w'.heap.size bt (pos + 1)).drewN n) := fun n => below_drewN hbr2 n
      have hdr : bt.data.toList.drop pos = bt[pos]'hp :: bt.data.toList.drop (pos + 1) := by
        rw [List.drop_eq_getElem_cons (by rw [Array.length_toList]; exact hp)]; rfl
      have hln : (bt.data.toList.drop (pos + 1)).length = bt.size - 1 - pos := by rw [List.length_drop, Array.length_toList]; show bt.size - (pos + 1) = _; omega
      rw [hdr, putB, hln] at hP
      generalize (bt[pos]'hp) = c at *
      obtain ⟨hc0, hc1⟩ := hc
      have hF : ∀ w, Calls Try.prog 40 #[.int .u32 V, .int .i64 ((bt.size : Int) - 1 - pos), .int .i64 1] w fun e w' => e = .returned (.int .u32 (fld V (bt.size - 1 - pos) 1)) ∧ ∃ n, w' = w.drewN n := fun w => by
        have h := W.Field V ((bt.size : Int) - 1 - pos) 1 w v0.1 v0.2
        rw [show (max ((bt.size : Int) - 1 - pos) 0).toNat = bt.size - 1 - pos by omega, show held 1 = 1 by decide] at h
        exact h
      have hfb := fld_bd V (bt.size - 1 - pos) 1
      generalize fld V (bt.size - 1 - pos) 1 = f at *
      have hf1 : 0 ≤ f ∧ f < 2 := hfb
      have HP := hid hP
      have HF := hid hF
      clear hP hF hfb hdr hln
      have hpl : (pos : Int) < (bt.size : Int) := by omega
      have hbl : (bt.size : Int) ≤ 11 := by omega
      generalize hcn : c.toNat = cn at *
      have HCN := hid hcn
      clear hcn
      go_wp2_with (first | (go_at_call 40; (with_reducible refine (HF.out _).mono ?_); rintro e w4 ⟨rfl, n4, rfl⟩))
      go_roundw
      case rel =>
        refine ⟨pos + 1, _, by omega, rfl, ?_, hit3 n4, hbr3 n4⟩
        rw [← HP.out, letter f cn hf1 hc0 hc1]
      case measure =>
        simp only [World.iterPos, hit3, hit]
        omega
    · obtain rfl : pos = bt.size := by omega
      have hnx : ∀ ty, (Instr.next (.pointer (some ⟨w'.heap.size, 0, none⟩)) true ty).run Try.prog wr = _ := fun ty => Lib.run_next_end_at wr w'.heap.size bt bt.size ty hit (by omega)
      have hP2 : hv = P := by
        rw [List.drop_of_length_le (by rw [Array.length_toList]; exact Nat.le_refl _)] at hP
        exact hP
      have HP := hid hP2
      clear hP hP2
      go_wp2
      go_ret
      exact ⟨ret_int HP.out, hbw.trans (hbr.mono (by omega))⟩
end Go.Proofs.Ytfecjdchgckjhaa.F
