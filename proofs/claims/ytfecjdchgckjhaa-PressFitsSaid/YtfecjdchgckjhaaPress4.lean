/- What the functions of package press compute: the shift of a unit; a parcel put together. -/
import Derived.Test.YtfecjdchgckjhaaPress3
import Derived.Lib.OthersKept
import Derived.Deep.QuietTactic
import Derived.BigQuiet
import Derived.IntWalk
import Derived.Deep.RegionHeld3
namespace Go.Proofs.Ytfecjdchgckjhaa.F
set_option linter.unusedVariables false
set_option linter.unusedSimpArgs false
open Go.ChangeShapes Go.WideShapes Go.ChangeAt Go.RowKit Go.Proofs.Ytfecjdchgckjhaa.P Go.Proofs.Ytfecjdchgckjhaa.W

/-- the power of a unit -/
def shiftN (u : Int) : Nat := if u = 1 then 0 else if u = 2 then 1 else if u = 4 then 2 else if u = 16 then 4 else 12
theorem unit_all : ∀ k, k < 27 → (prAt k).un = 1 ∨ (prAt k).un = 2 ∨ (prAt k).un = 4 ∨ (prAt k).un = 16 ∨ (prAt k).un = 4096 := by decide
theorem shift (r : PR) (w : World) (hu : r.un = 1 ∨ r.un = 2 ∨ r.un = 4 ∨ r.un = 16 ∨ r.un = 4096) :
    Calls Try.prog 39 #[.agg #[.string r.nm, .int .i64 r.op, .int .u16 r.m, .int .i64 r.rd, .int .i64 r.r1, .int .i64 r.r2, .int .i64 r.sg, .int .i64 r.un, .int .i32 r.lo, .int .i32 r.hi, .bool r.no, .string r.bt]] w fun e w' => e = .returned (.int .i64 (shiftN r.un)) ∧ Below w.heap.size w w' := by
  obtain ⟨nm, rop, m, krd, kr1, kr2, sg, un, lo, hi, no, bt⟩ := r
  simp only [] at hu ⊢
  rcases hu with rfl | rfl | rfl | rfl | rfl
  · go_enter Try.func39, Try.ntmps39
    go_wp2
    refine wp_loop_rounds 1 ?_
    rw [rounds_succ]
    go_wp2
    go_ret
    exact ⟨rfl, (by repeat' (first | (with_reducible exact Below.refl _ _) | (with_reducible assumption) | (with_reducible refine below_drewN ?_ _) | (with_reducible refine Below.alloc ?_ ?_ _) | (with_reducible refine Below.drew ?_) | (with_reducible refine Below.setCell ?_ ?_ _) | (with_reducible exact Below.size (by assumption)) | go_size))⟩
  · go_enter Try.func39, Try.ntmps39
    go_wp2
    refine wp_loop_rounds 2 ?_
    iterate 2 (rw [rounds_succ]; go_wp2)
    go_ret
    exact ⟨rfl, (by repeat' (first | (with_reducible exact Below.refl _ _) | (with_reducible assumption) | (with_reducible refine below_drewN ?_ _) | (with_reducible refine Below.alloc ?_ ?_ _) | (with_reducible refine Below.drew ?_) | (with_reducible refine Below.setCell ?_ ?_ _) | (with_reducible exact Below.size (by assumption)) | go_size))⟩
  · go_enter Try.func39, Try.ntmps39
    go_wp2
    refine wp_loop_rounds 3 ?_
    iterate 3 (rw [rounds_succ]; go_wp2)
    go_ret
    exact ⟨rfl, (by repeat' (first | (with_reducible exact Below.refl _ _) | (with_reducible assumption) | (with_reducible refine below_drewN ?_ _) | (with_reducible refine Below.alloc ?_ ?_ _) | (with_reducible refine Below.drew ?_) | (with_reducible refine Below.setCell ?_ ?_ _) | (with_reducible exact Below.size (by assumption)) | go_size))⟩
  · go_enter Try.func39, Try.ntmps39
    go_wp2
    refine wp_loop_rounds 5 ?_
    iterate 5 (rw [rounds_succ]; go_wp2)
    go_ret
    exact ⟨rfl, (by repeat' (first | (with_reducible exact Below.refl _ _) | (with_reducible assumption) | (with_reducible refine below_drewN ?_ _) | (with_reducible refine Below.alloc ?_ ?_ _) | (with_reducible refine Below.drew ?_) | (with_reducible refine Below.setCell ?_ ?_ _) | (with_reducible exact Below.size (by assumption)) | go_size))⟩
  · go_enter Try.func39, Try.ntmps39
    go_wp2
    refine wp_loop_rounds 13 ?_
    iterate 13 (rw [rounds_succ]; go_wp2)
    go_ret
    exact ⟨rfl, (by repeat' (first | (with_reducible exact Below.refl _ _) | (with_reducible assumption) | (with_reducible refine below_drewN ?_ _) | (with_reducible refine Below.alloc ?_ ?_ _) | (with_reducible refine Below.drew ?_) | (with_reducible refine Below.setCell ?_ ?_ _) | (with_reducible exact Below.size (by assumption)) | go_size))⟩
theorem quiet_same {P : Program} {f : FuncId} {args : Array Value} {w : World} {n : Nat} {v : Value}
    (h : Calls P f args (w.drewN n) fun e w' => e = .returned v ∧ w.drewN n = w') : Calls P f args (w.drewN n) fun e w'' => e = .returned v ∧ ∃ m, w'' = w.drewN m :=
  h.mono fun _ _ ⟨he, hm⟩ => ⟨he, n, hm.symm⟩
theorem letter (f : Int) (cn : Nat) (hf : 0 ≤ f ∧ f < 2) (h0 : 97 ≤ cn) (h1 : cn ≤ 107) : IntKind.u16.wrap (f * 2 ^ (cn - 97 + 2)) = f * 2 ^ (cn - 95) := by
  rw [show cn - 97 + 2 = cn - 95 by omega]
  have hp : (2 : Int) ^ (cn - 95) ≤ 2 ^ 12 := p2le (by omega)
  have h12 : (2 : Int) ^ 12 = 4096 := by decide
  have hq := p2pos (cn - 95)
  show f * 2 ^ (cn - 95) % 65536 = _
  have hc : f = 0 ∨ f = 1 := by omega
  rcases hc with rfl | rfl <;> omega
set_option maxHeartbeats 2000000 in
theorem put (r : PR) (op rd rs1 rs2 imm : Int) (w : World) (hr : r.fine) (hu : r.un = 1 ∨ r.un = 2 ∨ r.un = 4 ∨ r.un = 16 ∨ r.un = 4096) (hb : ∀ c ∈ r.bt.data.toList, 97 ≤ c.toNat ∧ c.toNat ≤ 107) (hl : r.bt.size ≤ 11)
    (kd : kindOk r.rd rd) (ka : kindOk r.r1 rs1) (kb : kindOk r.r2 rs2) (i0 : -2147483648 ≤ imm) (i1 : imm < 2147483648) :
    Calls Try.prog 22 #[.agg #[.string r.nm, .int .i64 r.op, .int .u16 r.m, .int .i64 r.rd, .int .i64 r.r1, .int .i64 r.r2, .int .i64 r.sg, .int .i64 r.un, .int .i32 r.lo, .int .i32 r.hi, .bool r.no, .string r.bt], .agg #[.int .i64 op, .int .i64 rd, .int .i64 rs1, .int .i64 rs2, .int .i32 imm]] w fun e w' => e = .returned (.int .u16 (putR r rd rs1 rs2 imm)) ∧ Below w.heap.size w w' := by
  have HS := hid (fun w => shift r w hu)
  obtain ⟨d0, d1, a0, a1, b0, b1, u0, u1, m0, m1, -, -⟩ := hr
  have HD := hid (fun w => laid r.rd rd w d0 d1 kd)
  have HA := hid (fun w => laid r.r1 rs1 w a0 a1 ka)
  have HB := hid (fun w => laid r.r2 rs2 w b0 b1 kb)
  have hsh : (2 : Int) ^ shiftN r.un = r.un ∧ shiftN r.un ≤ 12 := by rcases hu with h | h | h | h | h <;> rw [h] <;> decide
  have HR : Hid (putR r rd rs1 rs2 imm = putB (imm % 4294967296 / 2 ^ shiftN r.un) (bits .or .u16 (bits .or .u16 (bits .or .u16 r.m (laidK r.rd rd)) (laidK r.r1 rs1)) (laidK r.r2 rs2)) r.bt.data.toList) := hid (by rw [hsh.1]; rfl)
  obtain ⟨-, hs12⟩ := hsh
  obtain ⟨nm, rop, m, krd, kr1, kr2, sg, un, lo, hi, no, bt⟩ := r
  simp only [] at *
  clear hu d0 d1 a0 a1 b0 b1 u0 u1 kd ka kb
  generalize shiftN un = s at *
  generalize laidK krd rd = l1 at *
  generalize laidK kr1 rs1 = l2 at *
  generalize laidK kr2 rs2 = l3 at *
  generalize putR ⟨nm, rop, m, krd, kr1, kr2, sg, un, lo, hi, no, bt⟩ rd rs1 rs2 imm = P at *
  go_enter Try.func22, Try.ntmps22
  go_upto_region 1 with (fail)
  have z0 : Row12 (w.alloc (.cells #[.string nm, .int .i64 rop, .int .u16 m, .int .i64 krd, .int .i64 kr1, .int .i64 kr2, .int .i64 sg, .int .i64 un, .int .i32 lo, .int .i32 hi, .bool no, .string bt] 40)) w.heap.size 0 ⟨nm, rop, m, krd, kr1, kr2, sg, un, lo, hi, no, bt⟩ := Row12.fresh w 40 ⟨nm, rop, m, krd, kr1, kr2, sg, un, lo, hi, no, bt⟩
  have hb0 := below_alloc w (.cells #[.string nm, .int .i64 rop, .int .u16 m, .int .i64 krd, .int .i64 kr1, .int .i64 kr2, .int .i64 sg, .int .i64 un, .int .i32 lo, .int .i32 hi, .bool no, .string bt] 40)
  have hsz : (w.alloc (.cells #[.string nm, .int .i64 rop, .int .u16 m, .int .i64 krd, .int .i64 kr1, .int .i64 kr2, .int .i64 sg, .int .i64 un, .int .i32 lo, .int .i32 hi, .bool no, .string bt] 40)).heap.size = w.heap.size + 1 := by simp
  generalize w.alloc (.cells #[.string nm, .int .i64 rop, .int .u16 m, .int .i64 krd, .int .i64 kr1, .int .i64 kr2, .int .i64 sg, .int .i64 un, .int .i32 lo, .int .i32 hi, .bool no, .string bt] 40) = w1 at *
  have z1 := Inst.new w1 23 (.int .i64 op) (.int .i64 rd) (.int .i64 rs1) (.int .i64 rs2) (.int .i32 imm)
  have hb1 := below_alloc w1 (.cells #[.int .i64 op, .int .i64 rd, .int .i64 rs1, .int .i64 rs2, .int .i32 imm] 23)
  rw [hsz] at z1
  generalize w1.alloc (.cells #[.int .i64 op, .int .i64 rd, .int .i64 rs1, .int .i64 rs2, .int .i32 imm] 23) = w2 at *
  replace z0 := z0.below hb1 z0.lt
  replace hb0 := bel_step hb0 hb1
  clear hb1 hsz w1
  obtain ⟨zl, c0, c1, c2, c3, c4, c5, c6, c7, c8, c9, c10, c11⟩ := id z0
  obtain ⟨yl, y0, y1, y2, y3, y4⟩ := id z1
  simp only [Nat.zero_add] at c0 c1 c2 c3 c4 c5 c6 c7 c8 c9 c10 c11
  have Z0 := hid z0
  have Z1 := hid z1
  clear z0 z1
  go_quiet ((first | (go_at_call 38; (with_reducible exact quiet_same (HD.out _))) | (go_at_call 38; (with_reducible exact quiet_same (HA.out _))) | (go_at_call 38; (with_reducible exact quiet_same (HB.out _)))))
  go_upto_region 2 with (fail)
  have z0 := Z0.out.below (below_drewN (Below.refl _ _) nq) Z0.out.lt
  have z1 := Z1.out.below (below_drewN (Below.refl _ _) nq) Z1.out.lt
  replace hb0 : Below w.heap.size w (w2.drewN nq) := below_drewN hb0 _
  clear c0 c1 c2 c3 c4 c5 c6 c7 c8 c9 c10 c11 y0 y1 y2 y3 y4 Z0 Z1 HD HA HB zl yl
  generalize w2.drewN nq = w3 at *
  clear w2
  obtain ⟨zl, c0, c1, c2, c3, c4, c5, c6, c7, c8, c9, c10, c11⟩ := z0
  obtain ⟨yl, y0, y1, y2, y3, y4⟩ := z1
  simp only [Nat.zero_add] at c0 c1 c2 c3 c4 c5 c6 c7 c8 c9 c10 c11
  go_region_held3 (fun W => w.heap.size + 1 < W.heap.size ∧ w.heap.size < W.heap.size ∧ W.cell? ⟨w.heap.size, 0, none⟩ = some (.string nm) ∧ W.cell? ⟨w.heap.size, 1, none⟩ = some (.int .i64 rop) ∧ W.cell? ⟨w.heap.size, 2, none⟩ = some (.int .u16 m) ∧ W.cell? ⟨w.heap.size, 3, none⟩ = some (.int .i64 krd) ∧ W.cell? ⟨w.heap.size, 4, none⟩ = some (.int .i64 kr1) ∧ W.cell? ⟨w.heap.size, 5, none⟩ = some (.int .i64 kr2) ∧ W.cell? ⟨w.heap.size, 6, none⟩ = some (.int .i64 sg) ∧ W.cell? ⟨w.heap.size, 7, none⟩ = some (.int .i64 un) ∧ W.cell? ⟨w.heap.size, 8, none⟩ = some (.int .i32 lo) ∧ W.cell? ⟨w.heap.size, 9, none⟩ = some (.int .i32 hi) ∧ W.cell? ⟨w.heap.size, 10, none⟩ = some (.bool no) ∧ W.cell? ⟨w.heap.size, 11, none⟩ = some (.string bt) ∧ W.cell? ⟨w.heap.size + 1, 4, none⟩ = some (.int .i32 imm)) (((repeat' (refine And.intro ?_ ?_)) <;> (first | omega | (go_simp; done) | (refine cell_is ?_; go_simp; done) | (rw [hcel _ _ (by first | omega | (simp; omega))]; go_simp; done) | (rw [hfro _ _ (by first | omega | (simp; omega))]; go_simp; done) | (simp [*]; done)))) ((go_at_call 39; (with_reducible refine (HS.out _).mono ?_); rintro e w' ⟨rfl, hbel⟩; (try (with_reducible replace hbel := bel_undrew hbel)); (try (with_reducible replace hbel := bel_undrewN hbel)); have hbw : Below w.heap.size w w' := bel_step hb0 hbel; have hsw := hbw.size; have hsb := hbel.size; (try simp at hsb); obtain ⟨hcel, hfro⟩ := bcell hbel; clear hbel))
  go_upto_region 3 with (fail)
  have h1 := (hcel _ 11 zl).trans c11
  have h2 := (hcel _ 4 yl).trans y4
  have hsz1 : w.heap.size + 1 < w'.heap.size := Nat.lt_of_lt_of_le yl hsb
  clear zl yl c0 c1 c2 c3 c4 c5 c6 c7 c8 c9 c10 c11 y0 y1 y2 y3 y4 hcel hfro hb0 hsb hsw w3 nq
  have hV : IntKind.u32.wrap imm = imm % 4294967296 := rfl
  rw [hV]
  have v0 : 0 ≤ imm % 4294967296 / 2 ^ s ∧ imm % 4294967296 / 2 ^ s < 4294967296 := div_bd _ s (by omega) (by omega)
  generalize imm % 4294967296 / 2 ^ s = V at *
  generalize bits .or .u16 (bits .or .u16 (bits .or .u16 m l1) l2) l3 = H at *
  have HBT := hid hb
  clear hb HS
  go_wp2
  go_loopw [5] (fun h wr => ∃ (pos : Nat) (hv : Int), pos ≤ bt.size ∧ h = .int .u16 hv ∧ putB V hv (bt.data.toList.drop pos) = P ∧ wr.heap[w'.heap.size]? = some (.stringIter bt pos) ∧ Below w'.heap.size w' wr) (fun _ wr => bt.size - wr.iterPos w'.heap.size)
  case atStart =>
    refine ⟨0, H, by omega, rfl, HR.out.symm, ?_, ?_⟩
    · have := World.iter_heap w' bt 0
      simpa using this
    · exact (Below.refl _ _).alloc (Nat.le_refl _) _
  case round =>
    obtain ⟨pos, hv, hpos, rfl, hP, hit, hbr⟩ := hrel
    have hsz : w'.heap.size < wr.heap.size := (Array.getElem?_eq_some_iff.1 hit).1
    by_cases hp : pos < bt.size
    · have hc := HBT.out (bt[pos]'hp) (by rw [Array.mem_toList_iff]; exact Array.getElem_mem _)
      have hnx : ∀ ty, (Instr.next (.pointer (some ⟨w'.heap.size, 0, none⟩)) true ty).run Try.prog wr = _ := fun ty => Lib.run_next_ascii_at wr w'.heap.size bt pos ty hit hp (by omega)
      have hit2 := Lib.iterAt_heap wr w'.heap.size bt pos (pos + 1) hit
      have hbr2 := Lib.below_iterAt hbr (k := w'.heap.size) (Nat.le_refl _) bt (pos + 1)
      have e1 := (hbr2.cell (p := ⟨w.heap.size, 11, none⟩) (show w.heap.size < w'.heap.size by omega)).trans h1
      have hit3 : ∀ n, ((wr.iterAt w'.heap.size bt (pos + 1)).drewN n).heap[w'.heap.size]? = some (.stringIter bt (pos + 1)) := fun n => by simpa using hit2
      have hbr3 : ∀ n, Below w'.heap.size w' ((wr.iterAt w'.heap.size bt (pos + 1)).drewN n) := fun n => below_drewN hbr2 n
      have hdr : bt.data.toList.drop pos = bt[pos]'hp :: bt.data.toList.drop (pos + 1) := by
        rw [List.drop_eq_getElem_cons (by rw [Array.length_toList]; exact hp)]; rfl
      have hln : (bt.data.toList.drop (pos + 1)).length = bt.size - 1 - pos := by rw [List.length_drop, Array.length_toList]; show bt.size - (pos + 1) = _; omega
      rw [hdr, putB, hln] at hP
      generalize (bt[pos]'hp) = c at *
      obtain ⟨hc0, hc1⟩ := hc
      have hF : ∀ w, Calls Try.prog 40 #[.int .u32 V, .int .i64 ((bt.size : Int) - 1 - pos), .int .i64 1] w fun e w' => e = .returned (.int .u32 (fld V (bt.size - 1 - pos) 1)) ∧ ∃ n, w' = w.drewN n := fun w => by
        have h := W.Field V ((bt.size : Int) - 1 - pos) 1 w v0.1 v0.2
        rw [show (max ((bt.size : Int) - 1 - pos) 0).toNat = bt.size - 1 - pos by omega, show held 1 = 1 by decide] at h
        exact h
      have hfb := fld_bd V (bt.size - 1 - pos) 1
      generalize fld V (bt.size - 1 - pos) 1 = f at *
      have hf1 : 0 ≤ f ∧ f < 2 := hfb
      have HP := hid hP
      have HF := hid hF
      clear hP hF hfb hdr hln
      have hpl : (pos : Int) < (bt.size : Int) := by omega
      have hbl : (bt.size : Int) ≤ 11 := by omega
      generalize hcn : c.toNat = cn at *
      have HCN := hid hcn
      clear hcn
      go_wp2_with (first | (go_at_call 40; (with_reducible refine (HF.out _).mono ?_); rintro e w4 ⟨rfl, n4, rfl⟩))
      go_roundw
      case rel =>
        refine ⟨pos + 1, _, by omega, rfl, ?_, hit3 n4, hbr3 n4⟩
        rw [← HP.out, letter f cn hf1 hc0 hc1]
      case measure =>
        simp only [World.iterPos, hit3, hit]
        omega
    · obtain rfl : pos = bt.size := by omega
      have hnx : ∀ ty, (Instr.next (.pointer (some ⟨w'.heap.size, 0, none⟩)) true ty).run Try.prog wr = _ := fun ty => Lib.run_next_end_at wr w'.heap.size bt bt.size ty hit (by omega)
      have hP2 : hv = P := by
        rw [List.drop_of_length_le (by rw [Array.length_toList]; exact Nat.le_refl _)] at hP
        exact hP
      have HP := hid hP2
      clear hP hP2
      go_wp2
      go_ret
      exact ⟨ret_int HP.out, hbw.trans (hbr.mono (by omega))⟩
end Go.Proofs.Ytfecjdchgckjhaa.F
