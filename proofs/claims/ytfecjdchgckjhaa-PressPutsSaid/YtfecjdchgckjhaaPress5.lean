/- What the functions of package press compute: a register read out of a parcel. What the functions of package press compute: the instruction that a parcel would be of a row. -/
import Derived.Test.YtfecjdchgckjhaaPress0
import Derived.Deep.Cut
import Derived.Deep.DeepCutAuto
namespace Go.Proofs.Ytfecjdchgckjhaa.F
set_option linter.unusedVariables false
set_option linter.unusedSimpArgs false
open Go.ChangeShapes Go.WideShapes Go.ChangeAt Go.RowKit Go.Proofs.Ytfecjdchgckjhaa.P Go.Proofs.Ytfecjdchgckjhaa.W

theorem at_ (low n h : Int) (b : Nat) (w : World) (l0 : 0 ≤ low) (n0 : 0 ≤ n) (n1 : n ≤ 31) (h0 : 0 ≤ h) (h1 : h < 65536) (hc : w.cell? ⟨b, 0, none⟩ = some (.int .u16 h)) :
    Calls Try.prog 61 #[.int .i64 low, .int .i64 n, .pointer (some ⟨b, 0, none⟩)] w fun e w' => e = .returned (.int .i64 (fld h low.toNat n.toNat)) ∧ ∃ m, w' = w.drewN m := by
  have hF : ∀ w, Calls Try.prog 40 #[.int .u32 h, .int .i64 low, .int .i64 n] w fun e w' => e = .returned (.int .u32 (fld h low.toNat n.toNat)) ∧ ∃ n, w' = w.drewN n := fun w => by
    have hh := W.Field h low n w h0 (by omega)
    rw [show (max low 0).toNat = low.toNat by omega, show held n = n.toNat by unfold held; omega] at hh
    exact hh
  have hb := fld_lt32 h low.toNat (b := n.toNat) (by omega)
  have HF := hid hF
  clear hF
  generalize fld h low.toNat n.toNat = f at *
  go_enter Try.func61, Try.ntmps61
  go_wp2_with (go_at_call 40; (with_reducible refine (HF.out _).mono ?_); rintro e w' ⟨rfl, m, rfl⟩)
  go_ret
  exact ⟨rfl, _, rfl⟩
set_option maxHeartbeats 2000000 in
theorem read (kind h rd : Int) (w : World) (k0 : 0 ≤ kind) (k1 : kind ≤ 10) (h0 : 0 ≤ h) (h1 : h < 65536) :
    Calls Try.prog 50 #[.int .i64 kind, .int .u16 h, .int .i64 rd] w fun e w' => e = .returned (.int .i64 (readK kind h rd)) ∧ Below w.heap.size w w' := by
  have HA := hid (fun (w : World) (b : Nat) hc => at_ 7 5 h b w (by decide) (by decide) (by decide) h0 h1 hc)
  have HB := hid (fun (w : World) (b : Nat) hc => at_ 2 5 h b w (by decide) (by decide) (by decide) h0 h1 hc)
  have HC := hid (fun (w : World) (b : Nat) hc => at_ 7 3 h b w (by decide) (by decide) (by decide) h0 h1 hc)
  have HD := hid (fun (w : World) (b : Nat) hc => at_ 2 3 h b w (by decide) (by decide) (by decide) h0 h1 hc)
  have e1 : fld h (7 : Int).toNat (5 : Int).toNat = fld h 7 5 := rfl
  have e2 : fld h (2 : Int).toNat (5 : Int).toNat = fld h 2 5 := rfl
  have e3 : fld h (7 : Int).toNat (3 : Int).toNat = fld h 7 3 := rfl
  have e4 : fld h (2 : Int).toNat (3 : Int).toNat = fld h 2 3 := rfl
  rw [e1] at HA
  rw [e2] at HB
  rw [e3] at HC
  rw [e4] at HD
  clear e1 e2 e3 e4
  have b3 : 0 ≤ fld h 7 3 ∧ fld h 7 3 < 8 := fld_bd h 7 3
  have b4 : 0 ≤ fld h 2 3 ∧ fld h 2 3 < 8 := fld_bd h 2 3
  have hK : Hid (∀ kind, readK kind h rd = if kind = 1 ∨ kind = 2 ∨ kind = 10 then fld h 7 5 else if kind = 4 ∨ kind = 5 then fld h 2 5 else if kind = 6 then 8 + fld h 7 3 else if kind = 7 then 8 + fld h 2 3
      else if kind = 3 then rd else if kind = 8 then 1 else if kind = 9 then 2 else 0) := hid fun _ => rfl
  generalize fld h 7 5 = f1 at *
  generalize fld h 2 5 = f2 at *
  generalize fld h 7 3 = f3 at *
  generalize fld h 2 3 = f4 at *
  have hc : kind = 0 ∨ kind = 1 ∨ kind = 2 ∨ kind = 3 ∨ kind = 4 ∨ kind = 5 ∨ kind = 6 ∨ kind = 7 ∨ kind = 8 ∨ kind = 9 ∨ kind = 10 := by omega
  rcases hc with rfl | rfl | rfl | rfl | rfl | rfl | rfl | rfl | rfl | rfl | rfl
  all_goals
    go_enter Try.func50, Try.ntmps50
    go_wp2_with (first | (go_at_call 61; (with_reducible refine (HA.out _ _ (by go_simp)).mono ?_); rintro e w' ⟨rfl, m, rfl⟩) | (go_at_call 61; (with_reducible refine (HB.out _ _ (by go_simp)).mono ?_); rintro e w' ⟨rfl, m, rfl⟩) | (go_at_call 61; (with_reducible refine (HC.out _ _ (by go_simp)).mono ?_); rintro e w' ⟨rfl, m, rfl⟩) | (go_at_call 61; (with_reducible refine (HD.out _ _ (by go_simp)).mono ?_); rintro e w' ⟨rfl, m, rfl⟩))
    go_ret
    exact ⟨by rw [hK.out]; rfl, (by repeat' (first | (with_reducible exact Below.refl _ _) | (with_reducible assumption) | (with_reducible refine below_drewN ?_ _) | (with_reducible refine Below.alloc ?_ ?_ _) | (with_reducible refine Below.drew ?_) | (with_reducible refine Below.setCell ?_ ?_ _) | (with_reducible exact Below.size (by assumption)) | go_size))⟩
end Go.Proofs.Ytfecjdchgckjhaa.F

namespace Go.Proofs.Ytfecjdchgckjhaa.F
set_option linter.unusedVariables false
set_option linter.unusedSimpArgs false
open Go.ChangeShapes Go.WideShapes Go.ChangeAt Go.RowKit Go.Proofs.Ytfecjdchgckjhaa.P Go.Proofs.Ytfecjdchgckjhaa.W

/-- the cells of an instruction of the call's own -/
structure Five (w : World) (b : Nat) (v0 v1 v2 v3 v4 : Value) : Prop where
  lt : b < w.heap.size
  c0 : w.cell? ⟨b, 0, none⟩ = some v0
  c1 : w.cell? ⟨b, 1, none⟩ = some v1
  c2 : w.cell? ⟨b, 2, none⟩ = some v2
  c3 : w.cell? ⟨b, 3, none⟩ = some v3
  c4 : w.cell? ⟨b, 4, none⟩ = some v4
  g0 : w.frozen? ⟨b, 0, none⟩ = false
  g1 : w.frozen? ⟨b, 1, none⟩ = false
  g2 : w.frozen? ⟨b, 2, none⟩ = false
  g3 : w.frozen? ⟨b, 3, none⟩ = false
  g4 : w.frozen? ⟨b, 4, none⟩ = false
theorem Five.below {w w' : World} {b B : Nat} {v0 v1 v2 v3 v4 : Value} (h : Five w b v0 v1 v2 v3 v4) (hb : Below B w w') (hB : b < B) : Five w' b v0 v1 v2 v3 v4 :=
  have c : ∀ j, w'.cell? ⟨b, j, none⟩ = w.cell? ⟨b, j, none⟩ := fun j => hb.cell (p := ⟨b, j, none⟩) hB
  have f : ∀ j, w'.frozen? ⟨b, j, none⟩ = w.frozen? ⟨b, j, none⟩ := fun j => hb.frozen (p := ⟨b, j, none⟩) hB
  ⟨Nat.lt_of_lt_of_le h.lt hb.size, (c _).trans h.c0, (c _).trans h.c1, (c _).trans h.c2, (c _).trans h.c3, (c _).trans h.c4, (f _).trans h.g0, (f _).trans h.g1, (f _).trans h.g2, (f _).trans h.g3, (f _).trans h.g4⟩
theorem Five.new (w : World) (t : TypeId) (v0 v1 v2 v3 v4 : Value) : Five (w.alloc (.cells #[v0, v1, v2, v3, v4] t)) w.heap.size v0 v1 v2 v3 v4 :=
  ⟨by simp, by simp, by simp, by simp, by simp, by simp, free_new _ _ _ _, free_new _ _ _ _, free_new _ _ _ _, free_new _ _ _ _, free_new _ _ _ _⟩
theorem Five.put4 {w : World} {b : Nat} {v0 v1 v2 v3 v4 : Value} (h : Five w b v0 v1 v2 v3 v4) (v : Value) : Five (w.setCell ⟨b, 4, none⟩ v) b v0 v1 v2 v3 v := by
  obtain ⟨l, c0, c1, c2, c3, c4, g0, g1, g2, g3, g4⟩ := h
  constructor <;> first | (simpa using l) | (go_simp; done) | exact World.cell?_setCell_same w _ v c4

theorem Five.all {w : World} {b : Nat} {u0 u1 u2 u3 u4 : Value} (h : Five w b u0 u1 u2 u3 u4) (v0 v1 v2 v3 v4 : Value) : Five (((((w.setCell ⟨b, 0, none⟩ v0).setCell ⟨b, 1, none⟩ v1).setCell ⟨b, 2, none⟩ v2).setCell ⟨b, 3, none⟩ v3).setCell ⟨b, 4, none⟩ v4) b v0 v1 v2 v3 v4 := by
  obtain ⟨l, c0, c1, c2, c3, c4, g0, g1, g2, g3, g4⟩ := h
  constructor <;> first | (simpa using l) | (go_simp; done) | (simp [setCell_map, go_sem, c0, c1, c2, c3, c4]; done)
theorem or_bd (a b : Int) (a0 : 0 ≤ a) (a1 : a < 4294967296) (b0 : 0 ≤ b) (b1 : b < 4294967296) : 0 ≤ bits .or .u32 a b ∧ bits .or .u32 a b < 4294967296 := by
  rw [u32_or a b a0 a1 b0 b1]
  have e : (2 : Nat) ^ 32 = 4294967296 := by decide
  have := Nat.or_lt_two_pow (x := a.toNat) (y := b.toNat) (n := 32) (by omega) (by omega)
  omega
set_option maxHeartbeats 4000000 in
theorem got (r : PR) (h : Int) (w : World) (hr : r.fine) (hu : r.un = 1 ∨ r.un = 2 ∨ r.un = 4 ∨ r.un = 16 ∨ r.un = 4096) (hb : ∀ c ∈ r.bt.data.toList, 97 ≤ c.toNat ∧ c.toNat ≤ 107) (hl : r.bt.size ≤ 11) (h0 : 0 ≤ h) (h1 : h < 65536) :
    Calls Try.prog 34 #[.agg #[.string r.nm, .int .i64 r.op, .int .u16 r.m, .int .i64 r.rd, .int .i64 r.r1, .int .i64 r.r2, .int .i64 r.sg, .int .i64 r.un, .int .i32 r.lo, .int .i32 r.hi, .bool r.no, .string r.bt], .int .u16 h] w fun e w' => e = .returned (.agg #[.int .i64 r.op, .int .i64 (gRdR r h), .int .i64 (gR1R r h), .int .i64 (gR2R r h), .int .i32 (gImR r h)]) ∧ Below w.heap.size w w' := by
  have HS := hid (fun w => shift r w hu)
  have hsh : (2 : Int) ^ shiftN r.un = r.un ∧ shiftN r.un ≤ 12 := by rcases hu with h | h | h | h | h <;> rw [h] <;> decide
  obtain ⟨d0, d1, a0, a1, b0, b1, u0, u1, m0, m1, s0, s1⟩ := hr
  have HRD := hid (fun w => read r.rd h 0 w d0 d1 h0 h1)
  have HR1 := hid (fun w => read r.r1 h (readK r.rd h 0) w a0 a1 h0 h1)
  have HR2 := hid (fun w => read r.r2 h (readK r.rd h 0) w b0 b1 h0 h1)
  have E1 : Hid (gRdR r h = readK r.rd h 0) := hid rfl
  have E2 : Hid (gR1R r h = readK r.r1 h (readK r.rd h 0)) := hid rfl
  have E3 : Hid (gR2R r h = readK r.r2 h (readK r.rd h 0)) := hid rfl
  have E4 : Hid (gImR r h = if 0 < r.sg then sgn (gotB h 0 r.bt.data.toList * 2 ^ shiftN r.un % 4294967296) r.sg.toNat else sgn (gotB h 0 r.bt.data.toList * 2 ^ shiftN r.un % 4294967296) 32) := hid (by rw [hsh.1]; rfl)
  obtain ⟨-, hs12⟩ := hsh
  generalize gRdR r h = x1 at *
  generalize gR1R r h = x2 at *
  generalize gR2R r h = x3 at *
  generalize gImR r h = x4 at *
  obtain ⟨nm, rop, m, krd, kr1, kr2, sg, un, lo, hi, no, bt⟩ := r
  simp only [] at *
  clear hu d0 d1 a0 a1 b0 b1 u0 u1
  generalize shiftN un = s at *
  generalize readK krd h 0 = y1 at *
  generalize readK kr1 h y1 = y2 at *
  generalize readK kr2 h y1 = y3 at *
  generalize hG : gotB h 0 bt.data.toList = G at *
  have HG := hid hG
  clear hG
  go_enter Try.func34, Try.ntmps34
  go_upto_region 1 with (fail)
  have z0 : Row12 (w.alloc (.cells #[.string nm, .int .i64 rop, .int .u16 m, .int .i64 krd, .int .i64 kr1, .int .i64 kr2, .int .i64 sg, .int .i64 un, .int .i32 lo, .int .i32 hi, .bool no, .string bt] 40)) w.heap.size 0 ⟨nm, rop, m, krd, kr1, kr2, sg, un, lo, hi, no, bt⟩ := Row12.fresh w 40 ⟨nm, rop, m, krd, kr1, kr2, sg, un, lo, hi, no, bt⟩
  have hb0 := below_alloc w (.cells #[.string nm, .int .i64 rop, .int .u16 m, .int .i64 krd, .int .i64 kr1, .int .i64 kr2, .int .i64 sg, .int .i64 un, .int .i32 lo, .int .i32 hi, .bool no, .string bt] 40)
  have hsz : (w.alloc (.cells #[.string nm, .int .i64 rop, .int .u16 m, .int .i64 krd, .int .i64 kr1, .int .i64 kr2, .int .i64 sg, .int .i64 un, .int .i32 lo, .int .i32 hi, .bool no, .string bt] 40)).heap.size = w.heap.size + 1 := by simp
  generalize w.alloc (.cells #[.string nm, .int .i64 rop, .int .u16 m, .int .i64 krd, .int .i64 kr1, .int .i64 kr2, .int .i64 sg, .int .i64 un, .int .i32 lo, .int .i32 hi, .bool no, .string bt] 40) = w1 at *
  have z1 := Five.new w1 23 (.int .i64 0) (.int .i64 0) (.int .i64 0) (.int .i64 0) (.int .i32 0)
  have hb1 := below_alloc w1 (.cells #[.int .i64 0, .int .i64 0, .int .i64 0, .int .i64 0, .int .i32 0] 23)
  rw [hsz] at z1
  generalize w1.alloc (.cells #[.int .i64 0, .int .i64 0, .int .i64 0, .int .i64 0, .int .i32 0] 23) = w2 at *
  replace z0 := z0.below hb1 z0.lt
  replace hb0 := bel_step hb0 hb1
  clear hb1 hsz w1
  have hsz1 : w.heap.size + 1 < w2.heap.size := z1.lt
  have h2 := z0.c11
  simp only [Nat.zero_add] at h2
  have Z0 := hid z0
  have Z1 := hid z1
  have HBT := hid hb
  clear z0 z1 hb
  go_upto_region 3 with (fail)
  go_loopw [5] (fun v wr => ∃ (pos : Nat) (vv : Int), pos ≤ bt.size ∧ v = .int .u32 vv ∧ gotB h vv (bt.data.toList.drop pos) = G ∧ (0 ≤ vv ∧ vv < 4294967296) ∧ wr.heap[w2.heap.size]? = some (.stringIter bt pos) ∧ Below w2.heap.size w2 wr) (fun _ wr => bt.size - wr.iterPos w2.heap.size)
  case atStart =>
    refine ⟨0, 0, by omega, rfl, HG.out, ⟨by decide, by decide⟩, ?_, ?_⟩
    · have := World.iter_heap w2 bt 0
      simpa using this
    · exact (Below.refl _ _).alloc (Nat.le_refl _) _
  case round =>
    obtain ⟨pos, vv, hpos, rfl, hP, ⟨v0, v1⟩, hit, hbr⟩ := hrel
    have hsz : w2.heap.size < wr.heap.size := (Array.getElem?_eq_some_iff.1 hit).1
    by_cases hp : pos < bt.size
    · have hc := HBT.out (bt[pos]'hp) (by rw [Array.mem_toList_iff]; exact Array.getElem_mem _)
      have hnx : ∀ ty, (Instr.next (.pointer (some ⟨w2.heap.size, 0, none⟩)) true ty).run Try.prog wr = _ := fun ty => Lib.run_next_ascii_at wr w2.heap.size bt pos ty hit hp (by omega)
      have hit2 := Lib.iterAt_heap wr w2.heap.size bt pos (pos + 1) hit
      have hbr2 := Lib.below_iterAt hbr (k := w2.heap.size) (Nat.le_refl _) bt (pos + 1)
      have hit3 : ∀ n, ((wr.iterAt w2.heap.size bt (pos + 1)).drewN n).heap[w2.heap.size]? = some (.stringIter bt (pos + 1)) := fun n => by simpa using hit2
      have hbr3 : ∀ n, Below w2.heap.size w2 ((wr.iterAt w2.heap.size bt (pos + 1)).drewN n) := fun n => below_drewN hbr2 n
      have hdr : bt.data.toList.drop pos = bt[pos]'hp :: bt.data.toList.drop (pos + 1) := by
        rw [List.drop_eq_getElem_cons (by rw [Array.length_toList]; exact hp)]; rfl
      rw [hdr, gotB] at hP
      generalize (bt[pos]'hp) = c at *
      obtain ⟨hc0, hc1⟩ := hc
      generalize hcn : c.toNat = cn at *
      have hF : ∀ w, Calls Try.prog 40 #[.int .u32 h, .int .i64 ((cn : Int) - 97 + 2), .int .i64 1] w fun e w' => e = .returned (.int .u32 (fld h (cn - 95) 1)) ∧ ∃ n, w' = w.drewN n := fun w => by
        have hh := W.Field h ((cn : Int) - 97 + 2) 1 w h0 (by omega)
        rw [show (max ((cn : Int) - 97 + 2) 0).toNat = cn - 95 by omega, show held 1 = 1 by decide] at hh
        exact hh
      have hfb := fld_bd h (cn - 95) 1
      generalize fld h (cn - 95) 1 = f at *
      have hf1 : 0 ≤ f ∧ f < 2 := hfb
      have hob := or_bd (vv * 2 % 4294967296) f (by omega) (by omega) hf1.1 (by omega)
      generalize hn : bits .or .u32 (vv * 2 % 4294967296) f = nv at *
      have HN := hid hn
      have HCN := hid hcn
      have HP := hid hP
      have HF := hid hF
      clear hP hF hfb hdr hn hcn
      have hpl : (pos : Int) < (bt.size : Int) := by omega
      have hbl : (bt.size : Int) ≤ 11 := by omega
      go_wp2_with (first | (go_at_call 40; (with_reducible refine (HF.out _).mono ?_); rintro e w4 ⟨rfl, n4, rfl⟩))
      go_roundw
      case rel =>
        exact ⟨pos + 1, nv, by omega, by rw [← HN.out], HP.out, hob, hit3 n4, hbr3 n4⟩
      case measure =>
        simp only [World.iterPos, hit3, hit]
        omega
    · obtain rfl : pos = bt.size := by omega
      have hnx : ∀ ty, (Instr.next (.pointer (some ⟨w2.heap.size, 0, none⟩)) true ty).run Try.prog wr = _ := fun ty => Lib.run_next_end_at wr w2.heap.size bt bt.size ty hit (by omega)
      have hP2 : vv = G := by
        rw [List.drop_of_length_le (by rw [Array.length_toList]; exact Nat.le_refl _)] at hP
        exact hP
      subst hP2
      clear hP
      have z0 := Z0.out.below hbr Z0.out.lt
      have z1 := Z1.out.below hbr Z1.out.lt
      have hb3 : Below w.heap.size w wr := bel_step hb0 hbr
      clear hbr hit hsz HG HBT Z0 Z1 hb0 h2 hsz1
      obtain ⟨zl, c0, c1, c2, c3, c4, c5, c6, c7, c8, c9, c10, c11⟩ := id z0
      simp only [Nat.zero_add] at c0 c1 c2 c3 c4 c5 c6 c7 c8 c9 c10 c11
      have Z0 := hid z0
      have Z1 := hid z1
      clear z0 z1
      go_wp2_with fail
      refine (HS.out _).mono ?_
      rintro e w3 ⟨rfl, hb1⟩
      have z0 := Z0.out.below hb1 Z0.out.lt
      have z1 := Z1.out.below hb1 Z1.out.lt
      replace hb3 := bel_step hb3 hb1
      clear hb1 hnx zl c0 c1 c2 c3 c4 c5 c6 c7 c8 c9 c10 c11 Z0 Z1 HS
      go_upto_region 7 with (fail)
      have hq : 0 ≤ vv * 2 ^ s % 4294967296 ∧ vv * 2 ^ s % 4294967296 < 4294967296 := by omega
      generalize vv * 2 ^ s % 4294967296 = q at *
      obtain ⟨q0, q1⟩ := hq
      have hx32 : IntKind.i32.wrap q = sgn q 32 := by
        have e : (2 : Int) ^ 32 = 4294967296 := by decide
        unfold sgn; rw [e]
        simp only [IntKind.wrap, IntKind.bits, IntKind.signed]
        simp
        split <;> omega
      generalize hs32 : sgn q 32 = x32 at *
      have HS32 := hid hs32
      clear hs32 v0 v1
      obtain ⟨zl, c0, c1, c2, c3, c4, c5, c6, c7, c8, c9, c10, c11⟩ := id z0
      simp only [Nat.zero_add] at c0 c1 c2 c3 c4 c5 c6 c7 c8 c9 c10 c11
      have Z0 := hid z0
      have Z1 := hid z1
      clear z0 z1 c0 c2 c4 c5 c6 c7 c8 c9 c10 c11
      go_cut [8] (fun i8 wx => ∃ ib : Nat, i8 = .pointer (some ⟨ib, 0, none⟩) ∧ w3.heap.size ≤ ib ∧ Below w3.heap.size w3 wx ∧ Five wx ib (.int .i64 rop) (.int .i64 y1) (.int .i64 0) (.int .i64 0) (.int .i32 x32))
      case first =>
        go_region_held3 (fun W => w.heap.size < W.heap.size ∧ W.cell? ⟨w.heap.size, 1, none⟩ = some (.int .i64 rop) ∧ W.cell? ⟨w.heap.size, 3, none⟩ = some (.int .i64 krd)) (((repeat' (refine And.intro ?_ ?_)) <;> (first | omega | (simp; omega) | (go_simp; done) | (simp [*]; done)))) ((go_at_call 50; (with_reducible refine (HRD.out _).mono ?_); rintro e w' ⟨rfl, hbel⟩; (try (with_reducible replace hbel := bel_undrew hbel)); (try (with_reducible replace hbel := bel_undrewN hbel)); have hbw3 : Below w3.heap.size w3 w' := bel_step (w := w3) (by repeat' (first | (with_reducible exact Below.refl _ _) | (with_reducible assumption) | (with_reducible refine below_drewN ?_ _) | (with_reducible refine Below.alloc ?_ ?_ _) | (with_reducible refine Below.drew ?_) | (with_reducible refine Below.setCell ?_ ?_ _) | (with_reducible exact Below.size (by assumption)) | go_size)) hbel; have hsw := hbw3.size; have hsb := hbel.size; (try simp at hsb); have hwl : w.heap.size < w'.heap.size := Nat.lt_of_lt_of_le zl hsw; have hwn : w.heap.size ≠ w'.heap.size := Nat.ne_of_lt hwl; have d1 := (hbw3.cell (p := ⟨w.heap.size, 1, none⟩) zl).trans c1; have d3 := (hbw3.cell (p := ⟨w.heap.size, 3, none⟩) zl).trans c3; have HBL := hid hbel; obtain ⟨hcel, hfro⟩ := bcell hbel; clear hbel))
        all_goals (go_wp2_with fail; go_meet)
        all_goals first | exact ⟨_, rfl, hsw, (by repeat' (first | (with_reducible exact Below.refl _ _) | (with_reducible assumption) | (with_reducible refine below_drewN ?_ _) | (with_reducible refine Below.alloc ?_ ?_ _) | (with_reducible refine Below.drew ?_) | (with_reducible refine Below.setCell ?_ ?_ _) | (with_reducible exact Below.size (by assumption)) | go_size)), Five.new _ _ _ _ _ _ _⟩ | exact ⟨_, rfl, Nat.le_refl _, (by repeat' (first | (with_reducible exact Below.refl _ _) | (with_reducible assumption) | (with_reducible refine below_drewN ?_ _) | (with_reducible refine Below.alloc ?_ ?_ _) | (with_reducible refine Below.drew ?_) | (with_reducible refine Below.setCell ?_ ?_ _) | (with_reducible exact Below.size (by assumption)) | go_size)), Five.all ((Five.new w3 23 (.int .i64 0) (.int .i64 0) (.int .i64 0) (.int .i64 0) (.int .i32 0)).below HBL.out (by simp)) _ _ _ _ _⟩
      case rest =>
        obtain ⟨ib, rfl, hib, hbx, hI⟩ := hcut
        have z0 := Z0.out.below hbx Z0.out.lt
        have z1 := Z1.out.below hbx Z1.out.lt
        replace hb3 := bel_step hb3 hbx
        have hwi : w.heap.size + 1 < ib := by have := Z1.out.lt; omega
        have hne1 : ib ≠ w.heap.size := by omega
        have hne2 : ib ≠ w.heap.size + 1 := by omega
        have hne3 : w.heap.size + 1 ≠ ib := fun e => hne2 e.symm
        have hne4 : w.heap.size ≠ ib := fun e => hne1 e.symm
        clear hbx zl c1 c3 Z0 Z1 HRD hib
        by_cases hsg : 0 < sg
        · have hx4 : x4 = sgn q sg.toNat := by rw [E4.out, if_pos hsg]
          have HSG := hid (fun w => W.Sign q sg w)
          rw [show held sg = sg.toNat by unfold held; omega] at HSG
          clear E4 HS32 hx32
          obtain ⟨zl, -, -, -, -, -, -, c6, -, -, -, -, -⟩ := id z0
          obtain ⟨il, j0, j1, j2, j3, j4, g0, g1, g2, g3, g4⟩ := id hI
          simp only [Nat.zero_add] at c6
          have Z0 := hid z0
          have Z1 := hid z1
          have HI := hid hI
          have HX4 := hid hx4
          clear z0 z1 hI hx4
          go_upto_region 10 with (first | (go_at_call 51; (with_reducible refine (HSG.out _).mono ?_); rintro e w' ⟨rfl, rfl⟩))
          have hI' := Five.put4 HI.out (.int .i32 (sgn q sg.toNat))
          have hbs : Below ib wc (wc.setCell ⟨ib, 4, none⟩ (.int .i32 (sgn q sg.toNat))) := (Below.refl ib wc).setCell (p := ⟨ib, 4, none⟩) (Nat.le_refl _) _
          have z0' := Z0.out.below hbs (by omega)
          have z1' := Z1.out.below hbs (by omega)
          have hb4 : Below w.heap.size w (wc.setCell ⟨ib, 4, none⟩ (.int .i32 (sgn q sg.toNat))) := hb3.trans (hbs.mono (by omega))
          clear hbs hb3 Z0 Z1 HI zl c6 il j0 j1 j2 j3 j4 g0 g1 g2 g3 g4
          generalize wc.setCell ⟨ib, 4, none⟩ (.int .i32 (sgn q sg.toNat)) = wd at *
          have hb3 := hb4
          have Z0 := hid z0'
          have Z1 := hid z1'
          have HI := hid hI'
          clear z0' z1' hI' hb4
          obtain ⟨zl, -, -, -, -, c4, c5, -, -, -, -, -, -⟩ := id Z0.out
          obtain ⟨il, j0, j1, j2, j3, j4, g0, g1, g2, g3, g4⟩ := id HI.out
          simp only [Nat.zero_add] at c4 c5
          clear j0 j2 j3 j4 g0 g1 g2 g3 g4
          go_region_held3 (fun W => w.heap.size < W.heap.size ∧ ib < W.heap.size ∧ W.cell? ⟨w.heap.size, 4, none⟩ = some (.int .i64 kr1) ∧ W.cell? ⟨w.heap.size, 5, none⟩ = some (.int .i64 kr2) ∧ W.cell? ⟨ib, 1, none⟩ = some (.int .i64 y1)) (((repeat' (refine And.intro ?_ ?_)) <;> (first | omega | (simp; omega) | (go_simp; done) | (simp [*]; done)))) (((first | (go_at_call 50; (with_reducible refine (HR1.out _).mono ?_)) | (go_at_call 50; (with_reducible refine (HR2.out _).mono ?_))); rintro e w' ⟨rfl, hbel⟩; (try (with_reducible replace hbel := bel_undrew hbel)); (try (with_reducible replace hbel := bel_undrewN hbel)); have hbd : Below wd.heap.size wd w' := bel_step (w := wd) (by repeat' (first | (with_reducible exact Below.refl _ _) | (with_reducible assumption) | (with_reducible refine below_drewN ?_ _) | (with_reducible refine Below.alloc ?_ ?_ _) | (with_reducible refine Below.drew ?_) | (with_reducible refine Below.setCell ?_ ?_ _) | (with_reducible exact Below.size (by assumption)) | go_size)) hbel; clear hbel; have hI2 := Five.below HI.out hbd il; have hwl : w.heap.size < w'.heap.size := Nat.lt_of_lt_of_le zl hbd.size; have d4 := (hbd.cell (p := ⟨w.heap.size, 4, none⟩) zl).trans c4; have d5 := (hbd.cell (p := ⟨w.heap.size, 5, none⟩) zl).trans c5; obtain ⟨kl, k0, k1, k2, k3, k4, l0, l1, l2, l3, l4⟩ := hI2))
          all_goals
            have r1 := Z1.out.below hbd Z1.out.lt
            have hbf : Below w.heap.size w w' := bel_step hb3 hbd
            obtain ⟨rl, r0, r1, r2, r3, r4, f0, f1, f2, f3, f4⟩ := r1
            go_wp2
            refine bodyPost_ret (v := .agg #[.int .i64 rop, .int .i64 y1, .int .i64 y2, .int .i64 y3, .int .i32 (sgn q sg.toNat)]) (by simp [results, Try.results34, go_sem, setCell_map, r0, r1, r2, r3, r4, k0, k1, k2, k3, k4]; try rfl) rfl ⟨by rw [E1.out, E2.out, E3.out, HX4.out], (by repeat' (first | (with_reducible exact Below.refl _ _) | (with_reducible assumption) | (with_reducible refine below_drewN ?_ _) | (with_reducible refine Below.alloc ?_ ?_ _) | (with_reducible refine Below.drew ?_) | (with_reducible refine Below.setCell ?_ ?_ _) | (with_reducible exact Below.size (by assumption)) | go_size))⟩
        · have hx4 : x4 = x32 := by rw [E4.out, if_neg hsg]
          clear E4 HS32 hx32
          obtain ⟨zl, -, -, -, -, -, -, c6, -, -, -, -, -⟩ := id z0
          simp only [Nat.zero_add] at c6
          have Z0 := hid z0
          have Z1 := hid z1
          have HI := hid hI
          have HX4 := hid hx4
          clear z0 z1 hI hx4
          go_upto_region 10 with (fail)
          clear zl c6
          generalize wc = wd at *
          obtain ⟨zl, -, -, -, -, c4, c5, -, -, -, -, -, -⟩ := id Z0.out
          obtain ⟨il, j0, j1, j2, j3, j4, g0, g1, g2, g3, g4⟩ := id HI.out
          simp only [Nat.zero_add] at c4 c5
          clear j0 j2 j3 j4 g0 g1 g2 g3 g4
          go_region_held3 (fun W => w.heap.size < W.heap.size ∧ ib < W.heap.size ∧ W.cell? ⟨w.heap.size, 4, none⟩ = some (.int .i64 kr1) ∧ W.cell? ⟨w.heap.size, 5, none⟩ = some (.int .i64 kr2) ∧ W.cell? ⟨ib, 1, none⟩ = some (.int .i64 y1)) (((repeat' (refine And.intro ?_ ?_)) <;> (first | omega | (simp; omega) | (go_simp; done) | (simp [*]; done)))) (((first | (go_at_call 50; (with_reducible refine (HR1.out _).mono ?_)) | (go_at_call 50; (with_reducible refine (HR2.out _).mono ?_))); rintro e w' ⟨rfl, hbel⟩; (try (with_reducible replace hbel := bel_undrew hbel)); (try (with_reducible replace hbel := bel_undrewN hbel)); have hbd : Below wd.heap.size wd w' := bel_step (w := wd) (by repeat' (first | (with_reducible exact Below.refl _ _) | (with_reducible assumption) | (with_reducible refine below_drewN ?_ _) | (with_reducible refine Below.alloc ?_ ?_ _) | (with_reducible refine Below.drew ?_) | (with_reducible refine Below.setCell ?_ ?_ _) | (with_reducible exact Below.size (by assumption)) | go_size)) hbel; clear hbel; have hI2 := Five.below HI.out hbd il; have hwl : w.heap.size < w'.heap.size := Nat.lt_of_lt_of_le zl hbd.size; have d4 := (hbd.cell (p := ⟨w.heap.size, 4, none⟩) zl).trans c4; have d5 := (hbd.cell (p := ⟨w.heap.size, 5, none⟩) zl).trans c5; obtain ⟨kl, k0, k1, k2, k3, k4, l0, l1, l2, l3, l4⟩ := hI2))
          all_goals
            have r1 := Z1.out.below hbd Z1.out.lt
            have hbf : Below w.heap.size w w' := bel_step hb3 hbd
            obtain ⟨rl, r0, r1, r2, r3, r4, f0, f1, f2, f3, f4⟩ := r1
            go_wp2
            refine bodyPost_ret (v := .agg #[.int .i64 rop, .int .i64 y1, .int .i64 y2, .int .i64 y3, .int .i32 (x32)]) (by simp [results, Try.results34, go_sem, setCell_map, r0, r1, r2, r3, r4, k0, k1, k2, k3, k4]; try rfl) rfl ⟨by rw [E1.out, E2.out, E3.out, HX4.out], (by repeat' (first | (with_reducible exact Below.refl _ _) | (with_reducible assumption) | (with_reducible refine below_drewN ?_ _) | (with_reducible refine Below.alloc ?_ ?_ _) | (with_reducible refine Below.drew ?_) | (with_reducible refine Below.setCell ?_ ?_ _) | (with_reducible exact Below.size (by assumption)) | go_size))⟩
end Go.Proofs.Ytfecjdchgckjhaa.F
