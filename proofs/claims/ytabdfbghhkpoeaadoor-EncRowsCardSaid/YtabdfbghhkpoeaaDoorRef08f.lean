/- What typecaseref08.Put computes. -/
import Derived.Test.YtabdfbghhkpoeaaDoorRef08d
import Derived.Test.YtabdfbghhkpoeaaDoorRef08e
import Derived.Test.YtabdfbghhkpoeaaDoorEncFit
import Derived.Test.YtabdfbghhkpoeaaDoorMay03
import Derived.Test.YtabdfbghhkpoeaaDoorDec04
import Derived.Deep.QuietTactic
import Derived.BigQuiet
import Derived.IntWalk
namespace Go.Proofs.YtabdfbghhkpoeaaDoor.R8
set_option linter.unusedVariables false
set_option linter.unusedSimpArgs false
open Go.ChangeShapes Go.WideShapes Go.ChangeAt Go.RowKit Go.Proofs.YtabdfbghhkpoeaaDoor.P Go.Proofs.YtabdfbghhkpoeaaDoor.W Go.Proofs.YtabdfbghhkpoeaaDoor.O Go.Proofs.YtabdfbghhkpoeaaDoor.R4

theorem Put_no (op rd rs1 rs2 imm : Int) (w : World) (hm : mayB op rd rs1 rs2 imm = false) (o0 : -9223372036854775808 ≤ op) (o1 : op < 9223372036854775808) (i0 : -2147483648 ≤ imm) (i1 : imm < 2147483648) :
    Calls Tryd.prog 9 #[.agg #[.int .i64 op, .int .i64 rd, .int .i64 rs1, .int .i64 rs2, .int .i32 imm]] w fun e w' => e = .returned (.tuple #[.int .u32 0, .bool false]) ∧ Below w.heap.size w w' := by
  have HM := hid (fun w => R3.May op rd rs1 rs2 imm w o0 o1 i0 i1)
  rw [hm] at HM
  clear hm
  go_enter Tryd.func9, Tryd.ntmps9
  go_wp2_with fail
  refine (HM.out _).mono ?_
  rintro e w2 ⟨rfl, hb1⟩
  go_wp2
  go_ret2
  exact ⟨rfl, bel_step (w := w) (by repeat' (first | (with_reducible exact Below.refl _ _) | (with_reducible assumption) | (with_reducible refine below_drewN ?_ _) | (with_reducible refine Below.alloc ?_ ?_ _) | (with_reducible refine Below.drew ?_) | (with_reducible refine Below.setCell ?_ ?_ _) | (with_reducible exact Below.size (by assumption)) | go_size)) hb1⟩
theorem quiet_same {P : Program} {f : FuncId} {args : Array Value} {w : World} {n : Nat} {v : Value}
    (h : Calls P f args (w.drewN n) fun e w' => e = .returned v ∧ w.drewN n = w') : Calls P f args (w.drewN n) fun e w'' => e = .returned v ∧ ∃ m, w'' = w.drewN m :=
  h.mono fun _ _ ⟨he, hm⟩ => ⟨he, n, hm.symm⟩
theorem quiet_same_more {P : Program} {f : FuncId} {args : Array Value} {w : World} {a n : Nat} {v : Value}
    (h : Calls P f args (w.drewN (a + n)) fun e w' => e = .returned v ∧ w.drewN (a + n) = w') : Calls P f args (w.drewN (a + n)) fun e w'' => e = .returned v ∧ ∃ m, w'' = w.drewN (a + m) :=
  h.mono fun _ _ ⟨he, hm⟩ => ⟨he, n, hm.symm⟩
theorem unit7 (w : World) : Calls Tryd.prog 21 #[.int .i64 7] w fun e w' => e = .returned (.int .u32 128) ∧ w = w' := unit 7 w (by decide) (by decide)
theorem unit15 (w : World) : Calls Tryd.prog 21 #[.int .i64 15] w fun e w' => e = .returned (.int .u32 32768) ∧ w = w' := unit 15 w (by decide) (by decide)
theorem unit20 (w : World) : Calls Tryd.prog 21 #[.int .i64 20] w fun e w' => e = .returned (.int .u32 1048576) ∧ w = w' := unit 20 w (by decide) (by decide)
/-- a place is below 32 -/
theorem plc_bd (f : Int) : ∀ i ∈ plc f, i ≤ 31 := by
  have hc : f = 1 ∨ f = 2 ∨ f = 3 ∨ f = 4 ∨ f = 5 ∨ f = 6 ∨ f = 7 ∨ (f ≠ 1 ∧ f ≠ 2 ∧ f ≠ 3 ∧ ¬ (f = 4 ∨ f = 6) ∧ f ≠ 5 ∧ f ≠ 7) := by omega
  rcases hc with rfl | rfl | rfl | rfl | rfl | rfl | rfl | ⟨h1, h2, h3, h4, h5, h7⟩
  iterate 7 decide
  unfold plc; rw [if_neg h1, if_neg h2, if_neg h3, if_neg h4, if_neg h5, if_neg h7]; intro i hi; cases hi
theorem plc_len (f : Int) : (plc f).length ≤ 32 := by
  have hc : f = 1 ∨ f = 2 ∨ f = 3 ∨ f = 4 ∨ f = 5 ∨ f = 6 ∨ f = 7 ∨ (f ≠ 1 ∧ f ≠ 2 ∧ f ≠ 3 ∧ ¬ (f = 4 ∨ f = 6) ∧ f ≠ 5 ∧ f ≠ 7) := by omega
  rcases hc with rfl | rfl | rfl | rfl | rfl | rfl | rfl | ⟨h1, h2, h3, h4, h5, h7⟩
  iterate 7 decide
  unfold plc; rw [if_neg h1, if_neg h2, if_neg h3, if_neg h4, if_neg h5, if_neg h7]; decide
theorem bsum_drop (v : Int) (l : List Int) (k : Nat) (h : k < l.length) :
    bsum v (l.drop k) = (if 0 ≤ l.getD k 0 then v / 2 ^ (l.length - 1 - k) % 2 * 2 ^ (l.getD k 0).toNat else 0) + bsum v (l.drop (k + 1)) := by
  have e : l.drop k = l.getD k 0 :: l.drop (k + 1) := by
    rw [List.drop_eq_getElem_cons h]; simp [List.getD, h]
  rw [e, bsum, List.length_drop]
  simp only [show l.length - (k + 1) = l.length - 1 - k by omega]
set_option maxHeartbeats 2000000 in
theorem Put_yes (op rd rs1 rs2 imm : Int) (w : World) (hm : mayB op rd rs1 rs2 imm = true) (i0 : -2147483648 ≤ imm) (i1 : imm < 2147483648) :
    Calls Tryd.prog 9 #[.agg #[.int .i64 op, .int .i64 rd, .int .i64 rs1, .int .i64 rs2, .int .i32 imm]] w fun e w' => e = .returned (.tuple #[.int .u32 (encW op rd rs1 rs2 imm), .bool true]) ∧ Below w.heap.size w w' := by
  obtain ⟨ho, hf, ⟨a0, a1⟩, ⟨b0, b1⟩, ⟨d0, d1⟩, -, -, -, -⟩ := may_rg hm
  obtain ⟨⟨x0, x1⟩, -⟩ := dec_enc hm i0 i1
  have hv : 0 ≤ imm % 4294967296 ∧ imm % 4294967296 < 4294967296 := by omega
  have hl := bsum_laid (form op) (imm % 4294967296) hf.1 hf.2
  have hx : encW op rd rs1 rs2 imm = matchV op + rd * 128 + rs1 * 32768 + rs2 * 1048576 + bsum (imm % 4294967296) (plc (form op)) := by rw [hl]; rfl
  have hs0 := bsum_nonneg (imm % 4294967296) (plc (form op))
  have hm0 : 0 ≤ matchV op := by
    have : ∀ k : Nat, k < 48 → 0 ≤ matchV ((k : Int) + 1) := by decide
    have := this (op - 1).toNat (by omega)
    rw [show (((op - 1).toNat : Nat) : Int) + 1 = op by omega] at this
    exact this
  have HM := hid (fun w => R3.May op rd rs1 rs2 imm w (by omega) (by omega) i0 i1)
  rw [hm] at HM
  have HR := hid (fun w => Row op w ho.1 ho.2)
  have HF := hid (fun w => R3.Form op w (by omega) (by omega))
  have HP := hid (fun w => places (form op) w hf.1 hf.2)
  have hpb := plc_bd (form op)
  have hpl := plc_len (form op)
  rw [hx] at x0 x1
  have HX := hid hx
  clear hx hl hm ho hf
  generalize encW op rd rs1 rs2 imm = x at *
  generalize plc (form op) = l at *
  generalize form op = f at *
  generalize matchV op = m at *
  generalize maskV op = mk at *
  have u1 : IntKind.u32.wrap rd = rd := by rw [show IntKind.u32.wrap rd = rd % 4294967296 from rfl]; omega
  have u2 : IntKind.u32.wrap rs1 = rs1 := by rw [show IntKind.u32.wrap rs1 = rs1 % 4294967296 from rfl]; omega
  have u3 : IntKind.u32.wrap rs2 = rs2 := by rw [show IntKind.u32.wrap rs2 = rs2 % 4294967296 from rfl]; omega
  have u4 : IntKind.u32.wrap (rd * 128) = rd * 128 := by rw [show IntKind.u32.wrap (rd * 128) = rd * 128 % 4294967296 from rfl]; omega
  have u5 : IntKind.u32.wrap (rs1 * 32768) = rs1 * 32768 := by rw [show IntKind.u32.wrap (rs1 * 32768) = rs1 * 32768 % 4294967296 from rfl]; omega
  have u6 : IntKind.u32.wrap (rs2 * 1048576) = rs2 * 1048576 := by rw [show IntKind.u32.wrap (rs2 * 1048576) = rs2 * 1048576 % 4294967296 from rfl]; omega
  have u7 : IntKind.u32.wrap (m + rd * 128) = m + rd * 128 := by rw [show IntKind.u32.wrap (m + rd * 128) = (m + rd * 128) % 4294967296 from rfl]; omega
  have u8 : IntKind.u32.wrap (m + rd * 128 + rs1 * 32768) = m + rd * 128 + rs1 * 32768 := by rw [show IntKind.u32.wrap (m + rd * 128 + rs1 * 32768) = (m + rd * 128 + rs1 * 32768) % 4294967296 from rfl]; omega
  have u9 : IntKind.u32.wrap (m + rd * 128 + rs1 * 32768 + rs2 * 1048576) = m + rd * 128 + rs1 * 32768 + rs2 * 1048576 := by rw [show IntKind.u32.wrap (m + rd * 128 + rs1 * 32768 + rs2 * 1048576) = (m + rd * 128 + rs1 * 32768 + rs2 * 1048576) % 4294967296 from rfl]; omega
  go_enter Tryd.func9, Tryd.ntmps9
  go_wp2_with fail
  have z0 := Inst.new w 23 (.int .i64 op) (.int .i64 rd) (.int .i64 rs1) (.int .i64 rs2) (.int .i32 imm)
  have hb0 := below_alloc w (.cells #[.int .i64 op, .int .i64 rd, .int .i64 rs1, .int .i64 rs2, .int .i32 imm] 23)
  generalize w.alloc (.cells #[.int .i64 op, .int .i64 rd, .int .i64 rs1, .int .i64 rs2, .int .i32 imm] 23) = w1 at *
  generalize hB : w.heap.size = B at *
  have HB := hid hB
  clear hB
  refine (HM.out _).mono ?_
  rintro e w2 ⟨rfl, hb1⟩
  replace z0 := z0.below hb1 z0.lt
  replace hb0 : Below B w w2 := by rw [← HB.out] at hb0 ⊢; exact bel_step hb0 hb1
  clear hb1
  obtain ⟨zl, c0, c1, c2, c3, c4⟩ := id z0
  have Z0 := hid z0
  clear z0
  go_wp2_with fail
  refine (HR.out _).mono ?_
  rintro e w3 ⟨rfl, hb1⟩
  have z1 := Z0.out.below hb1 Z0.out.lt
  have hb2 : Below B w w3 := by rw [← HB.out] at hb0 ⊢; exact bel_step hb0 hb1
  clear hb1 hb0 Z0 c0 c1 c2 c3 c4 zl HM HR
  obtain ⟨zl, c0, c1, c2, c3, c4⟩ := id z1
  have Z0 := hid z1
  clear z1
  go_wp2
  go_quiet ((first | (go_at_call 21; (with_reducible exact quiet_same (unit7 _))) | (go_at_call 21; (with_reducible exact quiet_same (unit15 _))) | (go_at_call 21; (with_reducible exact quiet_same (unit20 _)))))
  clear u1 u2 u3 u4 u5 u6 u7 u8 u9
  go_wp2_with fail
  refine (HF.out _).mono ?_
  rintro e w4 ⟨rfl, hb1⟩
  have z1 := (Z0.out.below (below_drewN (Below.refl _ _) _) Z0.out.lt).below hb1 (by simpa using Z0.out.lt)
  have hb3 : Below B w w4 := by rw [← HB.out] at hb2 ⊢; exact bel_step (below_drewN hb2 _) hb1
  clear hb1 hb2 Z0 c0 c1 c2 c3 c4 zl HF
  go_wp2_with fail
  refine (HP.out _).mono ?_
  rintro e w5 ⟨v, rfl, hI, hb1⟩
  replace z1 := z1.below hb1 z1.lt
  have hb2 : Below B w w5 := by rw [← HB.out] at hb3 ⊢; exact bel_step hb3 hb1
  clear hb1 hb3 HP
  obtain ⟨zl, -, -, -, -, c4⟩ := z1
  have hd0 := hid (bsum_drop (imm % 4294967296) l)
  have hpb' := hid hpb
  clear hpb
  by_cases hne : l = []
  · subst hne
    obtain ⟨p, cap, rfl⟩ : ∃ p cap, v = .slice p 0 cap := by
      rcases hI.2 with ⟨rfl, -⟩ | ⟨g, cap, cur, rfl, -⟩
      · exact ⟨_, _, rfl⟩
      · exact ⟨_, _, rfl⟩
    have hx0 : bsum (imm % 4294967296) [] = 0 := rfl
    rw [hx0] at HX
    clear hx0 hd0 hI hpb'
    go_wp2
    refine wp_loop_rounds 1 ?_
    rw [rounds_succ]
    go_wp2
    go_ret2
    exact ⟨E.ret_two' (by rw [HX.out, Int.add_zero]) rfl, by rw [HB.out]; exact hb2⟩
  · obtain ⟨g, cap, rfl, hbg, hgl, hlc, hcm, hcell⟩ := hI.form hne
    have HC := hid hcell
    clear hcell hI
    generalize hS : bsum (imm % 4294967296) l = S at *
    have HS := hid hS
    clear hS hne
    generalize hbase : m + rd * 128 + rs1 * 32768 + rs2 * 1048576 = base at *
    have HBA := hid hbase
    have hbase0 : 0 ≤ base := by omega
    clear hbase a0 a1 b0 b1 d0 d1 hm0
    have hlen : (l.length : Int) ≤ 32 := by omega
    have hlen0 : (0 : Int) ≤ (l.length : Int) := by omega
    obtain ⟨v0, v1⟩ := hv
    go_wp2
    go_loopw [4, 7] (fun u i wr => ∃ k : Nat, k ≤ l.length ∧ i = .int .i64 k ∧ u = .int .u32 (base + (S - bsum (imm % 4294967296) (l.drop k))) ∧ bsum (imm % 4294967296) (l.drop k) ≤ S ∧ ∃ mm : Nat, wr = w5.drewN mm) (fun _ i _ => l.length - (intOf i).toNat)
    case atStart => exact ⟨0, by omega, rfl, by rw [List.drop_zero, HS.out]; go_num, by rw [List.drop_zero, HS.out]; omega, 0, rfl⟩
    case round =>
      obtain ⟨k, hk, rfl, rfl, hT, mm, rfl⟩ := hrel
      by_cases hs : k < l.length
      · have hc := HC.out k hs
        have hTT := hd0.out k hs
        have hq31 : l.getD k 0 ≤ 31 := hpb'.out _ (by simp [List.getD, hs])
        have hb0 := bsum_nonneg (imm % 4294967296) (l.drop (k + 1))
        have hlt : (k : Int) < (l.length : Int) := by omega
        have hBit : ∀ w, Calls Tryd.prog 24 #[.int .u32 (imm % 4294967296), .int .i64 ((l.length : Int) - 1 - k)] w fun e w' => e = .returned (.int .u32 (imm % 4294967296 / 2 ^ (l.length - 1 - k) % 2)) ∧ w = w' := fun w => by
          have h := R1.Bit (imm % 4294967296) ((l.length : Int) - 1 - k) w v0 v1
          rw [show ((l.length : Int) - 1 - (k : Int)).toNat = l.length - 1 - k by omega] at h
          exact h
        have HBit := hid hBit
        clear hBit
        generalize hT1 : bsum (imm % 4294967296) (l.drop (k + 1)) = T1 at *
        generalize hT0 : bsum (imm % 4294967296) (l.drop k) = T0 at *
        have HT1 := hid hT1
        have HT0 := hid hT0
        clear hT1 hT0
        generalize l.getD k 0 = q at *
        have hbb : 0 ≤ imm % 4294967296 / 2 ^ (l.length - 1 - k) % 2 ∧ imm % 4294967296 / 2 ^ (l.length - 1 - k) % 2 ≤ 1 := by omega
        generalize imm % 4294967296 / 2 ^ (l.length - 1 - k) % 2 = b at *
        by_cases hq : 0 ≤ q
        · rw [if_pos hq] at hTT
          have hU : ∀ w, Calls Tryd.prog 21 #[.int .i64 q] w fun e w' => e = .returned (.int .u32 (2 ^ q.toNat)) ∧ w = w' := fun w => unit q w hq hq31
          have hp0 := p2pos q.toNat
          generalize (2 : Int) ^ q.toNat = p2 at *
          have HU := hid hU
          have hbp : 0 ≤ b * p2 := Int.mul_nonneg hbb.1 (Int.le_of_lt hp0)
          have y1 : IntKind.u32.wrap (b * p2) = b * p2 := by rw [show IntKind.u32.wrap (b * p2) = b * p2 % 4294967296 from rfl]; omega
          have y2 : IntKind.u32.wrap (base + (S - T0) + b * p2) = base + (S - T0) + b * p2 := by rw [show IntKind.u32.wrap (base + (S - T0) + b * p2) = (base + (S - T0) + b * p2) % 4294967296 from rfl]; omega
          have y3 : IntKind.u32.wrap imm = imm % 4294967296 := rfl
          have y4 : IntKind.i64.wrap ((l.length : Int) - 1) = (l.length : Int) - 1 := by rw [IntWalk.i64_in _ (by omega)]
          have y5 : IntKind.i64.wrap ((l.length : Int) - 1 - k) = (l.length : Int) - 1 - k := by rw [IntWalk.i64_in _ (by omega)]
          have hT1S : T1 ≤ S := by omega
          have he : base + (S - T0) + b * p2 = base + (S - T1) := by omega
          have HE := hid he
          have hge : decide (0 ≤ q) = true := by simpa using hq
          clear hU hp0 hbb hbp he hTT
          go_wp2
          go_quiet ((first | (go_at_call 24; first | (with_reducible exact quiet_same (HBit.out _)) | (with_reducible exact quiet_same_more (HBit.out _))) | (go_at_call 21; first | (with_reducible exact quiet_same (HU.out _)) | (with_reducible exact quiet_same_more (HU.out _)))))
          go_wp2
          go_roundw
          case rel => exact ⟨k + 1, by omega, by go_num, by rw [HT1.out, HE.out], by rw [HT1.out]; exact hT1S, _, rfl⟩
          case measure => simp [intOf]; omega
        · rw [if_neg hq] at hTT
          have hT1S : T1 ≤ S := by omega
          have he : base + (S - T0) = base + (S - T1) := by omega
          have HE := hid he
          clear hTT he
          go_wp2
          go_roundw
          case rel => exact ⟨k + 1, by omega, by go_num, by rw [HT1.out, HE.out], by rw [HT1.out]; exact hT1S, _, rfl⟩
          case measure => simp [intOf]; omega
      · obtain rfl : k = l.length := by omega
        have hlt : ¬ ((l.length : Int) < (l.length : Int)) := by omega
        have hT0 : bsum (imm % 4294967296) (l.drop l.length) = 0 := by rw [List.drop_length]; rfl
        rw [hT0]
        have he : base + (S - 0) = x := by rw [HX.out]; omega
        have HE := hid he
        clear he hT0 hT
        go_wp2
        go_ret2
        exact ⟨E.ret_two' (by have := HE.out; omega) rfl, by rw [HB.out]; exact below_drewN hb2 _⟩
end Go.Proofs.YtabdfbghhkpoeaaDoor.R8
