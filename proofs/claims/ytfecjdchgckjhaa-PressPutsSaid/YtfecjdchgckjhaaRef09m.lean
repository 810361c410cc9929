/- What typecaseref09.Put computes. -/
import Derived.Test.YtfecjdchgckjhaaRef09h
import Derived.Test.YtfecjdchgckjhaaRef09i
import Derived.Test.YtfecjdchgckjhaaRef09j
import Derived.Lib.QuietBelow
import Derived.Deep.Cut
import Derived.Deep.DeepCutAuto
import Derived.IntWalk
namespace Go.Proofs.Ytfecjdchgckjhaa.R9
set_option linter.unusedVariables false
set_option linter.unusedSimpArgs false
open Go.ChangeShapes Go.WideShapes Go.ChangeAt Go.RowKit Go.Proofs.Ytfecjdchgckjhaa.P Go.Proofs.Ytfecjdchgckjhaa.W Go.Proofs.Ytfecjdchgckjhaa.F

theorem Put_not (name : ByteArray) (op rd rs1 rs2 imm : Int) (w : World) (hF : ∀ w, Calls Try.prog 11 #[.string name, .agg #[.int .i64 op, .int .i64 rd, .int .i64 rs1, .int .i64 rs2, .int .i32 imm]] w fun e w' => e = .returned (.bool false) ∧ Below w.heap.size w w') :
    Calls Try.prog 10 #[.string name, .agg #[.int .i64 op, .int .i64 rd, .int .i64 rs1, .int .i64 rs2, .int .i32 imm]] w fun e w' => e = .returned (.tuple #[.int .u16 0, .bool false]) ∧ Below w.heap.size w w' := by
  have HF := hid hF
  clear hF
  go_enter Try.func10, Try.ntmps10
  go_wp2_with fail
  refine (HF.out _).mono ?_
  rintro e w2 ⟨rfl, hb1⟩
  have hb0 : Below w.heap.size w w2 := bel_step (w := w) (by repeat' (first | (with_reducible exact Below.refl _ _) | (with_reducible assumption) | (with_reducible refine below_drewN ?_ _) | (with_reducible refine Below.alloc ?_ ?_ _) | (with_reducible refine Below.drew ?_) | (with_reducible refine Below.setCell ?_ ?_ _) | (with_reducible exact Below.size (by assumption)) | go_size)) hb1
  clear hb1
  go_wp2
  go_ret2
  exact ⟨rfl, hb0⟩
theorem places_bd : ∀ k, k < 27 → (∀ i ∈ placesK k, 0 ≤ i ∧ i ≤ 12) ∧ (placesK k).length ≤ 11 ∧ 1 ≤ unitK k ∧ unitK k ≤ 4096 ∧ 0 ≤ frameK k ∧ frameK k < 65536 := by decide
theorem regs_bd (k : Nat) {rd rs1 rs2 : Int} (a : 0 ≤ rd ∧ rd < 32) (b : 0 ≤ rs1 ∧ rs1 < 32) (d : 0 ≤ rs2 ∧ rs2 < 32) : -8192 ≤ regsK k rd rs1 rs2 ∧ regsK k rd rs1 rs2 ≤ 8192 := by
  unfold regsK
  repeat' split
  all_goals omega
theorem two_pow_bd {l : Nat} (h : l ≤ 12) : 1 ≤ (2 : Int) ^ l ∧ (2 : Int) ^ l ≤ 4096 := by
  have h1 : (2 : Int) ^ l ≤ 2 ^ 12 := p2le h
  have h2 := p2pos l
  have h3 : (2 : Int) ^ 12 = 4096 := by decide
  omega
theorem bit_bd (v : Int) {l : Nat} (h : l ≤ 12) : 0 ≤ v % 2 * 2 ^ l ∧ v % 2 * 2 ^ l ≤ 4096 := by
  obtain ⟨h1, h2⟩ := two_pow_bd h
  have hb : v % 2 = 0 ∨ v % 2 = 1 := by omega
  rcases hb with e | e <;> rw [e] <;> omega
theorem bit_step (v : Int) (l : Nat) : 2 * (v % 2 * 2 ^ l) = v % 2 * 2 ^ (l + 1) := by rw [p2succ, Int.mul_left_comm]
theorem drop_rev {l : List Int} {j : Nat} (hj : j < l.length) : l.reverse.drop j = l.getD (l.length - 1 - j) 0 :: l.reverse.drop (j + 1) := by
  have hj2 : j < l.reverse.length := by simpa using hj
  rw [List.drop_eq_getElem_cons hj2]
  congr 1
  rw [List.getElem_reverse]
  simp [List.getD, show l.length - 1 - j < l.length by omega]
set_option maxHeartbeats 4000000 in
theorem Put_yes (n : Nat) (op rd rs1 rs2 imm : Int) (w : World) (hn : n < 27) (hf : fitR (prAt n) op rd rs1 rs2 imm = true) (hF : ∀ w, Calls Try.prog 11 #[.string (prAt n).nm, .agg #[.int .i64 op, .int .i64 rd, .int .i64 rs1, .int .i64 rs2, .int .i32 imm]] w fun e w' => e = .returned (.bool true) ∧ Below w.heap.size w w') (i0 : -2147483648 ≤ imm) (i1 : imm < 2147483648) (h0 : 0 ≤ refR n rd rs1 rs2 imm) (h1 : refR n rd rs1 rs2 imm < 65536) :
    Calls Try.prog 10 #[.string (prAt n).nm, .agg #[.int .i64 op, .int .i64 rd, .int .i64 rs1, .int .i64 rs2, .int .i32 imm]] w fun e w' => e = .returned (.tuple #[.int .u16 (refR n rd rs1 rs2 imm), .bool true]) ∧ Below w.heap.size w w' := by
  have HF := hid hF
  obtain ⟨ga, gb, gd⟩ := may_regs (fit_may hf).1
  have HFR := hid (fun w => frame n w hn)
  have HRG := hid (fun w => regs n op rd rs1 rs2 imm w hn ga gb gd)
  have HPL := hid (fun w => places n w hn)
  obtain ⟨pl1, pl2, u0, u1, f0, f1⟩ := places_bd n hn
  have hrb := regs_bd n ga gb gd
  have HR : Hid (refR n rd rs1 rs2 imm = refB ((imm + 4294967296) / unitK n) (frameK n + regsK n rd rs1 rs2) (placesK n).reverse) := hid rfl
  have PL1 := hid pl1
  clear hF hf ga gb gd pl1
  generalize refR n rd rs1 rs2 imm = R at *
  generalize frameK n = fk at *
  generalize regsK n rd rs1 rs2 = rk at *
  generalize placesK n = pk at *
  generalize unitK n = un at *
  generalize (prAt n).nm = nm at *
  go_enter Try.func10, Try.ntmps10
  go_wp2_with fail
  have z0 := Inst.new w 23 (.int .i64 op) (.int .i64 rd) (.int .i64 rs1) (.int .i64 rs2) (.int .i32 imm)
  have hb0 := below_alloc w (.cells #[.int .i64 op, .int .i64 rd, .int .i64 rs1, .int .i64 rs2, .int .i32 imm] 23)
  generalize w.alloc (.cells #[.int .i64 op, .int .i64 rd, .int .i64 rs1, .int .i64 rs2, .int .i32 imm] 23) = w1 at *
  refine (HF.out _).mono ?_
  rintro e w2 ⟨rfl, hb1⟩
  replace z0 := z0.below hb1 z0.lt
  replace hb0 := bel_step hb0 hb1
  clear hb1 HF w1
  have hfr : IntKind.i64.wrap (fk + rk) = fk + rk := IntWalk.i64_in _ (by omega)
  go_upto_region 3 with (fail)
  obtain ⟨zl, c0, c1, c2, c3, c4⟩ := id z0
  have Z0 := hid z0
  clear z0
  have k0 := cell_regrown c0
  have k1 := cell_regrown c1
  have k2 := cell_regrown c2
  have k3 := cell_regrown c3
  have k4 := cell_regrown c4
  have cA := fun d os => Calls.regrown_of (d := d) (os := os) (w := w2) (HFR.out _)
  have cB := fun d os => Calls.regrown_of (d := d) (os := os) (w := w2) (HRG.out _)
  clear c0 c1 c2 c3 c4
  refine wp_region_quiet_below (by kernel_rfl) (by kernel_rfl) ?_
  repeat (quiet_step (first | exact cA _ _ | exact cB _ _))
  refine wpQuiet_nil ?_
  intro _ hw'
  obtain ⟨⟨dq, osq⟩, hw''⟩ := hw'
  subst hw''
  replace Z0 := hid (Z0.out.below (below_regrown w2 dq osq) Z0.out.lt)
  replace hb0 := bel_step hb0 (below_regrown w2 dq osq)
  clear zl
  generalize Go.Sort.grow (redrawn w2 dq) osq = w3 at *
  clear cA cB k0 k1 k2 k3 k4 hfr HFR HRG
  go_wp2_with fail
  refine (HPL.out _).mono ?_
  rintro e w4 ⟨v, rfl, hlit, hb1⟩
  replace Z0 := hid (Z0.out.below hb1 Z0.out.lt)
  replace hb0 := bel_step hb0 hb1
  clear hb1 HPL
  obtain ⟨zl, c0, c1, c2, c3, c4⟩ := Z0.out
  have hv : ∃ (ao : Option Addr), v = .slice ao pk.length pk.length ∧ ∀ k, k < pk.length → ∃ b, ao = some ⟨b, 0, none⟩ ∧ w4.cell? ⟨b, k, none⟩ = some (.int .i64 (pk.getD k 0)) := by
    rcases hlit with ⟨h1, h2⟩ | ⟨b, h1, h2, h3⟩
    · subst h2; exact ⟨none, h1, fun k hk => by simp at hk⟩
    · exact ⟨some ⟨b, 0, none⟩, h1, fun k hk => ⟨b, rfl, h3 k hk⟩⟩
  obtain ⟨ao, rfl, hel⟩ := hv
  have HEL := hid hel
  clear hlit hel Z0
  have hq : (imm + 4294967296) / un ≤ 8589934592 := Int.le_trans (Int.ediv_le_self _ (by omega)) (by omega)
  have hq0 : 0 ≤ (imm + 4294967296) / un := Int.ediv_nonneg (by omega) (by omega)
  have hun : (un == 0) = false := beq_eq_false_iff_ne.2 (by omega)
  have hdv : ∀ x : Int, 0 ≤ x → x.tdiv un = x / un := fun x hx => Int.tdiv_eq_ediv_of_nonneg hx
  have hdv2 : (imm + 4294967296).tdiv un = (imm + 4294967296) / un := hdv _ (by omega)
  have HQ := hid hdv2
  generalize hqq : (imm + 4294967296) / un = qq at *
  have HQQ := hid hqq
  clear hqq hdv HQ
  go_wp2_with fail
  go_loop [6, 9, 10] (fun h v k => ∃ (hh vv : Int) (j : Nat), h = .int .i64 hh ∧ v = .int .i64 vv ∧ k = .int .i64 ((pk.length : Int) - 1 - j) ∧ j ≤ pk.length ∧ refB vv hh (pk.reverse.drop j) = R ∧ 0 ≤ vv ∧ vv ≤ 8589934592 ∧ -8192 ≤ hh ∧ hh ≤ 73728 + 4096 * j) (fun h v k => (intOf k + 1).toNat)
  case atStart => exact ⟨fk + rk, qq, 0, rfl, by first | rfl | go_num, by first | rfl | simp, by omega, by rw [HR.out]; rfl, hq0, hq, by omega, by omega⟩
  case round =>
    obtain ⟨hh, vv, j, rfl, rfl, rfl, hj, hR, v0, v1, b0, b1⟩ := hrel
    by_cases hj2 : j < pk.length
    · obtain ⟨m, hm⟩ : ∃ m : Nat, (pk.length : Int) - 1 - j = (m : Int) := ⟨pk.length - 1 - j, by omega⟩
      have hml : m < pk.length := by omega
      have hm2 : pk.length - 1 - j = m := by omega
      rw [drop_rev hj2, hm2] at hR
      obtain ⟨b, rfl, hc⟩ := HEL.out m hml
      have hl := PL1.out (pk.getD m 0) (by simp [List.getD, hml])
      generalize pk.getD m 0 = l at *
      have HRR := hid (show refB (vv / 2) (hh + vv % 2 * 2 ^ l.toNat) (pk.reverse.drop (j + 1)) = R from hR)
      have hpw := two_pow_bd (l := l.toNat) (by omega)
      clear hR
      rw [hm]
      have hmr : vv.tmod 2 = vv % 2 := Int.tmod_eq_emod_of_nonneg v0
      have hmd : vv.tdiv 2 = vv / 2 := Int.tdiv_eq_ediv_of_nonneg v0
      go_wp2_with fail
      go_loop [11, 12] (fun x i => ∃ q : Nat, (q : Int) ≤ l ∧ i = .int .i64 q ∧ x = .int .i64 (vv % 2 * 2 ^ q)) (fun x i => (l - intOf i).toNat)
      case atStart => exact ⟨0, by omega, rfl, by first | (go_num; done) | simp⟩
      case round =>
        obtain ⟨q, hq1, rfl, rfl⟩ := hrel
        have hbb := bit_bd vv (l := q) (by omega)
        have hst := hid (bit_step vv q)
        by_cases hq2 : (q : Int) < l
        · generalize hx : vv % 2 * 2 ^ q = x at *
          clear hx
          go_wp2_with fail
          go_round
          case rel => exact ⟨q + 1, by omega, by go_num, by rw [← hst.out]⟩
          case measure => simp [intOf]; omega
        · have hql : l.toNat = q := by omega
          rw [hql] at HRR
          generalize hx : vv % 2 * 2 ^ q = x at *
          clear hx hst
          have hsum : IntKind.i64.wrap (hh + x) = hh + x := IntWalk.i64_in _ (by omega)
          go_wp2_with fail
          go_round
          case rel => exact ⟨hh + x, vv / 2, j + 1, rfl, rfl, by first | (go_num; omega) | (congr 1; omega), by omega, HRR.out, by omega, by omega, by omega, by omega⟩
          case measure => (first | (simp [intOf]; omega) | (simp [intOf]; done) | (unfold intOf; omega))
    · obtain rfl : j = pk.length := by omega
      have e : pk.reverse.drop pk.length = [] := by simp
      rw [e] at hR
      have hR2 : hh = R := hR
      subst hR2
      have hw : IntKind.u16.wrap hh = hh := by unfold IntKind.wrap; simp [IntKind.signed, IntKind.bits]; omega
      go_wp2_with fail
      go_ret2
      exact ⟨by first | rfl | (simp [hw]; done), hb0⟩
end Go.Proofs.Ytfecjdchgckjhaa.R9
