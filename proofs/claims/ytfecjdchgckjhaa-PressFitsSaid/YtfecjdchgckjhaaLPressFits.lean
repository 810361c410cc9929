/- For every name and every instruction: it fits a short of that name just if the document says so, and the first one that it fits is the document's. -/
import Derived.Test.YtfecjdchgckjhaaRows
import Derived.WalkKit
import Derived.ProofKit
import Derived.OpenShut
import Derived.ShutString
import Derived.ChangeOld
import Derived.Below
import Derived.Test.YtfecjdchgckjhaaAwake09
import Derived.Test.YtfecjdchgckjhaaInsArg
import Derived.Test.YtfecjdchgckjhaaPress8
import Derived.Test.YtfecjdchgckjhaaRef09s
import Derived.Deep.RegionHeld3
namespace Go.Proofs.Ytfecjdchgckjhaa.pressFits
open Go.ChangeShapes Go.WideShapes Go.ChangeAt Go.RowKit
open Go.ChangeMaps (open_string shut_string)
set_option linter.unusedVariables false

open Go.Proofs.Ytfecjdchgckjhaa.P Go.Proofs.Ytfecjdchgckjhaa.W Go.Proofs.Ytfecjdchgckjhaa.F

theorem first_cases (op rd rs1 rs2 imm : Int) : (∃ k, k < 27 ∧ fitR (prAt k) op rd rs1 rs2 imm = true ∧ ∀ j, j < k → fitR (prAt j) op rd rs1 rs2 imm = false) ∨ (∀ k, k < 27 → fitR (prAt k) op rd rs1 rs2 imm = false) := by
  have h : ∀ n, n ≤ 27 → (∃ k, k < n ∧ fitR (prAt k) op rd rs1 rs2 imm = true ∧ ∀ j, j < k → fitR (prAt j) op rd rs1 rs2 imm = false) ∨ (∀ k, k < n → fitR (prAt k) op rd rs1 rs2 imm = false) := by
    intro n
    induction n with
    | zero => intro _; exact .inr fun k hk => by omega
    | succ n ih =>
      intro hn
      rcases ih (by omega) with ⟨k, hk, h1, h2⟩ | h
      · exact .inl ⟨k, by omega, h1, h2⟩
      · cases hf : fitR (prAt n) op rd rs1 rs2 imm with
        | true => exact .inl ⟨n, by omega, hf, h⟩
        | false =>
          refine .inr fun k hk => ?_
          by_cases e : k = n
          · rw [e]; exact hf
          · exact h k (by omega)
  exact h 27 (Nat.le_refl _)
theorem fits_any (name : ByteArray) (op rd rs1 rs2 imm : Int) (o0 : -9223372036854775808 ≤ op) (o1 : op < 9223372036854775808) (i0 : -2147483648 ≤ imm) (i1 : imm < 2147483648) :
    ∃ v, (∀ w, Calls Try.prog 17 #[.string name, .agg #[.int .i64 op, .int .i64 rd, .int .i64 rs1, .int .i64 rs2, .int .i32 imm]] w fun e w' => e = .returned (.bool v) ∧ Below w.heap.size w w') ∧ (∀ w, Calls Try.prog 11 #[.string name, .agg #[.int .i64 op, .int .i64 rd, .int .i64 rs1, .int .i64 rs2, .int .i32 imm]] w fun e w' => e = .returned (.bool v) ∧ Below w.heap.size w w') := by
  rcases A9.name_cases name with ⟨k, hk, rfl, hy, hl⟩ | hl
  · exact ⟨_, fun w => Fits_yes _ k op rd rs1 rs2 imm w hk hl hy i0 i1, fun w => R9.Fits_at k op rd rs1 rs2 imm w hk o0 o1 i0 i1⟩
  · exact ⟨false, fun w => Fits_no name op rd rs1 rs2 imm w hl, fun w => R9.Fits_other name op rd rs1 rs2 imm w hl o0 o1 i0 i1⟩
theorem short_any (op rd rs1 rs2 imm : Int) (o0 : -9223372036854775808 ≤ op) (o1 : op < 9223372036854775808) (i0 : -2147483648 ≤ imm) (i1 : imm < 2147483648) :
    ∃ s, (∀ w, Calls Try.prog 18 #[.agg #[.int .i64 op, .int .i64 rd, .int .i64 rs1, .int .i64 rs2, .int .i32 imm]] w fun e w' => e = .returned (.string s) ∧ Below w.heap.size w w') ∧ (∀ w, Calls Try.prog 19 #[.agg #[.int .i64 op, .int .i64 rd, .int .i64 rs1, .int .i64 rs2, .int .i32 imm]] w fun e w' => e = .returned (.string s) ∧ Below w.heap.size w w') := by
  rcases first_cases op rd rs1 rs2 imm with ⟨k, hk, hf, hl⟩ | hl
  · refine ⟨(prAt k).nm, fun w => Short_yes k op rd rs1 rs2 imm w hk hl hf i0 i1, fun w => ?_⟩
    have := R9.Short k op rd rs1 rs2 imm w (by omega) hl (fun _ => hf) o0 o1 i0 i1
    rwa [if_pos hk] at this
  · refine ⟨⟨#[]⟩, fun w => Short_no op rd rs1 rs2 imm w hl i0 i1, fun w => ?_⟩
    have := R9.Short 27 op rd rs1 rs2 imm w (by omega) hl (fun h => by omega) o0 o1 i0 i1
    rwa [if_neg (by omega)] at this
open Go.Proofs.Ytfecjdchgckjhaa.W in
set_option maxHeartbeats 2000000 in
theorem main (name : ByteArray) (hsz : name.size ≤ maxLen) (op rd rs1 rs2 imm : Int) (hb : InsB op rd rs1 rs2 imm) (w : World) :
    Calls Try.prog 6 #[.string name, .agg #[.int .i64 op, .int .i64 rd, .int .i64 rs1, .int .i64 rs2, .int .i32 imm]] w fun e w' => e = .returned (.bool true) ∧ Below w.heap.size w w' := by
  obtain ⟨⟨o0, o1⟩, -, -, -, i0, i1⟩ := hb
  obtain ⟨v, hv1, hv2⟩ := fits_any name op rd rs1 rs2 imm o0 o1 i0 i1
  obtain ⟨s, hs1, hs2⟩ := short_any op rd rs1 rs2 imm o0 o1 i0 i1
  have HF := hid (fun k (hk : k < 27) w => Fits_yes (prAt k).nm k op rd rs1 rs2 imm w hk (fun j hj => A9.names_unlike hk hj) (beq_self_eq_true _) i0 i1)
  have HG := hid (fun k (hk : k < 27) w => R9.Fits_at k op rd rs1 rs2 imm w hk o0 o1 i0 i1)
  have HV := hid hv1
  have HW := hid hv2
  have HS := hid hs1
  have HT := hid hs2
  clear hv1 hv2 hs1 hs2 o0 o1 i0 i1
  unfold maxLen at hsz
  go_enter Try.func6, Try.ntmps6
  go_wp2_with fail
  have z0 := Inst.new w 23 (.int .i64 op) (.int .i64 rd) (.int .i64 rs1) (.int .i64 rs2) (.int .i32 imm)
  have hb0 := below_alloc w (.cells #[.int .i64 op, .int .i64 rd, .int .i64 rs1, .int .i64 rs2, .int .i32 imm] 23)
  generalize w.alloc (.cells #[.int .i64 op, .int .i64 rd, .int .i64 rs1, .int .i64 rs2, .int .i32 imm] 23) = w1 at *
  refine (A9.awake _).mono ?_
  rintro e w2 ⟨rfl, hb1⟩
  replace z0 := z0.below hb1 z0.lt
  replace hb0 := bel_step hb0 hb1
  clear hb1
  by_cases hl1 : 50 < name.size
  · go_wp2
    go_ret
    exact ⟨rfl, hb0⟩
  have Z0 := hid z0
  clear z0
  go_wp2_with fail
  refine (Names _).mono ?_
  rintro e w3 ⟨b, c, rfl, hb1, hbl, hcl⟩
  replace Z0 := hid (Z0.out.below hb1 Z0.out.lt)
  replace hb0 := bel_step hb0 hb1
  have HC := hid hcl
  clear hb1 hcl
  go_wp2_with fail
  refine (R9.Names _).mono ?_
  rintro e w4 ⟨d, rfl, hb1, hR⟩
  replace Z0 := hid (Z0.out.below hb1 Z0.out.lt)
  replace HC := hid (fun k (hk : k < 27) => (hb1.cell (p := ⟨b, k, none⟩) hbl).trans (HC.out k hk))
  replace hbl := Nat.lt_of_lt_of_le hbl hb1.size
  replace hb0 := bel_step hb0 hb1
  have HD := hid hR
  clear hb1 hR
  go_wp2
  go_loopw [7] (fun i wr => ∃ k : Nat, k ≤ 27 ∧ i = .int .i64 k ∧ Below w4.heap.size w4 wr) (fun i _ => 27 - (intOf i).toNat)
  case atStart => exact ⟨0, by omega, rfl, Below.refl _ _⟩
  case round =>
    obtain ⟨k, hk, rfl, hbel⟩ := hrel
    have hbw : Below w.heap.size w wr := bel_step hb0 hbel
    have hsw4 := hbel.size
    obtain ⟨zl, c0, c1, c2, c3, c4⟩ := Z0.out.below hbel Z0.out.lt
    by_cases hk27 : k < 27
    · have hlt : (k : Int) < 27 := by omega
      have hge : decide ((27 : Int) ≤ (k : Int)) = false := by simpa using hlt
      have hst := HD.out.below hbel HD.out.1
      have hcd := hst.2 k (by show k < R9.names9.length; rw [show R9.names9.length = 27 from rfl]; exact hk27)
      rw [R9.names9_at k hk27] at hcd
      have hcb := (hbel.cell (p := ⟨b, k, none⟩) hbl).trans (HC.out k hk27)
      have hdl := hst.1
      have hbl2 := Nat.lt_of_lt_of_le hbl hsw4
      have H1 := hid (HF.out k hk27)
      have H2 := hid (HG.out k hk27)
      clear hst
      generalize fitR (prAt k) op rd rs1 rs2 imm = f at *
      generalize (prAt k).nm = nm at *
      have hnn : (nm.toList != nm.toList) = false := by simp
      have hn2 : (nm.toList == nm.toList) = true := beq_self_eq_true _
      have hff : (f != f) = false := by simp
      go_wp2
      go_region_held3 (fun W => w.heap.size < W.heap.size ∧ b < W.heap.size ∧ d < W.heap.size ∧ W.cell? ⟨b, k, none⟩ = some (.string nm) ∧ W.cell? ⟨d, k, none⟩ = some (.string nm) ∧ W.cell? ⟨w.heap.size, 0, none⟩ = some (.int .i64 op) ∧ W.cell? ⟨w.heap.size, 1, none⟩ = some (.int .i64 rd) ∧ W.cell? ⟨w.heap.size, 2, none⟩ = some (.int .i64 rs1) ∧ W.cell? ⟨w.heap.size, 3, none⟩ = some (.int .i64 rs2) ∧ W.cell? ⟨w.heap.size, 4, none⟩ = some (.int .i32 imm)) (((repeat' (refine And.intro ?_ ?_)) <;> (first | omega | (go_simp; done) | (refine cell_is ?_; go_simp; done) | (rw [hcel _ _ (by first | omega | (simp; omega))]; go_simp; done) | (rw [hfro _ _ (by first | omega | (simp; omega))]; go_simp; done) | (simp [*]; done)))) (((first | (go_at_call 17; (with_reducible refine (H1.out _).mono ?_)) | (go_at_call 11; (with_reducible refine (H2.out _).mono ?_))); rintro e w' ⟨rfl, hbel2⟩; (try (with_reducible replace hbel2 := bel_undrew hbel2)); (try (with_reducible replace hbel2 := bel_undrewN hbel2)); have hbr2 : Below wr.heap.size wr w' := bel_step (w := wr) (by repeat' (first | (with_reducible exact Below.refl _ _) | (with_reducible assumption) | (with_reducible refine below_drewN ?_ _) | (with_reducible refine Below.alloc ?_ ?_ _) | (with_reducible refine Below.drew ?_) | (with_reducible refine Below.setCell ?_ ?_ _) | (with_reducible exact Below.size (by assumption)) | go_size)) hbel2; have hsw := hbr2.size; have d0 := (hbr2.cell (p := ⟨b, k, none⟩) hbl2).trans hcb; have d1 := (hbr2.cell (p := ⟨d, k, none⟩) hdl).trans hcd; obtain ⟨hcel, hfro⟩ := bcell hbr2; clear hbel2))
      all_goals
        have hbw3 : Below w4.heap.size w4 w' := bel_step hbel hbr2
        go_wp2
        go_roundw
        case rel => exact ⟨k + 1, by omega, by go_num, hbw3⟩
        case measure => simp [intOf]; omega
    · obtain rfl : k = 27 := by omega
      have hge : decide ((27 : Int) ≤ 27) = true := by decide
      have hvv : (v == v) = true := by simp
      have hss : (s.toList == s.toList) = true := beq_self_eq_true _
      clear HF HG HC HD
      go_wp2
      go_region_held3 (fun W => w.heap.size < W.heap.size ∧ W.cell? ⟨w.heap.size, 0, none⟩ = some (.int .i64 op) ∧ W.cell? ⟨w.heap.size, 1, none⟩ = some (.int .i64 rd) ∧ W.cell? ⟨w.heap.size, 2, none⟩ = some (.int .i64 rs1) ∧ W.cell? ⟨w.heap.size, 3, none⟩ = some (.int .i64 rs2) ∧ W.cell? ⟨w.heap.size, 4, none⟩ = some (.int .i32 imm)) (((repeat' (refine And.intro ?_ ?_)) <;> (first | omega | (go_simp; done) | (refine cell_is ?_; go_simp; done) | (rw [hcel _ _ (by first | omega | (simp; omega))]; go_simp; done) | (rw [hfro _ _ (by first | omega | (simp; omega))]; go_simp; done) | (simp [*]; done)))) (((first | (go_at_call 17; (with_reducible refine (HV.out _).mono ?_)) | (go_at_call 11; (with_reducible refine (HW.out _).mono ?_)) | (go_at_call 18; (with_reducible refine (HS.out _).mono ?_)) | (go_at_call 19; (with_reducible refine (HT.out _).mono ?_))); rintro e w' ⟨rfl, hbel2⟩; (try (with_reducible replace hbel2 := bel_undrew hbel2)); (try (with_reducible replace hbel2 := bel_undrewN hbel2)); have hbr2 : Below wr.heap.size wr w' := bel_step (w := wr) (by repeat' (first | (with_reducible exact Below.refl _ _) | (with_reducible assumption) | (with_reducible refine below_drewN ?_ _) | (with_reducible refine Below.alloc ?_ ?_ _) | (with_reducible refine Below.drew ?_) | (with_reducible refine Below.setCell ?_ ?_ _) | (with_reducible exact Below.size (by assumption)) | go_size)) hbel2; have hsw := hbr2.size; obtain ⟨hcel, hfro⟩ := bcell hbr2; clear hbel2))
      all_goals
        have hw3 : Below w.heap.size w w' := bel_step hbw hbr2
        go_wp2
        go_ret
        exact ⟨rfl, hw3⟩

theorem own : ownKnob Try.prog.godebug = none := by kernel_rfl
theorem laidOut : laidOutB Try.prog = true := by kernel_rfl

set_option maxRecDepth 100000 in
theorem lifted (os : Os) (started : os.Started) (H : Type) (enc : TypeId × Value → H) :
    ReturnsInHanded {} Try.checked os 6 .any (Rows.pressFitsSpec.pre6 enc Try.prog Try.f6 Rows.pressFitsRow.domain false) (Rows.pressFitsSpec.post enc Try.prog Try.f6 false true false false) := by
  refine returnsInHanded_of_change (C := Try.checked) own started (by kernel_rfl) Try.func6
    (ChangeSpec.witness6 (enc := enc) (C := Try.checked) false ⟨#[], #[.string ByteArray.empty, .agg #[.int .i64 0, .int .i64 0, .int .i64 0, .int .i64 0, .int .i32 0]], []⟩ 8 (by kernel_rfl) (by kernel_rfl) (by kernel_rfl) (by kernel_rfl)) ?_
  intro W base args ds gs before hval0 hW hcnd _
  have hval : ∀ (j : Nat) t v, Try.f6.params[j]? = some t → args[j]? = some v → Value.okWide Try.prog W .any base t v := hval0
  have hW' := hW
  obtain ⟨p, q, hA0, hV, rfl, hfz, hnd⟩ := hW
  have hA : DataW.TrodAll enc Try.prog W 0 (fun _ => true) true Try.f6.params.toList args.toList ds p := hA0
  rw [Try.params6] at hA hval
  obtain ⟨v0, vs0, d0, ds0, p0, q0, hargs, rfl, rfl, h0, r0⟩ := trodAll_cons hA
  obtain ⟨v1, vs1, d1, ds1, p1, q1, rfl, rfl, rfl, h1, r1⟩ := trodAll_cons r0
  obtain ⟨rfl, rfl, rfl⟩ := trodAll_nil r1
  obtain rfl : args = #[v0, v1] := by cases args; simp_all
  obtain ⟨rfl, rfl⟩ := trodVars_none hV
  have k0 := h0
  have lt0 : ∀ x ∈ p0, x.block < W.heap.size := by obtain ⟨m, hm⟩ := k0; exact DataW.trod_lt m _ _ _ hm
  obtain ⟨a0, rfl, rfl, rfl, w0⟩ := open_string Try.underlying9 (hval 0 9 v0 rfl rfl) h0
  have k1 := h1
  have lt1 : ∀ x ∈ p1, x.block < W.heap.size := by obtain ⟨m, hm⟩ := k1; exact DataW.trod_lt m _ _ _ hm
  obtain ⟨a1o, a1d, a1s, a1t, a1m, rfl, w1⟩ := Go.Proofs.Ytfecjdchgckjhaa.W.open_ins (hval 1 23 v1 rfl rfl) h1
  clear hA0 hval0
  simp only [List.append_nil] at hW'
  refine (main a0 w0 a1o a1d a1s a1t a1m w1 W).mono fun e W' ⟨he, bel⟩ => ?_
  subst he
  exact ⟨_, rfl, _, _, _, [], _, [], hW', trodAll_mk1 (shut_bool Try.underlying4 _), (trodAll_cons_mk (shut_string Try.underlying9 w0) (trodAll_cons_mk (Below.trod laidOut (by kernel_rfl) (of_decide_eq_true (by kernel_rfl)) k1 bel lt1) trodAll_mk0)), rfl, by simpa using bel.frame _, fun h => by cases h⟩

theorem over : Rows.pressFitsRow.holds Try.pinned (OpenSpec.ofChange Rows.pressFitsSpec) :=
  OpenClaim.holds_of_wide 6 Try.f6 rfl rfl rfl rfl rfl rfl rfl ⟨rfl, rfl, rfl, rfl, rfl⟩ rfl rfl rfl rfl rfl (by kernel_rfl) Try.func6 (by kernel_rfl)
    (of_decide_eq_true (by kernel_rfl)) (by unfold Func.isWrapper; first | (rw [if_pos (by decide +kernel)]; kernel_rfl) | (rw [if_neg (by decide +kernel)]; exact ⟨rfl, rfl⟩))
    (fun os started H enc _ => lifted os started H enc)

theorem proved : Rows.PressFitsSaid :=
  over
#print axioms proved
end Go.Proofs.Ytfecjdchgckjhaa.pressFits
