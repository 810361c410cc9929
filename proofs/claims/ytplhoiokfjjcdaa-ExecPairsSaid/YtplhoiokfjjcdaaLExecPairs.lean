/- For all words and numbers: an operation with a number does what the one with two registers does, if the second has that number. -/
import Derived.Test.YtplhoiokfjjcdaaRows
import Derived.WalkKit
import Derived.ProofKit
import Derived.OpenShut
import Derived.ShutString
import Derived.ChangeOld
import Derived.Below
import Derived.Test.YtplhoiokfjjcdaaAwake06
namespace Go.Proofs.Ytplhoiokfjjcdaa.execPairs
open Go.ChangeShapes Go.WideShapes Go.ChangeAt Go.RowKit
open Go.ChangeMaps (open_string shut_string)
set_option linter.unusedVariables false

open Go.Proofs.Ytplhoiokfjjcdaa.P Go.Proofs.Ytplhoiokfjjcdaa.W Go.Proofs.Ytplhoiokfjjcdaa.X

theorem val_num (op rd v a : Int) (hf : form op = 6 ∨ form op = 7) (ho : 19 ≤ op ∧ op ≤ 27) (h1 : rg rd) (hv : -2048 ≤ v ∧ v < 2048) (hs : form op = 7 → 0 ≤ v ∧ v < 32) :
    valV op rd 0 0 v a 0 0 4 = alu op a (v % 4294967296) ∧ valOk op rd 0 0 v = true := by
  have hm : mayB op rd 0 0 v = true := by
    rcases hf with h | h
    · exact may_number h h1 rg0 hv.1 hv.2
    · exact may_shift h h1 rg0 (hs h).1 (hs h).2
  unfold valV valOk
  rw [hm, if_neg (by decide), if_neg (by omega), if_neg (by omega), if_neg (by omega), if_neg (by omega)]
  refine ⟨rfl, ?_⟩
  simp [aluOk]; omega
theorem val_reg (op v a : Int) (hf : form op = 8) (ho : 28 ≤ op ∧ op ≤ 37) :
    valV op 1 0 0 0 a v 0 4 = alu op a v ∧ valOk op 1 0 0 0 = true := by
  have hm : mayB op 1 0 0 0 = true := may_register hf rg1 rg0 rg0
  unfold valV valOk
  rw [hm, if_neg (by decide), if_neg (by omega), if_neg (by omega), if_neg (by omega), if_pos hf]
  refine ⟨rfl, ?_⟩
  simp [aluOk]; omega

set_option maxHeartbeats 2000000 in
theorem walk (k o1 o2 which a imm v u rd : Int) (w : World) (hk : (k = 0 ∧ o1 = 19 ∧ o2 = 28) ∨ (k = 1 ∧ o1 = 20 ∧ o2 = 31) ∨ (k = 2 ∧ o1 = 21 ∧ o2 = 32) ∨ (k = 3 ∧ o1 = 22 ∧ o2 = 33) ∨ (k = 4 ∧ o1 = 23 ∧ o2 = 36) ∨ (k = 5 ∧ o1 = 24 ∧ o2 = 37) ∨ (k = 6 ∧ o1 = 25 ∧ o2 = 30) ∨ (k = 7 ∧ o1 = 26 ∧ o2 = 34) ∨ (k = 8 ∧ o1 = 27 ∧ o2 = 35))
    (b0 : 0 ≤ which ∧ which < 256) (b1 : 0 ≤ a ∧ a < 4294967296) (b2 : -2147483648 ≤ imm ∧ imm < 2147483648) (b3 : 0 ≤ rd ∧ rd < 256) (hw : which % 9 = k)
    (hv : v = if 6 ≤ k then imm % 32 else imm.tmod 2048) (hu : u = if 6 ≤ k then imm % 32 else imm.tmod 2048 % 4294967296) (f1 : form o1 = 6 ∨ form o1 = 7) (f2 : form o2 = 8) (f3 : form o1 = 7 → 6 ≤ k) (e : alu o1 a u = alu o2 a u) :
    Calls Try.prog 10 #[.int .u8 which, .int .u32 a, .int .i32 imm, .int .u8 rd] w fun e w' => e = .returned (.bool true) ∧ Below w.heap.size w w' := by
  have r1 : rg (rd % 32) := ⟨by omega, by omega⟩
  have ht : -2048 < imm.tmod 2048 ∧ imm.tmod 2048 < 2048 := by
    have h1 := Int.tmod_lt_of_pos imm (by decide : (0 : Int) < 2048)
    have h2 := Int.lt_tmod_of_pos imm (by decide : (0 : Int) < 2048)
    omega
  have hb : -2048 ≤ v ∧ v < 2048 := by rw [hv]; split <;> omega
  have huv : v % 4294967296 = u := by rw [hv, hu]; split <;> omega
  have hu0 : 0 ≤ u ∧ u < 4294967296 := by omega
  have hs : form o1 = 7 → 0 ≤ v ∧ v < 32 := by intro h; rw [hv, if_pos (f3 h)]; omega
  obtain ⟨x1, x2⟩ := val_num o1 (rd % 32) v a f1 (by omega) r1 hb hs
  obtain ⟨y1, y2⟩ := val_reg o2 u a f2 (by omega)
  have H1 := fun w => X.Value o1 (rd % 32) 0 0 v a 0 0 4 w b1.1 b1.2 (by decide) (by decide)
  have H2 := fun w => X.Value o2 1 0 0 0 a u 0 4 w b1.1 b1.2 hu0.1 hu0.2
  rw [x1, x2, huv, e] at H1
  rw [y1, y2] at H2
  clear x1 x2 y1 y2 e hs f1 f2 f3 r1 huv hu0
  generalize alu o2 a u = r at *
  obtain ⟨m0, m1⟩ := b0
  obtain ⟨n0, n1⟩ := b2
  obtain ⟨l0, l1⟩ := b3
  obtain ⟨t0, t1⟩ := ht
  replace H1 := hid H1
  replace H2 := hid H2
  have hi : 0 ≤ imm % 4294967296 ∧ imm % 4294967296 < 4294967296 := by omega
  obtain ⟨i0, i1⟩ := hi
  rcases hk with ⟨rfl, rfl, rfl⟩ | ⟨rfl, rfl, rfl⟩ | ⟨rfl, rfl, rfl⟩ | ⟨rfl, rfl, rfl⟩ | ⟨rfl, rfl, rfl⟩ | ⟨rfl, rfl, rfl⟩ | ⟨rfl, rfl, rfl⟩ | ⟨rfl, rfl, rfl⟩ | ⟨rfl, rfl, rfl⟩
  all_goals
    simp only [Int.reduceLE, ↓reduceIte] at hv hu
    subst hv hu
    go_enter Try.func10, Try.ntmps10
    go_wp2_with (first | (go_at_call 30; (with_reducible refine (A6.awake _).mono ?_); rintro e w' ⟨rfl, hbel⟩; (try (with_reducible replace hbel := bel_undrew hbel)); (try (with_reducible replace hbel := bel_undrewN hbel)); have hbw := bel_step (w := w) (by repeat' (first | (with_reducible exact Below.refl _ _) | (with_reducible assumption) | (with_reducible refine below_drewN ?_ _) | (with_reducible refine Below.alloc ?_ ?_ _) | (with_reducible refine Below.drew ?_) | (with_reducible refine Below.setCell ?_ ?_ _) | (with_reducible exact Below.size (by assumption)) | go_size)) hbel; have hsw := hbw.size; have hsb := hbel.size; (try simp at hsb); (try (refine lay (p := w.heap.size < w'.heap.size) ?_ ?_; rotate_left; intro hq0; rotate_left; omega)); (try (refine lay (p := w.heap.size + 1 < w'.heap.size) ?_ ?_; rotate_left; intro hq1; rotate_left; omega)); (try (refine lay (p := w.heap.size + 2 < w'.heap.size) ?_ ?_; rotate_left; intro hq2; rotate_left; omega)); (try (refine lay (p := w.heap.size + 3 < w'.heap.size) ?_ ?_; rotate_left; intro hq3; rotate_left; omega)); (try (refine lay (p := w.heap.size + 4 < w'.heap.size) ?_ ?_; rotate_left; intro hq4; rotate_left; omega)); (try (refine lay (p := w.heap.size + 5 < w'.heap.size) ?_ ?_; rotate_left; intro hq5; rotate_left; omega)); obtain ⟨hcel, hfro⟩ := bcell hbel; clear hbel) | (go_at_call 32; (with_reducible refine (H1.out _).mono ?_); rintro e w' ⟨rfl, hbel⟩; (try (with_reducible replace hbel := bel_undrew hbel)); (try (with_reducible replace hbel := bel_undrewN hbel)); have hbw := bel_step (w := w) (by repeat' (first | (with_reducible exact Below.refl _ _) | (with_reducible assumption) | (with_reducible refine below_drewN ?_ _) | (with_reducible refine Below.alloc ?_ ?_ _) | (with_reducible refine Below.drew ?_) | (with_reducible refine Below.setCell ?_ ?_ _) | (with_reducible exact Below.size (by assumption)) | go_size)) hbel; have hsw := hbw.size; have hsb := hbel.size; (try simp at hsb); (try (refine lay (p := w.heap.size < w'.heap.size) ?_ ?_; rotate_left; intro hq0; rotate_left; omega)); (try (refine lay (p := w.heap.size + 1 < w'.heap.size) ?_ ?_; rotate_left; intro hq1; rotate_left; omega)); (try (refine lay (p := w.heap.size + 2 < w'.heap.size) ?_ ?_; rotate_left; intro hq2; rotate_left; omega)); (try (refine lay (p := w.heap.size + 3 < w'.heap.size) ?_ ?_; rotate_left; intro hq3; rotate_left; omega)); (try (refine lay (p := w.heap.size + 4 < w'.heap.size) ?_ ?_; rotate_left; intro hq4; rotate_left; omega)); (try (refine lay (p := w.heap.size + 5 < w'.heap.size) ?_ ?_; rotate_left; intro hq5; rotate_left; omega)); obtain ⟨hcel, hfro⟩ := bcell hbel; clear hbel) | (go_at_call 32; (with_reducible refine (H2.out _).mono ?_); rintro e w' ⟨rfl, hbel⟩; (try (with_reducible replace hbel := bel_undrew hbel)); (try (with_reducible replace hbel := bel_undrewN hbel)); have hbw := bel_step (w := w) (by repeat' (first | (with_reducible exact Below.refl _ _) | (with_reducible assumption) | (with_reducible refine below_drewN ?_ _) | (with_reducible refine Below.alloc ?_ ?_ _) | (with_reducible refine Below.drew ?_) | (with_reducible refine Below.setCell ?_ ?_ _) | (with_reducible exact Below.size (by assumption)) | go_size)) hbel; have hsw := hbw.size; have hsb := hbel.size; (try simp at hsb); (try (refine lay (p := w.heap.size < w'.heap.size) ?_ ?_; rotate_left; intro hq0; rotate_left; omega)); (try (refine lay (p := w.heap.size + 1 < w'.heap.size) ?_ ?_; rotate_left; intro hq1; rotate_left; omega)); (try (refine lay (p := w.heap.size + 2 < w'.heap.size) ?_ ?_; rotate_left; intro hq2; rotate_left; omega)); (try (refine lay (p := w.heap.size + 3 < w'.heap.size) ?_ ?_; rotate_left; intro hq3; rotate_left; omega)); (try (refine lay (p := w.heap.size + 4 < w'.heap.size) ?_ ?_; rotate_left; intro hq4; rotate_left; omega)); (try (refine lay (p := w.heap.size + 5 < w'.heap.size) ?_ ?_; rotate_left; intro hq5; rotate_left; omega)); obtain ⟨hcel, hfro⟩ := bcell hbel; clear hbel))
    go_ret
    exact ⟨rfl, (by repeat' (first | (with_reducible exact Below.refl _ _) | (with_reducible assumption) | (with_reducible refine below_drewN ?_ _) | (with_reducible refine Below.alloc ?_ ?_ _) | (with_reducible refine Below.drew ?_) | (with_reducible refine Below.setCell ?_ ?_ _) | (with_reducible exact Below.size (by assumption)) | go_size))⟩

set_option maxHeartbeats 4000000 in
theorem main (which : Int) (b0 : 0 ≤ which ∧ which < 256) (a : Int) (b1 : 0 ≤ a ∧ a < 4294967296) (imm : Int) (b2 : -2147483648 ≤ imm ∧ imm < 2147483648) (rd : Int) (b3 : 0 ≤ rd ∧ rd < 256) (w : World) :
    Calls Try.prog 10 #[.int .u8 which, .int .u32 a, .int .i32 imm, .int .u8 rd] w fun e w' => e = .returned (.bool true) ∧ Below w.heap.size w w' := by
  have h : which % 9 = 0 ∨ which % 9 = 1 ∨ which % 9 = 2 ∨ which % 9 = 3 ∨ which % 9 = 4 ∨ which % 9 = 5 ∨ which % 9 = 6 ∨ which % 9 = 7 ∨ which % 9 = 8 := by omega
  rcases h with h | h | h | h | h | h | h | h | h
  · exact walk 0 19 28 which a imm _ _ rd w (by omega) b0 b1 b2 b3 h rfl rfl (by decide) (by decide) (by decide) (by simp [alu])
  · exact walk 1 20 31 which a imm _ _ rd w (by omega) b0 b1 b2 b3 h rfl rfl (by decide) (by decide) (by decide) (by simp [alu])
  · exact walk 2 21 32 which a imm _ _ rd w (by omega) b0 b1 b2 b3 h rfl rfl (by decide) (by decide) (by decide) (by simp [alu])
  · exact walk 3 22 33 which a imm _ _ rd w (by omega) b0 b1 b2 b3 h rfl rfl (by decide) (by decide) (by decide) (by simp [alu])
  · exact walk 4 23 36 which a imm _ _ rd w (by omega) b0 b1 b2 b3 h rfl rfl (by decide) (by decide) (by decide) (by simp [alu])
  · exact walk 5 24 37 which a imm _ _ rd w (by omega) b0 b1 b2 b3 h rfl rfl (by decide) (by decide) (by decide) (by simp [alu])
  · exact walk 6 25 30 which a imm _ _ rd w (by omega) b0 b1 b2 b3 h rfl rfl (by decide) (by decide) (by decide) (by simp [alu])
  · exact walk 7 26 34 which a imm _ _ rd w (by omega) b0 b1 b2 b3 h rfl rfl (by decide) (by decide) (by decide) (by simp [alu])
  · exact walk 8 27 35 which a imm _ _ rd w (by omega) b0 b1 b2 b3 h rfl rfl (by decide) (by decide) (by decide) (by simp [alu])

theorem own : ownKnob Try.prog.godebug = none := by kernel_rfl
theorem laidOut : laidOutB Try.prog = true := by kernel_rfl

set_option maxRecDepth 100000 in
theorem lifted (os : Os) (started : os.Started) (H : Type) (enc : TypeId × Value → H) :
    ReturnsInHanded {} Try.checked os 10 .any (Rows.execPairsSpec.pre6 enc Try.prog Try.f10 Rows.execPairsRow.domain false) (Rows.execPairsSpec.post enc Try.prog Try.f10 false true false false) := by
  refine returnsInHanded_of_change (C := Try.checked) own started (by kernel_rfl) Try.func10
    (ChangeSpec.witness6 (enc := enc) (C := Try.checked) false ⟨#[], #[.int .u8 0, .int .u32 0, .int .i32 0, .int .u8 0], []⟩ 8 (by kernel_rfl) (by kernel_rfl) (by kernel_rfl) (by kernel_rfl)) ?_
  intro W base args ds gs before hval0 hW hcnd _
  have hval : ∀ (j : Nat) t v, Try.f10.params[j]? = some t → args[j]? = some v → Value.okWide Try.prog W .any base t v := hval0
  have hW' := hW
  obtain ⟨p, q, hA0, hV, rfl, hfz, hnd⟩ := hW
  have hA : DataW.TrodAll enc Try.prog W 0 (fun _ => true) true Try.f10.params.toList args.toList ds p := hA0
  rw [Try.params10] at hA hval
  obtain ⟨v0, vs0, d0, ds0, p0, q0, hargs, rfl, rfl, h0, r0⟩ := trodAll_cons hA
  obtain ⟨v1, vs1, d1, ds1, p1, q1, rfl, rfl, rfl, h1, r1⟩ := trodAll_cons r0
  obtain ⟨v2, vs2, d2, ds2, p2, q2, rfl, rfl, rfl, h2, r2⟩ := trodAll_cons r1
  obtain ⟨v3, vs3, d3, ds3, p3, q3, rfl, rfl, rfl, h3, r3⟩ := trodAll_cons r2
  obtain ⟨rfl, rfl, rfl⟩ := trodAll_nil r3
  obtain rfl : args = #[v0, v1, v2, v3] := by cases args; simp_all
  obtain ⟨rfl, rfl⟩ := trodVars_none hV
  obtain ⟨a0, rfl, rfl, rfl, w0⟩ := open_int Try.underlying5 (hval 0 5 v0 rfl rfl) h0
  have b0 : 0 ≤ a0 ∧ a0 < 256 := by
    have : 0 ≤ a0 ∧ a0 ≤ 255 := by simpa [Lit.wf, IntKind.min, IntKind.max, IntKind.signed, IntKind.bits] using w0
    omega
  obtain ⟨a1, rfl, rfl, rfl, w1⟩ := open_int Try.underlying22 (hval 1 22 v1 rfl rfl) h1
  have b1 : 0 ≤ a1 ∧ a1 < 4294967296 := by
    have : 0 ≤ a1 ∧ a1 ≤ 4294967295 := by simpa [Lit.wf, IntKind.min, IntKind.max, IntKind.signed, IntKind.bits] using w1
    omega
  obtain ⟨a2, rfl, rfl, rfl, w2⟩ := open_int Try.underlying21 (hval 2 21 v2 rfl rfl) h2
  have b2 : -2147483648 ≤ a2 ∧ a2 < 2147483648 := by
    have : -2147483648 ≤ a2 ∧ a2 ≤ 2147483647 := by simpa [Lit.wf, IntKind.min, IntKind.max, IntKind.signed, IntKind.bits] using w2
    omega
  obtain ⟨a3, rfl, rfl, rfl, w3⟩ := open_int Try.underlying5 (hval 3 5 v3 rfl rfl) h3
  have b3 : 0 ≤ a3 ∧ a3 < 256 := by
    have : 0 ≤ a3 ∧ a3 ≤ 255 := by simpa [Lit.wf, IntKind.min, IntKind.max, IntKind.signed, IntKind.bits] using w3
    omega
  clear hA0 hval0
  simp only [List.append_nil] at hW'
  refine (main a0 b0 a1 b1 a2 b2 a3 b3 W).mono fun e W' ⟨he, bel⟩ => ?_
  subst he
  exact ⟨_, rfl, _, _, _, [], _, [], hW', trodAll_mk1 (shut_bool Try.underlying4 _), (trodAll_cons_mk (shut_int Try.underlying5 w0) (trodAll_cons_mk (shut_int Try.underlying22 w1) (trodAll_cons_mk (shut_int Try.underlying21 w2) (trodAll_cons_mk (shut_int Try.underlying5 w3) trodAll_mk0)))), rfl, by simpa using bel.frame _, fun h => by cases h⟩

theorem over : Rows.execPairsRow.holds Try.pinned (OpenSpec.ofChange Rows.execPairsSpec) :=
  OpenClaim.holds_of_wide 10 Try.f10 rfl rfl rfl rfl rfl rfl rfl ⟨rfl, rfl, rfl, rfl, rfl⟩ rfl rfl rfl rfl rfl (by kernel_rfl) Try.func10 (by kernel_rfl)
    (of_decide_eq_true (by kernel_rfl)) (by unfold Func.isWrapper; first | (rw [if_pos (by decide +kernel)]; kernel_rfl) | (rw [if_neg (by decide +kernel)]; exact ⟨rfl, rfl⟩))
    (fun os started H enc _ => lifted os started H enc)

theorem proved : Rows.ExecPairsSaid :=
  over
#print axioms proved
end Go.Proofs.Ytplhoiokfjjcdaa.execPairs
