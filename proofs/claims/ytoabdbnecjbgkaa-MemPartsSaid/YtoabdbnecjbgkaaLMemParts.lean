/- For all cells, every address and every number: four bytes that are stored at once are four bytes that are stored one by one, the lowest first; loaded, they are the number. -/
import Derived.Test.YtoabdbnecjbgkaaRows
import Derived.WalkKit
import Derived.ProofKit
import Derived.OpenShut
import Derived.ShutString
import Derived.ChangeOld
import Derived.Below
import Derived.Test.YtoabdbnecjbgkaaAwake02
import Derived.Test.YtoabdbnecjbgkaaMemQ
namespace Go.Proofs.Ytoabdbnecjbgkaa.memParts
open Go.ChangeShapes Go.WideShapes Go.ChangeAt Go.RowKit
open Go.ChangeMaps (open_string shut_string)
set_option linter.unusedVariables false

open Go.Proofs.Ytoabdbnecjbgkaa.P Go.Proofs.Ytoabdbnecjbgkaa.W Go.Proofs.Ytoabdbnecjbgkaa.M

set_option maxHeartbeats 4000000 in
theorem main (v : Value) (l : List (Int × Int)) (at_ : Int) (ba : 0 ≤ at_ ∧ at_ < 4294967296) (x : Int) (bx : 0 ≤ x ∧ x < 4294967296) (w : World) (hv : CellsAt w v l) (hl : ∀ c ∈ l, okC c) (hll : l.length ≤ maxLen) :
    Calls Try.prog 3 #[v, .int .u32 at_, .int .u32 x] w fun e w' => e = .returned (.bool true) ∧ Below w.heap.size w w' := by
  unfold maxLen at hll
  have ha : okA at_ := ba
  obtain ⟨x0, x1⟩ := bx
  obtain ⟨ao, cap, rfl, -⟩ := id hv
  have HV := hid hv
  clear hv
  go_enter Try.func3, Try.ntmps3
  go_wp2_with fail
  refine (A2.awake _).mono ?_
  rintro e w1 ⟨rfl, hb1⟩
  by_cases hbig : 300 < l.length
  · go_wp2
    go_ret
    exact ⟨rfl, hb1⟩
  have hV1 := HV.out.old hb1
  go_wp2_with fail
  refine (New _ _ l hV1 hl (by omega)).mono ?_
  rintro e w2 ⟨p, B, rfl, hp, hB, hM, hb2⟩
  have hV2 := hV1.old hb2
  have hbb := bel_step hb1 hb2
  go_wp2_with fail
  refine (New _ _ l hV2 hl (by omega)).mono ?_
  rintro e w3 ⟨q, C, rfl, hq, hC, hK, hb3⟩
  have lp := hM.ltp
  have lB := hM.ltB
  replace hM := hM.below hb3
  replace hbb := bel_step hbb hb3
  have s1 := hb1.size
  have s2 := hb2.size
  have s3 := hb3.size
  have hpq : p ≠ q ∧ p ≠ C ∧ B ≠ q ∧ B ≠ C := by omega
  clear hV1 hV2 hb1 hb2 hb3 HV
  go_wp2_with fail
  refine (Store _ p B _ _ at_ 4 x hM ha (by omega) ⟨x0, x1⟩ (by unfold maxLen; omega)).mono ?_
  rintro e w4 ⟨rfl, hM4, hg4⟩
  have hK4 := hK.kept hg4 (by simp; omega) (by simp; omega)
  have hb4 : Below w.heap.size w w4 := hbb.grown hg4 (by omega) (fun j hj => by cases hj; omega)
  clear hM hK hg4 hbb
  have e4 : hl4 4 = 4 := by decide
  have e1 : hl4 1 = 1 := by decide
  rw [e4] at hM4
  have HP := hid (parts (made none0 l) at_ x)
  generalize made none0 l = M at *
  go_wp2_with fail
  refine wp_loop_rounds 5 ?_
  rw [rounds_succ]
  go_wp2_with fail
  refine (Store w4 q C _ _ (adr at_ 3) 1 (x / 16777216) hK4 (adr_ok _ _) (by omega) (by omega) (by unfold maxLen; omega)).mono ?_
  rintro e w5 ⟨rfl, hK5, hg⟩
  rw [e1] at hK5
  have hM5 := hM4.kept hg (by simp; omega) (by simp; omega)
  have hb5 : Below w.heap.size w w5 := hb4.grown hg (by have := hb4.size; omega) (fun j hj => by cases hj; omega)
  clear hK4 hM4 hb4 hg
  go_wp2_with fail
  rw [rounds_succ]
  go_wp2_with fail
  refine (Store w5 q C _ _ (adr at_ 2) 1 (x / 65536) hK5 (adr_ok _ _) (by omega) (by omega) (by unfold maxLen; omega)).mono ?_
  rintro e w6 ⟨rfl, hK6, hg⟩
  rw [e1] at hK6
  have hM6 := hM5.kept hg (by simp; omega) (by simp; omega)
  have hb6 : Below w.heap.size w w6 := hb5.grown hg (by have := hb5.size; omega) (fun j hj => by cases hj; omega)
  clear hK5 hM5 hb5 hg
  go_wp2_with fail
  rw [rounds_succ]
  go_wp2_with fail
  refine (Store w6 q C _ _ (adr at_ 1) 1 (x / 256) hK6 (adr_ok _ _) (by omega) (by omega) (by unfold maxLen; omega)).mono ?_
  rintro e w7 ⟨rfl, hK7, hg⟩
  rw [e1] at hK7
  have hM7 := hM6.kept hg (by simp; omega) (by simp; omega)
  have hb7 : Below w.heap.size w w7 := hb6.grown hg (by have := hb6.size; omega) (fun j hj => by cases hj; omega)
  clear hK6 hM6 hb6 hg
  go_wp2_with fail
  rw [rounds_succ]
  go_wp2_with fail
  have hS := Store w7 q C _ _ (adr at_ 0) 1 x hK7 (adr_ok _ _) (by omega) ⟨x0, x1⟩ (by unfold maxLen; omega)
  rw [e1, HP.out, adr_self ha] at hS
  refine hS.mono ?_
  rintro e w8 ⟨rfl, hK8, hg⟩
  have hM8 := hM7.kept hg (by simp; omega) (by simp; omega)
  have hb8 : Below w.heap.size w w8 := hb7.grown hg (by have := hb7.size; omega) (fun j hj => by cases hj; omega)
  clear hK7 hM7 hb7 hg hS
  go_wp2_with fail
  rw [rounds_succ]
  have L1 := hid (ld_all M at_ x x0 x1)
  have L2 := hid (ld_low M at_ x)
  have L3 := hid (ld_high M at_ x x0 x1)
  generalize stN M at_ x 4 = N at *
  go_wp2_with fail
  refine (Cells _ p B _ _ hM8 (by omega)).mono ?_
  rintro e w9 ⟨v9, m, rfl, hv9, hm9, hml9, hb9⟩
  have hK9 := hK8.below hb9
  have hM9 := hM8.below hb9
  have hc9 := hv9.cells
  replace hb8 := bel_step hb8 hb9
  clear hK8 hM8 hb9 hv9
  go_wp2_with fail
  refine (Cells _ q C _ _ hK9 (by omega)).mono ?_
  rintro e w10 ⟨v10, m', rfl, hv10, hm10, hml10, hb10⟩
  obtain rfl := hm10.one hm9 (fun _ _ => rfl)
  have hK10 := hK9.below hb10
  have hM10 := hM9.below hb10
  have hc10 := hc9.old hb10
  replace hb8 := bel_step hb8 hb10
  have hS := Same w10 v9 v10 m' m' hc10 hv10.cells (by omega)
  have hd : decide (m' = m') = true := by simp
  rw [hd] at hS
  clear hK9 hM9 hc9 hb10 hv10 hm9 hm10 hc10 hd
  go_wp2_with fail
  refine hS.mono ?_
  rintro e w11 ⟨rfl, hb11⟩
  have hK11 := hK10.below hb11
  have hM11 := hM10.below hb11
  replace hb8 := bel_step hb8 hb11
  clear hK10 hM10 hb11 hS
  have e2 : hl4 2 = 2 := by decide
  have A1 := hid (Load w11 p B _ _ at_ 4 hM11 ha (by omega))
  have A2 := hid (Load w11 q C _ _ at_ 2 hK11 ha (by omega))
  have A3 := hid (Load w11 q C _ _ (adr at_ 2) 2 hK11 (adr_ok _ _) (by omega))
  rw [e4, L1.out] at A1
  rw [e2, L2.out] at A2
  rw [e2, L3.out] at A3
  clear hM11 hK11
  have hxx : (x == x) = true := by simp
  have hs1 : x / 65536 * 65536 % 4294967296 = x / 65536 * 65536 := by omega
  have hs2 : (x % 65536 + x / 65536 * 65536) % 4294967296 = x := by omega
  go_wp2_with (go_at_call 13; (first | (with_reducible refine A1.out.mono ?_) | (with_reducible refine A2.out.mono ?_) | (refine A3.out.mono ?_)); rintro e w' ⟨rfl, rfl⟩)
  go_ret
  refine ⟨?_, hb8⟩
  have hfin : (x % 65536 + x / 65536 * 65536 == x) = true := by rw [beq_iff_eq]; omega
  exact ret_bool hfin

theorem own : ownKnob Try.prog.godebug = none := by kernel_rfl
theorem laidOut : laidOutB Try.prog = true := by kernel_rfl

set_option maxRecDepth 100000 in
theorem lifted (os : Os) (started : os.Started) (H : Type) (enc : TypeId × Value → H) :
    ReturnsInHanded {} Try.checked os 3 .any (Rows.memPartsSpec.pre6 enc Try.prog Try.f3 Rows.memPartsRow.domain false) (Rows.memPartsSpec.post enc Try.prog Try.f3 false true false false) := by
  refine returnsInHanded_of_change (C := Try.checked) own started (by kernel_rfl) Try.func3
    (ChangeSpec.witness6 (enc := enc) (C := Try.checked) false ⟨#[], #[.slice none 0 0, .int .u32 0, .int .u32 0], []⟩ 8 (by kernel_rfl) (by kernel_rfl) (by kernel_rfl) (by kernel_rfl)) ?_
  intro W base args ds gs before hval0 hW hcnd _
  have hval : ∀ (j : Nat) t v, Try.f3.params[j]? = some t → args[j]? = some v → Value.okWide Try.prog W .any base t v := hval0
  have hW' := hW
  obtain ⟨p, q, hA0, hV, rfl, hfz, hnd⟩ := hW
  have hA : DataW.TrodAll enc Try.prog W 0 (fun _ => true) true Try.f3.params.toList args.toList ds p := hA0
  rw [Try.params3] at hA hval
  obtain ⟨v0, vs0, d0, ds0, p0, q0, hargs, rfl, rfl, h0, r0⟩ := trodAll_cons hA
  obtain ⟨v1, vs1, d1, ds1, p1, q1, rfl, rfl, rfl, h1, r1⟩ := trodAll_cons r0
  obtain ⟨v2, vs2, d2, ds2, p2, q2, rfl, rfl, rfl, h2, r2⟩ := trodAll_cons r1
  obtain ⟨rfl, rfl, rfl⟩ := trodAll_nil r2
  obtain rfl : args = #[v0, v1, v2] := by cases args; simp_all
  obtain ⟨rfl, rfl⟩ := trodVars_none hV
  have k0 := h0
  have lt0 : ∀ x ∈ p0, x.block < W.heap.size := by obtain ⟨m, hm⟩ := k0; exact DataW.trod_lt m _ _ _ hm
  obtain ⟨a0, w0, x0, y0⟩ := Go.Proofs.Ytoabdbnecjbgkaa.M.open_cells (hval 0 22 v0 rfl rfl) h0
  obtain ⟨a1, rfl, rfl, rfl, w1⟩ := open_int Try.underlying23 (hval 1 23 v1 rfl rfl) h1
  have b1 : 0 ≤ a1 ∧ a1 < 4294967296 := by
    have : 0 ≤ a1 ∧ a1 ≤ 4294967295 := by simpa [Lit.wf, IntKind.min, IntKind.max, IntKind.signed, IntKind.bits] using w1
    omega
  obtain ⟨a2, rfl, rfl, rfl, w2⟩ := open_int Try.underlying23 (hval 2 23 v2 rfl rfl) h2
  have b2 : 0 ≤ a2 ∧ a2 < 4294967296 := by
    have : 0 ≤ a2 ∧ a2 ≤ 4294967295 := by simpa [Lit.wf, IntKind.min, IntKind.max, IntKind.signed, IntKind.bits] using w2
    omega
  clear hA0 hval0
  simp only [List.append_nil] at hW'
  refine (main v0 a0 a1 b1 a2 b2 W w0 x0 y0).mono fun e W' ⟨he, bel⟩ => ?_
  subst he
  exact ⟨_, rfl, _, _, _, [], _, [], hW', trodAll_mk1 (shut_bool Try.underlying4 _), (trodAll_cons_mk (Below.trod laidOut (by kernel_rfl) (of_decide_eq_true (by kernel_rfl)) k0 bel lt0) (trodAll_cons_mk (shut_int Try.underlying23 w1) (trodAll_cons_mk (shut_int Try.underlying23 w2) trodAll_mk0))), rfl, by simpa using bel.frame _, fun h => by cases h⟩

theorem over : Rows.memPartsRow.holds Try.pinned (OpenSpec.ofChange Rows.memPartsSpec) :=
  OpenClaim.holds_of_wide 3 Try.f3 rfl rfl rfl rfl rfl rfl rfl ⟨rfl, rfl, rfl, rfl, rfl⟩ rfl rfl rfl rfl rfl (by kernel_rfl) Try.func3 (by kernel_rfl)
    (of_decide_eq_true (by kernel_rfl)) (by unfold Func.isWrapper; first | (rw [if_pos (by decide +kernel)]; kernel_rfl) | (rw [if_neg (by decide +kernel)]; exact ⟨rfl, rfl⟩))
    (fun os started H enc _ => lifted os started H enc)

theorem proved : Rows.MemPartsSaid :=
  over
#print axioms proved
end Go.Proofs.Ytoabdbnecjbgkaa.memParts
