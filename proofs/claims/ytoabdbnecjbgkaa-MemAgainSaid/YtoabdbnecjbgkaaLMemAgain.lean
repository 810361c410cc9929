/- For all cells: a memory that is made of the cells of another one is as that one; its cells rise, and none has the byte 0. -/
import Derived.Test.YtoabdbnecjbgkaaRows
import Derived.WalkKit
import Derived.ProofKit
import Derived.OpenShut
import Derived.ShutString
import Derived.ChangeOld
import Derived.Below
import Derived.Test.YtoabdbnecjbgkaaAwake02
import Derived.BigQuiet
import Derived.Deep.QuietTactic
namespace Go.Proofs.Ytoabdbnecjbgkaa.memAgain
open Go.ChangeShapes Go.WideShapes Go.ChangeAt Go.RowKit
open Go.ChangeMaps (open_string shut_string)
set_option linter.unusedVariables false

open Go.Proofs.Ytoabdbnecjbgkaa.P Go.Proofs.Ytoabdbnecjbgkaa.W Go.Proofs.Ytoabdbnecjbgkaa.M

theorem cell_facts {M : Int → Int} {m : List (Int × Int)} (h : CellsOf M m) : (∀ k, k < m.length → (m.getD k (0, 0)).2 ≠ 0) ∧ (∀ k, 0 < k → k < m.length → (m.getD (k - 1) (0, 0)).1 < (m.getD k (0, 0)).1) := by
  constructor
  · intro k hk
    have hm : m.getD k (0, 0) ∈ m := by simp [List.getD, hk]
    generalize m.getD k (0, 0) = c at *
    obtain ⟨a, b⟩ := c
    exact ((h.mem a b).1 hm).2.2
  · intro k h0 hk
    have hu := h.up
    unfold Rises at hu
    rw [List.pairwise_iff_getElem] at hu
    have := hu (k - 1) k (by omega) hk (by omega)
    simpa [List.getD, hk, show k - 1 < m.length by omega] using this
set_option maxHeartbeats 4000000 in
theorem main (v : Value) (l : List (Int × Int)) (w : World) (hv : CellsAt w v l) (hl : ∀ c ∈ l, okC c) (hll : l.length ≤ maxLen) :
    Calls Try.prog 4 #[v] w fun e w' => e = .returned (.bool true) ∧ Below w.heap.size w w' := by
  unfold maxLen at hll
  obtain ⟨ao, cap, rfl, -⟩ := id hv
  have HV := hid hv
  clear hv
  go_enter Try.func4, Try.ntmps4
  go_wp2_with fail
  refine (A2.awake _).mono ?_
  rintro e w1 ⟨rfl, hb1⟩
  by_cases hbig : 300 < l.length
  · go_wp2
    go_ret
    exact ⟨rfl, hb1⟩
  have hV1 := HV.out.old hb1
  go_wp2_with fail
  refine (New _ _ l hV1 hl (by omega)).mono ?_
  rintro e w2 ⟨p, B, rfl, hp, hB, hM, hb2⟩
  have hbb := bel_step hb1 hb2
  go_wp2_with fail
  refine (Cells _ p B _ _ hM (by omega)).mono ?_
  rintro e w3 ⟨v3, m, rfl, hv3, hm, hml, hb3⟩
  replace hbb := bel_step hbb hb3
  have hby := hM.byt
  have hok : ∀ c ∈ m, okC c := fun c hc => by
    obtain ⟨a, b⟩ := c
    obtain ⟨g1, g2, g3⟩ := (hm.mem a b).1 hc
    have := hby a
    exact ⟨g1, by simp; omega⟩
  clear hV1 hb1 hb2 hb3 HV hM hby
  have hvc := hv3.cells
  obtain ⟨ao3, cap3, rfl, hc⟩ := id hvc
  have HC := hid hc
  have HM := hid hm
  have HW := hid hvc
  obtain ⟨f1, f2⟩ := cell_facts hm
  have F1 := hid f1
  have F2 := hid f2
  clear hc hvc hv3 hm f1 f2
  have HB := hid hbb
  clear hbb
  have hmm : m.length < 1000 := by omega
  go_wp2
  go_loopw [5] (fun i wr => ∃ k q : Nat, k ≤ m.length ∧ i = .int .i64 k ∧ wr = w3.drewN q) (fun i _ => m.length - (intOf i).toNat)
  case atStart => exact ⟨0, 0, by omega, rfl, rfl⟩
  case round =>
    obtain ⟨k, q, hk, rfl, rfl⟩ := hrel
    by_cases hk2 : k < m.length
    · have hkl : (k : Int) < m.length := by omega
      obtain ⟨b, o, rfl, c0, c1⟩ := HC.out k hk2
      have hne : ((m.getD k (0, 0)).2 == 0) = false := by simpa using F1.out k hk2
      by_cases h0 : k = 0
      · subst h0
        generalize m.getD 0 (0, 0) = c at *
        obtain ⟨x, y⟩ := c
        go_wp2
        go_quiet (fail)
        go_wp2
        go_roundw
        case rel => exact ⟨1, _, by omega, rfl, rfl⟩
        case measure => simp [intOf]; omega
      · obtain ⟨j, rfl⟩ : ∃ j, k = j + 1 := ⟨k - 1, by omega⟩
        obtain ⟨b', o', e9, d0, d1⟩ := HC.out j (by omega)
        injection e9 with e9
        injection e9 with e1 e2
        subst e1 e2
        have hlt := F2.out (j + 1) (by omega) hk2
        rw [Nat.add_sub_cancel] at hlt
        generalize m.getD (j + 1) (0, 0) = c at *
        generalize m.getD j (0, 0) = d at *
        obtain ⟨x, y⟩ := c
        obtain ⟨x', y'⟩ := d
        have hlt2 : decide (x ≤ x') = false := by simpa using hlt
        go_wp2
        go_quiet (fail)
        go_wp2
        go_roundw
        case rel => exact ⟨j + 1 + 1, _, by omega, by go_num, rfl⟩
        case measure => simp [intOf]; omega
    · obtain rfl : k = m.length := by omega
      have hbq : Below w.heap.size w (w3.drewN q) := below_drewN HB.out _
      have hVq : CellsAt (w3.drewN q) (.slice ao3 m.length cap3) m := HW.out.old (below_drewN (Below.refl _ _) _)
      clear HC F1 F2 HB HW
      generalize w3.drewN q = w4 at *
      go_wp2_with fail
      refine (New _ _ m hVq hok (by omega)).mono ?_
      rintro e w5 ⟨r, D, rfl, hr, hD, hK, hb5⟩
      have hV5 := hVq.old hb5
      replace hbq := bel_step hbq hb5
      clear hVq hb5
      go_wp2_with fail
      refine (Cells _ r D _ _ hK (by omega)).mono ?_
      rintro e w6 ⟨v6, m', rfl, hv6, hm6, hml6, hb6⟩
      have he : m' = m := hm6.one HM.out (fun a ha => HM.out.again a ha)
      subst he
      have hV6 := hV5.old hb6
      replace hbq := bel_step hbq hb6
      have hS := Same w6 v6 (.slice ao3 m'.length cap3) m' m' hv6.cells hV6 (by omega)
      have hd : decide (m' = m') = true := by simp
      rw [hd] at hS
      have HS := hid hS
      clear hV5 hV6 hb6 hv6 hS hm6 hd
      go_wp2_with fail
      refine HS.out.mono ?_
      rintro e w7 ⟨rfl, hb7⟩
      replace hbq := bel_step hbq hb7
      go_wp2
      go_ret
      exact ⟨rfl, hbq⟩

theorem own : ownKnob Try.prog.godebug = none := by kernel_rfl
theorem laidOut : laidOutB Try.prog = true := by kernel_rfl

set_option maxRecDepth 100000 in
theorem lifted (os : Os) (started : os.Started) (H : Type) (enc : TypeId × Value → H) :
    ReturnsInHanded {} Try.checked os 4 .any (Rows.memAgainSpec.pre6 enc Try.prog Try.f4 Rows.memAgainRow.domain false) (Rows.memAgainSpec.post enc Try.prog Try.f4 false true false false) := by
  refine returnsInHanded_of_change (C := Try.checked) own started (by kernel_rfl) Try.func4
    (ChangeSpec.witness6 (enc := enc) (C := Try.checked) false ⟨#[], #[.slice none 0 0], []⟩ 8 (by kernel_rfl) (by kernel_rfl) (by kernel_rfl) (by kernel_rfl)) ?_
  intro W base args ds gs before hval0 hW hcnd _
  have hval : ∀ (j : Nat) t v, Try.f4.params[j]? = some t → args[j]? = some v → Value.okWide Try.prog W .any base t v := hval0
  have hW' := hW
  obtain ⟨p, q, hA0, hV, rfl, hfz, hnd⟩ := hW
  have hA : DataW.TrodAll enc Try.prog W 0 (fun _ => true) true Try.f4.params.toList args.toList ds p := hA0
  rw [Try.params4] at hA hval
  obtain ⟨v0, vs0, d0, ds0, p0, q0, hargs, rfl, rfl, h0, r0⟩ := trodAll_cons hA
  obtain ⟨rfl, rfl, rfl⟩ := trodAll_nil r0
  obtain rfl : args = #[v0] := by cases args; simp_all
  obtain ⟨rfl, rfl⟩ := trodVars_none hV
  have k0 := h0
  have lt0 : ∀ x ∈ p0, x.block < W.heap.size := by obtain ⟨m, hm⟩ := k0; exact DataW.trod_lt m _ _ _ hm
  obtain ⟨a0, w0, x0, y0⟩ := Go.Proofs.Ytoabdbnecjbgkaa.M.open_cells (hval 0 22 v0 rfl rfl) h0
  clear hA0 hval0
  simp only [List.append_nil] at hW'
  refine (main v0 a0 W w0 x0 y0).mono fun e W' ⟨he, bel⟩ => ?_
  subst he
  exact ⟨_, rfl, _, _, _, [], _, [], hW', trodAll_mk1 (shut_bool Try.underlying4 _), (trodAll_cons_mk (Below.trod laidOut (by kernel_rfl) (of_decide_eq_true (by kernel_rfl)) k0 bel lt0) trodAll_mk0), rfl, by simpa using bel.frame _, fun h => by cases h⟩

theorem over : Rows.memAgainRow.holds Try.pinned (OpenSpec.ofChange Rows.memAgainSpec) :=
  OpenClaim.holds_of_wide 4 Try.f4 rfl rfl rfl rfl rfl rfl rfl ⟨rfl, rfl, rfl, rfl, rfl⟩ rfl rfl rfl rfl rfl (by kernel_rfl) Try.func4 (by kernel_rfl)
    (of_decide_eq_true (by kernel_rfl)) (by unfold Func.isWrapper; first | (rw [if_pos (by decide +kernel)]; kernel_rfl) | (rw [if_neg (by decide +kernel)]; exact ⟨rfl, rfl⟩))
    (fun os started H enc _ => lifted os started H enc)

theorem proved : Rows.MemAgainSaid :=
  over
#print axioms proved
end Go.Proofs.Ytoabdbnecjbgkaa.memAgain
