/- For all cells, every address and every number: so many bytes from anywhere on are what is there, one by one; what is told is the caller's own; a copy goes on by itself. -/
import Derived.Test.YtoabdbnecjbgkaaRows
import Derived.WalkKit
import Derived.ProofKit
import Derived.OpenShut
import Derived.ShutString
import Derived.ChangeOld
import Derived.Below
import Derived.Test.YtoabdbnecjbgkaaAwake02
import Derived.Test.YtoabdbnecjbgkaaMemQ
import Derived.Test.YtoabdbnecjbgkaaMemC
import Derived.Test.YtoabdbnecjbgkaaMemO
import Derived.Test.YtoabdbnecjbgkaaMemY
import Derived.Test.YtoabdbnecjbgkaaMemZ
import Derived.BigQuiet
import Derived.Deep.QuietTactic
namespace Go.Proofs.Ytoabdbnecjbgkaa.memBytes
open Go.ChangeShapes Go.WideShapes Go.ChangeAt Go.RowKit
open Go.ChangeMaps (open_string shut_string)
set_option linter.unusedVariables false

open Go.Proofs.Ytoabdbnecjbgkaa.P Go.Proofs.Ytoabdbnecjbgkaa.W Go.Proofs.Ytoabdbnecjbgkaa.M

set_option maxHeartbeats 1000000 in
theorem light0 (ao : Option Addr) (n cap : Nat) (hn : n ≤ maxLen) (w : World) : Calls Try.prog 14 #[.slice ao n cap, .slice none 0 0] w fun e w' => e = .returned (.bool (decide (n ≤ 300))) ∧ w = w' := by
  unfold maxLen at hn
  by_cases h : n ≤ 300
  · rw [show decide (n ≤ 300) = true by simpa using h]
    go_enter Try.func14, Try.ntmps14
    go_wp2
    refine wp_loop_rounds 1 ?_
    rw [rounds_succ]
    go_wp2
    go_ret
    exact ⟨rfl, rfl⟩
  · rw [show decide (n ≤ 300) = false by simpa using h]
    go_enter Try.func14, Try.ntmps14
    go_wp2
    refine wp_loop_rounds 1 ?_
    rw [rounds_succ]
    go_wp2
    go_ret
    exact ⟨rfl, rfl⟩
theorem made_byt' (l : List (Int × Int)) (hl : ∀ c ∈ l, okC c) : Hid (Byt (made none0 l)) := hid (none0_byt.made hl)
set_option maxHeartbeats 4000000 in
theorem main (v : Value) (l : List (Int × Int)) (at_ : Int) (ba : 0 ≤ at_ ∧ at_ < 4294967296) (n : Int) (bn : -9223372036854775808 ≤ n ∧ n < 9223372036854775808) (x : Int) (bx : 0 ≤ x ∧ x < 4294967296) (w : World) (hv : CellsAt w v l) (hl : ∀ c ∈ l, okC c) (hll : l.length ≤ maxLen) :
    Calls Try.prog 6 #[v, .int .u32 at_, .int .i64 n, .int .u32 x] w fun e w' => e = .returned (.bool true) ∧ Below w.heap.size w w' := by
  have hmx := hll
  unfold maxLen at hll
  have ha : okA at_ := ba
  obtain ⟨x0, x1⟩ := bx
  obtain ⟨ao, cap, rfl, -⟩ := id hv
  have HV := hid hv
  have HL0 := hid (light0 ao l.length cap hmx)
  clear hv
  go_enter Try.func6, Try.ntmps6
  go_wp2_with fail
  refine (A2.awake _).mono ?_
  rintro e w1 ⟨rfl, hb1⟩
  by_cases hbig : l.length ≤ 300
  rotate_left
  · have hd : decide (l.length ≤ 300) = false := by simpa using hbig
    rw [hd] at HL0
    go_wp2_with (go_at_call 14; refine (HL0.out _).mono ?_; rintro e w' ⟨rfl, rfl⟩)
    go_ret
    exact ⟨rfl, hb1⟩
  have hd : decide (l.length ≤ 300) = true := by simpa using hbig
  rw [hd] at HL0
  have hV1 := HV.out.old hb1
  go_wp2_with (go_at_call 14; refine (HL0.out _).mono ?_; rintro e w' ⟨rfl, rfl⟩)
  refine (New _ _ l hV1 hl (by omega)).mono ?_
  rintro e w2 ⟨p, B, rfl, hp, hB, hM, hb2⟩
  have hV2 := hV1.old hb2
  have hbb := bel_step hb1 hb2
  go_wp2_with fail
  refine (refNew _ _ l hV2 hl (by omega)).mono ?_
  rintro e w3 ⟨rl, rfl, hR, hrd, hrl, hb3⟩
  have lp := hM.ltp
  have lB := hM.ltB
  replace hM := hM.below hb3
  replace hbb := bel_step hbb hb3
  have s3 := hb3.size
  generalize w2.heap.size = q at *
  clear hV1 hV2 hb1 hb2 hb3 HV
  go_wp2_with fail
  refine (Copy w3 p B _ _ hM).mono ?_
  rintro e w4 ⟨p', B', rfl, hp', hB', hC, hb4⟩
  have HM := hid hM
  have HR := hid hR
  have HRD := hid hrd
  have HBB := hid hbb
  have hM4 := hM.below hb4
  have hl5 : l.length < 1000 := by omega
  clear hM hR hrd hbb HL0 hd
  have HA := hid (fun W (hW : Below w3.heap.size w3 W) k => At W q rl (adr at_ k) (HR.out.below hW) (by omega))
  have hmin : min (max n 0) 65536 = ((hlB n : Nat) : Int) := by unfold hlB; omega
  have HBC := hid (Bytes w4 p B _ _ at_ n hM4 ha bn)
  have hN : hlB n ≤ 65536 := by unfold hlB; omega
  generalize hNN : hlB n = N at *
  clear hNN
  have hnn : ((N : Int) != (N : Int)) = false := by simp
  go_wp2_with (go_at_call 22; refine HBC.out.mono ?_; rintro e w5 ⟨rfl, hby, hb5⟩)
  have lp' := hC.ltp
  have lB' := hC.ltB
  have hC5 := hid (hC.below hb5)
  have hb35 := hb4.trans (Below.mono hb5 hb4.size)
  have hxs : Hid (∀ j, 0 ≤ j → j < N → (((List.range N).map fun i => made none0 l (adr at_ i)).map (Value.int .u8))[j]? = some (.int .u8 (made none0 l (adr at_ j)))) := hid (fun j _ hj => by simp [hj])
  have hby2 : w5.ownsRow w4.heap.size 5 1 (.slice (some ⟨w4.heap.size, 0, none⟩) N N) N (((List.range N).map fun i => made none0 l (adr at_ i)).map (Value.int .u8)) := by simpa [BytesOwn] using hby
  have HBY := hid hby2
  have HB5 := hid hb35
  have hs4 := hb4.size
  have hBY := made_byt' l hl
  have h45 := hb5.size
  clear hby hby2 hM4 hC hb5 hb35 hb4 hmin HBC
  generalize ((List.range N).map fun i => made none0 l (adr at_ i)).map (Value.int .u8) = xs0 at *
  generalize w4.heap.size = b0 at *
  go_loopw [14] (fun i wr => ∃ (k : Nat) (xs : List Value), k ≤ N ∧ k ≤ 200 ∧ i = .int .i64 k ∧ wr.ownsRow b0 5 1 (.slice (some ⟨b0, 0, none⟩) N N) N xs ∧ (∀ j, k ≤ j → j < N → xs[j]? = some (.int .u8 (made none0 l (adr at_ j)))) ∧ Below w3.heap.size w3 wr ∧ MemAt wr p' B' l.length (made none0 l)) (fun i wr => N - (intOf i).toNat)
  case atStart => exact ⟨0, xs0, by omega, by omega, rfl, HBY.out, hxs.out, HB5.out, hC5.out⟩
  case round =>
    obtain ⟨k, xs, hk, hk200, rfl, ho, hx, hbw, hC⟩ := hrel
    have HO := hid ho
    have HX := hid hx
    have HBW := hid hbw
    have HC := hid hC
    have HAK := hid (fun d => (HA.out _ (below_drewN hbw d) k).mono (R' := fun e w' => e = .returned (.int .u8 (rd rl (adr at_ k))) ∧ w' = wr.drewN d) (fun _ _ h => ⟨h.1, h.2.symm⟩))
    by_cases hk2 : k < N ∧ k < 200
    · obtain ⟨hkN, hk3⟩ := hk2
      have hkNi : (k : Int) < N := by omega
      have hk3i : (k : Int) < 200 := by omega
      have hcell : wr.cell? ⟨b0, k, none⟩ = some (.int .u8 (made none0 l (adr at_ k))) := (World.ownsRow.cellAt ho k (by omega)).trans (hx k (Nat.le_refl _) hkN)
      have hfz := World.ownsRow.frozenAt ho k
      have hbt := hBY.out (adr at_ k)
      clear ho hx hbw hC
      rw [HRD.out] at HAK
      generalize made none0 l (adr at_ k) = c at *
      have hcc : (c != c) = false := by simp
      go_wp2_with fail
      go_quiet ((go_at_call 23; exact Calls.quiet_of_same (HAK.out _)))
      have HO2 := hid (World.ownsRow.stored (show (wr.drewN nq).ownsRow b0 5 1 (.slice (some ⟨b0, 0, none⟩) N N) N xs from HO.out) k (.int .u8 ((c + 1) % 256)))
      have HBQ : Hid (Below w3.heap.size w3 (wr.drewN nq)) := hid (below_drewN HBW.out _)
      have HCQ : Hid (MemAt (wr.drewN nq) p' B' l.length (made none0 l)) := hid (HC.out.below (below_drewN (Below.refl _ _) _))
      go_wp2
      go_roundw
      case rel => exact ⟨k + 1, xs.set k (.int .u8 ((c + 1) % 256)), by omega, by omega, by go_num, HO2.out.1, fun j h1 h2 => by rw [List.getElem?_set, if_neg (by omega)]; exact HX.out j (by omega) h2, HBQ.out.grown HO2.out.2 HBQ.out.size (fun j hj => by cases hj; exact hs4), HCQ.out.kept HO2.out.2 (by simp; omega) (by simp; omega)⟩
      case measure => simp [intOf]; omega
    · have hend : N ≤ k ∨ (k = 200 ∧ 200 < N) := by omega
      have H4 : hl4 4 = 4 := by decide
      have hS := Store wr p' B' _ _ at_ 4 x hC ha (by omega) ⟨x0, x1⟩ (by unfold maxLen; omega)
      rw [H4] at hS
      have HS := hid hS
      have HLD := hid (ld_all (made none0 l) at_ x x0 x1)
      have hxx : (x == x) = true := by simp
      clear hS HAK HX HO hx ho hC hbw
      rcases hend with hend | ⟨rfl, hend⟩
      all_goals
        first
          | (have hi2 : (N : Int) ≤ k := by omega)
          | (have hi2 : (200 : Int) < N := by omega)
        go_wp2_with fail
        refine HS.out.mono ?_
        rintro e w6 ⟨rfl, hC6, hg6⟩
        have hb36 := HBW.out.grown hg6 HBW.out.size (fun j hj => by cases hj; exact hB')
        have hM6 := HM.out.below hb36
        have hR6 := HR.out.below hb36
        have hbb6 := HBB.out.trans (Below.mono hb36 HBB.out.size)
        clear HS HBW hg6
        go_wp2_with fail
        refine (Cells w6 p B _ _ hM6 (by omega)).mono ?_
        rintro e w7 ⟨v7, m, rfl, hv7, hm7, hml7, hb7⟩
        have hC7 := hC6.below hb7
        have hR7 := hR6.below hb7
        have hc7 := hv7.cells
        have hbb7 := bel_step hbb6 hb7
        clear hC6 hR6 hM6 hb36 hb7 hv7 hbb6
        go_wp2_with fail
        refine (refCells w7 q rl hR7 (by omega)).mono ?_
        rintro e w8 ⟨v8, m', rfl, hv8, hm8, hml8, hb8⟩
        rw [HRD.out] at hm8
        obtain rfl := hm8.one hm7 (fun _ _ => rfl)
        have hC8 := hC7.below hb8
        have hc8 := hc7.old hb8
        have hbb8 := bel_step hbb7 hb8
        have hS := Same w8 v7 v8 m' m' hc8 hv8.cells (by omega)
        have hd : decide (m' = m') = true := by simp
        rw [hd] at hS
        clear hC7 hR7 hc7 hb8 hv8 hc8 hm7 hm8 hd hbb7
        go_wp2_with fail
        refine hS.mono ?_
        rintro e w9 ⟨rfl, hb9⟩
        have hbb9 := bel_step hbb8 hb9
        have hL := Load w9 p' B' _ _ at_ 4 (hC8.below hb9) ha (by omega)
        rw [H4, HLD.out] at hL
        clear hC8 hb9 hS hbb8
        go_wp2_with (go_at_call 13; refine hL.mono ?_; rintro e w' ⟨rfl, rfl⟩)
        go_ret
        exact ⟨rfl, hbb9⟩

theorem own : ownKnob Try.prog.godebug = none := by kernel_rfl
theorem laidOut : laidOutB Try.prog = true := by kernel_rfl

set_option maxRecDepth 100000 in
theorem lifted (os : Os) (started : os.Started) (H : Type) (enc : TypeId × Value → H) :
    ReturnsInHanded {} Try.checked os 6 .any (Rows.memBytesSpec.pre6 enc Try.prog Try.f6 Rows.memBytesRow.domain false) (Rows.memBytesSpec.post enc Try.prog Try.f6 false true false false) := by
  refine returnsInHanded_of_change (C := Try.checked) own started (by kernel_rfl) Try.func6
    (ChangeSpec.witness6 (enc := enc) (C := Try.checked) false ⟨#[], #[.slice none 0 0, .int .u32 0, .int .i64 0, .int .u32 0], []⟩ 8 (by kernel_rfl) (by kernel_rfl) (by kernel_rfl) (by kernel_rfl)) ?_
  intro W base args ds gs before hval0 hW hcnd _
  have hval : ∀ (j : Nat) t v, Try.f6.params[j]? = some t → args[j]? = some v → Value.okWide Try.prog W .any base t v := hval0
  have hW' := hW
  obtain ⟨p, q, hA0, hV, rfl, hfz, hnd⟩ := hW
  have hA : DataW.TrodAll enc Try.prog W 0 (fun _ => true) true Try.f6.params.toList args.toList ds p := hA0
  rw [Try.params6] at hA hval
  obtain ⟨v0, vs0, d0, ds0, p0, q0, hargs, rfl, rfl, h0, r0⟩ := trodAll_cons hA
  obtain ⟨v1, vs1, d1, ds1, p1, q1, rfl, rfl, rfl, h1, r1⟩ := trodAll_cons r0
  obtain ⟨v2, vs2, d2, ds2, p2, q2, rfl, rfl, rfl, h2, r2⟩ := trodAll_cons r1
  obtain ⟨v3, vs3, d3, ds3, p3, q3, rfl, rfl, rfl, h3, r3⟩ := trodAll_cons r2
  obtain ⟨rfl, rfl, rfl⟩ := trodAll_nil r3
  obtain rfl : args = #[v0, v1, v2, v3] := by cases args; simp_all
  obtain ⟨rfl, rfl⟩ := trodVars_none hV
  have k0 := h0
  have lt0 : ∀ x ∈ p0, x.block < W.heap.size := by obtain ⟨m, hm⟩ := k0; exact DataW.trod_lt m _ _ _ hm
  obtain ⟨a0, w0, x0, y0⟩ := Go.Proofs.Ytoabdbnecjbgkaa.M.open_cells (hval 0 22 v0 rfl rfl) h0
  obtain ⟨a1, rfl, rfl, rfl, w1⟩ := open_int Try.underlying23 (hval 1 23 v1 rfl rfl) h1
  have b1 : 0 ≤ a1 ∧ a1 < 4294967296 := by
    have : 0 ≤ a1 ∧ a1 ≤ 4294967295 := by simpa [Lit.wf, IntKind.min, IntKind.max, IntKind.signed, IntKind.bits] using w1
    omega
  obtain ⟨a2, rfl, rfl, rfl, w2⟩ := open_int Try.underlying3 (hval 2 3 v2 rfl rfl) h2
  have b2 : -9223372036854775808 ≤ a2 ∧ a2 < 9223372036854775808 := by
    have : -9223372036854775808 ≤ a2 ∧ a2 ≤ 9223372036854775807 := by simpa [Lit.wf, IntKind.min, IntKind.max, IntKind.signed, IntKind.bits] using w2
    omega
  obtain ⟨a3, rfl, rfl, rfl, w3⟩ := open_int Try.underlying23 (hval 3 23 v3 rfl rfl) h3
  have b3 : 0 ≤ a3 ∧ a3 < 4294967296 := by
    have : 0 ≤ a3 ∧ a3 ≤ 4294967295 := by simpa [Lit.wf, IntKind.min, IntKind.max, IntKind.signed, IntKind.bits] using w3
    omega
  clear hA0 hval0
  simp only [List.append_nil] at hW'
  refine (main v0 a0 a1 b1 a2 b2 a3 b3 W w0 x0 y0).mono fun e W' ⟨he, bel⟩ => ?_
  subst he
  exact ⟨_, rfl, _, _, _, [], _, [], hW', trodAll_mk1 (shut_bool Try.underlying4 _), (trodAll_cons_mk (Below.trod laidOut (by kernel_rfl) (of_decide_eq_true (by kernel_rfl)) k0 bel lt0) (trodAll_cons_mk (shut_int Try.underlying23 w1) (trodAll_cons_mk (shut_int Try.underlying3 w2) (trodAll_cons_mk (shut_int Try.underlying23 w3) trodAll_mk0)))), rfl, by simpa using bel.frame _, fun h => by cases h⟩

theorem over : Rows.memBytesRow.holds Try.pinned (OpenSpec.ofChange Rows.memBytesSpec) :=
  OpenClaim.holds_of_wide 6 Try.f6 rfl rfl rfl rfl rfl rfl rfl ⟨rfl, rfl, rfl, rfl, rfl⟩ rfl rfl rfl rfl rfl (by kernel_rfl) Try.func6 (by kernel_rfl)
    (of_decide_eq_true (by kernel_rfl)) (by unfold Func.isWrapper; first | (rw [if_pos (by decide +kernel)]; kernel_rfl) | (rw [if_neg (by decide +kernel)]; exact ⟨rfl, rfl⟩))
    (fun os started H enc _ => lifted os started H enc)

theorem proved : Rows.MemBytesSaid :=
  over
#print axioms proved
end Go.Proofs.Ytoabdbnecjbgkaa.memBytes
