/- For every word and every number: the table has a row of each operation, with the bits that the reference says; no word fits two of them; a word with a row's bits is got as its operation. -/
import Derived.Test.YtabdfbghhkpoeaaDoorRows
import Derived.WalkKit
import Derived.ProofKit
import Derived.OpenShut
import Derived.ShutString
import Derived.ChangeOld
import Derived.Below
import Derived.Test.YtabdfbghhkpoeaaDoorAwake08
import Derived.Deep.RegionHeld3
import Derived.Deep.Cut
import Derived.Test.YtabdfbghhkpoeaaDoorTie08
import Derived.Test.YtabdfbghhkpoeaaDoorCards
import Derived.Test.YtabdfbghhkpoeaaDoorTie
import Derived.SevenTiedAt
import Derived.LaidMore
import Derived.Stop.Joined
namespace Go.Proofs.YtabdfbghhkpoeaaDoor.encRows
open Go.ChangeShapes Go.WideShapes Go.ChangeAt Go.RowKit
open Go.ChangeMaps (open_string shut_string)
set_option linter.unusedVariables false

open Go.Proofs.YtabdfbghhkpoeaaDoor.P Go.Proofs.YtabdfbghhkpoeaaDoor.W

theorem lays (X M K : Nat) (hK : K < 2 ^ 32) (h : M &&& K = M) : (M ||| (X &&& (4294967295 - K))) &&& K = M := by
  have e : 4294967295 - K = 2 ^ 32 - (K + 1) := by omega
  rw [e]
  refine Nat.eq_of_testBit_eq fun i => ?_
  have hi := congrArg (fun n : Nat => n.testBit i) h
  simp only [Nat.testBit_and] at hi
  simp only [Nat.testBit_and, Nat.testBit_or, Nat.testBit_two_pow_sub_succ hK]
  revert hi
  cases M.testBit i <;> cases K.testBit i <;> simp
theorem row_bits : ∀ k : Nat, k < 48 → ((matchV ((k : Int) + 1)).toNat &&& (maskV ((k : Int) + 1)).toNat) = (matchV ((k : Int) + 1)).toNat ∧ ((matchV ((k : Int) + 1)).toNat &&& (4294967295 - (maskV ((k : Int) + 1)).toNat)) = 0 ∧
    (0 ≤ matchV ((k : Int) + 1) ∧ matchV ((k : Int) + 1) < 4294967296) ∧ (0 ≤ maskV ((k : Int) + 1) ∧ maskV ((k : Int) + 1) < 4294967296) := by decide
theorem row_not (k : Nat) (hk : k < 48) : bits .andNot .u32 (matchV ((k : Int) + 1)) (maskV ((k : Int) + 1)) = 0 := by
  obtain ⟨h1, h2, h3, h4⟩ := row_bits k hk
  rw [u32_andNot _ _ h3.1 h3.2 h4.1 h4.2, h2]; rfl
theorem row_laid (x : Int) (x0 : 0 ≤ x) (x1 : x < 4294967296) (k : Nat) (hk : k < 48) : ∃ a y, bits .andNot .u32 x (maskV ((k : Int) + 1)) = a ∧ bits .or .u32 (matchV ((k : Int) + 1)) a = y ∧ (0 ≤ y ∧ y < 4294967296) ∧ fitB y k = true := by
  obtain ⟨h1, h2, h3, h4⟩ := row_bits k hk
  refine ⟨_, _, rfl, rfl, ?_⟩
  rw [u32_andNot _ _ x0 x1 h4.1 h4.2]
  have ha : (x.toNat &&& (4294967295 - (maskV ((k : Int) + 1)).toNat)) < 4294967296 := Nat.lt_of_le_of_lt Nat.and_le_left (by omega)
  rw [u32_or _ _ h3.1 h3.2 (by omega) (by omega), Int.toNat_natCast]
  have hy : (matchV ((k : Int) + 1)).toNat ||| (x.toNat &&& (4294967295 - (maskV ((k : Int) + 1)).toNat)) < 4294967296 := by
    have e : (2 : Nat) ^ 32 = 4294967296 := by decide
    rw [← e]; exact Nat.or_lt_two_pow (by omega) (by omega)
  refine ⟨⟨by omega, by omega⟩, ?_⟩
  rw [fitB_mask, u32_and _ _ (by omega) (by omega) h4.1 h4.2, Int.toNat_natCast, lays _ _ _ (by omega) h1]
  have := h3.1
  simp; omega
/-- how many of the first rows a word fits -/
def cnt (x : Int) : Nat → Nat
  | 0 => 0
  | k + 1 => cnt x k + if fitB x k = true then 1 else 0
theorem cnt_none (x : Int) (k : Nat) (h : ∀ j, j < k → fitB x j = false) : cnt x k = 0 := by
  induction k with
  | zero => rfl
  | succ k ih =>
    unfold cnt
    rw [ih (fun j hj => h j (by omega)), h k (by omega)]; rfl
theorem cnt_le {x : Int} (x0 : 0 ≤ x) (x1 : x < 4294967296) (k : Nat) (hk : k ≤ 48) : cnt x k ≤ 1 := by
  induction k with
  | zero => exact Nat.zero_le _
  | succ k ih =>
    have h1 := ih (by omega)
    unfold cnt
    split
    · rename_i hf
      have := cnt_none x k (fun j hj => by
        cases hh : fitB x j with
        | false => rfl
        | true => have := fit_one x0 x1 j k (by omega) (by omega) hh hf; omega)
      omega
    · omega
open Go.Proofs.YtabdfbghhkpoeaaDoor.W in
set_option maxHeartbeats 1000000 in
theorem main (x : Int) (b0 : 0 ≤ x ∧ x < 4294967296) (n : Int) (b1 : 0 ≤ n ∧ n < 256) (w : World) (hT : E.Tabs w) :
    Calls Tryd.prog 5 #[.int .u32 x, .int .u8 n] w fun e w' => e = .returned (.bool true) ∧ Below w.heap.size w w' := by
  obtain ⟨x0, x1⟩ := b0
  obtain ⟨n0, n1⟩ := b1
  have HT := hid hT
  clear hT
  go_enter Tryd.func5, Tryd.ntmps5
  go_wp2_with fail
  refine (A8.awake _ HT.out).mono ?_
  rintro e w1 ⟨rfl, hb0⟩
  replace HT := hid (HT.out.below hb0)
  go_wp2_with fail
  refine (E.Rows _).mono ?_
  rintro e w2 ⟨b, rfl, hR, hbb, hb1⟩
  replace HT := hid (HT.out.below hb1)
  replace hb0 := bel_step hb0 hb1
  clear hb1 hbb
  replace hR := hid hR
  go_wp2
  go_loopw [6, 7] (fun c i wr => ∃ k : Nat, k ≤ 48 ∧ i = .int .i64 k ∧ c = .int .i64 (cnt x k : Int) ∧ Below w2.heap.size w2 wr) (fun _ i _ => 48 - (intOf i).toNat)
  case atStart => exact ⟨0, by omega, rfl, rfl, Below.refl _ _⟩
  case round =>
    obtain ⟨k, hk, rfl, rfl, hbr⟩ := hrel
    have hcb := cnt_le x0 x1 k hk
    by_cases hs : k < 48
    · obtain ⟨hbl, hcells⟩ := hR.out.below hbr
      obtain ⟨c0, c1, c2⟩ := hcells k hs
      rw [encL_op k hs] at c0
      have e1 : (encL.getD k (0, 0, 0)).2.1 = matchV ((k : Int) + 1) := by unfold matchV; rw [show ((k : Int) + 1 - 1).toNat = k by omega]
      have e2 : (encL.getD k (0, 0, 0)).2.2 = maskV ((k : Int) + 1) := by unfold maskV; rw [show ((k : Int) + 1 - 1).toNat = k by omega]
      rw [e1] at c1
      rw [e2] at c2
      have hn := row_not k hs
      have hf := fitB_mask x k
      have hcs : cnt x (k + 1) = cnt x k + if fitB x k = true then 1 else 0 := rfl
      have HR := hid (fun w => R8.Row ((k : Int) + 1) w (by omega) (by omega))
      have HCS := hid hcs
      clear hcells e1 e2 hcs
      generalize matchV ((k : Int) + 1) = m at *
      generalize maskV ((k : Int) + 1) = mk at *
      have hlt : (k : Int) < 48 := by omega
      generalize cnt x k = c at *
      go_wp2_with fail
      refine (HR.out _).mono ?_
      rintro e w3 ⟨rfl, hb1⟩
      have d0 := (hb1.cell (p := ⟨b, k * 3, none⟩) hbl).trans c0
      have d1 := (hb1.cell (p := ⟨b, k * 3 + 1, none⟩) hbl).trans c1
      have d2 := (hb1.cell (p := ⟨b, k * 3 + 2, none⟩) hbl).trans c2
      have hbr' := bel_step hbr hb1
      clear c0 c1 c2 hb1 HR hbr
      cases hfit : fitB x k
      · rw [hfit] at HCS hf
        have HC0 : Hid (cnt x (k + 1) = c) := hid (by rw [HCS.out]; rfl)
        have hff := hf.symm
        clear HCS hf hfit
        go_wp2
        go_roundw
        case rel => exact ⟨k + 1, by omega, by go_num, by rw [HC0.out], hbr'⟩
        case measure => simp [intOf]; omega
      · rw [hfit] at HCS hf
        have HC0 : Hid (cnt x (k + 1) = c + 1) := hid (by rw [HCS.out]; rfl)
        have hff := hf.symm
        clear HCS hf hfit
        go_wp2
        go_roundw
        case rel => exact ⟨k + 1, by omega, by go_num, by rw [HC0.out]; go_num, hbr'⟩
        case measure => simp [intOf]; omega
    · obtain rfl : k = 48 := by omega
      obtain ⟨hbl, hcells⟩ := hR.out.below hbr
      obtain ⟨j, hj⟩ : ∃ j : Nat, n % 48 = j := ⟨(n % 48).toNat, by omega⟩
      have hj48 : j < 48 := by omega
      obtain ⟨-, c1, c2⟩ := hcells j hj48
      have e1 : (encL.getD j (0, 0, 0)).2.1 = matchV ((j : Int) + 1) := by unfold matchV; rw [show ((j : Int) + 1 - 1).toNat = j by omega]
      have e2 : (encL.getD j (0, 0, 0)).2.2 = maskV ((j : Int) + 1) := by unfold maskV; rw [show ((j : Int) + 1 - 1).toNat = j by omega]
      rw [e1] at c1
      rw [e2] at c2
      obtain ⟨a, y, ha, hy, ⟨y0, y1⟩, hfy⟩ := row_laid x x0 x1 j hj48
      obtain ⟨ho, -, -, -, -, hx, hm⟩ := get_fit y0 y1 j hj48 hfy
      have hg : getB y = true := by
        unfold getB; rw [hx]
        have : opN y ≠ 0 := by omega
        simpa using this
      have HG := hid (fun w hT => E.Get_is y w y0 y1 hg hT)
      rw [ho] at HG
      replace HT := hid (HT.out.below hbr)
      have hbw0 : Below w.heap.size w wr := bel_step hb0 hbr
      clear hcells e1 e2 hx hm hg hfy ho hb0 hR
      generalize matchV ((j : Int) + 1) = m at *
      generalize maskV ((j : Int) + 1) = mk at *
      generalize dRd y = p1 at *
      generalize dRs1 y = p2 at *
      generalize dRs2 y = p3 at *
      generalize dImm y = p4 at *
      generalize cnt x 48 = c at *
      have hjlt : (j : Int) < 48 := by omega
      have hj0 : (0 : Int) ≤ (j : Int) := by omega
      go_upto_region 16 with (fail)
      go_region_held3 (fun W => b < W.heap.size ∧ W.cell? ⟨b, j * 3 + 1, none⟩ = some (.int .u32 m) ∧ W.cell? ⟨b, j * 3 + 2, none⟩ = some (.int .u32 mk)) (((repeat' (refine And.intro ?_ ?_)) <;> (first | omega | (simp; omega) | (go_simp; done) | (simp [*]; done)))) ((go_at_call 12; (refine (HG.out _ (E.Tabs.below HT.out (by repeat' (first | (with_reducible exact Below.refl _ _) | (with_reducible assumption) | (with_reducible refine below_drewN ?_ _) | (with_reducible refine Below.alloc ?_ ?_ _) | (with_reducible refine Below.drew ?_) | (with_reducible refine Below.setCell ?_ ?_ _) | (with_reducible exact Below.size (by assumption)) | go_size)))).mono ?_); rintro e w' ⟨rfl, hbel⟩; (try (with_reducible replace hbel := bel_undrew hbel)); (try (with_reducible replace hbel := bel_undrewN hbel)); have hbr2 : Below wr.heap.size wr w' := bel_step (w := wr) (by repeat' (first | (with_reducible exact Below.refl _ _) | (with_reducible assumption) | (with_reducible refine below_drewN ?_ _) | (with_reducible refine Below.alloc ?_ ?_ _) | (with_reducible refine Below.drew ?_) | (with_reducible refine Below.setCell ?_ ?_ _) | (with_reducible exact Below.size (by assumption)) | go_size)) hbel; have hbw2 : Below w.heap.size w w' := bel_step hbw0 hbr2; have hsw2 := hbw2.size; have hsw := hbr2.size; have hbw' : b < w'.heap.size := Nat.lt_of_lt_of_le hbl hsw; have hbn' : b ≠ w'.heap.size := Nat.ne_of_lt hbw'; have c1' := (hbr2.cell (p := ⟨b, j * 3 + 1, none⟩) hbl).trans c1; have c2' := (hbr2.cell (p := ⟨b, j * 3 + 2, none⟩) hbl).trans c2; have hsb := hbel.size; (try simp at hsb); obtain ⟨hcel, hfro⟩ := bcell hbel; clear hbel))
      all_goals go_wp2
      all_goals go_ret
      all_goals exact ⟨rfl, (by repeat' (first | (with_reducible exact Below.refl _ _) | (with_reducible assumption) | (with_reducible refine below_drewN ?_ _) | (with_reducible refine Below.alloc ?_ ?_ _) | (with_reducible refine Below.drew ?_) | (with_reducible refine Below.setCell ?_ ?_ _) | (with_reducible exact Below.size (by assumption)) | go_size))⟩

theorem own : ownKnob Tryd.prog.godebug = none := by kernel_rfl
theorem laidOut : laidOutB Tryd.prog = true := by kernel_rfl

set_option maxRecDepth 100000 in
theorem lifted (os : Os) (started : os.Started) (H : Type) (enc : TypeId × Value → H) :
    ReturnsInHanded {} Tryd.checked os 5 .any (fun w args => (Rows.encRowsSpec.pre enc Tryd.prog Tryd.f5 [] false w args ∧ laidMetH Tryd.prog Go.Proofs.YtabdfbghhkpoeaaDoor.E.laidE w) ∧ sizedMet enc Tryd.prog Tryd.f5 (OpenSpec.ofChange Rows.encRowsSpec) false w args) (Rows.encRowsSpec.post enc Tryd.prog Tryd.f5 false true false false) := by
  refine returnsInHanded_of_change_and (C := Tryd.checked) (X := fun w _ => laidMetH Tryd.prog Go.Proofs.YtabdfbghhkpoeaaDoor.E.laidE w) (fun _ _ _ hh h => h.of_heap hh) own started (by kernel_rfl) Tryd.func5
    (ChangeSpec.witness_shaped (enc := enc) (C := Tryd.checked) (os := os) (X := fun w _ => laidMetH Tryd.prog Go.Proofs.YtabdfbghhkpoeaaDoor.E.laidE w) false (World.doorLaid Tryd.prog 400 os) #[.int .u32 0, .int .u8 0] 8 rfl (World.shaped_of_RefB (by kernel_rfl) (by kernel_rfl)) (by kernel_rfl) (by kernel_rfl) (by kernel_rfl) (Go.Proofs.YtabdfbghhkpoeaaDoor.E.door_met os _)) ?_
  intro W base args ds gs before hval0 hW _ _ hL _
  have hval : ∀ (j : Nat) t v, Tryd.f5.params[j]? = some t → args[j]? = some v → Value.okWide Tryd.prog W .any base t v := hval0
  have hW' := hW
  obtain ⟨p, q, hA0, hV, rfl, hfz, hnd⟩ := hW
  have hA : DataW.TrodAll enc Tryd.prog W 0 (fun _ => true) true Tryd.f5.params.toList args.toList ds p := hA0
  rw [Tryd.params5] at hA hval
  obtain ⟨v0, vs0, d0, ds0, p0, q0, hargs, rfl, rfl, h0, r0⟩ := trodAll_cons hA
  obtain ⟨v1, vs1, d1, ds1, p1, q1, rfl, rfl, rfl, h1, r1⟩ := trodAll_cons r0
  obtain ⟨rfl, rfl, rfl⟩ := trodAll_nil r1
  obtain rfl : args = #[v0, v1] := by cases args; simp_all
  obtain ⟨rfl, rfl⟩ := trodVars_none hV
  obtain ⟨a0, rfl, rfl, rfl, w0⟩ := open_int Tryd.underlying25 (hval 0 25 v0 rfl rfl) h0
  have b0 : 0 ≤ a0 ∧ a0 < 4294967296 := by
    have : 0 ≤ a0 ∧ a0 ≤ 4294967295 := by simpa [Lit.wf, IntKind.min, IntKind.max, IntKind.signed, IntKind.bits] using w0
    omega
  obtain ⟨a1, rfl, rfl, rfl, w1⟩ := open_int Tryd.underlying5 (hval 1 5 v1 rfl rfl) h1
  have b1 : 0 ≤ a1 ∧ a1 < 256 := by
    have : 0 ≤ a1 ∧ a1 ≤ 255 := by simpa [Lit.wf, IntKind.min, IntKind.max, IntKind.signed, IntKind.bits] using w1
    omega
  clear hA0 hval0
  simp only [List.append_nil] at hW'
  refine (main a0 b0 a1 b1 W (Go.Proofs.YtabdfbghhkpoeaaDoor.E.tabs_of_laid hL)).mono fun e W' ⟨he, bel⟩ => ?_
  subst he
  exact ⟨_, rfl, _, _, _, [], _, [], hW', trodAll_mk1 (shut_bool Tryd.underlying4 _), (trodAll_cons_mk (shut_int Tryd.underlying25 w0) (trodAll_cons_mk (shut_int Tryd.underlying5 w1) trodAll_mk0)), rfl, by simpa using bel.frame _, fun h => by cases h⟩

theorem over : Rows.encRowsRow.holds Tryd.pinned (OpenSpec.ofChange Rows.encRowsSpec) :=
  OpenClaim.holds_of_wide 5 Tryd.f5 rfl rfl rfl rfl rfl rfl rfl ⟨rfl, rfl, rfl, rfl, rfl⟩ rfl rfl rfl rfl rfl (by kernel_rfl) Tryd.func5 (by kernel_rfl)
    (of_decide_eq_true (by kernel_rfl)) (by unfold Func.isWrapper; first | (rw [if_pos (by decide +kernel)]; kernel_rfl) | (rw [if_neg (by decide +kernel)]; exact ⟨rfl, rfl⟩))
    (fun os started H enc _ => lifted os started H enc)

theorem proved : Rows.EncRowsCardSaid :=
  Claim7.holds_tied_plain_at .later [] [.data, .data, .data] true _ false
    over (fun _ h => by cases h) (by kernel_rfl) (fun _ h => by cases h) Go.Proofs.YtabdfbghhkpoeaaDoor.encRows_row_tie rfl ⟨rfl, rfl⟩ (by kernel_rfl) rfl
    (fun f fn hf hfn => by
      obtain rfl : f = 5 := Option.some.inj ((show Tryd.prog.funcNamed Rows.encRowsRow.func = some 5 by kernel_rfl).symm.trans hf) |>.symm
      obtain rfl : fn = Tryd.f5 := (Option.some.inj (Tryd.func5.symm.trans hfn)).symm
      exact ⟨by kernel_rfl, fun j t ht => by
        rw [Tryd.params5] at ht
        have hm : t ∈ [25, 5] := by simpa using Array.mem_of_getElem? ht
        have hall : ([25, 5].all fun u => !Tryd.prog.wantsStandIn u) = true := by kernel_rfl
        exact (show Tryd.prog.wantsStandIn t = false by simpa using List.all_eq_true.1 hall t hm)⟩)
    (by kernel_rfl)
#print axioms proved
end Go.Proofs.YtabdfbghhkpoeaaDoor.encRows
