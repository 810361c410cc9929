/- For every text and every number: the text is the name of the operation, and of the register, that the document says, or of none; the number's register has the document's name, which is read as it. -/
import Derived.Test.YtcbibefbjfhdcaaDoorRows
import Derived.WalkKit
import Derived.ProofKit
import Derived.OpenShut
import Derived.ShutString
import Derived.ChangeOld
import Derived.Below
import Derived.Test.YtcbibefbjfhdcaaDoorAwake03
import Derived.Test.YtcbibefbjfhdcaaDoorRef03r
import Derived.Deep.RegionWith
import Derived.Deep.Cut
import Derived.Test.YtcbibefbjfhdcaaDoorTie03
import Derived.Test.YtcbibefbjfhdcaaDoorCards
import Derived.Test.YtcbibefbjfhdcaaDoorTie
import Derived.SevenTiedAt
import Derived.LaidMore
import Derived.Stop.Joined
namespace Go.Proofs.YtcbibefbjfhdcaaDoor.insNames
open Go.ChangeShapes Go.WideShapes Go.ChangeAt Go.RowKit
open Go.ChangeMaps (open_string shut_string)
set_option linter.unusedVariables false

open Go.Proofs.YtcbibefbjfhdcaaDoor.P Go.Proofs.YtcbibefbjfhdcaaDoor.W

/-- the last of the first k names that is this one -/
def ixTo (s : ByteArray) : Nat → Int
  | 0 => 0
  | k + 1 => if ((nameN (k + 1)).toList == s.toList) = true then ((k + 1 : Nat) : Int) else ixTo s k
def ixToD (s : List UInt8) : Nat → Int
  | 0 => 0
  | k + 1 => if ((nameN (k + 1)).data.toList == s) = true then ((k + 1 : Nat) : Int) else ixToD s k
theorem ixTo_eq (s : ByteArray) : ∀ k, ixTo s k = ixToD s.data.toList k := by
  intro k
  induction k with
  | zero => rfl
  | succ k ih => unfold ixTo ixToD; rw [ByteArray.toList_eq, ByteArray.toList_eq, ih]
theorem ixTo_own : ∀ k, k < 49 → 1 ≤ k → ixToD (nameN k).data.toList 48 = (k : Int) := by decide
theorem from_none (s : ByteArray) : ∀ n k, (∀ j, k ≤ j → j < k + n → ((nameN j).toList == s.toList) = false) → ixFrom s k n = 0 := by
  intro n
  induction n with
  | zero => intro k _; rfl
  | succ n ih =>
    intro k h
    unfold ixFrom
    rw [if_neg (by rw [h k (Nat.le_refl _) (by omega)]; simp)]
    exact ih (k + 1) fun j h1 h2 => h j (by omega) (by omega)
theorem to_none (s : ByteArray) : ∀ k, (∀ j, 1 ≤ j → j ≤ k → ((nameN j).toList == s.toList) = false) → ixTo s k = 0 := by
  intro k
  induction k with
  | zero => intro _; rfl
  | succ k ih =>
    intro h
    unfold ixTo
    rw [if_neg (by rw [h (k + 1) (by omega) (Nat.le_refl _)]; simp)]
    exact ih fun j h1 h2 => h j h1 (by omega)
theorem to_from (s : ByteArray) : ixTo s 48 = ixFrom s 1 48 := by
  by_cases h : ∃ k, k < 49 ∧ 1 ≤ k ∧ ((nameN k).toList == s.toList) = true
  · obtain ⟨k, h1, h2, h3⟩ := h
    rw [beq_iff_eq, ByteArray.toList_eq, ByteArray.toList_eq] at h3
    rw [ixTo_eq, ixFrom_eq, ← h3, ixTo_own k h1 h2, ix_own k h1 h2]
  · have h0 : ∀ j, j < 49 → 1 ≤ j → ((nameN j).toList == s.toList) = false := fun j h1 h2 => by
      cases hh : ((nameN j).toList == s.toList) with
      | false => rfl
      | true => exact absurd ⟨j, h1, h2, hh⟩ h
    rw [to_none s 48 (fun j h1 h2 => h0 j (by omega) h1), from_none s 48 1 (fun j h1 h2 => h0 j (by omega) h1)]
theorem back_in {n : Int} (h : 0 ≤ n ∧ n < 32) : regR (regV n) = n ∧ regOk (regV n) = true := by
  have e : regV n = regN n.toNat := by unfold regV; rw [if_pos h]
  unfold regR regOk
  rw [e, reg_back _ (by omega), if_pos (by omega)]
  exact ⟨by omega, by simp; omega⟩
theorem back_out {n : Int} (h : ¬ (0 ≤ n ∧ n < 32)) : regR (regV n) = 0 ∧ regOk (regV n) = false := by
  have e : regV n = ⟨#[]⟩ := by unfold regV; rw [if_neg h]
  unfold regR regOk
  rw [e, reg_empty]; decide
set_option maxHeartbeats 2000000 in
theorem main (s : ByteArray) (hsz : s.size ≤ maxLen) (n : Int) (hn : -9223372036854775808 ≤ n ∧ n < 9223372036854775808) (w : World) (hT : I.Tabs w) :
    Calls Tryd.prog 4 #[.string s, .int .i64 n] w fun e w' => e = .returned (.bool true) ∧ Below w.heap.size w w' := by
  unfold maxLen at hsz
  have HA := hid (fun w hT => I.Reg s w hT)
  have HB := hid (fun w => R3.Reg s w)
  have HC := hid (fun w hT => I.Op s w hT)
  have HD := hid (fun w hT => I.RegName n w hT)
  have HE := hid (fun w => R3.RegName n w)
  have HX := hid (to_from s)
  have HF : ∀ w, I.Tabs w → Calls Tryd.prog 17 #[.string (regV n)] w fun e w' => e = .returned (.tuple #[.int .i64 (regR (regV n)), .bool (regOk (regV n))]) ∧ w = w' := fun w hT => I.Reg (regV n) w hT
  go_enter Tryd.func4, Tryd.ntmps4
  go_wp2_with fail
  refine (A3.awake _ hT).mono ?_
  rintro e w2 ⟨rfl, hb0⟩
  have HT := hid (hT.below hb0)
  clear hT
  by_cases hl1 : 50 < s.size
  · go_wp2
    go_ret
    exact ⟨rfl, hb0⟩
  go_wp2_with fail
  go_loopw [5, 6] (fun op i wr => ∃ k : Nat, k ≤ 48 ∧ op = .int .i64 (ixTo s k) ∧ i = .int .i64 ((k : Int) + 1) ∧ Below w2.heap.size w2 wr) (fun op i _ => (49 - intOf i).toNat)
  case atStart => exact ⟨0, by omega, rfl, rfl, Below.refl _ _⟩
  case round =>
    obtain ⟨k, hk, rfl, rfl, hbel⟩ := hrel
    by_cases hk2 : k < 48
    · have h1 : (k : Int) + 1 ≤ 48 := by omega
      have h2 : (k : Int) + 1 < 49 := by omega
      have h3 : ((k : Int) + 1).toNat = k + 1 := by omega
      have hst : Hid (ixTo s (k + 1) = if ((nameN (k + 1)).toList == s.toList) = true then ((k + 1 : Nat) : Int) else ixTo s k) := hid rfl
      go_wp2_with fail
      refine (R3.Names _).mono ?_
      rintro e w3 ⟨rfl, hb1, hs⟩
      have hc := hs.2 (k + 1) (by show k + 1 < 49; omega)
      have hlt := hs.1
      have hnm : names.getD (k + 1) ⟨#[]⟩ = nameN (k + 1) := rfl
      rw [hnm] at hc
      have hb2 := bel_step hbel hb1
      clear hs hnm hb1
      generalize wr.heap.size = q at *
      generalize nameN (k + 1) = t at *
      generalize ixTo s k = x0 at *
      go_wp2
      · rename (t.toList == s.toList) = true => h
        go_roundw
        case rel => exact ⟨k + 1, by omega, by rw [hst.out, if_pos h]; go_num, by go_num, hb2⟩
        case measure => simp [intOf]; omega
      · rename (t.toList == s.toList) = false => h
        go_roundw
        case rel => exact ⟨k + 1, by omega, by rw [hst.out, if_neg (by rw [h]; simp)], by go_num, hb2⟩
        case measure => simp [intOf]; omega
    · obtain rfl : k = 48 := by omega
      rw [HX.out]
      have HTX := hid (HT.out.below hbel)
      have hb3 := bel_step hb0 hbel
      clear HT HX hbel hb0
      generalize ixFrom s 1 48 = ix at *
      generalize regR s = rr at *
      generalize regOk s = ro at *
      have hrr : (rr != rr) = false := by simp
      have hro : (ro != ro) = false := by simp
      have hii : (ix != ix) = false := by simp
      by_cases hin : 0 ≤ n ∧ n < 32
      · obtain ⟨e1, e2⟩ := back_in hin
        rw [e1, e2] at HF
        clear e1 e2
        have HG := hid HF
        clear HF
        generalize regV n = rv at *
        have hrv : (rv.toList != rv.toList) = false := by simp
        have hnn : (n == n) = true := by simp
        obtain ⟨n0, n1⟩ := hin
        go_wp2_with ((first | (go_at_call 17; (first | (with_reducible refine (HA.out _ (HTX.out.below (by repeat' (first | (with_reducible exact Below.refl _ _) | (with_reducible assumption) | (with_reducible refine below_drewN ?_ _) | (with_reducible refine Below.alloc ?_ ?_ _) | (with_reducible refine Below.drew ?_) | (with_reducible refine Below.setCell ?_ ?_ _) | (with_reducible exact Below.size (by assumption)) | go_size)))).mono ?_) | (with_reducible refine (HG.out _ (HTX.out.below (by repeat' (first | (with_reducible exact Below.refl _ _) | (with_reducible assumption) | (with_reducible refine below_drewN ?_ _) | (with_reducible refine Below.alloc ?_ ?_ _) | (with_reducible refine Below.drew ?_) | (with_reducible refine Below.setCell ?_ ?_ _) | (with_reducible exact Below.size (by assumption)) | go_size)))).mono ?_)); rintro e w' ⟨rfl, rfl⟩) | (go_at_call 16; (with_reducible refine (HC.out _ (HTX.out.below (by repeat' (first | (with_reducible exact Below.refl _ _) | (with_reducible assumption) | (with_reducible refine below_drewN ?_ _) | (with_reducible refine Below.alloc ?_ ?_ _) | (with_reducible refine Below.drew ?_) | (with_reducible refine Below.setCell ?_ ?_ _) | (with_reducible exact Below.size (by assumption)) | go_size)))).mono ?_); rintro e w' ⟨rfl, rfl⟩) | (go_at_call 19; (with_reducible refine (HD.out _ (HTX.out.below (by repeat' (first | (with_reducible exact Below.refl _ _) | (with_reducible assumption) | (with_reducible refine below_drewN ?_ _) | (with_reducible refine Below.alloc ?_ ?_ _) | (with_reducible refine Below.drew ?_) | (with_reducible refine Below.setCell ?_ ?_ _) | (with_reducible exact Below.size (by assumption)) | go_size)))).mono ?_); rintro e w' ⟨rfl, rfl⟩) | (go_at_call 18; (with_reducible refine (HB.out _).mono ?_); rintro e w' ⟨rfl, hbel2⟩; have hbr2 : Below wr.heap.size wr w' := bel_step (w := wr) (by repeat' (first | (with_reducible exact Below.refl _ _) | (with_reducible assumption) | (with_reducible refine below_drewN ?_ _) | (with_reducible refine Below.alloc ?_ ?_ _) | (with_reducible refine Below.drew ?_) | (with_reducible refine Below.setCell ?_ ?_ _) | (with_reducible exact Below.size (by assumption)) | go_size)) hbel2; clear hbel2) | (go_at_call 20; (with_reducible refine (HE.out _).mono ?_); rintro e w' ⟨rfl, hbel2⟩; have hbr2 : Below wr.heap.size wr w' := bel_step (w := wr) (by repeat' (first | (with_reducible exact Below.refl _ _) | (with_reducible assumption) | (with_reducible refine below_drewN ?_ _) | (with_reducible refine Below.alloc ?_ ?_ _) | (with_reducible refine Below.drew ?_) | (with_reducible refine Below.setCell ?_ ?_ _) | (with_reducible exact Below.size (by assumption)) | go_size)) hbel2; clear hbel2)))
        all_goals go_ret
        all_goals exact ⟨by first | rfl | (simp [*]; done), bel_step hb3 (by assumption)⟩
      · obtain ⟨e1, e2⟩ := back_out hin
        rw [e1, e2] at HF
        clear e1 e2
        have HG := hid HF
        clear HF
        generalize regV n = rv at *
        have hrv : (rv.toList != rv.toList) = false := by simp
        have hcs : n < 0 ∨ (0 ≤ n ∧ 32 ≤ n) := by omega
        clear hin hn
        rcases hcs with n0 | ⟨n0, n1⟩
        all_goals
          go_wp2_with ((first | (go_at_call 17; (first | (with_reducible refine (HA.out _ (HTX.out.below (by repeat' (first | (with_reducible exact Below.refl _ _) | (with_reducible assumption) | (with_reducible refine below_drewN ?_ _) | (with_reducible refine Below.alloc ?_ ?_ _) | (with_reducible refine Below.drew ?_) | (with_reducible refine Below.setCell ?_ ?_ _) | (with_reducible exact Below.size (by assumption)) | go_size)))).mono ?_) | (with_reducible refine (HG.out _ (HTX.out.below (by repeat' (first | (with_reducible exact Below.refl _ _) | (with_reducible assumption) | (with_reducible refine below_drewN ?_ _) | (with_reducible refine Below.alloc ?_ ?_ _) | (with_reducible refine Below.drew ?_) | (with_reducible refine Below.setCell ?_ ?_ _) | (with_reducible exact Below.size (by assumption)) | go_size)))).mono ?_)); rintro e w' ⟨rfl, rfl⟩) | (go_at_call 16; (with_reducible refine (HC.out _ (HTX.out.below (by repeat' (first | (with_reducible exact Below.refl _ _) | (with_reducible assumption) | (with_reducible refine below_drewN ?_ _) | (with_reducible refine Below.alloc ?_ ?_ _) | (with_reducible refine Below.drew ?_) | (with_reducible refine Below.setCell ?_ ?_ _) | (with_reducible exact Below.size (by assumption)) | go_size)))).mono ?_); rintro e w' ⟨rfl, rfl⟩) | (go_at_call 19; (with_reducible refine (HD.out _ (HTX.out.below (by repeat' (first | (with_reducible exact Below.refl _ _) | (with_reducible assumption) | (with_reducible refine below_drewN ?_ _) | (with_reducible refine Below.alloc ?_ ?_ _) | (with_reducible refine Below.drew ?_) | (with_reducible refine Below.setCell ?_ ?_ _) | (with_reducible exact Below.size (by assumption)) | go_size)))).mono ?_); rintro e w' ⟨rfl, rfl⟩) | (go_at_call 18; (with_reducible refine (HB.out _).mono ?_); rintro e w' ⟨rfl, hbel2⟩; have hbr2 : Below wr.heap.size wr w' := bel_step (w := wr) (by repeat' (first | (with_reducible exact Below.refl _ _) | (with_reducible assumption) | (with_reducible refine below_drewN ?_ _) | (with_reducible refine Below.alloc ?_ ?_ _) | (with_reducible refine Below.drew ?_) | (with_reducible refine Below.setCell ?_ ?_ _) | (with_reducible exact Below.size (by assumption)) | go_size)) hbel2; clear hbel2) | (go_at_call 20; (with_reducible refine (HE.out _).mono ?_); rintro e w' ⟨rfl, hbel2⟩; have hbr2 : Below wr.heap.size wr w' := bel_step (w := wr) (by repeat' (first | (with_reducible exact Below.refl _ _) | (with_reducible assumption) | (with_reducible refine below_drewN ?_ _) | (with_reducible refine Below.alloc ?_ ?_ _) | (with_reducible refine Below.drew ?_) | (with_reducible refine Below.setCell ?_ ?_ _) | (with_reducible exact Below.size (by assumption)) | go_size)) hbel2; clear hbel2)))
          all_goals go_ret
          all_goals exact ⟨by first | rfl | (simp [*]; done), bel_step hb3 (by assumption)⟩

theorem own : ownKnob Tryd.prog.godebug = none := by kernel_rfl
theorem laidOut : laidOutB Tryd.prog = true := by kernel_rfl

set_option maxRecDepth 100000 in
theorem lifted (os : Os) (started : os.Started) (H : Type) (enc : TypeId × Value → H) :
    ReturnsInHanded {} Tryd.checked os 4 .any (fun w args => (Rows.insNamesSpec.pre enc Tryd.prog Tryd.f4 [] false w args ∧ laidMetH Tryd.prog Go.Proofs.YtcbibefbjfhdcaaDoor.I.laidI w) ∧ sizedMet enc Tryd.prog Tryd.f4 (OpenSpec.ofChange Rows.insNamesSpec) false w args) (Rows.insNamesSpec.post enc Tryd.prog Tryd.f4 false true false false) := by
  refine returnsInHanded_of_change_and (C := Tryd.checked) (X := fun w _ => laidMetH Tryd.prog Go.Proofs.YtcbibefbjfhdcaaDoor.I.laidI w) (fun _ _ _ hh h => h.of_heap hh) own started (by kernel_rfl) Tryd.func4
    (ChangeSpec.witness_shaped (enc := enc) (C := Tryd.checked) (os := os) (X := fun w _ => laidMetH Tryd.prog Go.Proofs.YtcbibefbjfhdcaaDoor.I.laidI w) false (World.doorLaid Tryd.prog 400 os) #[.string ByteArray.empty, .int .i64 0] 8 rfl (World.shaped_of_RefB (by kernel_rfl) (by kernel_rfl)) (by kernel_rfl) (by kernel_rfl) (by kernel_rfl) (Go.Proofs.YtcbibefbjfhdcaaDoor.I.door_met os _)) ?_
  intro W base args ds gs before hval0 hW _ _ hL _
  have hval : ∀ (j : Nat) t v, Tryd.f4.params[j]? = some t → args[j]? = some v → Value.okWide Tryd.prog W .any base t v := hval0
  have hW' := hW
  obtain ⟨p, q, hA0, hV, rfl, hfz, hnd⟩ := hW
  have hA : DataW.TrodAll enc Tryd.prog W 0 (fun _ => true) true Tryd.f4.params.toList args.toList ds p := hA0
  rw [Tryd.params4] at hA hval
  obtain ⟨v0, vs0, d0, ds0, p0, q0, hargs, rfl, rfl, h0, r0⟩ := trodAll_cons hA
  obtain ⟨v1, vs1, d1, ds1, p1, q1, rfl, rfl, rfl, h1, r1⟩ := trodAll_cons r0
  obtain ⟨rfl, rfl, rfl⟩ := trodAll_nil r1
  obtain rfl : args = #[v0, v1] := by cases args; simp_all
  obtain ⟨rfl, rfl⟩ := trodVars_none hV
  have k0 := h0
  have lt0 : ∀ x ∈ p0, x.block < W.heap.size := by obtain ⟨m, hm⟩ := k0; exact DataW.trod_lt m _ _ _ hm
  obtain ⟨a0, rfl, rfl, rfl, w0⟩ := open_string Tryd.underlying9 (hval 0 9 v0 rfl rfl) h0
  obtain ⟨a1, rfl, rfl, rfl, w1⟩ := open_int Tryd.underlying3 (hval 1 3 v1 rfl rfl) h1
  have b1 : -9223372036854775808 ≤ a1 ∧ a1 < 9223372036854775808 := by
    have : -9223372036854775808 ≤ a1 ∧ a1 ≤ 9223372036854775807 := by simpa [Lit.wf, IntKind.min, IntKind.max, IntKind.signed, IntKind.bits] using w1
    omega
  clear hA0 hval0
  simp only [List.append_nil] at hW'
  refine (main a0 w0 a1 b1 W (Go.Proofs.YtcbibefbjfhdcaaDoor.I.tabs_of_laid hL)).mono fun e W' ⟨he, bel⟩ => ?_
  subst he
  exact ⟨_, rfl, _, _, _, [], _, [], hW', trodAll_mk1 (shut_bool Tryd.underlying4 _), (trodAll_cons_mk (shut_string Tryd.underlying9 w0) (trodAll_cons_mk (shut_int Tryd.underlying3 w1) trodAll_mk0)), rfl, by simpa using bel.frame _, fun h => by cases h⟩

theorem over : Rows.insNamesRow.holds Tryd.pinned (OpenSpec.ofChange Rows.insNamesSpec) :=
  OpenClaim.holds_of_wide 4 Tryd.f4 rfl rfl rfl rfl rfl rfl rfl ⟨rfl, rfl, rfl, rfl, rfl⟩ rfl rfl rfl rfl rfl (by kernel_rfl) Tryd.func4 (by kernel_rfl)
    (of_decide_eq_true (by kernel_rfl)) (by unfold Func.isWrapper; first | (rw [if_pos (by decide +kernel)]; kernel_rfl) | (rw [if_neg (by decide +kernel)]; exact ⟨rfl, rfl⟩))
    (fun os started H enc _ => lifted os started H enc)

theorem proved : Rows.InsNamesCardSaid :=
  Claim7.holds_tied_plain_at .later [] [.data, .data, .data, .data, .data] true _ false
    over (fun _ h => by cases h) (by kernel_rfl) (fun _ h => by cases h) Go.Proofs.YtcbibefbjfhdcaaDoor.insNames_row_tie rfl ⟨rfl, rfl⟩ (by kernel_rfl) rfl
    (fun f fn hf hfn => by
      obtain rfl : f = 4 := Option.some.inj ((show Tryd.prog.funcNamed Rows.insNamesRow.func = some 4 by kernel_rfl).symm.trans hf) |>.symm
      obtain rfl : fn = Tryd.f4 := (Option.some.inj (Tryd.func4.symm.trans hfn)).symm
      exact ⟨by kernel_rfl, fun j t ht => by
        rw [Tryd.params4] at ht
        have hm : t ∈ [9, 3] := by simpa using Array.mem_of_getElem? ht
        have hall : ([9, 3].all fun u => !Tryd.prog.wantsStandIn u) = true := by kernel_rfl
        exact (show Tryd.prog.wantsStandIn t = false by simpa using List.all_eq_true.1 hall t hm)⟩)
    (by kernel_rfl)
#print axioms proved
end Go.Proofs.YtcbibefbjfhdcaaDoor.insNames
