/- For all cells a memory begins with, and whatever is stored and laid: what is loaded anywhere, and all cells, are what the document says. -/
import Derived.Test.YtoabdbnecjbgkaaRows
import Derived.WalkKit
import Derived.ProofKit
import Derived.OpenShut
import Derived.ShutString
import Derived.ChangeOld
import Derived.Below
import Derived.Test.YtoabdbnecjbgkaaAwake02
import Derived.Test.YtoabdbnecjbgkaaMemO
import Derived.Test.YtoabdbnecjbgkaaMemY
import Derived.Test.YtoabdbnecjbgkaaMemH
import Derived.Test.YtoabdbnecjbgkaaCells
import Derived.BigQuiet
import Derived.Deep.QuietTactic
import Derived.StillTailTactics
namespace Go.Proofs.Ytoabdbnecjbgkaa.memPlays
open Go.ChangeShapes Go.WideShapes Go.ChangeAt Go.RowKit
open Go.ChangeMaps (open_string shut_string)
set_option linter.unusedVariables false

open Go.Proofs.Ytoabdbnecjbgkaa.P Go.Proofs.Ytoabdbnecjbgkaa.W Go.Proofs.Ytoabdbnecjbgkaa.M

/-- what light says -/
structure Says (v : Value) (n : Nat) : Prop where
  out : (v = .bool true ∧ n ≤ 300) ∨ v = .bool false
set_option maxHeartbeats 1000000 in
set_option maxRecDepth 100000 in
theorem light (ao : Option Addr) (n cap : Nat) (hn : n ≤ maxLen) (va : Value) (l : List Deed) (w : World) (h : ActsAt w va l) (hok : ∀ c ∈ l, okDeed w c) (hll : l.length ≤ maxLen) :
    Calls Try.prog 14 #[.slice ao n cap, va] w fun e w' => ∃ v, e = .returned v ∧ Says v n ∧ w = w' := by
  unfold maxLen at hn hll
  obtain ⟨co, cc, rfl, hel⟩ := id h
  have HEL := hid hel
  have HOK := hid hok
  clear h hel hok
  go_enter Try.func14, Try.ntmps14
  go_wp2
  go_loop [5, 6] (fun x i => ∃ (k : Nat) (z : Int), k ≤ l.length ∧ okI z ∧ x = .int .i64 z ∧ i = .int .i64 k) (fun x i => l.length - (intOf i).toNat)
  case atStart => exact ⟨0, n, by omega, by unfold okI; omega, rfl, rfl⟩
  case round =>
    obtain ⟨k, z, hk, hz, rfl, rfl⟩ := hrel
    unfold okI at hz
    by_cases hk2 : k < l.length ∧ z ≤ 300
    · obtain ⟨hk3, hz3⟩ := hk2
      have hkl : (k : Int) < l.length := by omega
      obtain ⟨b, o, rfl, -, -, -, -, g4⟩ := HEL.out k hk3
      obtain ⟨ho1, ho2, ho3, ho4, ⟨bo, bc, hbv, -⟩, -, hbl, -⟩ := HOK.out (l.getD k deed0) (by simp [List.getD, hk3])
      unfold maxLen at hbl
      rw [hbv] at g4
      generalize (l.getD k deed0).b.length = bn at *
      clear hbv ho1 ho2 ho3 ho4
      go_wp2
      go_round
      case rel => exact ⟨k + 1, _, by omega, by unfold okI; unfold RowKit.wrap64; omega, rfl, by go_num⟩
      case measure => simp [intOf]; omega
    · have hend : ¬ (k : Int) < l.length ∨ ((k : Int) < l.length ∧ ¬ z ≤ 300) := by omega
      by_cases h1 : n ≤ 300
      · by_cases h2 : z ≤ 300
        · have hkl : ¬ (k : Int) < l.length := by omega
          go_wp2
          go_ret
          exact ⟨_, rfl, ⟨.inl ⟨rfl, h1⟩⟩, rfl⟩
        · by_cases hkl : (k : Int) < l.length
          · go_wp2
            go_ret
            exact ⟨_, rfl, ⟨.inr rfl⟩, rfl⟩
          · go_wp2
            go_ret
            exact ⟨_, rfl, ⟨.inr rfl⟩, rfl⟩
      · by_cases h2 : z ≤ 300
        · have hkl : ¬ (k : Int) < l.length := by omega
          go_wp2
          go_ret
          exact ⟨_, rfl, ⟨.inr rfl⟩, rfl⟩
        · by_cases hkl : (k : Int) < l.length
          · go_wp2
            go_ret
            exact ⟨_, rfl, ⟨.inr rfl⟩, rfl⟩
          · go_wp2
            go_ret
            exact ⟨_, rfl, ⟨.inr rfl⟩, rfl⟩
set_option maxRecDepth 100000 in
set_option maxHeartbeats 8000000 in
theorem main (v : Value) (l : List (Int × Int)) (va : Value) (acts : List Deed) (at_ : Int) (ba : 0 ≤ at_ ∧ at_ < 4294967296) (n : Int) (bn : -9223372036854775808 ≤ n ∧ n < 9223372036854775808) (w : World) (hv : CellsAt w v l) (hl : ∀ c ∈ l, okC c) (hll : l.length ≤ maxLen) (hva : ActsAt w va acts) (hok : ∀ c ∈ acts, okDeed w c) (hal : acts.length ≤ maxLen) :
    Calls Try.prog 5 #[v, va, .int .u32 at_, .int .i64 n] w fun e w' => e = .returned (.bool true) ∧ Below w.heap.size w w' := by
  have hmx := hll
  have hax := hal
  unfold maxLen at hll hal
  have ha : okA at_ := ba
  obtain ⟨ao, cap, rfl, -⟩ := id hv
  obtain ⟨co, cc, rfl, -⟩ := id hva
  have HV := hid hv
  have HVA := hid hva
  have HOK := hid hok
  clear hv hva hok
  go_enter Try.func5, Try.ntmps5
  go_wp2_with fail
  refine (A2.awake _).mono ?_
  rintro e w1 ⟨rfl, hb1⟩
  have hV1 := HV.out.old hb1
  have HA1 := hid (HVA.out.old hb1)
  have HO1 := hid (fun c hc => (HOK.out c hc).old hb1)
  have HLI := hid (light ao l.length cap hmx _ acts w1 HA1.out HO1.out hax)
  clear HV HVA HOK
  go_wp2_with fail
  refine HLI.out.mono ?_
  rintro e w' ⟨b, rfl, ⟨hs⟩, rfl⟩
  rcases hs with ⟨rfl, h300⟩ | rfl
  rotate_left
  · go_wp2
    go_ret
    exact ⟨rfl, hb1⟩
  go_wp2_with fail
  refine (New _ _ l hV1 hl (by omega)).mono ?_
  rintro e w2 ⟨p, B, rfl, hp, hB, hM, hb2⟩
  have hV2 := hV1.old hb2
  go_wp2_with fail
  refine (refNew _ _ l hV2 hl (by omega)).mono ?_
  rintro e w3 ⟨rl, rfl, hR, hrd, hrl, hb3⟩
  have lp := hM.ltp
  have lB := hM.ltB
  replace hM := hM.below hb3
  have hb13 := hb2.trans (Below.mono hb3 hb2.size)
  have HMA := hid (hM.mono (m := 4294967296) (by omega))
  have HRE := hid hR
  have HRD := hid hrd
  have HB1 := hid hb1
  have HB13 := hid hb13
  generalize w2.heap.size = q at *
  clear hV1 hV2 hb1 hb2 hb3 hM hR hrd hb13 HLI hl
  go_wp2
  go_loopw [11] (fun i wr => ∃ (k : Nat) (M : Int → Int) (rl : List (Int × Int)), k ≤ acts.length ∧ i = .int .i64 k ∧ MemAt wr p B 4294967296 M ∧ RefAt wr q rl ∧ rd rl = M ∧ Below w1.heap.size w1 wr) (fun i wr => acts.length - (intOf i).toNat)
  case atStart => exact ⟨0, _, rl, by omega, rfl, HMA.out, HRE.out, HRD.out, HB13.out⟩
  case round =>
    obtain ⟨k, M, rl, hk, rfl, hM, hR, hrd, hbw⟩ := hrel
    clear HMA HRE HRD HB13
    have HM := hid hM
    have HR := hid hR
    have HRD := hid hrd
    have HBW := hid hbw
    have hqr := hR.ltp
    clear hM hR hrd
    by_cases hk2 : k < acts.length
    · have hkl : (k : Int) < acts.length := by omega
      obtain ⟨co', cc', e0, hel⟩ := HA1.out
      injection e0 with e0 _ e1
      subst e0 e1
      obtain ⟨b, o, rfl, d0, d1, d2, d3, d4⟩ := hel k hk2
      have hbl := World.block_lt_of_cell? w1 _ d0
      have hcb : ∀ j, wr.cell? ⟨b, j, none⟩ = w1.cell? ⟨b, j, none⟩ := fun j => hbw.cell (p := ⟨b, j, none⟩) hbl
      rw [← hcb] at d0 d1 d2 d3 d4
      have HOKC := hid (HO1.out (acts.getD k deed0) (by simp [List.getD, hk2]))
      clear hel hcb hbw HA1 HO1
      generalize acts.getD k deed0 = c at *
      obtain ⟨ck, ca, cn, cv, cbv, cb⟩ := c
      obtain ⟨ok1, oka, okn, okv, okb, okby, okl, oklt⟩ := HOKC.out
      simp only at d0 d1 d2 d3 d4 ok1 oka okn okv okb okby okl oklt
      obtain ⟨bo, bc, rfl, -⟩ := id okb
      have OKB := hid okb
      have OKT := hid oklt
      clear HOKC okb oklt
      have I1 := Inst.new wr 41 (.int .i64 ck) (.int .u32 ca) (.int .i64 cn) (.int .u32 cv) (.slice bo cb.length bc)
      have hbW := below_alloc wr (.cells #[.int .i64 ck, .int .u32 ca, .int .i64 cn, .int .u32 cv, .slice bo cb.length bc] 41)
      have hM1 := HM.out.below hbW
      have hR1 := HR.out.below hbW
      have hAp := RefAt.apart HR.out hbW (Nat.le_refl _)
      have hw1 := bel_step HBW.out hbW
      by_cases hk0 : ck = 0
      · subst hk0
        have hkk : ((0 : Int) == 0) = true := by decide
        go_wp2_with fail
        generalize wr.alloc (.cells #[.int .i64 0, .int .u32 ca, .int .i64 cn, .int .u32 cv, .slice bo cb.length bc] 41) = W1 at *
        refine (Store W1 p B _ _ ca cn cv hM1 oka okn okv (by unfold maxLen; omega)).mono ?_
        rintro e W4 ⟨rfl, hM4, hg4⟩
        replace hM4 := hM4.cap
        have hR4 := hR1.kept hg4 (fun b hb => by cases hb; omega)
        have I4 := inst_blk I1 (hg4.block _ I1.lt (fun e => by have := Option.some.inj e; omega))
        have hAp4 := hAp.kept (Go.Proofs.Ytoabdbnecjbgkaa.M.cell_grown hg4 (a := ⟨q, 0, none⟩) hR1.ltp (fun e => by have : q = B := Option.some.inj e; omega))
        have hbw4 := hw1.grown hg4 hw1.size (fun j hj => by cases hj; omega)
        clear hM1 hR1 hAp hw1 I1 hbW
        obtain ⟨-, c0, c1, c2, c3, c4⟩ := id I4
        go_wp2_with fail
        refine (refStore W4 q rl ca cn cv hR4 (by have := hR4.len; omega) oka okn okv).mono ?_
        rintro e W5 ⟨rfl, rl5, hR5, hrd5, -, hb5, hap5⟩
        have hM5 := hM4.under hb5 lp lB
        obtain ⟨-, e0, e1, e2, e3, e4⟩ := inst_blk I4 (hap5 _ I4.lt hAp4).1
        have hbw5 : Below w1.heap.size w1 W5 := hbw4.trans (Below.mono hb5 (by omega))
        rw [HRD.out] at hrd5
        clear hM4 hR4 I4 hAp4 hbw4 hb5 hap5 hg4 c0 c1 c2 c3 c4
        generalize stN M ca cv (hl4 cn) = MM5 at *
        have HQ1 := hid (fun d => same_sym (Load (W5.drewN d) p B _ _ ca cn (hM5.below (below_drewN (Below.refl _ _) d)) oka okn))
        have HQ2 := hid (fun d => same_sym (Load (W5.drewN d) p B _ _ at_ n (hM5.below (below_drewN (Below.refl _ _) d)) ha bn))
        have HQ3 := hid (fun d => same_sym (refLoad (W5.drewN d) q rl5 ca cn (hR5.below (below_drewN (Below.refl _ _) d)) (by have := hR5.len; omega) oka okn))
        have HQ4 := hid (fun d => same_sym (refLoad (W5.drewN d) q rl5 at_ n (hR5.below (below_drewN (Below.refl _ _) d)) (by have := hR5.len; omega) ha bn))
        rw [hrd5] at HQ3 HQ4
        have HM5 := hid hM5
        have HR5 := hid hR5
        have HRD5 := hid hrd5
        have HBW5 := hid hbw5
        clear hM5 hR5 hrd5 hbw5
        generalize ldN MM5 ca (hl4 cn) = x1 at *
        generalize ldN MM5 at_ (hl4 n) = x2 at *
        have hx1 : (x1 != x1) = false := by simp
        have hx2 : (x2 != x2) = false := by simp
        go_wp2_with fail
        go_quiet ((first
          | (go_at_call 13; first | (with_reducible exact Calls.quiet_of_same (HQ1.out _)) | (with_reducible exact Calls.quiet_of_same (HQ2.out _)))
          | (go_at_call 19; first | (with_reducible exact Calls.quiet_of_same (HQ3.out _)) | (with_reducible exact Calls.quiet_of_same (HQ4.out _)))))
        go_wp2
        go_roundw
        case rel => exact ⟨k + 1, MM5, rl5, by omega, by go_num, HM5.out.below (below_drewN (Below.refl _ _) _), HR5.out.below (below_drewN (Below.refl _ _) _), HRD5.out, below_drewN HBW5.out _⟩
        case measure => simp [intOf]; omega
      · have hkk : (ck == 0) = false := by simpa using hk0
        go_wp2_with fail
        generalize wr.alloc (.cells #[.int .i64 ck, .int .u32 ca, .int .i64 cn, .int .u32 cv, .slice bo cb.length bc] 41) = W1 at *
        refine (LayG W1 p B _ ca _ cb hM1 oka (OKB.out.old hw1) okby okl (fun h0 x n c e => by have := OKT.out h0 x n c e; omega)).mono ?_
        rintro e W4 ⟨rfl, hM4, hg4⟩
        have hR4 := hR1.kept hg4 (fun b hb => by cases hb; omega)
        have I4 := inst_blk I1 (hg4.block _ I1.lt (fun e => by have := Option.some.inj e; omega))
        have hAp4 := hAp.kept (Go.Proofs.Ytoabdbnecjbgkaa.M.cell_grown hg4 (a := ⟨q, 0, none⟩) hR1.ltp (fun e => by have : q = B := Option.some.inj e; omega))
        have hbw4 := hw1.grown hg4 hw1.size (fun j hj => by cases hj; omega)
        clear hM1 hR1 hAp hw1 I1 hbW hg4
        unfold maxLen at okl
        have HM4 := hid hM4
        have HR4 := hid hR4
        have HI4 := hid I4
        have HA4 := hid hAp4
        have HBW4 := hid hbw4
        generalize wr.heap.size = X at *
        clear hM4 hR4 I4 hAp4 hbw4
        go_wp2
        go_loopw [13] (fun i wq => ∃ (j : Nat) (m : List (Int × Int)), j ≤ cb.length ∧ i = .int .i64 j ∧ RefAt wq q m ∧ rd m = layN M ca cb j ∧ Below q W4 wq ∧ Inst wq X (.int .i64 ck) (.int .u32 ca) (.int .i64 cn) (.int .u32 cv) (.slice bo cb.length bc) ∧ Apart wq q X ∧ Below w1.heap.size w1 wq) (fun i wq => cb.length - (intOf i).toNat)
        case atStart => exact ⟨0, rl, by omega, rfl, HR4.out, HRD.out, Below.refl _ _, HI4.out, HA4.out, HBW4.out⟩
        case round =>
          obtain ⟨j, m, hj, rfl, hRj, hrdj, hbj, hIj, hAj, hbwj⟩ := hrel
          clear HR4 HI4 HA4 HBW4
          obtain ⟨hxl, e0, e1, e2, e3, e4⟩ := id hIj
          by_cases hj2 : j < cb.length
          · have hjl : (j : Int) < cb.length := by omega
            obtain ⟨bo', bc', h9, hby⟩ := OKB.out.old hbwj
            injection h9 with h9 _ h10
            subst h9 h10
            obtain ⟨bb, oo, rfl, g0⟩ := hby j hj2
            have hbt := okby (cb.getD j 0) (by simp [List.getD, hj2])
            have HST : Hid (upd (layN M ca cb j) (adr ca j) (cb.getD j 0) = layN M ca cb (j + 1)) := hid rfl
            have HRJ := hid hRj
            have HRDJ := hid hrdj
            have HBJ := hid hbj
            have HIJ := hid hIj
            have HAJ := hid hAj
            have HBWJ := hid hbwj
            clear hby hRj hrdj hbj hIj hAj hbwj
            generalize cb.getD j 0 = y at *
            go_wp2_with fail
            go_still_tail 11, (by kernel_rfl)
            have hbd : Below wr.heap.size wr wr.drew := (Below.refl _ _).drew
            have hRd := HRJ.out.below hbd
            have hId : Inst wr.drew X _ _ _ _ _ := inst_blk HIJ.out rfl
            have hAd : Apart wr.drew q X := HAJ.out
            have hBd : Below q W4 wr.drew := HBJ.out.drew
            have hWd : Below w1.heap.size w1 wr.drew := HBWJ.out.drew
            change wpList _ _ _ _ _ wr.drew
            generalize wr.drew = wd at *
            clear hbd HRJ HIJ HAJ HBJ HBWJ e0 e1 e2 e3 e4 g0
            go_wp2_with fail
            rw [show (ca + (j : Int) % 4294967296) % 4294967296 = adr ca j by unfold adr; omega]
            refine (Put wd q m (adr ca j) y hRd (by have := hRd.len; omega) (adr_ok _ _) hbt).mono ?_
            rintro e W' ⟨rfl, m', hR', hrd', -, hbp, hap'⟩
            have hql : q ≤ X := by omega
            obtain ⟨g1, g2⟩ := hap' X hId.lt hAd
            go_wp2
            go_roundw
            case rel => exact ⟨j + 1, m', by omega, by go_num, hR', by rw [hrd', HRDJ.out, HST.out], hBd.trans hbp, inst_blk hId g1, g2, hWd.trans (Below.mono hbp (by omega))⟩
            case measure => simp [intOf]; omega
          · obtain rfl : j = cb.length := by omega
            obtain ⟨W5, rfl⟩ : ∃ x, x = wr := ⟨_, rfl⟩
            obtain ⟨rl5, rfl⟩ : ∃ x, x = m := ⟨_, rfl⟩
            have hM5 := HM4.out.under hbj lp lB
            have hR5 := hRj
            have hrd5 := hrdj
            have hbw5 := hbwj
            clear hIj hAj hbj hRj hrdj hbwj HM4
            generalize layN M ca cb cb.length = MM5 at *
            have HQ1 := hid (fun d => same_sym (Load (W5.drewN d) p B _ _ ca cn (hM5.below (below_drewN (Below.refl _ _) d)) oka okn))
            have HQ2 := hid (fun d => same_sym (Load (W5.drewN d) p B _ _ at_ n (hM5.below (below_drewN (Below.refl _ _) d)) ha bn))
            have HQ3 := hid (fun d => same_sym (refLoad (W5.drewN d) q rl5 ca cn (hR5.below (below_drewN (Below.refl _ _) d)) (by have := hR5.len; omega) oka okn))
            have HQ4 := hid (fun d => same_sym (refLoad (W5.drewN d) q rl5 at_ n (hR5.below (below_drewN (Below.refl _ _) d)) (by have := hR5.len; omega) ha bn))
            rw [hrd5] at HQ3 HQ4
            have HM5 := hid hM5
            have HR5 := hid hR5
            have HRD5 := hid hrd5
            have HBW5 := hid hbw5
            clear hM5 hR5 hrd5 hbw5
            generalize ldN MM5 ca (hl4 cn) = x1 at *
            generalize ldN MM5 at_ (hl4 n) = x2 at *
            have hx1 : (x1 != x1) = false := by simp
            have hx2 : (x2 != x2) = false := by simp
            go_wp2_with fail
            go_quiet ((first
              | (go_at_call 13; first | (with_reducible exact Calls.quiet_of_same (HQ1.out _)) | (with_reducible exact Calls.quiet_of_same (HQ2.out _)))
              | (go_at_call 19; first | (with_reducible exact Calls.quiet_of_same (HQ3.out _)) | (with_reducible exact Calls.quiet_of_same (HQ4.out _)))))
            go_wp2
            go_roundw
            case rel => exact ⟨k + 1, MM5, rl5, by omega, by go_num, HM5.out.below (below_drewN (Below.refl _ _) _), HR5.out.below (below_drewN (Below.refl _ _) _), HRD5.out, below_drewN HBW5.out _⟩
            case measure => simp [intOf]; omega
    · obtain rfl : k = acts.length := by omega
      have hM5 := HM.out
      have hbb := HB1.out.trans (Below.mono HBW.out HB1.out.size)
      clear HA1 HO1 HBW HB1 hbw
      go_wp2_with fail
      refine (Cells wr p B _ _ hM5 (by omega)).mono ?_
      rintro e w7 ⟨v7, m, rfl, hv7, hm7, hml7, hb7⟩
      have hR7 := HR.out.below hb7
      have hc7 := hv7.cells
      have hbb7 := bel_step hbb hb7
      clear hM5 HM HR hb7 hv7 hbb
      go_wp2_with fail
      refine (refCells w7 q rl hR7 (by have := hR7.len; omega)).mono ?_
      rintro e w8 ⟨v8, m', rfl, hv8, hm8, hml8, hb8⟩
      rw [HRD.out] at hm8
      obtain rfl := hm8.one hm7 (fun _ _ => rfl)
      have hc8 := hc7.old hb8
      have hbb8 := bel_step hbb7 hb8
      have hS := Same w8 v7 v8 m' m' hc8 hv8.cells (by have := hR7.len; omega)
      have hd : decide (m' = m') = true := by simp
      rw [hd] at hS
      clear hR7 hc7 hb8 hv8 hc8 hm7 hm8 hd hbb7
      go_wp2_with fail
      refine hS.mono ?_
      rintro e w9 ⟨rfl, hb9⟩
      have hbb9 := bel_step hbb8 hb9
      clear hS hb9 hbb8
      go_wp2
      go_ret
      exact ⟨rfl, hbb9⟩

theorem own : ownKnob Try.prog.godebug = none := by kernel_rfl
theorem laidOut : laidOutB Try.prog = true := by kernel_rfl

set_option maxRecDepth 100000 in
theorem lifted (os : Os) (started : os.Started) (H : Type) (enc : TypeId × Value → H) :
    ReturnsInHanded {} Try.checked os 5 .any (Rows.memPlaysSpec.pre6 enc Try.prog Try.f5 Rows.memPlaysRow.domain false) (Rows.memPlaysSpec.post enc Try.prog Try.f5 false true false false) := by
  refine returnsInHanded_of_change (C := Try.checked) own started (by kernel_rfl) Try.func5
    (ChangeSpec.witness6 (enc := enc) (C := Try.checked) false ⟨#[], #[.slice none 0 0, .slice none 0 0, .int .u32 0, .int .i64 0], []⟩ 8 (by kernel_rfl) (by kernel_rfl) (by kernel_rfl) (by kernel_rfl)) ?_
  intro W base args ds gs before hval0 hW hcnd _
  have hval : ∀ (j : Nat) t v, Try.f5.params[j]? = some t → args[j]? = some v → Value.okWide Try.prog W .any base t v := hval0
  have hW' := hW
  obtain ⟨p, q, hA0, hV, rfl, hfz, hnd⟩ := hW
  have hA : DataW.TrodAll enc Try.prog W 0 (fun _ => true) true Try.f5.params.toList args.toList ds p := hA0
  rw [Try.params5] at hA hval
  obtain ⟨v0, vs0, d0, ds0, p0, q0, hargs, rfl, rfl, h0, r0⟩ := trodAll_cons hA
  obtain ⟨v1, vs1, d1, ds1, p1, q1, rfl, rfl, rfl, h1, r1⟩ := trodAll_cons r0
  obtain ⟨v2, vs2, d2, ds2, p2, q2, rfl, rfl, rfl, h2, r2⟩ := trodAll_cons r1
  obtain ⟨v3, vs3, d3, ds3, p3, q3, rfl, rfl, rfl, h3, r3⟩ := trodAll_cons r2
  obtain ⟨rfl, rfl, rfl⟩ := trodAll_nil r3
  obtain rfl : args = #[v0, v1, v2, v3] := by cases args; simp_all
  obtain ⟨rfl, rfl⟩ := trodVars_none hV
  have k0 := h0
  have lt0 : ∀ x ∈ p0, x.block < W.heap.size := by obtain ⟨m, hm⟩ := k0; exact DataW.trod_lt m _ _ _ hm
  obtain ⟨a0, w0, x0, y0⟩ := Go.Proofs.Ytoabdbnecjbgkaa.M.open_cells (hval 0 22 v0 rfl rfl) h0
  have k1 := h1
  have lt1 : ∀ x ∈ p1, x.block < W.heap.size := by obtain ⟨m, hm⟩ := k1; exact DataW.trod_lt m _ _ _ hm
  obtain ⟨a1, w1, x1, y1⟩ := Go.Proofs.Ytoabdbnecjbgkaa.M.open_acts (hval 1 35 v1 rfl rfl) h1
  obtain ⟨a2, rfl, rfl, rfl, w2⟩ := open_int Try.underlying23 (hval 2 23 v2 rfl rfl) h2
  have b2 : 0 ≤ a2 ∧ a2 < 4294967296 := by
    have : 0 ≤ a2 ∧ a2 ≤ 4294967295 := by simpa [Lit.wf, IntKind.min, IntKind.max, IntKind.signed, IntKind.bits] using w2
    omega
  obtain ⟨a3, rfl, rfl, rfl, w3⟩ := open_int Try.underlying3 (hval 3 3 v3 rfl rfl) h3
  have b3 : -9223372036854775808 ≤ a3 ∧ a3 < 9223372036854775808 := by
    have : -9223372036854775808 ≤ a3 ∧ a3 ≤ 9223372036854775807 := by simpa [Lit.wf, IntKind.min, IntKind.max, IntKind.signed, IntKind.bits] using w3
    omega
  clear hA0 hval0
  simp only [List.append_nil] at hW'
  refine (main v0 a0 v1 a1 a2 b2 a3 b3 W w0 x0 y0 w1 x1 y1).mono fun e W' ⟨he, bel⟩ => ?_
  subst he
  exact ⟨_, rfl, _, _, _, [], _, [], hW', trodAll_mk1 (shut_bool Try.underlying4 _), (trodAll_cons_mk (Below.trod laidOut (by kernel_rfl) (of_decide_eq_true (by kernel_rfl)) k0 bel lt0) (trodAll_cons_mk (Below.trod laidOut (by kernel_rfl) (of_decide_eq_true (by kernel_rfl)) k1 bel lt1) (trodAll_cons_mk (shut_int Try.underlying23 w2) (trodAll_cons_mk (shut_int Try.underlying3 w3) trodAll_mk0)))), rfl, by simpa using bel.frame _, fun h => by cases h⟩

theorem over : Rows.memPlaysRow.holds Try.pinned (OpenSpec.ofChange Rows.memPlaysSpec) :=
  OpenClaim.holds_of_wide 5 Try.f5 rfl rfl rfl rfl rfl rfl rfl ⟨rfl, rfl, rfl, rfl, rfl⟩ rfl rfl rfl rfl rfl (by kernel_rfl) Try.func5 (by kernel_rfl)
    (of_decide_eq_true (by kernel_rfl)) (by unfold Func.isWrapper; first | (rw [if_pos (by decide +kernel)]; kernel_rfl) | (rw [if_neg (by decide +kernel)]; exact ⟨rfl, rfl⟩))
    (fun os started H enc _ => lifted os started H enc)

theorem proved : Rows.MemPlaysSaid :=
  over
#print axioms proved
end Go.Proofs.Ytoabdbnecjbgkaa.memPlays
