/- What the functions of package typecaseref04 compute: bits told one by one; the numbers of a word. -/
import Derived.Test.YtabdfbghhkpoeaaDoorOwn
import Derived.Test.YtabdfbghhkpoeaaDoorRef01
import Derived.Test.YtabdfbghhkpoeaaDoorInsP
namespace Go.Proofs.YtabdfbghhkpoeaaDoor.R4
set_option linter.unusedVariables false
open Go.ChangeShapes Go.WideShapes Go.ChangeAt Go.RowKit Go.Proofs.YtabdfbghhkpoeaaDoor.P Go.Proofs.YtabdfbghhkpoeaaDoor.W Go.Proofs.YtabdfbghhkpoeaaDoor.O

/-- a slice of ints of the call's own is handed back -/
def Gives (w0 : World) (l : List Int) (e : Ending) (w' : World) : Prop := ∃ v, e = .returned v ∧ IntsAt w' w0.heap.size v l ∧ Below w0.heap.size w0 w'

theorem Down (A B : Int) (l n : Nat) (w : World) (hA : A = (l : Int) + n - 1) (hB : B = l) (hl : l ≤ 1000) (hn : n ≤ 1000) :
    Calls Tryd.prog 44 #[.int .i64 A, .int .i64 B] w (Gives w (dn l n)) := by
  subst hA hB
  go_enter Tryd.func44, Tryd.ntmps44
  go_wp2
  go_loopw [5, 6] (fun v i wr => ∃ k : Nat, k ≤ n ∧ i = .int .i64 ((l : Int) + n - 1 - k) ∧ Stack w wr [(v, (dn l n).take k)]) (fun _ i _ => (intOf i + 1 - l).toNat)
  case atStart => exact ⟨0, by omega, by simp, (Stack.start w).call (Below.refl _ _) (IntsAt.nil _ _)⟩
  case round =>
    obtain ⟨k, hk, rfl, hst⟩ := hrel
    have hlen : ((dn l n).take k).length = k := by rw [List.length_take, dn_length]; omega
    by_cases hs : k < n
    · have HT := hid (dn_take l n k hs)
      have HL := hid (hlen)
      clear hlen
      go_wp2_with (first | (at_builtin; refine app rfl (.tmp 13) (.tmp 15) rfl rfl rfl (hst.lit [(l : Int) + n - 1 - k] _ _ rfl rfl (by simp [maxLen])) (by simp) (by rw [HL.out]; simp; omega) ?_; intro v1 w1 hst1))
      go_roundw
      case rel => exact ⟨k + 1, by omega, by go_num, by rw [HT.out]; exact hst1⟩
      case measure => simp [intOf]; omega
    · obtain rfl : k = n := by omega
      have HL := hid (hlen)
      clear hlen
      go_wp2
      go_ret
      refine ⟨_, rfl, ?_, hst.bel⟩
      have := hst.top
      rw [List.take_of_length_le (by rw [dn_length]; omega)] at this
      exact this

theorem Bits (x : Int) (v : Value) (l : List Int) (B : Nat) (w : World) (h0 : 0 ≤ x) (h1 : x < 4294967296) (H : IntsAt w B v l) (hne : l ≠ []) (hlen : l.length ≤ 32) :
    Calls Tryd.prog 49 #[.int .u32 x, v] w fun e w' => e = .returned (.int .i32 (sgn (bitsV x l) l.length)) ∧ w = w' := by
  obtain ⟨g, cap, rfl, hbg, hgl, hlc, hcm, hcell⟩ := H.form hne
  have HC := hid hcell
  clear hcell H
  have hh : held (l.length : Int) = l.length := held_nat hlen
  go_enter Tryd.func49, Tryd.ntmps49
  go_wp2
  go_loop [5, 6] (fun v i => ∃ k : Nat, k ≤ l.length ∧ i = .int .i64 k ∧ v = .int .u32 (bitsV x (l.take k))) (fun _ i => l.length - (intOf i).toNat)
  case atStart => exact ⟨0, by omega, rfl, rfl⟩
  case round =>
    obtain ⟨k, hk, rfl, rfl⟩ := hrel
    have hb := bitsV_bd x (l.take k)
    have hlt : (l.take k).length = k := by rw [List.length_take]; omega
    rw [hlt] at hb
    by_cases hs : k < l.length
    · have hc := HC.out k hs
      have hp : (2 : Int) ^ k ≤ 2 ^ 31 := p2le (by omega)
      have hp2 : (2 : Int) ^ 31 = 2147483648 := by decide
      rw [hp2] at hp
      have hsn := bitsV_snoc x (l.take k) (l.getD k 0)
      have htk : l.take (k + 1) = l.take k ++ [l.getD k 0] := by
        rw [List.take_succ_eq_append_getElem hs]; simp [List.getD, hs]
      rw [← htk] at hsn
      have HS := hid hsn
      have hbi := bi_bd x (l.getD k 0)
      have hbd : bi x (l.getD k 0) = if 0 ≤ l.getD k 0 then x / 2 ^ (l.getD k 0).toNat % 2 else 0 := rfl
      have HB := hid hbd
      clear hsn htk hbd hlt hp2
      generalize l.getD k 0 = q at *
      by_cases hq : 0 ≤ q
      · have e : bi x q = x / 2 ^ q.toNat % 2 := by rw [HB.out, if_pos hq]
        rw [e] at hbi
        have HE := hid e
        clear e
        go_wp2_with (first | (go_at_call 24; refine (R1.Bit _ _ _ (by omega) (by omega)).mono ?_; rintro e w' ⟨rfl, rfl⟩))
        go_round
        case rel => exact ⟨k + 1, by omega, by go_num, by rw [HS.out, HE.out]⟩
        case measure => simp [intOf]; omega
      · have e : bi x q = 0 := by rw [HB.out, if_neg hq]
        have HE := hid e
        clear e
        go_wp2_with (first | (go_at_call 24; refine (R1.Bit _ _ _ (by omega) (by omega)).mono ?_; rintro e w' ⟨rfl, rfl⟩))
        go_round
        case rel => exact ⟨k + 1, by omega, by go_num, by rw [HS.out, HE.out]; simp⟩
        case measure => simp [intOf]; omega
    · obtain rfl : k = l.length := by omega
      have ht : l.take l.length = l := List.take_length
      have hp : (2 : Int) ^ l.length ≤ 2 ^ 32 := p2le hlen
      have hp2 : (2 : Int) ^ 32 = 4294967296 := by decide
      rw [hp2] at hp
      rw [ht] at hb
      clear hlt hp2
      go_wp2_with (first | (go_at_call 53; refine (R1.Sign _ _ _ (by omega) (by omega)).mono ?_; rintro e w' ⟨rfl, rfl⟩))
      go_ret
      exact ⟨rfl, rfl⟩

theorem ImmI (x : Int) (w : World) (h0 : 0 ≤ x) (h1 : x < 4294967296) :
    Calls Tryd.prog 32 #[.int .u32 x] w fun e w' => e = .returned (.int .i32 (immI x)) ∧ Below w.heap.size w w' := by
  have hst0 := Stack.start w
  go_enter Tryd.func32, Tryd.ntmps32
  go_wp2_with fail
  refine (Down _ _ 20 12 _ rfl rfl (by decide) (by decide)).mono ?_
  rintro e w1 ⟨v1, rfl, hi1, hb1⟩
  have hst1 := Stack.call (by exact hst0) hb1 hi1
  go_wp2_with fail
  refine (Bits _ _ _ _ _ h0 h1 hst1.top (by decide) (by decide)).mono ?_
  rintro e w' ⟨rfl, rfl⟩
  go_wp2
  go_ret
  exact ⟨rfl, hst1.bel⟩

theorem ImmS (x : Int) (w : World) (h0 : 0 ≤ x) (h1 : x < 4294967296) :
    Calls Tryd.prog 33 #[.int .u32 x] w fun e w' => e = .returned (.int .i32 (immS x)) ∧ Below w.heap.size w w' := by
  have hst0 := Stack.start w
  go_enter Tryd.func33, Tryd.ntmps33
  go_wp2_with fail
  refine (Down _ _ 25 7 _ rfl rfl (by decide) (by decide)).mono ?_
  rintro e w1 ⟨v1, rfl, hi1, hb1⟩
  have hst1 := Stack.call (by exact hst0) hb1 hi1
  go_wp2_with fail
  refine (Down _ _ 7 5 _ rfl rfl (by decide) (by decide)).mono ?_
  rintro e w2 ⟨v2, rfl, hi2, hb2⟩
  have hst2 := Stack.call (by exact hst1) hb2 hi2
  go_wp2_with (first | (at_builtin; refine app rfl _ _ rfl rfl rfl (by exact hst2) (by decide) (by decide) ?_; intro v3 w3 hst3))
  go_wp2_with fail
  refine (Bits _ _ _ _ _ h0 h1 hst3.top (by decide) (by decide)).mono ?_
  rintro e w' ⟨rfl, rfl⟩
  go_wp2
  go_ret
  exact ⟨rfl, hst3.bel⟩

theorem ImmB (x : Int) (w : World) (h0 : 0 ≤ x) (h1 : x < 4294967296) :
    Calls Tryd.prog 31 #[.int .u32 x] w fun e w' => e = .returned (.int .i32 (immB x)) ∧ Below w.heap.size w w' := by
  have hst0 := Stack.start w
  go_enter Tryd.func31, Tryd.ntmps31
  go_wp2_with fail
  refine (Down _ _ 25 6 _ rfl rfl (by decide) (by decide)).mono ?_
  rintro e w1 ⟨v1, rfl, hi1, hb1⟩
  have hst1 := Stack.call (by exact (hst0.lit [31, 7] _ _ rfl rfl (by decide))) hb1 hi1
  go_wp2_with (first | (at_builtin; refine app rfl _ _ rfl rfl rfl (by exact hst1) (by decide) (by decide) ?_; intro v2 w2 hst2))
  go_wp2_with fail
  refine (Down _ _ 8 4 _ rfl rfl (by decide) (by decide)).mono ?_
  rintro e w3 ⟨v3, rfl, hi3, hb3⟩
  have hst3 := Stack.call (by exact hst2) hb3 hi3
  go_wp2_with (first | (at_builtin; refine app rfl _ _ rfl rfl rfl (by exact hst4) (by decide) (by decide) ?_; intro v5 w5 hst5) | (at_builtin; refine app rfl _ _ rfl rfl rfl (by exact (hst3.lit [-1] _ _ rfl rfl (by decide))) (by decide) (by decide) ?_; intro v4 w4 hst4))
  go_wp2_with fail
  refine (Bits _ _ _ _ _ h0 h1 hst5.top (by decide) (by decide)).mono ?_
  rintro e w' ⟨rfl, rfl⟩
  go_wp2
  go_ret
  exact ⟨rfl, hst5.bel⟩

theorem ImmU (x : Int) (w : World) (h0 : 0 ≤ x) (h1 : x < 4294967296) :
    Calls Tryd.prog 29 #[.int .u32 x] w fun e w' => e = .returned (.int .i32 (immU x)) ∧ Below w.heap.size w w' := by
  have hst0 := Stack.start w
  go_enter Tryd.func29, Tryd.ntmps29
  go_wp2_with fail
  refine (Down _ _ 12 20 _ rfl rfl (by decide) (by decide)).mono ?_
  rintro e w1 ⟨v1, rfl, hi1, hb1⟩
  have hst1 := Stack.call (by exact hst0) hb1 hi1
  go_wp2_with (first | (at_builtin; refine app rfl _ _ rfl rfl rfl (by exact (hst1.lit [-1, -1, -1, -1, -1, -1, -1, -1, -1, -1, -1, -1] _ _ rfl rfl (by decide))) (by decide) (by decide) ?_; intro v2 w2 hst2))
  go_wp2_with fail
  refine (Bits _ _ _ _ _ h0 h1 hst2.top (by decide) (by decide)).mono ?_
  rintro e w' ⟨rfl, rfl⟩
  go_wp2
  go_ret
  exact ⟨rfl, hst2.bel⟩

theorem ImmJ (x : Int) (w : World) (h0 : 0 ≤ x) (h1 : x < 4294967296) :
    Calls Tryd.prog 30 #[.int .u32 x] w fun e w' => e = .returned (.int .i32 (immJ x)) ∧ Below w.heap.size w w' := by
  have hst0 := Stack.start w
  go_enter Tryd.func30, Tryd.ntmps30
  go_wp2_with fail
  refine (Down _ _ 12 8 _ rfl rfl (by decide) (by decide)).mono ?_
  rintro e w1 ⟨v1, rfl, hi1, hb1⟩
  have hst1 := Stack.call (by exact (hst0.lit [31] _ _ rfl rfl (by decide))) hb1 hi1
  go_wp2_with (first | (at_builtin; refine app rfl _ _ rfl rfl rfl (by exact (hst2.lit [20] _ _ rfl rfl (by decide))) (by decide) (by decide) ?_; intro v3 w3 hst3) | (at_builtin; refine app rfl _ _ rfl rfl rfl (by exact hst1) (by decide) (by decide) ?_; intro v2 w2 hst2))
  go_wp2_with fail
  refine (Down _ _ 21 10 _ rfl rfl (by decide) (by decide)).mono ?_
  rintro e w4 ⟨v4, rfl, hi4, hb4⟩
  have hst4 := Stack.call (by exact hst3) hb4 hi4
  go_wp2_with (first | (at_builtin; refine app rfl _ _ rfl rfl rfl (by exact hst5) (by decide) (by decide) ?_; intro v6 w6 hst6) | (at_builtin; refine app rfl _ _ rfl rfl rfl (by exact (hst4.lit [-1] _ _ rfl rfl (by decide))) (by decide) (by decide) ?_; intro v5 w5 hst5))
  go_wp2_with fail
  refine (Bits _ _ _ _ _ h0 h1 hst6.top (by decide) (by decide)).mono ?_
  rintro e w' ⟨rfl, rfl⟩
  go_wp2
  go_ret
  exact ⟨rfl, hst6.bel⟩

end Go.Proofs.YtabdfbghhkpoeaaDoor.R4
