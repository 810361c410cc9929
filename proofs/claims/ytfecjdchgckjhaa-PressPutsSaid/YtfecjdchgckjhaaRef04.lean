/- What the functions of package typecaseref04 compute: bits told one by one; the numbers of a word. -/
import Derived.Test.YtfecjdchgckjhaaOwn
import Derived.Test.YtfecjdchgckjhaaRef01
import Derived.Test.YtfecjdchgckjhaaWordP
namespace Go.Proofs.Ytfecjdchgckjhaa.R4
set_option linter.unusedVariables false
open Go.ChangeShapes Go.WideShapes Go.ChangeAt Go.RowKit Go.Proofs.Ytfecjdchgckjhaa.P Go.Proofs.Ytfecjdchgckjhaa.W Go.Proofs.Ytfecjdchgckjhaa.O

/-- a slice of ints of the call's own is handed back -/
def Gives (w0 : World) (l : List Int) (e : Ending) (w' : World) : Prop := ∃ v, e = .returned v ∧ IntsAt w' w0.heap.size v l ∧ Below w0.heap.size w0 w'

theorem Bits (x : Int) (v : Value) (l : List Int) (B : Nat) (w : World) (h0 : 0 ≤ x) (h1 : x < 4294967296) (H : IntsAt w B v l) (hne : l ≠ []) (hlen : l.length ≤ 32) :
    Calls Try.prog 48 #[.int .u32 x, v] w fun e w' => e = .returned (.int .i32 (sgn (bitsV x l) l.length)) ∧ w = w' := by
  obtain ⟨g, cap, rfl, hbg, hgl, hlc, hcm, hcell⟩ := H.form hne
  have HC := hid hcell
  clear hcell H
  have hh : held (l.length : Int) = l.length := held_nat hlen
  go_enter Try.func48, Try.ntmps48
  go_wp2
  go_loop [5, 6] (fun v i => ∃ k : Nat, k ≤ l.length ∧ i = .int .i64 k ∧ v = .int .u32 (bitsV x (l.take k))) (fun _ i => l.length - (intOf i).toNat)
  case atStart => exact ⟨0, by omega, rfl, rfl⟩
  case round =>
    obtain ⟨k, hk, rfl, rfl⟩ := hrel
    have hb := bitsV_bd x (l.take k)
    have hlt : (l.take k).length = k := by rw [List.length_take]; omega
    rw [hlt] at hb
    by_cases hs : k < l.length
    · have hc := HC.out k hs
      have hp : (2 : Int) ^ k ≤ 2 ^ 31 := p2le (by omega)
      have hp2 : (2 : Int) ^ 31 = 2147483648 := by decide
      rw [hp2] at hp
      have hsn := bitsV_snoc x (l.take k) (l.getD k 0)
      have htk : l.take (k + 1) = l.take k ++ [l.getD k 0] := by
        rw [List.take_succ_eq_append_getElem hs]; simp [List.getD, hs]
      rw [← htk] at hsn
      have HS := hid hsn
      have hbi := bi_bd x (l.getD k 0)
      have hbd : bi x (l.getD k 0) = if 0 ≤ l.getD k 0 then x / 2 ^ (l.getD k 0).toNat % 2 else 0 := rfl
      have HB := hid hbd
      clear hsn htk hbd hlt hp2
      generalize l.getD k 0 = q at *
      by_cases hq : 0 ≤ q
      · have e : bi x q = x / 2 ^ q.toNat % 2 := by rw [HB.out, if_pos hq]
        rw [e] at hbi
        have HE := hid e
        clear e
        go_wp2_with (first | (go_at_call 59; refine (R1.Bit _ _ _ (by omega) (by omega)).mono ?_; rintro e w' ⟨rfl, rfl⟩))
        go_round
        case rel => exact ⟨k + 1, by omega, by go_num, by rw [HS.out, HE.out]⟩
        case measure => simp [intOf]; omega
      · have e : bi x q = 0 := by rw [HB.out, if_neg hq]
        have HE := hid e
        clear e
        go_wp2_with (first | (go_at_call 59; refine (R1.Bit _ _ _ (by omega) (by omega)).mono ?_; rintro e w' ⟨rfl, rfl⟩))
        go_round
        case rel => exact ⟨k + 1, by omega, by go_num, by rw [HS.out, HE.out]; simp⟩
        case measure => simp [intOf]; omega
    · obtain rfl : k = l.length := by omega
      have ht : l.take l.length = l := List.take_length
      have hp : (2 : Int) ^ l.length ≤ 2 ^ 32 := p2le hlen
      have hp2 : (2 : Int) ^ 32 = 4294967296 := by decide
      rw [hp2] at hp
      rw [ht] at hb
      clear hlt hp2
      go_wp2_with (first | (go_at_call 60; refine (R1.Sign _ _ _ (by omega) (by omega)).mono ?_; rintro e w' ⟨rfl, rfl⟩))
      go_ret
      exact ⟨rfl, rfl⟩

end Go.Proofs.Ytfecjdchgckjhaa.R4
