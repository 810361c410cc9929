/- What press.Names computes. -/
import Derived.Test.YtfecjdchgckjhaaPress0
import Derived.Test.YtfecjdchgckjhaaOwnS
namespace Go.Proofs.Ytfecjdchgckjhaa.F
set_option linter.unusedVariables false
set_option linter.unusedSimpArgs false
open Go.ChangeShapes Go.WideShapes Go.ChangeAt Go.RowKit Go.Proofs.Ytfecjdchgckjhaa.P Go.Proofs.Ytfecjdchgckjhaa.W Go.Proofs.Ytfecjdchgckjhaa.O

def nmL : List ByteArray := prL.map (·.nm)
theorem nmL_at {k : Nat} (hk : k < 27) : nmL.getD k ⟨#[]⟩ = (prAt k).nm := by
  have hl : k < prL.length := by rw [prL_length]; exact hk
  unfold nmL prAt
  simp [List.getD, hl]
theorem nmL_take {k : Nat} (hk : k < 27) : nmL.take (k + 1) = nmL.take k ++ [(prAt k).nm] := by
  have hl : k < nmL.length := hk
  rw [List.take_succ_eq_append_getElem hl, ← nmL_at hk]
  simp [List.getD, hl]
set_option maxHeartbeats 2000000 in
theorem Names (w : World) : Calls Try.prog 15 #[] w
    fun e w' => ∃ b c, e = .returned (.slice (some ⟨b, 0, none⟩) 27 c) ∧ Below w.heap.size w w' ∧ b < w'.heap.size ∧ ∀ k, k < 27 → w'.cell? ⟨b, k, none⟩ = some (.string (prAt k).nm) := by
  go_enter Try.func15, Try.ntmps15
  go_wp2_with fail
  refine (rows _).mono ?_
  rintro e w1 ⟨b, rfl, hR, hbb, hb1⟩
  replace hR := hid hR
  go_wp2
  go_loopw [1, 6] (fun v i wr => ∃ k : Nat, k ≤ 27 ∧ i = .int .i64 k ∧ StrsOwn wr w1.heap.size v (nmL.take k) ∧ Below w1.heap.size w1 wr) (fun _ i _ => 27 - (intOf i).toNat)
  case atStart => exact ⟨0, by omega, rfl, StrsOwn.nil _ _, Below.refl _ _⟩
  case round =>
    obtain ⟨k, hk, rfl, hown, hbel⟩ := hrel
    have hlk : (nmL.take k).length = k := by rw [List.length_take]; have : nmL.length = 27 := rfl; omega
    by_cases hs : k < 27
    · obtain ⟨hb, hcells⟩ := hR.out.below hbel
      have hrow := hcells k hs
      have hlt : (k : Int) < 27 := by omega
      have hsz := hbel.size
      have htk := nmL_take hs
      have HTK := hid htk
      have HLK := hid hlk
      clear hcells htk hlk
      generalize prAt k = r at *
      obtain ⟨nm, rop, m, krd, kr1, kr2, sg, un, lo, hi, no, bt⟩ := r
      obtain ⟨rl, c0, c1, c2, c3, c4, c5, c6, c7, c8, c9, c10, c11⟩ := hrow
      simp only [] at c0 c1 c2 c3 c4 c5 c6 c7 c8 c9 c10 c11 HTK
      have hown2 := (hown.below (below_alloc wr (.cells #[.string nm, .int .i64 rop, .int .u16 m, .int .i64 krd, .int .i64 kr1, .int .i64 kr2, .int .i64 sg, .int .i64 un, .int .i32 lo, .int .i32 hi, .bool no, .string bt] 40))).below (below_alloc (wr.alloc (.cells #[.string nm, .int .i64 rop, .int .u16 m, .int .i64 krd, .int .i64 kr1, .int .i64 kr2, .int .i64 sg, .int .i64 un, .int .i32 lo, .int .i32 hi, .bool no, .string bt] 40)) (.cells #[.string nm] 9))
      have hbel2 := bel_step hbel (bel_step (below_alloc wr (.cells #[.string nm, .int .i64 rop, .int .u16 m, .int .i64 krd, .int .i64 kr1, .int .i64 kr2, .int .i64 sg, .int .i64 un, .int .i32 lo, .int .i32 hi, .bool no, .string bt] 40)) (below_alloc (wr.alloc (.cells #[.string nm, .int .i64 rop, .int .u16 m, .int .i64 krd, .int .i64 kr1, .int .i64 kr2, .int .i64 sg, .int .i64 un, .int .i32 lo, .int .i32 hi, .bool no, .string bt] 40)) (.cells #[.string nm] 9)))
      have HO := hid hown2
      have HB := hid hbel2
      clear hown hown2 hbel2
      have hB2 : w1.heap.size ≤ ((wr.alloc (.cells #[.string nm, .int .i64 rop, .int .u16 m, .int .i64 krd, .int .i64 kr1, .int .i64 kr2, .int .i64 sg, .int .i64 un, .int .i32 lo, .int .i32 hi, .bool no, .string bt] 40)).alloc (.cells #[.string nm] 9)).heap.size := Nat.le_trans hsz (by simp only [World.size_alloc]; omega)
      have HB2 := hid hB2
      clear hB2
      have hce : ((wr.alloc (.cells #[.string nm, .int .i64 rop, .int .u16 m, .int .i64 krd, .int .i64 kr1, .int .i64 kr2, .int .i64 sg, .int .i64 un, .int .i32 lo, .int .i32 hi, .bool no, .string bt] 40)).alloc (.cells #[.string nm] 9)).cell? ⟨wr.heap.size + 1, 0, none⟩ = some (.string nm) := by go_simp
      have HCE := hid hce
      clear hce
      go_wp2_with (first | (at_builtin; refine appS rfl (.tmp 10) (.tmp 13) rfl rfl rfl (by exact HO.out) (by exact HB2.out) (by exact HCE.out) (by rw [HLK.out]; omega) ?_; intro v' w' hown' hbl'))
      go_roundw
      case rel => exact ⟨k + 1, by omega, by go_num, by rw [HTK.out]; exact hown', hbl' _ _ (Nat.le_refl _) (Nat.le_refl _) HB.out⟩
      case measure => simp [intOf]; omega
    · obtain rfl : k = 27 := by omega
      have e : nmL.take 27 = nmL := List.take_of_length_le (Nat.le_refl _)
      rw [e] at hown
      obtain ⟨g, cap, rfl, hBg, hgl, hlc, hcm, hcell⟩ := StrsOwn.form hown (by decide)
      have HC := hid hcell
      clear hcell hlk
      go_wp2
      go_ret
      exact ⟨g, cap, rfl, bel_step hb1 hbel, hgl, fun k hk => (HC.out k hk).trans (by rw [nmL_at hk])⟩
end Go.Proofs.Ytfecjdchgckjhaa.F
