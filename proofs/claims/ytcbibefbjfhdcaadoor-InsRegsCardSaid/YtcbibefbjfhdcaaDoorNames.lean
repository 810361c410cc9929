/- What typecaseref03.Names and typecaseref04.at compute. What typecaseref03.Form computes. -/
import Derived.Test.YtcbibefbjfhdcaaDoorDecP
import Derived.Test.YtcbibefbjfhdcaaDoorWord
import Derived.OwnWalk
namespace Go.Proofs.YtcbibefbjfhdcaaDoor.R3
set_option linter.unusedVariables false
open Go.ChangeShapes Go.WideShapes Go.ChangeAt Go.RowKit Go.Proofs.YtcbibefbjfhdcaaDoor.P Go.Proofs.YtcbibefbjfhdcaaDoor.W

/-- a row of strings -/
def StrsAt (w : World) (b : Nat) (l : List ByteArray) : Prop := b < w.heap.size ∧ ∀ k, k < l.length → w.cell? ⟨b, k, none⟩ = some (.string (l.getD k ⟨#[]⟩))
theorem StrsAt.below {w w' : World} {b B : Nat} {l : List ByteArray} (h : StrsAt w b l) (hb : Below B w w') (hB : b < B) : StrsAt w' b l :=
  ⟨Nat.lt_of_lt_of_le h.1 hb.size, fun k hk => (hb.cell (p := ⟨b, k, none⟩) hB).trans (h.2 k hk)⟩
theorem StrsAt.new (w : World) (l : List ByteArray) (t : TypeId) : StrsAt (w.alloc (.cells (l.map Value.string).toArray t)) w.heap.size l := by
  refine ⟨by simp, fun k hk => ?_⟩
  simp [hk]

theorem Names (w : World) : Calls Tryd.prog 10 #[] w
    fun e w' => e = .returned (.slice (some ⟨w.heap.size, 0, none⟩) 49 49) ∧ Below w.heap.size w w' ∧ StrsAt w' w.heap.size names := by
  go_enter Tryd.func10, Tryd.ntmps10
  go_wp2
  go_ret
  exact ⟨rfl, (by repeat' (first | (with_reducible exact Below.refl _ _) | (with_reducible assumption) | (with_reducible refine below_drewN ?_ _) | (with_reducible refine Below.alloc ?_ ?_ _) | (with_reducible refine Below.drew ?_) | (with_reducible refine Below.setCell ?_ ?_ _) | (with_reducible exact Below.size (by assumption)) | go_size)), StrsAt.new w names _⟩
end Go.Proofs.YtcbibefbjfhdcaaDoor.R3

namespace Go.Proofs.YtcbibefbjfhdcaaDoor.R3
set_option linter.unusedVariables false
open Go.ChangeShapes Go.WideShapes Go.ChangeAt Go.RowKit Go.Proofs.YtcbibefbjfhdcaaDoor.P Go.Proofs.YtcbibefbjfhdcaaDoor.W

theorem named (f : Int) (s : ByteArray) (t : List UInt8) (k : Int) (h0 : 1 ≤ k) (h1 : k ≤ 48) (hs : nameN k.toNat = s) (h : (t == s.toList) = true)
    (hall : ∀ j : Nat, j < 49 → 1 ≤ j → ((nameN j).data.toList == t) = true → form (j : Int) = f) : form k = f := by
  subst hs
  have := hall k.toNat (by omega) (by omega) (by rw [beq_iff_eq] at h ⊢; rw [ByteArray.toList_eq] at h; exact h.symm)
  have e : (k.toNat : Int) = k := by omega
  rw [e] at this; exact this
theorem unnamed (s : ByteArray) (k : Int) (h0 : 1 ≤ k) (h1 : k ≤ 48) (hs : nameN k.toNat = s)
    (h : ∀ t ∈ ([[108, 117, 105], [97, 117, 105, 112, 99], [106, 97, 108], [98, 101, 113], [98, 110, 101], [98, 108, 116], [98, 103, 101], [98, 108, 116, 117], [98, 103, 101, 117], [108, 98], [108, 104], [108, 119], [108, 98, 117], [108, 104, 117], [106, 97, 108, 114], [115, 98], [115, 104], [115, 119], [97, 100, 100, 105], [115, 108, 116, 105], [115, 108, 116, 105, 117], [120, 111, 114, 105], [111, 114, 105], [97, 110, 100, 105], [115, 108, 108, 105], [115, 114, 108, 105], [115, 114, 97, 105], [102, 101, 110, 99, 101], [101, 99, 97, 108, 108], [101, 98, 114, 101, 97, 107]] : List (List UInt8)), (t == s.toList) = false) : form k = 8 := by
  subst hs
  have hall : ∀ j : Nat, j < 49 → 1 ≤ j → (form (j : Int) = 8 ∨ (nameN j).data.toList ∈ ([[108, 117, 105], [97, 117, 105, 112, 99], [106, 97, 108], [98, 101, 113], [98, 110, 101], [98, 108, 116], [98, 103, 101], [98, 108, 116, 117], [98, 103, 101, 117], [108, 98], [108, 104], [108, 119], [108, 98, 117], [108, 104, 117], [106, 97, 108, 114], [115, 98], [115, 104], [115, 119], [97, 100, 100, 105], [115, 108, 116, 105], [115, 108, 116, 105, 117], [120, 111, 114, 105], [111, 114, 105], [97, 110, 100, 105], [115, 108, 108, 105], [115, 114, 108, 105], [115, 114, 97, 105], [102, 101, 110, 99, 101], [101, 99, 97, 108, 108], [101, 98, 114, 101, 97, 107]] : List (List UInt8))) := by decide
  have e : (k.toNat : Int) = k := by omega
  rcases hall k.toNat (by omega) (by omega) with h2 | h2
  · rw [e] at h2; exact h2
  · have h3 := h _ h2
    rw [ByteArray.toList_eq] at h3
    simp at h3

/-- the world with the lists -/
structure Lists (w : World) (c : Nat) : Prop where
  lt : c + 8 < w.heap.size
  s0_0 : w.cell? ⟨c, 0, none⟩ = some (.string ⟨#[108, 117, 105]⟩)
  s0_1 : w.cell? ⟨c, 1, none⟩ = some (.string ⟨#[97, 117, 105, 112, 99]⟩)
  s1_0 : w.cell? ⟨c + 1, 0, none⟩ = some (.string ⟨#[106, 97, 108]⟩)
  s2_0 : w.cell? ⟨c + 2, 0, none⟩ = some (.string ⟨#[98, 101, 113]⟩)
  s2_1 : w.cell? ⟨c + 2, 1, none⟩ = some (.string ⟨#[98, 110, 101]⟩)
  s2_2 : w.cell? ⟨c + 2, 2, none⟩ = some (.string ⟨#[98, 108, 116]⟩)
  s2_3 : w.cell? ⟨c + 2, 3, none⟩ = some (.string ⟨#[98, 103, 101]⟩)
  s2_4 : w.cell? ⟨c + 2, 4, none⟩ = some (.string ⟨#[98, 108, 116, 117]⟩)
  s2_5 : w.cell? ⟨c + 2, 5, none⟩ = some (.string ⟨#[98, 103, 101, 117]⟩)
  s3_0 : w.cell? ⟨c + 3, 0, none⟩ = some (.string ⟨#[108, 98]⟩)
  s3_1 : w.cell? ⟨c + 3, 1, none⟩ = some (.string ⟨#[108, 104]⟩)
  s3_2 : w.cell? ⟨c + 3, 2, none⟩ = some (.string ⟨#[108, 119]⟩)
  s3_3 : w.cell? ⟨c + 3, 3, none⟩ = some (.string ⟨#[108, 98, 117]⟩)
  s3_4 : w.cell? ⟨c + 3, 4, none⟩ = some (.string ⟨#[108, 104, 117]⟩)
  s3_5 : w.cell? ⟨c + 3, 5, none⟩ = some (.string ⟨#[106, 97, 108, 114]⟩)
  s4_0 : w.cell? ⟨c + 4, 0, none⟩ = some (.string ⟨#[115, 98]⟩)
  s4_1 : w.cell? ⟨c + 4, 1, none⟩ = some (.string ⟨#[115, 104]⟩)
  s4_2 : w.cell? ⟨c + 4, 2, none⟩ = some (.string ⟨#[115, 119]⟩)
  s5_0 : w.cell? ⟨c + 5, 0, none⟩ = some (.string ⟨#[97, 100, 100, 105]⟩)
  s5_1 : w.cell? ⟨c + 5, 1, none⟩ = some (.string ⟨#[115, 108, 116, 105]⟩)
  s5_2 : w.cell? ⟨c + 5, 2, none⟩ = some (.string ⟨#[115, 108, 116, 105, 117]⟩)
  s5_3 : w.cell? ⟨c + 5, 3, none⟩ = some (.string ⟨#[120, 111, 114, 105]⟩)
  s5_4 : w.cell? ⟨c + 5, 4, none⟩ = some (.string ⟨#[111, 114, 105]⟩)
  s5_5 : w.cell? ⟨c + 5, 5, none⟩ = some (.string ⟨#[97, 110, 100, 105]⟩)
  s6_0 : w.cell? ⟨c + 6, 0, none⟩ = some (.string ⟨#[115, 108, 108, 105]⟩)
  s6_1 : w.cell? ⟨c + 6, 1, none⟩ = some (.string ⟨#[115, 114, 108, 105]⟩)
  s6_2 : w.cell? ⟨c + 6, 2, none⟩ = some (.string ⟨#[115, 114, 97, 105]⟩)
  s7_0 : w.cell? ⟨c + 7, 0, none⟩ = some (.string ⟨#[102, 101, 110, 99, 101]⟩)
  s7_1 : w.cell? ⟨c + 7, 1, none⟩ = some (.string ⟨#[101, 99, 97, 108, 108]⟩)
  s7_2 : w.cell? ⟨c + 7, 2, none⟩ = some (.string ⟨#[101, 98, 114, 101, 97, 107]⟩)
  o0 : w.cell? ⟨c + 8, 0, none⟩ = some (.slice (some ⟨c, 0, none⟩) 2 2)
  o1 : w.cell? ⟨c + 8, 1, none⟩ = some (.slice (some ⟨c + 1, 0, none⟩) 1 1)
  o2 : w.cell? ⟨c + 8, 2, none⟩ = some (.slice (some ⟨c + 2, 0, none⟩) 6 6)
  o3 : w.cell? ⟨c + 8, 3, none⟩ = some (.slice (some ⟨c + 3, 0, none⟩) 6 6)
  o4 : w.cell? ⟨c + 8, 4, none⟩ = some (.slice (some ⟨c + 4, 0, none⟩) 3 3)
  o5 : w.cell? ⟨c + 8, 5, none⟩ = some (.slice (some ⟨c + 5, 0, none⟩) 6 6)
  o6 : w.cell? ⟨c + 8, 6, none⟩ = some (.slice (some ⟨c + 6, 0, none⟩) 3 3)
  o7 : w.cell? ⟨c + 8, 7, none⟩ = some (.slice none 0 0)
  o8 : w.cell? ⟨c + 8, 8, none⟩ = some (.slice (some ⟨c + 7, 0, none⟩) 3 3)
theorem Lists.new (w1 : World) : Lists (((((((((w1.alloc (.cells #[.string ⟨#[108, 117, 105]⟩, .string ⟨#[97, 117, 105, 112, 99]⟩] 9)).alloc (.cells #[.string ⟨#[106, 97, 108]⟩] 9)).alloc (.cells #[.string ⟨#[98, 101, 113]⟩, .string ⟨#[98, 110, 101]⟩, .string ⟨#[98, 108, 116]⟩, .string ⟨#[98, 103, 101]⟩, .string ⟨#[98, 108, 116, 117]⟩, .string ⟨#[98, 103, 101, 117]⟩] 9)).alloc (.cells #[.string ⟨#[108, 98]⟩, .string ⟨#[108, 104]⟩, .string ⟨#[108, 119]⟩, .string ⟨#[108, 98, 117]⟩, .string ⟨#[108, 104, 117]⟩, .string ⟨#[106, 97, 108, 114]⟩] 9)).alloc (.cells #[.string ⟨#[115, 98]⟩, .string ⟨#[115, 104]⟩, .string ⟨#[115, 119]⟩] 9)).alloc (.cells #[.string ⟨#[97, 100, 100, 105]⟩, .string ⟨#[115, 108, 116, 105]⟩, .string ⟨#[115, 108, 116, 105, 117]⟩, .string ⟨#[120, 111, 114, 105]⟩, .string ⟨#[111, 114, 105]⟩, .string ⟨#[97, 110, 100, 105]⟩] 9)).alloc (.cells #[.string ⟨#[115, 108, 108, 105]⟩, .string ⟨#[115, 114, 108, 105]⟩, .string ⟨#[115, 114, 97, 105]⟩] 9)).alloc (.cells #[.string ⟨#[102, 101, 110, 99, 101]⟩, .string ⟨#[101, 99, 97, 108, 108]⟩, .string ⟨#[101, 98, 114, 101, 97, 107]⟩] 9)).alloc (.cells #[.slice (some ⟨w1.heap.size, 0, none⟩) 2 2, .slice (some ⟨w1.heap.size + 1, 0, none⟩) 1 1, .slice (some ⟨w1.heap.size + 2, 0, none⟩) 6 6, .slice (some ⟨w1.heap.size + 3, 0, none⟩) 6 6, .slice (some ⟨w1.heap.size + 4, 0, none⟩) 3 3, .slice (some ⟨w1.heap.size + 5, 0, none⟩) 6 6, .slice (some ⟨w1.heap.size + 6, 0, none⟩) 3 3, .slice none 0 0, .slice (some ⟨w1.heap.size + 7, 0, none⟩) 3 3] 25)) w1.heap.size := by
  constructor <;> first | (simp; done) | go_cell | (simp; omega)
theorem lists_below (w1 : World) : Below w1.heap.size w1 (((((((((w1.alloc (.cells #[.string ⟨#[108, 117, 105]⟩, .string ⟨#[97, 117, 105, 112, 99]⟩] 9)).alloc (.cells #[.string ⟨#[106, 97, 108]⟩] 9)).alloc (.cells #[.string ⟨#[98, 101, 113]⟩, .string ⟨#[98, 110, 101]⟩, .string ⟨#[98, 108, 116]⟩, .string ⟨#[98, 103, 101]⟩, .string ⟨#[98, 108, 116, 117]⟩, .string ⟨#[98, 103, 101, 117]⟩] 9)).alloc (.cells #[.string ⟨#[108, 98]⟩, .string ⟨#[108, 104]⟩, .string ⟨#[108, 119]⟩, .string ⟨#[108, 98, 117]⟩, .string ⟨#[108, 104, 117]⟩, .string ⟨#[106, 97, 108, 114]⟩] 9)).alloc (.cells #[.string ⟨#[115, 98]⟩, .string ⟨#[115, 104]⟩, .string ⟨#[115, 119]⟩] 9)).alloc (.cells #[.string ⟨#[97, 100, 100, 105]⟩, .string ⟨#[115, 108, 116, 105]⟩, .string ⟨#[115, 108, 116, 105, 117]⟩, .string ⟨#[120, 111, 114, 105]⟩, .string ⟨#[111, 114, 105]⟩, .string ⟨#[97, 110, 100, 105]⟩] 9)).alloc (.cells #[.string ⟨#[115, 108, 108, 105]⟩, .string ⟨#[115, 114, 108, 105]⟩, .string ⟨#[115, 114, 97, 105]⟩] 9)).alloc (.cells #[.string ⟨#[102, 101, 110, 99, 101]⟩, .string ⟨#[101, 99, 97, 108, 108]⟩, .string ⟨#[101, 98, 114, 101, 97, 107]⟩] 9)).alloc (.cells #[.slice (some ⟨w1.heap.size, 0, none⟩) 2 2, .slice (some ⟨w1.heap.size + 1, 0, none⟩) 1 1, .slice (some ⟨w1.heap.size + 2, 0, none⟩) 6 6, .slice (some ⟨w1.heap.size + 3, 0, none⟩) 6 6, .slice (some ⟨w1.heap.size + 4, 0, none⟩) 3 3, .slice (some ⟨w1.heap.size + 5, 0, none⟩) 6 6, .slice (some ⟨w1.heap.size + 6, 0, none⟩) 3 3, .slice none 0 0, .slice (some ⟨w1.heap.size + 7, 0, none⟩) 3 3] 25)) := by
  repeat' (first | exact Below.refl _ _ | refine Below.alloc ?_ ?_ _ | go_size)

set_option maxHeartbeats 4000000 in
theorem Form (op : Int) (w : World) (r0 : -9223372036854775808 ≤ op) (r1 : op < 9223372036854775808) :
    Calls Tryd.prog 14 #[.int .i64 op] w fun e w' => e = .returned (.int .i64 (form op)) ∧ Below w.heap.size w w' := by
  by_cases hn : op < 1 ∨ 48 < op
  · rw [form_none hn]
    have hc : ((decide (op < 1) || decide (48 < op)) = true) := by
      simp only [Bool.or_eq_true, decide_eq_true_eq]; exact hn
    clear hn
    go_enter Tryd.func14, Tryd.ntmps14
    go_wp2_with fail
    all_goals go_ret
    all_goals exact ⟨rfl, Below.refl _ _⟩
  · have l0 : 1 ≤ op := by omega
    have l1 : op ≤ 48 := by omega
    clear hn r0 r1
    go_enter Tryd.func14, Tryd.ntmps14
    go_wp2_with fail
    refine (Names _).mono ?_
    rintro e w1 ⟨rfl, hb1, hn⟩
    have hck := hn.2 op.toNat (by rw [names_length]; omega)
    have hnl := hn.1
    have hbl := hb1.size
    have hs : names.getD op.toNat ⟨#[]⟩ = nameN op.toNat := rfl
    rw [hs] at hck
    clear hs hn
    obtain ⟨s, hs⟩ : ∃ s, nameN op.toNat = s := ⟨_, rfl⟩
    rw [hs] at hck
    have hnm := hid hs
    clear hs
    go_wp2_with fail
    have hL := Lists.new w1
    have hbL := hid (bel_step hb1 (lists_below w1))
    generalize (((((((((w1.alloc (.cells #[.string ⟨#[108, 117, 105]⟩, .string ⟨#[97, 117, 105, 112, 99]⟩] 9)).alloc (.cells #[.string ⟨#[106, 97, 108]⟩] 9)).alloc (.cells #[.string ⟨#[98, 101, 113]⟩, .string ⟨#[98, 110, 101]⟩, .string ⟨#[98, 108, 116]⟩, .string ⟨#[98, 103, 101]⟩, .string ⟨#[98, 108, 116, 117]⟩, .string ⟨#[98, 103, 101, 117]⟩] 9)).alloc (.cells #[.string ⟨#[108, 98]⟩, .string ⟨#[108, 104]⟩, .string ⟨#[108, 119]⟩, .string ⟨#[108, 98, 117]⟩, .string ⟨#[108, 104, 117]⟩, .string ⟨#[106, 97, 108, 114]⟩] 9)).alloc (.cells #[.string ⟨#[115, 98]⟩, .string ⟨#[115, 104]⟩, .string ⟨#[115, 119]⟩] 9)).alloc (.cells #[.string ⟨#[97, 100, 100, 105]⟩, .string ⟨#[115, 108, 116, 105]⟩, .string ⟨#[115, 108, 116, 105, 117]⟩, .string ⟨#[120, 111, 114, 105]⟩, .string ⟨#[111, 114, 105]⟩, .string ⟨#[97, 110, 100, 105]⟩] 9)).alloc (.cells #[.string ⟨#[115, 108, 108, 105]⟩, .string ⟨#[115, 114, 108, 105]⟩, .string ⟨#[115, 114, 97, 105]⟩] 9)).alloc (.cells #[.string ⟨#[102, 101, 110, 99, 101]⟩, .string ⟨#[101, 99, 97, 108, 108]⟩, .string ⟨#[101, 98, 114, 101, 97, 107]⟩] 9)).alloc (.cells #[.slice (some ⟨w1.heap.size, 0, none⟩) 2 2, .slice (some ⟨w1.heap.size + 1, 0, none⟩) 1 1, .slice (some ⟨w1.heap.size + 2, 0, none⟩) 6 6, .slice (some ⟨w1.heap.size + 3, 0, none⟩) 6 6, .slice (some ⟨w1.heap.size + 4, 0, none⟩) 3 3, .slice (some ⟨w1.heap.size + 5, 0, none⟩) 6 6, .slice (some ⟨w1.heap.size + 6, 0, none⟩) 3 3, .slice none 0 0, .slice (some ⟨w1.heap.size + 7, 0, none⟩) 3 3] 25)) = w2 at *
    generalize w1.heap.size = c at *
    clear hb1 hck hnl hbl
    obtain ⟨hlt, s0_0, s0_1, s1_0, s2_0, s2_1, s2_2, s2_3, s2_4, s2_5, s3_0, s3_1, s3_2, s3_3, s3_4, s3_5, s4_0, s4_1, s4_2, s5_0, s5_1, s5_2, s5_3, s5_4, s5_5, s6_0, s6_1, s6_2, s7_0, s7_1, s7_2, o0, o1, o2, o3, o4, o5, o6, o7, o8⟩ := hL
    refine wp_loop_rounds 10 ?_
    rw [rounds_succ]
    go_wp2
    refine wp_loop_rounds 3 ?_
    rw [rounds_succ]
    go_wp2
    · rename (_ == s.toList) = true => h
      go_ret
      exact ⟨by rw [named 1 s _ op l0 l1 hnm.out h (by decide)]; rfl, hbL.out⟩
    rename (_ == s.toList) = false => e0_0
    rw [rounds_succ]
    go_wp2
    · rename (_ == s.toList) = true => h
      go_ret
      exact ⟨by rw [named 1 s _ op l0 l1 hnm.out h (by decide)]; rfl, hbL.out⟩
    rename (_ == s.toList) = false => e0_1
    rw [rounds_succ]
    go_wp2
    rw [rounds_succ]
    go_wp2
    refine wp_loop_rounds 2 ?_
    rw [rounds_succ]
    go_wp2
    · rename (_ == s.toList) = true => h
      go_ret
      exact ⟨by rw [named 2 s _ op l0 l1 hnm.out h (by decide)]; rfl, hbL.out⟩
    rename (_ == s.toList) = false => e1_0
    rw [rounds_succ]
    go_wp2
    rw [rounds_succ]
    go_wp2
    refine wp_loop_rounds 7 ?_
    rw [rounds_succ]
    go_wp2
    · rename (_ == s.toList) = true => h
      go_ret
      exact ⟨by rw [named 3 s _ op l0 l1 hnm.out h (by decide)]; rfl, hbL.out⟩
    rename (_ == s.toList) = false => e2_0
    rw [rounds_succ]
    go_wp2
    · rename (_ == s.toList) = true => h
      go_ret
      exact ⟨by rw [named 3 s _ op l0 l1 hnm.out h (by decide)]; rfl, hbL.out⟩
    rename (_ == s.toList) = false => e2_1
    rw [rounds_succ]
    go_wp2
    · rename (_ == s.toList) = true => h
      go_ret
      exact ⟨by rw [named 3 s _ op l0 l1 hnm.out h (by decide)]; rfl, hbL.out⟩
    rename (_ == s.toList) = false => e2_2
    rw [rounds_succ]
    go_wp2
    · rename (_ == s.toList) = true => h
      go_ret
      exact ⟨by rw [named 3 s _ op l0 l1 hnm.out h (by decide)]; rfl, hbL.out⟩
    rename (_ == s.toList) = false => e2_3
    rw [rounds_succ]
    go_wp2
    · rename (_ == s.toList) = true => h
      go_ret
      exact ⟨by rw [named 3 s _ op l0 l1 hnm.out h (by decide)]; rfl, hbL.out⟩
    rename (_ == s.toList) = false => e2_4
    rw [rounds_succ]
    go_wp2
    · rename (_ == s.toList) = true => h
      go_ret
      exact ⟨by rw [named 3 s _ op l0 l1 hnm.out h (by decide)]; rfl, hbL.out⟩
    rename (_ == s.toList) = false => e2_5
    rw [rounds_succ]
    go_wp2
    rw [rounds_succ]
    go_wp2
    refine wp_loop_rounds 7 ?_
    rw [rounds_succ]
    go_wp2
    · rename (_ == s.toList) = true => h
      go_ret
      exact ⟨by rw [named 4 s _ op l0 l1 hnm.out h (by decide)]; rfl, hbL.out⟩
    rename (_ == s.toList) = false => e3_0
    rw [rounds_succ]
    go_wp2
    · rename (_ == s.toList) = true => h
      go_ret
      exact ⟨by rw [named 4 s _ op l0 l1 hnm.out h (by decide)]; rfl, hbL.out⟩
    rename (_ == s.toList) = false => e3_1
    rw [rounds_succ]
    go_wp2
    · rename (_ == s.toList) = true => h
      go_ret
      exact ⟨by rw [named 4 s _ op l0 l1 hnm.out h (by decide)]; rfl, hbL.out⟩
    rename (_ == s.toList) = false => e3_2
    rw [rounds_succ]
    go_wp2
    · rename (_ == s.toList) = true => h
      go_ret
      exact ⟨by rw [named 4 s _ op l0 l1 hnm.out h (by decide)]; rfl, hbL.out⟩
    rename (_ == s.toList) = false => e3_3
    rw [rounds_succ]
    go_wp2
    · rename (_ == s.toList) = true => h
      go_ret
      exact ⟨by rw [named 4 s _ op l0 l1 hnm.out h (by decide)]; rfl, hbL.out⟩
    rename (_ == s.toList) = false => e3_4
    rw [rounds_succ]
    go_wp2
    · rename (_ == s.toList) = true => h
      go_ret
      exact ⟨by rw [named 4 s _ op l0 l1 hnm.out h (by decide)]; rfl, hbL.out⟩
    rename (_ == s.toList) = false => e3_5
    rw [rounds_succ]
    go_wp2
    rw [rounds_succ]
    go_wp2
    refine wp_loop_rounds 4 ?_
    rw [rounds_succ]
    go_wp2
    · rename (_ == s.toList) = true => h
      go_ret
      exact ⟨by rw [named 5 s _ op l0 l1 hnm.out h (by decide)]; rfl, hbL.out⟩
    rename (_ == s.toList) = false => e4_0
    rw [rounds_succ]
    go_wp2
    · rename (_ == s.toList) = true => h
      go_ret
      exact ⟨by rw [named 5 s _ op l0 l1 hnm.out h (by decide)]; rfl, hbL.out⟩
    rename (_ == s.toList) = false => e4_1
    rw [rounds_succ]
    go_wp2
    · rename (_ == s.toList) = true => h
      go_ret
      exact ⟨by rw [named 5 s _ op l0 l1 hnm.out h (by decide)]; rfl, hbL.out⟩
    rename (_ == s.toList) = false => e4_2
    rw [rounds_succ]
    go_wp2
    rw [rounds_succ]
    go_wp2
    refine wp_loop_rounds 7 ?_
    rw [rounds_succ]
    go_wp2
    · rename (_ == s.toList) = true => h
      go_ret
      exact ⟨by rw [named 6 s _ op l0 l1 hnm.out h (by decide)]; rfl, hbL.out⟩
    rename (_ == s.toList) = false => e5_0
    rw [rounds_succ]
    go_wp2
    · rename (_ == s.toList) = true => h
      go_ret
      exact ⟨by rw [named 6 s _ op l0 l1 hnm.out h (by decide)]; rfl, hbL.out⟩
    rename (_ == s.toList) = false => e5_1
    rw [rounds_succ]
    go_wp2
    · rename (_ == s.toList) = true => h
      go_ret
      exact ⟨by rw [named 6 s _ op l0 l1 hnm.out h (by decide)]; rfl, hbL.out⟩
    rename (_ == s.toList) = false => e5_2
    rw [rounds_succ]
    go_wp2
    · rename (_ == s.toList) = true => h
      go_ret
      exact ⟨by rw [named 6 s _ op l0 l1 hnm.out h (by decide)]; rfl, hbL.out⟩
    rename (_ == s.toList) = false => e5_3
    rw [rounds_succ]
    go_wp2
    · rename (_ == s.toList) = true => h
      go_ret
      exact ⟨by rw [named 6 s _ op l0 l1 hnm.out h (by decide)]; rfl, hbL.out⟩
    rename (_ == s.toList) = false => e5_4
    rw [rounds_succ]
    go_wp2
    · rename (_ == s.toList) = true => h
      go_ret
      exact ⟨by rw [named 6 s _ op l0 l1 hnm.out h (by decide)]; rfl, hbL.out⟩
    rename (_ == s.toList) = false => e5_5
    rw [rounds_succ]
    go_wp2
    rw [rounds_succ]
    go_wp2
    refine wp_loop_rounds 4 ?_
    rw [rounds_succ]
    go_wp2
    · rename (_ == s.toList) = true => h
      go_ret
      exact ⟨by rw [named 7 s _ op l0 l1 hnm.out h (by decide)]; rfl, hbL.out⟩
    rename (_ == s.toList) = false => e6_0
    rw [rounds_succ]
    go_wp2
    · rename (_ == s.toList) = true => h
      go_ret
      exact ⟨by rw [named 7 s _ op l0 l1 hnm.out h (by decide)]; rfl, hbL.out⟩
    rename (_ == s.toList) = false => e6_1
    rw [rounds_succ]
    go_wp2
    · rename (_ == s.toList) = true => h
      go_ret
      exact ⟨by rw [named 7 s _ op l0 l1 hnm.out h (by decide)]; rfl, hbL.out⟩
    rename (_ == s.toList) = false => e6_2
    rw [rounds_succ]
    go_wp2
    rw [rounds_succ]
    go_wp2
    refine wp_loop_rounds 1 ?_
    rw [rounds_succ]
    go_wp2
    rw [rounds_succ]
    go_wp2
    refine wp_loop_rounds 4 ?_
    rw [rounds_succ]
    go_wp2
    · rename (_ == s.toList) = true => h
      go_ret
      exact ⟨by rw [named 9 s _ op l0 l1 hnm.out h (by decide)]; rfl, hbL.out⟩
    rename (_ == s.toList) = false => e8_0
    rw [rounds_succ]
    go_wp2
    · rename (_ == s.toList) = true => h
      go_ret
      exact ⟨by rw [named 9 s _ op l0 l1 hnm.out h (by decide)]; rfl, hbL.out⟩
    rename (_ == s.toList) = false => e8_1
    rw [rounds_succ]
    go_wp2
    · rename (_ == s.toList) = true => h
      go_ret
      exact ⟨by rw [named 9 s _ op l0 l1 hnm.out h (by decide)]; rfl, hbL.out⟩
    rename (_ == s.toList) = false => e8_2
    rw [rounds_succ]
    go_wp2
    rw [rounds_succ]
    go_wp2
    go_ret
    refine ⟨(congrArg (fun v => Ending.returned (.int .i64 v)) (unnamed s op l0 l1 hnm.out ?_)).symm, hbL.out⟩
    simp only [List.mem_cons, List.not_mem_nil, or_false]
    rintro t (rfl | rfl | rfl | rfl | rfl | rfl | rfl | rfl | rfl | rfl | rfl | rfl | rfl | rfl | rfl | rfl | rfl | rfl | rfl | rfl | rfl | rfl | rfl | rfl | rfl | rfl | rfl | rfl | rfl | rfl) <;> assumption
end Go.Proofs.YtcbibefbjfhdcaaDoor.R3
