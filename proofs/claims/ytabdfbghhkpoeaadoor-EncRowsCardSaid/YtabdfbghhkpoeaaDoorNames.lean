/- What typecaseref03.Names and typecaseref04.at compute. -/
import Derived.Test.YtabdfbghhkpoeaaDoorNamesP
import Derived.Test.YtabdfbghhkpoeaaDoorOwn
namespace Go.Proofs.YtabdfbghhkpoeaaDoor.R3
set_option linter.unusedVariables false
open Go.ChangeShapes Go.WideShapes Go.ChangeAt Go.RowKit Go.Proofs.YtabdfbghhkpoeaaDoor.P Go.Proofs.YtabdfbghhkpoeaaDoor.W

/-- a row of strings -/
def StrsAt (w : World) (b : Nat) (l : List ByteArray) : Prop := b < w.heap.size ∧ ∀ k, k < l.length → w.cell? ⟨b, k, none⟩ = some (.string (l.getD k ⟨#[]⟩))
theorem StrsAt.below {w w' : World} {b B : Nat} {l : List ByteArray} (h : StrsAt w b l) (hb : Below B w w') (hB : b < B) : StrsAt w' b l :=
  ⟨Nat.lt_of_lt_of_le h.1 hb.size, fun k hk => (hb.cell (p := ⟨b, k, none⟩) hB).trans (h.2 k hk)⟩
theorem StrsAt.new (w : World) (l : List ByteArray) (t : TypeId) : StrsAt (w.alloc (.cells (l.map Value.string).toArray t)) w.heap.size l := by
  refine ⟨by simp, fun k hk => ?_⟩
  simp [hk]

theorem Names (w : World) : Calls Tryd.prog 45 #[] w
    fun e w' => e = .returned (.slice (some ⟨w.heap.size, 0, none⟩) 49 49) ∧ Below w.heap.size w w' ∧ StrsAt w' w.heap.size names := by
  go_enter Tryd.func45, Tryd.ntmps45
  go_wp2
  go_ret
  exact ⟨rfl, (by repeat' (first | (with_reducible exact Below.refl _ _) | (with_reducible assumption) | (with_reducible refine below_drewN ?_ _) | (with_reducible refine Below.alloc ?_ ?_ _) | (with_reducible refine Below.drew ?_) | (with_reducible refine Below.setCell ?_ ?_ _) | (with_reducible exact Below.size (by assumption)) | go_size)), StrsAt.new w names _⟩
theorem at_ (s : ByteArray) (l : List ByteArray) (b n : Nat) (k : Int) (w : World) (hb : StrsAt w b l) (hn : n = l.length) (hn2 : n ≤ 8) (h0 : 0 ≤ k) (h1 : k < 8) :
    Calls Tryd.prog 47 #[.slice (some ⟨b, 0, none⟩) n n, .int .u32 k] w fun e w' => e = .returned (.int .i64 (ixN (l.getD k.toNat ⟨#[]⟩))) ∧ Below w.heap.size w w' := by
  subst hn
  obtain ⟨hlt, hc⟩ := hb
  by_cases hk : k < l.length
  · have hck := hc k.toNat (by omega)
    have hs : l.getD k.toNat ⟨#[]⟩ = l.getD k.toNat ⟨#[]⟩ := rfl
    generalize l.getD k.toNat ⟨#[]⟩ = s at *
    clear hs
    have HC := hid hc
    clear hc
    go_enter Tryd.func47, Tryd.ntmps47
    go_wp2_with fail
    · have h : s.toList.isEmpty = true := by
        rename _ ∨ _ => h
        rcases h with h | h
        · omega
        · exact h
      go_ret
      exact ⟨by simp [ixN, h], Below.refl _ _⟩
    · rename _ ∧ _ => h
      have he : Hid (s.toList.isEmpty = false) := hid h.2
      clear h
      refine (Names _).mono ?_
      rintro e w1 ⟨rfl, hb1, hn⟩
      replace hck := (hb1.cell hlt).trans hck
      have hbl := hb1.size
      replace hlt := Nat.lt_of_lt_of_le hlt hbl
      obtain ⟨hnl, hnc⟩ := hn
      have HN := hid hnc
      clear HC hnc
      obtain ⟨nb, hnb⟩ : ∃ nb, nb = w.heap.size := ⟨_, rfl⟩
      rw [← hnb] at hnl HN hbl ⊢
      have hB := hid hb1
      clear hb1 hnb
      go_wp2_with fail
      go_loopw [6] (fun i wr => ∃ m q : Nat, 1 ≤ m ∧ m ≤ 49 ∧ i = .int .i64 m ∧ ixFrom s 1 48 = ixFrom s m (49 - m) ∧ wr = w1.drewN q) (fun i _ => 49 - (intOf i).toNat)
      case atStart => exact ⟨1, 0, by omega, by omega, rfl, rfl, rfl⟩
      case round =>
        obtain ⟨m, q, hm1, hm2, rfl, hix, rfl⟩ := hrel
        by_cases hm : m < 49
        · have hcm := HN.out m hm
          have hnm : names.getD m ⟨#[]⟩ = nameN m := rfl
          rw [hnm] at hcm
          have hstep : ixFrom s m (49 - m) = if ((nameN m).toList == s.toList) = true then (m : Int) else ixFrom s (m + 1) (49 - (m + 1)) := by
            obtain ⟨j, hj⟩ : ∃ j, 49 - m = j + 1 := ⟨48 - m, by omega⟩
            have hj2 : 49 - (m + 1) = j := by omega
            rw [hj, hj2]; rfl
          have HI := hid (hix.trans hstep)
          clear hix hstep
          generalize nameN m = t at *
          clear hnm
          go_wp2_with fail
          go_quiet (fail)
          go_wp2
          · rename (t.toList == s.toList) = true => h
            go_ret
            exact ⟨by simp only [ixN, he.out, HI.out, h]; simp, below_drewN (below_drewN hB.out _) _⟩
          · rename (t.toList == s.toList) = false => h
            go_roundw
            case rel => exact ⟨m + 1, _, by omega, by omega, by go_num, by rw [HI.out, h]; rfl, rfl⟩
            case measure => simp [intOf]; omega
        · obtain rfl : m = 49 := by omega
          have HI := hid hix
          clear hix
          go_wp2
          go_ret
          exact ⟨by simp only [ixN, he.out, HI.out]; rfl, below_drewN hB.out _⟩
  · have hn : l.getD k.toNat ⟨#[]⟩ = ⟨#[]⟩ := by
      rw [List.getD_eq_getElem?_getD, List.getElem?_eq_none (by omega)]; rfl
    rw [hn]
    rw [ixN_none]
    clear hc
    go_enter Tryd.func47, Tryd.ntmps47
    go_wp2
    go_ret
    exact ⟨rfl, Below.refl _ _⟩
end Go.Proofs.YtabdfbghhkpoeaaDoor.R3
