/- What typecaseref02.New computes. -/
import Derived.Test.YtoabdbnecjbgkaaMemR
import Derived.Deep.RegionHeld3
namespace Go.Proofs.Ytoabdbnecjbgkaa.M
set_option linter.unusedVariables false
set_option linter.unusedSimpArgs false
open Go.ChangeShapes Go.WideShapes Go.ChangeAt Go.RowKit Go.Proofs.Ytoabdbnecjbgkaa.P Go.Proofs.Ytoabdbnecjbgkaa.W

set_option maxRecDepth 100000 in
set_option maxHeartbeats 4000000 in
theorem refNew (w : World) (v : Value) (l : List (Int × Int)) (hv : CellsAt w v l) (hl : ∀ c ∈ l, okC c) (hll : l.length < 5000000000) :
    Calls Try.prog 15 #[v] w fun e w' => ∃ m, e = .returned (.pointer (some ⟨w.heap.size, 0, none⟩)) ∧ RefAt w' w.heap.size m ∧ rd m = made none0 l ∧ m.length ≤ l.length ∧ Below w.heap.size w w' := by
  obtain ⟨ao, cap, rfl, hel⟩ := id hv
  have HEL := hid hel
  have HL := hid hl
  clear hv hl hel
  go_enter Try.func15, Try.ntmps15
  go_wp2_with fail
  have hR0 : RefAt (w.alloc (.cells #[.slice none 0 0] 65)) w.heap.size [] :=
    ⟨⟨.slice none 0 0, by simp, CellsOwn.nil _ _⟩, by simp, by simp, List.Pairwise.nil⟩
  have HR := hid hR0
  have HB := hid (below_alloc w (.cells #[.slice none 0 0] 65))
  clear hR0
  generalize w.alloc (.cells #[.slice none 0 0] 65) = w0 at *
  go_loopw [4] (fun i wr => ∃ (k : Nat) (m : List (Int × Int)), k ≤ l.length ∧ i = .int .i64 k ∧ RefAt wr w.heap.size m ∧ rd m = made none0 (l.take k) ∧ m.length ≤ k ∧ Below w.heap.size w wr) (fun i wr => l.length - (intOf i).toNat)
  case atStart => exact ⟨0, [], by omega, rfl, HR.out, rfl, by simp, HB.out⟩
  case round =>
    obtain ⟨k, m, hk, rfl, hR, hrd, hml, hbw⟩ := hrel
    by_cases hk2 : k < l.length
    · have hkl : (k : Int) < l.length := by omega
      obtain ⟨b, o, rfl, g0, g1⟩ := HEL.out k hk2
      have hbs := World.block_lt_of_cell? w _ g0
      have c0 := (hbw.cell (p := ⟨b, o + k * 2, none⟩) hbs).trans g0
      have c1 := (hbw.cell (p := ⟨b, o + k * 2 + 1, none⟩) hbs).trans g1
      have hok := HL.out (l.getD k (0, 0)) (by simp [List.getD, hk2])
      have HT := hid (made_take none0 l k hk2)
      have HRD := hid hrd
      have HRR := hid hR
      have HBW := hid hbw
      clear g0 g1 hR hrd hbw
      generalize l.getD k (0, 0) = c at *
      obtain ⟨ca, cb⟩ := c
      obtain ⟨hoa, hob⟩ : okA ca ∧ (0 ≤ cb ∧ cb < 256) := hok
      have hkm : m.length < 5000000000 := by omega
      go_wp2_with fail
      go_region_held3 (fun W => W.cell? ⟨b, o + k * 2, none⟩ = some (.int .u32 ca) ∧ W.cell? ⟨b, o + k * 2 + 1, none⟩ = some (.int .u8 cb)) (((repeat' (refine And.intro ?_ ?_)) <;> (first | assumption | (go_simp; done) | (simp [*]; done)))) ((go_at_call 18; (with_reducible refine (Put _ w.heap.size m ca cb (HRR.out.below (by repeat' (first | (with_reducible exact Below.refl _ _) | (with_reducible assumption) | (with_reducible refine below_drewN ?_ _) | (with_reducible refine Below.alloc ?_ ?_ _) | (with_reducible refine Below.drew ?_) | (with_reducible refine Below.setCell ?_ ?_ _) | (with_reducible exact Below.size (by assumption)) | go_size))) hkm hoa hob).mono ?_); rintro e w' ⟨rfl, m', hR', hrd', hml', hbp, -⟩; have d0 := (hbp.cell (p := ⟨b, o + k * 2, none⟩) hbs).trans (by first | assumption | (go_simp; done) | (simp [*]; done)); have d1 := (hbp.cell (p := ⟨b, o + k * 2 + 1, none⟩) hbs).trans (by first | assumption | (go_simp; done) | (simp [*]; done)); have hbq : Below w.heap.size w w' := HBW.out.trans (Below.trans (show Below w.heap.size wr _ from Below.mono (by repeat' (first | (with_reducible exact Below.refl _ _) | (with_reducible assumption) | (with_reducible refine below_drewN ?_ _) | (with_reducible refine Below.alloc ?_ ?_ _) | (with_reducible refine Below.drew ?_) | (with_reducible refine Below.setCell ?_ ?_ _) | (with_reducible exact Below.size (by assumption)) | go_size)) HBW.out.size) hbp)))
      all_goals
        go_wp2
        go_roundw
        case rel => exact ⟨k + 1, m', by omega, by go_num, hR', by rw [hrd', HRD.out, HT.out], by omega, hbq⟩
        case measure => simp [intOf]; omega
    · obtain rfl : k = l.length := by omega
      rw [List.take_length] at hrd
      go_wp2
      go_ret
      exact ⟨m, rfl, hR, hrd, hml, hbw⟩
theorem Held (n : Int) (w : World) : Calls Try.prog 32 #[.int .i64 n] w fun e w' => e = .returned (.int .i64 (hl4 n)) ∧ w = w' := by
  have hcs : (n < 0 ∧ hl4 n = 0) ∨ (4 < n ∧ 0 ≤ n ∧ hl4 n = 4) ∨ (0 ≤ n ∧ n ≤ 4 ∧ (hl4 n : Int) = n) := by unfold hl4; omega
  rcases hcs with ⟨h1, h2⟩ | ⟨h1, h0, h2⟩ | ⟨h1, h2, h3⟩
  · rw [h2]
    go_enter Try.func32, Try.ntmps32
    go_wp2
    go_ret
    exact ⟨rfl, rfl⟩
  · rw [h2]
    go_enter Try.func32, Try.ntmps32
    go_wp2
    go_ret
    exact ⟨rfl, rfl⟩
  · rw [h3]
    go_enter Try.func32, Try.ntmps32
    go_wp2
    go_ret
    exact ⟨rfl, rfl⟩
end Go.Proofs.Ytoabdbnecjbgkaa.M
