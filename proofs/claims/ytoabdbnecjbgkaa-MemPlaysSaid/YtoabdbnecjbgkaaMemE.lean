/- What typecaseref02.Same computes. -/
import Derived.Test.YtoabdbnecjbgkaaMemS
import Derived.BigQuiet
import Derived.Deep.QuietTactic
namespace Go.Proofs.Ytoabdbnecjbgkaa.M
set_option linter.unusedVariables false
set_option linter.unusedSimpArgs false
open Go.ChangeShapes Go.WideShapes Go.ChangeAt Go.RowKit Go.Proofs.Ytoabdbnecjbgkaa.P Go.Proofs.Ytoabdbnecjbgkaa.W Go.Maps

theorem CellsOwn.cells {w : World} {b : Nat} {v : Value} {l : List (Int × Int)} (h : CellsOwn w b v l) : CellsAt w v l := by
  rcases h.2 with ⟨h1, h2⟩ | ⟨g, cap, cur, h1, h2, h3, h4, h5, h6, h7⟩
  · have : l = [] := List.eq_nil_of_length_eq_zero h2
    subst this
    exact ⟨none, 0, h1, fun i hi => by simp at hi⟩
  · subst h1
    refine ⟨some ⟨g, 0, none⟩, cap, rfl, fun i hi => ⟨g, 0, rfl, ?_⟩⟩
    obtain ⟨g0, g1⟩ := flat_get l i hi
    have c := fun j hj => World.ownsRow.cellAt h j hj
    rw [Nat.zero_add, c _ (by omega), c _ (by omega)]
    exact ⟨g0, g1⟩
theorem eq_take {l m : List (Int × Int)} (hl : l.length = m.length) : ∀ k, k ≤ l.length → (∀ j, j < k → l.getD j (0, 0) = m.getD j (0, 0)) → l.take k = m.take k := by
  intro k
  induction k with
  | zero => intro _ _; rfl
  | succ k ih =>
    intro hk h
    have hk1 : k < l.length := by omega
    have hk2 : k < m.length := by omega
    rw [List.take_add_one, List.take_add_one, ih (by omega) (fun j hj => h j (by omega)), List.getElem?_eq_getElem hk1, List.getElem?_eq_getElem hk2]
    have := h k (by omega)
    simp [List.getD, hk1, hk2] at this
    rw [this]
set_option maxRecDepth 100000 in
set_option maxHeartbeats 1000000 in
theorem Same (w : World) (va vb : Value) (la lb : List (Int × Int)) (ha : CellsAt w va la) (hb : CellsAt w vb lb) (hla : la.length < 5000000000) :
    Calls Try.prog 11 #[va, vb] w fun e w' => e = .returned (.bool (decide (la = lb))) ∧ Below w.heap.size w w' := by
  obtain ⟨ao, ca, rfl, ha⟩ := ha
  obtain ⟨bo, cb, rfl, hb⟩ := hb
  have HA := hid ha
  have HB := hid hb
  clear ha hb
  by_cases hl : la.length = lb.length
  · rw [← hl]
    have HLB := hid hl
    generalize hn : la.length = n at *
    have HLA := hid hn
    clear hl hn
    go_enter Try.func11, Try.ntmps11
    go_wp2
    go_loopw [5] (fun i wr => ∃ (k q : Nat), k ≤ n ∧ i = .int .i64 k ∧ (∀ j, j < k → la.getD j (0, 0) = lb.getD j (0, 0)) ∧ wr = w.drewN q) (fun i _ => n - (intOf i).toNat)
    case atStart => exact ⟨0, 0, by omega, rfl, fun j hj => by omega, rfl⟩
    case round =>
      obtain ⟨k, q, hk, rfl, hall, rfl⟩ := hrel
      by_cases hk2 : k < n
      · obtain ⟨ab, ax, rfl, a0, a1⟩ := HA.out k hk2
        obtain ⟨bb, bx, rfl, b0, b1⟩ := HB.out k (by rw [← HLB.out]; exact hk2)
        have hka : (k : Int) < n := by omega
        have HAL := hid hall
        have HC : Hid (∀ x y : Int × Int, x = y ↔ x.1 = y.1 ∧ x.2 = y.2) := hid (fun x y => Prod.ext_iff)
        clear hall
        generalize hxa : la.getD k (0, 0) = x at *
        generalize hxb : lb.getD k (0, 0) = y at *
        have HX := hid hxa
        have HY := hid hxb
        clear hxa hxb
        obtain ⟨x1, x2⟩ := x
        obtain ⟨y1, y2⟩ := y
        have hcs : (x1 = y1 ∧ x2 = y2) ∨ (x1 ≠ y1) ∨ (x1 = y1 ∧ x2 ≠ y2) := by omega
        rcases hcs with ⟨rfl, rfl⟩ | h | ⟨rfl, h⟩
        · have e1 : (x1 == x1) = true := by simp
          have e2 : (x2 == x2) = true := by simp
          go_wp2
          go_quiet (fail)
          go_wp2
          go_roundw
          case rel => exact ⟨k + 1, _, by omega, by go_num, fun j hj => by
            by_cases e : j = k
            · subst e; rw [HX.out, HY.out]
            · exact HAL.out j (by omega), by first | rfl | simp⟩
          case measure => simp [intOf]; omega
        · have e1 : (x1 == y1) = false := by simpa using h
          go_wp2
          go_quiet (fail)
          go_wp2
          go_ret
          refine ⟨?_, (by repeat' (first | (with_reducible exact Below.refl _ _) | (with_reducible assumption) | (with_reducible refine below_drewN ?_ _) | (with_reducible refine Below.alloc ?_ ?_ _) | (with_reducible refine Below.drew ?_) | (with_reducible refine Below.setCell ?_ ?_ _) | (with_reducible exact Below.size (by assumption)) | go_size))⟩
          have hd : decide (la = lb) = false := by
            simp; intro e
            have := HX.out.symm.trans ((congrArg (fun l => l.getD k (0, 0)) e).trans HY.out)
            exact h (congrArg Prod.fst this)
          rw [hd]; rfl
        · have e1 : (x1 == x1) = true := by simp
          have e2 : (x2 == y2) = false := by simpa using h
          go_wp2
          go_quiet (fail)
          go_wp2
          go_ret
          refine ⟨?_, (by repeat' (first | (with_reducible exact Below.refl _ _) | (with_reducible assumption) | (with_reducible refine below_drewN ?_ _) | (with_reducible refine Below.alloc ?_ ?_ _) | (with_reducible refine Below.drew ?_) | (with_reducible refine Below.setCell ?_ ?_ _) | (with_reducible exact Below.size (by assumption)) | go_size))⟩
          have hd : decide (la = lb) = false := by
            simp; intro e
            have := HX.out.symm.trans ((congrArg (fun l => l.getD k (0, 0)) e).trans HY.out)
            exact h (congrArg Prod.snd this)
          rw [hd]; rfl
      · obtain rfl : k = n := by omega
        have he : la = lb := by
          have := eq_take (HLA.out.trans HLB.out) k (Nat.le_of_eq HLA.out.symm) hall
          rwa [← HLA.out, List.take_length, HLA.out, HLB.out, List.take_length] at this
        have hd : decide (la = lb) = true := by simpa using he
        have HD := hid hd
        clear hd he hall HA HB
        go_wp2
        go_ret
        refine ⟨?_, (by repeat' (first | (with_reducible exact Below.refl _ _) | (with_reducible assumption) | (with_reducible refine below_drewN ?_ _) | (with_reducible refine Below.alloc ?_ ?_ _) | (with_reducible refine Below.drew ?_) | (with_reducible refine Below.setCell ?_ ?_ _) | (with_reducible exact Below.size (by assumption)) | go_size))⟩
        rw [HD.out]; rfl
  · have hne : (la.length : Int) ≠ (lb.length : Int) := by omega
    have hd : decide (la = lb) = false := by simp; intro e; exact hl (by rw [e])
    rw [hd]
    have hx : ((la.length : Int) != (lb.length : Int)) = true := by simpa using hne
    go_enter Try.func11, Try.ntmps11
    go_wp2
    go_ret
    exact ⟨rfl, Below.refl _ _⟩
end Go.Proofs.Ytoabdbnecjbgkaa.M
