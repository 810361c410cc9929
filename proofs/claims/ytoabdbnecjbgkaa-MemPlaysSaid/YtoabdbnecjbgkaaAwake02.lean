/- The test that the statements of layer 2 begin with. -/
import Derived.Test.YtoabdbnecjbgkaaMemU
import Derived.Test.YtoabdbnecjbgkaaMemN
import Derived.Deep.RegionHeld3
import Derived.Lib.QuietBelow
namespace Go.Proofs.Ytoabdbnecjbgkaa.A2
set_option linter.unusedVariables false
set_option linter.unusedSimpArgs false
open Go.ChangeShapes Go.WideShapes Go.ChangeAt Go.RowKit Go.Proofs.Ytoabdbnecjbgkaa.P Go.Proofs.Ytoabdbnecjbgkaa.W Go.Proofs.Ytoabdbnecjbgkaa.M

theorem cells_awake : CellsOf (stN none0 4294967295 258 2) [(0, 1), (4294967295, 2)] := by
  have e0 : adr 4294967295 0 = 4294967295 := by decide
  have e1 : adr 4294967295 1 = 0 := by decide
  have v0 : (258 : Int) / 256 ^ 0 % 256 = 2 := by decide
  have v1 : (258 : Int) / 256 ^ 1 % 256 = 1 := by decide
  have hs : ∀ a, stN none0 4294967295 258 2 a = if a = 0 then 1 else if a = 4294967295 then 2 else 0 := fun a => by
    show (if a = adr 4294967295 1 then _ else if a = adr 4294967295 0 then _ else none0 a) = _
    rw [e0, e1, v0, v1]; rfl
  refine ⟨by unfold Rises; simp, fun a b => ?_⟩
  rw [hs]
  simp only [List.mem_cons, Prod.mk.injEq, List.not_mem_nil, or_false]
  unfold okA
  constructor
  · rintro (⟨rfl, rfl⟩ | ⟨rfl, rfl⟩) <;> simp
  · rintro ⟨h1, h2, h3⟩
    split at h2
    · exact .inl ⟨by assumption, h2.symm⟩
    · split at h2
      · exact .inr ⟨by assumption, h2.symm⟩
      · omega
theorem load_awake : ldN (stN none0 4294967295 258 2) 4294967295 (hl4 2) = 258 ∧ ldN (stN none0 4294967295 258 2) 0 (hl4 1) = 1 := by decide
theorem nilCells (w : World) : CellsAt w (.slice none 0 0) [] := ⟨none, 0, rfl, fun i hi => by simp at hi⟩
set_option maxHeartbeats 1000000 in
theorem awake (w : World) : Calls Try.prog 8 #[] w fun e w' => e = .returned (.bool true) ∧ Below w.heap.size w w' := by
  go_enter Try.func8, Try.ntmps8
  go_wp2_with fail
  refine (New _ _ [] (nilCells _) (by simp) (by simp)).mono ?_
  rintro e w1 ⟨p, B, rfl, hp, hB, hM, hb1⟩
  go_wp2_with fail
  refine (Store _ p B 0 none0 4294967295 2 258 hM (by unfold okA; omega) (by omega) (by omega) (by unfold maxLen; omega)).mono ?_
  rintro e w2 ⟨rfl, hM2, hg⟩
  have hb2 : Below w.heap.size w w2 := hb1.grown hg hb1.size (fun j hj => by cases hj; exact hB)
  have e2 : hl4 2 = 2 := by decide
  rw [e2] at hM2
  clear hM hg hb1
  go_wp2_with fail
  refine (Cells _ p B _ _ hM2 (by omega)).mono ?_
  rintro e w3 ⟨v, m, rfl, hv, hm, -, hb3⟩
  have hM3 := hM2.below hb3
  obtain rfl := hm.one cells_awake (fun _ _ => rfl)
  obtain ⟨ao, cap, rfl, hc⟩ := hv.cells
  obtain ⟨b, o, rfl, c0, c1⟩ := hc 0 (by simp)
  have hb4 := bel_step hb2 hb3
  have L1 := hid (fun w' (h : w3 = w') => (Load w' p B _ _ 4294967295 2 (h ▸ hM3) (by unfold okA; omega) (by omega)))
  have L2 := hid (fun w' (h : w3 = w') => (Load w' p B _ _ 0 1 (h ▸ hM3) (by unfold okA; omega) (by omega)))
  rw [load_awake.1] at L1
  rw [load_awake.2] at L2
  clear hM2 hM3 hc hv hm hb2 hb3
  simp only [List.length_cons, List.length_nil, List.getD_cons_zero, Nat.zero_mul, Nat.add_zero] at c0 c1 ⊢
  go_wp2_with (go_at_call 13; (first | (with_reducible refine (L1.out _ rfl).mono ?_) | (with_reducible refine (L2.out _ rfl).mono ?_)); rintro e w' ⟨rfl, rfl⟩)
  go_ret
  exact ⟨rfl, hb4⟩
end Go.Proofs.Ytoabdbnecjbgkaa.A2
