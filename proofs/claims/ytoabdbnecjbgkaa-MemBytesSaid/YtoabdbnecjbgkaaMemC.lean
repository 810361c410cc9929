/- What (*mem.Mem).Copy and Bytes compute. -/
import Derived.Test.YtoabdbnecjbgkaaMemX
import Derived.Test.YtoabdbnecjbgkaaLibM
import Derived.Test.YtoabdbnecjbgkaaCells
namespace Go.Proofs.Ytoabdbnecjbgkaa.M
set_option linter.unusedVariables false
set_option linter.unusedSimpArgs false
open Go.ChangeShapes Go.WideShapes Go.ChangeAt Go.RowKit Go.Proofs.Ytoabdbnecjbgkaa.P Go.Proofs.Ytoabdbnecjbgkaa.W Go.Maps

set_option maxRecDepth 100000 in
set_option maxHeartbeats 1000000 in
theorem Copy (w : World) (p B n : Nat) (M : Int → Int) (h : MemAt w p B n M) :
    Calls Try.prog 21 #[.pointer (some ⟨p, 0, none⟩)] w fun e w' => ∃ p' B', e = .returned (.pointer (some ⟨p', 0, none⟩)) ∧ w.heap.size ≤ p' ∧ w.heap.size ≤ B' ∧ MemAt w' p' B' n M ∧ Below w.heap.size w w' := by
  obtain ⟨c0, byt, D, hown, hD⟩ := id h
  have hcon := AnyW.maps_Clone_owns LB.cloneM 23 (plainElem Try.prog 5) B n D w hown
  change Calls Try.prog 33 _ _ _ at hcon
  have HD := hid hD
  have HY := hid byt
  clear h hD byt hown
  go_enter Try.func21, Try.ntmps21
  go_wp2_with (go_at_call 33; refine hcon.mono ?_; rintro e w' ⟨rfl, h1, _, hB⟩)
  go_ret
  exact ⟨_, _, rfl, hB.size, Nat.le_refl _, ⟨by simp, HY.out, D, h1.alloc _, HD.out⟩, hB.alloc hB.size _⟩
end Go.Proofs.Ytoabdbnecjbgkaa.M
