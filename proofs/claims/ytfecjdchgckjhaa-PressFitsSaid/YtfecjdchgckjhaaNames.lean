/- What typecaseref03.Names and typecaseref04.at compute. -/
import Derived.Test.YtfecjdchgckjhaaNamesP
import Derived.Test.YtfecjdchgckjhaaOwn
namespace Go.Proofs.Ytfecjdchgckjhaa.R3
set_option linter.unusedVariables false
open Go.ChangeShapes Go.WideShapes Go.ChangeAt Go.RowKit Go.Proofs.Ytfecjdchgckjhaa.P Go.Proofs.Ytfecjdchgckjhaa.W

/-- a row of strings -/
def StrsAt (w : World) (b : Nat) (l : List ByteArray) : Prop := b < w.heap.size ∧ ∀ k, k < l.length → w.cell? ⟨b, k, none⟩ = some (.string (l.getD k ⟨#[]⟩))
theorem StrsAt.below {w w' : World} {b B : Nat} {l : List ByteArray} (h : StrsAt w b l) (hb : Below B w w') (hB : b < B) : StrsAt w' b l :=
  ⟨Nat.lt_of_lt_of_le h.1 hb.size, fun k hk => (hb.cell (p := ⟨b, k, none⟩) hB).trans (h.2 k hk)⟩
theorem StrsAt.new (w : World) (l : List ByteArray) (t : TypeId) : StrsAt (w.alloc (.cells (l.map Value.string).toArray t)) w.heap.size l := by
  refine ⟨by simp, fun k hk => ?_⟩
  simp [hk]

theorem Names (w : World) : Calls Try.prog 27 #[] w
    fun e w' => e = .returned (.slice (some ⟨w.heap.size, 0, none⟩) 49 49) ∧ Below w.heap.size w w' ∧ StrsAt w' w.heap.size names := by
  go_enter Try.func27, Try.ntmps27
  go_wp2
  go_ret
  exact ⟨rfl, (by repeat' (first | (with_reducible exact Below.refl _ _) | (with_reducible assumption) | (with_reducible refine below_drewN ?_ _) | (with_reducible refine Below.alloc ?_ ?_ _) | (with_reducible refine Below.drew ?_) | (with_reducible refine Below.setCell ?_ ?_ _) | (with_reducible exact Below.size (by assumption)) | go_size)), StrsAt.new w names _⟩
end Go.Proofs.Ytfecjdchgckjhaa.R3
