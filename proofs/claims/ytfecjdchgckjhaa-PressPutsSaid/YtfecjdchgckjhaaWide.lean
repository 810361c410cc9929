/- What the functions of package wide compute. -/
import Derived.Test.YtfecjdchgckjhaaWord
import Derived.Test.YtfecjdchgckjhaaWordP
import Derived.Deep.RegionHeld3
namespace Go.Proofs.Ytfecjdchgckjhaa.V
set_option linter.unusedVariables false
open Go.ChangeShapes Go.WideShapes Go.ChangeAt Go.RowKit Go.Proofs.Ytfecjdchgckjhaa.P Go.Proofs.Ytfecjdchgckjhaa.W

/-- the cells of pieces, at the head of a block -/
def PieceCells (w : World) (b : Nat) (ps : List (Nat × Nat)) : Prop :=
  ∀ i, i < ps.length → w.cell? ⟨b, i * 2, none⟩ = some (.int .i64 ((ps.getD i (0, 0)).1 : Int)) ∧ w.cell? ⟨b, i * 2 + 1, none⟩ = some (.int .i64 ((ps.getD i (0, 0)).2 : Int))

end Go.Proofs.Ytfecjdchgckjhaa.V
