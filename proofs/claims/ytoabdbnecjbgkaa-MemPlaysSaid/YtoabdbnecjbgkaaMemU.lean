/- What (*mem.Mem).Cells computes. -/
import Derived.Test.YtoabdbnecjbgkaaMemT
import Derived.Test.YtoabdbnecjbgkaaMemE
import Derived.Shelf.SlSortCmp.NoneTotal
namespace Go.Proofs.Ytoabdbnecjbgkaa.M
set_option linter.unusedVariables false
set_option linter.unusedSimpArgs false
open Go.ChangeShapes Go.WideShapes Go.ChangeAt Go.RowKit Go.Proofs.Ytoabdbnecjbgkaa.P Go.Proofs.Ytoabdbnecjbgkaa.W

theorem Cells (w : World) (p B n : Nat) (M : Int → Int) (h : MemAt w p B n M) (hn : n < 5000000000) :
    Calls Try.prog 12 #[.pointer (some ⟨p, 0, none⟩)] w fun e w' => ∃ v m, e = .returned v ∧ CellsOwn w' (w.heap.size + 1) v m ∧ CellsOf M m ∧ m.length ≤ n ∧ Below w.heap.size w w' := by
  refine collects w p B n M h hn fun w' v l hco hb hk hm hln => ?_
  by_cases hl : l = []
  · subst hl
    have hv : ∃ ao cap, v = .slice ao 0 cap := by
      obtain ⟨ao, cap, h1, _⟩ := CellsOwn.cells hco
      exact ⟨ao, cap, h1⟩
    obtain ⟨ao, cap, rfl⟩ := hv
    have hcon := AnyF.slices_SortFunc_none LB.sortC ao cap (.func (.func 30) #[] #[]) w'
    change Calls Try.prog 29 _ _ _ at hcon
    refine hcon.mono ?_
    rintro e w'' ⟨rfl, rfl⟩
    exact ⟨rfl, [], hco, ⟨List.Pairwise.nil, hm⟩, Nat.zero_le _, hb⟩
  · refine (sorts w w' (w.heap.size + 1) M v l hco hl hb (by omega) hk hm (by omega)).mono ?_
    rintro e w'' ⟨rfl, m, h1, h2, h3, h4⟩
    exact ⟨rfl, m, h1, h2, by omega, h4⟩
end Go.Proofs.Ytoabdbnecjbgkaa.M
