/- Slices of strings that a call makes by appending one after the other. -/
import Derived.Test.YtfecjdchgckjhaaWord
import Derived.Test.YtfecjdchgckjhaaCells
import Derived.Maps.AppendAt
import Derived.OwnWalk
namespace Go.Proofs.Ytfecjdchgckjhaa.O
set_option linter.unusedVariables false
set_option linter.unusedSimpArgs false
open Go.ChangeShapes Go.WideShapes Go.ChangeAt Go.RowKit Go.Proofs.Ytfecjdchgckjhaa.P Go.Proofs.Ytfecjdchgckjhaa.W

theorem infoStr : (Try.prog.info? 9).map (fun i => (i.zero, i.size, i.bytes)) = some (some (.string ⟨#[]⟩), 1, 16) := by kernel_rfl
/-- a slice of strings of the call's own, that reads as a list -/
def StrsOwn (w : World) (B : Nat) (v : Value) (l : List ByteArray) : Prop := w.ownsRow B 9 1 v l.length (l.map Value.string)
theorem StrsOwn.nil (w : World) (B : Nat) : StrsOwn w B (.slice none 0 0) [] := World.ownsRow_nil w B _ 1
theorem StrsOwn.lt {w : World} {B : Nat} {v : Value} {l : List ByteArray} (h : StrsOwn w B v l) : ∀ k, v.ownBlock = some k → B ≤ k ∧ k < w.heap.size := World.ownsRow.lt h
theorem StrsOwn.below {w w' : World} {B : Nat} {v : Value} {l : List ByteArray} (h : StrsOwn w B v l) (hb : Below w.heap.size w w') : StrsOwn w' B v l :=
  World.ownsRow.kept h (row := none) ⟨hb.os, hb.tape, hb.output, hb.size, fun k hk _ => hb.block k hk⟩ (by cases v.ownBlock <;> simp)
theorem StrsOwn.form {w : World} {B : Nat} {v : Value} {l : List ByteArray} (h : StrsOwn w B v l) (hn : l ≠ []) :
    ∃ g cap, v = .slice (some ⟨g, 0, none⟩) l.length cap ∧ B ≤ g ∧ g < w.heap.size ∧ l.length ≤ cap ∧ cap ≤ maxLen ∧ ∀ i, i < l.length → w.cell? ⟨g, i, none⟩ = some (.string (l.getD i ⟨#[]⟩)) := by
  have hc : ∀ g, v.ownBlock = some g → ∀ i, i < l.length → w.cell? ⟨g, i, none⟩ = some (.string (l.getD i ⟨#[]⟩)) := by
    intro g hg i hi
    have := World.ownsRow.cells h hg i (.string (l.getD i ⟨#[]⟩)) (by simp [List.getD, hi])
    have hadd : (⟨g, 0, none⟩ : Addr).add i = ⟨g, i, none⟩ := by unfold Addr.add; split <;> simp_all
    rw [hadd] at this; exact this
  have hlt := h.lt
  rcases h.2 with ⟨_, h0⟩ | ⟨g, cap, cur, rfl, hb, hg, hnc, hcm, _, _⟩
  · exact absurd (List.eq_nil_of_length_eq_zero h0) hn
  · exact ⟨g, cap, rfl, hb, (hlt g rfl).2, hnc, hcm, hc g rfl⟩
/-- 'append(v, s)' -/
theorem appS {ops : Array Oper} {rest : List Oper} {o : Oper} {a : Act} {Q : Exit → Act → World → Prop} {w : World} {B g c : Nat} {v1 : Value} {l1 : List ByteArray} {q : ByteArray}
    (hgd : o.guard = none) (s x : Operand) (ho : o.op = .call { callee := .builtin .append, args := #[s, x], argTypes := #[35, 35] })
    (hs : a.eval s = v1) (hx : a.eval x = .slice (some ⟨g, 0, none⟩) 1 c) (H : StrsOwn w B v1 l1) (hB : B ≤ w.heap.size) (hcell : w.cell? ⟨g, 0, none⟩ = some (.string q)) (hlen : l1.length ≤ 1000000)
    (h : ∀ v' w', StrsOwn w' B v' (l1 ++ [q]) → (∀ C w0, C ≤ B → C ≤ w0.heap.size → Below C w0 w → Below C w0 w') → wpList Try.prog ops Q rest (a.put o.dst v') w') : wpList Try.prog ops Q (o :: rest) a w := by
  obtain ⟨i0, hi, hz0, hz1, hz2⟩ := info_parts infoStr
  refine wpList_append_own_at w hgd s x 35 ho B 9 i0 (.string ⟨#[]⟩) 1 16 Try.underlying35 hi hz0 hz1 hz2 rfl (by decide) v1 l1.length (l1.map Value.string) hs H
    ⟨g, 0, none⟩ 1 c [.string q] hx rfl ?_ ?_ (by unfold maxLen; omega) (by omega) hB ?_
  · intro j u hu
    have hadd : (⟨g, 0, none⟩ : Addr).add j = ⟨g, j, none⟩ := by unfold Addr.add; split <;> simp_all
    rw [hadd]
    have hj : j = 0 := by
      have := (List.getElem?_eq_some_iff.1 hu).1; simp at this; exact this
    subst hj
    simp at hu
    rw [hcell, hu]
  · intro u hu
    simp at hu
    subst hu
    rfl
  · intro v' w' hown hgrow _ hat
    refine h v' w' ?_ ?_
    · show w'.ownsRow _ _ _ _ _ _
      rw [List.length_append, List.map_append]
      exact hown
    · intro C w0 hCB hC hb
      exact Below.grown hb hgrow (Nat.le_trans hC hb.size) (fun k hk => Nat.le_trans hCB (StrsOwn.lt H k hk).1)
end Go.Proofs.Ytfecjdchgckjhaa.O
