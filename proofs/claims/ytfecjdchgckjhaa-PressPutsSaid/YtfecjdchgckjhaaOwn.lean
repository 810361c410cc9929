/- Slices of ints that a call makes: a stack of them, as an expression is evaluated. -/
import Derived.Test.YtfecjdchgckjhaaWord
import Derived.Maps.AppendAt
import Derived.OwnWalk
import Derived.Deep.AppendLies
namespace Go.Proofs.Ytfecjdchgckjhaa.O
set_option linter.unusedVariables false
open Go.ChangeShapes Go.WideShapes Go.ChangeAt Go.RowKit Go.Proofs.Ytfecjdchgckjhaa.P Go.Proofs.Ytfecjdchgckjhaa.W

theorem infoInt : (Try.prog.info? 3).map (fun i => (i.zero, i.size, i.bytes)) = some (some (.int .i64 0), 1, 8) := by kernel_rfl

/-- a slice of ints of the call's own, that reads as a list -/
def IntsAt (w : World) (B : Nat) (v : Value) (l : List Int) : Prop := w.ownsRow B 3 1 v l.length (l.map (Value.int .i64))
theorem IntsAt.nil (w : World) (B : Nat) : IntsAt w B (.slice none 0 0) [] := World.ownsRow_nil w B _ 1
theorem IntsAt.lt {w : World} {B : Nat} {v : Value} {l : List Int} (h : IntsAt w B v l) : ∀ k, v.ownBlock = some k → B ≤ k ∧ k < w.heap.size := World.ownsRow.lt h
theorem IntsAt.kept {w w' : World} {B : Nat} {v : Value} {l : List Int} {row : Option Nat} (h : IntsAt w B v l) (hg : w.grownBy w' row) (hne : v.ownBlock = none ∨ v.ownBlock ≠ row) : IntsAt w' B v l := World.ownsRow.kept h hg hne
theorem IntsAt.below {w w' : World} {B : Nat} {v : Value} {l : List Int} (h : IntsAt w B v l) (hb : Below w.heap.size w w') : IntsAt w' B v l :=
  h.kept (row := none) ⟨hb.os, hb.tape, hb.output, hb.size, fun k hk _ => hb.block k hk⟩ (by cases v.ownBlock <;> simp)
theorem IntsAt.form {w : World} {B : Nat} {v : Value} {l : List Int} (h : IntsAt w B v l) (hn : l ≠ []) :
    ∃ g cap, v = .slice (some ⟨g, 0, none⟩) l.length cap ∧ B ≤ g ∧ g < w.heap.size ∧ l.length ≤ cap ∧ cap ≤ maxLen ∧ ∀ i, i < l.length → w.cell? ⟨g, i, none⟩ = some (.int .i64 (l.getD i 0)) := by
  have hc : ∀ g, v.ownBlock = some g → ∀ i, i < l.length → w.cell? ⟨g, i, none⟩ = some (.int .i64 (l.getD i 0)) := by
    intro g hg i hi
    have := World.ownsRow.cells h hg i (.int .i64 (l.getD i 0)) (by simp [List.getD, hi])
    have hadd : (⟨g, 0, none⟩ : Addr).add i = ⟨g, i, none⟩ := by unfold Addr.add; split <;> simp_all
    rw [hadd] at this; exact this
  have hlt := h.lt
  rcases h.2 with ⟨_, h0⟩ | ⟨g, cap, cur, rfl, hb, hg, hnc, hcm, _, _⟩
  · exact absurd (List.eq_nil_of_length_eq_zero h0) hn
  · exact ⟨g, cap, rfl, hb, (hlt g rfl).2, hnc, hcm, hc g rfl⟩

/-- what a call has made so far: the slices on the stack, each in a row of its own -/
def Stack (w0 w : World) (L : List (Value × List Int)) : Prop :=
  Below w0.heap.size w0 w ∧ (∀ p ∈ L, IntsAt w w0.heap.size p.1 p.2) ∧ L.Pairwise fun p q => p.1.ownBlock = none ∨ q.1.ownBlock = none ∨ p.1.ownBlock ≠ q.1.ownBlock

theorem Stack.start (w : World) : Stack w w [] := ⟨Below.refl _ _, (by intro p hp; cases hp), List.Pairwise.nil⟩
theorem Stack.bel {w0 w : World} {L : List (Value × List Int)} (h : Stack w0 w L) : Below w0.heap.size w0 w := h.1
theorem Stack.top {w0 w : World} {L : List (Value × List Int)} {v : Value} {l : List Int} (h : Stack w0 w ((v, l) :: L)) : IntsAt w w0.heap.size v l := h.2.1 (v, l) List.mem_cons_self
theorem Stack.drewN {w0 w : World} {L : List (Value × List Int)} (h : Stack w0 w L) (n : Nat) : Stack w0 (w.drewN n) L := ⟨below_drewN h.1 n, h.2.1, h.2.2⟩
theorem Stack.below {w0 w w' : World} {L : List (Value × List Int)} (h : Stack w0 w L) (hb : Below w.heap.size w w') : Stack w0 w' L :=
  ⟨bel_step h.1 hb, fun p hp => (h.2.1 p hp).below hb, h.2.2⟩
theorem Stack.call {w0 w w' : World} {L : List (Value × List Int)} {v : Value} {l : List Int} (h : Stack w0 w L) (hb : Below w.heap.size w w') (hi : IntsAt w' w.heap.size v l) : Stack w0 w' ((v, l) :: L) := by
  refine ⟨bel_step h.1 hb, ?_, ?_⟩
  · intro p hp
    rcases List.mem_cons.1 hp with rfl | hp
    · refine ⟨hi.1, ?_⟩
      rcases hi.2 with h0 | ⟨g, cap, cur, e, hbg, r⟩
      · exact .inl h0
      · exact .inr ⟨g, cap, cur, e, Nat.le_trans h.1.size hbg, r⟩
    · exact (h.2.1 p hp).below hb
  · refine List.Pairwise.cons (fun q hq => ?_) h.2.2
    have hq1 := h.2.1 q hq
    cases hv : v.ownBlock with
    | none => exact .inl rfl
    | some a =>
      cases hw : q.1.ownBlock with
      | none => exact .inr (.inl rfl)
      | some b =>
        have h1 := hi.lt a hv
        have h2 := hq1.lt b hw
        refine .inr (.inr ?_)
        intro e
        injection e with e
        omega
/-- a literal -/
theorem Stack.lit {w0 w : World} {L : List (Value × List Int)} (l : List Int) (arr : Array Value) (n : Nat) (h : Stack w0 w L) (hl : arr.toList = l.map (Value.int .i64)) (hn : n = l.length) (hm : l.length ≤ maxLen) :
    Stack w0 (w.alloc (.cells arr 3)) ((.slice (some ⟨w.heap.size, 0, none⟩) n n, l) :: L) := by
  refine h.call ((Below.refl _ _).alloc (Nat.le_refl _) _) ⟨by simp, .inr ⟨w.heap.size, l.length, arr, by rw [hn], Nat.le_refl _, heap_alloc_new w _, Nat.le_refl _, hm, ?_, ?_⟩⟩
  · have := congrArg List.length hl
    simpa using this
  · rw [hl, List.take_of_length_le (by simp)]

/-- 'append(a, b...)': both on top of the stack -/
theorem app {ops : Array Oper} {rest : List Oper} {o : Oper} {a : Act} {Q : Exit → Act → World → Prop} {w0 w : World} {L : List (Value × List Int)} {v1 v2 : Value} {l1 l2 : List Int}
    (hgd : o.guard = none) (s x : Operand) (ho : o.op = .call { callee := .builtin .append, args := #[s, x], argTypes := #[46, 46] })
    (hs : a.eval s = v1) (hx : a.eval x = v2) (H : Stack w0 w ((v2, l2) :: (v1, l1) :: L)) (hne : l2 ≠ []) (hlen : l1.length + l2.length ≤ 1000000)
    (h : ∀ v' w', Stack w0 w' ((v', l1 ++ l2) :: L) → wpList Try.prog ops Q rest (a.put o.dst v') w') : wpList Try.prog ops Q (o :: rest) a w := by
  obtain ⟨i0, hi, hz0, hz1, hz2⟩ := info_parts infoInt
  have H2 : IntsAt w w0.heap.size v2 l2 := H.2.1 (v2, l2) (by simp)
  have H1 : IntsAt w w0.heap.size v1 l1 := H.2.1 (v1, l1) (by simp)
  obtain ⟨g, cap, rfl, hbg, hgl, hlc, hcm, hcell⟩ := IntsAt.form H2 hne
  refine wpList_append_own_at w hgd s x 46 ho w0.heap.size 3 i0 (.int .i64 0) 1 8 Try.underlying46 hi hz0 hz1 hz2 rfl (by decide) v1 l1.length (l1.map (Value.int .i64)) hs H1
    ⟨g, 0, none⟩ l2.length cap (l2.map (Value.int .i64)) hx (by simp) ?_ ?_ (by unfold maxLen; omega) (by omega) H.1.size ?_
  · intro j u hu
    have hadd : (⟨g, 0, none⟩ : Addr).add j = ⟨g, j, none⟩ := by unfold Addr.add; split <;> simp_all
    rw [hadd]
    have hj : j < l2.length := by
      have := (List.getElem?_eq_some_iff.1 hu).1; simpa using this
    rw [hcell j hj]
    simp [List.getD, hj] at hu ⊢
    exact hu
  · intro u hu
    simp at hu
    obtain ⟨k, _, rfl⟩ := hu
    rfl
  · intro v' w' hown hgrow _ hat
    refine h v' w' ⟨?_, ?_, ?_⟩
    · exact Below.grown H.1 hgrow H.1.size (fun k hk => (IntsAt.lt H1 k hk).1)
    · intro p hp
      rcases List.mem_cons.1 hp with rfl | hp
      · show w'.ownsRow _ _ _ _ _ _
        rw [List.length_append, List.map_append]
        exact hown
      · have hpw := List.pairwise_cons.1 (List.pairwise_cons.1 H.2.2).2
        have hpp := H.2.1 p (by simp [hp])
        refine hpp.kept hgrow ?_
        rcases hpw.1 p hp with h1 | h1 | h1
        · by_cases hq : p.1.ownBlock = none
          · exact .inl hq
          · exact .inr (fun e => hq (e.trans h1))
        · exact .inl h1
        · exact .inr (fun e => h1 e.symm)
    · have hpw := List.pairwise_cons.1 (List.pairwise_cons.1 H.2.2).2
      refine List.Pairwise.cons (fun q hq => ?_) hpw.2
      have hqq := H.2.1 q (by simp [hq])
      rcases hat with e | e
      · show v'.ownBlock = none ∨ _ ∨ v'.ownBlock ≠ _
        rw [e]; exact hpw.1 q hq
      · cases hw : q.1.ownBlock with
        | none => exact .inr (.inl rfl)
        | some b =>
          have h2 := hqq.lt b hw
          refine .inr (.inr ?_)
          show v'.ownBlock ≠ _
          rw [e]
          intro e2
          injection e2 with e2
          omega
end Go.Proofs.Ytfecjdchgckjhaa.O
