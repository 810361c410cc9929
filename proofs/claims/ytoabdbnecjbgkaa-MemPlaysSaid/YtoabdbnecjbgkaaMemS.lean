/- What (*mem.Mem).Cells collects, ahead of its sort. -/
import Derived.Test.YtoabdbnecjbgkaaMemX
import Derived.Test.YtoabdbnecjbgkaaCells
import Derived.Maps.AppendAt
import Derived.OwnWalk
namespace Go.Proofs.Ytoabdbnecjbgkaa.M
set_option linter.unusedVariables false
set_option linter.unusedSimpArgs false
open Go.ChangeShapes Go.WideShapes Go.ChangeAt Go.RowKit Go.Proofs.Ytoabdbnecjbgkaa.P Go.Proofs.Ytoabdbnecjbgkaa.W Go.Maps

theorem infoCell : (Try.prog.info? 33).map (fun i => (i.zero, i.size, i.bytes)) = some (some (.agg #[.int .u32 0, .int .u8 0]), 2, 8) := by kernel_rfl
/-- a slice of cells of the call's own -/
def CellsOwn (w : World) (b : Nat) (v : Value) (l : List (Int × Int)) : Prop := w.ownsRow b 33 2 v l.length (flat l)
theorem CellsOwn.nil (w : World) (b : Nat) : CellsOwn w b (.slice none 0 0) [] := World.ownsRow_nil w b _ 2
theorem two_new (w : World) (x y : Value) (t : TypeId) : ∀ j u, [x, y][j]? = some u → (w.alloc (.cells #[x, y] t)).cell? ((⟨w.heap.size, 0, none⟩ : Addr).add j) = some u := by
  intro j u hj
  match j, hj with
  | 0, hj => simp at hj; subst hj; simp [Addr.add]
  | 1, hj => simp at hj; subst hj; simp [Addr.add]
/-- what has been collected -/
structure Got (M : Int → Int) (left : Lit → Bool) (l : List (Int × Int)) : Prop where
  keys : Keys l
  mem : ∀ a b, (a, b) ∈ l ↔ okA a ∧ M a = b ∧ b ≠ 0 ∧ left (kl a) = false
theorem Got.start {D : D0} {M : Int → Int} (h : Reads D M) : Got M (Maps.has D) [] := by
  refine ⟨List.Pairwise.nil, fun a b => ⟨fun h => by simp at h, ?_⟩⟩
  rintro ⟨h1, h2, h3, h4⟩
  rw [h.has_ a h1, h2] at h4
  simp [h3] at h4
theorem Got.step {D : D0} {M : Int → Int} {left : Lit → Bool} {l : List (Int × Int)} (hD : Reads D M) (h : Got M left l) {x c : Int} (hx : okA x) (hlx : left (kl x) = true) (hat : ∀ zd, D.atKey (kl x) zd = bd c) :
    Got M (fun z => left z && !z.sameKey (kl x)) (l ++ [(x, c)]) := by
  have hc : M x = c := bd_inj ((hD.look x hx).symm.trans (hat _))
  have hh := Maps.has_true_of_atKey hat
  rw [hD.has_ x hx] at hh
  have hc0 : c ≠ 0 := by rw [← hc]; simpa using hh
  have hn : ∀ d ∈ l, d.1 ≠ x := fun d hd e => by
    obtain ⟨d1, d2⟩ := d
    have := ((h.mem d1 d2).1 hd).2.2.2
    simp at e
    subst e
    rw [hlx] at this; cases this
  have hsame : ∀ a, (kl a).sameKey (kl x) = decide (a = x) := fun a => by
    by_cases e : a = x
    · subst e; rw [WideAt.sameKey_self (isKey _)]; simp
    · simp only [e, decide_false]
      cases hs : (kl a).sameKey (kl x) with
      | false => rfl
      | true => exact absurd (kl_inj ((WideAt.sameKey_iff (isKey _)).1 hs)) e
  refine ⟨h.keys.snoc hn, fun a b => ?_⟩
  rw [List.mem_append, h.mem]
  simp only [List.mem_singleton, Prod.mk.injEq, hsame]
  constructor
  · rintro (⟨h1, h2, h3, h4⟩ | ⟨rfl, rfl⟩)
    · exact ⟨h1, h2, h3, by rw [h4]; rfl⟩
    · exact ⟨hx, hc, hc0, by simp⟩
  · rintro ⟨h1, h2, h3, h4⟩
    by_cases e : a = x
    · subst e; exact .inr ⟨rfl, h2.symm.trans hc⟩
    · refine .inl ⟨h1, h2, h3, ?_⟩
      simpa [e] using h4
theorem Got.done {M : Int → Int} {left : Lit → Bool} {l : List (Int × Int)} (h : Got M left l) (hl : ∀ k, left k = false) (a b : Int) : (a, b) ∈ l ↔ okA a ∧ M a = b ∧ b ≠ 0 := by
  rw [h.mem, hl]; simp
set_option maxRecDepth 100000 in
set_option maxHeartbeats 2000000 in
theorem collects (w : World) (p B n : Nat) (M : Int → Int) (h : MemAt w p B n M) (hn : n < 5000000000)
    (hsort : ∀ w' v l, CellsOwn w' (w.heap.size + 1) v l → Below w.heap.size w w' → Keys l → (∀ a b, (a, b) ∈ l ↔ okA a ∧ M a = b ∧ b ≠ 0) → l.length ≤ n →
      Calls Try.prog 29 #[v, .func (.func 30) #[] #[]] w' fun e w'' => e = .returned (.tuple #[]) ∧ ∃ m, CellsOwn w'' (w.heap.size + 1) v m ∧ CellsOf M m ∧ m.length ≤ n ∧ Below w.heap.size w w'') :
    Calls Try.prog 12 #[.pointer (some ⟨p, 0, none⟩)] w fun e w' => ∃ v m, e = .returned v ∧ CellsOwn w' (w.heap.size + 1) v m ∧ CellsOf M m ∧ m.length ≤ n ∧ Below w.heap.size w w' := by
  obtain ⟨c0, byt, D, hown, hD⟩ := id h
  obtain ⟨i0, hi, hz0, hz1, hz2⟩ := info_parts infoCell
  have HD := hid hD
  have HS := hid hsort
  clear h hD hsort
  go_enter Try.func12, Try.ntmps12
  go_wp2_with (at_range; refine wpList_range_own _ rfl _ 58 rfl 23 5 lawK Try.underlying58 _ B n D rfl hown ?_; intro w0 hrg0 hg0 hs0)
  go_frame
  go_loopw [3] (fun v wr => ∃ (left : Lit → Bool) (cnt : Nat) (l : List (Int × Int)), wr.ranges Try.prog 23 (plainElem Try.prog 5) B w.heap.size n D left cnt ∧ CellsOwn wr (w.heap.size + 1) v l ∧ Got M left l ∧ l.length + cnt ≤ Maps.size D ∧ Below w.heap.size w wr ∧ w.heap.size + 1 ≤ wr.heap.size)
    (fun _ wr => wr.rangeLeft B w.heap.size)
  case atStart =>
    exact ⟨_, _, [], hrg0, CellsOwn.nil _ _, Got.start HD.out, by simp, (Below.refl _ _).grown hg0 (Nat.le_refl _) (fun j hj => by cases hj), by omega⟩
  case round =>
    obtain ⟨left, cnt, l, hrg, hco, hgot, hsz, hbw, hws⟩ := hrel
    go_wp2_with (at_next; refine wpList_next_ranges_ii _ rfl _ rfl 23 5 .u32 .u8 lawK Try.underlying23 Try.underlying5 B w.heap.size n _ _ _ rfl hrg ?_ ?_)
    · intro hc0 hl0
      have HC := hid (HS.out wr _ l hco hbw hgot.keys (hgot.done hl0) (by have := hown.size_le; omega))
      clear hco hgot hrg hbw
      go_wp2_with (go_at_call 29; refine HC.out.mono ?_; rintro e w' ⟨rfl, m, h1, h2, h3, h4⟩)
      go_ret
      exact ⟨_, m, rfl, h1, h2, h3, h4⟩
    · intro x c w1 cnt1 hwx hwc hlx hat hrg1 hlt hg1 hs1 hen
      have hx : okA x := wf32 hwx
      have hln : l.length < 5000000000 := by have := hown.size_le; omega
      have hco1 : CellsOwn w1 (w.heap.size + 1) u3 l := World.ownsRow.kept hco hg1 (by
        cases hv : u3.ownBlock with
        | none => simp
        | some b =>
          right
          intro e
          have e2 : b = w.heap.size := by simpa using e
          have := (World.ownsRow.lt hco b hv).1
          omega)
      have HG := hid (hgot.step HD.out hx hlx hat)
      clear hgot hco
      have hne : ∀ b, u3.ownBlock = some b → w.heap.size + 1 ≤ b := fun b hv => (World.ownsRow.lt hco1 b hv).1
      have hnews : ∀ j u, [Value.int .u32 x, Value.int .u8 c][j]? = some u → (w1.alloc (.cells #[.int .u32 x, .int .u8 c] 33)).cell? ((⟨wr.heap.size, 0, none⟩ : Addr).add j) = some u := by
        rw [← hs1]; exact two_new _ _ _ _
      have HF := hid (flat_append l [(x, c)])
      have hb1 : Below w.heap.size w (w1.alloc (.cells #[.int .u32 x, .int .u8 c] 33)) :=
        (hbw.grown hg1 hbw.size (fun j hj => by cases hj; exact Nat.le_refl _)).alloc (by omega) _
      go_wp2_with (at_builtin; refine wpList_append_own_at _ rfl _ _ 22 rfl (w.heap.size + 1) 33 i0 (.agg #[.int .u32 0, .int .u8 0]) 2 8 Try.underlying22 hi hz0 hz1 hz2 rfl (by decide) _ _ _ rfl (World.ownsRow.alloc hco1 _) ⟨wr.heap.size, 0, none⟩ 1 1 [.int .u32 x, .int .u8 c] rfl rfl hnews (by simp [Value.oneCell']) (by unfold maxLen; omega) (by omega) (by simp; omega) ?_; intro v' w2 hown' hgrow hnil hloc)
      have hrg2 := (hrg1.alloc (.cells #[.int .u32 x, .int .u8 c] 33)).kept hgrow (fun e => by have h1 := hne _ e.symm; have h2 := hown.lt; omega) (fun e => by have h1 := hne _ e.symm; omega)
      go_roundw
      case rel =>
        refine ⟨_, cnt1, l ++ [(x, c)], hrg2, ?_, HG.out, by simp; omega, hb1.grown hgrow (by simp; omega) (fun j hj => by have := hne j hj; omega), by have := hgrow.size; simp at this; omega⟩
        show w2.ownsRow _ _ _ _ _ _
        rw [HF.out, List.length_append]
        exact hown'
      case measure => rw [hrg2.left_eq, hrg.left_eq]; exact hlt
end Go.Proofs.Ytoabdbnecjbgkaa.M
