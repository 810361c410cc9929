/- What (*mem.Mem).Cells computes: the cells of a memory, sorted. -/
import Derived.Test.YtoabdbnecjbgkaaMemS
import Derived.Test.YtoabdbnecjbgkaaLibS
import Derived.Shelf.SlSortCmp.WholeK
import Derived.Sort.OwnSortedInts
namespace Go.Proofs.Ytoabdbnecjbgkaa.M
set_option linter.unusedVariables false
set_option linter.unusedSimpArgs false
open Go.ChangeShapes Go.WideShapes Go.ChangeAt Go.RowKit Go.Proofs.Ytoabdbnecjbgkaa.P Go.Proofs.Ytoabdbnecjbgkaa.W Go.Maps Go.Sort Go.Lib

def encC (x : Int × Int) : List Value := [.int .u32 x.1, .int .u8 x.2]
theorem ltC (x y : Int × Int) : ltOf (fun x y : Int × Int => Lib.compareInt x.1 y.1) x y = decide (x.1 < y.1) := by
  unfold ltOf Lib.compareInt
  by_cases h1 : x.1 < y.1
  · simp [h1]
  · by_cases h2 : y.1 < x.1 <;> simp [h1, h2]
theorem swoC : SWO (ltOf fun x y : Int × Int => Lib.compareInt x.1 y.1) where
  irrefl x := by rw [ltC]; simp
  trans x y z h1 h2 := by rw [ltC] at *; simp at *; omega
  ntrans x y z h1 h2 := by rw [ltC] at *; simp at *; omega
set_option maxHeartbeats 1000000 in
theorem compare32 (x y : Int) (W : World) : Calls Try.prog 31 #[.int .u32 x, .int .u32 y] W fun e w' => e = .returned (.int .i64 (Lib.compareInt x y)) ∧ w' = W := by
  have hx : (x != x) = false := by simp
  have hy : (y != y) = false := by simp
  have HC : Hid (Lib.compareInt x y = if x < y then -1 else if y < x then 1 else 0) := hid rfl
  generalize Lib.compareInt x y = r at *
  have hcs : x < y ∨ (x = y) ∨ (y < x) := by omega
  rcases hcs with h | h | h
  · go_enter Try.func31, Try.ntmps31
    go_wp2
    go_ret
    exact ⟨by rw [HC.out, if_pos h]; rfl, rfl⟩
  · subst h
    go_enter Try.func31, Try.ntmps31
    go_wp2
    go_ret
    exact ⟨by rw [HC.out, if_neg (by omega), if_neg (by omega)]; rfl, rfl⟩
  · have h1 : ¬ x < y := by omega
    have h2 : y ≤ x := by omega
    go_enter Try.func31, Try.ntmps31
    go_wp2
    go_ret
    exact ⟨by rw [HC.out, if_neg (by omega), if_pos h]; rfl, rfl⟩
theorem closure (x y : Int × Int) (W : World) : Calls Try.prog 30 #[.agg #[.int .u32 x.1, .int .u8 x.2], .agg #[.int .u32 y.1, .int .u8 y.2]] W fun e w' => e = .returned (.int .i64 (Lib.compareInt x.1 y.1)) ∧ ∃ q os', w' = grow (W.drewN q) os' := by
  have hcon := fun W' => compare32 x.1 y.1 W'
  generalize Lib.compareInt x.1 y.1 = r at hcon ⊢
  go_enter Try.func30, Try.ntmps30
  go_wp2_with (go_at_call 31; refine (hcon _).mono ?_; rintro e w' ⟨rfl, rfl⟩)
  go_ret
  exact ⟨rfl, 0, _, by rw [alloc_eq_grow, alloc_eq_grow, grow_grow]; rfl⟩
theorem lays (blk off size : Nat) (w : World) : CmpLays Try.prog 30 #[] encC 2 (fun x y => Lib.compareInt x.1 y.1) blk off size w :=
  fun _ _ _ _ x y => closure x y _
theorem flatK_eq (l : List (Int × Int)) : flatK encC 2 l.toArray = (flat l).toArray := by
  apply ext_get!
  · simp [flat_length]
  · intro t ht
    have ht2 : t < l.length * 2 := by simpa using ht
    rw [get_flatK _ _ _ _ (by simpa using ht2)]
    have hi : t / 2 < l.length := by omega
    obtain ⟨g0, g1⟩ := flat_get l (t / 2) hi
    have e : (l.toArray[t / 2]!) = l.getD (t / 2) (0, 0) := by simp [List.getD, hi]
    rw [e]
    have hc : t % 2 = 0 ∨ t % 2 = 1 := by omega
    have hf : (flat l).toArray[t]! = ((flat l)[t]?).getD undef := by
      have : t < (flat l).length := by rw [flat_length]; exact ht2
      simp [this]
    rw [hf]
    rcases hc with hc | hc
    · have e2 : t = t / 2 * 2 := by omega
      rw [hc]
      conv => rhs; rw [e2, g0]
      rfl
    · have e2 : t = t / 2 * 2 + 1 := by omega
      rw [hc]
      conv => rhs; rw [e2, g1]
      rfl
theorem take_putId (cur : Array Value) (ts : List Value) (h : ts.length ≤ cur.size) : (putCells id 0 ts.toArray cur).toList.take ts.length = ts := by
  apply List.ext_getElem?
  intro j
  by_cases hj : j < ts.length
  · rw [List.getElem?_take_of_lt hj, Array.getElem?_toList]
    simp [putCells, hj, show j < cur.size by omega]
  · rw [List.getElem?_take_eq_none (by omega), List.getElem?_eq_none (by omega)]
theorem heap_sortedK {w : World} {g n : Nat} {os : Array Obj} {cur : Array Value} {e : TypeId} {fr : Nat × Nat} (d : Array Value) (hb : w.heap[g]? = some (.cells cur e fr)) :
    (grow (putRow id (Sort.ahead w n) g 0 d) os).heap[g]? = some (.cells (putCells id 0 d cur) e fr) := by
  have hg : g < w.heap.size := (Array.getElem?_eq_some_iff.1 hb).1
  rw [heap_grow_old _ _ (by simpa using hg)]
  simp [putRow, mapBlock, Sort.ahead, Array.getElem?_modify, hb, onCells]
theorem grownBy_sortedK {w : World} {g n : Nat} {os : Array Obj} (d : Array Value) : w.grownBy (grow (putRow id (Sort.ahead w n) g 0 d) os) (some g) := by
  refine ⟨rfl, rfl, rfl, by simp, fun k hk hne => ?_⟩
  rw [heap_grow_old _ _ (by simpa using hk)]
  have : g ≠ k := fun e => hne (by rw [e])
  simp [putRow, mapBlock, Sort.ahead, Array.getElem?_modify, this]
set_option maxHeartbeats 2000000 in
/-- THE SORT -/
theorem sorts (w w' : World) (b : Nat) (M : Int → Int) (v : Value) (l : List (Int × Int)) (h : CellsOwn w' b v l) (hn : l ≠ []) (hb0 : Below w.heap.size w w') (hbb : w.heap.size ≤ b) (hk : P.Keys l) (hm : ∀ a b, (a, b) ∈ l ↔ okA a ∧ M a = b ∧ b ≠ 0) (hl : l.length < 5000000000) :
    Calls Try.prog 29 #[v, .func (.func 30) #[] #[]] w' fun e w'' => e = .returned (.tuple #[]) ∧ ∃ m, CellsOwn w'' b v m ∧ CellsOf M m ∧ m.length = l.length ∧ Below w.heap.size w w'' := by
  rcases h.2 with ⟨h1, h2⟩ | ⟨g, cap, cur, h1, h2, h3, h4, h5, h6, h7⟩
  · exact absurd (List.eq_nil_of_length_eq_zero h2) hn
  subst h1
  have hg : g < w'.heap.size := (Array.getElem?_eq_some_iff.1 h3).1
  have eg : ∀ args w, (callFunc 30 args).run Try.prog w = .ok (.enter 30 args) w := enters_of Try.func30 (by kernel_rfl) rfl
  have hH : HoldsK encC 2 w' g 0 l.toArray := by
    intro j hj
    rw [flatK_eq] at hj ⊢
    have hj2 : j < (flat l).length := by simpa using hj
    have hj3 : j < l.length * 2 := by rw [flat_length] at hj2; exact hj2
    rw [Nat.zero_add]
    refine ⟨?_, World.ownsRow.frozenAt h j⟩
    rw [World.ownsRow.cellAt h j hj3]
    simp [hj2]
  have hcon := AnyQ.slices_SortFunc LB.sortC 2 Try.isAgg33 Try.sizeOf33 encC (fun _ => rfl) (fun x v hv => by simp [encC] at hv; rcases hv with rfl | rfl <;> rfl) (fun x y : Int × Int => Lib.compareInt x.1 y.1) swoC 30 #[] g 0 cap l.toArray w' eg (lays g 0 l.toArray.size w') hH hg (by simp; omega)
  change Calls Try.prog 29 _ _ _ at hcon
  simp only [List.size_toArray] at hcon
  refine hcon.mono ?_
  rintro e w'' ⟨rfl, d', n, os, hp, hs, rfl⟩
  obtain ⟨m⟩ := d'
  obtain ⟨hp1, hp2, hp3⟩ := hp
  have hml : m.length = l.length := by simpa using hp1
  have hperm : m.Perm l := by
    have h9 : (m.take l.length).Perm l := by simpa using hp3
    rwa [← hml, List.take_length] at h9
  have e1 : flatK encC 2 (⟨m⟩ : Array (Int × Int)) = (flat m).toArray := flatK_eq m
  have hown : CellsOwn (sortWorldK encC 2 w' g 0 n ⟨m⟩ os) b (.slice (some ⟨g, 0, none⟩) l.length cap) m := by
    unfold sortWorldK putRowK
    rw [e1]
    refine ⟨by rw [flat_length], .inr ⟨g, cap, _, by rw [hml], h2, heap_sortedK _ h3, by rw [hml]; exact h4, h5, by simp [putCells, h6], ?_⟩⟩
    rw [← flat_length m]
    exact take_putId cur (flat m) (by rw [flat_length]; omega)
  refine ⟨rfl, m, hown, ⟨?_, fun a b => ?_⟩, hml, ?_⟩
  · have hkm : P.Keys m := by
      unfold P.Keys at *
      exact (hperm.pairwise_iff (fun {x y} hxy => Ne.symm hxy)).2 hk
    unfold P.Keys at hkm
    unfold Rises
    rw [List.pairwise_iff_getElem] at hkm ⊢
    intro i j hi hj hij
    have h9 := hs i j (Nat.zero_le _) hij (by rw [← hml]; exact hj)
    rw [ltC] at h9
    have h10 := hkm i j hi hj hij
    simp [hi, hj] at h9
    omega
  · rw [hperm.mem_iff, hm]
  · have hgr : w'.grownBy (sortWorldK encC 2 w' g 0 n ⟨m⟩ os) (some g) := by
      unfold sortWorldK putRowK
      exact grownBy_sortedK _
    exact hb0.grown hgr hb0.size (fun j hj => by cases hj; omega)
end Go.Proofs.Ytoabdbnecjbgkaa.M
