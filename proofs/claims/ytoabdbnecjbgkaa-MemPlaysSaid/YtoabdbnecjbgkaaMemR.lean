/- What the functions of typecaseref02 compute: a byte read, a byte put. -/
import Derived.Test.YtoabdbnecjbgkaaMemS
import Derived.Test.YtoabdbnecjbgkaaMemQ
namespace Go.Proofs.Ytoabdbnecjbgkaa.M
set_option linter.unusedVariables false
set_option linter.unusedSimpArgs false
open Go.ChangeShapes Go.WideShapes Go.ChangeAt Go.RowKit Go.Proofs.Ytoabdbnecjbgkaa.P Go.Proofs.Ytoabdbnecjbgkaa.W

/-- AT p LIES A MEMORY of typecaseref02: a list of cells -/
structure RefAt (w : World) (p : Nat) (l : List (Int × Int)) : Prop where
  row : ∃ v, w.cell? ⟨p, 0, none⟩ = some v ∧ CellsOwn w (p + 1) v l
  fz : w.frozen? ⟨p, 0, none⟩ = false
  ok : ∀ c ∈ l, okC c
  keys : P.Keys l
theorem RefAt.ltp {w : World} {p : Nat} {l : List (Int × Int)} (h : RefAt w p l) : p < w.heap.size := by
  obtain ⟨v, hv, _⟩ := h.row
  exact World.block_lt_of_cell? w _ hv
/-- a memory is kept where blocks from p on are -/
theorem RefAt.kept {w w' : World} {p : Nat} {l : List (Int × Int)} {row : Option Nat} (h : RefAt w p l) (hg : w.grownBy w' row) (hr : ∀ b, row = some b → b < p) : RefAt w' p l := by
  have hp := h.ltp
  obtain ⟨v, hv, hc⟩ := h.row
  have hne : some p ≠ row := fun e => by have := hr p e.symm; omega
  refine ⟨⟨v, (cell_grown hg hp hne).trans hv, World.ownsRow.kept hc hg ?_⟩, ?_, h.ok, h.keys⟩
  · cases hb : v.ownBlock with
    | none => exact .inl rfl
    | some b =>
      right
      intro e
      have h1 := (World.ownsRow.lt hc b hb).1
      have h2 := hr b e.symm
      omega
  · have hb : w'.heap[p]? = w.heap[p]? := hg.block p hp hne
    have := h.fz
    unfold World.frozen? at this ⊢
    rw [hb]; exact this
theorem RefAt.below {w w' : World} {p : Nat} {l : List (Int × Int)} (h : RefAt w p l) (hb : Below w.heap.size w w') : RefAt w' p l := h.kept (grown_of_below hb) (fun b e => by cases e)
/-- the block of the list that is at p -/
def refBlock (w : World) (p : Nat) : Option Nat := match w.cell? ⟨p, 0, none⟩ with
  | some v => v.ownBlock
  | none => none
/-- a block that the memory at p does not touch -/
def Apart (w : World) (p k : Nat) : Prop := k ≠ p ∧ some k ≠ refBlock w p
theorem refBlock_of {w : World} {p : Nat} {v : Value} (h : w.cell? ⟨p, 0, none⟩ = some v) : refBlock w p = v.ownBlock := by unfold refBlock; rw [h]
theorem slice_of {w : World} {b : Nat} {e : TypeId} {n m : Nat} {v : Value} {xs : List Value} (h : w.ownsRow b e n v m xs) : ∃ ao n c, v = .slice ao n c := by
  rcases h.2 with ⟨h1, _⟩ | ⟨g, cap, cur, h1, _⟩
  · exact ⟨_, _, _, h1⟩
  · exact ⟨_, _, _, h1⟩
theorem CellsOwn.at {w : World} {b : Nat} {v : Value} {l : List (Int × Int)} (h : CellsOwn w b v l) : ∃ ao cap, v = .slice ao l.length cap ∧ ∀ i, i < l.length → ∃ g, ao = some ⟨g, 0, none⟩ ∧ b ≤ g ∧ g < w.heap.size ∧
    w.cell? ⟨g, i * 2, none⟩ = some (.int .u32 (l.getD i (0, 0)).1) ∧ w.cell? ⟨g, i * 2 + 1, none⟩ = some (.int .u8 (l.getD i (0, 0)).2) ∧ w.frozen? ⟨g, i * 2 + 1, none⟩ = false := by
  rcases h.2 with ⟨h1, h2⟩ | ⟨g, cap, cur, h1, h2, h3, h4, h5, h6, h7⟩
  · have : l = [] := List.eq_nil_of_length_eq_zero h2
    subst this
    exact ⟨none, 0, h1, fun i hi => by simp at hi⟩
  · subst h1
    have hg : g < w.heap.size := (Array.getElem?_eq_some_iff.1 h3).1
    refine ⟨some ⟨g, 0, none⟩, cap, rfl, fun i hi => ⟨g, rfl, h2, hg, ?_⟩⟩
    obtain ⟨g0, g1⟩ := flat_get l i hi
    rw [World.ownsRow.cellAt h _ (by omega), World.ownsRow.cellAt h _ (by omega)]
    exact ⟨g0, g1, World.ownsRow.frozenAt h _⟩
set_option maxRecDepth 100000 in
set_option maxHeartbeats 1000000 in
theorem At (w : World) (p : Nat) (l : List (Int × Int)) (a : Int) (h : RefAt w p l) (hl : l.length < 5000000000) :
    Calls Try.prog 23 #[.pointer (some ⟨p, 0, none⟩), .int .u32 a] w fun e w' => e = .returned (.int .u8 (rd l a)) ∧ w = w' := by
  obtain ⟨v, hv, hc⟩ := h.row
  obtain ⟨ao, cap, rfl, hel⟩ := hc.at
  have HEL := hid hel
  clear h hc hel
  have hrd : ∀ k, k ≤ l.length → rd l a = rd l a := fun _ _ => rfl
  go_enter Try.func23, Try.ntmps23
  go_wp2
  go_loop [5] (fun i => ∃ k : Nat, k ≤ l.length ∧ i = .int .i64 k ∧ rd l a = rd (l.drop k) a) (fun i => l.length - (intOf i).toNat)
  case atStart => exact ⟨0, by omega, rfl, rfl⟩
  case round =>
    obtain ⟨k, hk, rfl, hrk⟩ := hrel
    by_cases hk2 : k < l.length
    · have hkl : (k : Int) < l.length := by omega
      obtain ⟨g, rfl, -, -, e0, e1, -⟩ := HEL.out k hk2
      have hst : rd (l.drop k) a = if (l.getD k (0, 0)).1 = a then (l.getD k (0, 0)).2 else rd (l.drop (k + 1)) a := by
        rw [List.drop_eq_getElem_cons hk2]
        simp [List.getD, hk2, rd]
      have HI := hid (hrk.trans hst)
      clear hrk hst hrd
      generalize l.getD k (0, 0) = c at *
      obtain ⟨c0, c1⟩ := c
      by_cases hca : c0 = a
      · subst hca
        have hcc : (c0 == c0) = true := by simp
        go_wp2
        go_ret
        exact ⟨by have e := HI.out; simp at e; rw [e]; rfl, rfl⟩
      · have hcc : (c0 == a) = false := by simpa using hca
        go_wp2
        go_round
        case rel => exact ⟨k + 1, by omega, by go_num, by rw [HI.out, if_neg hca]⟩
        case measure => simp [intOf]; omega
    · obtain rfl : k = l.length := by omega
      have HI := hid hrk
      clear hrk hrd
      go_wp2
      go_ret
      exact ⟨by rw [HI.out, List.drop_length]; rfl, rfl⟩
set_option maxRecDepth 100000 in
set_option maxHeartbeats 2000000 in
theorem Put (w : World) (p : Nat) (l : List (Int × Int)) (a b : Int) (h : RefAt w p l) (hl : l.length < 5000000000) (ha : okA a) (hb : 0 ≤ b ∧ b < 256) :
    Calls Try.prog 18 #[.pointer (some ⟨p, 0, none⟩), .int .u32 a, .int .u8 b] w fun e w' => e = .returned (.tuple #[]) ∧ ∃ m, RefAt w' p m ∧ rd m = upd (rd l) a b ∧ m.length ≤ l.length + 1 ∧ Below p w w' ∧ ∀ k, k < w.heap.size → Apart w p k → w'.heap[k]? = w.heap[k]? ∧ Apart w' p k := by
  obtain ⟨i0, hi, hz0, hz1, hz2⟩ := info_parts infoCell
  obtain ⟨v, hv, hc⟩ := h.row
  have HC := hid hc
  have HH := hid h
  obtain ⟨ao, cap, rfl, hel⟩ := hc.at
  have HV := hid hv
  have HEL := hid hel
  have hfz := h.fz
  have hpl := h.ltp
  clear h hc hel
  go_enter Try.func18, Try.ntmps18
  go_wp2
  go_loop [6] (fun i => ∃ k : Nat, k ≤ l.length ∧ i = .int .i64 k ∧ ∀ j, j < k → (l.getD j (0, 0)).1 ≠ a) (fun i => l.length - (intOf i).toNat)
  case atStart => exact ⟨0, by omega, rfl, fun j hj => by omega⟩
  case round =>
    obtain ⟨k, hk, rfl, hno⟩ := hrel
    have HN := hid hno
    clear hno
    by_cases hk2 : k < l.length
    · have hkl : (k : Int) < l.length := by omega
      obtain ⟨g, rfl, hpg, hgl, e0, e1, ef⟩ := HEL.out k hk2
      have HK : Hid (l.getD k (0, 0) = l.getD k (0, 0)) := hid rfl
      generalize hcc : l.getD k (0, 0) = c at e0 e1
      have HCC := hid hcc
      clear hcc HK
      obtain ⟨c0, c1⟩ := c
      by_cases hca : c0 = a
      · subst hca
        have hcc : (c0 == c0) = true := by simp
        have hgp : g ≠ p := by omega
        have hst := World.ownsRow.stored HC.out (k * 2 + 1) (.int .u8 b)
        have HS := hid hst
        clear hst
        go_wp2
        refine bodyPost_ret (results_none rfl _ _ _) rfl ?_
        have hfl : (flat l).set (k * 2 + 1) (.int .u8 b) = flat (l.set k (c0, b)) := by rw [flat_set l k b hk2, HCC.out]
        have hkey : (l.getD k (0, 0)).1 = c0 := by rw [HCC.out]
        refine ⟨rfl, l.set k (c0, b), ⟨⟨.slice (some ⟨g, 0, none⟩) l.length cap, ?_, ?_⟩, ?_, ?_, HH.out.keys.set hk2 hkey⟩, rd_set hk2 HN.out hkey, by simp, ?_, fun k' hk' ha' => ?_⟩
        · exact (World.cell?_setCell_other _ _ _ _ (fun e => by simp at e; try omega)).trans hv
        · have h2 := HS.out.1
          rw [hfl] at h2
          show World.ownsRow _ _ _ _ _ _ _
          rw [List.length_set]; exact h2
        · rw [World.frozen?_setCell]; exact hfz
        · intro c hc
          rcases List.mem_or_eq_of_mem_set hc with h1 | h1
          · exact HH.out.ok c h1
          · subst h1; exact ⟨ha, hb⟩
        · exact (Below.refl _ _).setCell (p := ⟨g, k * 2 + 1, none⟩) (by show p ≤ g; omega) _
        · obtain ⟨n1, n2⟩ := ha'
          rw [refBlock_of HV.out] at n2
          have n3 : k' ≠ g := fun e => n2 (by rw [e]; rfl)
          refine ⟨heap_setCell_other w ⟨g, k * 2 + 1, none⟩ k' _ n3, n1, ?_⟩
          rw [refBlock_of ((World.cell?_setCell_other _ _ _ _ (fun e => by simp at e; try omega)).trans HV.out)]
          exact n2
      · have hcc : (c0 == a) = false := by simpa using hca
        go_wp2
        go_round
        case rel => exact ⟨k + 1, by omega, by go_num, fun j hj => by
          by_cases e : j = k
          · subst e; rw [HCC.out]; exact hca
          · exact HN.out j (by omega)⟩
        case measure => simp [intOf]; omega
    · obtain rfl : k = l.length := by omega
      have HF := hid (flat_append l [(a, b)])
      have hne : ∀ g, (Value.slice ao l.length cap).ownBlock = some g → p + 1 ≤ g := fun g hg => (World.ownsRow.lt HC.out g hg).1
      have hb1 : Below p w (w.alloc (.cells #[.int .u32 a, .int .u8 b] 33)) := (Below.refl _ _).alloc (Nat.le_of_lt hpl) _
      have hcp : (w.alloc (.cells #[.int .u32 a, .int .u8 b] 33)).cell? ⟨p, 0, none⟩ = some (.slice ao l.length cap) := (((show Below w.heap.size w w from Below.refl _ _).alloc (Nat.le_refl _) _).cell (p := ⟨p, 0, none⟩) hpl).trans hv
      have hfp : (w.alloc (.cells #[.int .u32 a, .int .u8 b] 33)).frozen? ⟨p, 0, none⟩ = false := (((show Below w.heap.size w w from Below.refl _ _).alloc (Nat.le_refl _) _).frozen (p := ⟨p, 0, none⟩) hpl).trans hfz
      have hpa : p < (w.alloc (.cells #[.int .u32 a, .int .u8 b] 33)).heap.size := by simp; omega
      have hnp : some p ≠ (Value.slice ao l.length cap).ownBlock := fun e => by have := hne p e.symm; omega
      have HG := hid (fun (w2 : World) (hg : (w.alloc (.cells #[.int .u32 a, .int .u8 b] 33)).grownBy w2 (Value.slice ao l.length cap).ownBlock) => (show w2.cell? ⟨p, 0, none⟩ = some (.slice ao l.length cap) ∧ w2.frozen? ⟨p, 0, none⟩ = false from ⟨(cell_grown hg hpa hnp).trans hcp, by unfold World.frozen? at hfp ⊢; rw [hg.block p hpa hnp]; exact hfp⟩))
      go_wp2_with (at_builtin; (refine wpList_append_own_at _ rfl _ _ 22 rfl (p + 1) 33 i0 (.agg #[.int .u32 0, .int .u8 0]) 2 8 Try.underlying22 hi hz0 hz1 hz2 rfl (by decide) _ _ _ rfl (World.ownsRow.alloc HC.out _) ⟨w.heap.size, 0, none⟩ 1 1 [.int .u32 a, .int .u8 b] rfl rfl (two_new _ _ _ _) (by simp [Value.oneCell']) (by unfold maxLen; omega) (by omega) (by simp; omega) ?_); intro v' w2 hown' hgrow hnil hloc; obtain ⟨hv2, hfz2⟩ := HG.out w2 hgrow; obtain ⟨ao2, n2, c2, hve⟩ := slice_of hown'; subst hve)
      go_end0
      have hp2 : p < w2.heap.size := by have := hgrow.size; simp at this; omega
      have hno : ∀ c ∈ l, c.1 ≠ a := fun c hc => by
        obtain ⟨j, hj, rfl⟩ := List.getElem_of_mem hc
        have := HN.out j hj
        simpa [List.getD, hj] using this
      have hset : w2.grownBy (w2.setCell ⟨p, 0, none⟩ (.slice ao2 n2 c2)) (some p) := ⟨rfl, rfl, rfl, by simp, fun k _ hk => heap_setCell_other w2 ⟨p, 0, none⟩ k (.slice ao2 n2 c2) (fun e => hk (by simp [e]))⟩
      have hb2 : Below p w w2 := hb1.grown hgrow (by simp; omega) (fun j hj => by have := hne j hj; omega)
      refine ⟨rfl, l ++ [(a, b)], ⟨⟨.slice ao2 n2 c2, ?_, ?_⟩, ?_, ?_, HH.out.keys.snoc hno⟩, rd_snoc hno, by simp, ?_, fun k' hk' ha' => ?_⟩
      · exact World.cell?_setCell_same w2 _ _ hv2
      · have h2 : w2.ownsRow (p + 1) 33 2 (.slice ao2 n2 c2) (l ++ [(a, b)]).length (flat (l ++ [(a, b)])) := by
          rw [HF.out, List.length_append]; exact hown'
        refine World.ownsRow.kept h2 hset ?_
        cases hb9 : (Value.slice ao2 n2 c2).ownBlock with
        | none => exact .inl rfl
        | some g =>
          right
          intro e
          have := (World.ownsRow.lt h2 g hb9).1
          have e2 : g = p := by simpa using e
          omega
      · rw [World.frozen?_setCell]; exact hfz2
      · intro c hc
        rcases List.mem_append.1 hc with h1 | h1
        · exact HH.out.ok c h1
        · have : c = (a, b) := by simpa using h1
          subst this; exact ⟨ha, hb⟩
      · exact hb2.setCell (p := ⟨p, 0, none⟩) (Nat.le_refl _) _
      · obtain ⟨n1, n2⟩ := ha'
        rw [refBlock_of HV.out] at n2
        refine ⟨(heap_setCell_other w2 ⟨p, 0, none⟩ k' _ n1).trans ((hgrow.block k' (by simp; omega) n2).trans (Below.heap_alloc w _ k' hk')), n1, ?_⟩
        rw [refBlock_of (World.cell?_setCell_same w2 _ _ hv2)]
        rcases hloc with h1 | h1
        · rw [h1]; exact n2
        · rw [h1]; intro e; have : k' = (w.alloc (.cells #[.int .u32 a, .int .u8 b] 33)).heap.size := Option.some.inj e; simp at this; omega
end Go.Proofs.Ytoabdbnecjbgkaa.M
