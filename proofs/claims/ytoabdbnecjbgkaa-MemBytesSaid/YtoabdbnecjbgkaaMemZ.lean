/- What (*mem.Mem).Bytes computes. -/
import Derived.Test.YtoabdbnecjbgkaaMemX
import Derived.OwnWalk
namespace Go.Proofs.Ytoabdbnecjbgkaa.M
set_option linter.unusedVariables false
set_option linter.unusedSimpArgs false
open Go.ChangeShapes Go.WideShapes Go.ChangeAt Go.RowKit Go.Proofs.Ytoabdbnecjbgkaa.P Go.Proofs.Ytoabdbnecjbgkaa.W Go.Maps

theorem infoU8 : (Try.prog.info? 5).map (fun i => (i.zero, i.size, i.bytes)) = some (some (.int .u8 0), 1, 1) := by kernel_rfl
/-- how many bytes are told -/
def hlB (n : Int) : Nat := (min (max n 0) 65536).toNat
/-- a slice of bytes of the call's own -/
def BytesOwn (w : World) (b : Nat) (v : Value) (l : List Int) : Prop := w.ownsRow b 5 1 v l.length (l.map (Value.int .u8))
/-- the first k bytes, the rest 0 -/
def bytesTo (M : Int → Int) (a : Int) (k n : Nat) : List Int := (List.range n).map fun i => if i < k then M (adr a i) else 0
theorem bytesTo_length (M : Int → Int) (a : Int) (k n : Nat) : (bytesTo M a k n).length = n := by unfold bytesTo; simp
theorem bytesTo_zero (M : Int → Int) (a : Int) (n : Nat) : (bytesTo M a 0 n).map (Value.int .u8) = List.replicate n (.int .u8 0) := by
  apply List.ext_getElem?
  intro i
  unfold bytesTo
  by_cases h : i < n
  · simp [h]
  · simp [h]
theorem bytesTo_step (M : Int → Int) (a : Int) (k n : Nat) (h : k < n) : ((bytesTo M a k n).map (Value.int .u8)).set k (.int .u8 (M (adr a k))) = (bytesTo M a (k + 1) n).map (Value.int .u8) := by
  apply List.ext_getElem?
  intro i
  unfold bytesTo
  rw [List.getElem?_set]
  by_cases e : k = i
  · subst e; simp [h]
  · by_cases hi : i < n
    · have : (i < k + 1) = (i < k) := propext (by omega)
      simp [e, hi, this]
    · simp [e, hi]
theorem bytesTo_all (M : Int → Int) (a : Int) (n : Nat) : bytesTo M a n n = (List.range n).map fun i => M (adr a i) := by
  unfold bytesTo
  apply List.map_congr_left
  intro i hi
  rw [if_pos (by simpa using hi)]
set_option maxRecDepth 100000 in
set_option maxHeartbeats 1000000 in
theorem Bytes (w : World) (p B m : Nat) (M : Int → Int) (a n : Int) (h : MemAt w p B m M) (ha : okA a) (hn : -9223372036854775808 ≤ n ∧ n < 9223372036854775808) :
    Calls Try.prog 22 #[.pointer (some ⟨p, 0, none⟩), .int .u32 a, .int .i64 n] w fun e w' => e = .returned (.slice (some ⟨w.heap.size, 0, none⟩) (hlB n) (hlB n)) ∧ BytesOwn w' w.heap.size (.slice (some ⟨w.heap.size, 0, none⟩) (hlB n) (hlB n)) ((List.range (hlB n)).map fun i => M (adr a i)) ∧ Below w.heap.size w w' := by
  obtain ⟨i0, hi, hz0, hz1, hz2⟩ := info_parts infoU8
  have HH := hid h
  clear h
  have hn4 : (n ≤ 0 ∧ hlB n = 0) ∨ (0 < n ∧ n ≤ 65536 ∧ (hlB n : Int) = n) ∨ (65536 < n ∧ hlB n = 65536) := by unfold hlB; omega
  have hN : hlB n ≤ 65536 := by unfold hlB; omega
  rcases hn4 with ⟨h4, h5⟩ | ⟨h4, h6, h5⟩ | ⟨h4, h5⟩
  all_goals
    have H5 := hid h5
    clear h5
    go_enter Try.func22, Try.ntmps22
    go_wp2_with (at_make; refine wpList_make_full _ rfl _ _ 39 rfl w.heap.size 5 i0 (.int .u8 0) 1 Try.underlying39 hi hz0 hz1 _ _ _ _ (hlB n) rfl rfl (by have := H5.out; omega) (by have := H5.out; omega) (by rw [hz2]; omega) (by unfold maxLen; omega) (Nat.le_refl _) ?_; intro w1 hown hgr)
  all_goals
    have hz : w1.ownsRow w.heap.size 5 1 (.slice (some ⟨w.heap.size, 0, none⟩) (hlB n) (hlB n)) (hlB n) ((bytesTo M a 0 (hlB n)).map (Value.int .u8)) := by
      rw [bytesTo_zero, ← toList_madeCells_one]
      rw [Nat.mul_one] at hown
      exact hown
    have HOW := hid hz
    have HB1 := hid (show Below w.heap.size w w1 from (Below.refl _ _).grown hgr (Nat.le_refl _) (fun j hj => by cases hj))
    clear hown hz hgr H5
    try clear h4 h6
    generalize hNN : hlB n = N at *
    have HNN := hid hNN
    clear hNN
    go_loopw [15] (fun i wr => ∃ k : Nat, k ≤ N ∧ i = .int .i64 k ∧ wr.ownsRow w.heap.size 5 1 (.slice (some ⟨w.heap.size, 0, none⟩) N N) N ((bytesTo M a k N).map (Value.int .u8)) ∧ Below w.heap.size w wr) (fun i wr => N - (intOf i).toNat)
    case atStart => exact ⟨0, by omega, rfl, HOW.out, HB1.out⟩
    case round =>
      obtain ⟨k, hk, rfl, ho, hbw⟩ := hrel
      by_cases hk2 : k < N
      · have hkN : (k : Int) < N := by omega
        have hMr := HH.out.below hbw
        obtain ⟨c0, byt, D, hown, hD⟩ := id hMr
        have HD := hid hD
        have hkey := keyK (adr_ok a k)
        have hcell : wr.cell? ⟨w.heap.size, k, none⟩ = some (.int .u8 0) := (World.ownsRow.cellAt ho k (by omega)).trans (by unfold bytesTo; simp [hk2])
        have hfz := World.ownsRow.frozenAt ho k
        have hsto := World.ownsRow.stored ho k (.int .u8 (M (adr a k)))
        rw [bytesTo_step _ _ _ _ hk2] at hsto
        have HST := hid hsto
        have HBW := hid hbw
        clear hsto hD hMr byt hbw ho
        go_wp2_with (at_lookup; refine wpList_lookup_own_int _ rfl _ _ 58 rfl 23 5 .u8 lawK Try.underlying58 Try.underlying5 (zeroE _) B m D rfl hown _ _ rfl hkey ?_; intro c hat hwc; have hcc := bd_inj (hat.symm.trans (HD.out.look _ (adr_ok a k))); subst hcc)
        go_roundw
        case rel => exact ⟨k + 1, by omega, by go_num, HST.out.1, HBW.out.grown HST.out.2 HBW.out.size (fun j hj => by cases hj; exact Nat.le_refl _)⟩
        case measure => simp [intOf]; omega
      · obtain rfl : k = N := by omega
        have HO := hid ho
        clear ho
        go_wp2
        go_ret
        refine ⟨by rw [HNN.out]; rfl, ?_, hbw⟩
        have e := HO.out
        rw [bytesTo_all] at e
        rw [HNN.out]
        show World.ownsRow _ _ _ _ _ _ _
        simpa using e
end Go.Proofs.Ytoabdbnecjbgkaa.M
