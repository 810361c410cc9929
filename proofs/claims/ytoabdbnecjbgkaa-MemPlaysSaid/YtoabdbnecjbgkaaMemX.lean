/- What the functions of package mem compute: numbers stored, bytes laid, a new memory. -/
import Derived.Test.YtoabdbnecjbgkaaMemW
namespace Go.Proofs.Ytoabdbnecjbgkaa.M
set_option linter.unusedVariables false
set_option linter.unusedSimpArgs false
open Go.ChangeShapes Go.WideShapes Go.ChangeAt Go.RowKit Go.Proofs.Ytoabdbnecjbgkaa.P Go.Proofs.Ytoabdbnecjbgkaa.W Go.Maps

theorem grown_refl (w : World) (row : Option Nat) : w.grownBy w row := ⟨rfl, rfl, rfl, Nat.le_refl _, fun _ _ _ => rfl⟩
theorem grown_trans {a b c : World} {row : Option Nat} (h : a.grownBy b row) (k : b.grownBy c row) : a.grownBy c row :=
  ⟨k.os.trans h.os, k.tape.trans h.tape, k.output.trans h.output, Nat.le_trans h.size k.size, fun j hj hr => (k.block j (Nat.lt_of_lt_of_le hj h.size) hr).trans (h.block j hj hr)⟩
set_option maxRecDepth 100000 in
set_option maxHeartbeats 1000000 in
theorem Store (w : World) (p B m : Nat) (M : Int → Int) (a n v : Int) (h : MemAt w p B m M) (ha : okA a) (hn : -9223372036854775808 ≤ n ∧ n < 9223372036854775808) (hv : 0 ≤ v ∧ v < 4294967296) (hm : m + 4 < maxLen) :
    Calls Try.prog 10 #[.pointer (some ⟨p, 0, none⟩), .int .u32 a, .int .i64 n, .int .u32 v] w fun e w' => e = .returned (.tuple #[]) ∧ MemAt w' p B (m + 4) (stN M a v (hl4 n)) ∧ w.grownBy w' (some B) := by
  have HH := hid h
  have hl := hl4_le n
  have hlo : (0 : Int) ≤ hl4 n := by omega
  have hn4 : (n ≤ 4 ∧ ((hl4 n : Int) = n ∨ (n < 0 ∧ hl4 n = 0))) ∨ (4 < n ∧ hl4 n = 4) := by unfold hl4; omega
  clear h
  rcases hn4 with ⟨h4, h5⟩ | ⟨h4, h5⟩
  all_goals
    go_enter Try.func10, Try.ntmps10
    go_wp2
    go_loopw [11] (fun i wr => ∃ k : Nat, k ≤ hl4 n ∧ i = .int .i64 k ∧ MemAt wr p B (m + k) (stN M a v k) ∧ w.grownBy wr (some B)) (fun i wr => hl4 n - (intOf i).toNat)
    case atStart => exact ⟨0, by omega, rfl, HH.out, grown_refl _ _⟩
    case round =>
      obtain ⟨k, hk, rfl, hM, hg⟩ := hrel
      by_cases hk2 : k < hl4 n
      · have hkn : (k : Int) < n := by omega
        have hk4 : (k : Int) < 4 := by omega
        clear h4 h5 hlo
        have e8 : v / 2 ^ (8 * k) % 256 = v / 256 ^ k % 256 := by rw [Int.pow_mul]; rfl
        have hP := put wr p B (m + k) (stN M a v k) (adr a k) (v / 2 ^ (8 * k) % 256) hM (adr_ok a k) (by omega) (by omega)
        rw [show upd (stN M a v k) (adr a k) (v / 2 ^ (8 * k) % 256) = stN M a v (k + 1) by rw [e8]; rfl] at hP
        have HG := hid hg
        clear e8 hM hg
        go_wp2_with fail
        refine hP.mono ?_
        rintro e w1 ⟨rfl, hM1, hg1⟩
        go_wp2_with fail
        go_roundw
        case rel => exact ⟨k + 1, by omega, by go_num, hM1, grown_trans HG.out hg1⟩
        case measure => simp [intOf]; omega
      · obtain rfl : k = hl4 n := by omega
        (first | (have hx : n ≤ (hl4 n : Int) := by omega) | (have hx : (4 : Int) ≤ (hl4 n : Int) := by omega))
        go_wp2
        go_end0
        exact ⟨rfl, hM.mono (by omega), hg⟩
/-- bytes in a row -/
def BytesAt (w : World) (v : Value) (l : List Int) : Prop :=
  ∃ (ao : Option Addr) (cap : Nat), v = .slice ao l.length cap ∧ ∀ i, i < l.length → ∃ b o, ao = some ⟨b, o, none⟩ ∧ w.cell? ⟨b, o + i, none⟩ = some (.int .u8 (l.getD i 0))
/-- a row of bytes that lies in no block of the memory is kept by its stores -/
theorem BytesAt.kept {w w' : World} {v : Value} {l : List Int} {row : Option Nat} (h : BytesAt w v l) (hg : w.grownBy w' row) (hr : ∀ a n c, v = .slice (some a) n c → some a.block ≠ row) : BytesAt w' v l := by
  obtain ⟨ao, cap, h1, h3⟩ := h
  refine ⟨ao, cap, h1, fun i hi => ?_⟩
  obtain ⟨b, o, rfl, g0⟩ := h3 i hi
  have h2 := World.block_lt_of_cell? w _ g0
  have hb : w'.heap[b]? = w.heap[b]? := hg.block b h2 (hr _ _ _ h1)
  exact ⟨b, o, rfl, by unfold World.cell? at g0 ⊢; rw [hb]; exact g0⟩
theorem BytesAt.old {w w' : World} {v : Value} {l : List Int} (h : BytesAt w v l) (hb : Below w.heap.size w w') : BytesAt w' v l := h.kept (grown_of_below hb) (fun _ _ _ _ => by simp)
set_option maxRecDepth 100000 in
set_option maxHeartbeats 1000000 in
theorem Lay (w : World) (p B m : Nat) (M : Int → Int) (a : Int) (v : Value) (l : List Int) (h : MemAt w p B m M) (ha : okA a) (hv : BytesAt w v l) (hl : ∀ b ∈ l, 0 ≤ b ∧ b < 256) (hll : l.length ≤ 4999999990) (hB : ∀ a n c, v = .slice (some a) n c → a.block ≠ B) (hm : m + l.length < maxLen) :
    Calls Try.prog 17 #[.pointer (some ⟨p, 0, none⟩), .int .u32 a, v] w fun e w' => e = .returned (.tuple #[]) ∧ MemAt w' p B (m + l.length) (layN M a l l.length) ∧ w.grownBy w' (some B) := by
  have HH := hid h
  have HV := hid hv
  obtain ⟨ao, cap, rfl, -⟩ := id hv
  have HL := hid hl
  have HB := hid hB
  clear h hv hl hB
  go_enter Try.func17, Try.ntmps17
  go_wp2
  go_loopw [10] (fun i wr => ∃ k : Nat, k ≤ l.length ∧ i = .int .i64 k ∧ MemAt wr p B (m + k) (layN M a l k) ∧ w.grownBy wr (some B)) (fun i wr => l.length - (intOf i).toNat)
  case atStart => exact ⟨0, by omega, rfl, HH.out, grown_refl _ _⟩
  case round =>
    obtain ⟨k, hk, rfl, hM, hg⟩ := hrel
    by_cases hk2 : k < l.length
    · have hkl : (k : Int) < l.length := by omega
      have hVr := HV.out.kept hg (fun a n c e => by have := HB.out a n c e; simpa using this)
      obtain ⟨ao2, cap2, h1, h2⟩ := hVr
      injection h1 with h1 _ h3
      subst h1
      obtain ⟨b, o, rfl, hc⟩ := h2 k hk2
      clear h2 h3
      have hb := HL.out (l.getD k 0) (by simp [List.getD, hk2])
      have hP := put wr p B (m + k) (layN M a l k) (adr a k) (l.getD k 0) hM (adr_ok a k) hb (by omega)
      rw [show upd (layN M a l k) (adr a k) (l.getD k 0) = layN M a l (k + 1) from rfl] at hP
      have HG := hid hg
      clear hM hg
      generalize l.getD k 0 = c at *
      go_wp2_with fail
      refine hP.mono ?_
      rintro e w1 ⟨rfl, hM1, hg1⟩
      go_wp2_with fail
      go_roundw
      case rel => exact ⟨k + 1, by omega, by go_num, hM1, grown_trans HG.out hg1⟩
      case measure => simp [intOf]; omega
    · obtain rfl : k = l.length := by omega
      go_wp2
      go_end0
      exact ⟨rfl, hM, hg⟩
end Go.Proofs.Ytoabdbnecjbgkaa.M
