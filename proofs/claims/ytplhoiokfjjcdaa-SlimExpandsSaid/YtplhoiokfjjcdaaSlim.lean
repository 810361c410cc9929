/- What the functions of package slim compute: the bits of a parcel. -/
import Derived.Test.YtplhoiokfjjcdaaWide
import Derived.Test.YtplhoiokfjjcdaaCells
namespace Go.Proofs.Ytplhoiokfjjcdaa.S
set_option linter.unusedVariables false
open Go.ChangeShapes Go.WideShapes Go.ChangeAt Go.RowKit Go.Proofs.Ytplhoiokfjjcdaa.P Go.Proofs.Ytplhoiokfjjcdaa.W

def FieldAt (x l n r : Int) : Prop := ∀ w, Calls Try.prog 60 #[.int .u32 x, .int .i64 l, .int .i64 n] w fun e w' => e = .returned (.int .u32 r) ∧ ∃ n, w' = w.drewN n
theorem at_ (x h l : Int) (w : World) (h0 : 0 ≤ x) (h1 : x < 4294967296) (hl0 : 0 ≤ l) (hl1 : l ≤ h) (hh : h ≤ 31) :
    Calls Try.prog 48 #[.int .u32 x, .int .i64 h, .int .i64 l] w fun e w' => e = .returned (.int .i64 (fld x l.toNat (h - l + 1).toNat)) ∧ ∃ n, w' = w.drewN n := by
  have hf := fld_lt32 x l.toNat (b := (h - l + 1).toNat) (by omega)
  have e : held (h - l + 1) = (h - l + 1).toNat := by unfold held; omega
  have e2 : max l 0 = l := by omega
  have hw : FieldAt x l (h - l + 1) (fld x l.toNat (h - l + 1).toNat) := by
    intro w
    have := W.Field x l (h - l + 1) w h0 h1
    rw [e, e2] at this; exact this
  clear e e2
  generalize fld x l.toNat (h - l + 1).toNat = r at *
  go_enter Try.func48, Try.ntmps48
  go_wp2_with (go_at_call 60; refine (hw _).mono ?_; rintro e w' ⟨rfl, m, rfl⟩)
  go_ret
  exact ⟨rfl, _, rfl⟩
theorem take (x a t : Int) (ad : Addr) (w : World) (h0 : 0 ≤ x) (h1 : x < 4294967296) (ha0 : 0 ≤ a) (ha1 : a ≤ 31) (ht0 : 0 ≤ t) (ht1 : t ≤ 15) (hc : w.cell? ad = some (.int .u32 x)) :
    Calls Try.prog 98 #[.int .i64 a, .int .i64 t, .pointer (some ad)] w fun e w' => e = .returned (.int .u32 (bi x a * 2 ^ t.toNat)) ∧ ∃ n, w' = w.drewN n := by
  have hb := bi_bd x a
  have hat : ∀ w, Calls Try.prog 48 #[.int .u32 x, .int .i64 a, .int .i64 a] w fun e w' => e = .returned (.int .i64 (bi x a)) ∧ ∃ n, w' = w.drewN n := by
    intro w
    have := at_ x a a w h0 h1 ha0 (Int.le_refl _) ha1
    have e : (a - a + 1).toNat = 1 := by omega
    have e2 : fld x a.toNat 1 = bi x a := by unfold bi fld; rw [if_pos ha0]; rfl
    rw [e, e2] at this; exact this
  have hp : (2 : Int) ^ t.toNat ≤ 2 ^ 15 := p2le (by omega)
  have hp1 := p2pos t.toNat
  have hp2 : (2 : Int) ^ 15 = 32768 := by decide
  rw [hp2] at hp
  have hm : 0 ≤ bi x a * 2 ^ t.toNat ∧ bi x a * 2 ^ t.toNat < 4294967296 := by
    have : bi x a = 0 ∨ bi x a = 1 := by omega
    rcases this with e | e <;> rw [e] <;> omega
  clear hp2 hp hp1
  generalize bi x a = r at *
  go_enter Try.func98, Try.ntmps98
  go_wp2_with (go_at_call 48; refine (hat _).mono ?_; rintro e w' ⟨rfl, m, rfl⟩)
  go_ret
  exact ⟨rfl, _, rfl⟩
/-- the cells of pairs: from where, to where; the places to where go down by one, to K -/
def PairCells (w : World) (b : Nat) (fs : List Int) (K : Nat) : Prop :=
  ∀ i, i < fs.length → w.cell? ⟨b, i * 2, none⟩ = some (.int .i64 (fs.getD i 0)) ∧ w.cell? ⟨b, i * 2 + 1, none⟩ = some (.int .i64 ((K + (fs.length - 1 - i) : Nat) : Int))
theorem sum_round (x : Int) (fs : List Int) (k j : Nat) (hk : k < fs.length) (hj : k + 1 + j ≤ 31) :
    bits .or .u32 (bitsV x (fs.take k) * 2 ^ (j + 1)) (bi x (fs.getD k 0) * 2 ^ j) = bitsV x (fs.take (k + 1)) * 2 ^ j ∧ 0 ≤ bitsV x (fs.take (k + 1)) * 2 ^ j ∧ bitsV x (fs.take (k + 1)) * 2 ^ j < 4294967296 := by
  have e : fs.take (k + 1) = fs.take k ++ [fs.getD k 0] := by
    rw [List.take_succ_eq_append_getElem hk]; simp [List.getD, hk]
  have hb := bitsV_bd x (fs.take k)
  have hb2 := bitsV_bd x (fs.take (k + 1))
  have hl : (fs.take k).length = k := by rw [List.length_take]; omega
  have hl2 : (fs.take (k + 1)).length = k + 1 := by rw [List.length_take]; omega
  rw [hl] at hb
  rw [hl2] at hb2
  have hs : bitsV x (fs.take (k + 1)) = 2 * bitsV x (fs.take k) + bi x (fs.getD k 0) := by rw [e, bitsV_snoc]
  have hi := bi_bd x (fs.getD k 0)
  have hp := p2pos j
  have h32 : (2 : Int) ^ (k + 1 + j) ≤ 2 ^ 31 := p2le hj
  rw [p2add] at h32
  have h31 : (2 : Int) ^ 31 = 2147483648 := by decide
  rw [h31] at h32
  have hv : bitsV x (fs.take (k + 1)) * 2 ^ j < 2 ^ (k + 1) * 2 ^ j := Int.mul_lt_mul_of_pos_right hb2.2 hp
  have hv0 : 0 ≤ bitsV x (fs.take (k + 1)) * 2 ^ j := Int.mul_nonneg hb2.1 (Int.le_of_lt hp)
  have hex : bitsV x (fs.take k) * 2 ^ (j + 1) + bi x (fs.getD k 0) * 2 ^ j = bitsV x (fs.take (k + 1)) * 2 ^ j := by
    rw [hs, p2succ, Int.add_mul]
    congr 1
    rw [← Int.mul_assoc, Int.mul_comm 2 (bitsV x (fs.take k))]
  have hlo : bi x (fs.getD k 0) * 2 ^ j < 2 ^ (j + 1) := by
    rw [p2succ]
    have : bi x (fs.getD k 0) = 0 ∨ bi x (fs.getD k 0) = 1 := by omega
    rcases this with e | e <;> rw [e] <;> omega
  have hlo0 : 0 ≤ bi x (fs.getD k 0) * 2 ^ j := Int.mul_nonneg hi.1 (Int.le_of_lt hp)
  refine ⟨?_, hv0, by omega⟩
  rw [or_join' _ _ (j + 1) hlo0 hlo hb.1 (by rw [Int.add_comm, hex]; omega), hex]
theorem sum (x : Int) (b K : Nat) (fs : List Int) (w : World) (h0 : 0 ≤ x) (h1 : x < 4294967296) (hb : b < w.heap.size) (hc : PairCells w b fs K) (hl : fs.length ≤ 11) (hK : K + fs.length ≤ 16)
    (hp : ∀ i, i < fs.length → 0 ≤ fs.getD i 0 ∧ fs.getD i 0 ≤ 31) :
    Calls Try.prog 68 #[.int .u32 x, .slice (some ⟨b, 0, none⟩) fs.length fs.length] w
      fun e w' => e = .returned (.int .u32 (bitsV x fs * 2 ^ K)) ∧ Below w.heap.size w w' := by
  go_enter Try.func68, Try.ntmps68
  have HC := hid hc
  have HP := hid hp
  clear hc hp
  go_wp2_with fail
  have hx0 : (w.alloc (.cells #[.int .u32 x] 67)).cell? ⟨w.heap.size, 0, none⟩ = some (.int .u32 x) := by simp
  have hbx := below_alloc w (.cells #[.int .u32 x] 67)
  have hs0 : (w.alloc (.cells #[.int .u32 x] 67)).heap.size = w.heap.size + 1 := by simp
  generalize w.alloc (.cells #[.int .u32 x] 67) = w1 at *
  go_loopw [6, 12] (fun v i wr => ∃ k : Nat, k ≤ fs.length ∧ i = .int .i64 k ∧ v = .int .u32 (bitsV x (fs.take k) * 2 ^ (K + (fs.length - k))) ∧ Below w1.heap.size w1 wr) (fun _ i _ => fs.length - (intOf i).toNat)
  case atStart => exact ⟨0, by omega, rfl, by simp [bitsV], Below.refl _ _⟩
  case round =>
    obtain ⟨k, hk, rfl, rfl, hbel⟩ := hrel
    have hsz := hbel.size
    have hx := (hbel.cell (p := ⟨w.heap.size, 0, none⟩) (by show w.heap.size < _; omega)).trans hx0
    by_cases hs : k < fs.length
    · obtain ⟨c1, c2⟩ := HC.out k hs
      obtain ⟨g1, g2⟩ := HP.out k hs
      obtain ⟨e1, e2, e3⟩ := sum_round x fs k (K + (fs.length - 1 - k)) hs (by omega)
      have ej : K + (fs.length - k) = K + (fs.length - 1 - k) + 1 := by omega
      have ek : K + (fs.length - (k + 1)) = K + (fs.length - 1 - k) := by omega
      have d1 := (hbel.cell (p := ⟨b, k * 2, none⟩) (by show b < _; omega)).trans ((hbx.cell (p := ⟨b, k * 2, none⟩) hb).trans c1)
      have d2 := (hbel.cell (p := ⟨b, k * 2 + 1, none⟩) (by show b < _; omega)).trans ((hbx.cell (p := ⟨b, k * 2 + 1, none⟩) hb).trans c2)
      rw [ej]
      have hj : K + (fs.length - 1 - k) ≤ 15 := by omega
      have EK := hid ek
      clear c1 c2 ej ek
      generalize K + (fs.length - 1 - k) = j at *
      generalize fs.getD k 0 = f at *
      have hv0 : 0 ≤ bitsV x (fs.take k) * 2 ^ (j + 1) ∧ bitsV x (fs.take k) * 2 ^ (j + 1) < 4294967296 := by
        have hb0 := bitsV_bd x (fs.take k)
        have hl0 : (fs.take k).length = k := by rw [List.length_take]; omega
        rw [hl0] at hb0
        have hpj := p2pos (j + 1)
        refine ⟨Int.mul_nonneg hb0.1 (Int.le_of_lt hpj), ?_⟩
        have h2 : bitsV x (fs.take k) * 2 ^ (j + 1) < 2 ^ k * 2 ^ (j + 1) := Int.mul_lt_mul_of_pos_right hb0.2 hpj
        rw [← p2add] at h2
        have h3 : (2 : Int) ^ (k + (j + 1)) ≤ 2 ^ 31 := p2le (by omega)
        have h31 : (2 : Int) ^ 31 = 2147483648 := by decide
        omega
      have hjn : ((j : Nat) : Int).toNat = j := by omega
      have E1 := hid e1
      clear e1
      generalize bitsV x (fs.take k) * 2 ^ (j + 1) = V at *
      generalize hV2 : bitsV x (fs.take (k + 1)) * 2 ^ j = V2 at *
      have HV2 := hid hV2
      clear hV2
      go_wp2_with fail
      refine (take x f j ⟨w.heap.size, 0, none⟩ _ h0 h1 g1 g2 (by omega) (by omega) ((World.cell?_alloc_old _ _ _ (by show w.heap.size ≠ wr.heap.size; omega)).trans hx)).mono ?_
      rintro e w' ⟨rfl, m, rfl⟩
      rw [hjn]
      go_wp2
      go_roundw
      case rel => exact ⟨k + 1, by omega, by go_num, by rw [EK.out, HV2.out, E1.out], below_drewN (hbel.alloc (by omega) _) _⟩
      case measure => simp [intOf]; omega
    · obtain rfl : k = fs.length := by omega
      have he : fs.take fs.length = fs := List.take_length
      have hk0 : K + (fs.length - fs.length) = K := by omega
      rw [he, hk0]
      clear he hk0
      go_wp2
      go_ret
      exact ⟨rfl, bel_step hbx hbel⟩
end Go.Proofs.Ytplhoiokfjjcdaa.S
