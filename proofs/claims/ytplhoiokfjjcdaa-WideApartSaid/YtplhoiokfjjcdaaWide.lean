/- What the functions of package wide compute. -/
import Derived.Test.YtplhoiokfjjcdaaWord
import Derived.Test.YtplhoiokfjjcdaaInsP
import Derived.Deep.RegionHeld3
namespace Go.Proofs.Ytplhoiokfjjcdaa.V
set_option linter.unusedVariables false
open Go.ChangeShapes Go.WideShapes Go.ChangeAt Go.RowKit Go.Proofs.Ytplhoiokfjjcdaa.P Go.Proofs.Ytplhoiokfjjcdaa.W

/-- the cells of pieces, at the head of a block -/
def PieceCells (w : World) (b : Nat) (ps : List (Nat × Nat)) : Prop :=
  ∀ i, i < ps.length → w.cell? ⟨b, i * 2, none⟩ = some (.int .i64 ((ps.getD i (0, 0)).1 : Int)) ∧ w.cell? ⟨b, i * 2 + 1, none⟩ = some (.int .i64 ((ps.getD i (0, 0)).2 : Int))

theorem gather (x : Int) (n b : Nat) (ps : List (Nat × Nat)) (w : World) (h0 : 0 ≤ x) (h1 : x < 4294967296) (hb : b < w.heap.size) (hc : PieceCells w b ps) (ht : total ps + n ≤ 32) (hl : ps.length ≤ 8)
    (hp : ∀ p ∈ ps, p.1 ≤ 31 ∧ p.2 ≤ 32) :
    Calls Try.prog 45 #[.int .u32 x, .int .i64 n, .slice (some ⟨b, 0, none⟩) ps.length ps.length] w
      fun e w' => e = .returned (.int .i32 (sgn (bitsV x (places ps ++ no n)) (total ps + n))) ∧ Below w.heap.size w w' := by
  go_enter Try.func45, Try.ntmps45
  have HC : Hid _ := hc
  clear hc
  have HP : Hid _ := hp
  clear hp
  go_wp2
  go_loopw [7, 8, 14] (fun v s i wr => ∃ k : Nat, k ≤ ps.length ∧ i = .int .i64 k ∧ v = .int .u32 (bitsV x (places (ps.take k))) ∧ s = .int .i64 (n + total (ps.take k)) ∧ Below w.heap.size w wr) (fun _ _ i _ => ps.length - (intOf i).toNat)
  case atStart => exact ⟨0, by omega, rfl, rfl, by simp [total], Below.refl _ _⟩
  case round =>
    obtain ⟨k, hk, rfl, rfl, rfl, hbel⟩ := hrel
    have hsz := hbel.size
    by_cases hs : k < ps.length
    · obtain ⟨c1, c2⟩ := HC.out k hs
      have hmem : ps.getD k (0, 0) ∈ ps := by simp [List.getD, hs]
      obtain ⟨g1, g2⟩ := HP.out _ hmem
      have htk := total_take ps (k + 1)
      have hto := total_snoc (ps.take k) (ps.getD k (0, 0))
      have hpr := piece_round x (ps.take k) (ps.getD k (0, 0)).1 (ps.getD k (0, 0)).2
      rw [take_piece ps k hs] at htk
      have etk := take_piece ps k hs
      clear hmem
      generalize ps.getD k (0, 0) = p at *
      obtain ⟨pl, pn⟩ := p
      simp only at c1 c2 g1 g2 hto hpr
      have d1 := (hbel.cell (p := ⟨b, k * 2, none⟩) hb).trans c1
      have d2 := (hbel.cell (p := ⟨b, k * 2 + 1, none⟩) hb).trans c2
      have hh := held_nat g2
      have hin : total (ps.take k) + pn ≤ 32 := by omega
      have hpr := hpr hin
      have HT : Hid _ := hto
      have HE : Hid _ := etk
      have HR : Hid _ := hpr
      clear c1 c2 hto etk hpr htk
      have hbt := bitsV_bd x (places (ps.take k))
      go_wp2
      go_quiet ((go_at_call 60; exact Calls.quiet_of (W.Field _ _ _ _ h0 h1)))
      go_wp2
      go_roundw
      case rel =>
        refine ⟨k + 1, by omega, by go_num, ?_, ?_, ?_⟩
        · rw [HE.out, ← HR.out]
        · rw [HE.out, HT.out]; simp; omega
        · exact below_drewN (hbel.alloc (by omega) _) _
      case measure => simp [intOf]; omega
    · obtain rfl : k = ps.length := by omega
      have HN : Hid _ := noughts_word x ps n ht
      have ha : held ((n : Int) + (total ps : Int)) = total ps + n := by
        rw [show (n : Int) + (total ps : Int) = ((total ps + n : Nat) : Int) by omega]; exact held_nat ht
      have hbt := bitsV_bd x (places ps)
      have he : ps.take ps.length = ps := List.take_length
      go_wp2_with (first | (go_at_call 66; refine (W.Sign _ _ _).mono ?_; rintro e w' ⟨rfl, rfl⟩))
      go_ret
      exact ⟨ret_int (by rw [← HN.out]), hbel⟩

theorem gather' (x N : Int) (n L b : Nat) (ps : List (Nat × Nat)) (w : World) (hN : N = (n : Int)) (hL : L = ps.length) (h0 : 0 ≤ x) (h1 : x < 4294967296) (hb : b < w.heap.size) (hc : PieceCells w b ps) (ht : total ps + n ≤ 32) (hl : ps.length ≤ 8)
    (hp : ∀ p ∈ ps, p.1 ≤ 31 ∧ p.2 ≤ 32) :
    Calls Try.prog 45 #[.int .u32 x, .int .i64 N, .slice (some ⟨b, 0, none⟩) L L] w
      fun e w' => e = .returned (.int .i32 (sgn (bitsV x (places ps ++ no n)) (total ps + n))) ∧ Below w.heap.size w w' := by
  subst hN hL
  exact gather x n b ps w h0 h1 hb hc ht hl hp

theorem ImmI (x : Int) (w : World) (h0 : 0 ≤ x) (h1 : x < 4294967296) :
    Calls Try.prog 16 #[.int .u32 x] w fun e w' => e = .returned (.int .i32 (immI x)) ∧ Below w.heap.size w w' := by
  go_enter Try.func16, Try.ntmps16
  go_wp2_with fail
  refine (gather' x 0 0 1 w.heap.size [(20, 12)] _ rfl rfl h0 h1 (by simp) ?_ (by decide) (by decide) (by decide)).mono ?_
  · intro i hi
    match i, hi with
    | 0, _ => exact ⟨by simp, by simp⟩
  · rintro e w' ⟨rfl, hbel⟩
    have hbw := bel_step (w := w) (by go_grown) hbel
    go_wp2
    go_ret
    exact ⟨ret_int (by rw [immI_places]; rfl), hbw⟩

theorem ImmS (x : Int) (w : World) (h0 : 0 ≤ x) (h1 : x < 4294967296) :
    Calls Try.prog 18 #[.int .u32 x] w fun e w' => e = .returned (.int .i32 (immS x)) ∧ Below w.heap.size w w' := by
  go_enter Try.func18, Try.ntmps18
  go_wp2_with fail
  refine (gather' x 0 0 2 w.heap.size [(25, 7), (7, 5)] _ rfl rfl h0 h1 (by simp) ?_ (by decide) (by decide) (by decide)).mono ?_
  · intro i hi
    match i, hi with
    | 0, _ => exact ⟨by simp, by simp⟩
    | 1, _ => exact ⟨by simp, by simp⟩
  · rintro e w' ⟨rfl, hbel⟩
    have hbw := bel_step (w := w) (by go_grown) hbel
    go_wp2
    go_ret
    exact ⟨ret_int (by rw [immS_places]; rfl), hbw⟩

theorem ImmB (x : Int) (w : World) (h0 : 0 ≤ x) (h1 : x < 4294967296) :
    Calls Try.prog 20 #[.int .u32 x] w fun e w' => e = .returned (.int .i32 (immB x)) ∧ Below w.heap.size w w' := by
  go_enter Try.func20, Try.ntmps20
  go_wp2_with fail
  refine (gather' x 1 1 4 w.heap.size [(31, 1), (7, 1), (25, 6), (8, 4)] _ rfl rfl h0 h1 (by simp) ?_ (by decide) (by decide) (by decide)).mono ?_
  · intro i hi
    match i, hi with
    | 0, _ => exact ⟨by simp, by simp⟩
    | 1, _ => exact ⟨by simp, by simp⟩
    | 2, _ => exact ⟨by simp, by simp⟩
    | 3, _ => exact ⟨by simp, by simp⟩
  · rintro e w' ⟨rfl, hbel⟩
    have hbw := bel_step (w := w) (by go_grown) hbel
    go_wp2
    go_ret
    exact ⟨ret_int (by rw [immB_places]; rfl), hbw⟩

theorem ImmU (x : Int) (w : World) (h0 : 0 ≤ x) (h1 : x < 4294967296) :
    Calls Try.prog 22 #[.int .u32 x] w fun e w' => e = .returned (.int .i32 (immU x)) ∧ Below w.heap.size w w' := by
  go_enter Try.func22, Try.ntmps22
  go_wp2_with fail
  refine (gather' x 12 12 1 w.heap.size [(12, 20)] _ rfl rfl h0 h1 (by simp) ?_ (by decide) (by decide) (by decide)).mono ?_
  · intro i hi
    match i, hi with
    | 0, _ => exact ⟨by simp, by simp⟩
  · rintro e w' ⟨rfl, hbel⟩
    have hbw := bel_step (w := w) (by go_grown) hbel
    go_wp2
    go_ret
    exact ⟨ret_int (by rw [immU_places]; rfl), hbw⟩

theorem ImmJ (x : Int) (w : World) (h0 : 0 ≤ x) (h1 : x < 4294967296) :
    Calls Try.prog 24 #[.int .u32 x] w fun e w' => e = .returned (.int .i32 (immJ x)) ∧ Below w.heap.size w w' := by
  go_enter Try.func24, Try.ntmps24
  go_wp2_with fail
  refine (gather' x 1 1 4 w.heap.size [(31, 1), (12, 8), (20, 1), (21, 10)] _ rfl rfl h0 h1 (by simp) ?_ (by decide) (by decide) (by decide)).mono ?_
  · intro i hi
    match i, hi with
    | 0, _ => exact ⟨by simp, by simp⟩
    | 1, _ => exact ⟨by simp, by simp⟩
    | 2, _ => exact ⟨by simp, by simp⟩
    | 3, _ => exact ⟨by simp, by simp⟩
  · rintro e w' ⟨rfl, hbel⟩
    have hbw := bel_step (w := w) (by go_grown) hbel
    go_wp2
    go_ret
    exact ⟨ret_int (by rw [immJ_places]; rfl), hbw⟩


theorem at_ (x l n : Int) (a : Addr) (w : World) (h0 : 0 ≤ x) (h1 : x < 4294967296) (hc : w.cell? a = some (.int .u32 x)) :
    Calls Try.prog 59 #[.int .i64 l, .int .i64 n, .pointer (some a)] w fun e w' => e = .returned (.int .i64 (fld x (max l 0).toNat (held n))) ∧ ∃ n, w' = w.drewN n := by
  have hf := fld_lt32 x (max l 0).toNat (held_le n)
  go_enter Try.func59, Try.ntmps59
  go_wp2_with (first | (go_at_call 60; refine (W.Field _ _ _ _ h0 h1).mono ?_; rintro e w' ⟨rfl, m, rfl⟩))
  go_ret
  exact ⟨rfl, _, rfl⟩

theorem cut (x : Int) (w : World) (h0 : 0 ≤ x) (h1 : x < 4294967296) :
    Calls Try.prog 34 #[.int .u32 x] w fun e w' => e = .returned (.agg #[.int .u32 x, .int .i64 (fld x 7 5), .int .i64 (fld x 12 3), .int .i64 (fld x 15 5), .int .i64 (fld x 20 5), .int .u32 (fld x 25 7)]) ∧ Below w.heap.size w w' := by
  go_enter Try.func34, Try.ntmps34
  go_wp2
  go_region_held3 (fun w' => w'.cell? ⟨w.heap.size, 0, none⟩ = some (.int .u32 x)) (go_keep)
    ((first | (go_at_call 60; refine (W.Field _ _ _ _ h0 h1).mono ?_; rintro e w' ⟨rfl, m, rfl⟩) | (go_at_call 59; refine (at_ x _ _ _ _ h0 h1 (by assumption)).mono ?_; rintro e w' ⟨rfl, m, rfl⟩)))
  go_wp2
  go_returns
  exact ⟨rfl, (by repeat' (first | (with_reducible exact Below.refl _ _) | (with_reducible assumption) | (with_reducible refine below_drewN ?_ _) | (with_reducible refine Below.alloc ?_ ?_ _) | (with_reducible refine Below.drew ?_) | (with_reducible refine Below.setCell ?_ ?_ _) | (with_reducible exact Below.size (by assumption)) | go_size))⟩
end Go.Proofs.Ytplhoiokfjjcdaa.V
