/- What the functions of package word compute: one contract each. -/
import Derived.Test.YtoabdbnecjbgkaaRows
import Derived.Test.YtoabdbnecjbgkaaWordP
import Derived.WalkKit
import Derived.ProofKit
import Derived.OpenShut
import Derived.Deep.QuietTactic
import Derived.Handy
import Derived.BigQuiet
namespace Go.Proofs.Ytoabdbnecjbgkaa.W
set_option linter.unusedVariables false
open Go.ChangeShapes Go.WideShapes Go.ChangeAt Go.RowKit Go.Proofs.Ytoabdbnecjbgkaa.P

theorem ret_int {k : IntKind} {a b : Int} (h : a = b) : Ending.returned (.int k a) = .returned (.int k b) := by rw [h]
theorem ret_bool {a b : Bool} (h : a = b) : Ending.returned (.bool a) = .returned (.bool b) := by rw [h]

theorem below_drewN {B : Nat} {a w : World} (h : Below B a w) (n : Nat) : Below B a (w.drewN n) := h.trans ⟨rfl, rfl, rfl, Nat.le_refl _, fun _ _ => rfl⟩

theorem bcell {W w1 : World} (hb : Below W.heap.size W w1) : (∀ b o, b < W.heap.size → w1.cell? ⟨b, o, none⟩ = W.cell? ⟨b, o, none⟩) ∧ (∀ b o, b < W.heap.size → w1.frozen? ⟨b, o, none⟩ = W.frozen? ⟨b, o, none⟩) :=
  ⟨fun b o h => hb.cell (p := ⟨b, o, none⟩) h, fun b o h => hb.frozen (p := ⟨b, o, none⟩) h⟩
theorem bel_step {w W w' : World} (h : Below w.heap.size w W) (k : Below W.heap.size W w') : Below w.heap.size w w' := h.trans (k.mono h.size)

/-- what a cell holds, where it is there -/
def cellv (w : World) (a : Addr) : Value := (w.cell? a).getD undef
theorem cell_is {w : World} {a : Addr} (h : (w.cell? a).isSome = true) : w.cell? a = some (cellv w a) := by
  unfold cellv
  cases hc : w.cell? a with
  | none => rw [hc] at h; cases h
  | some v => rfl
theorem cell_set {w : World} {a : Addr} {v u : Value} (h : (w.setCell a v).cell? a = some u) : (w.setCell a v).cell? a = some v := by
  cases hc : w.cell? a with
  | some x => exact World.cell?_setCell_same w a v hc
  | none =>
    exfalso
    unfold World.cell? World.setCell at *
    simp only [Array.getElem?_modify, ↓reduceIte] at h
    cases hb : w.heap[a.block]? with
    | none => rw [hb] at h; simp at h
    | some o =>
      rw [hb] at h hc
      cases o with
      | cells c t f =>
        simp only [Option.map_some] at h hc
        cases hs : a.spot.isSome with
        | true => simp [hs] at h
        | false =>
          simp [hs] at hc
          simp only [hs] at h
          rw [Array.getElem?_eq_none (by simp; omega)] at h
          simp at h
      | _ => simp at h
theorem five_cells {w : World} {b : Nat} {v0 v1 v2 v3 v4 u0 u1 u2 u3 u4 : Value}
    (e0 : (((((w.setCell ⟨b, 0, none⟩ v0).setCell ⟨b, 1, none⟩ v1).setCell ⟨b, 2, none⟩ v2).setCell ⟨b, 3, none⟩ v3).setCell ⟨b, 4, none⟩ v4).cell? ⟨b, 0, none⟩ = some u0)
    (e1 : (((((w.setCell ⟨b, 0, none⟩ v0).setCell ⟨b, 1, none⟩ v1).setCell ⟨b, 2, none⟩ v2).setCell ⟨b, 3, none⟩ v3).setCell ⟨b, 4, none⟩ v4).cell? ⟨b, 1, none⟩ = some u1)
    (e2 : (((((w.setCell ⟨b, 0, none⟩ v0).setCell ⟨b, 1, none⟩ v1).setCell ⟨b, 2, none⟩ v2).setCell ⟨b, 3, none⟩ v3).setCell ⟨b, 4, none⟩ v4).cell? ⟨b, 2, none⟩ = some u2)
    (e3 : (((((w.setCell ⟨b, 0, none⟩ v0).setCell ⟨b, 1, none⟩ v1).setCell ⟨b, 2, none⟩ v2).setCell ⟨b, 3, none⟩ v3).setCell ⟨b, 4, none⟩ v4).cell? ⟨b, 3, none⟩ = some u3)
    (e4 : (((((w.setCell ⟨b, 0, none⟩ v0).setCell ⟨b, 1, none⟩ v1).setCell ⟨b, 2, none⟩ v2).setCell ⟨b, 3, none⟩ v3).setCell ⟨b, 4, none⟩ v4).cell? ⟨b, 4, none⟩ = some u4) :
    (((((w.setCell ⟨b, 0, none⟩ v0).setCell ⟨b, 1, none⟩ v1).setCell ⟨b, 2, none⟩ v2).setCell ⟨b, 3, none⟩ v3).setCell ⟨b, 4, none⟩ v4).cell? ⟨b, 0, none⟩ = some v0 ∧
    (((((w.setCell ⟨b, 0, none⟩ v0).setCell ⟨b, 1, none⟩ v1).setCell ⟨b, 2, none⟩ v2).setCell ⟨b, 3, none⟩ v3).setCell ⟨b, 4, none⟩ v4).cell? ⟨b, 1, none⟩ = some v1 ∧
    (((((w.setCell ⟨b, 0, none⟩ v0).setCell ⟨b, 1, none⟩ v1).setCell ⟨b, 2, none⟩ v2).setCell ⟨b, 3, none⟩ v3).setCell ⟨b, 4, none⟩ v4).cell? ⟨b, 2, none⟩ = some v2 ∧
    (((((w.setCell ⟨b, 0, none⟩ v0).setCell ⟨b, 1, none⟩ v1).setCell ⟨b, 2, none⟩ v2).setCell ⟨b, 3, none⟩ v3).setCell ⟨b, 4, none⟩ v4).cell? ⟨b, 3, none⟩ = some v3 ∧
    (((((w.setCell ⟨b, 0, none⟩ v0).setCell ⟨b, 1, none⟩ v1).setCell ⟨b, 2, none⟩ v2).setCell ⟨b, 3, none⟩ v3).setCell ⟨b, 4, none⟩ v4).cell? ⟨b, 4, none⟩ = some v4 := by
  have o : ∀ (W : World) (i j : Nat) (v : Value), i ≠ j → (W.setCell ⟨b, i, none⟩ v).cell? ⟨b, j, none⟩ = W.cell? ⟨b, j, none⟩ := fun W i j v h =>
    World.cell?_setCell_other W _ _ v (fun e => h (by injection e))
  simp only [o _ 4 0 _ (by decide), o _ 3 0 _ (by decide), o _ 2 0 _ (by decide), o _ 1 0 _ (by decide)] at e0 ⊢
  simp only [o _ 4 1 _ (by decide), o _ 3 1 _ (by decide), o _ 2 1 _ (by decide)] at e1 ⊢
  simp only [o _ 4 2 _ (by decide), o _ 3 2 _ (by decide)] at e2 ⊢
  simp only [o _ 4 3 _ (by decide)] at e3 ⊢
  exact ⟨cell_set e0, cell_set e1, cell_set e2, cell_set e3, cell_set e4⟩
theorem far_five {w : World} {b c : Nat} (h : b ≠ c) (v0 v1 v2 v3 v4 : Value) (j : Nat) :
    (((((w.setCell ⟨b, 0, none⟩ v0).setCell ⟨b, 1, none⟩ v1).setCell ⟨b, 2, none⟩ v2).setCell ⟨b, 3, none⟩ v3).setCell ⟨b, 4, none⟩ v4).cell? ⟨c, j, none⟩ = w.cell? ⟨c, j, none⟩ ∧
    (((((w.setCell ⟨b, 0, none⟩ v0).setCell ⟨b, 1, none⟩ v1).setCell ⟨b, 2, none⟩ v2).setCell ⟨b, 3, none⟩ v3).setCell ⟨b, 4, none⟩ v4).frozen? ⟨c, j, none⟩ = w.frozen? ⟨c, j, none⟩ := by
  have o : ∀ (W : World) (i : Nat) (v : Value), (W.setCell ⟨b, i, none⟩ v).cell? ⟨c, j, none⟩ = W.cell? ⟨c, j, none⟩ := fun W i v =>
    World.cell?_setCell_other W _ _ v (fun e => h (by injection e))
  simp only [o, World.frozen?_setCell, and_self]
theorem bel_undrew {w w' : World} (h : Below w.drew.heap.size w.drew w') : Below w.heap.size w w' := ⟨h.os, h.tape, h.output, h.size, h.block⟩
theorem bel_undrewN {w w' : World} {n : Nat} (h : Below (w.drewN n).heap.size (w.drewN n) w') : Below w.heap.size w w' := ⟨h.os, h.tape, h.output, h.size, h.block⟩
theorem hid {p : Prop} (h : p) : Hid p := h
theorem lay {p q : Prop} (hp : p) (h : p → q) : q := h hp

theorem within (n a b : Int) (w : World) :
    Calls Try.prog 60 #[.int .i64 n, .int .i64 a, .int .i64 b] w fun e w' => e = .returned (.int .i64 (min (max n a) b)) ∧ w = w' := by
  go_enter Try.func60, Try.ntmps60
  go_wp2
  all_goals (go_ret; exact ⟨ret_int (by first | omega | simp ; omega), rfl⟩)

theorem mask (n : Int) (w : World) :
    Calls Try.prog 119 #[.int .i64 n] w fun e w' => e = .returned (.int .u32 (2 ^ held n - 1)) ∧ w = w' := by
  have hb : (1 : Int) ≤ 2 ^ held n := by have := p2pos (held n); omega
  have hc : (2 : Int) ^ held n ≤ 4294967296 := by
    have h1 : (2 : Int) ^ held n ≤ 2 ^ 32 := p2le (held_le n)
    have h3 : (2 : Int) ^ 32 = 4294967296 := by decide
    omega
  go_enter Try.func119, Try.ntmps119
  go_wp2_with (go_at_call 60; refine (within _ _ _ _).mono ?_; rintro e w' ⟨rfl, rfl⟩)
  go_ret
  exact ⟨ret_int (by
    show ((2 : Int) ^ held n % 4294967296 - 1) % 4294967296 = _
    generalize (2 : Int) ^ held n = q at *
    omega), rfl⟩

theorem Sign (x n : Int) (w : World) :
    Calls Try.prog 45 #[.int .u32 x, .int .i64 n] w fun e w' => e = .returned (.int .i32 (sgn x (held n))) ∧ w = w' := by
  go_enter Try.func45, Try.ntmps45
  go_wp2_with (go_at_call 60; refine (within _ _ _ _).mono ?_; rintro e w' ⟨rfl, rfl⟩)
  · have h : (min (max n 0) 32 == 0) = true := by assumption
    go_ret
    exact ⟨ret_int (by
      have : held n = 0 := by unfold held; simp at h; omega
      rw [this, sgn_zero]), rfl⟩
  · have h : (min (max n 0) 32 == 0) = false := by assumption
    go_ret
    exact ⟨ret_int (by
      have h1 : 1 ≤ held n := by unfold held; simp at h; omega
      have h2 := held_le n
      have h3 : (32 - min (max n 0) 32).toNat = 32 - held n := by unfold held; omega
      show wrap32 (x * 2 ^ (32 - min (max n 0) 32).toNat % 4294967296) / 2 ^ (32 - min (max n 0) 32).toNat = _
      rw [h3, sgn_shift x _ h1 h2]), rfl⟩

theorem Field (x l n : Int) (w : World) (h0 : 0 ≤ x) (h1 : x < 4294967296) :
    Calls Try.prog 106 #[.int .u32 x, .int .i64 l, .int .i64 n] w fun e w' => e = .returned (.int .u32 (fld x (max l 0).toNat (held n))) ∧ ∃ n, w' = w.drewN n := by
  go_enter Try.func106, Try.ntmps106
  by_cases hl : 31 < l
  · go_wp2
    go_ret
    exact ⟨ret_int (by rw [fld_big x _ _ h0 h1 (by omega)]), 0, rfl⟩
  · go_wp2_with fail
    go_quiet ((go_at_call 119; exact Calls.quiet_of_same ((mask _ _).mono fun _ _ h => ⟨h.1, h.2.symm⟩)))
    go_wp2
    all_goals go_ret
    · have h : l < 0 := by assumption
      refine ⟨ret_int ?_, _, rfl⟩
      have e : (max l 0).toNat = 0 := by omega
      rw [e]
      show bits .and .u32 x (2 ^ held n - 1) = _
      rw [and_maskI x _ h0 h1 (held_le n)]; simp [fld]
    · have h : 0 ≤ l := by assumption
      refine ⟨ret_int ?_, _, rfl⟩
      have e : (max l 0).toNat = l.toNat := by omega
      rw [e]
      show bits .and .u32 (x / 2 ^ l.toNat) (2 ^ held n - 1) = _
      have hb := div_bd x l.toNat h0 h1
      rw [and_maskI _ _ hb.1 hb.2 (held_le n)]; rfl

theorem Fits (v n : Int) (w : World) :
    Calls Try.prog 77 #[.int .i32 v, .int .i64 n] w fun e w' => e = .returned (.bool (sgn (v % 4294967296) (held n) == v)) ∧ w = w' := by
  go_enter Try.func77, Try.ntmps77
  go_wp2_with (go_at_call 45; refine (Sign _ _ _).mono ?_; rintro e w' ⟨rfl, rfl⟩)
  go_ret
  exact ⟨rfl, rfl⟩

theorem wide (x : Int) (s : Bool) (w : World) (h0 : 0 ≤ x) (h1 : x < 4294967296) :
    Calls Try.prog 82 #[.int .u32 x, .bool s] w fun e w' => e = .returned (.int .i64 (wid x s)) ∧ w = w' := by
  go_enter Try.func82, Try.ntmps82
  cases s
  · go_wp2
    go_ret
    exact ⟨ret_int (by simp [wid]), rfl⟩
  · go_wp2
    go_ret
    refine ⟨ret_int ?_, rfl⟩
    have := wid_bd_s x h0 h1
    rw [wrap32_wid x h0 h1]
    exact IntWalk.wrap64_in _ (by omega)

theorem MulHigh (a b : Int) (sa sb : Bool) (w : World) (a0 : 0 ≤ a) (a1 : a < 4294967296) (b0 : 0 ≤ b) (b1 : b < 4294967296) :
    Calls Try.prog 78 #[.int .u32 a, .int .u32 b, .bool sa, .bool sb] w fun e w' => e = .returned (.int .u32 (mulh a b sa sb)) ∧ w = w' := by
  have hp : 0 ≤ a * b ∧ a * b ≤ 18446744073709551615 := by
    have := mul_bd (x := a) (y := b) (X := 4294967295) (Y := 4294967295) (by omega) (by omega) (by omega) (by omega)
    have := Int.mul_nonneg a0 b0
    omega
  have ha := wid_bd a sa a0 a1
  have hb := wid_bd b sb b0 b1
  have hq : (sa = true ∨ sb = true) → -9223372036854775808 ≤ wid a sa * wid b sb ∧ wid a sa * wid b sb ≤ 9223372036854775807 := by
    intro h
    refine mul_fit ha.1 ha.2 hb.1 hb.2 ?_
    rcases h with rfl | rfl
    · exact .inl (wid_bd_s a a0 a1).2
    · exact .inr (wid_bd_s b b0 b1).2
  go_enter Try.func78, Try.ntmps78
  cases sa
  · cases sb
    · clear hq
      go_wp2
      go_ret
      refine ⟨ret_int ?_, rfl⟩
      simp [mulh, wid]
      omega
    · have hq := hq (.inr rfl)
      go_wp2_with (go_at_call 82; refine (wide _ _ _ (by assumption) (by assumption)).mono ?_; rintro e w' ⟨rfl, rfl⟩)
      go_ret
      refine ⟨ret_int ?_, rfl⟩
      simp [mulh]
  · have hq := hq (.inl rfl)
    go_wp2_with (go_at_call 82; refine (wide _ _ _ (by assumption) (by assumption)).mono ?_; rintro e w' ⟨rfl, rfl⟩)
    go_ret
    refine ⟨ret_int ?_, rfl⟩
    simp [mulh]

theorem Div (a b : Int) (s : Bool) (w : World) (a0 : 0 ≤ a) (a1 : a < 4294967296) (b0 : 0 ≤ b) (b1 : b < 4294967296) :
    Calls Try.prog 79 #[.int .u32 a, .int .u32 b, .bool s] w fun e w' => e = .returned (.int .u32 (quo a b s)) ∧ w = w' := by
  go_enter Try.func79, Try.ntmps79
  by_cases hb : b = 0
  · subst hb
    go_wp2
    go_ret
    exact ⟨ret_int (by simp [quo]), rfl⟩
  · have hw : ¬ wrap32 b = 0 := by unfold wrap32; omega
    cases s
    · go_wp2
      go_ret
      exact ⟨ret_int (quo_un a b hb a0 a1 b0).symm, rfl⟩
    · by_cases ho : a = 2147483648 ∧ b = 4294967295
      · obtain ⟨rfl, rfl⟩ := ho
        go_wp2
        go_ret
        exact ⟨ret_int (by simp [quo, wid]), rfl⟩
      · have key := quo_si a b hb a0 a1 b0 b1
        by_cases ha : a = 2147483648
        · subst ha
          go_wp2
          go_ret
          exact ⟨rfl, rfl⟩
        · go_wp2
          go_ret
          exact ⟨ret_int key, rfl⟩

theorem Rem (a b : Int) (s : Bool) (w : World) (a0 : 0 ≤ a) (a1 : a < 4294967296) (b0 : 0 ≤ b) (b1 : b < 4294967296) :
    Calls Try.prog 80 #[.int .u32 a, .int .u32 b, .bool s] w fun e w' => e = .returned (.int .u32 (rem a b s)) ∧ w = w' := by
  go_enter Try.func80, Try.ntmps80
  by_cases hb : b = 0
  · subst hb
    go_wp2
    go_ret
    exact ⟨ret_int (by simp [rem]), rfl⟩
  · have hw : ¬ wrap32 b = 0 := by unfold wrap32; omega
    cases s
    · go_wp2
      go_ret
      exact ⟨ret_int (rem_un a b hb a0 b0 b1).symm, rfl⟩
    · by_cases ho : a = 2147483648 ∧ b = 4294967295
      · obtain ⟨rfl, rfl⟩ := ho
        go_wp2
        go_ret
        exact ⟨ret_int (by simp [rem, wid]), rfl⟩
      · have key := rem_si a b hb a0 a1 b0 b1
        by_cases ha : a = 2147483648
        · subst ha
          go_wp2
          go_ret
          exact ⟨rfl, rfl⟩
        · go_wp2
          go_ret
          exact ⟨ret_int key, rfl⟩
end Go.Proofs.Ytoabdbnecjbgkaa.W
