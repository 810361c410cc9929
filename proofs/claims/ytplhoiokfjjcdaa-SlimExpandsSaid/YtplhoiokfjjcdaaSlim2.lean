/- What the functions of package slim compute: the small ones. -/
import Derived.Test.YtplhoiokfjjcdaaSlim
import Derived.Test.YtplhoiokfjjcdaaSlimP
namespace Go.Proofs.Ytplhoiokfjjcdaa.S
set_option linter.unusedVariables false
open Go.ChangeShapes Go.WideShapes Go.ChangeAt Go.RowKit Go.Proofs.Ytplhoiokfjjcdaa.P Go.Proofs.Ytplhoiokfjjcdaa.W

/-- what stores into a block leave there, one behind the other -/
theorem five_ret {w : World} {b : Nat} {u0 u1 u2 u3 u4 : Value} (c0 : w.cell? ⟨b, 0, none⟩ = some u0) (c1 : w.cell? ⟨b, 1, none⟩ = some u1) (c2 : w.cell? ⟨b, 2, none⟩ = some u2) (c3 : w.cell? ⟨b, 3, none⟩ = some u3) (c4 : w.cell? ⟨b, 4, none⟩ = some u4) :
    (∀ v0 : Value, (w.setCell ⟨b, 0, none⟩ v0).cell? ⟨b, 0, none⟩ = some v0) ∧
    (∀ v0 v1 : Value, ((w.setCell ⟨b, 0, none⟩ v0).setCell ⟨b, 1, none⟩ v1).cell? ⟨b, 1, none⟩ = some v1) ∧
    (∀ v0 v1 v2 : Value, (((w.setCell ⟨b, 0, none⟩ v0).setCell ⟨b, 1, none⟩ v1).setCell ⟨b, 2, none⟩ v2).cell? ⟨b, 2, none⟩ = some v2) ∧
    (∀ v0 v1 v2 v3 : Value, ((((w.setCell ⟨b, 0, none⟩ v0).setCell ⟨b, 1, none⟩ v1).setCell ⟨b, 2, none⟩ v2).setCell ⟨b, 3, none⟩ v3).cell? ⟨b, 3, none⟩ = some v3) ∧
    (∀ v0 v1 v2 v3 v4 : Value, (((((w.setCell ⟨b, 0, none⟩ v0).setCell ⟨b, 1, none⟩ v1).setCell ⟨b, 2, none⟩ v2).setCell ⟨b, 3, none⟩ v3).setCell ⟨b, 4, none⟩ v4).cell? ⟨b, 4, none⟩ = some v4) := by
  have o : ∀ (W : World) (i j : Nat) (v : Value), i ≠ j → (W.setCell ⟨b, i, none⟩ v).cell? ⟨b, j, none⟩ = W.cell? ⟨b, j, none⟩ := fun W i j v h =>
    World.cell?_setCell_other W _ _ v (fun e => h (by injection e))
  have s : ∀ (W : World) (j : Nat) (u v : Value), W.cell? ⟨b, j, none⟩ = some u → (W.setCell ⟨b, j, none⟩ v).cell? ⟨b, j, none⟩ = some v := by
    intro W j u v h
    have := World.cell?_setCell_same W ⟨b, j, none⟩ v h
    exact this
  refine ⟨?_, ?_, ?_, ?_, ?_⟩
  · intro v0; exact s _ _ _ _ c0
  · intro v0 v1; exact s _ _ _ _ ((o _ 0 1 _ (by decide)).trans c1)
  · intro v0 v1 v2; exact s _ _ _ _ ((o _ 1 2 _ (by decide)).trans ((o _ 0 2 _ (by decide)).trans c2))
  · intro v0 v1 v2 v3; exact s _ _ _ _ ((o _ 2 3 _ (by decide)).trans ((o _ 1 3 _ (by decide)).trans ((o _ 0 3 _ (by decide)).trans c3)))
  · intro v0 v1 v2 v3 v4; exact s _ _ _ _ ((o _ 3 4 _ (by decide)).trans ((o _ 2 4 _ (by decide)).trans ((o _ 1 4 _ (by decide)).trans ((o _ 0 4 _ (by decide)).trans c4))))
/-- .. in a world behind a call -/
theorem five_old {w w' : World} {t : TypeId} (h : Below (w.heap.size + 1) (w.alloc (.cells #[.int .i64 0, .int .i64 0, .int .i64 0, .int .i64 0, .int .i32 0] t)) w') :
    (∀ v0 : Value, (w'.setCell ⟨w.heap.size, 0, none⟩ v0).cell? ⟨w.heap.size, 0, none⟩ = some v0) ∧
    (∀ v0 v1 : Value, ((w'.setCell ⟨w.heap.size, 0, none⟩ v0).setCell ⟨w.heap.size, 1, none⟩ v1).cell? ⟨w.heap.size, 1, none⟩ = some v1) ∧
    (∀ v0 v1 v2 : Value, (((w'.setCell ⟨w.heap.size, 0, none⟩ v0).setCell ⟨w.heap.size, 1, none⟩ v1).setCell ⟨w.heap.size, 2, none⟩ v2).cell? ⟨w.heap.size, 2, none⟩ = some v2) ∧
    (∀ v0 v1 v2 v3 : Value, ((((w'.setCell ⟨w.heap.size, 0, none⟩ v0).setCell ⟨w.heap.size, 1, none⟩ v1).setCell ⟨w.heap.size, 2, none⟩ v2).setCell ⟨w.heap.size, 3, none⟩ v3).cell? ⟨w.heap.size, 3, none⟩ = some v3) ∧
    (∀ v0 v1 v2 v3 v4 : Value, (((((w'.setCell ⟨w.heap.size, 0, none⟩ v0).setCell ⟨w.heap.size, 1, none⟩ v1).setCell ⟨w.heap.size, 2, none⟩ v2).setCell ⟨w.heap.size, 3, none⟩ v3).setCell ⟨w.heap.size, 4, none⟩ v4).cell? ⟨w.heap.size, 4, none⟩ = some v4) :=
  five_ret (u0 := .int .i64 0) (u1 := .int .i64 0) (u2 := .int .i64 0) (u3 := .int .i64 0) (u4 := .int .i32 0) ((h.cell (p := ⟨w.heap.size, 0, none⟩) (Nat.lt_succ_self _)).trans (by simp)) ((h.cell (p := ⟨w.heap.size, 1, none⟩) (Nat.lt_succ_self _)).trans (by simp)) ((h.cell (p := ⟨w.heap.size, 2, none⟩) (Nat.lt_succ_self _)).trans (by simp))
    ((h.cell (p := ⟨w.heap.size, 3, none⟩) (Nat.lt_succ_self _)).trans (by simp)) ((h.cell (p := ⟨w.heap.size, 4, none⟩) (Nat.lt_succ_self _)).trans (by simp))
/-- .. and draws -/
theorem five_drew {w w' : World} {t : TypeId} (h : Below (w.heap.size + 1) (w.alloc (.cells #[.int .i64 0, .int .i64 0, .int .i64 0, .int .i64 0, .int .i32 0] t)) w') (n : Nat) :
    (∀ v0 : Value, ((w'.drewN n).setCell ⟨w.heap.size, 0, none⟩ v0).cell? ⟨w.heap.size, 0, none⟩ = some v0) ∧
    (∀ v0 v1 : Value, (((w'.drewN n).setCell ⟨w.heap.size, 0, none⟩ v0).setCell ⟨w.heap.size, 1, none⟩ v1).cell? ⟨w.heap.size, 1, none⟩ = some v1) ∧
    (∀ v0 v1 v2 : Value, ((((w'.drewN n).setCell ⟨w.heap.size, 0, none⟩ v0).setCell ⟨w.heap.size, 1, none⟩ v1).setCell ⟨w.heap.size, 2, none⟩ v2).cell? ⟨w.heap.size, 2, none⟩ = some v2) ∧
    (∀ v0 v1 v2 v3 : Value, (((((w'.drewN n).setCell ⟨w.heap.size, 0, none⟩ v0).setCell ⟨w.heap.size, 1, none⟩ v1).setCell ⟨w.heap.size, 2, none⟩ v2).setCell ⟨w.heap.size, 3, none⟩ v3).cell? ⟨w.heap.size, 3, none⟩ = some v3) ∧
    (∀ v0 v1 v2 v3 v4 : Value, ((((((w'.drewN n).setCell ⟨w.heap.size, 0, none⟩ v0).setCell ⟨w.heap.size, 1, none⟩ v1).setCell ⟨w.heap.size, 2, none⟩ v2).setCell ⟨w.heap.size, 3, none⟩ v3).setCell ⟨w.heap.size, 4, none⟩ v4).cell? ⟨w.heap.size, 4, none⟩ = some v4) :=
  five_old (below_drewN h n)
theorem rd (x : Int) (w : World) (h0 : 0 ≤ x) (h1 : x < 4294967296) :
    Calls Try.prog 72 #[.int .u32 x] w fun e w' => e = .returned (.int .i64 (sRd x)) ∧ ∃ n, w' = w.drewN n := by
  go_enter Try.func72, Try.ntmps72
  go_wp2_with (go_at_call 48; refine (at_ x 11 7 _ h0 h1 (by omega) (by omega) (by omega)).mono ?_; rintro e w' ⟨rfl, m, rfl⟩)
  go_ret
  exact ⟨rfl, _, rfl⟩
theorem rs2 (x : Int) (w : World) (h0 : 0 ≤ x) (h1 : x < 4294967296) :
    Calls Try.prog 78 #[.int .u32 x] w fun e w' => e = .returned (.int .i64 (sRs2 x)) ∧ ∃ n, w' = w.drewN n := by
  go_enter Try.func78, Try.ntmps78
  go_wp2_with (go_at_call 48; refine (at_ x 6 2 _ h0 h1 (by omega) (by omega) (by omega)).mono ?_; rintro e w' ⟨rfl, m, rfl⟩)
  go_ret
  exact ⟨rfl, _, rfl⟩
theorem f3_lt (x : Int) (l : Nat) : 0 ≤ fld x l 3 ∧ fld x l 3 < 8 := fld_bd x l 3
theorem r1 (x : Int) (w : World) (h0 : 0 ≤ x) (h1 : x < 4294967296) :
    Calls Try.prog 70 #[.int .u32 x] w fun e w' => e = .returned (.int .i64 (sR1 x)) ∧ ∃ n, w' = w.drewN n := by
  obtain ⟨q0, q1⟩ := f3_lt x 7
  go_enter Try.func70, Try.ntmps70
  go_wp2_with (go_at_call 48; refine (at_ x 9 7 _ h0 h1 (by omega) (by omega) (by omega)).mono ?_; rintro e w' ⟨rfl, m, rfl⟩)
  go_ret
  exact ⟨rfl, _, rfl⟩
theorem r2 (x : Int) (w : World) (h0 : 0 ≤ x) (h1 : x < 4294967296) :
    Calls Try.prog 69 #[.int .u32 x] w fun e w' => e = .returned (.int .i64 (sR2 x)) ∧ ∃ n, w' = w.drewN n := by
  obtain ⟨q0, q1⟩ := f3_lt x 2
  go_enter Try.func69, Try.ntmps69
  go_wp2_with (go_at_call 48; refine (at_ x 4 2 _ h0 h1 (by omega) (by omega) (by omega)).mono ?_; rintro e w' ⟨rfl, m, rfl⟩)
  go_ret
  exact ⟨rfl, _, rfl⟩
theorem n6 (x : Int) (w : World) (h0 : 0 ≤ x) (h1 : x < 4294967296) :
    Calls Try.prog 73 #[.int .u32 x] w fun e w' => e = .returned (.int .i32 (sN6 x)) ∧ ∃ n, w' = w.drewN n := by
  have a1 : 0 ≤ fld x 12 1 ∧ fld x 12 1 < 2 := fld_bd x 12 1
  have a2 : 0 ≤ fld x 2 5 ∧ fld x 2 5 < 32 := fld_bd x 2 5
  have hj := n6_joined x
  have ho : bits .or .i64 (fld x 12 1 * 32) (fld x 2 5) = bitsV x lN6 := by
    rw [hj]; exact or_join64 (fld x 12 1) (fld x 2 5) 5 a2.1 a2.2 a1.1 (by omega)
  have hb : 0 ≤ bitsV x lN6 ∧ bitsV x lN6 < 64 := bitsV_bd x lN6
  have hs : sN6 x = sgn (bitsV x lN6) (held 6) := rfl
  clear hj
  generalize bitsV x lN6 = v at *
  obtain ⟨q0, q1⟩ := a1
  obtain ⟨q2, q3⟩ := a2
  have HS := hid hs
  clear hs
  go_enter Try.func73, Try.ntmps73
  go_wp2_with (first | (go_at_call 48; refine (at_ x _ _ _ h0 h1 (by omega) (by omega) (by omega)).mono ?_; rintro e w' ⟨rfl, m, rfl⟩) | (first | (go_at_call 66; refine (W.Sign _ _ _).mono ?_; rintro e w' ⟨rfl, rfl⟩)))
  go_ret
  exact ⟨by rw [HS.out]; rfl, _, rfl⟩
theorem near (x : Int) (w : World) (h0 : 0 ≤ x) (h1 : x < 4294967296) :
    Calls Try.prog 71 #[.int .u32 x] w fun e w' => e = .returned (.int .i32 (sV x)) ∧ Below w.heap.size w w' := by
  have hb := bitsV_bd x lV
  have e1 : (2 : Int) ^ lV.length = 32 := by decide
  rw [e1] at hb
  have hs := hid (show sV x = bitsV x lV * 4 from rfl)
  have hS := fun (b : Nat) (w : World) (hb : b < w.heap.size) (hc : PairCells w b lV 2) => sum x b 2 lV w h0 h1 hb hc (by decide) (by decide) (by decide)
  have e2 : (2 : Int) ^ 2 = 4 := by decide
  simp only [e2] at hS
  replace hS := hid hS
  clear e1 e2
  have HV : Hid (∃ v, v = bitsV x lV) := hid ⟨_, rfl⟩
  go_enter Try.func71, Try.ntmps71
  go_wp2_with fail
  refine (hS.out w.heap.size _ (by simp) ?_).mono ?_
  · intro i hi
    match i, hi with
    | 0, _ => exact ⟨by simp [lV], by simp [lV]⟩
    | 1, _ => exact ⟨by simp [lV], by simp [lV]⟩
    | 2, _ => exact ⟨by simp [lV], by simp [lV]⟩
    | 3, _ => exact ⟨by simp [lV], by simp [lV]⟩
    | 4, _ => exact ⟨by simp [lV], by simp [lV]⟩
  · generalize bitsV x lV = v at *
    rintro e w' ⟨rfl, hbel⟩
    have hbw := bel_step (w := w) (by go_grown) hbel
    go_wp2
    go_ret
    exact ⟨by rw [hs.out]; rfl, hbw⟩
theorem jump (x : Int) (w : World) (h0 : 0 ≤ x) (h1 : x < 4294967296) :
    Calls Try.prog 76 #[.int .u32 x] w fun e w' => e = .returned (.int .i32 (sJ x)) ∧ Below w.heap.size w w' := by
  have hb := bitsV_bd x lJ
  have e1 : (2 : Int) ^ lJ.length = 2048 := by decide
  rw [e1] at hb
  have hs := hid (show sJ x = sgn (bitsV x lJ * 2) 12 from rfl)
  have hS := fun (b : Nat) (w : World) (hb : b < w.heap.size) (hc : PairCells w b lJ 1) => sum x b 1 lJ w h0 h1 hb hc (by decide) (by decide) (by decide)
  have e2 : (2 : Int) ^ 1 = 2 := by decide
  simp only [e2] at hS
  replace hS := hid hS
  clear e1 e2
  have HV : Hid (∃ v, v = bitsV x lJ) := hid ⟨_, rfl⟩
  go_enter Try.func76, Try.ntmps76
  go_wp2_with fail
  refine (hS.out w.heap.size _ (by simp) ?_).mono ?_
  · intro i hi
    match i, hi with
    | 0, _ => exact ⟨by simp [lJ], by simp [lJ]⟩
    | 1, _ => exact ⟨by simp [lJ], by simp [lJ]⟩
    | 2, _ => exact ⟨by simp [lJ], by simp [lJ]⟩
    | 3, _ => exact ⟨by simp [lJ], by simp [lJ]⟩
    | 4, _ => exact ⟨by simp [lJ], by simp [lJ]⟩
    | 5, _ => exact ⟨by simp [lJ], by simp [lJ]⟩
    | 6, _ => exact ⟨by simp [lJ], by simp [lJ]⟩
    | 7, _ => exact ⟨by simp [lJ], by simp [lJ]⟩
    | 8, _ => exact ⟨by simp [lJ], by simp [lJ]⟩
    | 9, _ => exact ⟨by simp [lJ], by simp [lJ]⟩
    | 10, _ => exact ⟨by simp [lJ], by simp [lJ]⟩
  · generalize bitsV x lJ = v at *
    rintro e w' ⟨rfl, hbel⟩
    have hbw := bel_step (w := w) (by go_grown) hbel
    go_wp2_with (first | (go_at_call 66; refine (W.Sign _ _ _).mono ?_; rintro e w' ⟨rfl, rfl⟩))
    go_ret
    exact ⟨by rw [hs.out]; rfl, hbw⟩
theorem branch (x : Int) (w : World) (h0 : 0 ≤ x) (h1 : x < 4294967296) :
    Calls Try.prog 77 #[.int .u32 x] w fun e w' => e = .returned (.int .i32 (sB x)) ∧ Below w.heap.size w w' := by
  have hb := bitsV_bd x lB
  have e1 : (2 : Int) ^ lB.length = 256 := by decide
  rw [e1] at hb
  have hs := hid (show sB x = sgn (bitsV x lB * 2) 9 from rfl)
  have hS := fun (b : Nat) (w : World) (hb : b < w.heap.size) (hc : PairCells w b lB 1) => sum x b 1 lB w h0 h1 hb hc (by decide) (by decide) (by decide)
  have e2 : (2 : Int) ^ 1 = 2 := by decide
  simp only [e2] at hS
  replace hS := hid hS
  clear e1 e2
  have HV : Hid (∃ v, v = bitsV x lB) := hid ⟨_, rfl⟩
  go_enter Try.func77, Try.ntmps77
  go_wp2_with fail
  refine (hS.out w.heap.size _ (by simp) ?_).mono ?_
  · intro i hi
    match i, hi with
    | 0, _ => exact ⟨by simp [lB], by simp [lB]⟩
    | 1, _ => exact ⟨by simp [lB], by simp [lB]⟩
    | 2, _ => exact ⟨by simp [lB], by simp [lB]⟩
    | 3, _ => exact ⟨by simp [lB], by simp [lB]⟩
    | 4, _ => exact ⟨by simp [lB], by simp [lB]⟩
    | 5, _ => exact ⟨by simp [lB], by simp [lB]⟩
    | 6, _ => exact ⟨by simp [lB], by simp [lB]⟩
    | 7, _ => exact ⟨by simp [lB], by simp [lB]⟩
  · generalize bitsV x lB = v at *
    rintro e w' ⟨rfl, hbel⟩
    have hbw := bel_step (w := w) (by go_grown) hbel
    go_wp2_with (first | (go_at_call 66; refine (W.Sign _ _ _).mono ?_; rintro e w' ⟨rfl, rfl⟩))
    go_ret
    exact ⟨by rw [hs.out]; rfl, hbw⟩
end Go.Proofs.Ytplhoiokfjjcdaa.S
