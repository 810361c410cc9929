/- What typecaseref04.Decode computes. -/
import Derived.Test.YtabdfbghhkpoeaaDoorWide4
import Derived.Test.YtabdfbghhkpoeaaDoorOp04
import Derived.Test.YtabdfbghhkpoeaaDoorForm
import Derived.Test.YtabdfbghhkpoeaaDoorRef04
import Derived.Test.YtabdfbghhkpoeaaDoorImmP
namespace Go.Proofs.YtabdfbghhkpoeaaDoor.R4
set_option linter.unusedVariables false
open Go.ChangeShapes Go.WideShapes Go.ChangeAt Go.RowKit Go.Proofs.YtabdfbghhkpoeaaDoor.P Go.Proofs.YtabdfbghhkpoeaaDoor.W Go.Proofs.YtabdfbghhkpoeaaDoor.V

theorem opN_rng (x : Int) : 0 ≤ opN x ∧ opN x ≤ 48 := by
  by_cases h : opN x = 0
  · rw [h]; decide
  · obtain ⟨_, _, _, _, _, h1, h2⟩ := opN_code h
    exact ⟨by omega, h2⟩
theorem form_zero {o : Int} (h : 0 ≤ o ∧ o ≤ 48) (e : form o = 0) : o = 0 := by
  revert e
  unfold form
  repeat' split
  all_goals omega
theorem put1 {w : World} {b : Nat} {v0 v1 v2 v3 v4 : Value} (h : Five w b v0 v1 v2 v3 v4) (v : Value) : Five (w.setCell ⟨b, 1, none⟩ v) b v0 v v2 v3 v4 := by
  obtain ⟨s1, c0, c1, c2, c3, c4, g0, g1, g2, g3, g4⟩ := h
  have o : ∀ (j : Nat), 1 ≠ j → (w.setCell ⟨b, 1, none⟩ v).cell? ⟨b, j, none⟩ = w.cell? ⟨b, j, none⟩ := fun j hij =>
    World.cell?_setCell_other w _ _ v (fun e => hij (by injection e))
  exact ⟨by simpa using s1, (o 0 (by decide)).trans c0, World.cell?_setCell_same _ _ _ c1, (o 2 (by decide)).trans c2, (o 3 (by decide)).trans c3, (o 4 (by decide)).trans c4, (World.frozen?_setCell ..).trans g0, (World.frozen?_setCell ..).trans g1, (World.frozen?_setCell ..).trans g2, (World.frozen?_setCell ..).trans g3, (World.frozen?_setCell ..).trans g4⟩
theorem put2 {w : World} {b : Nat} {v0 v1 v2 v3 v4 : Value} (h : Five w b v0 v1 v2 v3 v4) (v : Value) : Five (w.setCell ⟨b, 2, none⟩ v) b v0 v1 v v3 v4 := by
  obtain ⟨s1, c0, c1, c2, c3, c4, g0, g1, g2, g3, g4⟩ := h
  have o : ∀ (j : Nat), 2 ≠ j → (w.setCell ⟨b, 2, none⟩ v).cell? ⟨b, j, none⟩ = w.cell? ⟨b, j, none⟩ := fun j hij =>
    World.cell?_setCell_other w _ _ v (fun e => hij (by injection e))
  exact ⟨by simpa using s1, (o 0 (by decide)).trans c0, (o 1 (by decide)).trans c1, World.cell?_setCell_same _ _ _ c2, (o 3 (by decide)).trans c3, (o 4 (by decide)).trans c4, (World.frozen?_setCell ..).trans g0, (World.frozen?_setCell ..).trans g1, (World.frozen?_setCell ..).trans g2, (World.frozen?_setCell ..).trans g3, (World.frozen?_setCell ..).trans g4⟩
theorem put3 {w : World} {b : Nat} {v0 v1 v2 v3 v4 : Value} (h : Five w b v0 v1 v2 v3 v4) (v : Value) : Five (w.setCell ⟨b, 3, none⟩ v) b v0 v1 v2 v v4 := by
  obtain ⟨s1, c0, c1, c2, c3, c4, g0, g1, g2, g3, g4⟩ := h
  have o : ∀ (j : Nat), 3 ≠ j → (w.setCell ⟨b, 3, none⟩ v).cell? ⟨b, j, none⟩ = w.cell? ⟨b, j, none⟩ := fun j hij =>
    World.cell?_setCell_other w _ _ v (fun e => hij (by injection e))
  exact ⟨by simpa using s1, (o 0 (by decide)).trans c0, (o 1 (by decide)).trans c1, (o 2 (by decide)).trans c2, World.cell?_setCell_same _ _ _ c3, (o 4 (by decide)).trans c4, (World.frozen?_setCell ..).trans g0, (World.frozen?_setCell ..).trans g1, (World.frozen?_setCell ..).trans g2, (World.frozen?_setCell ..).trans g3, (World.frozen?_setCell ..).trans g4⟩
theorem put4 {w : World} {b : Nat} {v0 v1 v2 v3 v4 : Value} (h : Five w b v0 v1 v2 v3 v4) (v : Value) : Five (w.setCell ⟨b, 4, none⟩ v) b v0 v1 v2 v3 v := by
  obtain ⟨s1, c0, c1, c2, c3, c4, g0, g1, g2, g3, g4⟩ := h
  have o : ∀ (j : Nat), 4 ≠ j → (w.setCell ⟨b, 4, none⟩ v).cell? ⟨b, j, none⟩ = w.cell? ⟨b, j, none⟩ := fun j hij =>
    World.cell?_setCell_other w _ _ v (fun e => hij (by injection e))
  exact ⟨by simpa using s1, (o 0 (by decide)).trans c0, (o 1 (by decide)).trans c1, (o 2 (by decide)).trans c2, (o 3 (by decide)).trans c3, World.cell?_setCell_same _ _ _ c4, (World.frozen?_setCell ..).trans g0, (World.frozen?_setCell ..).trans g1, (World.frozen?_setCell ..).trans g2, (World.frozen?_setCell ..).trans g3, (World.frozen?_setCell ..).trans g4⟩
theorem zput {w : World} {b c : Nat} (h : Zero w c) (hne : c < b) (j : Nat) (v : Value) : Zero (w.setCell ⟨b, j, none⟩ v) c := by
  obtain ⟨tl, t0, t1, t2, t3, t4, tf⟩ := h
  have o : ∀ (k : Nat), (w.setCell ⟨b, j, none⟩ v).cell? ⟨c, k, none⟩ = w.cell? ⟨c, k, none⟩ := fun k =>
    World.cell?_setCell_other w _ _ v (fun e => absurd (show b = c by injection e) (by omega))
  exact ⟨by simpa using tl, (o 0).trans t0, (o 1).trans t1, (o 2).trans t2, (o 3).trans t3, (o 4).trans t4, fun j => (World.frozen?_setCell ..).trans (tf j)⟩
theorem Five.below {w w' : World} {b B : Nat} {v0 v1 v2 v3 v4 : Value} (h : Five w b v0 v1 v2 v3 v4) (hb : Below B w w') (hB : b < B) : Five w' b v0 v1 v2 v3 v4 :=
  ⟨Nat.lt_of_lt_of_le h.lt hb.size, (hb.cell (p := ⟨b, 0, none⟩) hB).trans h.c0, (hb.cell (p := ⟨b, 1, none⟩) hB).trans h.c1, (hb.cell (p := ⟨b, 2, none⟩) hB).trans h.c2,
   (hb.cell (p := ⟨b, 3, none⟩) hB).trans h.c3, (hb.cell (p := ⟨b, 4, none⟩) hB).trans h.c4, (hb.frozen (p := ⟨b, 0, none⟩) hB).trans h.f0, (hb.frozen (p := ⟨b, 1, none⟩) hB).trans h.f1,
   (hb.frozen (p := ⟨b, 2, none⟩) hB).trans h.f2, (hb.frozen (p := ⟨b, 3, none⟩) hB).trans h.f3, (hb.frozen (p := ⟨b, 4, none⟩) hB).trans h.f4⟩
theorem Five.new (w : World) (t : TypeId) (v0 v1 v2 v3 v4 : Value) : Five (w.alloc (.cells #[v0, v1, v2, v3, v4] t)) w.heap.size v0 v1 v2 v3 v4 := by
  constructor <;> first | (simp; done) | (rw [frozen?_alloc_cells]; simp [World.frozen?])
theorem fld5 (x l : Int) (w : World) (h0 : 0 ≤ x) (h1 : x < 4294967296) (l0 : 0 ≤ l) : Calls Tryd.prog 28 #[.int .u32 x, .int .i64 l, .int .i64 5] w
    fun e w' => e = .returned (.int .u32 (fld x l.toNat 5)) ∧ w = w' := by
  refine (R1.Field x l 5 w h0 h1).mono ?_
  rintro e w' ⟨rfl, rfl⟩
  have e : max l 0 = l := by omega
  rw [e]; exact ⟨rfl, rfl⟩

set_option maxHeartbeats 4000000 in
theorem Decode (x : Int) (w00 : World) (h0 : 0 ≤ x) (h1 : x < 4294967296) :
    Calls Tryd.prog 11 #[.int .u32 x] w00 fun e w' => e = .returned (decV x) ∧ Below w00.heap.size w00 w' := by
  obtain ⟨fo0, fo1⟩ := form_bd (opN x)
  have hV : Hid (decV x = .tuple #[.agg #[.int .i64 (opN x), .int .i64 (if hasRd (form (opN x)) then fld x 7 5 else 0), .int .i64 (if hasRs1 (form (opN x)) then fld x 15 5 else 0), .int .i64 (if hasRs2 (form (opN x)) then fld x 20 5 else 0), .int .i32 (immOf (form (opN x)) x)], .bool (!(opN x == 0))]) := hid rfl
  have ho := opN_rng x
  have hfz : Hid (form (opN x) = 0 → opN x = 0) := hid (form_zero ho)
  have hzf : Hid (opN x = 0 → form (opN x) = 0) := hid (fun e => by rw [e]; decide)
  obtain ⟨r0, r1⟩ := r5_bd x 7
  obtain ⟨r2, r3⟩ := r5_bd x 15
  obtain ⟨r4, r5⟩ := r5_bd x 20
  go_enter Tryd.func11, Tryd.ntmps11
  go_wp2_with fail
  have hz0 := Zero.new w00 23
  have hb0 : Below w00.heap.size w00 (w00.alloc (.cells #[.int .i64 0, .int .i64 0, .int .i64 0, .int .i64 0, .int .i32 0] 23)) := (Below.refl _ _).alloc (Nat.le_refl _) _
  generalize w00.alloc (.cells #[.int .i64 0, .int .i64 0, .int .i64 0, .int .i64 0, .int .i32 0] 23) = w1 at *
  refine (R4.op _ _ h0 h1).mono ?_
  rintro e w2 ⟨rfl, hb2⟩
  have hz2 := hz0.below hb2 hz0.lt
  have hb2' := bel_step hb0 hb2
  clear hz0 hb0 hb2 w1
  generalize opN x = o at *
  generalize hf : form o = f at hV hfz hzf fo0 fo1
  go_wp2_with fail
  have hF := Five.new w2 23 (.int .i64 o) (.int .i64 0) (.int .i64 0) (.int .i64 0) (.int .i32 0)
  have hz3 := hz2.below (alloc_below w2 (.cells #[.int .i64 o, .int .i64 0, .int .i64 0, .int .i64 0, .int .i32 0] 23)) hz2.lt
  have hb3 := bel_step hb2' (alloc_below w2 (.cells #[.int .i64 o, .int .i64 0, .int .i64 0, .int .i64 0, .int .i32 0] 23))
  have hlt : w00.heap.size < w2.heap.size := hz2.lt
  generalize w2.alloc (.cells #[.int .i64 o, .int .i64 0, .int .i64 0, .int .i64 0, .int .i32 0] 23) = w3 at *
  generalize w2.heap.size = pb at *
  refine (R3.Form _ _ (by omega) (by omega)).mono ?_
  rintro e w ⟨rfl, hb4⟩
  replace hF := hid (Five.below hF hb4 hF.lt)
  have hz := hid (hz3.below hb4 hz3.lt)
  have hb := bel_step hb3 hb4
  rw [hf]
  clear hz2 hb2' hz3 hb3 hb4 hf w2 w3
  have hff : f = 0 ∨ f = 1 ∨ f = 2 ∨ f = 3 ∨ f = 4 ∨ f = 5 ∨ f = 6 ∨ f = 7 ∨ f = 8 ∨ f = 9 := by omega
  rcases hff with rfl | rfl | rfl | rfl | rfl | rfl | rfl | rfl | rfl | rfl
  · obtain rfl : o = 0 := hfz.out rfl
    obtain ⟨tl, t0, t1, t2, t3, t4, tf⟩ := hz.out
    have hF2 := hF.out
    clear hfz hzf hF hz
    go_wp2
    refine bodyPost_ret (v := .tuple #[.agg #[.int .i64 0, .int .i64 0, .int .i64 0, .int .i64 0, .int .i32 0], .bool false]) (by simp [results, Tryd.results11, go_sem, t0, t1, t2, t3, t4]) rfl ⟨by rw [hV.out]; rfl, (by repeat' (first | (with_reducible exact Below.refl _ _) | (with_reducible assumption) | (with_reducible refine below_drewN ?_ _) | (with_reducible refine Below.alloc ?_ ?_ _) | (with_reducible refine Below.drew ?_) | (with_reducible refine Below.setCell ?_ ?_ _) | (with_reducible exact Below.size (by assumption)) | go_size))⟩
  · have hnz : (o == 0) = false := beq_eq_false_iff_ne.2 (fun e => absurd (hzf.out e) (by decide))
    clear hfz hzf
    obtain ⟨s1, c0, c1, c2, c3, c4, g0, g1, g2, g3, g4⟩ := hF.out
    go_wp2_with fail
    clear s1 c0 c1 c2 c3 c4 g0 g1 g2 g3 g4
    refine (fld5 x 7 _ h0 h1 (by decide)).mono ?_
    rintro e wq ⟨rfl, rfl⟩
    have e1 : fld x (7 : Int).toNat 5 = fld x 7 5 := rfl
    rw [e1]
    clear e1
    obtain ⟨s1, c0, c1, c2, c3, c4, g0, g1, g2, g3, g4⟩ := hF.out
    go_wp2_with fail
    clear s1 c0 c1 c2 c3 c4 g0 g1 g2 g3 g4
    replace hF := hid (put1 hF.out (.int .i64 (fld x 7 5)))
    replace hz := hid (zput hz.out hlt 1 (.int .i64 (fld x 7 5)))
    replace hb := hb.setCell (p := ⟨pb, 1, none⟩) (show w00.heap.size ≤ pb by omega) (.int .i64 (fld x 7 5))
    generalize World.setCell _ ⟨pb, 1, none⟩ _ = wa1 at *
    refine (R4.ImmU _ _ h0 h1).mono ?_
    rintro e w5 ⟨rfl, hb5⟩
    replace hF := hid (Five.below hF.out hb5 hF.out.lt)
    replace hz := hid (hz.out.below hb5 hz.out.lt)
    replace hb := bel_step hb hb5
    clear hb5
    obtain ⟨s1, c0, c1, c2, c3, c4, g0, g1, g2, g3, g4⟩ := hF.out
    obtain ⟨tl, t0, t1, t2, t3, t4, tf⟩ := hz.out
    have hne : (w00.heap.size = pb) = False := eq_false (by omega)
    have hne2 : (pb = w00.heap.size) = False := eq_false (by omega)
    clear hF hz
    go_wp2
    refine bodyPost_ret (v := .tuple #[.agg #[.int .i64 o, .int .i64 (fld x 7 5), .int .i64 (0), .int .i64 (0), .int .i32 (immU x)], .bool true]) (by simp [results, Tryd.results11, go_sem, t0, t1, t2, t3, t4]) rfl ⟨by rw [hV.out, hnz]; rfl, (by repeat' (first | (with_reducible exact Below.refl _ _) | (with_reducible assumption) | (with_reducible refine below_drewN ?_ _) | (with_reducible refine Below.alloc ?_ ?_ _) | (with_reducible refine Below.drew ?_) | (with_reducible refine Below.setCell ?_ ?_ _) | (with_reducible exact Below.size (by assumption)) | go_size))⟩
  · have hnz : (o == 0) = false := beq_eq_false_iff_ne.2 (fun e => absurd (hzf.out e) (by decide))
    clear hfz hzf
    obtain ⟨s1, c0, c1, c2, c3, c4, g0, g1, g2, g3, g4⟩ := hF.out
    go_wp2_with fail
    clear s1 c0 c1 c2 c3 c4 g0 g1 g2 g3 g4
    refine (fld5 x 7 _ h0 h1 (by decide)).mono ?_
    rintro e wq ⟨rfl, rfl⟩
    have e1 : fld x (7 : Int).toNat 5 = fld x 7 5 := rfl
    rw [e1]
    clear e1
    obtain ⟨s1, c0, c1, c2, c3, c4, g0, g1, g2, g3, g4⟩ := hF.out
    go_wp2_with fail
    clear s1 c0 c1 c2 c3 c4 g0 g1 g2 g3 g4
    replace hF := hid (put1 hF.out (.int .i64 (fld x 7 5)))
    replace hz := hid (zput hz.out hlt 1 (.int .i64 (fld x 7 5)))
    replace hb := hb.setCell (p := ⟨pb, 1, none⟩) (show w00.heap.size ≤ pb by omega) (.int .i64 (fld x 7 5))
    generalize World.setCell _ ⟨pb, 1, none⟩ _ = wa1 at *
    refine (R4.ImmJ _ _ h0 h1).mono ?_
    rintro e w5 ⟨rfl, hb5⟩
    replace hF := hid (Five.below hF.out hb5 hF.out.lt)
    replace hz := hid (hz.out.below hb5 hz.out.lt)
    replace hb := bel_step hb hb5
    clear hb5
    obtain ⟨s1, c0, c1, c2, c3, c4, g0, g1, g2, g3, g4⟩ := hF.out
    obtain ⟨tl, t0, t1, t2, t3, t4, tf⟩ := hz.out
    have hne : (w00.heap.size = pb) = False := eq_false (by omega)
    have hne2 : (pb = w00.heap.size) = False := eq_false (by omega)
    clear hF hz
    go_wp2
    refine bodyPost_ret (v := .tuple #[.agg #[.int .i64 o, .int .i64 (fld x 7 5), .int .i64 (0), .int .i64 (0), .int .i32 (immJ x)], .bool true]) (by simp [results, Tryd.results11, go_sem, t0, t1, t2, t3, t4]) rfl ⟨by rw [hV.out, hnz]; rfl, (by repeat' (first | (with_reducible exact Below.refl _ _) | (with_reducible assumption) | (with_reducible refine below_drewN ?_ _) | (with_reducible refine Below.alloc ?_ ?_ _) | (with_reducible refine Below.drew ?_) | (with_reducible refine Below.setCell ?_ ?_ _) | (with_reducible exact Below.size (by assumption)) | go_size))⟩
  · have hnz : (o == 0) = false := beq_eq_false_iff_ne.2 (fun e => absurd (hzf.out e) (by decide))
    clear hfz hzf
    obtain ⟨s1, c0, c1, c2, c3, c4, g0, g1, g2, g3, g4⟩ := hF.out
    go_wp2_with fail
    clear s1 c0 c1 c2 c3 c4 g0 g1 g2 g3 g4
    refine (fld5 x 15 _ h0 h1 (by decide)).mono ?_
    rintro e wq ⟨rfl, rfl⟩
    have e2 : fld x (15 : Int).toNat 5 = fld x 15 5 := rfl
    rw [e2]
    clear e2
    obtain ⟨s1, c0, c1, c2, c3, c4, g0, g1, g2, g3, g4⟩ := hF.out
    go_wp2_with fail
    clear s1 c0 c1 c2 c3 c4 g0 g1 g2 g3 g4
    replace hF := hid (put2 hF.out (.int .i64 (fld x 15 5)))
    replace hz := hid (zput hz.out hlt 2 (.int .i64 (fld x 15 5)))
    replace hb := hb.setCell (p := ⟨pb, 2, none⟩) (show w00.heap.size ≤ pb by omega) (.int .i64 (fld x 15 5))
    generalize World.setCell _ ⟨pb, 2, none⟩ _ = wa2 at *
    refine (fld5 x 20 _ h0 h1 (by decide)).mono ?_
    rintro e wq ⟨rfl, rfl⟩
    have e3 : fld x (20 : Int).toNat 5 = fld x 20 5 := rfl
    rw [e3]
    clear e3
    obtain ⟨s1, c0, c1, c2, c3, c4, g0, g1, g2, g3, g4⟩ := hF.out
    go_wp2_with fail
    clear s1 c0 c1 c2 c3 c4 g0 g1 g2 g3 g4
    replace hF := hid (put3 hF.out (.int .i64 (fld x 20 5)))
    replace hz := hid (zput hz.out hlt 3 (.int .i64 (fld x 20 5)))
    replace hb := hb.setCell (p := ⟨pb, 3, none⟩) (show w00.heap.size ≤ pb by omega) (.int .i64 (fld x 20 5))
    generalize World.setCell _ ⟨pb, 3, none⟩ _ = wa3 at *
    refine (R4.ImmB _ _ h0 h1).mono ?_
    rintro e w5 ⟨rfl, hb5⟩
    replace hF := hid (Five.below hF.out hb5 hF.out.lt)
    replace hz := hid (hz.out.below hb5 hz.out.lt)
    replace hb := bel_step hb hb5
    clear hb5
    obtain ⟨s1, c0, c1, c2, c3, c4, g0, g1, g2, g3, g4⟩ := hF.out
    obtain ⟨tl, t0, t1, t2, t3, t4, tf⟩ := hz.out
    have hne : (w00.heap.size = pb) = False := eq_false (by omega)
    have hne2 : (pb = w00.heap.size) = False := eq_false (by omega)
    clear hF hz
    go_wp2
    refine bodyPost_ret (v := .tuple #[.agg #[.int .i64 o, .int .i64 (0), .int .i64 (fld x 15 5), .int .i64 (fld x 20 5), .int .i32 (immB x)], .bool true]) (by simp [results, Tryd.results11, go_sem, t0, t1, t2, t3, t4]) rfl ⟨by rw [hV.out, hnz]; rfl, (by repeat' (first | (with_reducible exact Below.refl _ _) | (with_reducible assumption) | (with_reducible refine below_drewN ?_ _) | (with_reducible refine Below.alloc ?_ ?_ _) | (with_reducible refine Below.drew ?_) | (with_reducible refine Below.setCell ?_ ?_ _) | (with_reducible exact Below.size (by assumption)) | go_size))⟩
  · have hnz : (o == 0) = false := beq_eq_false_iff_ne.2 (fun e => absurd (hzf.out e) (by decide))
    clear hfz hzf
    obtain ⟨s1, c0, c1, c2, c3, c4, g0, g1, g2, g3, g4⟩ := hF.out
    go_wp2_with fail
    clear s1 c0 c1 c2 c3 c4 g0 g1 g2 g3 g4
    refine (fld5 x 7 _ h0 h1 (by decide)).mono ?_
    rintro e wq ⟨rfl, rfl⟩
    have e1 : fld x (7 : Int).toNat 5 = fld x 7 5 := rfl
    rw [e1]
    clear e1
    obtain ⟨s1, c0, c1, c2, c3, c4, g0, g1, g2, g3, g4⟩ := hF.out
    go_wp2_with fail
    clear s1 c0 c1 c2 c3 c4 g0 g1 g2 g3 g4
    replace hF := hid (put1 hF.out (.int .i64 (fld x 7 5)))
    replace hz := hid (zput hz.out hlt 1 (.int .i64 (fld x 7 5)))
    replace hb := hb.setCell (p := ⟨pb, 1, none⟩) (show w00.heap.size ≤ pb by omega) (.int .i64 (fld x 7 5))
    generalize World.setCell _ ⟨pb, 1, none⟩ _ = wa1 at *
    refine (fld5 x 15 _ h0 h1 (by decide)).mono ?_
    rintro e wq ⟨rfl, rfl⟩
    have e2 : fld x (15 : Int).toNat 5 = fld x 15 5 := rfl
    rw [e2]
    clear e2
    obtain ⟨s1, c0, c1, c2, c3, c4, g0, g1, g2, g3, g4⟩ := hF.out
    go_wp2_with fail
    clear s1 c0 c1 c2 c3 c4 g0 g1 g2 g3 g4
    replace hF := hid (put2 hF.out (.int .i64 (fld x 15 5)))
    replace hz := hid (zput hz.out hlt 2 (.int .i64 (fld x 15 5)))
    replace hb := hb.setCell (p := ⟨pb, 2, none⟩) (show w00.heap.size ≤ pb by omega) (.int .i64 (fld x 15 5))
    generalize World.setCell _ ⟨pb, 2, none⟩ _ = wa2 at *
    refine (R4.ImmI _ _ h0 h1).mono ?_
    rintro e w5 ⟨rfl, hb5⟩
    replace hF := hid (Five.below hF.out hb5 hF.out.lt)
    replace hz := hid (hz.out.below hb5 hz.out.lt)
    replace hb := bel_step hb hb5
    clear hb5
    obtain ⟨s1, c0, c1, c2, c3, c4, g0, g1, g2, g3, g4⟩ := hF.out
    obtain ⟨tl, t0, t1, t2, t3, t4, tf⟩ := hz.out
    have hne : (w00.heap.size = pb) = False := eq_false (by omega)
    have hne2 : (pb = w00.heap.size) = False := eq_false (by omega)
    clear hF hz
    go_wp2
    refine bodyPost_ret (v := .tuple #[.agg #[.int .i64 o, .int .i64 (fld x 7 5), .int .i64 (fld x 15 5), .int .i64 (0), .int .i32 (immI x)], .bool true]) (by simp [results, Tryd.results11, go_sem, t0, t1, t2, t3, t4]) rfl ⟨by rw [hV.out, hnz]; rfl, (by repeat' (first | (with_reducible exact Below.refl _ _) | (with_reducible assumption) | (with_reducible refine below_drewN ?_ _) | (with_reducible refine Below.alloc ?_ ?_ _) | (with_reducible refine Below.drew ?_) | (with_reducible refine Below.setCell ?_ ?_ _) | (with_reducible exact Below.size (by assumption)) | go_size))⟩
  · have hnz : (o == 0) = false := beq_eq_false_iff_ne.2 (fun e => absurd (hzf.out e) (by decide))
    clear hfz hzf
    obtain ⟨s1, c0, c1, c2, c3, c4, g0, g1, g2, g3, g4⟩ := hF.out
    go_wp2_with fail
    clear s1 c0 c1 c2 c3 c4 g0 g1 g2 g3 g4
    refine (fld5 x 15 _ h0 h1 (by decide)).mono ?_
    rintro e wq ⟨rfl, rfl⟩
    have e2 : fld x (15 : Int).toNat 5 = fld x 15 5 := rfl
    rw [e2]
    clear e2
    obtain ⟨s1, c0, c1, c2, c3, c4, g0, g1, g2, g3, g4⟩ := hF.out
    go_wp2_with fail
    clear s1 c0 c1 c2 c3 c4 g0 g1 g2 g3 g4
    replace hF := hid (put2 hF.out (.int .i64 (fld x 15 5)))
    replace hz := hid (zput hz.out hlt 2 (.int .i64 (fld x 15 5)))
    replace hb := hb.setCell (p := ⟨pb, 2, none⟩) (show w00.heap.size ≤ pb by omega) (.int .i64 (fld x 15 5))
    generalize World.setCell _ ⟨pb, 2, none⟩ _ = wa2 at *
    refine (fld5 x 20 _ h0 h1 (by decide)).mono ?_
    rintro e wq ⟨rfl, rfl⟩
    have e3 : fld x (20 : Int).toNat 5 = fld x 20 5 := rfl
    rw [e3]
    clear e3
    obtain ⟨s1, c0, c1, c2, c3, c4, g0, g1, g2, g3, g4⟩ := hF.out
    go_wp2_with fail
    clear s1 c0 c1 c2 c3 c4 g0 g1 g2 g3 g4
    replace hF := hid (put3 hF.out (.int .i64 (fld x 20 5)))
    replace hz := hid (zput hz.out hlt 3 (.int .i64 (fld x 20 5)))
    replace hb := hb.setCell (p := ⟨pb, 3, none⟩) (show w00.heap.size ≤ pb by omega) (.int .i64 (fld x 20 5))
    generalize World.setCell _ ⟨pb, 3, none⟩ _ = wa3 at *
    refine (R4.ImmS _ _ h0 h1).mono ?_
    rintro e w5 ⟨rfl, hb5⟩
    replace hF := hid (Five.below hF.out hb5 hF.out.lt)
    replace hz := hid (hz.out.below hb5 hz.out.lt)
    replace hb := bel_step hb hb5
    clear hb5
    obtain ⟨s1, c0, c1, c2, c3, c4, g0, g1, g2, g3, g4⟩ := hF.out
    obtain ⟨tl, t0, t1, t2, t3, t4, tf⟩ := hz.out
    have hne : (w00.heap.size = pb) = False := eq_false (by omega)
    have hne2 : (pb = w00.heap.size) = False := eq_false (by omega)
    clear hF hz
    go_wp2
    refine bodyPost_ret (v := .tuple #[.agg #[.int .i64 o, .int .i64 (0), .int .i64 (fld x 15 5), .int .i64 (fld x 20 5), .int .i32 (immS x)], .bool true]) (by simp [results, Tryd.results11, go_sem, t0, t1, t2, t3, t4]) rfl ⟨by rw [hV.out, hnz]; rfl, (by repeat' (first | (with_reducible exact Below.refl _ _) | (with_reducible assumption) | (with_reducible refine below_drewN ?_ _) | (with_reducible refine Below.alloc ?_ ?_ _) | (with_reducible refine Below.drew ?_) | (with_reducible refine Below.setCell ?_ ?_ _) | (with_reducible exact Below.size (by assumption)) | go_size))⟩
  · have hnz : (o == 0) = false := beq_eq_false_iff_ne.2 (fun e => absurd (hzf.out e) (by decide))
    clear hfz hzf
    obtain ⟨s1, c0, c1, c2, c3, c4, g0, g1, g2, g3, g4⟩ := hF.out
    go_wp2_with fail
    clear s1 c0 c1 c2 c3 c4 g0 g1 g2 g3 g4
    refine (fld5 x 7 _ h0 h1 (by decide)).mono ?_
    rintro e wq ⟨rfl, rfl⟩
    have e1 : fld x (7 : Int).toNat 5 = fld x 7 5 := rfl
    rw [e1]
    clear e1
    obtain ⟨s1, c0, c1, c2, c3, c4, g0, g1, g2, g3, g4⟩ := hF.out
    go_wp2_with fail
    clear s1 c0 c1 c2 c3 c4 g0 g1 g2 g3 g4
    replace hF := hid (put1 hF.out (.int .i64 (fld x 7 5)))
    replace hz := hid (zput hz.out hlt 1 (.int .i64 (fld x 7 5)))
    replace hb := hb.setCell (p := ⟨pb, 1, none⟩) (show w00.heap.size ≤ pb by omega) (.int .i64 (fld x 7 5))
    generalize World.setCell _ ⟨pb, 1, none⟩ _ = wa1 at *
    refine (fld5 x 15 _ h0 h1 (by decide)).mono ?_
    rintro e wq ⟨rfl, rfl⟩
    have e2 : fld x (15 : Int).toNat 5 = fld x 15 5 := rfl
    rw [e2]
    clear e2
    obtain ⟨s1, c0, c1, c2, c3, c4, g0, g1, g2, g3, g4⟩ := hF.out
    go_wp2_with fail
    clear s1 c0 c1 c2 c3 c4 g0 g1 g2 g3 g4
    replace hF := hid (put2 hF.out (.int .i64 (fld x 15 5)))
    replace hz := hid (zput hz.out hlt 2 (.int .i64 (fld x 15 5)))
    replace hb := hb.setCell (p := ⟨pb, 2, none⟩) (show w00.heap.size ≤ pb by omega) (.int .i64 (fld x 15 5))
    generalize World.setCell _ ⟨pb, 2, none⟩ _ = wa2 at *
    refine (R4.ImmI _ _ h0 h1).mono ?_
    rintro e w5 ⟨rfl, hb5⟩
    replace hF := hid (Five.below hF.out hb5 hF.out.lt)
    replace hz := hid (hz.out.below hb5 hz.out.lt)
    replace hb := bel_step hb hb5
    clear hb5
    obtain ⟨s1, c0, c1, c2, c3, c4, g0, g1, g2, g3, g4⟩ := hF.out
    obtain ⟨tl, t0, t1, t2, t3, t4, tf⟩ := hz.out
    have hne : (w00.heap.size = pb) = False := eq_false (by omega)
    have hne2 : (pb = w00.heap.size) = False := eq_false (by omega)
    clear hF hz
    go_wp2
    refine bodyPost_ret (v := .tuple #[.agg #[.int .i64 o, .int .i64 (fld x 7 5), .int .i64 (fld x 15 5), .int .i64 (0), .int .i32 (immI x)], .bool true]) (by simp [results, Tryd.results11, go_sem, t0, t1, t2, t3, t4]) rfl ⟨by rw [hV.out, hnz]; rfl, (by repeat' (first | (with_reducible exact Below.refl _ _) | (with_reducible assumption) | (with_reducible refine below_drewN ?_ _) | (with_reducible refine Below.alloc ?_ ?_ _) | (with_reducible refine Below.drew ?_) | (with_reducible refine Below.setCell ?_ ?_ _) | (with_reducible exact Below.size (by assumption)) | go_size))⟩
  · have hnz : (o == 0) = false := beq_eq_false_iff_ne.2 (fun e => absurd (hzf.out e) (by decide))
    clear hfz hzf
    obtain ⟨s1, c0, c1, c2, c3, c4, g0, g1, g2, g3, g4⟩ := hF.out
    go_wp2_with fail
    clear s1 c0 c1 c2 c3 c4 g0 g1 g2 g3 g4
    refine (fld5 x 7 _ h0 h1 (by decide)).mono ?_
    rintro e wq ⟨rfl, rfl⟩
    have e1 : fld x (7 : Int).toNat 5 = fld x 7 5 := rfl
    rw [e1]
    clear e1
    obtain ⟨s1, c0, c1, c2, c3, c4, g0, g1, g2, g3, g4⟩ := hF.out
    go_wp2_with fail
    clear s1 c0 c1 c2 c3 c4 g0 g1 g2 g3 g4
    replace hF := hid (put1 hF.out (.int .i64 (fld x 7 5)))
    replace hz := hid (zput hz.out hlt 1 (.int .i64 (fld x 7 5)))
    replace hb := hb.setCell (p := ⟨pb, 1, none⟩) (show w00.heap.size ≤ pb by omega) (.int .i64 (fld x 7 5))
    generalize World.setCell _ ⟨pb, 1, none⟩ _ = wa1 at *
    refine (fld5 x 15 _ h0 h1 (by decide)).mono ?_
    rintro e wq ⟨rfl, rfl⟩
    have e2 : fld x (15 : Int).toNat 5 = fld x 15 5 := rfl
    rw [e2]
    clear e2
    obtain ⟨s1, c0, c1, c2, c3, c4, g0, g1, g2, g3, g4⟩ := hF.out
    go_wp2_with fail
    clear s1 c0 c1 c2 c3 c4 g0 g1 g2 g3 g4
    replace hF := hid (put2 hF.out (.int .i64 (fld x 15 5)))
    replace hz := hid (zput hz.out hlt 2 (.int .i64 (fld x 15 5)))
    replace hb := hb.setCell (p := ⟨pb, 2, none⟩) (show w00.heap.size ≤ pb by omega) (.int .i64 (fld x 15 5))
    generalize World.setCell _ ⟨pb, 2, none⟩ _ = wa2 at *
    refine (fld5 x 20 _ h0 h1 (by decide)).mono ?_
    rintro e wq ⟨rfl, rfl⟩
    have e4 : fld x (20 : Int).toNat 5 = fld x 20 5 := rfl
    rw [e4]
    clear e4
    obtain ⟨s1, c0, c1, c2, c3, c4, g0, g1, g2, g3, g4⟩ := hF.out
    obtain ⟨tl, t0, t1, t2, t3, t4, tf⟩ := hz.out
    have hne : (w00.heap.size = pb) = False := eq_false (by omega)
    have hne2 : (pb = w00.heap.size) = False := eq_false (by omega)
    clear hF hz
    go_wp2
    refine bodyPost_ret (v := .tuple #[.agg #[.int .i64 o, .int .i64 (fld x 7 5), .int .i64 (fld x 15 5), .int .i64 (0), .int .i32 (fld x 20 5)], .bool true]) (by simp [results, Tryd.results11, go_sem, t0, t1, t2, t3, t4]) rfl ⟨by rw [hV.out, hnz]; rfl, (by repeat' (first | (with_reducible exact Below.refl _ _) | (with_reducible assumption) | (with_reducible refine below_drewN ?_ _) | (with_reducible refine Below.alloc ?_ ?_ _) | (with_reducible refine Below.drew ?_) | (with_reducible refine Below.setCell ?_ ?_ _) | (with_reducible exact Below.size (by assumption)) | go_size))⟩
  · have hnz : (o == 0) = false := beq_eq_false_iff_ne.2 (fun e => absurd (hzf.out e) (by decide))
    clear hfz hzf
    obtain ⟨s1, c0, c1, c2, c3, c4, g0, g1, g2, g3, g4⟩ := hF.out
    go_wp2_with fail
    clear s1 c0 c1 c2 c3 c4 g0 g1 g2 g3 g4
    refine (fld5 x 7 _ h0 h1 (by decide)).mono ?_
    rintro e wq ⟨rfl, rfl⟩
    have e1 : fld x (7 : Int).toNat 5 = fld x 7 5 := rfl
    rw [e1]
    clear e1
    obtain ⟨s1, c0, c1, c2, c3, c4, g0, g1, g2, g3, g4⟩ := hF.out
    go_wp2_with fail
    clear s1 c0 c1 c2 c3 c4 g0 g1 g2 g3 g4
    replace hF := hid (put1 hF.out (.int .i64 (fld x 7 5)))
    replace hz := hid (zput hz.out hlt 1 (.int .i64 (fld x 7 5)))
    replace hb := hb.setCell (p := ⟨pb, 1, none⟩) (show w00.heap.size ≤ pb by omega) (.int .i64 (fld x 7 5))
    generalize World.setCell _ ⟨pb, 1, none⟩ _ = wa1 at *
    refine (fld5 x 15 _ h0 h1 (by decide)).mono ?_
    rintro e wq ⟨rfl, rfl⟩
    have e2 : fld x (15 : Int).toNat 5 = fld x 15 5 := rfl
    rw [e2]
    clear e2
    obtain ⟨s1, c0, c1, c2, c3, c4, g0, g1, g2, g3, g4⟩ := hF.out
    go_wp2_with fail
    clear s1 c0 c1 c2 c3 c4 g0 g1 g2 g3 g4
    replace hF := hid (put2 hF.out (.int .i64 (fld x 15 5)))
    replace hz := hid (zput hz.out hlt 2 (.int .i64 (fld x 15 5)))
    replace hb := hb.setCell (p := ⟨pb, 2, none⟩) (show w00.heap.size ≤ pb by omega) (.int .i64 (fld x 15 5))
    generalize World.setCell _ ⟨pb, 2, none⟩ _ = wa2 at *
    refine (fld5 x 20 _ h0 h1 (by decide)).mono ?_
    rintro e wq ⟨rfl, rfl⟩
    have e3 : fld x (20 : Int).toNat 5 = fld x 20 5 := rfl
    rw [e3]
    clear e3
    obtain ⟨s1, c0, c1, c2, c3, c4, g0, g1, g2, g3, g4⟩ := hF.out
    obtain ⟨tl, t0, t1, t2, t3, t4, tf⟩ := hz.out
    have hne : (w00.heap.size = pb) = False := eq_false (by omega)
    have hne2 : (pb = w00.heap.size) = False := eq_false (by omega)
    clear hF hz
    go_wp2
    refine bodyPost_ret (v := .tuple #[.agg #[.int .i64 o, .int .i64 (fld x 7 5), .int .i64 (fld x 15 5), .int .i64 (fld x 20 5), .int .i32 0], .bool true]) (by simp [results, Tryd.results11, go_sem, t0, t1, t2, t3, t4]) rfl ⟨by rw [hV.out, hnz]; rfl, (by repeat' (first | (with_reducible exact Below.refl _ _) | (with_reducible assumption) | (with_reducible refine below_drewN ?_ _) | (with_reducible refine Below.alloc ?_ ?_ _) | (with_reducible refine Below.drew ?_) | (with_reducible refine Below.setCell ?_ ?_ _) | (with_reducible exact Below.size (by assumption)) | go_size))⟩
  · have hnz : (o == 0) = false := beq_eq_false_iff_ne.2 (fun e => absurd (hzf.out e) (by decide))
    clear hfz hzf
    obtain ⟨s1, c0, c1, c2, c3, c4, g0, g1, g2, g3, g4⟩ := hF.out
    obtain ⟨tl, t0, t1, t2, t3, t4, tf⟩ := hz.out
    have hne : (w00.heap.size = pb) = False := eq_false (by omega)
    have hne2 : (pb = w00.heap.size) = False := eq_false (by omega)
    clear hF hz
    go_wp2
    refine bodyPost_ret (v := .tuple #[.agg #[.int .i64 o, .int .i64 (0), .int .i64 (0), .int .i64 (0), .int .i32 0], .bool true]) (by simp [results, Tryd.results11, go_sem, t0, t1, t2, t3, t4]) rfl ⟨by rw [hV.out, hnz]; rfl, (by repeat' (first | (with_reducible exact Below.refl _ _) | (with_reducible assumption) | (with_reducible refine below_drewN ?_ _) | (with_reducible refine Below.alloc ?_ ?_ _) | (with_reducible refine Below.drew ?_) | (with_reducible refine Below.setCell ?_ ?_ _) | (with_reducible exact Below.size (by assumption)) | go_size))⟩
end Go.Proofs.YtabdfbghhkpoeaaDoor.R4
