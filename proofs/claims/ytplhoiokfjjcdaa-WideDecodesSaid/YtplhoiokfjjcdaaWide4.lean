/- What wide.Decode computes, by opcodes: the rest, and the whole. -/
import Derived.Test.YtplhoiokfjjcdaaWide3
namespace Go.Proofs.Ytplhoiokfjjcdaa.V
set_option linter.unusedVariables false
open Go.ChangeShapes Go.WideShapes Go.ChangeAt Go.RowKit Go.Proofs.Ytplhoiokfjjcdaa.P Go.Proofs.Ytplhoiokfjjcdaa.W

theorem regOp_form (x : Int) : regOp (fld x 12 3) (fld x 25 7) = 0 ∨ form (regOp (fld x 12 3) (fld x 25 7)) = 8 := by
  obtain ⟨f0, f1⟩ := f3_bd x
  unfold regOp
  split
  · exact pick_form f0 f1 (by decide)
  · split
    · exact pick_form f0 f1 (by decide)
    · split
      · exact pick_form f0 f1 (by decide)
      · exact .inl rfl

set_option maxHeartbeats 1000000 in
theorem Dec_register (x : Int) (w00 : World) (h0 : 0 ≤ x) (h1 : x < 4294967296) (hc : x % 128 = 51) :
    Calls Try.prog 13 #[.int .u32 x] w00 fun e w' => e = .returned (decV x) ∧ Below w00.heap.size w00 w' := by
  obtain ⟨f0, f1⟩ := f3_bd x
  have hb := and127 x 51 h0 h1 hc
  have HC := hid hc
  clear hc
  go_enter Try.func13, Try.ntmps13
  go_wp2_with fail
  have hz0 := Zero.new w00 25
  have hb0 : Below w00.heap.size w00 (w00.alloc (.cells #[.int .i64 0, .int .i64 0, .int .i64 0, .int .i64 0, .int .i32 0] 25)) := (Below.refl _ _).alloc (Nat.le_refl _) _
  generalize w00.alloc (.cells #[.int .i64 0, .int .i64 0, .int .i64 0, .int .i64 0, .int .i32 0] 25) = w1 at *
  refine (V.cut _ _ h0 h1).mono ?_
  rintro e w2 ⟨rfl, hb2⟩
  have hz2 := hz0.below hb2 hz0.lt
  have hb2' := bel_step hb0 hb2
  clear hz0 hb0 hb2 w1
  have hP0 := Parts.new w2 48 x
  have hI0 := Zero.new (w2.alloc (.cells #[.int .u32 x, .int .i64 (fld x 7 5), .int .i64 (fld x 12 3), .int .i64 (fld x 15 5), .int .i64 (fld x 20 5), .int .u32 (fld x 25 7)] 48)) 25
  rw [World.size_alloc] at hI0
  have hq := Parts.below hP0 ((Below.refl _ _).alloc (Nat.le_refl _) (.cells #[.int .i64 0, .int .i64 0, .int .i64 0, .int .i64 0, .int .i32 0] 25)) hP0.lt
  have hb3 : Below w2.heap.size w2 ((w2.alloc (.cells #[.int .u32 x, .int .i64 (fld x 7 5), .int .i64 (fld x 12 3), .int .i64 (fld x 15 5), .int .i64 (fld x 20 5), .int .u32 (fld x 25 7)] 48)).alloc (.cells #[.int .i64 0, .int .i64 0, .int .i64 0, .int .i64 0, .int .i32 0] 25)) := ((Below.refl _ _).alloc (Nat.le_refl _) _).alloc (by simp) _
  have hz3 := hid (hz2.below hb3 hz2.lt)
  have hbw0 := bel_step hb2' hb3
  have hlt : w00.heap.size < w2.heap.size := hz2.lt
  have hP := hid hq
  have hI := hid hI0
  clear hz2 hq hb2' hb3 hP0 hI0
  go_wp2_with fail
  generalize (w2.alloc (.cells #[.int .u32 x, .int .i64 (fld x 7 5), .int .i64 (fld x 12 3), .int .i64 (fld x 15 5), .int .i64 (fld x 20 5), .int .u32 (fld x 25 7)] 48)).alloc (.cells #[.int .i64 0, .int .i64 0, .int .i64 0, .int .i64 0, .int .i32 0] 25) = w at *
  generalize w2.heap.size = pb at *
  obtain ⟨pl, p0, p1, p2, p3, p4, p5⟩ := hP.out
  obtain ⟨il, i0, i1, i2, i3, i4, ifr⟩ := hI.out
  clear hP hI
  go_region_held3 (fun W => pb + 1 < W.heap.size ∧ pb < W.heap.size ∧ W.cell? ⟨pb, 0, none⟩ = some (.int .u32 x) ∧ W.cell? ⟨pb, 1, none⟩ = some (.int .i64 (fld x 7 5)) ∧ W.cell? ⟨pb, 2, none⟩ = some (.int .i64 (fld x 12 3)) ∧ W.cell? ⟨pb, 3, none⟩ = some (.int .i64 (fld x 15 5)) ∧ W.cell? ⟨pb, 4, none⟩ = some (.int .i64 (fld x 20 5)) ∧ W.cell? ⟨pb, 5, none⟩ = some (.int .u32 (fld x 25 7)) ∧ W.cell? ⟨pb + 1, 0, none⟩ = some (cellv W ⟨pb + 1, 0, none⟩) ∧ W.cell? ⟨pb + 1, 1, none⟩ = some (cellv W ⟨pb + 1, 1, none⟩) ∧ W.cell? ⟨pb + 1, 2, none⟩ = some (cellv W ⟨pb + 1, 2, none⟩) ∧ W.cell? ⟨pb + 1, 3, none⟩ = some (cellv W ⟨pb + 1, 3, none⟩) ∧ W.cell? ⟨pb + 1, 4, none⟩ = some (cellv W ⟨pb + 1, 4, none⟩) ∧ W.frozen? ⟨pb + 1, 0, none⟩ = false ∧ W.frozen? ⟨pb + 1, 1, none⟩ = false ∧ W.frozen? ⟨pb + 1, 2, none⟩ = false ∧ W.frozen? ⟨pb + 1, 3, none⟩ = false ∧ W.frozen? ⟨pb + 1, 4, none⟩ = false) (((repeat' (refine And.intro ?_ ?_)) <;> (first | omega | (go_simp; done) | (refine cell_is ?_; go_simp; done) | (rw [hcel _ _ (by first | omega | (simp; omega))]; go_simp; done) | (rw [hfro _ _ (by first | omega | (simp; omega))]; go_simp; done) | (simp [*]; done)))) ((first | (go_at_call 38; refine (V.registers _ _ _ _ _ _ _ (by omega) (by omega)).mono ?_; rintro e w' ⟨rfl, hbel⟩; (try (with_reducible replace hbel := bel_undrew hbel)); (try (with_reducible replace hbel := bel_undrewN hbel)); have hbw := bel_step (w := w) (by repeat' (first | (with_reducible exact Below.refl _ _) | (with_reducible assumption) | (with_reducible refine below_drewN ?_ _) | (with_reducible refine Below.alloc ?_ ?_ _) | (with_reducible refine Below.drew ?_) | (with_reducible refine Below.setCell ?_ ?_ _) | (with_reducible exact Below.size (by assumption)) | go_size)) hbel; have hsw := hbw.size; have hsb := hbel.size; (try simp at hsb); (try (refine lay (p := w.heap.size < w'.heap.size) ?_ ?_; rotate_left; intro hq0; rotate_left; omega)); (try (refine lay (p := w.heap.size + 1 < w'.heap.size) ?_ ?_; rotate_left; intro hq1; rotate_left; omega)); (try (refine lay (p := w.heap.size + 2 < w'.heap.size) ?_ ?_; rotate_left; intro hq2; rotate_left; omega)); (try (refine lay (p := w.heap.size + 3 < w'.heap.size) ?_ ?_; rotate_left; intro hq3; rotate_left; omega)); (try (refine lay (p := w.heap.size + 4 < w'.heap.size) ?_ ?_; rotate_left; intro hq4; rotate_left; omega)); (try (refine lay (p := w.heap.size + 5 < w'.heap.size) ?_ ?_; rotate_left; intro hq5; rotate_left; omega)); obtain ⟨hcel, hfro⟩ := bcell hbel; clear hbel)))
  clear p0 p1 p2 p3 p4 p5 i0 i1 i2 i3 i4 ifr
  rename _ < _ ∧ _ => hH
  obtain ⟨s1, s2, q0, q1, q2, q3, q4, q5, e0, e1, e2, e3, e4, g0, g1, g2, g3, g4⟩ := hH
  obtain ⟨hA, hT, hbF⟩ := after (hz3.out.below hbw hz3.out.lt) (b := pb + 1) (by omega) (bel_step hbw0 hbw) (by omega) s1 e0 e1 e2 e3 e4 g0 g1 g2 g3 g4
  clear s1 s2 q0 q1 q2 q3 q4 q5 e0 e1 e2 e3 e4 g0 g1 g2 g3 g4
  generalize World.setCell _ ⟨pb + 1, 4, none⟩ _ = wf at *
  obtain ⟨s1, c0, c1, c2, c3, c4, g0, g1, g2, g3, g4⟩ := hA
  obtain ⟨tl, t0, t1, t2, t3, t4, tf⟩ := hT
  have hN : Hid (opN x = regOp (fld x 12 3) (fld x 25 7)) := hid (opN_register HC.out)
  have hp : Hid (regOp (fld x 12 3) (fld x 25 7) = 0 ∨ form (regOp (fld x 12 3) (fld x 25 7)) = 8) := hid (regOp_form x)
  go_wp2
  · have hz : (regOp (fld x 12 3) (fld x 25 7) == 0) = true := by assumption
    rw [beq_iff_eq] at hz
    refine bodyPost_ret (v := .tuple #[.agg #[.int .i64 0, .int .i64 0, .int .i64 0, .int .i64 0, .int .i32 0], .bool false]) (by simp [results, Try.results13, go_sem, t0, t1, t2, t3, t4]) rfl ⟨by rw [decV_none (hN.out.trans hz)], (by repeat' (first | (with_reducible exact Below.refl _ _) | (with_reducible assumption) | (with_reducible refine below_drewN ?_ _) | (with_reducible refine Below.alloc ?_ ?_ _) | (with_reducible refine Below.drew ?_) | (with_reducible refine Below.setCell ?_ ?_ _) | (with_reducible exact Below.size (by assumption)) | go_size))⟩
  · have hz : (regOp (fld x 12 3) (fld x 25 7) == 0) = false := by assumption
    rw [beq_eq_false_iff_ne] at hz
    refine bodyPost_ret (v := .tuple #[.agg #[.int .i64 (regOp (fld x 12 3) (fld x 25 7)), .int .i64 (fld x 7 5), .int .i64 (fld x 15 5), .int .i64 (fld x 20 5), .int .i32 0], .bool true]) (by simp [results, Try.results13, go_sem, t0, t1, t2, t3, t4]) rfl ⟨by rw [decV_some hN.out hz (hp.out.resolve_left hz)]; rfl, (by repeat' (first | (with_reducible exact Below.refl _ _) | (with_reducible assumption) | (with_reducible refine below_drewN ?_ _) | (with_reducible refine Below.alloc ?_ ?_ _) | (with_reducible refine Below.drew ?_) | (with_reducible refine Below.setCell ?_ ?_ _) | (with_reducible exact Below.size (by assumption)) | go_size))⟩

theorem after_zero {w0 w : World} {b c B : Nat} (hI : Zero w b) (hz : Zero w c) (hne : b ≠ c) (hb : Below B w0 w) (hB : B ≤ b) (v0 v1 v2 v3 v4 : Value) :
    Five (((((w.setCell ⟨b, 0, none⟩ v0).setCell ⟨b, 1, none⟩ v1).setCell ⟨b, 2, none⟩ v2).setCell ⟨b, 3, none⟩ v3).setCell ⟨b, 4, none⟩ v4) b v0 v1 v2 v3 v4 ∧
    Zero (((((w.setCell ⟨b, 0, none⟩ v0).setCell ⟨b, 1, none⟩ v1).setCell ⟨b, 2, none⟩ v2).setCell ⟨b, 3, none⟩ v3).setCell ⟨b, 4, none⟩ v4) c ∧
    Below B w0 (((((w.setCell ⟨b, 0, none⟩ v0).setCell ⟨b, 1, none⟩ v1).setCell ⟨b, 2, none⟩ v2).setCell ⟨b, 3, none⟩ v3).setCell ⟨b, 4, none⟩ v4) := by
  obtain ⟨il, i0, i1, i2, i3, i4, ifr⟩ := hI
  have o : ∀ (W : World) (i j : Nat) (v : Value), i ≠ j → (W.setCell ⟨b, i, none⟩ v).cell? ⟨b, j, none⟩ = W.cell? ⟨b, j, none⟩ := fun W i j v hij =>
    World.cell?_setCell_other W _ _ v (fun e => hij (by injection e))
  refine after (u0 := v0) (u1 := v1) (u2 := v2) (u3 := v3) (u4 := v4) hz hne hb hB (by simpa using il) ?_ ?_ ?_ ?_ ?_ ?_ ?_ ?_ ?_ ?_
  · simp only [o _ 4 0 _ (by decide), o _ 3 0 _ (by decide), o _ 2 0 _ (by decide), o _ 1 0 _ (by decide)]
    exact World.cell?_setCell_same _ _ _ i0
  · simp only [o _ 4 1 _ (by decide), o _ 3 1 _ (by decide), o _ 2 1 _ (by decide)]
    exact World.cell?_setCell_same _ _ _ ((o _ 0 1 _ (by decide)).trans i1)
  · simp only [o _ 4 2 _ (by decide), o _ 3 2 _ (by decide)]
    exact World.cell?_setCell_same _ _ _ (by simp only [o _ 1 2 _ (by decide), o _ 0 2 _ (by decide)]; exact i2)
  · simp only [o _ 4 3 _ (by decide)]
    exact World.cell?_setCell_same _ _ _ (by simp only [o _ 2 3 _ (by decide), o _ 1 3 _ (by decide), o _ 0 3 _ (by decide)]; exact i3)
  · exact World.cell?_setCell_same _ _ _ (by simp only [o _ 3 4 _ (by decide), o _ 2 4 _ (by decide), o _ 1 4 _ (by decide), o _ 0 4 _ (by decide)]; exact i4)
  all_goals (simp only [World.frozen?_setCell]; exact ifr _)
theorem Five.last {w : World} {b : Nat} {v0 v1 v2 v3 v4 : Value} (h : Five w b v0 v1 v2 v3 v4) (v : Value) : Five (w.setCell ⟨b, 4, none⟩ v) b v0 v1 v2 v3 v := by
  obtain ⟨s1, c0, c1, c2, c3, c4, g0, g1, g2, g3, g4⟩ := h
  have o : ∀ (j : Nat), 4 ≠ j → (w.setCell ⟨b, 4, none⟩ v).cell? ⟨b, j, none⟩ = w.cell? ⟨b, j, none⟩ := fun j hij =>
    World.cell?_setCell_other w _ _ v (fun e => hij (by injection e))
  exact ⟨by simpa using s1, (o 0 (by decide)).trans c0, (o 1 (by decide)).trans c1, (o 2 (by decide)).trans c2, (o 3 (by decide)).trans c3, World.cell?_setCell_same _ _ _ c4,
    (World.frozen?_setCell ..).trans g0, (World.frozen?_setCell ..).trans g1, (World.frozen?_setCell ..).trans g2, (World.frozen?_setCell ..).trans g3, (World.frozen?_setCell ..).trans g4⟩
theorem Zero.last {w : World} {b c : Nat} (h : Zero w c) (hne : b ≠ c) (v : Value) : Zero (w.setCell ⟨b, 4, none⟩ v) c := by
  obtain ⟨tl, t0, t1, t2, t3, t4, tf⟩ := h
  have o : ∀ (j : Nat), (w.setCell ⟨b, 4, none⟩ v).cell? ⟨c, j, none⟩ = w.cell? ⟨c, j, none⟩ := fun j =>
    World.cell?_setCell_other w _ _ v (fun e => hne (by injection e))
  exact ⟨by simpa using tl, (o 0).trans t0, (o 1).trans t1, (o 2).trans t2, (o 3).trans t3, (o 4).trans t4, fun j => (World.frozen?_setCell ..).trans (tf j)⟩

set_option maxHeartbeats 1000000 in
theorem Dec_fence (x : Int) (w00 : World) (h0 : 0 ≤ x) (h1 : x < 4294967296) (hc : x % 128 = 15) :
    Calls Try.prog 13 #[.int .u32 x] w00 fun e w' => e = .returned (decV x) ∧ Below w00.heap.size w00 w' := by
  obtain ⟨f0, f1⟩ := f3_bd x
  have hb := and127 x 15 h0 h1 hc
  have HC := hid hc
  clear hc
  go_enter Try.func13, Try.ntmps13
  go_wp2_with fail
  have hz0 := Zero.new w00 25
  have hb0 : Below w00.heap.size w00 (w00.alloc (.cells #[.int .i64 0, .int .i64 0, .int .i64 0, .int .i64 0, .int .i32 0] 25)) := (Below.refl _ _).alloc (Nat.le_refl _) _
  generalize w00.alloc (.cells #[.int .i64 0, .int .i64 0, .int .i64 0, .int .i64 0, .int .i32 0] 25) = w1 at *
  refine (V.cut _ _ h0 h1).mono ?_
  rintro e w2 ⟨rfl, hb2⟩
  have hz2 := hz0.below hb2 hz0.lt
  have hb2' := bel_step hb0 hb2
  clear hz0 hb0 hb2 w1
  have hP0 := Parts.new w2 48 x
  have hI0 := Zero.new (w2.alloc (.cells #[.int .u32 x, .int .i64 (fld x 7 5), .int .i64 (fld x 12 3), .int .i64 (fld x 15 5), .int .i64 (fld x 20 5), .int .u32 (fld x 25 7)] 48)) 25
  rw [World.size_alloc] at hI0
  have hq := Parts.below hP0 ((Below.refl _ _).alloc (Nat.le_refl _) (.cells #[.int .i64 0, .int .i64 0, .int .i64 0, .int .i64 0, .int .i32 0] 25)) hP0.lt
  have hb3 : Below w2.heap.size w2 ((w2.alloc (.cells #[.int .u32 x, .int .i64 (fld x 7 5), .int .i64 (fld x 12 3), .int .i64 (fld x 15 5), .int .i64 (fld x 20 5), .int .u32 (fld x 25 7)] 48)).alloc (.cells #[.int .i64 0, .int .i64 0, .int .i64 0, .int .i64 0, .int .i32 0] 25)) := ((Below.refl _ _).alloc (Nat.le_refl _) _).alloc (by simp) _
  have hz3 := hid (hz2.below hb3 hz2.lt)
  have hbw0 := bel_step hb2' hb3
  have hlt : w00.heap.size < w2.heap.size := hz2.lt
  have hP := hid hq
  have hI := hid hI0
  clear hz2 hq hb2' hb3 hP0 hI0
  go_wp2_with fail
  generalize (w2.alloc (.cells #[.int .u32 x, .int .i64 (fld x 7 5), .int .i64 (fld x 12 3), .int .i64 (fld x 15 5), .int .i64 (fld x 20 5), .int .u32 (fld x 25 7)] 48)).alloc (.cells #[.int .i64 0, .int .i64 0, .int .i64 0, .int .i64 0, .int .i32 0] 25) = w at *
  generalize w2.heap.size = pb at *
  refine (V.one _ _ _ _ _ _ _ _ _ _ f0 f1).mono ?_
  rintro e w3 ⟨rfl, hb4⟩
  have hP4 := hid (hP.out.below hb4 hP.out.lt)
  have hI4 := hid (hI.out.below hb4 hI.out.lt)
  have hz4 := hid (hz3.out.below hb4 hz3.out.lt)
  have hbw4 := bel_step hbw0 hb4
  clear hP hI hz3 hbw0 hb4
  obtain ⟨pl, p0, p1, p2, p3, p4, p5⟩ := hP4.out
  obtain ⟨il, i0, i1, i2, i3, i4, ifr⟩ := hI4.out
  dsimp only
  iterate 14 (first | go_values | go_skip | go_guarded | go_step | go_upon)
  clear p0 p1 p2 p3 p4 p5 i0 i1 i2 i3 i4 ifr
  obtain ⟨hA, hT, hbF⟩ := after_zero hI4.out hz4.out (by omega) hbw4 (by omega) _ _ _ _ _
  generalize World.setCell _ ⟨pb + 1, 4, none⟩ _ = wf at *
  clear hP4 hI4 hz4
  obtain ⟨s1, c0, c1, c2, c3, c4, g0, g1, g2, g3, g4⟩ := hA
  obtain ⟨tl, t0, t1, t2, t3, t4, tf⟩ := hT
  have hN : Hid (opN x = pick [38, 0, 0, 0, 0, 0, 0, 0] (fld x 12 3)) := hid (opN_fence HC.out)
  have hp : Hid (pick [38, 0, 0, 0, 0, 0, 0, 0] (fld x 12 3) = 0 ∨ form (pick [38, 0, 0, 0, 0, 0, 0, 0] (fld x 12 3)) = 9) := hid (pick_form (l := [38, 0, 0, 0, 0, 0, 0, 0]) f0 f1 (f := 9) (by decide))
  go_wp2
  · have hz : (pick [38, 0, 0, 0, 0, 0, 0, 0] (fld x 12 3) == 0) = true := by assumption
    rw [beq_iff_eq] at hz
    refine bodyPost_ret (v := .tuple #[.agg #[.int .i64 0, .int .i64 0, .int .i64 0, .int .i64 0, .int .i32 0], .bool false]) (by simp [results, Try.results13, go_sem, t0, t1, t2, t3, t4]) rfl ⟨by rw [decV_none (hN.out.trans hz)], (by repeat' (first | (with_reducible exact Below.refl _ _) | (with_reducible assumption) | (with_reducible refine below_drewN ?_ _) | (with_reducible refine Below.alloc ?_ ?_ _) | (with_reducible refine Below.drew ?_) | (with_reducible refine Below.setCell ?_ ?_ _) | (with_reducible exact Below.size (by assumption)) | go_size))⟩
  · have hz : (pick [38, 0, 0, 0, 0, 0, 0, 0] (fld x 12 3) == 0) = false := by assumption
    rw [beq_eq_false_iff_ne] at hz
    refine bodyPost_ret (v := .tuple #[.agg #[.int .i64 (pick [38, 0, 0, 0, 0, 0, 0, 0] (fld x 12 3)), .int .i64 0, .int .i64 0, .int .i64 0, .int .i32 0], .bool true]) (by simp [results, Try.results13, go_sem, t0, t1, t2, t3, t4]) rfl ⟨by rw [decV_some hN.out hz (hp.out.resolve_left hz)]; rfl, (by repeat' (first | (with_reducible exact Below.refl _ _) | (with_reducible assumption) | (with_reducible refine below_drewN ?_ _) | (with_reducible refine Below.alloc ?_ ?_ _) | (with_reducible refine Below.drew ?_) | (with_reducible refine Below.setCell ?_ ?_ _) | (with_reducible exact Below.size (by assumption)) | go_size))⟩

theorem bareOp_form (x : Int) : bareOp x = 0 ∨ form (bareOp x) = 9 := by
  unfold bareOp
  split
  · exact .inr (by decide)
  · split
    · exact .inr (by decide)
    · exact .inl rfl

set_option maxHeartbeats 1000000 in
theorem Dec_bare (x : Int) (w00 : World) (h0 : 0 ≤ x) (h1 : x < 4294967296) (hc : x % 128 = 115) :
    Calls Try.prog 13 #[.int .u32 x] w00 fun e w' => e = .returned (decV x) ∧ Below w00.heap.size w00 w' := by
  obtain ⟨f0, f1⟩ := f3_bd x
  have hb := and127 x 115 h0 h1 hc
  have HC := hid hc
  clear hc
  go_enter Try.func13, Try.ntmps13
  go_wp2_with fail
  have hz0 := Zero.new w00 25
  have hb0 : Below w00.heap.size w00 (w00.alloc (.cells #[.int .i64 0, .int .i64 0, .int .i64 0, .int .i64 0, .int .i32 0] 25)) := (Below.refl _ _).alloc (Nat.le_refl _) _
  generalize w00.alloc (.cells #[.int .i64 0, .int .i64 0, .int .i64 0, .int .i64 0, .int .i32 0] 25) = w1 at *
  refine (V.cut _ _ h0 h1).mono ?_
  rintro e w2 ⟨rfl, hb2⟩
  have hz2 := hz0.below hb2 hz0.lt
  have hb2' := bel_step hb0 hb2
  clear hz0 hb0 hb2 w1
  have hP0 := Parts.new w2 48 x
  have hI0 := Zero.new (w2.alloc (.cells #[.int .u32 x, .int .i64 (fld x 7 5), .int .i64 (fld x 12 3), .int .i64 (fld x 15 5), .int .i64 (fld x 20 5), .int .u32 (fld x 25 7)] 48)) 25
  rw [World.size_alloc] at hI0
  have hq := Parts.below hP0 ((Below.refl _ _).alloc (Nat.le_refl _) (.cells #[.int .i64 0, .int .i64 0, .int .i64 0, .int .i64 0, .int .i32 0] 25)) hP0.lt
  have hb3 : Below w2.heap.size w2 ((w2.alloc (.cells #[.int .u32 x, .int .i64 (fld x 7 5), .int .i64 (fld x 12 3), .int .i64 (fld x 15 5), .int .i64 (fld x 20 5), .int .u32 (fld x 25 7)] 48)).alloc (.cells #[.int .i64 0, .int .i64 0, .int .i64 0, .int .i64 0, .int .i32 0] 25)) := ((Below.refl _ _).alloc (Nat.le_refl _) _).alloc (by simp) _
  have hz3 := hid (hz2.below hb3 hz2.lt)
  have hbw0 := bel_step hb2' hb3
  have hlt : w00.heap.size < w2.heap.size := hz2.lt
  have hP := hid hq
  have hI := hid hI0
  clear hz2 hq hb2' hb3 hP0 hI0
  go_wp2_with fail
  generalize (w2.alloc (.cells #[.int .u32 x, .int .i64 (fld x 7 5), .int .i64 (fld x 12 3), .int .i64 (fld x 15 5), .int .i64 (fld x 20 5), .int .u32 (fld x 25 7)] 48)).alloc (.cells #[.int .i64 0, .int .i64 0, .int .i64 0, .int .i64 0, .int .i32 0] 25) = w at *
  generalize w2.heap.size = pb at *
  refine (V.bare _ _ _ _ _ _ _).mono ?_
  rintro e w3 ⟨rfl, hb4⟩
  have hP4 := hid (hP.out.below hb4 hP.out.lt)
  have hI4 := hid (hI.out.below hb4 hI.out.lt)
  have hz4 := hid (hz3.out.below hb4 hz3.out.lt)
  have hbw4 := bel_step hbw0 hb4
  clear hP hI hz3 hbw0 hb4
  obtain ⟨pl, p0, p1, p2, p3, p4, p5⟩ := hP4.out
  obtain ⟨il, i0, i1, i2, i3, i4, ifr⟩ := hI4.out
  dsimp only
  iterate 14 (first | go_values | go_skip | go_guarded | go_step | go_upon)
  clear p0 p1 p2 p3 p4 p5 i0 i1 i2 i3 i4 ifr
  obtain ⟨hA, hT, hbF⟩ := after_zero hI4.out hz4.out (by omega) hbw4 (by omega) _ _ _ _ _
  generalize World.setCell _ ⟨pb + 1, 4, none⟩ _ = wf at *
  clear hP4 hI4 hz4
  obtain ⟨s1, c0, c1, c2, c3, c4, g0, g1, g2, g3, g4⟩ := hA
  obtain ⟨tl, t0, t1, t2, t3, t4, tf⟩ := hT
  have hN : Hid (opN x = bareOp x) := hid (opN_bare HC.out)
  have hp : Hid (bareOp x = 0 ∨ form (bareOp x) = 9) := hid (bareOp_form x)
  go_wp2
  · have hz : (bareOp x == 0) = true := by assumption
    rw [beq_iff_eq] at hz
    refine bodyPost_ret (v := .tuple #[.agg #[.int .i64 0, .int .i64 0, .int .i64 0, .int .i64 0, .int .i32 0], .bool false]) (by simp [results, Try.results13, go_sem, t0, t1, t2, t3, t4]) rfl ⟨by rw [decV_none (hN.out.trans hz)], (by repeat' (first | (with_reducible exact Below.refl _ _) | (with_reducible assumption) | (with_reducible refine below_drewN ?_ _) | (with_reducible refine Below.alloc ?_ ?_ _) | (with_reducible refine Below.drew ?_) | (with_reducible refine Below.setCell ?_ ?_ _) | (with_reducible exact Below.size (by assumption)) | go_size))⟩
  · have hz : (bareOp x == 0) = false := by assumption
    rw [beq_eq_false_iff_ne] at hz
    refine bodyPost_ret (v := .tuple #[.agg #[.int .i64 (bareOp x), .int .i64 0, .int .i64 0, .int .i64 0, .int .i32 0], .bool true]) (by simp [results, Try.results13, go_sem, t0, t1, t2, t3, t4]) rfl ⟨by rw [decV_some hN.out hz (hp.out.resolve_left hz)]; rfl, (by repeat' (first | (with_reducible exact Below.refl _ _) | (with_reducible assumption) | (with_reducible refine below_drewN ?_ _) | (with_reducible refine Below.alloc ?_ ?_ _) | (with_reducible refine Below.drew ?_) | (with_reducible refine Below.setCell ?_ ?_ _) | (with_reducible exact Below.size (by assumption)) | go_size))⟩

set_option maxHeartbeats 1000000 in
theorem Dec_else (x : Int) (w00 : World) (h0 : 0 ≤ x) (h1 : x < 4294967296) (hc : x % 128 ≠ 55 ∧ x % 128 ≠ 23 ∧ x % 128 ≠ 111 ∧ x % 128 ≠ 103 ∧ x % 128 ≠ 3 ∧ x % 128 ≠ 99 ∧ x % 128 ≠ 35 ∧ x % 128 ≠ 19 ∧ x % 128 ≠ 51 ∧ x % 128 ≠ 15 ∧ x % 128 ≠ 115) :
    Calls Try.prog 13 #[.int .u32 x] w00 fun e w' => e = .returned (decV x) ∧ Below w00.heap.size w00 w' := by
  obtain ⟨f0, f1⟩ := f3_bd x
  have hN := hid (opN_else hc)
  obtain ⟨n1, n2, n3, n4, n5, n6, n7, n8, n9, n10, n11⟩ := hc
  obtain ⟨c, hc⟩ : ∃ c, x % 128 = c := ⟨_, rfl⟩
  rw [hc] at n1 n2 n3 n4 n5 n6 n7 n8 n9 n10 n11
  have hb := and127 x c h0 h1 hc
  have m1 := beq_eq_false_iff_ne.2 n1
  have m2 := beq_eq_false_iff_ne.2 n2
  have m3 := beq_eq_false_iff_ne.2 n3
  have m4 := beq_eq_false_iff_ne.2 n4
  have m5 := beq_eq_false_iff_ne.2 n5
  have m6 := beq_eq_false_iff_ne.2 n6
  have m7 := beq_eq_false_iff_ne.2 n7
  have m8 := beq_eq_false_iff_ne.2 n8
  have m9 := beq_eq_false_iff_ne.2 n9
  have m10 := beq_eq_false_iff_ne.2 n10
  have m11 := beq_eq_false_iff_ne.2 n11
  clear n1 n2 n3 n4 n5 n6 n7 n8 n9 n10 n11 hc
  go_enter Try.func13, Try.ntmps13
  go_wp2_with fail
  have hz0 := Zero.new w00 25
  have hb0 : Below w00.heap.size w00 (w00.alloc (.cells #[.int .i64 0, .int .i64 0, .int .i64 0, .int .i64 0, .int .i32 0] 25)) := (Below.refl _ _).alloc (Nat.le_refl _) _
  generalize w00.alloc (.cells #[.int .i64 0, .int .i64 0, .int .i64 0, .int .i64 0, .int .i32 0] 25) = w1 at *
  refine (V.cut _ _ h0 h1).mono ?_
  rintro e w2 ⟨rfl, hb2⟩
  have hz2 := hz0.below hb2 hz0.lt
  have hb2' := bel_step hb0 hb2
  clear hz0 hb0 hb2 w1
  have hP0 := Parts.new w2 48 x
  have hI0 := Zero.new (w2.alloc (.cells #[.int .u32 x, .int .i64 (fld x 7 5), .int .i64 (fld x 12 3), .int .i64 (fld x 15 5), .int .i64 (fld x 20 5), .int .u32 (fld x 25 7)] 48)) 25
  rw [World.size_alloc] at hI0
  have hq := Parts.below hP0 ((Below.refl _ _).alloc (Nat.le_refl _) (.cells #[.int .i64 0, .int .i64 0, .int .i64 0, .int .i64 0, .int .i32 0] 25)) hP0.lt
  have hb3 : Below w2.heap.size w2 ((w2.alloc (.cells #[.int .u32 x, .int .i64 (fld x 7 5), .int .i64 (fld x 12 3), .int .i64 (fld x 15 5), .int .i64 (fld x 20 5), .int .u32 (fld x 25 7)] 48)).alloc (.cells #[.int .i64 0, .int .i64 0, .int .i64 0, .int .i64 0, .int .i32 0] 25)) := ((Below.refl _ _).alloc (Nat.le_refl _) _).alloc (by simp) _
  have hz3 := hid (hz2.below hb3 hz2.lt)
  have hbw0 := bel_step hb2' hb3
  have hlt : w00.heap.size < w2.heap.size := hz2.lt
  have hP := hid hq
  have hI := hid hI0
  clear hz2 hq hb2' hb3 hP0 hI0
  dsimp only
  iterate 26 (first | go_values | go_skip | go_guarded | go_step | go_upon)
  generalize (w2.alloc (.cells #[.int .u32 x, .int .i64 (fld x 7 5), .int .i64 (fld x 12 3), .int .i64 (fld x 15 5), .int .i64 (fld x 20 5), .int .u32 (fld x 25 7)] 48)).alloc (.cells #[.int .i64 0, .int .i64 0, .int .i64 0, .int .i64 0, .int .i32 0] 25) = w at *
  generalize w2.heap.size = pb at *
  obtain ⟨tl, t0, t1, t2, t3, t4, tf⟩ := hz3.out
  obtain ⟨il, i0, i1, i2, i3, i4, ifr⟩ := hI.out
  clear hP hI hz3
  go_wp2
  refine bodyPost_ret (v := .tuple #[.agg #[.int .i64 0, .int .i64 0, .int .i64 0, .int .i64 0, .int .i32 0], .bool false]) (by simp [results, Try.results13, go_sem, t0, t1, t2, t3, t4]) rfl ⟨by rw [decV_none hN.out], (by repeat' (first | (with_reducible exact Below.refl _ _) | (with_reducible assumption) | (with_reducible refine below_drewN ?_ _) | (with_reducible refine Below.alloc ?_ ?_ _) | (with_reducible refine Below.drew ?_) | (with_reducible refine Below.setCell ?_ ?_ _) | (with_reducible exact Below.size (by assumption)) | go_size))⟩

theorem shift_form {x : Int} (h : fld x 12 3 = 1 ∨ fld x 12 3 = 5) : numOp (fld x 12 3) (fld x 25 7) = 0 ∨ form (numOp (fld x 12 3) (fld x 25 7)) = 7 := by
  unfold numOp
  split
  · exact .inr (by decide)
  · split
    · exact .inl rfl
    · rcases h with h | h <;> rw [h] <;> exact .inr (by decide)
set_option maxHeartbeats 1000000 in
theorem Dec_shift (x : Int) (w00 : World) (h0 : 0 ≤ x) (h1 : x < 4294967296) (hc : x % 128 = 19) (hs : fld x 12 3 = 1 ∨ fld x 12 3 = 5) :
    Calls Try.prog 13 #[.int .u32 x] w00 fun e w' => e = .returned (decV x) ∧ Below w00.heap.size w00 w' := by
  obtain ⟨f0, f1⟩ := f3_bd x
  have hb := and127 x 19 h0 h1 hc
  have HC := hid hc
  clear hc
  have hsh : numSh (fld x 12 3) = true := by simp [numSh, hs]
  have hs := hid hs
  go_enter Try.func13, Try.ntmps13
  go_wp2_with fail
  have hz0 := Zero.new w00 25
  have hb0 : Below w00.heap.size w00 (w00.alloc (.cells #[.int .i64 0, .int .i64 0, .int .i64 0, .int .i64 0, .int .i32 0] 25)) := (Below.refl _ _).alloc (Nat.le_refl _) _
  generalize w00.alloc (.cells #[.int .i64 0, .int .i64 0, .int .i64 0, .int .i64 0, .int .i32 0] 25) = w1 at *
  refine (V.cut _ _ h0 h1).mono ?_
  rintro e w2 ⟨rfl, hb2⟩
  have hz2 := hz0.below hb2 hz0.lt
  have hb2' := bel_step hb0 hb2
  clear hz0 hb0 hb2 w1
  have hP0 := Parts.new w2 48 x
  have hI0 := Zero.new (w2.alloc (.cells #[.int .u32 x, .int .i64 (fld x 7 5), .int .i64 (fld x 12 3), .int .i64 (fld x 15 5), .int .i64 (fld x 20 5), .int .u32 (fld x 25 7)] 48)) 25
  rw [World.size_alloc] at hI0
  have hq := Parts.below hP0 ((Below.refl _ _).alloc (Nat.le_refl _) (.cells #[.int .i64 0, .int .i64 0, .int .i64 0, .int .i64 0, .int .i32 0] 25)) hP0.lt
  have hb3 : Below w2.heap.size w2 ((w2.alloc (.cells #[.int .u32 x, .int .i64 (fld x 7 5), .int .i64 (fld x 12 3), .int .i64 (fld x 15 5), .int .i64 (fld x 20 5), .int .u32 (fld x 25 7)] 48)).alloc (.cells #[.int .i64 0, .int .i64 0, .int .i64 0, .int .i64 0, .int .i32 0] 25)) := ((Below.refl _ _).alloc (Nat.le_refl _) _).alloc (by simp) _
  have hz3 := hid (hz2.below hb3 hz2.lt)
  have hbw0 := bel_step hb2' hb3
  have hlt : w00.heap.size < w2.heap.size := hz2.lt
  have hP := hid hq
  have hI := hid hI0
  clear hz2 hq hb2' hb3 hP0 hI0
  go_wp2_with fail
  generalize (w2.alloc (.cells #[.int .u32 x, .int .i64 (fld x 7 5), .int .i64 (fld x 12 3), .int .i64 (fld x 15 5), .int .i64 (fld x 20 5), .int .u32 (fld x 25 7)] 48)).alloc (.cells #[.int .i64 0, .int .i64 0, .int .i64 0, .int .i64 0, .int .i32 0] 25) = w at *
  generalize w2.heap.size = pb at *
  refine (V.number _ _ _ _ _ _ _ f0 f1).mono ?_
  rintro e w3 ⟨rfl, hb4⟩
  have hP4 := hid (hP.out.below hb4 hP.out.lt)
  have hI4 := hid (hI.out.below hb4 hI.out.lt)
  have hz4 := hid (hz3.out.below hb4 hz3.out.lt)
  have hbw4 := bel_step hbw0 hb4
  clear hP hI hz3 hbw0 hb4
  have hP := hP4
  have hI := hI4
  have hz3 := hz4
  have hbw0 := hbw4
  clear hP4 hI4 hz4 hbw4
  clear w
  generalize w3 = w at *
  go_wp2_with fail
  obtain ⟨pl, p0, p1, p2, p3, p4, p5⟩ := hP.out
  obtain ⟨il, i0, i1, i2, i3, i4, ifr⟩ := hI.out
  clear hP hI
  go_region_held3 (fun W => pb + 1 < W.heap.size ∧ pb < W.heap.size ∧ W.cell? ⟨pb, 0, none⟩ = some (.int .u32 x) ∧ W.cell? ⟨pb, 1, none⟩ = some (.int .i64 (fld x 7 5)) ∧ W.cell? ⟨pb, 2, none⟩ = some (.int .i64 (fld x 12 3)) ∧ W.cell? ⟨pb, 3, none⟩ = some (.int .i64 (fld x 15 5)) ∧ W.cell? ⟨pb, 4, none⟩ = some (.int .i64 (fld x 20 5)) ∧ W.cell? ⟨pb, 5, none⟩ = some (.int .u32 (fld x 25 7)) ∧ W.cell? ⟨pb + 1, 0, none⟩ = some (cellv W ⟨pb + 1, 0, none⟩) ∧ W.cell? ⟨pb + 1, 1, none⟩ = some (cellv W ⟨pb + 1, 1, none⟩) ∧ W.cell? ⟨pb + 1, 2, none⟩ = some (cellv W ⟨pb + 1, 2, none⟩) ∧ W.cell? ⟨pb + 1, 3, none⟩ = some (cellv W ⟨pb + 1, 3, none⟩) ∧ W.cell? ⟨pb + 1, 4, none⟩ = some (cellv W ⟨pb + 1, 4, none⟩) ∧ W.frozen? ⟨pb + 1, 0, none⟩ = false ∧ W.frozen? ⟨pb + 1, 1, none⟩ = false ∧ W.frozen? ⟨pb + 1, 2, none⟩ = false ∧ W.frozen? ⟨pb + 1, 3, none⟩ = false ∧ W.frozen? ⟨pb + 1, 4, none⟩ = false) (((repeat' (refine And.intro ?_ ?_)) <;> (first | omega | (go_simp; done) | (refine cell_is ?_; go_simp; done) | (rw [hcel _ _ (by first | omega | (simp; omega))]; go_simp; done) | (rw [hfro _ _ (by first | omega | (simp; omega))]; go_simp; done) | (simp [*]; done)))) ((first | (go_at_call 16; refine (V.ImmI _ _ (by omega) (by omega)).mono ?_; rintro e w' ⟨rfl, hbel⟩; (try (with_reducible replace hbel := bel_undrew hbel)); (try (with_reducible replace hbel := bel_undrewN hbel)); have hbw := bel_step (w := w) (by repeat' (first | (with_reducible exact Below.refl _ _) | (with_reducible assumption) | (with_reducible refine below_drewN ?_ _) | (with_reducible refine Below.alloc ?_ ?_ _) | (with_reducible refine Below.drew ?_) | (with_reducible refine Below.setCell ?_ ?_ _) | (with_reducible exact Below.size (by assumption)) | go_size)) hbel; have hsw := hbw.size; have hsb := hbel.size; (try simp at hsb); (try (refine lay (p := w.heap.size < w'.heap.size) ?_ ?_; rotate_left; intro hq0; rotate_left; omega)); (try (refine lay (p := w.heap.size + 1 < w'.heap.size) ?_ ?_; rotate_left; intro hq1; rotate_left; omega)); (try (refine lay (p := w.heap.size + 2 < w'.heap.size) ?_ ?_; rotate_left; intro hq2; rotate_left; omega)); (try (refine lay (p := w.heap.size + 3 < w'.heap.size) ?_ ?_; rotate_left; intro hq3; rotate_left; omega)); (try (refine lay (p := w.heap.size + 4 < w'.heap.size) ?_ ?_; rotate_left; intro hq4; rotate_left; omega)); (try (refine lay (p := w.heap.size + 5 < w'.heap.size) ?_ ?_; rotate_left; intro hq5; rotate_left; omega)); obtain ⟨hcel, hfro⟩ := bcell hbel; clear hbel)))
  clear p0 p1 p2 p3 p4 p5 i0 i1 i2 i3 i4 ifr
  rename _ < _ ∧ _ => hH
  obtain ⟨s1, s2, q0, q1, q2, q3, q4, q5, e0, e1, e2, e3, e4, g0, g1, g2, g3, g4⟩ := hH
  have hPq := Parts.mk s2 q0 q1 q2 q3 q4 q5
  obtain ⟨hA, hT, hbF⟩ := after (hz3.out.below hbw hz3.out.lt) (b := pb + 1) (by omega) (bel_step hbw0 hbw) (by omega) s1 e0 e1 e2 e3 e4 g0 g1 g2 g3 g4
  clear s1 s2 q0 q1 q2 q3 q4 q5 e0 e1 e2 e3 e4 g0 g1 g2 g3 g4
  generalize World.setCell _ ⟨pb + 1, 4, none⟩ _ = wf at *
  have hPx := hid hPq
  have hAx := hid hA
  have hTx := hid hT
  obtain ⟨r0, r1⟩ := r5_bd x 20
  obtain ⟨pl, p0, p1, p2, p3, p4, p5⟩ := hPq
  obtain ⟨s1, c0, c1, c2, c3, c4, g0, g1, g2, g3, g4⟩ := hA
  clear hT
  iterate 34 (first | go_values | go_skip | go_guarded | go_step | go_upon)
  clear pl p0 p1 p2 p3 p4 p5 s1 c0 c1 c2 c3 c4 g0 g1 g2 g3 g4
  have hA := hAx.out.last (.int .i32 (fld x 20 5))
  have hT := hTx.out.last (b := pb + 1) (by omega) (.int .i32 (fld x 20 5))
  have hbF2 := hbF.setCell (p := ⟨pb + 1, 4, none⟩) (show w00.heap.size ≤ pb + 1 by omega) (.int .i32 (fld x 20 5))
  clear hPx hAx hTx hbF
  generalize World.setCell _ ⟨pb + 1, 4, none⟩ _ = wf2 at *
  obtain ⟨s1, c0, c1, c2, c3, c4, g0, g1, g2, g3, g4⟩ := hA
  obtain ⟨tl, t0, t1, t2, t3, t4, tf⟩ := hT
  have hN : Hid (opN x = numOp (fld x 12 3) (fld x 25 7)) := hid (opN_number HC.out)
  have hp : Hid (numOp (fld x 12 3) (fld x 25 7) = 0 ∨ form (numOp (fld x 12 3) (fld x 25 7)) = 7) := hid (shift_form hs.out)
  go_wp2
  · have hz : (numOp (fld x 12 3) (fld x 25 7) == 0) = true := by assumption
    rw [beq_iff_eq] at hz
    refine bodyPost_ret (v := .tuple #[.agg #[.int .i64 0, .int .i64 0, .int .i64 0, .int .i64 0, .int .i32 0], .bool false]) (by simp [results, Try.results13, go_sem, t0, t1, t2, t3, t4]) rfl ⟨by rw [decV_none (hN.out.trans hz)], (by repeat' (first | (with_reducible exact Below.refl _ _) | (with_reducible assumption) | (with_reducible refine below_drewN ?_ _) | (with_reducible refine Below.alloc ?_ ?_ _) | (with_reducible refine Below.drew ?_) | (with_reducible refine Below.setCell ?_ ?_ _) | (with_reducible exact Below.size (by assumption)) | go_size))⟩
  · have hz : (numOp (fld x 12 3) (fld x 25 7) == 0) = false := by assumption
    rw [beq_eq_false_iff_ne] at hz
    refine bodyPost_ret (v := .tuple #[.agg #[.int .i64 (numOp (fld x 12 3) (fld x 25 7)), .int .i64 (fld x 7 5), .int .i64 (fld x 15 5), .int .i64 0, .int .i32 (fld x 20 5)], .bool true]) (by simp [results, Try.results13, go_sem, t0, t1, t2, t3, t4]) rfl ⟨by rw [decV_some hN.out hz (hp.out.resolve_left hz)]; rfl, (by repeat' (first | (with_reducible exact Below.refl _ _) | (with_reducible assumption) | (with_reducible refine below_drewN ?_ _) | (with_reducible refine Below.alloc ?_ ?_ _) | (with_reducible refine Below.drew ?_) | (with_reducible refine Below.setCell ?_ ?_ _) | (with_reducible exact Below.size (by assumption)) | go_size))⟩

theorem num_form {x : Int} (h : ¬ (fld x 12 3 = 1 ∨ fld x 12 3 = 5)) : numOp (fld x 12 3) (fld x 25 7) = 0 ∨ form (numOp (fld x 12 3) (fld x 25 7)) = 6 := by
  obtain ⟨f0, f1⟩ := f3_bd x
  unfold numOp
  rw [if_neg (by omega), if_neg (by omega)]
  generalize fld x 12 3 = k at *
  have : k = 0 ∨ k = 2 ∨ k = 3 ∨ k = 4 ∨ k = 6 ∨ k = 7 := by omega
  rcases this with rfl | rfl | rfl | rfl | rfl | rfl <;> exact .inr (by decide)
set_option maxHeartbeats 1000000 in
theorem Dec_number (x : Int) (w00 : World) (h0 : 0 ≤ x) (h1 : x < 4294967296) (hc : x % 128 = 19) (hs : ¬ (fld x 12 3 = 1 ∨ fld x 12 3 = 5)) :
    Calls Try.prog 13 #[.int .u32 x] w00 fun e w' => e = .returned (decV x) ∧ Below w00.heap.size w00 w' := by
  obtain ⟨f0, f1⟩ := f3_bd x
  have hb := and127 x 19 h0 h1 hc
  have HC := hid hc
  clear hc
  have hsh : numSh (fld x 12 3) = false := by simp [numSh]; omega
  have hs := hid hs
  go_enter Try.func13, Try.ntmps13
  go_wp2_with fail
  have hz0 := Zero.new w00 25
  have hb0 : Below w00.heap.size w00 (w00.alloc (.cells #[.int .i64 0, .int .i64 0, .int .i64 0, .int .i64 0, .int .i32 0] 25)) := (Below.refl _ _).alloc (Nat.le_refl _) _
  generalize w00.alloc (.cells #[.int .i64 0, .int .i64 0, .int .i64 0, .int .i64 0, .int .i32 0] 25) = w1 at *
  refine (V.cut _ _ h0 h1).mono ?_
  rintro e w2 ⟨rfl, hb2⟩
  have hz2 := hz0.below hb2 hz0.lt
  have hb2' := bel_step hb0 hb2
  clear hz0 hb0 hb2 w1
  have hP0 := Parts.new w2 48 x
  have hI0 := Zero.new (w2.alloc (.cells #[.int .u32 x, .int .i64 (fld x 7 5), .int .i64 (fld x 12 3), .int .i64 (fld x 15 5), .int .i64 (fld x 20 5), .int .u32 (fld x 25 7)] 48)) 25
  rw [World.size_alloc] at hI0
  have hq := Parts.below hP0 ((Below.refl _ _).alloc (Nat.le_refl _) (.cells #[.int .i64 0, .int .i64 0, .int .i64 0, .int .i64 0, .int .i32 0] 25)) hP0.lt
  have hb3 : Below w2.heap.size w2 ((w2.alloc (.cells #[.int .u32 x, .int .i64 (fld x 7 5), .int .i64 (fld x 12 3), .int .i64 (fld x 15 5), .int .i64 (fld x 20 5), .int .u32 (fld x 25 7)] 48)).alloc (.cells #[.int .i64 0, .int .i64 0, .int .i64 0, .int .i64 0, .int .i32 0] 25)) := ((Below.refl _ _).alloc (Nat.le_refl _) _).alloc (by simp) _
  have hz3 := hid (hz2.below hb3 hz2.lt)
  have hbw0 := bel_step hb2' hb3
  have hlt : w00.heap.size < w2.heap.size := hz2.lt
  have hP := hid hq
  have hI := hid hI0
  clear hz2 hq hb2' hb3 hP0 hI0
  go_wp2_with fail
  generalize (w2.alloc (.cells #[.int .u32 x, .int .i64 (fld x 7 5), .int .i64 (fld x 12 3), .int .i64 (fld x 15 5), .int .i64 (fld x 20 5), .int .u32 (fld x 25 7)] 48)).alloc (.cells #[.int .i64 0, .int .i64 0, .int .i64 0, .int .i64 0, .int .i32 0] 25) = w at *
  generalize w2.heap.size = pb at *
  refine (V.number _ _ _ _ _ _ _ f0 f1).mono ?_
  rintro e w3 ⟨rfl, hb4⟩
  have hP4 := hid (hP.out.below hb4 hP.out.lt)
  have hI4 := hid (hI.out.below hb4 hI.out.lt)
  have hz4 := hid (hz3.out.below hb4 hz3.out.lt)
  have hbw4 := bel_step hbw0 hb4
  clear hP hI hz3 hbw0 hb4
  have hP := hP4
  have hI := hI4
  have hz3 := hz4
  have hbw0 := hbw4
  clear hP4 hI4 hz4 hbw4
  clear w
  generalize w3 = w at *
  go_wp2_with fail
  obtain ⟨pl, p0, p1, p2, p3, p4, p5⟩ := hP.out
  obtain ⟨il, i0, i1, i2, i3, i4, ifr⟩ := hI.out
  clear hP hI
  go_region_held3 (fun W => pb + 1 < W.heap.size ∧ pb < W.heap.size ∧ W.cell? ⟨pb, 0, none⟩ = some (.int .u32 x) ∧ W.cell? ⟨pb, 1, none⟩ = some (.int .i64 (fld x 7 5)) ∧ W.cell? ⟨pb, 2, none⟩ = some (.int .i64 (fld x 12 3)) ∧ W.cell? ⟨pb, 3, none⟩ = some (.int .i64 (fld x 15 5)) ∧ W.cell? ⟨pb, 4, none⟩ = some (.int .i64 (fld x 20 5)) ∧ W.cell? ⟨pb, 5, none⟩ = some (.int .u32 (fld x 25 7)) ∧ W.cell? ⟨pb + 1, 0, none⟩ = some (cellv W ⟨pb + 1, 0, none⟩) ∧ W.cell? ⟨pb + 1, 1, none⟩ = some (cellv W ⟨pb + 1, 1, none⟩) ∧ W.cell? ⟨pb + 1, 2, none⟩ = some (cellv W ⟨pb + 1, 2, none⟩) ∧ W.cell? ⟨pb + 1, 3, none⟩ = some (cellv W ⟨pb + 1, 3, none⟩) ∧ W.cell? ⟨pb + 1, 4, none⟩ = some (cellv W ⟨pb + 1, 4, none⟩) ∧ W.frozen? ⟨pb + 1, 0, none⟩ = false ∧ W.frozen? ⟨pb + 1, 1, none⟩ = false ∧ W.frozen? ⟨pb + 1, 2, none⟩ = false ∧ W.frozen? ⟨pb + 1, 3, none⟩ = false ∧ W.frozen? ⟨pb + 1, 4, none⟩ = false) (((repeat' (refine And.intro ?_ ?_)) <;> (first | omega | (go_simp; done) | (refine cell_is ?_; go_simp; done) | (rw [hcel _ _ (by first | omega | (simp; omega))]; go_simp; done) | (rw [hfro _ _ (by first | omega | (simp; omega))]; go_simp; done) | (simp [*]; done)))) ((first | (go_at_call 16; refine (V.ImmI _ _ (by omega) (by omega)).mono ?_; rintro e w' ⟨rfl, hbel⟩; (try (with_reducible replace hbel := bel_undrew hbel)); (try (with_reducible replace hbel := bel_undrewN hbel)); have hbw := bel_step (w := w) (by repeat' (first | (with_reducible exact Below.refl _ _) | (with_reducible assumption) | (with_reducible refine below_drewN ?_ _) | (with_reducible refine Below.alloc ?_ ?_ _) | (with_reducible refine Below.drew ?_) | (with_reducible refine Below.setCell ?_ ?_ _) | (with_reducible exact Below.size (by assumption)) | go_size)) hbel; have hsw := hbw.size; have hsb := hbel.size; (try simp at hsb); (try (refine lay (p := w.heap.size < w'.heap.size) ?_ ?_; rotate_left; intro hq0; rotate_left; omega)); (try (refine lay (p := w.heap.size + 1 < w'.heap.size) ?_ ?_; rotate_left; intro hq1; rotate_left; omega)); (try (refine lay (p := w.heap.size + 2 < w'.heap.size) ?_ ?_; rotate_left; intro hq2; rotate_left; omega)); (try (refine lay (p := w.heap.size + 3 < w'.heap.size) ?_ ?_; rotate_left; intro hq3; rotate_left; omega)); (try (refine lay (p := w.heap.size + 4 < w'.heap.size) ?_ ?_; rotate_left; intro hq4; rotate_left; omega)); (try (refine lay (p := w.heap.size + 5 < w'.heap.size) ?_ ?_; rotate_left; intro hq5; rotate_left; omega)); obtain ⟨hcel, hfro⟩ := bcell hbel; clear hbel)))
  clear p0 p1 p2 p3 p4 p5 i0 i1 i2 i3 i4 ifr
  rename _ < _ ∧ _ => hH
  obtain ⟨s1, s2, q0, q1, q2, q3, q4, q5, e0, e1, e2, e3, e4, g0, g1, g2, g3, g4⟩ := hH
  have hPq := Parts.mk s2 q0 q1 q2 q3 q4 q5
  obtain ⟨hA, hT, hbF⟩ := after (hz3.out.below hbw hz3.out.lt) (b := pb + 1) (by omega) (bel_step hbw0 hbw) (by omega) s1 e0 e1 e2 e3 e4 g0 g1 g2 g3 g4
  clear s1 s2 q0 q1 q2 q3 q4 q5 e0 e1 e2 e3 e4 g0 g1 g2 g3 g4
  generalize World.setCell _ ⟨pb + 1, 4, none⟩ _ = wf at *
  clear hPq
  obtain ⟨s1, c0, c1, c2, c3, c4, g0, g1, g2, g3, g4⟩ := hA
  obtain ⟨tl, t0, t1, t2, t3, t4, tf⟩ := hT
  have hN : Hid (opN x = numOp (fld x 12 3) (fld x 25 7)) := hid (opN_number HC.out)
  have hp : Hid (numOp (fld x 12 3) (fld x 25 7) = 0 ∨ form (numOp (fld x 12 3) (fld x 25 7)) = 6) := hid (num_form hs.out)
  go_wp2
  · have hz : (numOp (fld x 12 3) (fld x 25 7) == 0) = true := by assumption
    rw [beq_iff_eq] at hz
    refine bodyPost_ret (v := .tuple #[.agg #[.int .i64 0, .int .i64 0, .int .i64 0, .int .i64 0, .int .i32 0], .bool false]) (by simp [results, Try.results13, go_sem, t0, t1, t2, t3, t4]) rfl ⟨by rw [decV_none (hN.out.trans hz)], (by repeat' (first | (with_reducible exact Below.refl _ _) | (with_reducible assumption) | (with_reducible refine below_drewN ?_ _) | (with_reducible refine Below.alloc ?_ ?_ _) | (with_reducible refine Below.drew ?_) | (with_reducible refine Below.setCell ?_ ?_ _) | (with_reducible exact Below.size (by assumption)) | go_size))⟩
  · have hz : (numOp (fld x 12 3) (fld x 25 7) == 0) = false := by assumption
    rw [beq_eq_false_iff_ne] at hz
    refine bodyPost_ret (v := .tuple #[.agg #[.int .i64 (numOp (fld x 12 3) (fld x 25 7)), .int .i64 (fld x 7 5), .int .i64 (fld x 15 5), .int .i64 0, .int .i32 (immI x)], .bool true]) (by simp [results, Try.results13, go_sem, t0, t1, t2, t3, t4]) rfl ⟨by rw [decV_some hN.out hz (hp.out.resolve_left hz)]; rfl, (by repeat' (first | (with_reducible exact Below.refl _ _) | (with_reducible assumption) | (with_reducible refine below_drewN ?_ _) | (with_reducible refine Below.alloc ?_ ?_ _) | (with_reducible refine Below.drew ?_) | (with_reducible refine Below.setCell ?_ ?_ _) | (with_reducible exact Below.size (by assumption)) | go_size))⟩

theorem Decode (x : Int) (w : World) (h0 : 0 ≤ x) (h1 : x < 4294967296) :
    Calls Try.prog 13 #[.int .u32 x] w fun e w' => e = .returned (decV x) ∧ Below w.heap.size w w' := by
  by_cases c1 : x % 128 = 55
  · exact Dec_lui x w h0 h1 c1
  by_cases c2 : x % 128 = 23
  · exact Dec_auipc x w h0 h1 c2
  by_cases c3 : x % 128 = 111
  · exact Dec_jal x w h0 h1 c3
  by_cases c4 : x % 128 = 103
  · exact Dec_jalr x w h0 h1 c4
  by_cases c5 : x % 128 = 3
  · exact Dec_load x w h0 h1 c5
  by_cases c6 : x % 128 = 99
  · exact Dec_branch x w h0 h1 c6
  by_cases c7 : x % 128 = 35
  · exact Dec_store x w h0 h1 c7
  by_cases c8 : x % 128 = 19
  · by_cases hs : fld x 12 3 = 1 ∨ fld x 12 3 = 5
    · exact Dec_shift x w h0 h1 c8 hs
    · exact Dec_number x w h0 h1 c8 hs
  by_cases c9 : x % 128 = 51
  · exact Dec_register x w h0 h1 c9
  by_cases c10 : x % 128 = 15
  · exact Dec_fence x w h0 h1 c10
  by_cases c11 : x % 128 = 115
  · exact Dec_bare x w h0 h1 c11
  · exact Dec_else x w h0 h1 ⟨c1, c2, c3, c4, c5, c6, c7, c8, c9, c10, c11⟩

end Go.Proofs.Ytplhoiokfjjcdaa.V
