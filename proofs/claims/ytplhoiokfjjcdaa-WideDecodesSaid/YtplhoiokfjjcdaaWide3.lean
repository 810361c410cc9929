/- What wide.Decode computes, by opcodes. -/
import Derived.Test.YtplhoiokfjjcdaaWide2
namespace Go.Proofs.Ytplhoiokfjjcdaa.V
set_option linter.unusedVariables false
open Go.ChangeShapes Go.WideShapes Go.ChangeAt Go.RowKit Go.Proofs.Ytplhoiokfjjcdaa.P Go.Proofs.Ytplhoiokfjjcdaa.W

theorem and127 (x c : Int) (h0 : 0 ≤ x) (h1 : x < 4294967296) (hc : x % 128 = c) : bits .and .u32 x 127 = c := by
  have := and_maskI x 7 h0 h1 (by decide)
  have e : (2 : Int) ^ 7 = 128 := by decide
  rw [e] at this
  exact this.trans hc

/-- what is known of a world with the cells of an instruction that is 0 -/
structure Zero (w : World) (b : Nat) : Prop where
  lt : b < w.heap.size
  c0 : w.cell? ⟨b, 0, none⟩ = some (.int .i64 0)
  c1 : w.cell? ⟨b, 1, none⟩ = some (.int .i64 0)
  c2 : w.cell? ⟨b, 2, none⟩ = some (.int .i64 0)
  c3 : w.cell? ⟨b, 3, none⟩ = some (.int .i64 0)
  c4 : w.cell? ⟨b, 4, none⟩ = some (.int .i32 0)
  f : ∀ j, w.frozen? ⟨b, j, none⟩ = false
theorem Zero.new (w : World) (t : TypeId) : Zero (w.alloc (.cells #[.int .i64 0, .int .i64 0, .int .i64 0, .int .i64 0, .int .i32 0] t)) w.heap.size :=
  ⟨by simp, by simp, by simp, by simp, by simp, by simp, fun j => by rw [frozen?_alloc_cells]; simp [World.frozen?]⟩
theorem Zero.below {w w' : World} {b B : Nat} (h : Zero w b) (hb : Below B w w') (hB : b < B) : Zero w' b :=
  ⟨Nat.lt_of_lt_of_le h.lt hb.size, (hb.cell (p := ⟨b, 0, none⟩) hB).trans h.c0, (hb.cell (p := ⟨b, 1, none⟩) hB).trans h.c1, (hb.cell (p := ⟨b, 2, none⟩) hB).trans h.c2,
   (hb.cell (p := ⟨b, 3, none⟩) hB).trans h.c3, (hb.cell (p := ⟨b, 4, none⟩) hB).trans h.c4, fun j => (hb.frozen (p := ⟨b, j, none⟩) hB).trans (h.f j)⟩
/-- .. with the cells of a word's parts -/
structure Parts (w : World) (b : Nat) (x : Int) : Prop where
  lt : b < w.heap.size
  c0 : w.cell? ⟨b, 0, none⟩ = some (.int .u32 x)
  c1 : w.cell? ⟨b, 1, none⟩ = some (.int .i64 (fld x 7 5))
  c2 : w.cell? ⟨b, 2, none⟩ = some (.int .i64 (fld x 12 3))
  c3 : w.cell? ⟨b, 3, none⟩ = some (.int .i64 (fld x 15 5))
  c4 : w.cell? ⟨b, 4, none⟩ = some (.int .i64 (fld x 20 5))
  c5 : w.cell? ⟨b, 5, none⟩ = some (.int .u32 (fld x 25 7))
theorem Parts.new (w : World) (t : TypeId) (x : Int) : Parts (w.alloc (.cells #[.int .u32 x, .int .i64 (fld x 7 5), .int .i64 (fld x 12 3), .int .i64 (fld x 15 5), .int .i64 (fld x 20 5), .int .u32 (fld x 25 7)] t)) w.heap.size x :=
  ⟨by simp, by simp, by simp, by simp, by simp, by simp, by simp⟩
theorem Parts.below {w w' : World} {b B : Nat} {x : Int} (h : Parts w b x) (hb : Below B w w') (hB : b < B) : Parts w' b x :=
  ⟨Nat.lt_of_lt_of_le h.lt hb.size, (hb.cell (p := ⟨b, 0, none⟩) hB).trans h.c0, (hb.cell (p := ⟨b, 1, none⟩) hB).trans h.c1, (hb.cell (p := ⟨b, 2, none⟩) hB).trans h.c2,
   (hb.cell (p := ⟨b, 3, none⟩) hB).trans h.c3, (hb.cell (p := ⟨b, 4, none⟩) hB).trans h.c4, (hb.cell (p := ⟨b, 5, none⟩) hB).trans h.c5⟩

theorem Zero.far {w : World} {b c : Nat} (h : Zero w c) (hne : b ≠ c) (v0 v1 v2 v3 v4 : Value) :
    Zero (((((w.setCell ⟨b, 0, none⟩ v0).setCell ⟨b, 1, none⟩ v1).setCell ⟨b, 2, none⟩ v2).setCell ⟨b, 3, none⟩ v3).setCell ⟨b, 4, none⟩ v4) c :=
  ⟨by simpa using h.lt, (far_five hne v0 v1 v2 v3 v4 0).1.trans h.c0, (far_five hne v0 v1 v2 v3 v4 1).1.trans h.c1, (far_five hne v0 v1 v2 v3 v4 2).1.trans h.c2,
   (far_five hne v0 v1 v2 v3 v4 3).1.trans h.c3, (far_five hne v0 v1 v2 v3 v4 4).1.trans h.c4, fun j => (far_five hne v0 v1 v2 v3 v4 j).2.trans (h.f j)⟩

/-- .. with the cells of an instruction -/
structure Five (w : World) (b : Nat) (v0 v1 v2 v3 v4 : Value) : Prop where
  lt : b < w.heap.size
  c0 : w.cell? ⟨b, 0, none⟩ = some v0
  c1 : w.cell? ⟨b, 1, none⟩ = some v1
  c2 : w.cell? ⟨b, 2, none⟩ = some v2
  c3 : w.cell? ⟨b, 3, none⟩ = some v3
  c4 : w.cell? ⟨b, 4, none⟩ = some v4
  f0 : w.frozen? ⟨b, 0, none⟩ = false
  f1 : w.frozen? ⟨b, 1, none⟩ = false
  f2 : w.frozen? ⟨b, 2, none⟩ = false
  f3 : w.frozen? ⟨b, 3, none⟩ = false
  f4 : w.frozen? ⟨b, 4, none⟩ = false
/-- behind a region that ends with the store of an instruction -/
theorem after {w0 w : World} {b c : Nat} {v0 v1 v2 v3 v4 u0 u1 u2 u3 u4 : Value} {B : Nat} (hz : Zero w c) (hne : b ≠ c) (hb : Below B w0 w) (hB : B ≤ b)
    (hs : b < (((((w.setCell ⟨b, 0, none⟩ v0).setCell ⟨b, 1, none⟩ v1).setCell ⟨b, 2, none⟩ v2).setCell ⟨b, 3, none⟩ v3).setCell ⟨b, 4, none⟩ v4).heap.size)
    (e0 : (((((w.setCell ⟨b, 0, none⟩ v0).setCell ⟨b, 1, none⟩ v1).setCell ⟨b, 2, none⟩ v2).setCell ⟨b, 3, none⟩ v3).setCell ⟨b, 4, none⟩ v4).cell? ⟨b, 0, none⟩ = some u0)
    (e1 : (((((w.setCell ⟨b, 0, none⟩ v0).setCell ⟨b, 1, none⟩ v1).setCell ⟨b, 2, none⟩ v2).setCell ⟨b, 3, none⟩ v3).setCell ⟨b, 4, none⟩ v4).cell? ⟨b, 1, none⟩ = some u1)
    (e2 : (((((w.setCell ⟨b, 0, none⟩ v0).setCell ⟨b, 1, none⟩ v1).setCell ⟨b, 2, none⟩ v2).setCell ⟨b, 3, none⟩ v3).setCell ⟨b, 4, none⟩ v4).cell? ⟨b, 2, none⟩ = some u2)
    (e3 : (((((w.setCell ⟨b, 0, none⟩ v0).setCell ⟨b, 1, none⟩ v1).setCell ⟨b, 2, none⟩ v2).setCell ⟨b, 3, none⟩ v3).setCell ⟨b, 4, none⟩ v4).cell? ⟨b, 3, none⟩ = some u3)
    (e4 : (((((w.setCell ⟨b, 0, none⟩ v0).setCell ⟨b, 1, none⟩ v1).setCell ⟨b, 2, none⟩ v2).setCell ⟨b, 3, none⟩ v3).setCell ⟨b, 4, none⟩ v4).cell? ⟨b, 4, none⟩ = some u4)
    (g0 : (((((w.setCell ⟨b, 0, none⟩ v0).setCell ⟨b, 1, none⟩ v1).setCell ⟨b, 2, none⟩ v2).setCell ⟨b, 3, none⟩ v3).setCell ⟨b, 4, none⟩ v4).frozen? ⟨b, 0, none⟩ = false)
    (g1 : (((((w.setCell ⟨b, 0, none⟩ v0).setCell ⟨b, 1, none⟩ v1).setCell ⟨b, 2, none⟩ v2).setCell ⟨b, 3, none⟩ v3).setCell ⟨b, 4, none⟩ v4).frozen? ⟨b, 1, none⟩ = false)
    (g2 : (((((w.setCell ⟨b, 0, none⟩ v0).setCell ⟨b, 1, none⟩ v1).setCell ⟨b, 2, none⟩ v2).setCell ⟨b, 3, none⟩ v3).setCell ⟨b, 4, none⟩ v4).frozen? ⟨b, 2, none⟩ = false)
    (g3 : (((((w.setCell ⟨b, 0, none⟩ v0).setCell ⟨b, 1, none⟩ v1).setCell ⟨b, 2, none⟩ v2).setCell ⟨b, 3, none⟩ v3).setCell ⟨b, 4, none⟩ v4).frozen? ⟨b, 3, none⟩ = false)
    (g4 : (((((w.setCell ⟨b, 0, none⟩ v0).setCell ⟨b, 1, none⟩ v1).setCell ⟨b, 2, none⟩ v2).setCell ⟨b, 3, none⟩ v3).setCell ⟨b, 4, none⟩ v4).frozen? ⟨b, 4, none⟩ = false) :
    Five (((((w.setCell ⟨b, 0, none⟩ v0).setCell ⟨b, 1, none⟩ v1).setCell ⟨b, 2, none⟩ v2).setCell ⟨b, 3, none⟩ v3).setCell ⟨b, 4, none⟩ v4) b v0 v1 v2 v3 v4 ∧
    Zero (((((w.setCell ⟨b, 0, none⟩ v0).setCell ⟨b, 1, none⟩ v1).setCell ⟨b, 2, none⟩ v2).setCell ⟨b, 3, none⟩ v3).setCell ⟨b, 4, none⟩ v4) c ∧
    Below B w0 (((((w.setCell ⟨b, 0, none⟩ v0).setCell ⟨b, 1, none⟩ v1).setCell ⟨b, 2, none⟩ v2).setCell ⟨b, 3, none⟩ v3).setCell ⟨b, 4, none⟩ v4) := by
  obtain ⟨c0, c1, c2, c3, c4⟩ := five_cells e0 e1 e2 e3 e4
  exact ⟨⟨hs, c0, c1, c2, c3, c4, g0, g1, g2, g3, g4⟩, hz.far hne v0 v1 v2 v3 v4,
    ((((hb.setCell (p := ⟨b, 0, none⟩) hB v0).setCell (p := ⟨b, 1, none⟩) hB v1).setCell (p := ⟨b, 2, none⟩) hB v2).setCell (p := ⟨b, 3, none⟩) hB v3).setCell (p := ⟨b, 4, none⟩) hB v4⟩

set_option maxHeartbeats 1000000 in
theorem Dec_lui (x : Int) (w00 : World) (h0 : 0 ≤ x) (h1 : x < 4294967296) (hc : x % 128 = 55) :
    Calls Try.prog 13 #[.int .u32 x] w00 fun e w' => e = .returned (decV x) ∧ Below w00.heap.size w00 w' := by
  obtain ⟨f0, f1⟩ := f3_bd x
  have hb := and127 x 55 h0 h1 hc
  have HC := hid hc
  clear hc
  go_enter Try.func13, Try.ntmps13
  go_wp2_with fail
  have hz0 := Zero.new w00 25
  have hb0 : Below w00.heap.size w00 (w00.alloc (.cells #[.int .i64 0, .int .i64 0, .int .i64 0, .int .i64 0, .int .i32 0] 25)) := (Below.refl _ _).alloc (Nat.le_refl _) _
  generalize w00.alloc (.cells #[.int .i64 0, .int .i64 0, .int .i64 0, .int .i64 0, .int .i32 0] 25) = w1 at *
  refine (V.cut _ _ h0 h1).mono ?_
  rintro e w2 ⟨rfl, hb2⟩
  have hz2 := hz0.below hb2 hz0.lt
  have hb2' := bel_step hb0 hb2
  clear hz0 hb0 hb2 w1
  have hP0 := Parts.new w2 48 x
  have hI0 := Zero.new (w2.alloc (.cells #[.int .u32 x, .int .i64 (fld x 7 5), .int .i64 (fld x 12 3), .int .i64 (fld x 15 5), .int .i64 (fld x 20 5), .int .u32 (fld x 25 7)] 48)) 25
  rw [World.size_alloc] at hI0
  have hq := Parts.below hP0 ((Below.refl _ _).alloc (Nat.le_refl _) (.cells #[.int .i64 0, .int .i64 0, .int .i64 0, .int .i64 0, .int .i32 0] 25)) hP0.lt
  have hb3 : Below w2.heap.size w2 ((w2.alloc (.cells #[.int .u32 x, .int .i64 (fld x 7 5), .int .i64 (fld x 12 3), .int .i64 (fld x 15 5), .int .i64 (fld x 20 5), .int .u32 (fld x 25 7)] 48)).alloc (.cells #[.int .i64 0, .int .i64 0, .int .i64 0, .int .i64 0, .int .i32 0] 25)) := ((Below.refl _ _).alloc (Nat.le_refl _) _).alloc (by simp) _
  have hz3 := hid (hz2.below hb3 hz2.lt)
  have hbw0 := bel_step hb2' hb3
  have hlt : w00.heap.size < w2.heap.size := hz2.lt
  have hP := hid hq
  have hI := hid hI0
  clear hz2 hq hb2' hb3 hP0 hI0
  go_wp2_with fail
  generalize (w2.alloc (.cells #[.int .u32 x, .int .i64 (fld x 7 5), .int .i64 (fld x 12 3), .int .i64 (fld x 15 5), .int .i64 (fld x 20 5), .int .u32 (fld x 25 7)] 48)).alloc (.cells #[.int .i64 0, .int .i64 0, .int .i64 0, .int .i64 0, .int .i32 0] 25) = w at *
  generalize w2.heap.size = pb at *
  obtain ⟨pl, p0, p1, p2, p3, p4, p5⟩ := hP.out
  obtain ⟨il, i0, i1, i2, i3, i4, ifr⟩ := hI.out
  clear hP hI
  go_region_held3 (fun W => pb + 1 < W.heap.size ∧ pb < W.heap.size ∧ W.cell? ⟨pb, 0, none⟩ = some (.int .u32 x) ∧ W.cell? ⟨pb, 1, none⟩ = some (.int .i64 (fld x 7 5)) ∧ W.cell? ⟨pb, 2, none⟩ = some (.int .i64 (fld x 12 3)) ∧ W.cell? ⟨pb, 3, none⟩ = some (.int .i64 (fld x 15 5)) ∧ W.cell? ⟨pb, 4, none⟩ = some (.int .i64 (fld x 20 5)) ∧ W.cell? ⟨pb, 5, none⟩ = some (.int .u32 (fld x 25 7)) ∧ W.cell? ⟨pb + 1, 0, none⟩ = some (cellv W ⟨pb + 1, 0, none⟩) ∧ W.cell? ⟨pb + 1, 1, none⟩ = some (cellv W ⟨pb + 1, 1, none⟩) ∧ W.cell? ⟨pb + 1, 2, none⟩ = some (cellv W ⟨pb + 1, 2, none⟩) ∧ W.cell? ⟨pb + 1, 3, none⟩ = some (cellv W ⟨pb + 1, 3, none⟩) ∧ W.cell? ⟨pb + 1, 4, none⟩ = some (cellv W ⟨pb + 1, 4, none⟩) ∧ W.frozen? ⟨pb + 1, 0, none⟩ = false ∧ W.frozen? ⟨pb + 1, 1, none⟩ = false ∧ W.frozen? ⟨pb + 1, 2, none⟩ = false ∧ W.frozen? ⟨pb + 1, 3, none⟩ = false ∧ W.frozen? ⟨pb + 1, 4, none⟩ = false) (((repeat' (refine And.intro ?_ ?_)) <;> (first | omega | (go_simp; done) | (refine cell_is ?_; go_simp; done) | (rw [hcel _ _ (by first | omega | (simp; omega))]; go_simp; done) | (rw [hfro _ _ (by first | omega | (simp; omega))]; go_simp; done) | (simp [*]; done)))) ((first | (go_at_call 22; refine (V.ImmU _ _ (by omega) (by omega)).mono ?_; rintro e w' ⟨rfl, hbel⟩; (try (with_reducible replace hbel := bel_undrew hbel)); (try (with_reducible replace hbel := bel_undrewN hbel)); have hbw := bel_step (w := w) (by repeat' (first | (with_reducible exact Below.refl _ _) | (with_reducible assumption) | (with_reducible refine below_drewN ?_ _) | (with_reducible refine Below.alloc ?_ ?_ _) | (with_reducible refine Below.drew ?_) | (with_reducible refine Below.setCell ?_ ?_ _) | (with_reducible exact Below.size (by assumption)) | go_size)) hbel; have hsw := hbw.size; have hsb := hbel.size; (try simp at hsb); (try (refine lay (p := w.heap.size < w'.heap.size) ?_ ?_; rotate_left; intro hq0; rotate_left; omega)); (try (refine lay (p := w.heap.size + 1 < w'.heap.size) ?_ ?_; rotate_left; intro hq1; rotate_left; omega)); (try (refine lay (p := w.heap.size + 2 < w'.heap.size) ?_ ?_; rotate_left; intro hq2; rotate_left; omega)); (try (refine lay (p := w.heap.size + 3 < w'.heap.size) ?_ ?_; rotate_left; intro hq3; rotate_left; omega)); (try (refine lay (p := w.heap.size + 4 < w'.heap.size) ?_ ?_; rotate_left; intro hq4; rotate_left; omega)); (try (refine lay (p := w.heap.size + 5 < w'.heap.size) ?_ ?_; rotate_left; intro hq5; rotate_left; omega)); obtain ⟨hcel, hfro⟩ := bcell hbel; clear hbel)))
  clear p0 p1 p2 p3 p4 p5 i0 i1 i2 i3 i4 ifr
  rename _ < _ ∧ _ => hH
  obtain ⟨s1, s2, q0, q1, q2, q3, q4, q5, e0, e1, e2, e3, e4, g0, g1, g2, g3, g4⟩ := hH
  obtain ⟨hA, hT, hbF⟩ := after (hz3.out.below hbw hz3.out.lt) (b := pb + 1) (by omega) (bel_step hbw0 hbw) (by omega) s1 e0 e1 e2 e3 e4 g0 g1 g2 g3 g4
  clear s1 s2 q0 q1 q2 q3 q4 q5 e0 e1 e2 e3 e4 g0 g1 g2 g3 g4
  generalize World.setCell _ ⟨pb + 1, 4, none⟩ _ = wf at *
  obtain ⟨s1, c0, c1, c2, c3, c4, g0, g1, g2, g3, g4⟩ := hA
  obtain ⟨tl, t0, t1, t2, t3, t4, tf⟩ := hT
  have hN : Hid (opN x = 1) := hid (opN_lui HC.out)
  go_wp2
  refine bodyPost_ret (v := .tuple #[.agg #[.int .i64 1, .int .i64 (fld x 7 5), .int .i64 0, .int .i64 0, .int .i32 (immU x)], .bool true]) (by simp [results, Try.results13, go_sem, t0, t1, t2, t3, t4]) rfl ⟨by rw [decV_some (f := 1) hN.out (by decide) (by decide)]; rfl, (by repeat' (first | (with_reducible exact Below.refl _ _) | (with_reducible assumption) | (with_reducible refine below_drewN ?_ _) | (with_reducible refine Below.alloc ?_ ?_ _) | (with_reducible refine Below.drew ?_) | (with_reducible refine Below.setCell ?_ ?_ _) | (with_reducible exact Below.size (by assumption)) | go_size))⟩

set_option maxHeartbeats 1000000 in
theorem Dec_auipc (x : Int) (w00 : World) (h0 : 0 ≤ x) (h1 : x < 4294967296) (hc : x % 128 = 23) :
    Calls Try.prog 13 #[.int .u32 x] w00 fun e w' => e = .returned (decV x) ∧ Below w00.heap.size w00 w' := by
  obtain ⟨f0, f1⟩ := f3_bd x
  have hb := and127 x 23 h0 h1 hc
  have HC := hid hc
  clear hc
  go_enter Try.func13, Try.ntmps13
  go_wp2_with fail
  have hz0 := Zero.new w00 25
  have hb0 : Below w00.heap.size w00 (w00.alloc (.cells #[.int .i64 0, .int .i64 0, .int .i64 0, .int .i64 0, .int .i32 0] 25)) := (Below.refl _ _).alloc (Nat.le_refl _) _
  generalize w00.alloc (.cells #[.int .i64 0, .int .i64 0, .int .i64 0, .int .i64 0, .int .i32 0] 25) = w1 at *
  refine (V.cut _ _ h0 h1).mono ?_
  rintro e w2 ⟨rfl, hb2⟩
  have hz2 := hz0.below hb2 hz0.lt
  have hb2' := bel_step hb0 hb2
  clear hz0 hb0 hb2 w1
  have hP0 := Parts.new w2 48 x
  have hI0 := Zero.new (w2.alloc (.cells #[.int .u32 x, .int .i64 (fld x 7 5), .int .i64 (fld x 12 3), .int .i64 (fld x 15 5), .int .i64 (fld x 20 5), .int .u32 (fld x 25 7)] 48)) 25
  rw [World.size_alloc] at hI0
  have hq := Parts.below hP0 ((Below.refl _ _).alloc (Nat.le_refl _) (.cells #[.int .i64 0, .int .i64 0, .int .i64 0, .int .i64 0, .int .i32 0] 25)) hP0.lt
  have hb3 : Below w2.heap.size w2 ((w2.alloc (.cells #[.int .u32 x, .int .i64 (fld x 7 5), .int .i64 (fld x 12 3), .int .i64 (fld x 15 5), .int .i64 (fld x 20 5), .int .u32 (fld x 25 7)] 48)).alloc (.cells #[.int .i64 0, .int .i64 0, .int .i64 0, .int .i64 0, .int .i32 0] 25)) := ((Below.refl _ _).alloc (Nat.le_refl _) _).alloc (by simp) _
  have hz3 := hid (hz2.below hb3 hz2.lt)
  have hbw0 := bel_step hb2' hb3
  have hlt : w00.heap.size < w2.heap.size := hz2.lt
  have hP := hid hq
  have hI := hid hI0
  clear hz2 hq hb2' hb3 hP0 hI0
  go_wp2_with fail
  generalize (w2.alloc (.cells #[.int .u32 x, .int .i64 (fld x 7 5), .int .i64 (fld x 12 3), .int .i64 (fld x 15 5), .int .i64 (fld x 20 5), .int .u32 (fld x 25 7)] 48)).alloc (.cells #[.int .i64 0, .int .i64 0, .int .i64 0, .int .i64 0, .int .i32 0] 25) = w at *
  generalize w2.heap.size = pb at *
  obtain ⟨pl, p0, p1, p2, p3, p4, p5⟩ := hP.out
  obtain ⟨il, i0, i1, i2, i3, i4, ifr⟩ := hI.out
  clear hP hI
  go_region_held3 (fun W => pb + 1 < W.heap.size ∧ pb < W.heap.size ∧ W.cell? ⟨pb, 0, none⟩ = some (.int .u32 x) ∧ W.cell? ⟨pb, 1, none⟩ = some (.int .i64 (fld x 7 5)) ∧ W.cell? ⟨pb, 2, none⟩ = some (.int .i64 (fld x 12 3)) ∧ W.cell? ⟨pb, 3, none⟩ = some (.int .i64 (fld x 15 5)) ∧ W.cell? ⟨pb, 4, none⟩ = some (.int .i64 (fld x 20 5)) ∧ W.cell? ⟨pb, 5, none⟩ = some (.int .u32 (fld x 25 7)) ∧ W.cell? ⟨pb + 1, 0, none⟩ = some (cellv W ⟨pb + 1, 0, none⟩) ∧ W.cell? ⟨pb + 1, 1, none⟩ = some (cellv W ⟨pb + 1, 1, none⟩) ∧ W.cell? ⟨pb + 1, 2, none⟩ = some (cellv W ⟨pb + 1, 2, none⟩) ∧ W.cell? ⟨pb + 1, 3, none⟩ = some (cellv W ⟨pb + 1, 3, none⟩) ∧ W.cell? ⟨pb + 1, 4, none⟩ = some (cellv W ⟨pb + 1, 4, none⟩) ∧ W.frozen? ⟨pb + 1, 0, none⟩ = false ∧ W.frozen? ⟨pb + 1, 1, none⟩ = false ∧ W.frozen? ⟨pb + 1, 2, none⟩ = false ∧ W.frozen? ⟨pb + 1, 3, none⟩ = false ∧ W.frozen? ⟨pb + 1, 4, none⟩ = false) (((repeat' (refine And.intro ?_ ?_)) <;> (first | omega | (go_simp; done) | (refine cell_is ?_; go_simp; done) | (rw [hcel _ _ (by first | omega | (simp; omega))]; go_simp; done) | (rw [hfro _ _ (by first | omega | (simp; omega))]; go_simp; done) | (simp [*]; done)))) ((first | (go_at_call 22; refine (V.ImmU _ _ (by omega) (by omega)).mono ?_; rintro e w' ⟨rfl, hbel⟩; (try (with_reducible replace hbel := bel_undrew hbel)); (try (with_reducible replace hbel := bel_undrewN hbel)); have hbw := bel_step (w := w) (by repeat' (first | (with_reducible exact Below.refl _ _) | (with_reducible assumption) | (with_reducible refine below_drewN ?_ _) | (with_reducible refine Below.alloc ?_ ?_ _) | (with_reducible refine Below.drew ?_) | (with_reducible refine Below.setCell ?_ ?_ _) | (with_reducible exact Below.size (by assumption)) | go_size)) hbel; have hsw := hbw.size; have hsb := hbel.size; (try simp at hsb); (try (refine lay (p := w.heap.size < w'.heap.size) ?_ ?_; rotate_left; intro hq0; rotate_left; omega)); (try (refine lay (p := w.heap.size + 1 < w'.heap.size) ?_ ?_; rotate_left; intro hq1; rotate_left; omega)); (try (refine lay (p := w.heap.size + 2 < w'.heap.size) ?_ ?_; rotate_left; intro hq2; rotate_left; omega)); (try (refine lay (p := w.heap.size + 3 < w'.heap.size) ?_ ?_; rotate_left; intro hq3; rotate_left; omega)); (try (refine lay (p := w.heap.size + 4 < w'.heap.size) ?_ ?_; rotate_left; intro hq4; rotate_left; omega)); (try (refine lay (p := w.heap.size + 5 < w'.heap.size) ?_ ?_; rotate_left; intro hq5; rotate_left; omega)); obtain ⟨hcel, hfro⟩ := bcell hbel; clear hbel)))
  clear p0 p1 p2 p3 p4 p5 i0 i1 i2 i3 i4 ifr
  rename _ < _ ∧ _ => hH
  obtain ⟨s1, s2, q0, q1, q2, q3, q4, q5, e0, e1, e2, e3, e4, g0, g1, g2, g3, g4⟩ := hH
  obtain ⟨hA, hT, hbF⟩ := after (hz3.out.below hbw hz3.out.lt) (b := pb + 1) (by omega) (bel_step hbw0 hbw) (by omega) s1 e0 e1 e2 e3 e4 g0 g1 g2 g3 g4
  clear s1 s2 q0 q1 q2 q3 q4 q5 e0 e1 e2 e3 e4 g0 g1 g2 g3 g4
  generalize World.setCell _ ⟨pb + 1, 4, none⟩ _ = wf at *
  obtain ⟨s1, c0, c1, c2, c3, c4, g0, g1, g2, g3, g4⟩ := hA
  obtain ⟨tl, t0, t1, t2, t3, t4, tf⟩ := hT
  have hN : Hid (opN x = 2) := hid (opN_auipc HC.out)
  go_wp2
  refine bodyPost_ret (v := .tuple #[.agg #[.int .i64 2, .int .i64 (fld x 7 5), .int .i64 0, .int .i64 0, .int .i32 (immU x)], .bool true]) (by simp [results, Try.results13, go_sem, t0, t1, t2, t3, t4]) rfl ⟨by rw [decV_some (f := 1) hN.out (by decide) (by decide)]; rfl, (by repeat' (first | (with_reducible exact Below.refl _ _) | (with_reducible assumption) | (with_reducible refine below_drewN ?_ _) | (with_reducible refine Below.alloc ?_ ?_ _) | (with_reducible refine Below.drew ?_) | (with_reducible refine Below.setCell ?_ ?_ _) | (with_reducible exact Below.size (by assumption)) | go_size))⟩

set_option maxHeartbeats 1000000 in
theorem Dec_jal (x : Int) (w00 : World) (h0 : 0 ≤ x) (h1 : x < 4294967296) (hc : x % 128 = 111) :
    Calls Try.prog 13 #[.int .u32 x] w00 fun e w' => e = .returned (decV x) ∧ Below w00.heap.size w00 w' := by
  obtain ⟨f0, f1⟩ := f3_bd x
  have hb := and127 x 111 h0 h1 hc
  have HC := hid hc
  clear hc
  go_enter Try.func13, Try.ntmps13
  go_wp2_with fail
  have hz0 := Zero.new w00 25
  have hb0 : Below w00.heap.size w00 (w00.alloc (.cells #[.int .i64 0, .int .i64 0, .int .i64 0, .int .i64 0, .int .i32 0] 25)) := (Below.refl _ _).alloc (Nat.le_refl _) _
  generalize w00.alloc (.cells #[.int .i64 0, .int .i64 0, .int .i64 0, .int .i64 0, .int .i32 0] 25) = w1 at *
  refine (V.cut _ _ h0 h1).mono ?_
  rintro e w2 ⟨rfl, hb2⟩
  have hz2 := hz0.below hb2 hz0.lt
  have hb2' := bel_step hb0 hb2
  clear hz0 hb0 hb2 w1
  have hP0 := Parts.new w2 48 x
  have hI0 := Zero.new (w2.alloc (.cells #[.int .u32 x, .int .i64 (fld x 7 5), .int .i64 (fld x 12 3), .int .i64 (fld x 15 5), .int .i64 (fld x 20 5), .int .u32 (fld x 25 7)] 48)) 25
  rw [World.size_alloc] at hI0
  have hq := Parts.below hP0 ((Below.refl _ _).alloc (Nat.le_refl _) (.cells #[.int .i64 0, .int .i64 0, .int .i64 0, .int .i64 0, .int .i32 0] 25)) hP0.lt
  have hb3 : Below w2.heap.size w2 ((w2.alloc (.cells #[.int .u32 x, .int .i64 (fld x 7 5), .int .i64 (fld x 12 3), .int .i64 (fld x 15 5), .int .i64 (fld x 20 5), .int .u32 (fld x 25 7)] 48)).alloc (.cells #[.int .i64 0, .int .i64 0, .int .i64 0, .int .i64 0, .int .i32 0] 25)) := ((Below.refl _ _).alloc (Nat.le_refl _) _).alloc (by simp) _
  have hz3 := hid (hz2.below hb3 hz2.lt)
  have hbw0 := bel_step hb2' hb3
  have hlt : w00.heap.size < w2.heap.size := hz2.lt
  have hP := hid hq
  have hI := hid hI0
  clear hz2 hq hb2' hb3 hP0 hI0
  go_wp2_with fail
  generalize (w2.alloc (.cells #[.int .u32 x, .int .i64 (fld x 7 5), .int .i64 (fld x 12 3), .int .i64 (fld x 15 5), .int .i64 (fld x 20 5), .int .u32 (fld x 25 7)] 48)).alloc (.cells #[.int .i64 0, .int .i64 0, .int .i64 0, .int .i64 0, .int .i32 0] 25) = w at *
  generalize w2.heap.size = pb at *
  obtain ⟨pl, p0, p1, p2, p3, p4, p5⟩ := hP.out
  obtain ⟨il, i0, i1, i2, i3, i4, ifr⟩ := hI.out
  clear hP hI
  go_region_held3 (fun W => pb + 1 < W.heap.size ∧ pb < W.heap.size ∧ W.cell? ⟨pb, 0, none⟩ = some (.int .u32 x) ∧ W.cell? ⟨pb, 1, none⟩ = some (.int .i64 (fld x 7 5)) ∧ W.cell? ⟨pb, 2, none⟩ = some (.int .i64 (fld x 12 3)) ∧ W.cell? ⟨pb, 3, none⟩ = some (.int .i64 (fld x 15 5)) ∧ W.cell? ⟨pb, 4, none⟩ = some (.int .i64 (fld x 20 5)) ∧ W.cell? ⟨pb, 5, none⟩ = some (.int .u32 (fld x 25 7)) ∧ W.cell? ⟨pb + 1, 0, none⟩ = some (cellv W ⟨pb + 1, 0, none⟩) ∧ W.cell? ⟨pb + 1, 1, none⟩ = some (cellv W ⟨pb + 1, 1, none⟩) ∧ W.cell? ⟨pb + 1, 2, none⟩ = some (cellv W ⟨pb + 1, 2, none⟩) ∧ W.cell? ⟨pb + 1, 3, none⟩ = some (cellv W ⟨pb + 1, 3, none⟩) ∧ W.cell? ⟨pb + 1, 4, none⟩ = some (cellv W ⟨pb + 1, 4, none⟩) ∧ W.frozen? ⟨pb + 1, 0, none⟩ = false ∧ W.frozen? ⟨pb + 1, 1, none⟩ = false ∧ W.frozen? ⟨pb + 1, 2, none⟩ = false ∧ W.frozen? ⟨pb + 1, 3, none⟩ = false ∧ W.frozen? ⟨pb + 1, 4, none⟩ = false) (((repeat' (refine And.intro ?_ ?_)) <;> (first | omega | (go_simp; done) | (refine cell_is ?_; go_simp; done) | (rw [hcel _ _ (by first | omega | (simp; omega))]; go_simp; done) | (rw [hfro _ _ (by first | omega | (simp; omega))]; go_simp; done) | (simp [*]; done)))) ((first | (go_at_call 24; refine (V.ImmJ _ _ (by omega) (by omega)).mono ?_; rintro e w' ⟨rfl, hbel⟩; (try (with_reducible replace hbel := bel_undrew hbel)); (try (with_reducible replace hbel := bel_undrewN hbel)); have hbw := bel_step (w := w) (by repeat' (first | (with_reducible exact Below.refl _ _) | (with_reducible assumption) | (with_reducible refine below_drewN ?_ _) | (with_reducible refine Below.alloc ?_ ?_ _) | (with_reducible refine Below.drew ?_) | (with_reducible refine Below.setCell ?_ ?_ _) | (with_reducible exact Below.size (by assumption)) | go_size)) hbel; have hsw := hbw.size; have hsb := hbel.size; (try simp at hsb); (try (refine lay (p := w.heap.size < w'.heap.size) ?_ ?_; rotate_left; intro hq0; rotate_left; omega)); (try (refine lay (p := w.heap.size + 1 < w'.heap.size) ?_ ?_; rotate_left; intro hq1; rotate_left; omega)); (try (refine lay (p := w.heap.size + 2 < w'.heap.size) ?_ ?_; rotate_left; intro hq2; rotate_left; omega)); (try (refine lay (p := w.heap.size + 3 < w'.heap.size) ?_ ?_; rotate_left; intro hq3; rotate_left; omega)); (try (refine lay (p := w.heap.size + 4 < w'.heap.size) ?_ ?_; rotate_left; intro hq4; rotate_left; omega)); (try (refine lay (p := w.heap.size + 5 < w'.heap.size) ?_ ?_; rotate_left; intro hq5; rotate_left; omega)); obtain ⟨hcel, hfro⟩ := bcell hbel; clear hbel)))
  clear p0 p1 p2 p3 p4 p5 i0 i1 i2 i3 i4 ifr
  rename _ < _ ∧ _ => hH
  obtain ⟨s1, s2, q0, q1, q2, q3, q4, q5, e0, e1, e2, e3, e4, g0, g1, g2, g3, g4⟩ := hH
  obtain ⟨hA, hT, hbF⟩ := after (hz3.out.below hbw hz3.out.lt) (b := pb + 1) (by omega) (bel_step hbw0 hbw) (by omega) s1 e0 e1 e2 e3 e4 g0 g1 g2 g3 g4
  clear s1 s2 q0 q1 q2 q3 q4 q5 e0 e1 e2 e3 e4 g0 g1 g2 g3 g4
  generalize World.setCell _ ⟨pb + 1, 4, none⟩ _ = wf at *
  obtain ⟨s1, c0, c1, c2, c3, c4, g0, g1, g2, g3, g4⟩ := hA
  obtain ⟨tl, t0, t1, t2, t3, t4, tf⟩ := hT
  have hN : Hid (opN x = 3) := hid (opN_jal HC.out)
  go_wp2
  refine bodyPost_ret (v := .tuple #[.agg #[.int .i64 3, .int .i64 (fld x 7 5), .int .i64 0, .int .i64 0, .int .i32 (immJ x)], .bool true]) (by simp [results, Try.results13, go_sem, t0, t1, t2, t3, t4]) rfl ⟨by rw [decV_some (f := 2) hN.out (by decide) (by decide)]; rfl, (by repeat' (first | (with_reducible exact Below.refl _ _) | (with_reducible assumption) | (with_reducible refine below_drewN ?_ _) | (with_reducible refine Below.alloc ?_ ?_ _) | (with_reducible refine Below.drew ?_) | (with_reducible refine Below.setCell ?_ ?_ _) | (with_reducible exact Below.size (by assumption)) | go_size))⟩

set_option maxHeartbeats 1000000 in
theorem Dec_branch (x : Int) (w00 : World) (h0 : 0 ≤ x) (h1 : x < 4294967296) (hc : x % 128 = 99) :
    Calls Try.prog 13 #[.int .u32 x] w00 fun e w' => e = .returned (decV x) ∧ Below w00.heap.size w00 w' := by
  obtain ⟨f0, f1⟩ := f3_bd x
  have hb := and127 x 99 h0 h1 hc
  have HC := hid hc
  clear hc
  go_enter Try.func13, Try.ntmps13
  go_wp2_with fail
  have hz0 := Zero.new w00 25
  have hb0 : Below w00.heap.size w00 (w00.alloc (.cells #[.int .i64 0, .int .i64 0, .int .i64 0, .int .i64 0, .int .i32 0] 25)) := (Below.refl _ _).alloc (Nat.le_refl _) _
  generalize w00.alloc (.cells #[.int .i64 0, .int .i64 0, .int .i64 0, .int .i64 0, .int .i32 0] 25) = w1 at *
  refine (V.cut _ _ h0 h1).mono ?_
  rintro e w2 ⟨rfl, hb2⟩
  have hz2 := hz0.below hb2 hz0.lt
  have hb2' := bel_step hb0 hb2
  clear hz0 hb0 hb2 w1
  have hP0 := Parts.new w2 48 x
  have hI0 := Zero.new (w2.alloc (.cells #[.int .u32 x, .int .i64 (fld x 7 5), .int .i64 (fld x 12 3), .int .i64 (fld x 15 5), .int .i64 (fld x 20 5), .int .u32 (fld x 25 7)] 48)) 25
  rw [World.size_alloc] at hI0
  have hq := Parts.below hP0 ((Below.refl _ _).alloc (Nat.le_refl _) (.cells #[.int .i64 0, .int .i64 0, .int .i64 0, .int .i64 0, .int .i32 0] 25)) hP0.lt
  have hb3 : Below w2.heap.size w2 ((w2.alloc (.cells #[.int .u32 x, .int .i64 (fld x 7 5), .int .i64 (fld x 12 3), .int .i64 (fld x 15 5), .int .i64 (fld x 20 5), .int .u32 (fld x 25 7)] 48)).alloc (.cells #[.int .i64 0, .int .i64 0, .int .i64 0, .int .i64 0, .int .i32 0] 25)) := ((Below.refl _ _).alloc (Nat.le_refl _) _).alloc (by simp) _
  have hz3 := hid (hz2.below hb3 hz2.lt)
  have hbw0 := bel_step hb2' hb3
  have hlt : w00.heap.size < w2.heap.size := hz2.lt
  have hP := hid hq
  have hI := hid hI0
  clear hz2 hq hb2' hb3 hP0 hI0
  go_wp2_with fail
  generalize (w2.alloc (.cells #[.int .u32 x, .int .i64 (fld x 7 5), .int .i64 (fld x 12 3), .int .i64 (fld x 15 5), .int .i64 (fld x 20 5), .int .u32 (fld x 25 7)] 48)).alloc (.cells #[.int .i64 0, .int .i64 0, .int .i64 0, .int .i64 0, .int .i32 0] 25) = w at *
  generalize w2.heap.size = pb at *
  obtain ⟨pl, p0, p1, p2, p3, p4, p5⟩ := hP.out
  obtain ⟨il, i0, i1, i2, i3, i4, ifr⟩ := hI.out
  clear hP hI
  go_region_held3 (fun W => pb + 1 < W.heap.size ∧ pb < W.heap.size ∧ W.cell? ⟨pb, 0, none⟩ = some (.int .u32 x) ∧ W.cell? ⟨pb, 1, none⟩ = some (.int .i64 (fld x 7 5)) ∧ W.cell? ⟨pb, 2, none⟩ = some (.int .i64 (fld x 12 3)) ∧ W.cell? ⟨pb, 3, none⟩ = some (.int .i64 (fld x 15 5)) ∧ W.cell? ⟨pb, 4, none⟩ = some (.int .i64 (fld x 20 5)) ∧ W.cell? ⟨pb, 5, none⟩ = some (.int .u32 (fld x 25 7)) ∧ W.cell? ⟨pb + 1, 0, none⟩ = some (cellv W ⟨pb + 1, 0, none⟩) ∧ W.cell? ⟨pb + 1, 1, none⟩ = some (cellv W ⟨pb + 1, 1, none⟩) ∧ W.cell? ⟨pb + 1, 2, none⟩ = some (cellv W ⟨pb + 1, 2, none⟩) ∧ W.cell? ⟨pb + 1, 3, none⟩ = some (cellv W ⟨pb + 1, 3, none⟩) ∧ W.cell? ⟨pb + 1, 4, none⟩ = some (cellv W ⟨pb + 1, 4, none⟩) ∧ W.frozen? ⟨pb + 1, 0, none⟩ = false ∧ W.frozen? ⟨pb + 1, 1, none⟩ = false ∧ W.frozen? ⟨pb + 1, 2, none⟩ = false ∧ W.frozen? ⟨pb + 1, 3, none⟩ = false ∧ W.frozen? ⟨pb + 1, 4, none⟩ = false) (((repeat' (refine And.intro ?_ ?_)) <;> (first | omega | (go_simp; done) | (refine cell_is ?_; go_simp; done) | (rw [hcel _ _ (by first | omega | (simp; omega))]; go_simp; done) | (rw [hfro _ _ (by first | omega | (simp; omega))]; go_simp; done) | (simp [*]; done)))) ((first | (go_at_call 36; refine (V.one _ _ _ _ _ _ _ _ _ _ (by omega) (by omega)).mono ?_; rintro e w' ⟨rfl, hbel⟩; (try (with_reducible replace hbel := bel_undrew hbel)); (try (with_reducible replace hbel := bel_undrewN hbel)); have hbw := bel_step (w := w) (by repeat' (first | (with_reducible exact Below.refl _ _) | (with_reducible assumption) | (with_reducible refine below_drewN ?_ _) | (with_reducible refine Below.alloc ?_ ?_ _) | (with_reducible refine Below.drew ?_) | (with_reducible refine Below.setCell ?_ ?_ _) | (with_reducible exact Below.size (by assumption)) | go_size)) hbel; have hsw := hbw.size; have hsb := hbel.size; (try simp at hsb); (try (refine lay (p := w.heap.size < w'.heap.size) ?_ ?_; rotate_left; intro hq0; rotate_left; omega)); (try (refine lay (p := w.heap.size + 1 < w'.heap.size) ?_ ?_; rotate_left; intro hq1; rotate_left; omega)); (try (refine lay (p := w.heap.size + 2 < w'.heap.size) ?_ ?_; rotate_left; intro hq2; rotate_left; omega)); (try (refine lay (p := w.heap.size + 3 < w'.heap.size) ?_ ?_; rotate_left; intro hq3; rotate_left; omega)); (try (refine lay (p := w.heap.size + 4 < w'.heap.size) ?_ ?_; rotate_left; intro hq4; rotate_left; omega)); (try (refine lay (p := w.heap.size + 5 < w'.heap.size) ?_ ?_; rotate_left; intro hq5; rotate_left; omega)); obtain ⟨hcel, hfro⟩ := bcell hbel; clear hbel) | (go_at_call 20; refine (V.ImmB _ _ (by omega) (by omega)).mono ?_; rintro e w' ⟨rfl, hbel⟩; (try (with_reducible replace hbel := bel_undrew hbel)); (try (with_reducible replace hbel := bel_undrewN hbel)); have hbw := bel_step (w := w) (by repeat' (first | (with_reducible exact Below.refl _ _) | (with_reducible assumption) | (with_reducible refine below_drewN ?_ _) | (with_reducible refine Below.alloc ?_ ?_ _) | (with_reducible refine Below.drew ?_) | (with_reducible refine Below.setCell ?_ ?_ _) | (with_reducible exact Below.size (by assumption)) | go_size)) hbel; have hsw := hbw.size; have hsb := hbel.size; (try simp at hsb); (try (refine lay (p := w.heap.size < w'.heap.size) ?_ ?_; rotate_left; intro hq0; rotate_left; omega)); (try (refine lay (p := w.heap.size + 1 < w'.heap.size) ?_ ?_; rotate_left; intro hq1; rotate_left; omega)); (try (refine lay (p := w.heap.size + 2 < w'.heap.size) ?_ ?_; rotate_left; intro hq2; rotate_left; omega)); (try (refine lay (p := w.heap.size + 3 < w'.heap.size) ?_ ?_; rotate_left; intro hq3; rotate_left; omega)); (try (refine lay (p := w.heap.size + 4 < w'.heap.size) ?_ ?_; rotate_left; intro hq4; rotate_left; omega)); (try (refine lay (p := w.heap.size + 5 < w'.heap.size) ?_ ?_; rotate_left; intro hq5; rotate_left; omega)); obtain ⟨hcel, hfro⟩ := bcell hbel; clear hbel)))
  clear p0 p1 p2 p3 p4 p5 i0 i1 i2 i3 i4 ifr
  rename _ < _ ∧ _ => hH
  obtain ⟨s1, s2, q0, q1, q2, q3, q4, q5, e0, e1, e2, e3, e4, g0, g1, g2, g3, g4⟩ := hH
  obtain ⟨hA, hT, hbF⟩ := after (hz3.out.below hbw hz3.out.lt) (b := pb + 1) (by omega) (bel_step hbw0 hbw) (by omega) s1 e0 e1 e2 e3 e4 g0 g1 g2 g3 g4
  clear s1 s2 q0 q1 q2 q3 q4 q5 e0 e1 e2 e3 e4 g0 g1 g2 g3 g4
  generalize World.setCell _ ⟨pb + 1, 4, none⟩ _ = wf at *
  obtain ⟨s1, c0, c1, c2, c3, c4, g0, g1, g2, g3, g4⟩ := hA
  obtain ⟨tl, t0, t1, t2, t3, t4, tf⟩ := hT
  have hN : Hid (opN x = pick [5, 6, 0, 0, 7, 8, 9, 10] (fld x 12 3)) := hid (opN_branch HC.out)
  have hp : Hid (pick [5, 6, 0, 0, 7, 8, 9, 10] (fld x 12 3) = 0 ∨ form (pick [5, 6, 0, 0, 7, 8, 9, 10] (fld x 12 3)) = 3) := hid (pick_form (l := [5, 6, 0, 0, 7, 8, 9, 10]) f0 f1 (f := 3) (by decide))
  go_wp2
  · have hz : (pick [5, 6, 0, 0, 7, 8, 9, 10] (fld x 12 3) == 0) = true := by assumption
    rw [beq_iff_eq] at hz
    refine bodyPost_ret (v := .tuple #[.agg #[.int .i64 0, .int .i64 0, .int .i64 0, .int .i64 0, .int .i32 0], .bool false]) (by simp [results, Try.results13, go_sem, t0, t1, t2, t3, t4]) rfl ⟨by rw [decV_none (hN.out.trans hz)], (by repeat' (first | (with_reducible exact Below.refl _ _) | (with_reducible assumption) | (with_reducible refine below_drewN ?_ _) | (with_reducible refine Below.alloc ?_ ?_ _) | (with_reducible refine Below.drew ?_) | (with_reducible refine Below.setCell ?_ ?_ _) | (with_reducible exact Below.size (by assumption)) | go_size))⟩
  · have hz : (pick [5, 6, 0, 0, 7, 8, 9, 10] (fld x 12 3) == 0) = false := by assumption
    rw [beq_eq_false_iff_ne] at hz
    refine bodyPost_ret (v := .tuple #[.agg #[.int .i64 (pick [5, 6, 0, 0, 7, 8, 9, 10] (fld x 12 3)), .int .i64 0, .int .i64 (fld x 15 5), .int .i64 (fld x 20 5), .int .i32 (immB x)], .bool true]) (by simp [results, Try.results13, go_sem, t0, t1, t2, t3, t4]) rfl ⟨by rw [decV_some hN.out hz (hp.out.resolve_left hz)]; rfl, (by repeat' (first | (with_reducible exact Below.refl _ _) | (with_reducible assumption) | (with_reducible refine below_drewN ?_ _) | (with_reducible refine Below.alloc ?_ ?_ _) | (with_reducible refine Below.drew ?_) | (with_reducible refine Below.setCell ?_ ?_ _) | (with_reducible exact Below.size (by assumption)) | go_size))⟩

set_option maxHeartbeats 1000000 in
theorem Dec_store (x : Int) (w00 : World) (h0 : 0 ≤ x) (h1 : x < 4294967296) (hc : x % 128 = 35) :
    Calls Try.prog 13 #[.int .u32 x] w00 fun e w' => e = .returned (decV x) ∧ Below w00.heap.size w00 w' := by
  obtain ⟨f0, f1⟩ := f3_bd x
  have hb := and127 x 35 h0 h1 hc
  have HC := hid hc
  clear hc
  go_enter Try.func13, Try.ntmps13
  go_wp2_with fail
  have hz0 := Zero.new w00 25
  have hb0 : Below w00.heap.size w00 (w00.alloc (.cells #[.int .i64 0, .int .i64 0, .int .i64 0, .int .i64 0, .int .i32 0] 25)) := (Below.refl _ _).alloc (Nat.le_refl _) _
  generalize w00.alloc (.cells #[.int .i64 0, .int .i64 0, .int .i64 0, .int .i64 0, .int .i32 0] 25) = w1 at *
  refine (V.cut _ _ h0 h1).mono ?_
  rintro e w2 ⟨rfl, hb2⟩
  have hz2 := hz0.below hb2 hz0.lt
  have hb2' := bel_step hb0 hb2
  clear hz0 hb0 hb2 w1
  have hP0 := Parts.new w2 48 x
  have hI0 := Zero.new (w2.alloc (.cells #[.int .u32 x, .int .i64 (fld x 7 5), .int .i64 (fld x 12 3), .int .i64 (fld x 15 5), .int .i64 (fld x 20 5), .int .u32 (fld x 25 7)] 48)) 25
  rw [World.size_alloc] at hI0
  have hq := Parts.below hP0 ((Below.refl _ _).alloc (Nat.le_refl _) (.cells #[.int .i64 0, .int .i64 0, .int .i64 0, .int .i64 0, .int .i32 0] 25)) hP0.lt
  have hb3 : Below w2.heap.size w2 ((w2.alloc (.cells #[.int .u32 x, .int .i64 (fld x 7 5), .int .i64 (fld x 12 3), .int .i64 (fld x 15 5), .int .i64 (fld x 20 5), .int .u32 (fld x 25 7)] 48)).alloc (.cells #[.int .i64 0, .int .i64 0, .int .i64 0, .int .i64 0, .int .i32 0] 25)) := ((Below.refl _ _).alloc (Nat.le_refl _) _).alloc (by simp) _
  have hz3 := hid (hz2.below hb3 hz2.lt)
  have hbw0 := bel_step hb2' hb3
  have hlt : w00.heap.size < w2.heap.size := hz2.lt
  have hP := hid hq
  have hI := hid hI0
  clear hz2 hq hb2' hb3 hP0 hI0
  go_wp2_with fail
  generalize (w2.alloc (.cells #[.int .u32 x, .int .i64 (fld x 7 5), .int .i64 (fld x 12 3), .int .i64 (fld x 15 5), .int .i64 (fld x 20 5), .int .u32 (fld x 25 7)] 48)).alloc (.cells #[.int .i64 0, .int .i64 0, .int .i64 0, .int .i64 0, .int .i32 0] 25) = w at *
  generalize w2.heap.size = pb at *
  obtain ⟨pl, p0, p1, p2, p3, p4, p5⟩ := hP.out
  obtain ⟨il, i0, i1, i2, i3, i4, ifr⟩ := hI.out
  clear hP hI
  go_region_held3 (fun W => pb + 1 < W.heap.size ∧ pb < W.heap.size ∧ W.cell? ⟨pb, 0, none⟩ = some (.int .u32 x) ∧ W.cell? ⟨pb, 1, none⟩ = some (.int .i64 (fld x 7 5)) ∧ W.cell? ⟨pb, 2, none⟩ = some (.int .i64 (fld x 12 3)) ∧ W.cell? ⟨pb, 3, none⟩ = some (.int .i64 (fld x 15 5)) ∧ W.cell? ⟨pb, 4, none⟩ = some (.int .i64 (fld x 20 5)) ∧ W.cell? ⟨pb, 5, none⟩ = some (.int .u32 (fld x 25 7)) ∧ W.cell? ⟨pb + 1, 0, none⟩ = some (cellv W ⟨pb + 1, 0, none⟩) ∧ W.cell? ⟨pb + 1, 1, none⟩ = some (cellv W ⟨pb + 1, 1, none⟩) ∧ W.cell? ⟨pb + 1, 2, none⟩ = some (cellv W ⟨pb + 1, 2, none⟩) ∧ W.cell? ⟨pb + 1, 3, none⟩ = some (cellv W ⟨pb + 1, 3, none⟩) ∧ W.cell? ⟨pb + 1, 4, none⟩ = some (cellv W ⟨pb + 1, 4, none⟩) ∧ W.frozen? ⟨pb + 1, 0, none⟩ = false ∧ W.frozen? ⟨pb + 1, 1, none⟩ = false ∧ W.frozen? ⟨pb + 1, 2, none⟩ = false ∧ W.frozen? ⟨pb + 1, 3, none⟩ = false ∧ W.frozen? ⟨pb + 1, 4, none⟩ = false) (((repeat' (refine And.intro ?_ ?_)) <;> (first | omega | (go_simp; done) | (refine cell_is ?_; go_simp; done) | (rw [hcel _ _ (by first | omega | (simp; omega))]; go_simp; done) | (rw [hfro _ _ (by first | omega | (simp; omega))]; go_simp; done) | (simp [*]; done)))) ((first | (go_at_call 36; refine (V.one _ _ _ _ _ _ _ _ _ _ (by omega) (by omega)).mono ?_; rintro e w' ⟨rfl, hbel⟩; (try (with_reducible replace hbel := bel_undrew hbel)); (try (with_reducible replace hbel := bel_undrewN hbel)); have hbw := bel_step (w := w) (by repeat' (first | (with_reducible exact Below.refl _ _) | (with_reducible assumption) | (with_reducible refine below_drewN ?_ _) | (with_reducible refine Below.alloc ?_ ?_ _) | (with_reducible refine Below.drew ?_) | (with_reducible refine Below.setCell ?_ ?_ _) | (with_reducible exact Below.size (by assumption)) | go_size)) hbel; have hsw := hbw.size; have hsb := hbel.size; (try simp at hsb); (try (refine lay (p := w.heap.size < w'.heap.size) ?_ ?_; rotate_left; intro hq0; rotate_left; omega)); (try (refine lay (p := w.heap.size + 1 < w'.heap.size) ?_ ?_; rotate_left; intro hq1; rotate_left; omega)); (try (refine lay (p := w.heap.size + 2 < w'.heap.size) ?_ ?_; rotate_left; intro hq2; rotate_left; omega)); (try (refine lay (p := w.heap.size + 3 < w'.heap.size) ?_ ?_; rotate_left; intro hq3; rotate_left; omega)); (try (refine lay (p := w.heap.size + 4 < w'.heap.size) ?_ ?_; rotate_left; intro hq4; rotate_left; omega)); (try (refine lay (p := w.heap.size + 5 < w'.heap.size) ?_ ?_; rotate_left; intro hq5; rotate_left; omega)); obtain ⟨hcel, hfro⟩ := bcell hbel; clear hbel) | (go_at_call 18; refine (V.ImmS _ _ (by omega) (by omega)).mono ?_; rintro e w' ⟨rfl, hbel⟩; (try (with_reducible replace hbel := bel_undrew hbel)); (try (with_reducible replace hbel := bel_undrewN hbel)); have hbw := bel_step (w := w) (by repeat' (first | (with_reducible exact Below.refl _ _) | (with_reducible assumption) | (with_reducible refine below_drewN ?_ _) | (with_reducible refine Below.alloc ?_ ?_ _) | (with_reducible refine Below.drew ?_) | (with_reducible refine Below.setCell ?_ ?_ _) | (with_reducible exact Below.size (by assumption)) | go_size)) hbel; have hsw := hbw.size; have hsb := hbel.size; (try simp at hsb); (try (refine lay (p := w.heap.size < w'.heap.size) ?_ ?_; rotate_left; intro hq0; rotate_left; omega)); (try (refine lay (p := w.heap.size + 1 < w'.heap.size) ?_ ?_; rotate_left; intro hq1; rotate_left; omega)); (try (refine lay (p := w.heap.size + 2 < w'.heap.size) ?_ ?_; rotate_left; intro hq2; rotate_left; omega)); (try (refine lay (p := w.heap.size + 3 < w'.heap.size) ?_ ?_; rotate_left; intro hq3; rotate_left; omega)); (try (refine lay (p := w.heap.size + 4 < w'.heap.size) ?_ ?_; rotate_left; intro hq4; rotate_left; omega)); (try (refine lay (p := w.heap.size + 5 < w'.heap.size) ?_ ?_; rotate_left; intro hq5; rotate_left; omega)); obtain ⟨hcel, hfro⟩ := bcell hbel; clear hbel)))
  clear p0 p1 p2 p3 p4 p5 i0 i1 i2 i3 i4 ifr
  rename _ < _ ∧ _ => hH
  obtain ⟨s1, s2, q0, q1, q2, q3, q4, q5, e0, e1, e2, e3, e4, g0, g1, g2, g3, g4⟩ := hH
  obtain ⟨hA, hT, hbF⟩ := after (hz3.out.below hbw hz3.out.lt) (b := pb + 1) (by omega) (bel_step hbw0 hbw) (by omega) s1 e0 e1 e2 e3 e4 g0 g1 g2 g3 g4
  clear s1 s2 q0 q1 q2 q3 q4 q5 e0 e1 e2 e3 e4 g0 g1 g2 g3 g4
  generalize World.setCell _ ⟨pb + 1, 4, none⟩ _ = wf at *
  obtain ⟨s1, c0, c1, c2, c3, c4, g0, g1, g2, g3, g4⟩ := hA
  obtain ⟨tl, t0, t1, t2, t3, t4, tf⟩ := hT
  have hN : Hid (opN x = pick [16, 17, 18, 0, 0, 0, 0, 0] (fld x 12 3)) := hid (opN_store HC.out)
  have hp : Hid (pick [16, 17, 18, 0, 0, 0, 0, 0] (fld x 12 3) = 0 ∨ form (pick [16, 17, 18, 0, 0, 0, 0, 0] (fld x 12 3)) = 5) := hid (pick_form (l := [16, 17, 18, 0, 0, 0, 0, 0]) f0 f1 (f := 5) (by decide))
  go_wp2
  · have hz : (pick [16, 17, 18, 0, 0, 0, 0, 0] (fld x 12 3) == 0) = true := by assumption
    rw [beq_iff_eq] at hz
    refine bodyPost_ret (v := .tuple #[.agg #[.int .i64 0, .int .i64 0, .int .i64 0, .int .i64 0, .int .i32 0], .bool false]) (by simp [results, Try.results13, go_sem, t0, t1, t2, t3, t4]) rfl ⟨by rw [decV_none (hN.out.trans hz)], (by repeat' (first | (with_reducible exact Below.refl _ _) | (with_reducible assumption) | (with_reducible refine below_drewN ?_ _) | (with_reducible refine Below.alloc ?_ ?_ _) | (with_reducible refine Below.drew ?_) | (with_reducible refine Below.setCell ?_ ?_ _) | (with_reducible exact Below.size (by assumption)) | go_size))⟩
  · have hz : (pick [16, 17, 18, 0, 0, 0, 0, 0] (fld x 12 3) == 0) = false := by assumption
    rw [beq_eq_false_iff_ne] at hz
    refine bodyPost_ret (v := .tuple #[.agg #[.int .i64 (pick [16, 17, 18, 0, 0, 0, 0, 0] (fld x 12 3)), .int .i64 0, .int .i64 (fld x 15 5), .int .i64 (fld x 20 5), .int .i32 (immS x)], .bool true]) (by simp [results, Try.results13, go_sem, t0, t1, t2, t3, t4]) rfl ⟨by rw [decV_some hN.out hz (hp.out.resolve_left hz)]; rfl, (by repeat' (first | (with_reducible exact Below.refl _ _) | (with_reducible assumption) | (with_reducible refine below_drewN ?_ _) | (with_reducible refine Below.alloc ?_ ?_ _) | (with_reducible refine Below.drew ?_) | (with_reducible refine Below.setCell ?_ ?_ _) | (with_reducible exact Below.size (by assumption)) | go_size))⟩

set_option maxHeartbeats 1000000 in
theorem Dec_jalr (x : Int) (w00 : World) (h0 : 0 ≤ x) (h1 : x < 4294967296) (hc : x % 128 = 103) :
    Calls Try.prog 13 #[.int .u32 x] w00 fun e w' => e = .returned (decV x) ∧ Below w00.heap.size w00 w' := by
  obtain ⟨f0, f1⟩ := f3_bd x
  have hb := and127 x 103 h0 h1 hc
  have HC := hid hc
  clear hc
  go_enter Try.func13, Try.ntmps13
  go_wp2_with fail
  have hz0 := Zero.new w00 25
  have hb0 : Below w00.heap.size w00 (w00.alloc (.cells #[.int .i64 0, .int .i64 0, .int .i64 0, .int .i64 0, .int .i32 0] 25)) := (Below.refl _ _).alloc (Nat.le_refl _) _
  generalize w00.alloc (.cells #[.int .i64 0, .int .i64 0, .int .i64 0, .int .i64 0, .int .i32 0] 25) = w1 at *
  refine (V.cut _ _ h0 h1).mono ?_
  rintro e w2 ⟨rfl, hb2⟩
  have hz2 := hz0.below hb2 hz0.lt
  have hb2' := bel_step hb0 hb2
  clear hz0 hb0 hb2 w1
  have hP0 := Parts.new w2 48 x
  have hI0 := Zero.new (w2.alloc (.cells #[.int .u32 x, .int .i64 (fld x 7 5), .int .i64 (fld x 12 3), .int .i64 (fld x 15 5), .int .i64 (fld x 20 5), .int .u32 (fld x 25 7)] 48)) 25
  rw [World.size_alloc] at hI0
  have hq := Parts.below hP0 ((Below.refl _ _).alloc (Nat.le_refl _) (.cells #[.int .i64 0, .int .i64 0, .int .i64 0, .int .i64 0, .int .i32 0] 25)) hP0.lt
  have hb3 : Below w2.heap.size w2 ((w2.alloc (.cells #[.int .u32 x, .int .i64 (fld x 7 5), .int .i64 (fld x 12 3), .int .i64 (fld x 15 5), .int .i64 (fld x 20 5), .int .u32 (fld x 25 7)] 48)).alloc (.cells #[.int .i64 0, .int .i64 0, .int .i64 0, .int .i64 0, .int .i32 0] 25)) := ((Below.refl _ _).alloc (Nat.le_refl _) _).alloc (by simp) _
  have hz3 := hid (hz2.below hb3 hz2.lt)
  have hbw0 := bel_step hb2' hb3
  have hlt : w00.heap.size < w2.heap.size := hz2.lt
  have hP := hid hq
  have hI := hid hI0
  clear hz2 hq hb2' hb3 hP0 hI0
  go_wp2_with fail
  generalize (w2.alloc (.cells #[.int .u32 x, .int .i64 (fld x 7 5), .int .i64 (fld x 12 3), .int .i64 (fld x 15 5), .int .i64 (fld x 20 5), .int .u32 (fld x 25 7)] 48)).alloc (.cells #[.int .i64 0, .int .i64 0, .int .i64 0, .int .i64 0, .int .i32 0] 25) = w at *
  generalize w2.heap.size = pb at *
  obtain ⟨pl, p0, p1, p2, p3, p4, p5⟩ := hP.out
  obtain ⟨il, i0, i1, i2, i3, i4, ifr⟩ := hI.out
  clear hP hI
  go_region_held3 (fun W => pb + 1 < W.heap.size ∧ pb < W.heap.size ∧ W.cell? ⟨pb, 0, none⟩ = some (.int .u32 x) ∧ W.cell? ⟨pb, 1, none⟩ = some (.int .i64 (fld x 7 5)) ∧ W.cell? ⟨pb, 2, none⟩ = some (.int .i64 (fld x 12 3)) ∧ W.cell? ⟨pb, 3, none⟩ = some (.int .i64 (fld x 15 5)) ∧ W.cell? ⟨pb, 4, none⟩ = some (.int .i64 (fld x 20 5)) ∧ W.cell? ⟨pb, 5, none⟩ = some (.int .u32 (fld x 25 7)) ∧ W.cell? ⟨pb + 1, 0, none⟩ = some (cellv W ⟨pb + 1, 0, none⟩) ∧ W.cell? ⟨pb + 1, 1, none⟩ = some (cellv W ⟨pb + 1, 1, none⟩) ∧ W.cell? ⟨pb + 1, 2, none⟩ = some (cellv W ⟨pb + 1, 2, none⟩) ∧ W.cell? ⟨pb + 1, 3, none⟩ = some (cellv W ⟨pb + 1, 3, none⟩) ∧ W.cell? ⟨pb + 1, 4, none⟩ = some (cellv W ⟨pb + 1, 4, none⟩) ∧ W.frozen? ⟨pb + 1, 0, none⟩ = false ∧ W.frozen? ⟨pb + 1, 1, none⟩ = false ∧ W.frozen? ⟨pb + 1, 2, none⟩ = false ∧ W.frozen? ⟨pb + 1, 3, none⟩ = false ∧ W.frozen? ⟨pb + 1, 4, none⟩ = false) (((repeat' (refine And.intro ?_ ?_)) <;> (first | omega | (go_simp; done) | (refine cell_is ?_; go_simp; done) | (rw [hcel _ _ (by first | omega | (simp; omega))]; go_simp; done) | (rw [hfro _ _ (by first | omega | (simp; omega))]; go_simp; done) | (simp [*]; done)))) ((first | (go_at_call 35; refine (V.loads _ _ _ _ _ _ _ _ (by omega) (by omega)).mono ?_; rintro e w' ⟨rfl, hbel⟩; (try (with_reducible replace hbel := bel_undrew hbel)); (try (with_reducible replace hbel := bel_undrewN hbel)); have hbw := bel_step (w := w) (by repeat' (first | (with_reducible exact Below.refl _ _) | (with_reducible assumption) | (with_reducible refine below_drewN ?_ _) | (with_reducible refine Below.alloc ?_ ?_ _) | (with_reducible refine Below.drew ?_) | (with_reducible refine Below.setCell ?_ ?_ _) | (with_reducible exact Below.size (by assumption)) | go_size)) hbel; have hsw := hbw.size; have hsb := hbel.size; (try simp at hsb); (try (refine lay (p := w.heap.size < w'.heap.size) ?_ ?_; rotate_left; intro hq0; rotate_left; omega)); (try (refine lay (p := w.heap.size + 1 < w'.heap.size) ?_ ?_; rotate_left; intro hq1; rotate_left; omega)); (try (refine lay (p := w.heap.size + 2 < w'.heap.size) ?_ ?_; rotate_left; intro hq2; rotate_left; omega)); (try (refine lay (p := w.heap.size + 3 < w'.heap.size) ?_ ?_; rotate_left; intro hq3; rotate_left; omega)); (try (refine lay (p := w.heap.size + 4 < w'.heap.size) ?_ ?_; rotate_left; intro hq4; rotate_left; omega)); (try (refine lay (p := w.heap.size + 5 < w'.heap.size) ?_ ?_; rotate_left; intro hq5; rotate_left; omega)); obtain ⟨hcel, hfro⟩ := bcell hbel; clear hbel) | (go_at_call 16; refine (V.ImmI _ _ (by omega) (by omega)).mono ?_; rintro e w' ⟨rfl, hbel⟩; (try (with_reducible replace hbel := bel_undrew hbel)); (try (with_reducible replace hbel := bel_undrewN hbel)); have hbw := bel_step (w := w) (by repeat' (first | (with_reducible exact Below.refl _ _) | (with_reducible assumption) | (with_reducible refine below_drewN ?_ _) | (with_reducible refine Below.alloc ?_ ?_ _) | (with_reducible refine Below.drew ?_) | (with_reducible refine Below.setCell ?_ ?_ _) | (with_reducible exact Below.size (by assumption)) | go_size)) hbel; have hsw := hbw.size; have hsb := hbel.size; (try simp at hsb); (try (refine lay (p := w.heap.size < w'.heap.size) ?_ ?_; rotate_left; intro hq0; rotate_left; omega)); (try (refine lay (p := w.heap.size + 1 < w'.heap.size) ?_ ?_; rotate_left; intro hq1; rotate_left; omega)); (try (refine lay (p := w.heap.size + 2 < w'.heap.size) ?_ ?_; rotate_left; intro hq2; rotate_left; omega)); (try (refine lay (p := w.heap.size + 3 < w'.heap.size) ?_ ?_; rotate_left; intro hq3; rotate_left; omega)); (try (refine lay (p := w.heap.size + 4 < w'.heap.size) ?_ ?_; rotate_left; intro hq4; rotate_left; omega)); (try (refine lay (p := w.heap.size + 5 < w'.heap.size) ?_ ?_; rotate_left; intro hq5; rotate_left; omega)); obtain ⟨hcel, hfro⟩ := bcell hbel; clear hbel)))
  clear p0 p1 p2 p3 p4 p5 i0 i1 i2 i3 i4 ifr
  rename _ < _ ∧ _ => hH
  obtain ⟨s1, s2, q0, q1, q2, q3, q4, q5, e0, e1, e2, e3, e4, g0, g1, g2, g3, g4⟩ := hH
  obtain ⟨hA, hT, hbF⟩ := after (hz3.out.below hbw hz3.out.lt) (b := pb + 1) (by omega) (bel_step hbw0 hbw) (by omega) s1 e0 e1 e2 e3 e4 g0 g1 g2 g3 g4
  clear s1 s2 q0 q1 q2 q3 q4 q5 e0 e1 e2 e3 e4 g0 g1 g2 g3 g4
  generalize World.setCell _ ⟨pb + 1, 4, none⟩ _ = wf at *
  obtain ⟨s1, c0, c1, c2, c3, c4, g0, g1, g2, g3, g4⟩ := hA
  obtain ⟨tl, t0, t1, t2, t3, t4, tf⟩ := hT
  have hN : Hid (opN x = loadOp (fld x 12 3) true) := hid (opN_jalr HC.out)
  have hp : Hid (loadOp (fld x 12 3) true = 0 ∨ form (loadOp (fld x 12 3) true) = 4) := hid (pick_form (l := [4, 0, 0, 0, 0, 0, 0, 0]) f0 f1 (f := 4) (by decide))
  go_wp2
  · have hz : (loadOp (fld x 12 3) true == 0) = true := by assumption
    rw [beq_iff_eq] at hz
    refine bodyPost_ret (v := .tuple #[.agg #[.int .i64 0, .int .i64 0, .int .i64 0, .int .i64 0, .int .i32 0], .bool false]) (by simp [results, Try.results13, go_sem, t0, t1, t2, t3, t4]) rfl ⟨by rw [decV_none (hN.out.trans hz)], (by repeat' (first | (with_reducible exact Below.refl _ _) | (with_reducible assumption) | (with_reducible refine below_drewN ?_ _) | (with_reducible refine Below.alloc ?_ ?_ _) | (with_reducible refine Below.drew ?_) | (with_reducible refine Below.setCell ?_ ?_ _) | (with_reducible exact Below.size (by assumption)) | go_size))⟩
  · have hz : (loadOp (fld x 12 3) true == 0) = false := by assumption
    rw [beq_eq_false_iff_ne] at hz
    refine bodyPost_ret (v := .tuple #[.agg #[.int .i64 (loadOp (fld x 12 3) true), .int .i64 (fld x 7 5), .int .i64 (fld x 15 5), .int .i64 0, .int .i32 (immI x)], .bool true]) (by simp [results, Try.results13, go_sem, t0, t1, t2, t3, t4]) rfl ⟨by rw [decV_some hN.out hz (hp.out.resolve_left hz)]; rfl, (by repeat' (first | (with_reducible exact Below.refl _ _) | (with_reducible assumption) | (with_reducible refine below_drewN ?_ _) | (with_reducible refine Below.alloc ?_ ?_ _) | (with_reducible refine Below.drew ?_) | (with_reducible refine Below.setCell ?_ ?_ _) | (with_reducible exact Below.size (by assumption)) | go_size))⟩

set_option maxHeartbeats 1000000 in
theorem Dec_load (x : Int) (w00 : World) (h0 : 0 ≤ x) (h1 : x < 4294967296) (hc : x % 128 = 3) :
    Calls Try.prog 13 #[.int .u32 x] w00 fun e w' => e = .returned (decV x) ∧ Below w00.heap.size w00 w' := by
  obtain ⟨f0, f1⟩ := f3_bd x
  have hb := and127 x 3 h0 h1 hc
  have HC := hid hc
  clear hc
  go_enter Try.func13, Try.ntmps13
  go_wp2_with fail
  have hz0 := Zero.new w00 25
  have hb0 : Below w00.heap.size w00 (w00.alloc (.cells #[.int .i64 0, .int .i64 0, .int .i64 0, .int .i64 0, .int .i32 0] 25)) := (Below.refl _ _).alloc (Nat.le_refl _) _
  generalize w00.alloc (.cells #[.int .i64 0, .int .i64 0, .int .i64 0, .int .i64 0, .int .i32 0] 25) = w1 at *
  refine (V.cut _ _ h0 h1).mono ?_
  rintro e w2 ⟨rfl, hb2⟩
  have hz2 := hz0.below hb2 hz0.lt
  have hb2' := bel_step hb0 hb2
  clear hz0 hb0 hb2 w1
  have hP0 := Parts.new w2 48 x
  have hI0 := Zero.new (w2.alloc (.cells #[.int .u32 x, .int .i64 (fld x 7 5), .int .i64 (fld x 12 3), .int .i64 (fld x 15 5), .int .i64 (fld x 20 5), .int .u32 (fld x 25 7)] 48)) 25
  rw [World.size_alloc] at hI0
  have hq := Parts.below hP0 ((Below.refl _ _).alloc (Nat.le_refl _) (.cells #[.int .i64 0, .int .i64 0, .int .i64 0, .int .i64 0, .int .i32 0] 25)) hP0.lt
  have hb3 : Below w2.heap.size w2 ((w2.alloc (.cells #[.int .u32 x, .int .i64 (fld x 7 5), .int .i64 (fld x 12 3), .int .i64 (fld x 15 5), .int .i64 (fld x 20 5), .int .u32 (fld x 25 7)] 48)).alloc (.cells #[.int .i64 0, .int .i64 0, .int .i64 0, .int .i64 0, .int .i32 0] 25)) := ((Below.refl _ _).alloc (Nat.le_refl _) _).alloc (by simp) _
  have hz3 := hid (hz2.below hb3 hz2.lt)
  have hbw0 := bel_step hb2' hb3
  have hlt : w00.heap.size < w2.heap.size := hz2.lt
  have hP := hid hq
  have hI := hid hI0
  clear hz2 hq hb2' hb3 hP0 hI0
  go_wp2_with fail
  generalize (w2.alloc (.cells #[.int .u32 x, .int .i64 (fld x 7 5), .int .i64 (fld x 12 3), .int .i64 (fld x 15 5), .int .i64 (fld x 20 5), .int .u32 (fld x 25 7)] 48)).alloc (.cells #[.int .i64 0, .int .i64 0, .int .i64 0, .int .i64 0, .int .i32 0] 25) = w at *
  generalize w2.heap.size = pb at *
  obtain ⟨pl, p0, p1, p2, p3, p4, p5⟩ := hP.out
  obtain ⟨il, i0, i1, i2, i3, i4, ifr⟩ := hI.out
  clear hP hI
  go_region_held3 (fun W => pb + 1 < W.heap.size ∧ pb < W.heap.size ∧ W.cell? ⟨pb, 0, none⟩ = some (.int .u32 x) ∧ W.cell? ⟨pb, 1, none⟩ = some (.int .i64 (fld x 7 5)) ∧ W.cell? ⟨pb, 2, none⟩ = some (.int .i64 (fld x 12 3)) ∧ W.cell? ⟨pb, 3, none⟩ = some (.int .i64 (fld x 15 5)) ∧ W.cell? ⟨pb, 4, none⟩ = some (.int .i64 (fld x 20 5)) ∧ W.cell? ⟨pb, 5, none⟩ = some (.int .u32 (fld x 25 7)) ∧ W.cell? ⟨pb + 1, 0, none⟩ = some (cellv W ⟨pb + 1, 0, none⟩) ∧ W.cell? ⟨pb + 1, 1, none⟩ = some (cellv W ⟨pb + 1, 1, none⟩) ∧ W.cell? ⟨pb + 1, 2, none⟩ = some (cellv W ⟨pb + 1, 2, none⟩) ∧ W.cell? ⟨pb + 1, 3, none⟩ = some (cellv W ⟨pb + 1, 3, none⟩) ∧ W.cell? ⟨pb + 1, 4, none⟩ = some (cellv W ⟨pb + 1, 4, none⟩) ∧ W.frozen? ⟨pb + 1, 0, none⟩ = false ∧ W.frozen? ⟨pb + 1, 1, none⟩ = false ∧ W.frozen? ⟨pb + 1, 2, none⟩ = false ∧ W.frozen? ⟨pb + 1, 3, none⟩ = false ∧ W.frozen? ⟨pb + 1, 4, none⟩ = false) (((repeat' (refine And.intro ?_ ?_)) <;> (first | omega | (go_simp; done) | (refine cell_is ?_; go_simp; done) | (rw [hcel _ _ (by first | omega | (simp; omega))]; go_simp; done) | (rw [hfro _ _ (by first | omega | (simp; omega))]; go_simp; done) | (simp [*]; done)))) ((first | (go_at_call 35; refine (V.loads _ _ _ _ _ _ _ _ (by omega) (by omega)).mono ?_; rintro e w' ⟨rfl, hbel⟩; (try (with_reducible replace hbel := bel_undrew hbel)); (try (with_reducible replace hbel := bel_undrewN hbel)); have hbw := bel_step (w := w) (by repeat' (first | (with_reducible exact Below.refl _ _) | (with_reducible assumption) | (with_reducible refine below_drewN ?_ _) | (with_reducible refine Below.alloc ?_ ?_ _) | (with_reducible refine Below.drew ?_) | (with_reducible refine Below.setCell ?_ ?_ _) | (with_reducible exact Below.size (by assumption)) | go_size)) hbel; have hsw := hbw.size; have hsb := hbel.size; (try simp at hsb); (try (refine lay (p := w.heap.size < w'.heap.size) ?_ ?_; rotate_left; intro hq0; rotate_left; omega)); (try (refine lay (p := w.heap.size + 1 < w'.heap.size) ?_ ?_; rotate_left; intro hq1; rotate_left; omega)); (try (refine lay (p := w.heap.size + 2 < w'.heap.size) ?_ ?_; rotate_left; intro hq2; rotate_left; omega)); (try (refine lay (p := w.heap.size + 3 < w'.heap.size) ?_ ?_; rotate_left; intro hq3; rotate_left; omega)); (try (refine lay (p := w.heap.size + 4 < w'.heap.size) ?_ ?_; rotate_left; intro hq4; rotate_left; omega)); (try (refine lay (p := w.heap.size + 5 < w'.heap.size) ?_ ?_; rotate_left; intro hq5; rotate_left; omega)); obtain ⟨hcel, hfro⟩ := bcell hbel; clear hbel) | (go_at_call 16; refine (V.ImmI _ _ (by omega) (by omega)).mono ?_; rintro e w' ⟨rfl, hbel⟩; (try (with_reducible replace hbel := bel_undrew hbel)); (try (with_reducible replace hbel := bel_undrewN hbel)); have hbw := bel_step (w := w) (by repeat' (first | (with_reducible exact Below.refl _ _) | (with_reducible assumption) | (with_reducible refine below_drewN ?_ _) | (with_reducible refine Below.alloc ?_ ?_ _) | (with_reducible refine Below.drew ?_) | (with_reducible refine Below.setCell ?_ ?_ _) | (with_reducible exact Below.size (by assumption)) | go_size)) hbel; have hsw := hbw.size; have hsb := hbel.size; (try simp at hsb); (try (refine lay (p := w.heap.size < w'.heap.size) ?_ ?_; rotate_left; intro hq0; rotate_left; omega)); (try (refine lay (p := w.heap.size + 1 < w'.heap.size) ?_ ?_; rotate_left; intro hq1; rotate_left; omega)); (try (refine lay (p := w.heap.size + 2 < w'.heap.size) ?_ ?_; rotate_left; intro hq2; rotate_left; omega)); (try (refine lay (p := w.heap.size + 3 < w'.heap.size) ?_ ?_; rotate_left; intro hq3; rotate_left; omega)); (try (refine lay (p := w.heap.size + 4 < w'.heap.size) ?_ ?_; rotate_left; intro hq4; rotate_left; omega)); (try (refine lay (p := w.heap.size + 5 < w'.heap.size) ?_ ?_; rotate_left; intro hq5; rotate_left; omega)); obtain ⟨hcel, hfro⟩ := bcell hbel; clear hbel)))
  clear p0 p1 p2 p3 p4 p5 i0 i1 i2 i3 i4 ifr
  rename _ < _ ∧ _ => hH
  obtain ⟨s1, s2, q0, q1, q2, q3, q4, q5, e0, e1, e2, e3, e4, g0, g1, g2, g3, g4⟩ := hH
  obtain ⟨hA, hT, hbF⟩ := after (hz3.out.below hbw hz3.out.lt) (b := pb + 1) (by omega) (bel_step hbw0 hbw) (by omega) s1 e0 e1 e2 e3 e4 g0 g1 g2 g3 g4
  clear s1 s2 q0 q1 q2 q3 q4 q5 e0 e1 e2 e3 e4 g0 g1 g2 g3 g4
  generalize World.setCell _ ⟨pb + 1, 4, none⟩ _ = wf at *
  obtain ⟨s1, c0, c1, c2, c3, c4, g0, g1, g2, g3, g4⟩ := hA
  obtain ⟨tl, t0, t1, t2, t3, t4, tf⟩ := hT
  have hN : Hid (opN x = loadOp (fld x 12 3) false) := hid (opN_load HC.out)
  have hp : Hid (loadOp (fld x 12 3) false = 0 ∨ form (loadOp (fld x 12 3) false) = 4) := hid (pick_form (l := [11, 12, 13, 0, 14, 15, 0, 0]) f0 f1 (f := 4) (by decide))
  go_wp2
  · have hz : (loadOp (fld x 12 3) false == 0) = true := by assumption
    rw [beq_iff_eq] at hz
    refine bodyPost_ret (v := .tuple #[.agg #[.int .i64 0, .int .i64 0, .int .i64 0, .int .i64 0, .int .i32 0], .bool false]) (by simp [results, Try.results13, go_sem, t0, t1, t2, t3, t4]) rfl ⟨by rw [decV_none (hN.out.trans hz)], (by repeat' (first | (with_reducible exact Below.refl _ _) | (with_reducible assumption) | (with_reducible refine below_drewN ?_ _) | (with_reducible refine Below.alloc ?_ ?_ _) | (with_reducible refine Below.drew ?_) | (with_reducible refine Below.setCell ?_ ?_ _) | (with_reducible exact Below.size (by assumption)) | go_size))⟩
  · have hz : (loadOp (fld x 12 3) false == 0) = false := by assumption
    rw [beq_eq_false_iff_ne] at hz
    refine bodyPost_ret (v := .tuple #[.agg #[.int .i64 (loadOp (fld x 12 3) false), .int .i64 (fld x 7 5), .int .i64 (fld x 15 5), .int .i64 0, .int .i32 (immI x)], .bool true]) (by simp [results, Try.results13, go_sem, t0, t1, t2, t3, t4]) rfl ⟨by rw [decV_some hN.out hz (hp.out.resolve_left hz)]; rfl, (by repeat' (first | (with_reducible exact Below.refl _ _) | (with_reducible assumption) | (with_reducible refine below_drewN ?_ _) | (with_reducible refine Below.alloc ?_ ?_ _) | (with_reducible refine Below.drew ?_) | (with_reducible refine Below.setCell ?_ ?_ _) | (with_reducible exact Below.size (by assumption)) | go_size))⟩

end Go.Proofs.Ytplhoiokfjjcdaa.V
