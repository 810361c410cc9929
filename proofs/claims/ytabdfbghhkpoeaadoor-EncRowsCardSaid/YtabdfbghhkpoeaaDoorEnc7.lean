/- What enc.Get computes. -/
import Derived.Test.YtabdfbghhkpoeaaDoorEnc6
import Derived.Deep.RegionHeld3
import Derived.Deep.Cut
import Derived.Deep.DeepCutAuto
namespace Go.Proofs.YtabdfbghhkpoeaaDoor.E
set_option linter.unusedVariables false
set_option linter.unusedSimpArgs false
open Go.ChangeShapes Go.WideShapes Go.ChangeAt Go.RowKit Go.Proofs.YtabdfbghhkpoeaaDoor.P Go.Proofs.YtabdfbghhkpoeaaDoor.W

/-- what is known behind the boxes and the row of enc.Get -/
structure GetW (b : Nat) (w0 w : World) (x : Int) (rb : Nat) (op m k : Int) : Prop where
  bel : Below b w0 w
  lx : b < w.heap.size
  ly : b + 1 < w.heap.size
  lr : rb < w.heap.size
  ne : rb ≠ b + 1
  cx : w.cell? ⟨b, 0, none⟩ = some (.int .u32 x)
  z0 : w.cell? ⟨b + 1, 0, none⟩ = some (.int .i64 0)
  z1 : w.cell? ⟨b + 1, 1, none⟩ = some (.int .i64 0)
  z2 : w.cell? ⟨b + 1, 2, none⟩ = some (.int .i64 0)
  z3 : w.cell? ⟨b + 1, 3, none⟩ = some (.int .i64 0)
  z4 : w.cell? ⟨b + 1, 4, none⟩ = some (.int .i32 0)
  f0 : w.frozen? ⟨b + 1, 0, none⟩ = false
  f1 : w.frozen? ⟨b + 1, 1, none⟩ = false
  f2 : w.frozen? ⟨b + 1, 2, none⟩ = false
  f3 : w.frozen? ⟨b + 1, 3, none⟩ = false
  f4 : w.frozen? ⟨b + 1, 4, none⟩ = false
  c0 : w.cell? ⟨rb, 0, none⟩ = some (.int .i64 op)
  c1 : w.cell? ⟨rb, 1, none⟩ = some (.int .u32 m)
  c2 : w.cell? ⟨rb, 2, none⟩ = some (.int .u32 k)
theorem GetW.new {w w4 : World} {x op m k : Int} (t1 t2 t3 : TypeId) (h : Below (w.heap.size + 2) ((w.alloc (.cells #[.int .u32 x] t1)).alloc (.cells #[.int .i64 0, .int .i64 0, .int .i64 0, .int .i64 0, .int .i32 0] t2)) w4) :
    GetW w.heap.size w (w4.alloc (.cells #[.int .i64 op, .int .u32 m, .int .u32 k] t3)) x w4.heap.size op m k := by
  have hs := h.size
  simp only [World.size_alloc] at hs
  have h5 : Below (w.heap.size + 2) ((w.alloc (.cells #[.int .u32 x] t1)).alloc (.cells #[.int .i64 0, .int .i64 0, .int .i64 0, .int .i64 0, .int .i32 0] t2)) (w4.alloc (.cells #[.int .i64 op, .int .u32 m, .int .u32 k] t3)) := h.alloc (by omega) _
  have hc : ∀ o j, o < w.heap.size + 2 → _ = _ := fun o j ho => h5.cell (p := ⟨o, j, none⟩) ho
  have hf : ∀ o j, o < w.heap.size + 2 → _ = _ := fun o j ho => h5.frozen (p := ⟨o, j, none⟩) ho
  have hb0 : Below w.heap.size w ((w.alloc (.cells #[.int .u32 x] t1)).alloc (.cells #[.int .i64 0, .int .i64 0, .int .i64 0, .int .i64 0, .int .i32 0] t2)) := ((Below.refl _ _).alloc (Nat.le_refl _) _).alloc (by simp) _
  refine ⟨hb0.trans (h5.mono (by omega)), by simp; omega, by simp; omega, by simp, by omega, ?_, ?_, ?_, ?_, ?_, ?_, ?_, ?_, ?_, ?_, ?_, by simp, by simp, by simp⟩
  all_goals first | (rw [hc _ _ (by omega)]; go_simp; done) | (rw [hf _ _ (by omega)]; go_simp; done)
theorem GetW.below {b rb : Nat} {w0 w w' : World} {x op m k : Int} (h : GetW b w0 w x rb op m k) (hb : Below w.heap.size w w') : GetW b w0 w' x rb op m k :=
  ⟨h.bel.trans (hb.mono (Nat.le_of_lt h.lx)), Nat.lt_of_lt_of_le h.lx hb.size, Nat.lt_of_lt_of_le h.ly hb.size, Nat.lt_of_lt_of_le h.lr hb.size, h.ne,
   (hb.cell (p := ⟨b, 0, none⟩) h.lx).trans h.cx, (hb.cell (p := ⟨b + 1, 0, none⟩) h.ly).trans h.z0, (hb.cell (p := ⟨b + 1, 1, none⟩) h.ly).trans h.z1, (hb.cell (p := ⟨b + 1, 2, none⟩) h.ly).trans h.z2, (hb.cell (p := ⟨b + 1, 3, none⟩) h.ly).trans h.z3, (hb.cell (p := ⟨b + 1, 4, none⟩) h.ly).trans h.z4,
   (hb.frozen (p := ⟨b + 1, 0, none⟩) h.ly).trans h.f0, (hb.frozen (p := ⟨b + 1, 1, none⟩) h.ly).trans h.f1, (hb.frozen (p := ⟨b + 1, 2, none⟩) h.ly).trans h.f2, (hb.frozen (p := ⟨b + 1, 3, none⟩) h.ly).trans h.f3, (hb.frozen (p := ⟨b + 1, 4, none⟩) h.ly).trans h.f4,
   (hb.cell (p := ⟨rb, 0, none⟩) h.lr).trans h.c0, (hb.cell (p := ⟨rb, 1, none⟩) h.lr).trans h.c1, (hb.cell (p := ⟨rb, 2, none⟩) h.lr).trans h.c2⟩
/-- .. with the cells of the instruction and of its form -/
structure GetI (B : Nat) (w : World) (ib fb : Nat) (op : Int) : Prop where
  li : ib < w.heap.size
  lf : fb < w.heap.size
  bi : B ≤ ib
  bf : B ≤ fb
  ne : ib ≠ fb
  i0 : w.cell? ⟨ib, 0, none⟩ = some (.int .i64 op)
  i1 : w.cell? ⟨ib, 1, none⟩ = some (.int .i64 0)
  i2 : w.cell? ⟨ib, 2, none⟩ = some (.int .i64 0)
  i3 : w.cell? ⟨ib, 3, none⟩ = some (.int .i64 0)
  i4 : w.cell? ⟨ib, 4, none⟩ = some (.int .i32 0)
  g0 : w.frozen? ⟨ib, 0, none⟩ = false
  g1 : w.frozen? ⟨ib, 1, none⟩ = false
  g2 : w.frozen? ⟨ib, 2, none⟩ = false
  g3 : w.frozen? ⟨ib, 3, none⟩ = false
  g4 : w.frozen? ⟨ib, 4, none⟩ = false
  cf : w.cell? ⟨fb, 0, none⟩ = some (.int .i64 (form op))
set_option maxHeartbeats 2000000 in
theorem Get_yes (x : Int) (n : Nat) (w : World) (x0 : 0 ≤ x) (x1 : x < 4294967296) (hn : n < 48) (hlow : ∀ k, k < n → fitB x k = false) (hyes : fitB x n = true) (hT : Tabs w) :
    Calls Tryd.prog 12 #[.int .u32 x] w fun e w' => e = .returned (.tuple #[.agg #[.int .i64 ((n : Int) + 1), .int .i64 (gRd ((n : Int) + 1) x), .int .i64 (gRs1 ((n : Int) + 1) x), .int .i64 (gRs2 ((n : Int) + 1) x), .int .i32 (gImm ((n : Int) + 1) x)], .bool true]) ∧ Below w.heap.size w w' := by
  have hF := fun b pb w hR hp hc => firstGet x n b pb w hn hR hp hc hlow hyes
  rw [encL_op n hn] at hF
  replace hF := hid hF
  clear hlow hyes
  generalize (encL.getD n (0, 0, 0)).2.1 = m at *
  generalize (encL.getD n (0, 0, 0)).2.2 = k at *
  generalize hop : (n : Int) + 1 = op at *
  have ho : 1 ≤ op ∧ op ≤ 48 := by omega
  have hf : 1 ≤ form op ∧ form op ≤ 9 := by
    have := form_bd op
    have : form op ≠ 0 := by
      unfold form; repeat' split
      all_goals omega
    omega
  have HFO := hid (fun w => I.FormOf op w)
  clear hop
  go_enter Tryd.func12, Tryd.ntmps12
  go_wp2_with fail
  refine (Rows _).mono ?_
  rintro e w3 ⟨b, rfl, hR, hbb, hb1⟩
  have cx := (hb1.cell (p := ⟨w.heap.size, 0, none⟩) (by simp; omega)).trans (show _ = some (Value.int IntKind.u32 x) by go_simp)
  go_wp2_with fail
  refine (hF.out b w.heap.size _ hR (by have := hb1.size; simp at this; omega) cx).mono ?_
  rintro e w4 ⟨rfl, hb2⟩
  replace hb1 := bel_step hb1 hb2
  clear hb2 hR cx hbb
  go_upto_region 4 with (fail)
  have G := GetW.new (x := x) (op := op) (m := m) (k := k) 25 23 37 (by simpa using hb1)
  clear hb1
  generalize hrb : w4.heap.size = rb at *
  generalize w4.alloc (.cells #[.int .i64 op, .int .u32 m, .int .u32 k] 37) = w5 at *
  clear hrb
  have c0 := G.c0
  have lr := G.lr
  have hG := hid G
  clear G
  go_cut [6, 7] (fun i6 i7 wx => ∃ ib fb : Nat, i6 = .pointer (some ⟨ib, 0, none⟩) ∧ i7 = .pointer (some ⟨fb, 0, none⟩) ∧ Below w5.heap.size w5 wx ∧ GetI w5.heap.size wx ib fb op)
  case first =>
    go_region_held3 (fun W => rb < W.heap.size ∧ W.cell? ⟨rb, 0, none⟩ = some (.int .i64 op)) (((repeat' (refine And.intro ?_ ?_)) <;> (first | omega | (go_simp; done) | (refine cell_is ?_; go_simp; done) | (rw [hcel _ _ (by first | omega | (simp; omega))]; go_simp; done) | (rw [hfro _ _ (by first | omega | (simp; omega))]; go_simp; done) | (simp [*]; done)))) ((go_at_call 19; (with_reducible refine (HFO.out _).mono ?_); rintro e w' ⟨rfl, rfl⟩))
    all_goals (go_wp2_with fail; go_meet)
    all_goals exact ⟨_, _, rfl, rfl, (by repeat' (first | (with_reducible exact Below.refl _ _) | (with_reducible assumption) | (with_reducible refine below_drewN ?_ _) | (with_reducible refine Below.alloc ?_ ?_ _) | (with_reducible refine Below.drew ?_) | (with_reducible refine Below.setCell ?_ ?_ _) | (with_reducible exact Below.size (by assumption)) | go_size)), (by constructor <;> first | (simp; done) | (simp; omega) | (go_simp; done))⟩
  case rest =>
    obtain ⟨ib, fb, rfl, rfl, hb6, hI⟩ := hcut
    have G6 := hG.out.below hb6
    have hl5 := hG.out.ly
    have HT := hid (hT.below (G6.bel))
    have HT0 := hid hT
    clear hG hb6 c0 lr hT HFO hF
    obtain ⟨li, lf, bi, bf, nei, i0, i1, i2, i3, i4, g0, g1, g2, g3, g4, cf⟩ := hI
    obtain ⟨bel, lx, ly, lr, ner, cx, z0, z1, z2, z3, z4, f0, f1, f2, f3, f4, -, -, -⟩ := G6
    generalize hB : w.heap.size = B at *
    have HB := hid hB
    clear hB
    have nf : fb ≠ ib := fun e => nei e.symm
    have nb : B ≠ ib := by omega
    have nb1 : B + 1 ≠ ib := by omega
    have ni1 : ib ≠ B + 1 := by omega
    clear bf ner lr
    obtain ⟨rb1, rb2, rb4⟩ := regs_bits (form op) hf
    have hP1 : Calls Tryd.prog 35 #[.int .i64 1, .int .i64 7, .pointer (some ⟨fb, 0, none⟩), .pointer (some ⟨B, 0, none⟩)] wc fun e w' => e = .returned (.int .i64 (gRd op x)) ∧ ∃ n, w' = wc.drewN n := by
      have h := part 1 7 (form op) x fb B wc x0 x1 hf ⟨by omega, by omega⟩ HT.out cf cx
      have e : (if bits .and .i64 (regsV (form op)) 1 = 0 then 0 else fld x (7 : Int).toNat 5) = gRd op x := by
        unfold gRd; cases hh : hasRd (form op)
        · rw [if_pos (rb1.2 hh)]; rfl
        · rw [if_neg (fun h0 => by rw [rb1.1 h0] at hh; cases hh)]; rfl
      rw [e] at h; exact h
    have hP2 : ∀ q, Calls Tryd.prog 35 #[.int .i64 2, .int .i64 15, .pointer (some ⟨fb, 0, none⟩), .pointer (some ⟨B, 0, none⟩)] (wc.drewN q) fun e w' => e = .returned (.int .i64 (gRs1 op x)) ∧ ∃ n, w' = (wc.drewN q).drewN n := fun q => by
      have h := part 2 15 (form op) x fb B (wc.drewN q) x0 x1 hf ⟨by omega, by omega⟩ (HT.out.below (below_drewN (Below.refl _ _) _)) cf cx
      have e : (if bits .and .i64 (regsV (form op)) 2 = 0 then 0 else fld x (15 : Int).toNat 5) = gRs1 op x := by
        unfold gRs1; cases hh : hasRs1 (form op)
        · rw [if_pos (rb2.2 hh)]; rfl
        · rw [if_neg (fun h0 => by rw [rb2.1 h0] at hh; cases hh)]; rfl
      rw [e] at h; exact h
    have hP3 : ∀ q, Calls Tryd.prog 35 #[.int .i64 4, .int .i64 20, .pointer (some ⟨fb, 0, none⟩), .pointer (some ⟨B, 0, none⟩)] (wc.drewN q) fun e w' => e = .returned (.int .i64 (gRs2 op x)) ∧ ∃ n, w' = (wc.drewN q).drewN n := fun q => by
      have h := part 4 20 (form op) x fb B (wc.drewN q) x0 x1 hf ⟨by omega, by omega⟩ (HT.out.below (below_drewN (Below.refl _ _) _)) cf cx
      have e : (if bits .and .i64 (regsV (form op)) 4 = 0 then 0 else fld x (20 : Int).toNat 5) = gRs2 op x := by
        unfold gRs2; cases hh : hasRs2 (form op)
        · rw [if_pos (rb4.2 hh)]; rfl
        · rw [if_neg (fun h0 => by rw [rb4.1 h0] at hh; cases hh)]; rfl
      rw [e] at h; exact h
    have HP1 := hid hP1
    have HP2 := hid hP2
    have HP3 := hid hP3
    have HI := hid (show gImm op x = if form op = 8 ∨ form op = 9 then 0 else readV (form op) x from rfl)
    clear hP1 hP2 hP3 rb1 rb2 rb4
    generalize hr1 : gRd op x = r1 at *
    have Hr1 := hid hr1
    clear hr1
    generalize hr2 : gRs1 op x = r2 at *
    have Hr2 := hid hr2
    clear hr2
    generalize hr3 : gRs2 op x = r3 at *
    have Hr3 := hid hr3
    clear hr3
    generalize him : gImm op x = im at *
    have Him := hid him
    clear him
    generalize form op = f at *
    have h8 : (f = 8) ∨ (f = 9) ∨ ((f != 8) = true ∧ (f != 9) = true ∧ f ≤ 7) := by
      by_cases y8 : f = 8
      · exact .inl y8
      · by_cases y9 : f = 9
        · exact .inr (.inl y9)
        · exact .inr (.inr ⟨by simpa using y8, by simpa using y9, by omega⟩)
    have hbi : B ≤ ib := by omega
    obtain ⟨hf0, hf1⟩ := hf
    rcases h8 with rfl | rfl | ⟨k8, k9, k7⟩
    all_goals
      go_wp2_with (first | (go_at_call 35; (with_reducible refine (HP1.out).mono ?_); rintro e w' ⟨rfl, q, rfl⟩) | (go_at_call 35; (with_reducible refine (HP2.out _).mono ?_); rintro e w' ⟨rfl, q, rfl⟩) | (go_at_call 35; (with_reducible refine (HP3.out _).mono ?_); rintro e w' ⟨rfl, q, rfl⟩) | (go_at_call 37; (refine (read f x _ x0 x1 ⟨by omega, by omega⟩ (Tabs.below HT0.out (by rw [HB.out]; exact (by repeat' (first | (with_reducible exact Below.refl _ _) | (with_reducible assumption) | (with_reducible refine below_drewN ?_ _) | (with_reducible refine Below.alloc ?_ ?_ _) | (with_reducible refine Below.drew ?_) | (with_reducible refine Below.setCell ?_ ?_ _) | (with_reducible exact Below.size (by assumption)) | go_size))))).mono ?_); rintro e w' ⟨rfl, q2, rfl⟩))
      first | (refine bodyPost_ret (v := .tuple #[.agg #[.int .i64 op, .int .i64 r1, .int .i64 r2, .int .i64 r3, .int .i32 (readV f x)], .bool true]) (by simp [results, Tryd.results12, go_sem, setCell_map, z0, z1, z2, z3, z4]; try rfl) rfl ⟨by rw [Hr1.out, Hr2.out, Hr3.out, Him.out, HI.out]; (rw [if_neg (by simp at k8 k9; omega)]), by rw [HB.out]; exact (by repeat' (first | (with_reducible exact Below.refl _ _) | (with_reducible assumption) | (with_reducible refine below_drewN ?_ _) | (with_reducible refine Below.alloc ?_ ?_ _) | (with_reducible refine Below.drew ?_) | (with_reducible refine Below.setCell ?_ ?_ _) | (with_reducible exact Below.size (by assumption)) | go_size))⟩) | (refine bodyPost_ret (v := .tuple #[.agg #[.int .i64 op, .int .i64 r1, .int .i64 r2, .int .i64 r3, .int .i32 0], .bool true]) (by simp [results, Tryd.results12, go_sem, setCell_map, z0, z1, z2, z3, z4]; try rfl) rfl ⟨by rw [Hr1.out, Hr2.out, Hr3.out, Him.out, HI.out]; simp, by rw [HB.out]; exact (by repeat' (first | (with_reducible exact Below.refl _ _) | (with_reducible assumption) | (with_reducible refine below_drewN ?_ _) | (with_reducible refine Below.alloc ?_ ?_ _) | (with_reducible refine Below.drew ?_) | (with_reducible refine Below.setCell ?_ ?_ _) | (with_reducible exact Below.size (by assumption)) | go_size))⟩)
end Go.Proofs.YtabdfbghhkpoeaaDoor.E
