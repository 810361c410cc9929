/- What typecaseref04.op computes. -/
import Derived.Test.YtabdfbghhkpoeaaDoorNames
import Derived.Test.YtabdfbghhkpoeaaDoorRef01
namespace Go.Proofs.YtabdfbghhkpoeaaDoor.R4
set_option linter.unusedVariables false
open Go.ChangeShapes Go.WideShapes Go.ChangeAt Go.RowKit Go.Proofs.YtabdfbghhkpoeaaDoor.P Go.Proofs.YtabdfbghhkpoeaaDoor.W Go.Proofs.YtabdfbghhkpoeaaDoor.R3

theorem alloc_below (w : World) (o : Obj) : Below w.heap.size w (w.alloc o) := (Below.refl _ _).alloc (Nat.le_refl _) _
theorem at_jalr (k : Int) (w : World) (h0 : 0 ≤ k) (h1 : k < 8) : Calls Tryd.prog 47 #[.slice (some ⟨w.heap.size, 0, none⟩) 1 1, .int .u32 k] (w.alloc (.cells #[.string ⟨#[106, 97, 108, 114]⟩] 9))
    fun e w' => e = .returned (.int .i64 (pick [4, 0, 0, 0, 0, 0, 0, 0] k)) ∧ Below w.heap.size w w' := by
  refine (R3.at_ ⟨#[]⟩ [⟨#[106, 97, 108, 114]⟩] w.heap.size 1 k _ (StrsAt.new w _ _) rfl (by decide) h0 h1).mono ?_
  rintro e w' ⟨rfl, hb⟩
  exact ⟨by rw [ix_pick (m := [4, 0, 0, 0, 0, 0, 0, 0]) h0 h1 (by decide)], bel_step (alloc_below _ _) hb⟩
theorem at_branch (k : Int) (w : World) (h0 : 0 ≤ k) (h1 : k < 8) : Calls Tryd.prog 47 #[.slice (some ⟨w.heap.size, 0, none⟩) 8 8, .int .u32 k] (w.alloc (.cells #[.string ⟨#[98, 101, 113]⟩, .string ⟨#[98, 110, 101]⟩, .string ⟨#[]⟩, .string ⟨#[]⟩, .string ⟨#[98, 108, 116]⟩, .string ⟨#[98, 103, 101]⟩, .string ⟨#[98, 108, 116, 117]⟩, .string ⟨#[98, 103, 101, 117]⟩] 9))
    fun e w' => e = .returned (.int .i64 (pick [5, 6, 0, 0, 7, 8, 9, 10] k)) ∧ Below w.heap.size w w' := by
  refine (R3.at_ ⟨#[]⟩ [⟨#[98, 101, 113]⟩, ⟨#[98, 110, 101]⟩, ⟨#[]⟩, ⟨#[]⟩, ⟨#[98, 108, 116]⟩, ⟨#[98, 103, 101]⟩, ⟨#[98, 108, 116, 117]⟩, ⟨#[98, 103, 101, 117]⟩] w.heap.size 8 k _ (StrsAt.new w _ _) rfl (by decide) h0 h1).mono ?_
  rintro e w' ⟨rfl, hb⟩
  exact ⟨by rw [ix_pick (m := [5, 6, 0, 0, 7, 8, 9, 10]) h0 h1 (by decide)], bel_step (alloc_below _ _) hb⟩
theorem at_load (k : Int) (w : World) (h0 : 0 ≤ k) (h1 : k < 8) : Calls Tryd.prog 47 #[.slice (some ⟨w.heap.size, 0, none⟩) 6 6, .int .u32 k] (w.alloc (.cells #[.string ⟨#[108, 98]⟩, .string ⟨#[108, 104]⟩, .string ⟨#[108, 119]⟩, .string ⟨#[]⟩, .string ⟨#[108, 98, 117]⟩, .string ⟨#[108, 104, 117]⟩] 9))
    fun e w' => e = .returned (.int .i64 (pick [11, 12, 13, 0, 14, 15, 0, 0] k)) ∧ Below w.heap.size w w' := by
  refine (R3.at_ ⟨#[]⟩ [⟨#[108, 98]⟩, ⟨#[108, 104]⟩, ⟨#[108, 119]⟩, ⟨#[]⟩, ⟨#[108, 98, 117]⟩, ⟨#[108, 104, 117]⟩] w.heap.size 6 k _ (StrsAt.new w _ _) rfl (by decide) h0 h1).mono ?_
  rintro e w' ⟨rfl, hb⟩
  exact ⟨by rw [ix_pick (m := [11, 12, 13, 0, 14, 15, 0, 0]) h0 h1 (by decide)], bel_step (alloc_below _ _) hb⟩
theorem at_store (k : Int) (w : World) (h0 : 0 ≤ k) (h1 : k < 8) : Calls Tryd.prog 47 #[.slice (some ⟨w.heap.size, 0, none⟩) 3 3, .int .u32 k] (w.alloc (.cells #[.string ⟨#[115, 98]⟩, .string ⟨#[115, 104]⟩, .string ⟨#[115, 119]⟩] 9))
    fun e w' => e = .returned (.int .i64 (pick [16, 17, 18, 0, 0, 0, 0, 0] k)) ∧ Below w.heap.size w w' := by
  refine (R3.at_ ⟨#[]⟩ [⟨#[115, 98]⟩, ⟨#[115, 104]⟩, ⟨#[115, 119]⟩] w.heap.size 3 k _ (StrsAt.new w _ _) rfl (by decide) h0 h1).mono ?_
  rintro e w' ⟨rfl, hb⟩
  exact ⟨by rw [ix_pick (m := [16, 17, 18, 0, 0, 0, 0, 0]) h0 h1 (by decide)], bel_step (alloc_below _ _) hb⟩
theorem at_srai (k : Int) (w : World) (h0 : 0 ≤ k) (h1 : k < 8) : Calls Tryd.prog 47 #[.slice (some ⟨w.heap.size, 0, none⟩) 1 1, .int .u32 k] (w.alloc (.cells #[.string ⟨#[115, 114, 97, 105]⟩] 9))
    fun e w' => e = .returned (.int .i64 (pick [27, 0, 0, 0, 0, 0, 0, 0] k)) ∧ Below w.heap.size w w' := by
  refine (R3.at_ ⟨#[]⟩ [⟨#[115, 114, 97, 105]⟩] w.heap.size 1 k _ (StrsAt.new w _ _) rfl (by decide) h0 h1).mono ?_
  rintro e w' ⟨rfl, hb⟩
  exact ⟨by rw [ix_pick (m := [27, 0, 0, 0, 0, 0, 0, 0]) h0 h1 (by decide)], bel_step (alloc_below _ _) hb⟩
theorem at_num (k : Int) (w : World) (h0 : 0 ≤ k) (h1 : k < 8) : Calls Tryd.prog 47 #[.slice (some ⟨w.heap.size, 0, none⟩) 8 8, .int .u32 k] (w.alloc (.cells #[.string ⟨#[97, 100, 100, 105]⟩, .string ⟨#[115, 108, 108, 105]⟩, .string ⟨#[115, 108, 116, 105]⟩, .string ⟨#[115, 108, 116, 105, 117]⟩, .string ⟨#[120, 111, 114, 105]⟩, .string ⟨#[115, 114, 108, 105]⟩, .string ⟨#[111, 114, 105]⟩, .string ⟨#[97, 110, 100, 105]⟩] 9))
    fun e w' => e = .returned (.int .i64 (pick [19, 25, 20, 21, 22, 26, 23, 24] k)) ∧ Below w.heap.size w w' := by
  refine (R3.at_ ⟨#[]⟩ [⟨#[97, 100, 100, 105]⟩, ⟨#[115, 108, 108, 105]⟩, ⟨#[115, 108, 116, 105]⟩, ⟨#[115, 108, 116, 105, 117]⟩, ⟨#[120, 111, 114, 105]⟩, ⟨#[115, 114, 108, 105]⟩, ⟨#[111, 114, 105]⟩, ⟨#[97, 110, 100, 105]⟩] w.heap.size 8 k _ (StrsAt.new w _ _) rfl (by decide) h0 h1).mono ?_
  rintro e w' ⟨rfl, hb⟩
  exact ⟨by rw [ix_pick (m := [19, 25, 20, 21, 22, 26, 23, 24]) h0 h1 (by decide)], bel_step (alloc_below _ _) hb⟩
theorem at_reg (k : Int) (w : World) (h0 : 0 ≤ k) (h1 : k < 8) : Calls Tryd.prog 47 #[.slice (some ⟨w.heap.size, 0, none⟩) 8 8, .int .u32 k] (w.alloc (.cells #[.string ⟨#[97, 100, 100]⟩, .string ⟨#[115, 108, 108]⟩, .string ⟨#[115, 108, 116]⟩, .string ⟨#[115, 108, 116, 117]⟩, .string ⟨#[120, 111, 114]⟩, .string ⟨#[115, 114, 108]⟩, .string ⟨#[111, 114]⟩, .string ⟨#[97, 110, 100]⟩] 9))
    fun e w' => e = .returned (.int .i64 (pick [28, 30, 31, 32, 33, 34, 36, 37] k)) ∧ Below w.heap.size w w' := by
  refine (R3.at_ ⟨#[]⟩ [⟨#[97, 100, 100]⟩, ⟨#[115, 108, 108]⟩, ⟨#[115, 108, 116]⟩, ⟨#[115, 108, 116, 117]⟩, ⟨#[120, 111, 114]⟩, ⟨#[115, 114, 108]⟩, ⟨#[111, 114]⟩, ⟨#[97, 110, 100]⟩] w.heap.size 8 k _ (StrsAt.new w _ _) rfl (by decide) h0 h1).mono ?_
  rintro e w' ⟨rfl, hb⟩
  exact ⟨by rw [ix_pick (m := [28, 30, 31, 32, 33, 34, 36, 37]) h0 h1 (by decide)], bel_step (alloc_below _ _) hb⟩
theorem at_sub (k : Int) (w : World) (h0 : 0 ≤ k) (h1 : k < 8) : Calls Tryd.prog 47 #[.slice (some ⟨w.heap.size, 0, none⟩) 6 6, .int .u32 k] (w.alloc (.cells #[.string ⟨#[115, 117, 98]⟩, .string ⟨#[]⟩, .string ⟨#[]⟩, .string ⟨#[]⟩, .string ⟨#[]⟩, .string ⟨#[115, 114, 97]⟩] 9))
    fun e w' => e = .returned (.int .i64 (pick [29, 0, 0, 0, 0, 35, 0, 0] k)) ∧ Below w.heap.size w w' := by
  refine (R3.at_ ⟨#[]⟩ [⟨#[115, 117, 98]⟩, ⟨#[]⟩, ⟨#[]⟩, ⟨#[]⟩, ⟨#[]⟩, ⟨#[115, 114, 97]⟩] w.heap.size 6 k _ (StrsAt.new w _ _) rfl (by decide) h0 h1).mono ?_
  rintro e w' ⟨rfl, hb⟩
  exact ⟨by rw [ix_pick (m := [29, 0, 0, 0, 0, 35, 0, 0]) h0 h1 (by decide)], bel_step (alloc_below _ _) hb⟩
theorem at_mul (k : Int) (w : World) (h0 : 0 ≤ k) (h1 : k < 8) : Calls Tryd.prog 47 #[.slice (some ⟨w.heap.size, 0, none⟩) 8 8, .int .u32 k] (w.alloc (.cells #[.string ⟨#[109, 117, 108]⟩, .string ⟨#[109, 117, 108, 104]⟩, .string ⟨#[109, 117, 108, 104, 115, 117]⟩, .string ⟨#[109, 117, 108, 104, 117]⟩, .string ⟨#[100, 105, 118]⟩, .string ⟨#[100, 105, 118, 117]⟩, .string ⟨#[114, 101, 109]⟩, .string ⟨#[114, 101, 109, 117]⟩] 9))
    fun e w' => e = .returned (.int .i64 (pick [41, 42, 43, 44, 45, 46, 47, 48] k)) ∧ Below w.heap.size w w' := by
  refine (R3.at_ ⟨#[]⟩ [⟨#[109, 117, 108]⟩, ⟨#[109, 117, 108, 104]⟩, ⟨#[109, 117, 108, 104, 115, 117]⟩, ⟨#[109, 117, 108, 104, 117]⟩, ⟨#[100, 105, 118]⟩, ⟨#[100, 105, 118, 117]⟩, ⟨#[114, 101, 109]⟩, ⟨#[114, 101, 109, 117]⟩] w.heap.size 8 k _ (StrsAt.new w _ _) rfl (by decide) h0 h1).mono ?_
  rintro e w' ⟨rfl, hb⟩
  exact ⟨by rw [ix_pick (m := [41, 42, 43, 44, 45, 46, 47, 48]) h0 h1 (by decide)], bel_step (alloc_below _ _) hb⟩
theorem at_fence (k : Int) (w : World) (h0 : 0 ≤ k) (h1 : k < 8) : Calls Tryd.prog 47 #[.slice (some ⟨w.heap.size, 0, none⟩) 1 1, .int .u32 k] (w.alloc (.cells #[.string ⟨#[102, 101, 110, 99, 101]⟩] 9))
    fun e w' => e = .returned (.int .i64 (pick [38, 0, 0, 0, 0, 0, 0, 0] k)) ∧ Below w.heap.size w w' := by
  refine (R3.at_ ⟨#[]⟩ [⟨#[102, 101, 110, 99, 101]⟩] w.heap.size 1 k _ (StrsAt.new w _ _) rfl (by decide) h0 h1).mono ?_
  rintro e w' ⟨rfl, hb⟩
  exact ⟨by rw [ix_pick (m := [38, 0, 0, 0, 0, 0, 0, 0]) h0 h1 (by decide)], bel_step (alloc_below _ _) hb⟩
theorem at_ecall (k : Int) (w : World) (h0 : 0 ≤ k) (h1 : k < 8) : Calls Tryd.prog 47 #[.slice (some ⟨w.heap.size, 0, none⟩) 1 1, .int .u32 k] (w.alloc (.cells #[.string ⟨#[101, 99, 97, 108, 108]⟩] 9))
    fun e w' => e = .returned (.int .i64 (pick [39, 0, 0, 0, 0, 0, 0, 0] k)) ∧ Below w.heap.size w w' := by
  refine (R3.at_ ⟨#[]⟩ [⟨#[101, 99, 97, 108, 108]⟩] w.heap.size 1 k _ (StrsAt.new w _ _) rfl (by decide) h0 h1).mono ?_
  rintro e w' ⟨rfl, hb⟩
  exact ⟨by rw [ix_pick (m := [39, 0, 0, 0, 0, 0, 0, 0]) h0 h1 (by decide)], bel_step (alloc_below _ _) hb⟩
theorem at_ebreak (k : Int) (w : World) (h0 : 0 ≤ k) (h1 : k < 8) : Calls Tryd.prog 47 #[.slice (some ⟨w.heap.size, 0, none⟩) 1 1, .int .u32 k] (w.alloc (.cells #[.string ⟨#[101, 98, 114, 101, 97, 107]⟩] 9))
    fun e w' => e = .returned (.int .i64 (pick [40, 0, 0, 0, 0, 0, 0, 0] k)) ∧ Below w.heap.size w w' := by
  refine (R3.at_ ⟨#[]⟩ [⟨#[101, 98, 114, 101, 97, 107]⟩] w.heap.size 1 k _ (StrsAt.new w _ _) rfl (by decide) h0 h1).mono ?_
  rintro e w' ⟨rfl, hb⟩
  exact ⟨by rw [ix_pick (m := [40, 0, 0, 0, 0, 0, 0, 0]) h0 h1 (by decide)], bel_step (alloc_below _ _) hb⟩

set_option maxRecDepth 20000 in
set_option maxHeartbeats 2000000 in
theorem op (x : Int) (w : World) (h0 : 0 ≤ x) (h1 : x < 4294967296) :
    Calls Tryd.prog 27 #[.int .u32 x] w fun e w' => e = .returned (.int .i64 (opN x)) ∧ Below w.heap.size w w' := by
  obtain ⟨f0, f1⟩ := f3_bd x
  go_enter Tryd.func27, Tryd.ntmps27
  go_wp2_with fail
  refine (R1.Field x 12 3 w h0 h1).mono ?_
  rintro e w' ⟨rfl, rfl⟩
  have h12 : fld x (max 12 0 : Int).toNat (held 3) = fld x 12 3 := rfl
  rw [h12]
  clear h12
  go_wp2_with fail
  refine (R1.Field x 25 7 w h0 h1).mono ?_
  rintro e w' ⟨rfl, rfl⟩
  have h25 : fld x (max 25 0 : Int).toNat (held 7) = fld x 25 7 := rfl
  rw [h25]
  clear h25
  have g3 := hid (Eq.refl (fld x 12 3))
  have g7 := hid (Eq.refl (fld x 25 7))
  generalize hf3 : fld x 12 3 = f3 at f0 f1 g3 ⊢
  generalize hf7 : fld x 25 7 = f7 at g7 ⊢
  have G3 := hid hf3
  have G7 := hid hf7
  have p1 : pick [27, 0, 0, 0, 0, 0, 0, 0] 0 = 27 := rfl
  have p2 : pick [39, 0, 0, 0, 0, 0, 0, 0] 0 = 39 := rfl
  have p3 : pick [40, 0, 0, 0, 0, 0, 0, 0] 0 = 40 := rfl
  clear hf3 hf7 g3 g7
  go_wp2_with fail
  all_goals (try ((first | (with_reducible refine (at_jalr _ _ ?_ ?_).mono ?_) | (with_reducible refine (at_branch _ _ ?_ ?_).mono ?_) | (with_reducible refine (at_load _ _ ?_ ?_).mono ?_) | (with_reducible refine (at_store _ _ ?_ ?_).mono ?_) | (with_reducible refine (at_srai _ _ ?_ ?_).mono ?_) | (with_reducible refine (at_num _ _ ?_ ?_).mono ?_) | (with_reducible refine (at_reg _ _ ?_ ?_).mono ?_) | (with_reducible refine (at_sub _ _ ?_ ?_).mono ?_) | (with_reducible refine (at_mul _ _ ?_ ?_).mono ?_) | (with_reducible refine (at_fence _ _ ?_ ?_).mono ?_) | (with_reducible refine (at_ecall _ _ ?_ ?_).mono ?_) | (with_reducible refine (at_ebreak _ _ ?_ ?_).mono ?_)) <;> first | omega | (rintro e w2 ⟨rfl, hbw⟩; go_wp2)))
  all_goals (go_ret; refine ⟨?_, (by first | exact Below.refl _ _ | assumption)⟩)
  all_goals simp only [bne_iff_ne, bne_eq_false_iff_eq, beq_iff_eq, beq_eq_false_iff_ne, ne_eq] at *
  all_goals (refine congrArg Ending.returned ?_)
  all_goals simp
  all_goals first
    | exact (opN_lui (by assumption)).symm | exact (opN_auipc (by assumption)).symm | exact (opN_jal (by assumption)).symm
    | (rw [opN_jalr (by assumption), G3.out]; done) | (rw [opN_load (by assumption), G3.out]; done) | (rw [opN_branch (by assumption), G3.out]; done) | (rw [opN_store (by assumption), G3.out]; done) | (rw [opN_fence (by assumption), G3.out]; done)
    | (rw [opN_bare (by assumption)]; (repeat' split) <;> first | omega | rfl | (refine congrArg (pick _) ?_; omega))
    | (rw [opN_number (by assumption), G3.out, G7.out]; (repeat' split) <;> first | omega | rfl | (refine congrArg (pick _) ?_; omega))
    | (rw [opN_register (by assumption), G3.out, G7.out]; (repeat' split) <;> first | omega | rfl | (refine congrArg (pick _) ?_; omega))
    | exact (opN_else (by refine ⟨?_, ?_, ?_, ?_, ?_, ?_, ?_, ?_, ?_, ?_, ?_⟩ <;> assumption)).symm
    | (rw [opN_number (by assumption), G3.out, G7.out]; (repeat' split) <;> trace_state)
end Go.Proofs.YtabdfbghhkpoeaaDoor.R4
