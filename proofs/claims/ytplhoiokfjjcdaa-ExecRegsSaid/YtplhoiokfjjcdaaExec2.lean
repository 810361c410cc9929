/- What the functions of package exec compute: a register's number, where it goes on, what it asks of a memory. -/
import Derived.Test.YtplhoiokfjjcdaaExec
import Derived.RegionTactic
import Derived.ChangeAlike
namespace Go.Proofs.Ytplhoiokfjjcdaa.X
set_option linter.unusedVariables false
set_option linter.unusedSimpArgs false
open Go.ChangeShapes Go.WideShapes Go.ChangeAt Go.RowKit Go.Proofs.Ytplhoiokfjjcdaa.P Go.Proofs.Ytplhoiokfjjcdaa.W

def goB (op a b : Int) : Bool :=
  if op = 5 then a == b else if op = 6 then a != b else if op = 7 then decide (wrap32 a < wrap32 b) else if op = 8 then !decide (wrap32 a < wrap32 b)
  else if op = 9 then decide (a < b) else if op = 10 then decide (b ≤ a) else false
theorem goes (op a b : Int) (w : World) :
    Calls Try.prog 56 #[.int .i64 op, .int .u32 a, .int .u32 b] w fun e w' => e = .returned (.bool (goB op a b)) ∧ w = w' := by
  have hc : op = 5 ∨ op = 6 ∨ op = 7 ∨ op = 8 ∨ op = 9 ∨ op = 10 ∨ ¬ (5 ≤ op ∧ op ≤ 10) := by omega
  have hz : ¬ (5 ≤ op ∧ op ≤ 10) → (op == 5) = false ∧ (op == 6) = false ∧ (op == 7) = false ∧ (op == 8) = false ∧ (op == 9) = false ∧ (op == 10) = false ∧ goB op a b = false := by
    intro k
    have z : goB op a b = false := by unfold goB; repeat (rw [if_neg (by omega)])
    refine ⟨?_, ?_, ?_, ?_, ?_, ?_, z⟩ <;> (simp only [beq_eq_false_iff_ne, ne_eq]; omega)
  rcases hc with rfl | rfl | rfl | rfl | rfl | rfl | k
  rotate_right
  · obtain ⟨k1, k2, k3, k4, k5, k6, hg⟩ := hz k
    rw [hg]
    clear hz hg
    go_enter Try.func56, Try.ntmps56
    go_wp2
    go_ret
    exact ⟨rfl, rfl⟩
  all_goals
    clear hz
    go_enter Try.func56, Try.ntmps56
    go_wp2_with (first | (go_at_call 88; (with_reducible refine (less _ _ _).mono ?_); rintro e w' ⟨rfl, rfl⟩))
    go_ret
    exact ⟨rfl, rfl⟩

/-- what an instruction's register gets -/
def valV (op rd rs1 rs2 imm a b pc size : Int) : Int :=
  if mayB op rd rs1 rs2 imm = false then 0 else if op = 1 then imm % 4294967296 else if op = 2 then (pc + imm % 4294967296) % 4294967296
  else if op = 3 ∨ op = 4 then (pc + size % 4294967296) % 4294967296 else alu op a (if form op = 8 then b else imm % 4294967296)
def valOk (op rd rs1 rs2 imm : Int) : Bool := mayB op rd rs1 rs2 imm && (decide (1 ≤ op) && decide (op ≤ 4) || aluOk op)
set_option maxHeartbeats 2000000 in
theorem Value (op rd rs1 rs2 imm a b pc size : Int) (w : World) (a0 : 0 ≤ a) (a1 : a < 4294967296) (b0 : 0 ≤ b) (b1 : b < 4294967296) :
    Calls Try.prog 32 #[.agg #[.int .i64 op, .int .i64 rd, .int .i64 rs1, .int .i64 rs2, .int .i32 imm], .int .u32 a, .int .u32 b, .int .u32 pc, .int .i64 size] w
      fun e w' => e = .returned (.tuple #[.int .u32 (valV op rd rs1 rs2 imm a b pc size), .bool (valOk op rd rs1 rs2 imm)]) ∧ Below w.heap.size w w' := by
  have hi : 0 ≤ imm % 4294967296 ∧ imm % 4294967296 < 4294967296 := by omega
  obtain ⟨i0, i1⟩ := hi
  have HM := hid (fun w => I.May op rd rs1 rs2 imm w)
  have HS := hid (fun b w h h' => sums op a b w a0 a1 h h')
  have hv : Hid (valV op rd rs1 rs2 imm a b pc size = if mayB op rd rs1 rs2 imm = false then 0 else if op = 1 then imm % 4294967296 else if op = 2 then (pc + imm % 4294967296) % 4294967296
    else if op = 3 ∨ op = 4 then (pc + size % 4294967296) % 4294967296 else alu op a (if form op = 8 then b else imm % 4294967296)) := hid rfl
  have ho : Hid (valOk op rd rs1 rs2 imm = (mayB op rd rs1 rs2 imm && (decide (1 ≤ op) && decide (op ≤ 4) || aluOk op))) := hid rfl
  have ha : Hid (op ≠ 1 → op ≠ 2 → op ≠ 3 → op ≠ 4 → (decide (1 ≤ op) && decide (op ≤ 4) || aluOk op) = aluOk op) := hid (by
    intro x1 x2 x3 x4
    have : (decide (1 ≤ op) && decide (op ≤ 4)) = false := by simp; omega
    rw [this]; rfl)
  generalize mayB op rd rs1 rs2 imm = m at *
  cases m
  all_goals
    go_enter Try.func32, Try.ntmps32
    go_wp2_with (first | (go_at_call 55; (with_reducible refine (HM.out _).mono ?_); rintro e w' ⟨rfl, hbel⟩; (try (with_reducible replace hbel := bel_undrew hbel)); (try (with_reducible replace hbel := bel_undrewN hbel)); have hbw := bel_step (w := w) (by repeat' (first | (with_reducible exact Below.refl _ _) | (with_reducible assumption) | (with_reducible refine below_drewN ?_ _) | (with_reducible refine Below.alloc ?_ ?_ _) | (with_reducible refine Below.drew ?_) | (with_reducible refine Below.setCell ?_ ?_ _) | (with_reducible exact Below.size (by assumption)) | go_size)) hbel; have hsw := hbw.size; have hsb := hbel.size; (try simp at hsb); (try (refine lay (p := w.heap.size < w'.heap.size) ?_ ?_; rotate_left; intro hq0; rotate_left; omega)); (try (refine lay (p := w.heap.size + 1 < w'.heap.size) ?_ ?_; rotate_left; intro hq1; rotate_left; omega)); (try (refine lay (p := w.heap.size + 2 < w'.heap.size) ?_ ?_; rotate_left; intro hq2; rotate_left; omega)); (try (refine lay (p := w.heap.size + 3 < w'.heap.size) ?_ ?_; rotate_left; intro hq3; rotate_left; omega)); (try (refine lay (p := w.heap.size + 4 < w'.heap.size) ?_ ?_; rotate_left; intro hq4; rotate_left; omega)); (try (refine lay (p := w.heap.size + 5 < w'.heap.size) ?_ ?_; rotate_left; intro hq5; rotate_left; omega)); obtain ⟨hcel, hfro⟩ := bcell hbel; clear hbel) | (first | (go_at_call 57; refine (I.FormOf _ _).mono ?_; rintro e w' ⟨rfl, rfl⟩)) | (go_at_call 58; (with_reducible refine (HS.out _ _ (by omega) (by omega)).mono ?_); rintro e w' ⟨rfl, hbel⟩; (try (with_reducible replace hbel := bel_undrew hbel)); (try (with_reducible replace hbel := bel_undrewN hbel)); have hbw := bel_step (w := w) (by repeat' (first | (with_reducible exact Below.refl _ _) | (with_reducible assumption) | (with_reducible refine below_drewN ?_ _) | (with_reducible refine Below.alloc ?_ ?_ _) | (with_reducible refine Below.drew ?_) | (with_reducible refine Below.setCell ?_ ?_ _) | (with_reducible exact Below.size (by assumption)) | go_size)) hbel; have hsw := hbw.size; have hsb := hbel.size; (try simp at hsb); (try (refine lay (p := w.heap.size < w'.heap.size) ?_ ?_; rotate_left; intro hq0; rotate_left; omega)); (try (refine lay (p := w.heap.size + 1 < w'.heap.size) ?_ ?_; rotate_left; intro hq1; rotate_left; omega)); (try (refine lay (p := w.heap.size + 2 < w'.heap.size) ?_ ?_; rotate_left; intro hq2; rotate_left; omega)); (try (refine lay (p := w.heap.size + 3 < w'.heap.size) ?_ ?_; rotate_left; intro hq3; rotate_left; omega)); (try (refine lay (p := w.heap.size + 4 < w'.heap.size) ?_ ?_; rotate_left; intro hq4; rotate_left; omega)); (try (refine lay (p := w.heap.size + 5 < w'.heap.size) ?_ ?_; rotate_left; intro hq5; rotate_left; omega)); obtain ⟨hcel, hfro⟩ := bcell hbel; clear hbel))
    all_goals go_ret2
    all_goals refine ⟨ret_two ?_ ?_, (by repeat' (first | (with_reducible exact Below.refl _ _) | (with_reducible assumption) | (with_reducible refine below_drewN ?_ _) | (with_reducible refine Below.alloc ?_ ?_ _) | (with_reducible refine Below.drew ?_) | (with_reducible refine Below.setCell ?_ ?_ _) | (with_reducible exact Below.size (by assumption)) | go_size))⟩
    all_goals clear HM HS
    all_goals (try clear hcel hfro)
    all_goals simp only [beq_iff_eq, beq_eq_false_iff_ne, bne_iff_ne, bne_eq_false_iff_eq, ne_eq] at *
    all_goals first | (rw [hv.out]; simp [*]; done) | (rw [ho.out]; simp [*]; done) | (rw [ho.out, ha.out ‹_› ‹_› ‹_› ‹_›]; rfl)
/-- where an instruction goes on -/
def nextV (op rd rs1 rs2 imm a b pc size : Int) : Int :=
  if mayB op rd rs1 rs2 imm = false then (pc + size % 4294967296) % 4294967296 else if op = 3 ∨ goB op a b = true then (pc + imm % 4294967296) % 4294967296
  else if op = 4 then bits .andNot .u32 ((a + imm % 4294967296) % 4294967296) 1 else (pc + size % 4294967296) % 4294967296
set_option maxHeartbeats 2000000 in
theorem Next (op rd rs1 rs2 imm a b pc size : Int) (w : World) (a0 : 0 ≤ a) (a1 : a < 4294967296) (b0 : 0 ≤ b) (b1 : b < 4294967296) :
    Calls Try.prog 31 #[.agg #[.int .i64 op, .int .i64 rd, .int .i64 rs1, .int .i64 rs2, .int .i32 imm], .int .u32 a, .int .u32 b, .int .u32 pc, .int .i64 size] w
      fun e w' => e = .returned (.int .u32 (nextV op rd rs1 rs2 imm a b pc size)) ∧ Below w.heap.size w w' := by
  have HM := hid (fun w => I.May op rd rs1 rs2 imm w)
  have HG := hid (fun w => goes op a b w)
  have hv : Hid (nextV op rd rs1 rs2 imm a b pc size = if mayB op rd rs1 rs2 imm = false then (pc + size % 4294967296) % 4294967296 else if op = 3 ∨ goB op a b = true then (pc + imm % 4294967296) % 4294967296
    else if op = 4 then bits .andNot .u32 ((a + imm % 4294967296) % 4294967296) 1 else (pc + size % 4294967296) % 4294967296) := hid rfl
  generalize mayB op rd rs1 rs2 imm = m at *
  generalize goB op a b = g at *
  have hc : (op == 3) = true ∨ (op == 3) = false := by cases (op == 3) <;> simp
  cases m
  rotate_left
  · rcases hc with h3 | h3
    rotate_left
    · cases g
      all_goals
        go_enter Try.func31, Try.ntmps31
        go_wp2_with (first | (go_at_call 55; (with_reducible refine (HM.out _).mono ?_); rintro e w' ⟨rfl, hbel⟩; (try (with_reducible replace hbel := bel_undrew hbel)); (try (with_reducible replace hbel := bel_undrewN hbel)); have hbw := bel_step (w := w) (by repeat' (first | (with_reducible exact Below.refl _ _) | (with_reducible assumption) | (with_reducible refine below_drewN ?_ _) | (with_reducible refine Below.alloc ?_ ?_ _) | (with_reducible refine Below.drew ?_) | (with_reducible refine Below.setCell ?_ ?_ _) | (with_reducible exact Below.size (by assumption)) | go_size)) hbel; have hsw := hbw.size; have hsb := hbel.size; (try simp at hsb); (try (refine lay (p := w.heap.size < w'.heap.size) ?_ ?_; rotate_left; intro hq0; rotate_left; omega)); (try (refine lay (p := w.heap.size + 1 < w'.heap.size) ?_ ?_; rotate_left; intro hq1; rotate_left; omega)); (try (refine lay (p := w.heap.size + 2 < w'.heap.size) ?_ ?_; rotate_left; intro hq2; rotate_left; omega)); (try (refine lay (p := w.heap.size + 3 < w'.heap.size) ?_ ?_; rotate_left; intro hq3; rotate_left; omega)); (try (refine lay (p := w.heap.size + 4 < w'.heap.size) ?_ ?_; rotate_left; intro hq4; rotate_left; omega)); (try (refine lay (p := w.heap.size + 5 < w'.heap.size) ?_ ?_; rotate_left; intro hq5; rotate_left; omega)); obtain ⟨hcel, hfro⟩ := bcell hbel; clear hbel) | (go_at_call 56; (with_reducible refine (HG.out _).mono ?_); rintro e w' ⟨rfl, rfl⟩))
        all_goals go_ret
        all_goals refine ⟨ret_int ?_, (by repeat' (first | (with_reducible exact Below.refl _ _) | (with_reducible assumption) | (with_reducible refine below_drewN ?_ _) | (with_reducible refine Below.alloc ?_ ?_ _) | (with_reducible refine Below.drew ?_) | (with_reducible refine Below.setCell ?_ ?_ _) | (with_reducible exact Below.size (by assumption)) | go_size))⟩
        all_goals clear HM HG
        all_goals (try clear hcel hfro)
        all_goals simp only [beq_iff_eq, beq_eq_false_iff_ne, bne_iff_ne, bne_eq_false_iff_eq, ne_eq] at *
        all_goals (rw [hv.out]; simp [*])
    · go_enter Try.func31, Try.ntmps31
      go_wp2_with (first | (go_at_call 55; (with_reducible refine (HM.out _).mono ?_); rintro e w' ⟨rfl, hbel⟩; (try (with_reducible replace hbel := bel_undrew hbel)); (try (with_reducible replace hbel := bel_undrewN hbel)); have hbw := bel_step (w := w) (by repeat' (first | (with_reducible exact Below.refl _ _) | (with_reducible assumption) | (with_reducible refine below_drewN ?_ _) | (with_reducible refine Below.alloc ?_ ?_ _) | (with_reducible refine Below.drew ?_) | (with_reducible refine Below.setCell ?_ ?_ _) | (with_reducible exact Below.size (by assumption)) | go_size)) hbel; have hsw := hbw.size; have hsb := hbel.size; (try simp at hsb); (try (refine lay (p := w.heap.size < w'.heap.size) ?_ ?_; rotate_left; intro hq0; rotate_left; omega)); (try (refine lay (p := w.heap.size + 1 < w'.heap.size) ?_ ?_; rotate_left; intro hq1; rotate_left; omega)); (try (refine lay (p := w.heap.size + 2 < w'.heap.size) ?_ ?_; rotate_left; intro hq2; rotate_left; omega)); (try (refine lay (p := w.heap.size + 3 < w'.heap.size) ?_ ?_; rotate_left; intro hq3; rotate_left; omega)); (try (refine lay (p := w.heap.size + 4 < w'.heap.size) ?_ ?_; rotate_left; intro hq4; rotate_left; omega)); (try (refine lay (p := w.heap.size + 5 < w'.heap.size) ?_ ?_; rotate_left; intro hq5; rotate_left; omega)); obtain ⟨hcel, hfro⟩ := bcell hbel; clear hbel))
      go_ret
      refine ⟨ret_int ?_, (by repeat' (first | (with_reducible exact Below.refl _ _) | (with_reducible assumption) | (with_reducible refine below_drewN ?_ _) | (with_reducible refine Below.alloc ?_ ?_ _) | (with_reducible refine Below.drew ?_) | (with_reducible refine Below.setCell ?_ ?_ _) | (with_reducible exact Below.size (by assumption)) | go_size))⟩
      clear HM HG
      (try clear hcel hfro)
      simp only [beq_iff_eq, beq_eq_false_iff_ne, bne_iff_ne, bne_eq_false_iff_eq, ne_eq] at *
      rw [hv.out]; simp [*]
  · clear hc
    go_enter Try.func31, Try.ntmps31
    go_wp2_with (first | (go_at_call 55; (with_reducible refine (HM.out _).mono ?_); rintro e w' ⟨rfl, hbel⟩; (try (with_reducible replace hbel := bel_undrew hbel)); (try (with_reducible replace hbel := bel_undrewN hbel)); have hbw := bel_step (w := w) (by repeat' (first | (with_reducible exact Below.refl _ _) | (with_reducible assumption) | (with_reducible refine below_drewN ?_ _) | (with_reducible refine Below.alloc ?_ ?_ _) | (with_reducible refine Below.drew ?_) | (with_reducible refine Below.setCell ?_ ?_ _) | (with_reducible exact Below.size (by assumption)) | go_size)) hbel; have hsw := hbw.size; have hsb := hbel.size; (try simp at hsb); (try (refine lay (p := w.heap.size < w'.heap.size) ?_ ?_; rotate_left; intro hq0; rotate_left; omega)); (try (refine lay (p := w.heap.size + 1 < w'.heap.size) ?_ ?_; rotate_left; intro hq1; rotate_left; omega)); (try (refine lay (p := w.heap.size + 2 < w'.heap.size) ?_ ?_; rotate_left; intro hq2; rotate_left; omega)); (try (refine lay (p := w.heap.size + 3 < w'.heap.size) ?_ ?_; rotate_left; intro hq3; rotate_left; omega)); (try (refine lay (p := w.heap.size + 4 < w'.heap.size) ?_ ?_; rotate_left; intro hq4; rotate_left; omega)); (try (refine lay (p := w.heap.size + 5 < w'.heap.size) ?_ ?_; rotate_left; intro hq5; rotate_left; omega)); obtain ⟨hcel, hfro⟩ := bcell hbel; clear hbel))
    go_ret
    exact ⟨ret_int (by rw [hv.out]; rfl), (by repeat' (first | (with_reducible exact Below.refl _ _) | (with_reducible assumption) | (with_reducible refine below_drewN ?_ _) | (with_reducible refine Below.alloc ?_ ?_ _) | (with_reducible refine Below.drew ?_) | (with_reducible refine Below.setCell ?_ ?_ _) | (with_reducible exact Below.size (by assumption)) | go_size))⟩
/-- what a load, or a store, asks of a memory -/
def accN (op : Int) : Int := if op = 11 ∨ op = 14 ∨ op = 16 then 1 else if op = 12 ∨ op = 15 ∨ op = 17 then 2 else if op = 13 ∨ op = 18 then 4 else 0
def accV (op rd rs1 rs2 imm a : Int) : Go.Value :=
  if mayB op rd rs1 rs2 imm = false ∨ accN op = 0 then .tuple #[.int .u32 0, .int .i64 0, .bool false, .bool false]
  else .tuple #[.int .u32 ((a + imm % 4294967296) % 4294967296), .int .i64 (accN op), .bool (decide (16 ≤ op)), .bool (decide (op ≤ 13))]
theorem ret_four {a a' n n' : Int} {p p' q q' : Bool} (h1 : a = a') (h2 : n = n') (h3 : p = p') (h4 : q = q') : Ending.returned (.tuple #[.int .u32 a, .int .i64 n, .bool p, .bool q]) = .returned (.tuple #[.int .u32 a', .int .i64 n', .bool p', .bool q']) := by rw [h1, h2, h3, h4]
set_option maxHeartbeats 2000000 in
theorem Access (op rd rs1 rs2 imm a : Int) (w : World) (a0 : 0 ≤ a) (a1 : a < 4294967296) :
    Calls Try.prog 33 #[.agg #[.int .i64 op, .int .i64 rd, .int .i64 rs1, .int .i64 rs2, .int .i32 imm], .int .u32 a] w
      fun e w' => e = .returned (accV op rd rs1 rs2 imm a) ∧ Below w.heap.size w w' := by
  have HM := hid (fun w => I.May op rd rs1 rs2 imm w)
  have hc : op = 11 ∨ op = 12 ∨ op = 13 ∨ op = 14 ∨ op = 15 ∨ op = 16 ∨ op = 17 ∨ op = 18 ∨ ¬ (11 ≤ op ∧ op ≤ 18) := by omega
  have hz : Hid (¬ (11 ≤ op ∧ op ≤ 18) → (op == 11) = false ∧ (op == 12) = false ∧ (op == 13) = false ∧ (op == 14) = false ∧ (op == 15) = false ∧ (op == 16) = false ∧ (op == 17) = false ∧ (op == 18) = false ∧ accV op rd rs1 rs2 imm a = .tuple #[.int .u32 0, .int .i64 0, .bool false, .bool false]) := hid (by
    intro k
    have z : accV op rd rs1 rs2 imm a = .tuple #[.int .u32 0, .int .i64 0, .bool false, .bool false] := by unfold accV; rw [if_pos (.inr (by unfold accN; repeat (rw [if_neg (by omega)])))]
    refine ⟨?_, ?_, ?_, ?_, ?_, ?_, ?_, ?_, z⟩ <;> (simp only [beq_eq_false_iff_ne, ne_eq]; omega))
  have hv : Hid (accV op rd rs1 rs2 imm a = if mayB op rd rs1 rs2 imm = false ∨ accN op = 0 then .tuple #[.int .u32 0, .int .i64 0, .bool false, .bool false]
    else .tuple #[.int .u32 ((a + imm % 4294967296) % 4294967296), .int .i64 (accN op), .bool (decide (16 ≤ op)), .bool (decide (op ≤ 13))]) := hid rfl
  generalize mayB op rd rs1 rs2 imm = m at *
  cases m
  · clear hc
    go_enter Try.func33, Try.ntmps33
    go_wp2_with (first | (go_at_call 55; (with_reducible refine (HM.out _).mono ?_); rintro e w' ⟨rfl, hbel⟩; (try (with_reducible replace hbel := bel_undrew hbel)); (try (with_reducible replace hbel := bel_undrewN hbel)); have hbw := bel_step (w := w) (by repeat' (first | (with_reducible exact Below.refl _ _) | (with_reducible assumption) | (with_reducible refine below_drewN ?_ _) | (with_reducible refine Below.alloc ?_ ?_ _) | (with_reducible refine Below.drew ?_) | (with_reducible refine Below.setCell ?_ ?_ _) | (with_reducible exact Below.size (by assumption)) | go_size)) hbel; have hsw := hbw.size; have hsb := hbel.size; (try simp at hsb); (try (refine lay (p := w.heap.size < w'.heap.size) ?_ ?_; rotate_left; intro hq0; rotate_left; omega)); (try (refine lay (p := w.heap.size + 1 < w'.heap.size) ?_ ?_; rotate_left; intro hq1; rotate_left; omega)); (try (refine lay (p := w.heap.size + 2 < w'.heap.size) ?_ ?_; rotate_left; intro hq2; rotate_left; omega)); (try (refine lay (p := w.heap.size + 3 < w'.heap.size) ?_ ?_; rotate_left; intro hq3; rotate_left; omega)); (try (refine lay (p := w.heap.size + 4 < w'.heap.size) ?_ ?_; rotate_left; intro hq4; rotate_left; omega)); (try (refine lay (p := w.heap.size + 5 < w'.heap.size) ?_ ?_; rotate_left; intro hq5; rotate_left; omega)); obtain ⟨hcel, hfro⟩ := bcell hbel; clear hbel))
    refine bodyPost_ret (v := .tuple #[.int .u32 0, .int .i64 0, .bool false, .bool false]) (by simp [results, Try.results33, go_sem]; try rfl) rfl ⟨by rw [hv.out]; rfl, (by repeat' (first | (with_reducible exact Below.refl _ _) | (with_reducible assumption) | (with_reducible refine below_drewN ?_ _) | (with_reducible refine Below.alloc ?_ ?_ _) | (with_reducible refine Below.drew ?_) | (with_reducible refine Below.setCell ?_ ?_ _) | (with_reducible exact Below.size (by assumption)) | go_size))⟩
  · rcases hc with rfl | rfl | rfl | rfl | rfl | rfl | rfl | rfl | k
    rotate_right
    · obtain ⟨k1, k2, k3, k4, k5, k6, k7, k8, hg⟩ := hz.out k
      rw [hg]
      clear hg hz hv
      go_enter Try.func33, Try.ntmps33
      go_wp2_with (first | (go_at_call 55; (with_reducible refine (HM.out _).mono ?_); rintro e w' ⟨rfl, hbel⟩; (try (with_reducible replace hbel := bel_undrew hbel)); (try (with_reducible replace hbel := bel_undrewN hbel)); have hbw := bel_step (w := w) (by repeat' (first | (with_reducible exact Below.refl _ _) | (with_reducible assumption) | (with_reducible refine below_drewN ?_ _) | (with_reducible refine Below.alloc ?_ ?_ _) | (with_reducible refine Below.drew ?_) | (with_reducible refine Below.setCell ?_ ?_ _) | (with_reducible exact Below.size (by assumption)) | go_size)) hbel; have hsw := hbw.size; have hsb := hbel.size; (try simp at hsb); (try (refine lay (p := w.heap.size < w'.heap.size) ?_ ?_; rotate_left; intro hq0; rotate_left; omega)); (try (refine lay (p := w.heap.size + 1 < w'.heap.size) ?_ ?_; rotate_left; intro hq1; rotate_left; omega)); (try (refine lay (p := w.heap.size + 2 < w'.heap.size) ?_ ?_; rotate_left; intro hq2; rotate_left; omega)); (try (refine lay (p := w.heap.size + 3 < w'.heap.size) ?_ ?_; rotate_left; intro hq3; rotate_left; omega)); (try (refine lay (p := w.heap.size + 4 < w'.heap.size) ?_ ?_; rotate_left; intro hq4; rotate_left; omega)); (try (refine lay (p := w.heap.size + 5 < w'.heap.size) ?_ ?_; rotate_left; intro hq5; rotate_left; omega)); obtain ⟨hcel, hfro⟩ := bcell hbel; clear hbel))
      refine bodyPost_ret (v := .tuple #[.int .u32 0, .int .i64 0, .bool false, .bool false]) (by simp [results, Try.results33, go_sem]; try rfl) rfl ⟨rfl, (by repeat' (first | (with_reducible exact Below.refl _ _) | (with_reducible assumption) | (with_reducible refine below_drewN ?_ _) | (with_reducible refine Below.alloc ?_ ?_ _) | (with_reducible refine Below.drew ?_) | (with_reducible refine Below.setCell ?_ ?_ _) | (with_reducible exact Below.size (by assumption)) | go_size))⟩
    · rw [hv.out]
      clear hz hv
      go_enter Try.func33, Try.ntmps33
      go_wp2_with (first | (go_at_call 55; (with_reducible refine (HM.out _).mono ?_); rintro e w' ⟨rfl, hbel⟩; (try (with_reducible replace hbel := bel_undrew hbel)); (try (with_reducible replace hbel := bel_undrewN hbel)); have hbw := bel_step (w := w) (by repeat' (first | (with_reducible exact Below.refl _ _) | (with_reducible assumption) | (with_reducible refine below_drewN ?_ _) | (with_reducible refine Below.alloc ?_ ?_ _) | (with_reducible refine Below.drew ?_) | (with_reducible refine Below.setCell ?_ ?_ _) | (with_reducible exact Below.size (by assumption)) | go_size)) hbel; have hsw := hbw.size; have hsb := hbel.size; (try simp at hsb); (try (refine lay (p := w.heap.size < w'.heap.size) ?_ ?_; rotate_left; intro hq0; rotate_left; omega)); (try (refine lay (p := w.heap.size + 1 < w'.heap.size) ?_ ?_; rotate_left; intro hq1; rotate_left; omega)); (try (refine lay (p := w.heap.size + 2 < w'.heap.size) ?_ ?_; rotate_left; intro hq2; rotate_left; omega)); (try (refine lay (p := w.heap.size + 3 < w'.heap.size) ?_ ?_; rotate_left; intro hq3; rotate_left; omega)); (try (refine lay (p := w.heap.size + 4 < w'.heap.size) ?_ ?_; rotate_left; intro hq4; rotate_left; omega)); (try (refine lay (p := w.heap.size + 5 < w'.heap.size) ?_ ?_; rotate_left; intro hq5; rotate_left; omega)); obtain ⟨hcel, hfro⟩ := bcell hbel; clear hbel))
      go_quiet (fail)
      go_wp2
      refine bodyPost_ret (v := .tuple #[.int .u32 ((a + imm % 4294967296) % 4294967296), .int .i64 1, .bool false, .bool true]) (by simp [results, Try.results33, go_sem]; try rfl) rfl ⟨by simp [accN], (by repeat' (first | (with_reducible exact Below.refl _ _) | (with_reducible assumption) | (with_reducible refine below_drewN ?_ _) | (with_reducible refine Below.alloc ?_ ?_ _) | (with_reducible refine Below.drew ?_) | (with_reducible refine Below.setCell ?_ ?_ _) | (with_reducible exact Below.size (by assumption)) | go_size))⟩
    · rw [hv.out]
      clear hz hv
      go_enter Try.func33, Try.ntmps33
      go_wp2_with (first | (go_at_call 55; (with_reducible refine (HM.out _).mono ?_); rintro e w' ⟨rfl, hbel⟩; (try (with_reducible replace hbel := bel_undrew hbel)); (try (with_reducible replace hbel := bel_undrewN hbel)); have hbw := bel_step (w := w) (by repeat' (first | (with_reducible exact Below.refl _ _) | (with_reducible assumption) | (with_reducible refine below_drewN ?_ _) | (with_reducible refine Below.alloc ?_ ?_ _) | (with_reducible refine Below.drew ?_) | (with_reducible refine Below.setCell ?_ ?_ _) | (with_reducible exact Below.size (by assumption)) | go_size)) hbel; have hsw := hbw.size; have hsb := hbel.size; (try simp at hsb); (try (refine lay (p := w.heap.size < w'.heap.size) ?_ ?_; rotate_left; intro hq0; rotate_left; omega)); (try (refine lay (p := w.heap.size + 1 < w'.heap.size) ?_ ?_; rotate_left; intro hq1; rotate_left; omega)); (try (refine lay (p := w.heap.size + 2 < w'.heap.size) ?_ ?_; rotate_left; intro hq2; rotate_left; omega)); (try (refine lay (p := w.heap.size + 3 < w'.heap.size) ?_ ?_; rotate_left; intro hq3; rotate_left; omega)); (try (refine lay (p := w.heap.size + 4 < w'.heap.size) ?_ ?_; rotate_left; intro hq4; rotate_left; omega)); (try (refine lay (p := w.heap.size + 5 < w'.heap.size) ?_ ?_; rotate_left; intro hq5; rotate_left; omega)); obtain ⟨hcel, hfro⟩ := bcell hbel; clear hbel))
      go_quiet (fail)
      go_wp2
      refine bodyPost_ret (v := .tuple #[.int .u32 ((a + imm % 4294967296) % 4294967296), .int .i64 2, .bool false, .bool true]) (by simp [results, Try.results33, go_sem]; try rfl) rfl ⟨by simp [accN], (by repeat' (first | (with_reducible exact Below.refl _ _) | (with_reducible assumption) | (with_reducible refine below_drewN ?_ _) | (with_reducible refine Below.alloc ?_ ?_ _) | (with_reducible refine Below.drew ?_) | (with_reducible refine Below.setCell ?_ ?_ _) | (with_reducible exact Below.size (by assumption)) | go_size))⟩
    · rw [hv.out]
      clear hz hv
      go_enter Try.func33, Try.ntmps33
      go_wp2_with (first | (go_at_call 55; (with_reducible refine (HM.out _).mono ?_); rintro e w' ⟨rfl, hbel⟩; (try (with_reducible replace hbel := bel_undrew hbel)); (try (with_reducible replace hbel := bel_undrewN hbel)); have hbw := bel_step (w := w) (by repeat' (first | (with_reducible exact Below.refl _ _) | (with_reducible assumption) | (with_reducible refine below_drewN ?_ _) | (with_reducible refine Below.alloc ?_ ?_ _) | (with_reducible refine Below.drew ?_) | (with_reducible refine Below.setCell ?_ ?_ _) | (with_reducible exact Below.size (by assumption)) | go_size)) hbel; have hsw := hbw.size; have hsb := hbel.size; (try simp at hsb); (try (refine lay (p := w.heap.size < w'.heap.size) ?_ ?_; rotate_left; intro hq0; rotate_left; omega)); (try (refine lay (p := w.heap.size + 1 < w'.heap.size) ?_ ?_; rotate_left; intro hq1; rotate_left; omega)); (try (refine lay (p := w.heap.size + 2 < w'.heap.size) ?_ ?_; rotate_left; intro hq2; rotate_left; omega)); (try (refine lay (p := w.heap.size + 3 < w'.heap.size) ?_ ?_; rotate_left; intro hq3; rotate_left; omega)); (try (refine lay (p := w.heap.size + 4 < w'.heap.size) ?_ ?_; rotate_left; intro hq4; rotate_left; omega)); (try (refine lay (p := w.heap.size + 5 < w'.heap.size) ?_ ?_; rotate_left; intro hq5; rotate_left; omega)); obtain ⟨hcel, hfro⟩ := bcell hbel; clear hbel))
      go_quiet (fail)
      go_wp2
      refine bodyPost_ret (v := .tuple #[.int .u32 ((a + imm % 4294967296) % 4294967296), .int .i64 4, .bool false, .bool true]) (by simp [results, Try.results33, go_sem]; try rfl) rfl ⟨by simp [accN], (by repeat' (first | (with_reducible exact Below.refl _ _) | (with_reducible assumption) | (with_reducible refine below_drewN ?_ _) | (with_reducible refine Below.alloc ?_ ?_ _) | (with_reducible refine Below.drew ?_) | (with_reducible refine Below.setCell ?_ ?_ _) | (with_reducible exact Below.size (by assumption)) | go_size))⟩
    · rw [hv.out]
      clear hz hv
      go_enter Try.func33, Try.ntmps33
      go_wp2_with (first | (go_at_call 55; (with_reducible refine (HM.out _).mono ?_); rintro e w' ⟨rfl, hbel⟩; (try (with_reducible replace hbel := bel_undrew hbel)); (try (with_reducible replace hbel := bel_undrewN hbel)); have hbw := bel_step (w := w) (by repeat' (first | (with_reducible exact Below.refl _ _) | (with_reducible assumption) | (with_reducible refine below_drewN ?_ _) | (with_reducible refine Below.alloc ?_ ?_ _) | (with_reducible refine Below.drew ?_) | (with_reducible refine Below.setCell ?_ ?_ _) | (with_reducible exact Below.size (by assumption)) | go_size)) hbel; have hsw := hbw.size; have hsb := hbel.size; (try simp at hsb); (try (refine lay (p := w.heap.size < w'.heap.size) ?_ ?_; rotate_left; intro hq0; rotate_left; omega)); (try (refine lay (p := w.heap.size + 1 < w'.heap.size) ?_ ?_; rotate_left; intro hq1; rotate_left; omega)); (try (refine lay (p := w.heap.size + 2 < w'.heap.size) ?_ ?_; rotate_left; intro hq2; rotate_left; omega)); (try (refine lay (p := w.heap.size + 3 < w'.heap.size) ?_ ?_; rotate_left; intro hq3; rotate_left; omega)); (try (refine lay (p := w.heap.size + 4 < w'.heap.size) ?_ ?_; rotate_left; intro hq4; rotate_left; omega)); (try (refine lay (p := w.heap.size + 5 < w'.heap.size) ?_ ?_; rotate_left; intro hq5; rotate_left; omega)); obtain ⟨hcel, hfro⟩ := bcell hbel; clear hbel))
      go_quiet (fail)
      go_wp2
      refine bodyPost_ret (v := .tuple #[.int .u32 ((a + imm % 4294967296) % 4294967296), .int .i64 1, .bool false, .bool false]) (by simp [results, Try.results33, go_sem]; try rfl) rfl ⟨by simp [accN], (by repeat' (first | (with_reducible exact Below.refl _ _) | (with_reducible assumption) | (with_reducible refine below_drewN ?_ _) | (with_reducible refine Below.alloc ?_ ?_ _) | (with_reducible refine Below.drew ?_) | (with_reducible refine Below.setCell ?_ ?_ _) | (with_reducible exact Below.size (by assumption)) | go_size))⟩
    · rw [hv.out]
      clear hz hv
      go_enter Try.func33, Try.ntmps33
      go_wp2_with (first | (go_at_call 55; (with_reducible refine (HM.out _).mono ?_); rintro e w' ⟨rfl, hbel⟩; (try (with_reducible replace hbel := bel_undrew hbel)); (try (with_reducible replace hbel := bel_undrewN hbel)); have hbw := bel_step (w := w) (by repeat' (first | (with_reducible exact Below.refl _ _) | (with_reducible assumption) | (with_reducible refine below_drewN ?_ _) | (with_reducible refine Below.alloc ?_ ?_ _) | (with_reducible refine Below.drew ?_) | (with_reducible refine Below.setCell ?_ ?_ _) | (with_reducible exact Below.size (by assumption)) | go_size)) hbel; have hsw := hbw.size; have hsb := hbel.size; (try simp at hsb); (try (refine lay (p := w.heap.size < w'.heap.size) ?_ ?_; rotate_left; intro hq0; rotate_left; omega)); (try (refine lay (p := w.heap.size + 1 < w'.heap.size) ?_ ?_; rotate_left; intro hq1; rotate_left; omega)); (try (refine lay (p := w.heap.size + 2 < w'.heap.size) ?_ ?_; rotate_left; intro hq2; rotate_left; omega)); (try (refine lay (p := w.heap.size + 3 < w'.heap.size) ?_ ?_; rotate_left; intro hq3; rotate_left; omega)); (try (refine lay (p := w.heap.size + 4 < w'.heap.size) ?_ ?_; rotate_left; intro hq4; rotate_left; omega)); (try (refine lay (p := w.heap.size + 5 < w'.heap.size) ?_ ?_; rotate_left; intro hq5; rotate_left; omega)); obtain ⟨hcel, hfro⟩ := bcell hbel; clear hbel))
      go_quiet (fail)
      go_wp2
      refine bodyPost_ret (v := .tuple #[.int .u32 ((a + imm % 4294967296) % 4294967296), .int .i64 2, .bool false, .bool false]) (by simp [results, Try.results33, go_sem]; try rfl) rfl ⟨by simp [accN], (by repeat' (first | (with_reducible exact Below.refl _ _) | (with_reducible assumption) | (with_reducible refine below_drewN ?_ _) | (with_reducible refine Below.alloc ?_ ?_ _) | (with_reducible refine Below.drew ?_) | (with_reducible refine Below.setCell ?_ ?_ _) | (with_reducible exact Below.size (by assumption)) | go_size))⟩
    · rw [hv.out]
      clear hz hv
      go_enter Try.func33, Try.ntmps33
      go_wp2_with (first | (go_at_call 55; (with_reducible refine (HM.out _).mono ?_); rintro e w' ⟨rfl, hbel⟩; (try (with_reducible replace hbel := bel_undrew hbel)); (try (with_reducible replace hbel := bel_undrewN hbel)); have hbw := bel_step (w := w) (by repeat' (first | (with_reducible exact Below.refl _ _) | (with_reducible assumption) | (with_reducible refine below_drewN ?_ _) | (with_reducible refine Below.alloc ?_ ?_ _) | (with_reducible refine Below.drew ?_) | (with_reducible refine Below.setCell ?_ ?_ _) | (with_reducible exact Below.size (by assumption)) | go_size)) hbel; have hsw := hbw.size; have hsb := hbel.size; (try simp at hsb); (try (refine lay (p := w.heap.size < w'.heap.size) ?_ ?_; rotate_left; intro hq0; rotate_left; omega)); (try (refine lay (p := w.heap.size + 1 < w'.heap.size) ?_ ?_; rotate_left; intro hq1; rotate_left; omega)); (try (refine lay (p := w.heap.size + 2 < w'.heap.size) ?_ ?_; rotate_left; intro hq2; rotate_left; omega)); (try (refine lay (p := w.heap.size + 3 < w'.heap.size) ?_ ?_; rotate_left; intro hq3; rotate_left; omega)); (try (refine lay (p := w.heap.size + 4 < w'.heap.size) ?_ ?_; rotate_left; intro hq4; rotate_left; omega)); (try (refine lay (p := w.heap.size + 5 < w'.heap.size) ?_ ?_; rotate_left; intro hq5; rotate_left; omega)); obtain ⟨hcel, hfro⟩ := bcell hbel; clear hbel))
      go_quiet (fail)
      go_wp2
      refine bodyPost_ret (v := .tuple #[.int .u32 ((a + imm % 4294967296) % 4294967296), .int .i64 1, .bool true, .bool false]) (by simp [results, Try.results33, go_sem]; try rfl) rfl ⟨by simp [accN], (by repeat' (first | (with_reducible exact Below.refl _ _) | (with_reducible assumption) | (with_reducible refine below_drewN ?_ _) | (with_reducible refine Below.alloc ?_ ?_ _) | (with_reducible refine Below.drew ?_) | (with_reducible refine Below.setCell ?_ ?_ _) | (with_reducible exact Below.size (by assumption)) | go_size))⟩
    · rw [hv.out]
      clear hz hv
      go_enter Try.func33, Try.ntmps33
      go_wp2_with (first | (go_at_call 55; (with_reducible refine (HM.out _).mono ?_); rintro e w' ⟨rfl, hbel⟩; (try (with_reducible replace hbel := bel_undrew hbel)); (try (with_reducible replace hbel := bel_undrewN hbel)); have hbw := bel_step (w := w) (by repeat' (first | (with_reducible exact Below.refl _ _) | (with_reducible assumption) | (with_reducible refine below_drewN ?_ _) | (with_reducible refine Below.alloc ?_ ?_ _) | (with_reducible refine Below.drew ?_) | (with_reducible refine Below.setCell ?_ ?_ _) | (with_reducible exact Below.size (by assumption)) | go_size)) hbel; have hsw := hbw.size; have hsb := hbel.size; (try simp at hsb); (try (refine lay (p := w.heap.size < w'.heap.size) ?_ ?_; rotate_left; intro hq0; rotate_left; omega)); (try (refine lay (p := w.heap.size + 1 < w'.heap.size) ?_ ?_; rotate_left; intro hq1; rotate_left; omega)); (try (refine lay (p := w.heap.size + 2 < w'.heap.size) ?_ ?_; rotate_left; intro hq2; rotate_left; omega)); (try (refine lay (p := w.heap.size + 3 < w'.heap.size) ?_ ?_; rotate_left; intro hq3; rotate_left; omega)); (try (refine lay (p := w.heap.size + 4 < w'.heap.size) ?_ ?_; rotate_left; intro hq4; rotate_left; omega)); (try (refine lay (p := w.heap.size + 5 < w'.heap.size) ?_ ?_; rotate_left; intro hq5; rotate_left; omega)); obtain ⟨hcel, hfro⟩ := bcell hbel; clear hbel))
      go_quiet (fail)
      go_wp2
      refine bodyPost_ret (v := .tuple #[.int .u32 ((a + imm % 4294967296) % 4294967296), .int .i64 2, .bool true, .bool false]) (by simp [results, Try.results33, go_sem]; try rfl) rfl ⟨by simp [accN], (by repeat' (first | (with_reducible exact Below.refl _ _) | (with_reducible assumption) | (with_reducible refine below_drewN ?_ _) | (with_reducible refine Below.alloc ?_ ?_ _) | (with_reducible refine Below.drew ?_) | (with_reducible refine Below.setCell ?_ ?_ _) | (with_reducible exact Below.size (by assumption)) | go_size))⟩
    · rw [hv.out]
      clear hz hv
      go_enter Try.func33, Try.ntmps33
      go_wp2_with (first | (go_at_call 55; (with_reducible refine (HM.out _).mono ?_); rintro e w' ⟨rfl, hbel⟩; (try (with_reducible replace hbel := bel_undrew hbel)); (try (with_reducible replace hbel := bel_undrewN hbel)); have hbw := bel_step (w := w) (by repeat' (first | (with_reducible exact Below.refl _ _) | (with_reducible assumption) | (with_reducible refine below_drewN ?_ _) | (with_reducible refine Below.alloc ?_ ?_ _) | (with_reducible refine Below.drew ?_) | (with_reducible refine Below.setCell ?_ ?_ _) | (with_reducible exact Below.size (by assumption)) | go_size)) hbel; have hsw := hbw.size; have hsb := hbel.size; (try simp at hsb); (try (refine lay (p := w.heap.size < w'.heap.size) ?_ ?_; rotate_left; intro hq0; rotate_left; omega)); (try (refine lay (p := w.heap.size + 1 < w'.heap.size) ?_ ?_; rotate_left; intro hq1; rotate_left; omega)); (try (refine lay (p := w.heap.size + 2 < w'.heap.size) ?_ ?_; rotate_left; intro hq2; rotate_left; omega)); (try (refine lay (p := w.heap.size + 3 < w'.heap.size) ?_ ?_; rotate_left; intro hq3; rotate_left; omega)); (try (refine lay (p := w.heap.size + 4 < w'.heap.size) ?_ ?_; rotate_left; intro hq4; rotate_left; omega)); (try (refine lay (p := w.heap.size + 5 < w'.heap.size) ?_ ?_; rotate_left; intro hq5; rotate_left; omega)); obtain ⟨hcel, hfro⟩ := bcell hbel; clear hbel))
      go_quiet (fail)
      go_wp2
      refine bodyPost_ret (v := .tuple #[.int .u32 ((a + imm % 4294967296) % 4294967296), .int .i64 4, .bool true, .bool false]) (by simp [results, Try.results33, go_sem]; try rfl) rfl ⟨by simp [accN], (by repeat' (first | (with_reducible exact Below.refl _ _) | (with_reducible assumption) | (with_reducible refine below_drewN ?_ _) | (with_reducible refine Below.alloc ?_ ?_ _) | (with_reducible refine Below.drew ?_) | (with_reducible refine Below.setCell ?_ ?_ _) | (with_reducible exact Below.size (by assumption)) | go_size))⟩
end Go.Proofs.Ytplhoiokfjjcdaa.X
