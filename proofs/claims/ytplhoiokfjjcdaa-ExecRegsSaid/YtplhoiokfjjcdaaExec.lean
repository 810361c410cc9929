/- What the functions of package exec compute. -/
import Derived.Test.YtplhoiokfjjcdaaIns
import Derived.Test.YtplhoiokfjjcdaaCells
namespace Go.Proofs.Ytplhoiokfjjcdaa.X
set_option linter.unusedVariables false
set_option linter.unusedSimpArgs false
open Go.ChangeShapes Go.WideShapes Go.ChangeAt Go.RowKit Go.Proofs.Ytplhoiokfjjcdaa.P Go.Proofs.Ytplhoiokfjjcdaa.W

theorem ret_two {a b : Int} {p q : Bool} (h1 : a = b) (h2 : p = q) : Ending.returned (.tuple #[.int .u32 a, .bool p]) = .returned (.tuple #[.int .u32 b, .bool q]) := by rw [h1, h2]
def flg (b : Bool) : Int := if b then 1 else 0
def shr (a b : Int) : Int := a / 2 ^ (b % 32).toNat
/-- what an operation makes of two words -/
def alu (op a b : Int) : Int :=
  if op = 29 then (a + -b % 4294967296) % 4294967296
  else if op = 28 ∨ op = 19 then (a + b) % 4294967296
  else if op = 31 ∨ op = 20 then flg (decide (wrap32 a < wrap32 b))
  else if op = 32 ∨ op = 21 then flg (decide (a < b))
  else if op = 33 ∨ op = 22 then bits .xor .u32 a b
  else if op = 36 ∨ op = 23 then bits .or .u32 a b
  else if op = 37 ∨ op = 24 then bits .and .u32 a b
  else if op = 30 ∨ op = 25 then a * 2 ^ (b % 32).toNat % 4294967296
  else if op = 34 ∨ op = 26 then a / 2 ^ (b % 32).toNat
  else if op = 35 ∨ op = 27 then wrap32 a / 2 ^ (b % 32).toNat % 4294967296
  else if op = 41 then a * b % 4294967296
  else if op = 42 then mulh a b true true
  else if op = 43 then mulh a b true false
  else if op = 44 then mulh a b false false
  else if op = 45 then quo a b true
  else if op = 46 then quo a b false
  else if op = 47 then rem a b true
  else if op = 48 then rem a b false
  else 0
def aluOk (op : Int) : Bool := (decide (19 ≤ op) && decide (op ≤ 37)) || (decide (41 ≤ op) && decide (op ≤ 48))

theorem flag (b : Bool) (w : World) :
    Calls Try.prog 91 #[.bool b] w fun e w' => e = .returned (.int .u32 (flg b)) ∧ w = w' := by
  cases b
  all_goals
    go_enter Try.func91, Try.ntmps91
    go_wp2
    go_ret
    exact ⟨rfl, rfl⟩
theorem less (a b : Int) (w : World) :
    Calls Try.prog 88 #[.int .u32 a, .int .u32 b] w fun e w' => e = .returned (.bool (decide (wrap32 a < wrap32 b))) ∧ w = w' := by
  go_enter Try.func88, Try.ntmps88
  go_wp2
  go_ret
  exact ⟨rfl, rfl⟩
set_option maxHeartbeats 1000000 in
theorem products (op a b : Int) (w : World) (a0 : 0 ≤ a) (a1 : a < 4294967296) (b0 : 0 ≤ b) (b1 : b < 4294967296) (h : op < 19 ∨ (37 < op ∧ op < 41) ∨ 48 < op ∨ (41 ≤ op ∧ op ≤ 48)) :
    Calls Try.prog 95 #[.int .i64 op, .int .u32 a, .int .u32 b] w fun e w' => e = .returned (.tuple #[.int .u32 (alu op a b), .bool (aluOk op)]) ∧ w = w' := by
  have hp : 0 ≤ a * b := Int.mul_nonneg a0 b0
  have hc : op = 41 ∨ op = 42 ∨ op = 43 ∨ op = 44 ∨ op = 45 ∨ op = 46 ∨ op = 47 ∨ op = 48 ∨ ¬ (41 ≤ op ∧ op ≤ 48) := by omega
  have hz : ¬ (41 ≤ op ∧ op ≤ 48) → (op == 41) = false ∧ (op == 42) = false ∧ (op == 43) = false ∧ (op == 44) = false ∧ (op == 45) = false ∧ (op == 46) = false ∧ (op == 47) = false ∧ (op == 48) = false ∧ aluOk op = false ∧ alu op a b = 0 := by
    intro k
    have z : alu op a b = 0 := by unfold alu; repeat (rw [if_neg (by omega)])
    have y : aluOk op = false := by simp [aluOk]; omega
    refine ⟨?_, ?_, ?_, ?_, ?_, ?_, ?_, ?_, y, z⟩ <;> (simp only [beq_eq_false_iff_ne, ne_eq]; omega)
  rcases hc with rfl | rfl | rfl | rfl | rfl | rfl | rfl | rfl | k
  rotate_right
  · obtain ⟨k1, k2, k3, k4, k5, k6, k7, k8, hok, hal⟩ := hz k
    rw [hok, hal]
    clear hz hok hal
    go_enter Try.func95, Try.ntmps95
    go_wp2
    go_ret2
    exact ⟨rfl, rfl⟩
  all_goals clear hz
  all_goals
    go_enter Try.func95, Try.ntmps95
    go_wp2_with (first | (go_at_call 100; refine (W.MulHigh _ _ _ _ _ (by omega) (by omega) (by omega) (by omega)).mono ?_; rintro e w' ⟨rfl, rfl⟩) | (go_at_call 101; refine (W.Div _ _ _ _ (by omega) (by omega) (by omega) (by omega)).mono ?_; rintro e w' ⟨rfl, rfl⟩) | (go_at_call 102; refine (W.Rem _ _ _ _ (by omega) (by omega) (by omega) (by omega)).mono ?_; rintro e w' ⟨rfl, rfl⟩))
    go_ret2
    exact ⟨rfl, rfl⟩
theorem shift2 (a b : Int) (pa pb : Addr) (w : World) (a0 : 0 ≤ a) (a1 : a < 4294967296) (b0 : 0 ≤ b) (b1 : b < 4294967296) (ha : w.cell? pa = some (.int .u32 a)) (hb : w.cell? pb = some (.int .u32 b)) :
    Calls Try.prog 90 #[.func (.func 92) #[] #[.pointer (some pa)], .pointer (some pb)] w fun e w' => e = .returned (.int .u32 (a * 2 ^ (b % 32).toNat % 4294967296)) ∧ w = w' := by
  go_enter Try.func90, Try.ntmps90
  go_wp2
  go_ret
  exact ⟨rfl, rfl⟩
theorem shift3 (a b : Int) (pa pb : Addr) (w : World) (a0 : 0 ≤ a) (a1 : a < 4294967296) (b0 : 0 ≤ b) (b1 : b < 4294967296) (ha : w.cell? pa = some (.int .u32 a)) (hb : w.cell? pb = some (.int .u32 b)) :
    Calls Try.prog 90 #[.func (.func 93) #[] #[.pointer (some pa)], .pointer (some pb)] w fun e w' => e = .returned (.int .u32 (a / 2 ^ (b % 32).toNat)) ∧ w = w' := by
  go_enter Try.func90, Try.ntmps90
  go_wp2
  go_ret
  exact ⟨rfl, rfl⟩
theorem shift4 (a b : Int) (pa pb : Addr) (w : World) (a0 : 0 ≤ a) (a1 : a < 4294967296) (b0 : 0 ≤ b) (b1 : b < 4294967296) (ha : w.cell? pa = some (.int .u32 a)) (hb : w.cell? pb = some (.int .u32 b)) :
    Calls Try.prog 90 #[.func (.func 94) #[] #[.pointer (some pa)], .pointer (some pb)] w fun e w' => e = .returned (.int .u32 (wrap32 a / 2 ^ (b % 32).toNat % 4294967296)) ∧ w = w' := by
  go_enter Try.func90, Try.ntmps90
  go_wp2
  go_ret
  exact ⟨rfl, rfl⟩
set_option maxHeartbeats 4000000 in
theorem sums (op a b : Int) (w : World) (a0 : 0 ≤ a) (a1 : a < 4294967296) (b0 : 0 ≤ b) (b1 : b < 4294967296) :
    Calls Try.prog 58 #[.int .i64 op, .int .u32 a, .int .u32 b] w fun e w' => e = .returned (.tuple #[.int .u32 (alu op a b), .bool (aluOk op)]) ∧ Below w.heap.size w w' := by
  have HP := hid (fun w h => products op a b w a0 a1 b0 b1 h)
  go_enter Try.func58, Try.ntmps58
  go_wp2_with (first | (go_at_call 90; (with_reducible refine (shift2 a b _ _ _ a0 a1 b0 b1 (by go_simp) (by go_simp)).mono ?_); rintro e w' ⟨rfl, rfl⟩) | (go_at_call 90; (with_reducible refine (shift3 a b _ _ _ a0 a1 b0 b1 (by go_simp) (by go_simp)).mono ?_); rintro e w' ⟨rfl, rfl⟩) | (go_at_call 90; (with_reducible refine (shift4 a b _ _ _ a0 a1 b0 b1 (by go_simp) (by go_simp)).mono ?_); rintro e w' ⟨rfl, rfl⟩) | (go_at_call 88; (with_reducible refine (less _ _ _).mono ?_); rintro e w' ⟨rfl, rfl⟩) | (go_at_call 91; (with_reducible refine (flag _ _).mono ?_); rintro e w' ⟨rfl, rfl⟩) | (go_at_call 95; (with_reducible refine (HP.out _ (by simp only [beq_eq_false_iff_ne, ne_eq] at *; omega)).mono ?_); rintro e w' ⟨rfl, rfl⟩))
  all_goals simp only [beq_iff_eq, beq_eq_false_iff_ne, ne_eq] at *
  all_goals go_ret2
  all_goals refine ⟨?_, by go_grown⟩
  all_goals clear HP
  all_goals refine ret_two ?_ ?_
  all_goals first | rfl | (subst_vars; simp [alu, aluOk])
end Go.Proofs.Ytplhoiokfjjcdaa.X
