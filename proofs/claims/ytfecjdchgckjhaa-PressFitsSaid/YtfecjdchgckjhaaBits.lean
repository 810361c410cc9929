/- Words as lists of bits: what bits told one by one come to, and what pieces come to. No program is in sight. -/
import Derived.Test.YtfecjdchgckjhaaWordP
namespace Go.Proofs.Ytfecjdchgckjhaa.P
set_option linter.unusedVariables false
open Go Go.RowKit

/-- a bit of a word by its place; below 0 there is a nought -/
def bi (x : Int) (i : Int) : Int := if 0 ≤ i then x / 2 ^ i.toNat % 2 else 0
/-- bits, told from the highest on -/
def bitsV (x : Int) (l : List Int) : Int := l.foldl (fun v i => 2 * v + bi x i) 0
/-- the places from l + n - 1 down to l -/
def dn (l : Nat) : Nat → List Int
  | 0 => []
  | n + 1 => ((l + n : Nat) : Int) :: dn l n
/-- so many noughts -/
def no (n : Nat) : List Int := List.replicate n (-1)

theorem bi_bd (x i : Int) : 0 ≤ bi x i ∧ bi x i ≤ 1 := by unfold bi; split <;> omega
theorem bitsV_nil (x : Int) : bitsV x [] = 0 := rfl
theorem bitsV_snoc (x : Int) (l : List Int) (i : Int) : bitsV x (l ++ [i]) = 2 * bitsV x l + bi x i := by
  unfold bitsV; rw [List.foldl_append]; rfl
theorem bitsV_from (x : Int) (l : List Int) (v : Int) : l.foldl (fun v i => 2 * v + bi x i) v = v * 2 ^ l.length + bitsV x l := by
  induction l generalizing v with
  | nil => simp [bitsV]
  | cons i t ih =>
    have h1 := ih (2 * v + bi x i)
    have h2 := ih (2 * 0 + bi x i)
    unfold bitsV at h1 h2 ⊢
    simp only [List.foldl_cons, List.length_cons]
    rw [h1, h2, p2succ, Int.add_mul, Int.mul_assoc 2 v, Int.mul_left_comm 2 v, Int.mul_zero, Int.zero_add, Int.add_assoc]
theorem bitsV_append (x : Int) (a b : List Int) : bitsV x (a ++ b) = bitsV x a * 2 ^ b.length + bitsV x b := by
  conv => lhs; unfold bitsV
  rw [List.foldl_append, bitsV_from]; rfl
theorem bitsV_cons (x i : Int) (t : List Int) : bitsV x (i :: t) = bi x i * 2 ^ t.length + bitsV x t := by
  have := bitsV_append x [i] t
  simpa [bitsV] using this
theorem bitsV_bd (x : Int) (l : List Int) : 0 ≤ bitsV x l ∧ bitsV x l < 2 ^ l.length := by
  induction l with
  | nil => simp [bitsV]
  | cons i t ih =>
    rw [bitsV_cons, List.length_cons, p2succ]
    have hb := bi_bd x i
    have hp := p2pos t.length
    have hz : bi x i = 0 ∨ bi x i = 1 := by omega
    rcases hz with h | h <;> rw [h] <;> omega
theorem dn_length (l n : Nat) : (dn l n).length = n := by
  induction n with
  | zero => rfl
  | succ n ih => simp [dn, ih]
theorem dn_getD (l n k : Nat) (h : k < n) : (dn l n).getD k 0 = (l : Int) + n - 1 - k := by
  induction n generalizing k with
  | zero => omega
  | succ n ih =>
    cases k with
    | zero => simp [dn, List.getD]; omega
    | succ k =>
      have := ih k (by omega)
      simp [dn, List.getD] at *
      rw [this]; omega
theorem dn_take (l n k : Nat) (h : k < n) : (dn l n).take (k + 1) = (dn l n).take k ++ [(l : Int) + n - 1 - k] := by
  have hl : k < (dn l n).length := by rw [dn_length]; exact h
  rw [List.take_succ_eq_append_getElem hl, ← dn_getD l n k h]; simp [List.getD, hl]
theorem bitsV_dn (x : Int) (l n : Nat) : bitsV x (dn l n) = fld x l n := by
  induction n with
  | zero => rw [fld_zero]; rfl
  | succ n ih =>
    rw [dn, bitsV_cons, ih, dn_length, fld_succ]
    have : bi x ((l + n : Nat) : Int) = x / 2 ^ (l + n) % 2 := by
      unfold bi; rw [if_pos (by omega), Int.toNat_natCast]
    rw [this, Int.mul_comm, Int.add_comm]
theorem bitsV_no (x : Int) (n : Nat) : bitsV x (no n) = 0 := by
  unfold no
  induction n with
  | zero => rfl
  | succ n ih => rw [List.replicate_succ, bitsV_cons, ih]; simp [bi]
theorem no_length (n : Nat) : (no n).length = n := by simp [no]
theorem bitsV_noughts (x : Int) (l : List Int) (n : Nat) : bitsV x (l ++ no n) = bitsV x l * 2 ^ n := by
  rw [bitsV_append, bitsV_no, no_length]; omega

/-- pieces, from the highest on: the place of the lowest bit, and how many -/
def places (ps : List (Nat × Nat)) : List Int := ps.flatMap fun p => dn p.1 p.2
def total (ps : List (Nat × Nat)) : Nat := (ps.map (·.2)).sum
theorem places_length (ps : List (Nat × Nat)) : (places ps).length = total ps := by
  induction ps with
  | nil => rfl
  | cons p t ih => simp [places, total, dn_length] at * <;> omega
theorem places_snoc (ps : List (Nat × Nat)) (p : Nat × Nat) : places (ps ++ [p]) = places ps ++ dn p.1 p.2 := by simp [places]
theorem total_snoc (ps : List (Nat × Nat)) (p : Nat × Nat) : total (ps ++ [p]) = total ps + p.2 := by simp [total]

theorem take_piece (ps : List (Nat × Nat)) (k : Nat) (h : k < ps.length) : ps.take (k + 1) = ps.take k ++ [ps.getD k (0, 0)] := by
  rw [List.take_succ_eq_append_getElem h]; simp [List.getD, h]
theorem total_take (ps : List (Nat × Nat)) (k : Nat) : total (ps.take k) ≤ total ps := by
  induction ps generalizing k with
  | nil => simp [total]
  | cons p t ih =>
    cases k with
    | zero => simp [total]
    | succ k => have := ih k; simp [total] at *; omega
theorem held_nat {n : Nat} (h : n ≤ 32) : held (n : Int) = n := by unfold held; omega
/-- one piece more -/
theorem piece_round (x : Int) (ps : List (Nat × Nat)) (l n : Nat) (h : total ps + n ≤ 32) :
    bits .or .u32 (bitsV x (places ps) * 2 ^ n % 4294967296) (fld x l n) = bitsV x (places (ps ++ [(l, n)])) := by
  have hb := bitsV_bd x (places ps)
  rw [places_length] at hb
  have hp := p2pos n
  have c0 : 0 ≤ bitsV x (places ps) * 2 ^ n := Int.mul_nonneg hb.1 (Int.le_of_lt hp)
  have c1 : bitsV x (places ps) * 2 ^ n + 2 ^ n ≤ 2 ^ total ps * 2 ^ n := by
    have : (bitsV x (places ps) + 1) * 2 ^ n ≤ 2 ^ total ps * 2 ^ n := Int.mul_le_mul_of_nonneg_right (by omega) (Int.le_of_lt hp)
    rw [Int.add_mul] at this; omega
  have c2 : (2 : Int) ^ total ps * 2 ^ n ≤ 4294967296 := by
    rw [← Int.pow_add]
    have h2 : (2 : Int) ^ (total ps + n) ≤ 2 ^ 32 := p2le h
    have h3 : (2 : Int) ^ 32 = 4294967296 := by decide
    omega
  have hf := fld_bd x l n
  rw [Int.emod_eq_of_lt c0 (by omega), or_join' _ _ n hf.1 hf.2 hb.1 (by omega), places_snoc, bitsV_append, bitsV_dn, dn_length]

theorem noughts_word (x : Int) (ps : List (Nat × Nat)) (n : Nat) (h : total ps + n ≤ 32) :
    bitsV x (places ps) * 2 ^ n % 4294967296 = bitsV x (places ps ++ no n) := by
  have hb := bitsV_bd x (places ps ++ no n)
  rw [List.length_append, places_length, no_length] at hb
  have h2 : (2 : Int) ^ (total ps + n) ≤ 2 ^ 32 := p2le h
  have h3 : (2 : Int) ^ 32 = 4294967296 := by decide
  rw [← bitsV_noughts]
  exact Int.emod_eq_of_lt hb.1 (by omega)
/-! the numbers of a word of four bytes -/
def immI (w : Int) : Int := sgn (bitsV w (dn 20 12)) 12
def immS (w : Int) : Int := sgn (bitsV w (dn 25 7 ++ dn 7 5)) 12
def immB (w : Int) : Int := sgn (bitsV w ([31, 7] ++ dn 25 6 ++ (dn 8 4 ++ [-1]))) 13
def immU (w : Int) : Int := sgn (bitsV w (dn 12 20 ++ [-1, -1, -1, -1, -1, -1, -1, -1, -1, -1, -1, -1])) 32
def immJ (w : Int) : Int := sgn (bitsV w (([31] ++ dn 12 8) ++ [20] ++ (dn 21 10 ++ [-1]))) 21
theorem immI_places (w : Int) : immI w = sgn (bitsV w (places [(20, 12)] ++ no 0)) 12 := rfl
theorem immS_places (w : Int) : immS w = sgn (bitsV w (places [(25, 7), (7, 5)] ++ no 0)) 12 := rfl
theorem immB_places (w : Int) : immB w = sgn (bitsV w (places [(31, 1), (7, 1), (25, 6), (8, 4)] ++ no 1)) 13 := rfl
theorem immU_places (w : Int) : immU w = sgn (bitsV w (places [(12, 20)] ++ no 12)) 32 := rfl
theorem immJ_places (w : Int) : immJ w = sgn (bitsV w (places [(31, 1), (12, 8), (20, 1), (21, 10)] ++ no 1)) 21 := rfl
end Go.Proofs.Ytfecjdchgckjhaa.P
