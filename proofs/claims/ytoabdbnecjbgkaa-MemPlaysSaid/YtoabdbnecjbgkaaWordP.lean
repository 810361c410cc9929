/- Plain arithmetic of words: bits of a word, signed numbers of some bits. No program is in sight. Words as lists of bits: what bits told one by one come to, and what pieces come to. No program is in sight. Instructions in plain terms: an operation's form, what may be. No program is in sight. -/
import Derived.WalkKit
namespace Go.Proofs.Ytoabdbnecjbgkaa.P
open Go Go.RowKit

/-- a number of bits, brought into 0 .. 32 -/
def held (b : Int) : Nat := (min (max b 0) 32).toNat
/-- so many bits of x from l on -/
def fld (x : Int) (l b : Nat) : Int := x / 2 ^ l % 2 ^ b
/-- the lowest b bits as a signed number -/
def sgn (x : Int) (b : Nat) : Int := if 2 * (x % 2 ^ b) < 2 ^ b then x % 2 ^ b else x % 2 ^ b - 2 ^ b

theorem held_le (b : Int) : held b ≤ 32 := by unfold held; omega
theorem p2pos (n : Nat) : (0 : Int) < 2 ^ n := Int.pow_pos (by decide)
theorem p2nat (n : Nat) : ((2 : Int) ^ n) = ((2 ^ n : Nat) : Int) := by simp
theorem p2le {n m : Nat} (h : n ≤ m) : (2 : Int) ^ n ≤ 2 ^ m := by
  rw [p2nat, p2nat]; exact_mod_cast Nat.pow_le_pow_right (by decide) h
theorem p2lt {n m : Nat} (h : n < m) : (2 : Int) ^ n < 2 ^ m := by
  rw [p2nat, p2nat]; exact_mod_cast Nat.pow_lt_pow_right (by decide) h
theorem p2add (n m : Nat) : (2 : Int) ^ (n + m) = 2 ^ n * 2 ^ m := Int.pow_add 2 n m
theorem p2succ (n : Nat) : (2 : Int) ^ (n + 1) = 2 * 2 ^ n := by rw [Int.pow_succ, Int.mul_comm]

theorem fld_bd (x : Int) (l b : Nat) : 0 ≤ fld x l b ∧ fld x l b < 2 ^ b :=
  ⟨Int.emod_nonneg _ (Int.ne_of_gt (p2pos b)), Int.emod_lt_of_pos _ (p2pos b)⟩
theorem fld_lt32 (x : Int) (l : Nat) {b : Nat} (h : b ≤ 32) : 0 ≤ fld x l b ∧ fld x l b < 4294967296 := by
  have h1 := fld_bd x l b
  have h2 : (2 : Int) ^ b ≤ 2 ^ 32 := p2le h
  have h3 : (2 : Int) ^ 32 = 4294967296 := by decide
  omega
theorem sgn_bd (x : Int) {b : Nat} (h : b ≤ 32) : -2147483648 ≤ sgn x b ∧ sgn x b ≤ 2147483647 := by
  have h1 : 0 ≤ x % 2 ^ b := Int.emod_nonneg _ (Int.ne_of_gt (p2pos b))
  have h2 : x % 2 ^ b < 2 ^ b := Int.emod_lt_of_pos _ (p2pos b)
  have h3 : (2 : Int) ^ b ≤ 2 ^ 32 := p2le h
  have h4 : (2 : Int) ^ 32 = 4294967296 := by decide
  unfold sgn
  split <;> omega

/-- x & mask -/
theorem and_mask (X n : Nat) : X &&& (2 ^ n - 1) = X % 2 ^ n := Nat.and_two_pow_sub_one_eq_mod X n

/-- the sign by two shifts -/
theorem sgn_shift (x : Int) (h : Nat) (h1 : 1 ≤ h) (h2 : h ≤ 32) :
    wrap32 (x * 2 ^ (32 - h) % 4294967296) / 2 ^ (32 - h) = sgn x h := by
  have e : (4294967296 : Int) = 2 ^ h * 2 ^ (32 - h) := by
    rw [← Int.pow_add, show h + (32 - h) = 32 by omega]; decide
  have e2 : x * 2 ^ (32 - h) % 4294967296 = (x % 2 ^ h) * 2 ^ (32 - h) := by
    rw [e, Int.mul_comm x, Int.mul_comm (2 ^ h), Int.mul_emod_mul_of_pos _ _ (p2pos _), Int.mul_comm]
  rw [e2]
  have b0 : 0 ≤ x % 2 ^ h := Int.emod_nonneg _ (Int.ne_of_gt (p2pos h))
  have b1 : x % 2 ^ h < 2 ^ h := Int.emod_lt_of_pos _ (p2pos h)
  generalize hm : x % 2 ^ h = m at *
  have hp := p2pos (32 - h)
  have hh := p2pos h
  unfold sgn
  rw [hm]
  have eh : (2 : Int) ^ h = 2 * 2 ^ (h - 1) := by rw [← p2succ, show h - 1 + 1 = h by omega]
  have c0 : 0 ≤ m * 2 ^ (32 - h) := Int.mul_nonneg b0 (Int.le_of_lt hp)
  have c1 : m * 2 ^ (32 - h) < 4294967296 := by rw [e]; exact Int.mul_lt_mul_of_pos_right b1 hp
  have ehalf : (2147483648 : Int) = 2 ^ (h - 1) * 2 ^ (32 - h) := by
    rw [← Int.pow_add, show h - 1 + (32 - h) = 31 by omega]; decide
  by_cases hlt : 2 * m < 2 ^ h
  · rw [if_pos hlt]
    have c2 : m * 2 ^ (32 - h) < 2147483648 := by
      rw [ehalf]; exact Int.mul_lt_mul_of_pos_right (by omega) hp
    have : wrap32 (m * 2 ^ (32 - h)) = m * 2 ^ (32 - h) := IntWalk.wrap32_in _ (by omega)
    rw [this]
    exact Int.mul_ediv_cancel _ (Int.ne_of_gt hp)
  · rw [if_neg hlt]
    have c2 : 2147483648 ≤ m * 2 ^ (32 - h) := by
      rw [ehalf]; exact Int.mul_le_mul_of_nonneg_right (by omega) (Int.le_of_lt hp)
    have : wrap32 (m * 2 ^ (32 - h)) = (m - 2 ^ h) * 2 ^ (32 - h) := by
      rw [Int.sub_mul, ← e]; unfold wrap32; omega
    rw [this]
    exact Int.mul_ediv_cancel _ (Int.ne_of_gt hp)

theorem sgn_zero (x : Int) : sgn x 0 = 0 := by
  unfold sgn; simp [Int.emod_one]

theorem and_maskI (x : Int) (n : Nat) (h0 : 0 ≤ x) (h1 : x < 4294967296) (hn : n ≤ 32) : bits .and .u32 x (2 ^ n - 1) = x % 2 ^ n := by
  have hp := p2pos n
  have h2 : (2 : Int) ^ n ≤ 2 ^ 32 := p2le hn
  have h3 : (2 : Int) ^ 32 = 4294967296 := by decide
  rw [u32_and x _ h0 h1 (by omega) (by omega)]
  obtain ⟨X, rfl⟩ := Int.eq_ofNat_of_zero_le h0
  have e : ((2 : Int) ^ n - 1).toNat = 2 ^ n - 1 := by rw [p2nat]; omega
  rw [e, Int.toNat_natCast, Nat.and_two_pow_sub_one_eq_mod]
  simp

theorem div_bd (x : Int) (n : Nat) (h0 : 0 ≤ x) (h1 : x < 4294967296) : 0 ≤ x / 2 ^ n ∧ x / 2 ^ n < 4294967296 := by
  have hp := p2pos n
  have := Int.ediv_le_self (2 ^ n) h0
  exact ⟨Int.ediv_nonneg h0 (Int.le_of_lt hp), by omega⟩
theorem div_big (x : Int) (n : Nat) (h0 : 0 ≤ x) (h1 : x < 4294967296) (hn : 32 ≤ n) : x / 2 ^ n = 0 := by
  have h2 : (2 : Int) ^ 32 ≤ 2 ^ n := p2le hn
  have h3 : (2 : Int) ^ 32 = 4294967296 := by decide
  exact Int.ediv_eq_zero_of_lt h0 (by omega)
theorem fld_big (x : Int) (l b : Nat) (h0 : 0 ≤ x) (h1 : x < 4294967296) (hl : 32 ≤ l) : fld x l b = 0 := by
  unfold fld; rw [div_big x l h0 h1 hl]; simp
theorem div_succ (x : Int) (k : Nat) : x / 2 ^ k / 2 = x / 2 ^ (k + 1) := by
  rw [Int.pow_succ, ← Int.ediv_ediv_of_nonneg (Int.le_of_lt (p2pos k))]

/-- bits, one by one from the lowest on -/
theorem fld_zero (x : Int) (l : Nat) : fld x l 0 = 0 := by unfold fld; simp [Int.emod_one]
theorem fld_succ (x : Int) (l k : Nat) : fld x l (k + 1) = fld x l k + 2 ^ k * (x / 2 ^ (l + k) % 2) := by
  unfold fld
  have e : x / 2 ^ (l + k) = x / 2 ^ l / 2 ^ k := by
    rw [Int.pow_add, ← Int.ediv_ediv_of_nonneg (Int.le_of_lt (p2pos l))]
  rw [e]
  generalize x / 2 ^ l = y
  have hp := p2pos k
  generalize hq : (2 : Int) ^ k = q at *
  have e2 : (2 : Int) ^ (k + 1) = q * 2 := by rw [Int.pow_succ, hq]
  rw [e2]
  have d1 : q * (y / q) + y % q = y := Int.mul_ediv_add_emod y q
  have d2 : 2 * (y / q / 2) + y / q % 2 = y / q := Int.mul_ediv_add_emod (y / q) 2
  have b0 : 0 ≤ y % q := Int.emod_nonneg _ (Int.ne_of_gt hp)
  have b1 : y % q < q := Int.emod_lt_of_pos _ hp
  have e3 : y = (y % q + q * (y / q % 2)) + q * 2 * (y / q / 2) := by
    have : q * (y / q) = q * (2 * (y / q / 2) + y / q % 2) := by rw [d2]
    rw [Int.mul_add, ← Int.mul_assoc] at this
    omega
  have c : 0 ≤ y / q % 2 ∧ y / q % 2 ≤ 1 := by omega
  have e4 : (y % q + q * (y / q % 2)) % (q * 2) = y % q + q * (y / q % 2) := by
    generalize y / q % 2 = r at c ⊢
    have hr : r = 0 ∨ r = 1 := by omega
    rcases hr with rfl | rfl
    · exact Int.emod_eq_of_lt (by omega) (by omega)
    · exact Int.emod_eq_of_lt (by omega) (by omega)
  conv => lhs; rw [e3]
  rw [Int.add_mul_emod_self_left, e4]

/-! wide numbers, products, quotients -/
def wid (x : Int) (s : Bool) : Int := if s = true ∧ 2147483648 ≤ x then x - 4294967296 else x
def mulh (a b : Int) (sa sb : Bool) : Int := wid a sa * wid b sb / 4294967296 % 4294967296
def quo (a b : Int) (s : Bool) : Int := if b = 0 then 4294967295 else (wid a s).tdiv (wid b s) % 4294967296
def rem (a b : Int) (s : Bool) : Int := if b = 0 then a else (wid a s).tmod (wid b s) % 4294967296

theorem wid_bd (x : Int) (s : Bool) (h0 : 0 ≤ x) (h1 : x < 4294967296) : -2147483648 ≤ wid x s ∧ wid x s < 4294967296 := by
  unfold wid; split <;> omega
theorem wid_bd_s (x : Int) (h0 : 0 ≤ x) (h1 : x < 4294967296) : -2147483648 ≤ wid x true ∧ wid x true < 2147483648 := by
  unfold wid; simp; split <;> omega
theorem wid_un (x : Int) : wid x false = x := by simp [wid]
theorem mul_bd {x y X Y : Int} (hx0 : -X ≤ x) (hx1 : x ≤ X) (hy0 : -Y ≤ y) (hy1 : y ≤ Y) : -(X * Y) ≤ x * y ∧ x * y ≤ X * Y := by
  have hX : 0 ≤ X := by omega
  have hY : 0 ≤ Y := by omega
  have h := Int.natAbs_mul x y
  have h1 : x.natAbs ≤ X.natAbs := by omega
  have h2 : y.natAbs ≤ Y.natAbs := by omega
  have h3 : x.natAbs * y.natAbs ≤ X.natAbs * Y.natAbs := Nat.mul_le_mul h1 h2
  have h4 := Int.natAbs_mul X Y
  have h5 : 0 ≤ X * Y := Int.mul_nonneg hX hY
  rw [← h, ← h4] at h3
  omega
/-- a product of a signed number and one of either kind fits 64 bits -/
theorem mul_fit {x y : Int} (hx0 : -2147483648 ≤ x) (hx1 : x < 4294967296) (hy0 : -2147483648 ≤ y) (hy1 : y < 4294967296) (h : x < 2147483648 ∨ y < 2147483648) :
    -9223372036854775808 ≤ x * y ∧ x * y ≤ 9223372036854775807 := by
  rcases h with h | h
  · have := mul_bd (x := x) (y := y) (X := 2147483648) (Y := 4294967295) (by omega) (by omega) (by omega) (by omega); omega
  · have := mul_bd (x := x) (y := y) (X := 4294967295) (Y := 2147483648) (by omega) (by omega) (by omega) (by omega); omega
theorem mul_halves (x b : Int) : x * b = x * (b / 65536) * 65536 + x * (b % 65536) := by
  have := Int.mul_ediv_add_emod b 65536
  calc x * b = x * (65536 * (b / 65536) + b % 65536) := by rw [this]
    _ = x * (b / 65536) * 65536 + x * (b % 65536) := by rw [Int.mul_add, Int.mul_comm 65536, Int.mul_assoc]


theorem quo_un (a b : Int) (hb : b ≠ 0) (a0 : 0 ≤ a) (a1 : a < 4294967296) (b0 : 0 ≤ b) : quo a b false = a / b := by
  unfold quo
  rw [if_neg hb, wid_un, wid_un, Int.tdiv_eq_ediv_of_nonneg a0]
  have := Int.ediv_le_self b a0
  have := Int.ediv_nonneg a0 b0
  omega
theorem rem_un (a b : Int) (hb : b ≠ 0) (a0 : 0 ≤ a) (b0 : 0 ≤ b) (b1 : b < 4294967296) : rem a b false = a % b := by
  unfold rem
  rw [if_neg hb, wid_un, wid_un, Int.tmod_eq_emod_of_nonneg a0]
  have := Int.emod_nonneg a hb
  have := Int.emod_lt_of_pos a (b := b) (by omega)
  omega
theorem wrap32_wid (a : Int) (a0 : 0 ≤ a) (a1 : a < 4294967296) : wrap32 a = wid a true := by
  unfold wrap32 wid; simp; split <;> omega
theorem quo_si (a b : Int) (hb : b ≠ 0) (a0 : 0 ≤ a) (a1 : a < 4294967296) (b0 : 0 ≤ b) (b1 : b < 4294967296) :
    wrap32 ((wrap32 a).tdiv (wrap32 b)) % 4294967296 = quo a b true := by
  unfold quo
  rw [if_neg hb, wrap32_wid a a0 a1, wrap32_wid b b0 b1]
  unfold wrap32; omega
theorem tmod_bd (x y : Int) (hx0 : -2147483648 ≤ x) (hx1 : x ≤ 2147483647) : -2147483648 ≤ x.tmod y ∧ x.tmod y ≤ 2147483647 := by
  have le : ∀ z : Int, 0 ≤ z → 0 ≤ z % y ∧ z % y ≤ z := fun z hz => by
    by_cases hy : y = 0
    · subst hy; simp; omega
    · have h1 := Int.emod_nonneg z hy
      refine ⟨h1, ?_⟩
      have h2 : z % y = z % (y.natAbs : Int) := by
        rcases Int.natAbs_eq y with h | h
        · rw [← h]
        · conv => lhs; rw [h]
          rw [Int.emod_neg]
      have h3 : z = (z.toNat : Int) := by omega
      rw [h2, h3, ← Int.natCast_emod]
      have := Nat.mod_le z.toNat y.natAbs
      omega
  by_cases h : x < 0
  · obtain ⟨z, rfl⟩ : ∃ z, x = -z := ⟨-x, by omega⟩
    rw [Int.neg_tmod, Int.tmod_eq_emod_of_nonneg (by omega)]
    have := le z (by omega)
    omega
  · rw [Int.tmod_eq_emod_of_nonneg (by omega)]
    have := le x (by omega)
    omega
theorem rem_si (a b : Int) (hb : b ≠ 0) (a0 : 0 ≤ a) (a1 : a < 4294967296) (b0 : 0 ≤ b) (b1 : b < 4294967296) :
    (wrap32 a).tmod (wrap32 b) % 4294967296 = rem a b true := by
  unfold rem
  rw [if_neg hb, wrap32_wid a a0 a1, wrap32_wid b b0 b1]

theorem tdiv_bd (x y : Int) (h0 : -4294967296 ≤ x) (h1 : x ≤ 4294967296) : -4294967296 ≤ x.tdiv y ∧ x.tdiv y ≤ 4294967296 := by
  have h := Int.natAbs_tdiv x y
  have h2 : (x.tdiv y).natAbs ≤ x.natAbs := by rw [h]; exact Nat.div_le_self _ _
  clear h
  generalize x.tdiv y = q at *
  omega
/-- bits below and bits above, put together -/
theorem or_join (lo hi : Int) (K : Nat) (l0 : 0 ≤ lo) (l1 : lo < 2 ^ K) (h0 : 0 ≤ hi) (h1 : lo + hi * 2 ^ K < 4294967296) : bits .or .u32 lo (hi * 2 ^ K) = lo + hi * 2 ^ K := by
  have hp := p2pos K
  have hm : 0 ≤ hi * 2 ^ K := Int.mul_nonneg h0 (Int.le_of_lt hp)
  rw [u32_or lo _ l0 (by omega) hm (by omega)]
  obtain ⟨L, rfl⟩ := Int.eq_ofNat_of_zero_le l0
  obtain ⟨H, rfl⟩ := Int.eq_ofNat_of_zero_le h0
  have e : ((H : Int) * 2 ^ K) = ((H * 2 ^ K : Nat) : Int) := by rw [p2nat, Int.natCast_mul]
  have l2 : L < 2 ^ K := by rw [p2nat] at l1; exact_mod_cast l1
  rw [e, Int.toNat_natCast, Int.toNat_natCast, Nat.or_comm, nat_join K (H * 2 ^ K) L (Nat.mul_mod_left _ _) l2]
  omega
theorem or_join' (lo hi : Int) (K : Nat) (l0 : 0 ≤ lo) (l1 : lo < 2 ^ K) (h0 : 0 ≤ hi) (h1 : lo + hi * 2 ^ K < 4294967296) : bits .or .u32 (hi * 2 ^ K) lo = hi * 2 ^ K + lo := by
  have hp := p2pos K
  have hm : 0 ≤ hi * 2 ^ K := Int.mul_nonneg h0 (Int.le_of_lt hp)
  rw [u32_or _ lo hm (by omega) l0 (by omega)]
  obtain ⟨L, rfl⟩ := Int.eq_ofNat_of_zero_le l0
  obtain ⟨H, rfl⟩ := Int.eq_ofNat_of_zero_le h0
  have e : ((H : Int) * 2 ^ K) = ((H * 2 ^ K : Nat) : Int) := by rw [p2nat, Int.natCast_mul]
  have l2 : L < 2 ^ K := by rw [p2nat] at l1; exact_mod_cast l1
  rw [e, Int.toNat_natCast, Int.toNat_natCast, nat_join K (H * 2 ^ K) L (Nat.mul_mod_left _ _) l2]
  omega
theorem held12 : held 12 = 12 := by decide
theorem held20 : held 20 = 20 := by decide

end Go.Proofs.Ytoabdbnecjbgkaa.P

namespace Go.Proofs.Ytoabdbnecjbgkaa.P
set_option linter.unusedVariables false
open Go Go.RowKit

/-- a bit of a word by its place; below 0 there is a nought -/
def bi (x : Int) (i : Int) : Int := if 0 ≤ i then x / 2 ^ i.toNat % 2 else 0
/-- bits, told from the highest on -/
def bitsV (x : Int) (l : List Int) : Int := l.foldl (fun v i => 2 * v + bi x i) 0
/-- the places from l + n - 1 down to l -/
def dn (l : Nat) : Nat → List Int
  | 0 => []
  | n + 1 => ((l + n : Nat) : Int) :: dn l n
/-- so many noughts -/
def no (n : Nat) : List Int := List.replicate n (-1)

theorem bi_bd (x i : Int) : 0 ≤ bi x i ∧ bi x i ≤ 1 := by unfold bi; split <;> omega
theorem bitsV_nil (x : Int) : bitsV x [] = 0 := rfl
theorem bitsV_snoc (x : Int) (l : List Int) (i : Int) : bitsV x (l ++ [i]) = 2 * bitsV x l + bi x i := by
  unfold bitsV; rw [List.foldl_append]; rfl
theorem bitsV_from (x : Int) (l : List Int) (v : Int) : l.foldl (fun v i => 2 * v + bi x i) v = v * 2 ^ l.length + bitsV x l := by
  induction l generalizing v with
  | nil => simp [bitsV]
  | cons i t ih =>
    have h1 := ih (2 * v + bi x i)
    have h2 := ih (2 * 0 + bi x i)
    unfold bitsV at h1 h2 ⊢
    simp only [List.foldl_cons, List.length_cons]
    rw [h1, h2, p2succ, Int.add_mul, Int.mul_assoc 2 v, Int.mul_left_comm 2 v, Int.mul_zero, Int.zero_add, Int.add_assoc]
theorem bitsV_append (x : Int) (a b : List Int) : bitsV x (a ++ b) = bitsV x a * 2 ^ b.length + bitsV x b := by
  conv => lhs; unfold bitsV
  rw [List.foldl_append, bitsV_from]; rfl
theorem bitsV_cons (x i : Int) (t : List Int) : bitsV x (i :: t) = bi x i * 2 ^ t.length + bitsV x t := by
  have := bitsV_append x [i] t
  simpa [bitsV] using this
theorem bitsV_bd (x : Int) (l : List Int) : 0 ≤ bitsV x l ∧ bitsV x l < 2 ^ l.length := by
  induction l with
  | nil => simp [bitsV]
  | cons i t ih =>
    rw [bitsV_cons, List.length_cons, p2succ]
    have hb := bi_bd x i
    have hp := p2pos t.length
    have hz : bi x i = 0 ∨ bi x i = 1 := by omega
    rcases hz with h | h <;> rw [h] <;> omega
theorem dn_length (l n : Nat) : (dn l n).length = n := by
  induction n with
  | zero => rfl
  | succ n ih => simp [dn, ih]
theorem dn_getD (l n k : Nat) (h : k < n) : (dn l n).getD k 0 = (l : Int) + n - 1 - k := by
  induction n generalizing k with
  | zero => omega
  | succ n ih =>
    cases k with
    | zero => simp [dn, List.getD]; omega
    | succ k =>
      have := ih k (by omega)
      simp [dn, List.getD] at *
      rw [this]; omega
theorem dn_take (l n k : Nat) (h : k < n) : (dn l n).take (k + 1) = (dn l n).take k ++ [(l : Int) + n - 1 - k] := by
  have hl : k < (dn l n).length := by rw [dn_length]; exact h
  rw [List.take_succ_eq_append_getElem hl, ← dn_getD l n k h]; simp [List.getD, hl]
theorem bitsV_dn (x : Int) (l n : Nat) : bitsV x (dn l n) = fld x l n := by
  induction n with
  | zero => rw [fld_zero]; rfl
  | succ n ih =>
    rw [dn, bitsV_cons, ih, dn_length, fld_succ]
    have : bi x ((l + n : Nat) : Int) = x / 2 ^ (l + n) % 2 := by
      unfold bi; rw [if_pos (by omega), Int.toNat_natCast]
    rw [this, Int.mul_comm, Int.add_comm]
theorem bitsV_no (x : Int) (n : Nat) : bitsV x (no n) = 0 := by
  unfold no
  induction n with
  | zero => rfl
  | succ n ih => rw [List.replicate_succ, bitsV_cons, ih]; simp [bi]
theorem no_length (n : Nat) : (no n).length = n := by simp [no]
theorem bitsV_noughts (x : Int) (l : List Int) (n : Nat) : bitsV x (l ++ no n) = bitsV x l * 2 ^ n := by
  rw [bitsV_append, bitsV_no, no_length]; omega

/-- pieces, from the highest on: the place of the lowest bit, and how many -/
def places (ps : List (Nat × Nat)) : List Int := ps.flatMap fun p => dn p.1 p.2
def total (ps : List (Nat × Nat)) : Nat := (ps.map (·.2)).sum
theorem places_length (ps : List (Nat × Nat)) : (places ps).length = total ps := by
  induction ps with
  | nil => rfl
  | cons p t ih => simp [places, total, dn_length] at * <;> omega
theorem places_snoc (ps : List (Nat × Nat)) (p : Nat × Nat) : places (ps ++ [p]) = places ps ++ dn p.1 p.2 := by simp [places]
theorem total_snoc (ps : List (Nat × Nat)) (p : Nat × Nat) : total (ps ++ [p]) = total ps + p.2 := by simp [total]

theorem take_piece (ps : List (Nat × Nat)) (k : Nat) (h : k < ps.length) : ps.take (k + 1) = ps.take k ++ [ps.getD k (0, 0)] := by
  rw [List.take_succ_eq_append_getElem h]; simp [List.getD, h]
theorem total_take (ps : List (Nat × Nat)) (k : Nat) : total (ps.take k) ≤ total ps := by
  induction ps generalizing k with
  | nil => simp [total]
  | cons p t ih =>
    cases k with
    | zero => simp [total]
    | succ k => have := ih k; simp [total] at *; omega
theorem held_nat {n : Nat} (h : n ≤ 32) : held (n : Int) = n := by unfold held; omega
/-- one piece more -/
theorem piece_round (x : Int) (ps : List (Nat × Nat)) (l n : Nat) (h : total ps + n ≤ 32) :
    bits .or .u32 (bitsV x (places ps) * 2 ^ n % 4294967296) (fld x l n) = bitsV x (places (ps ++ [(l, n)])) := by
  have hb := bitsV_bd x (places ps)
  rw [places_length] at hb
  have hp := p2pos n
  have c0 : 0 ≤ bitsV x (places ps) * 2 ^ n := Int.mul_nonneg hb.1 (Int.le_of_lt hp)
  have c1 : bitsV x (places ps) * 2 ^ n + 2 ^ n ≤ 2 ^ total ps * 2 ^ n := by
    have : (bitsV x (places ps) + 1) * 2 ^ n ≤ 2 ^ total ps * 2 ^ n := Int.mul_le_mul_of_nonneg_right (by omega) (Int.le_of_lt hp)
    rw [Int.add_mul] at this; omega
  have c2 : (2 : Int) ^ total ps * 2 ^ n ≤ 4294967296 := by
    rw [← Int.pow_add]
    have h2 : (2 : Int) ^ (total ps + n) ≤ 2 ^ 32 := p2le h
    have h3 : (2 : Int) ^ 32 = 4294967296 := by decide
    omega
  have hf := fld_bd x l n
  rw [Int.emod_eq_of_lt c0 (by omega), or_join' _ _ n hf.1 hf.2 hb.1 (by omega), places_snoc, bitsV_append, bitsV_dn, dn_length]

theorem noughts_word (x : Int) (ps : List (Nat × Nat)) (n : Nat) (h : total ps + n ≤ 32) :
    bitsV x (places ps) * 2 ^ n % 4294967296 = bitsV x (places ps ++ no n) := by
  have hb := bitsV_bd x (places ps ++ no n)
  rw [List.length_append, places_length, no_length] at hb
  have h2 : (2 : Int) ^ (total ps + n) ≤ 2 ^ 32 := p2le h
  have h3 : (2 : Int) ^ 32 = 4294967296 := by decide
  rw [← bitsV_noughts]
  exact Int.emod_eq_of_lt hb.1 (by omega)
/-! the numbers of a word of four bytes -/
def immI (w : Int) : Int := sgn (bitsV w (dn 20 12)) 12
def immS (w : Int) : Int := sgn (bitsV w (dn 25 7 ++ dn 7 5)) 12
def immB (w : Int) : Int := sgn (bitsV w ([31, 7] ++ dn 25 6 ++ (dn 8 4 ++ [-1]))) 13
def immU (w : Int) : Int := sgn (bitsV w (dn 12 20 ++ [-1, -1, -1, -1, -1, -1, -1, -1, -1, -1, -1, -1])) 32
def immJ (w : Int) : Int := sgn (bitsV w (([31] ++ dn 12 8) ++ [20] ++ (dn 21 10 ++ [-1]))) 21
theorem immI_places (w : Int) : immI w = sgn (bitsV w (places [(20, 12)] ++ no 0)) 12 := rfl
theorem immS_places (w : Int) : immS w = sgn (bitsV w (places [(25, 7), (7, 5)] ++ no 0)) 12 := rfl
theorem immB_places (w : Int) : immB w = sgn (bitsV w (places [(31, 1), (7, 1), (25, 6), (8, 4)] ++ no 1)) 13 := rfl
theorem immU_places (w : Int) : immU w = sgn (bitsV w (places [(12, 20)] ++ no 12)) 32 := rfl
theorem immJ_places (w : Int) : immJ w = sgn (bitsV w (places [(31, 1), (12, 8), (20, 1), (21, 10)] ++ no 1)) 21 := rfl
end Go.Proofs.Ytoabdbnecjbgkaa.P

namespace Go.Proofs.Ytoabdbnecjbgkaa.P
set_option linter.unusedVariables false
open Go Go.RowKit

/-- an operation's form; 0: there is none -/
def form (op : Int) : Int :=
  if op < 1 ∨ 48 < op then 0 else if op ≤ 2 then 1 else if op = 3 then 2 else if op = 4 then 4 else if op ≤ 10 then 3 else if op ≤ 15 then 4
  else if op ≤ 18 then 5 else if op ≤ 24 then 6 else if op ≤ 27 then 7 else if 38 ≤ op ∧ op ≤ 40 then 9 else 8
/-- which registers a form has -/
def hasRd (f : Int) : Bool := f == 1 || f == 2 || f == 4 || f == 6 || f == 7 || f == 8
def hasRs1 (f : Int) : Bool := decide (3 ≤ f) && decide (f ≤ 8)
def hasRs2 (f : Int) : Bool := f == 3 || f == 5 || f == 8
/-- may a register be there? -/
def regB (n : Int) (is : Bool) : Bool := decide (0 ≤ n) && decide (n < 32) && (is || n == 0)
/-- may a number be there? -/
def numB (f v : Int) : Bool :=
  if f = 1 then v % 4096 == 0 else if f = 2 then v % 2 == 0 && sgn (v % 4294967296) 21 == v else if f = 3 then v % 2 == 0 && sgn (v % 4294967296) 13 == v
  else if f = 4 ∨ f = 5 ∨ f = 6 then sgn (v % 4294967296) 12 == v else if f = 7 then decide (0 ≤ v) && decide (v < 32) else v == 0
def mayB (op rd rs1 rs2 imm : Int) : Bool :=
  !(form op == 0) && regB rd (hasRd (form op)) && regB rs1 (hasRs1 (form op)) && regB rs2 (hasRs2 (form op)) && numB (form op) imm
theorem form_bd (op : Int) : 0 ≤ form op ∧ form op ≤ 9 := by
  unfold form; repeat' split
  all_goals omega
theorem form_none {op : Int} (h : op < 1 ∨ 48 < op) : form op = 0 := by unfold form; rw [if_pos h]
theorem form_upper {op : Int} (h : 1 ≤ op ∧ op ≤ 2) : form op = 1 := by
  unfold form; repeat' split
  all_goals omega
theorem form_jump : form 3 = 2 := by decide
theorem form_jalr : form 4 = 4 := by decide
theorem form_branch {op : Int} (h : 5 ≤ op ∧ op ≤ 10) : form op = 3 := by
  unfold form; repeat' split
  all_goals omega
theorem form_load {op : Int} (h : 11 ≤ op ∧ op ≤ 15) : form op = 4 := by
  unfold form; repeat' split
  all_goals omega
theorem form_store {op : Int} (h : 16 ≤ op ∧ op ≤ 18) : form op = 5 := by
  unfold form; repeat' split
  all_goals omega
theorem form_number {op : Int} (h : 19 ≤ op ∧ op ≤ 24) : form op = 6 := by
  unfold form; repeat' split
  all_goals omega
theorem form_shift {op : Int} (h : 25 ≤ op ∧ op ≤ 27) : form op = 7 := by
  unfold form; repeat' split
  all_goals omega
theorem form_bare {op : Int} (h : 38 ≤ op ∧ op ≤ 40) : form op = 9 := by
  unfold form; repeat' split
  all_goals omega
theorem form_register {op : Int} (h : 28 ≤ op ∧ op ≤ 37 ∨ 41 ≤ op ∧ op ≤ 48) : form op = 8 := by
  unfold form; repeat' split
  all_goals omega
end Go.Proofs.Ytoabdbnecjbgkaa.P
