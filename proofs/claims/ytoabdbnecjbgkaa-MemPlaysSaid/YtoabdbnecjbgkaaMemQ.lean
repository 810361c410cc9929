/- Four bytes stored at once, and one by one. No program is in sight. -/
import Derived.Test.YtoabdbnecjbgkaaMemP
namespace Go.Proofs.Ytoabdbnecjbgkaa.P
set_option linter.unusedVariables false
open Go Go.RowKit

theorem adr_adr0 (a : Int) (i : Nat) : adr (adr a i) 0 = adr a i := by unfold adr; omega
theorem adr_add (a : Int) (i j : Nat) : adr (adr a i) j = adr a (i + j) := by unfold adr; omega
theorem adr_self {a : Int} (h : okA a) : adr a 0 = a := by unfold adr; unfold okA at h; omega
theorem adr_ne (a : Int) {i j : Nat} (hi : i < 4) (hj : j < 4) (h : i ≠ j) : adr a i ≠ adr a j := by unfold adr; omega
theorem st_one (M : Int → Int) (a : Int) (i : Nat) (v : Int) : stN M (adr a i) v 1 = upd M (adr a i) (v % 256) := by
  show upd M (adr (adr a i) 0) (v / 256 ^ 0 % 256) = _
  rw [adr_adr0, Int.pow_zero, Int.ediv_one]
theorem upd_swap (M : Int → Int) {a b : Int} (x y : Int) (h : a ≠ b) : upd (upd M a x) b y = upd (upd M b y) a x := by
  funext z
  unfold upd
  by_cases e : z = b
  · subst e; rw [if_pos rfl, if_neg (fun k => h k.symm), if_pos rfl]
  · rw [if_neg e]
    by_cases f : z = a
    · rw [if_pos f, if_pos f]
    · rw [if_neg f, if_neg f, if_neg e]
theorem parts (M : Int → Int) (a v : Int) :
    stN (stN (stN (stN M (adr a 3) (v / 16777216) 1) (adr a 2) (v / 65536) 1) (adr a 1) (v / 256) 1) (adr a 0) v 1 = stN M a v 4 := by
  rw [st_one, st_one, st_one, st_one]
  show _ = upd (upd (upd (upd M (adr a 0) (v / 256 ^ 0 % 256)) (adr a 1) (v / 256 ^ 1 % 256)) (adr a 2) (v / 256 ^ 2 % 256)) (adr a 3) (v / 256 ^ 3 % 256)
  have e0 : v / 256 ^ 0 % 256 = v % 256 := by rw [Int.pow_zero, Int.ediv_one]
  have e1 : (256 : Int) ^ 1 = 256 := by decide
  have e2 : (256 : Int) ^ 2 = 65536 := by decide
  have e3 : (256 : Int) ^ 3 = 16777216 := by decide
  rw [e0, e1, e2, e3]
  have n := fun i j hi hj h => adr_ne a (i := i) (j := j) hi hj h
  rw [upd_swap M _ _ (n 3 2 (by omega) (by omega) (by omega)), upd_swap _ _ _ (n 3 1 (by omega) (by omega) (by omega)), upd_swap _ _ _ (n 3 0 (by omega) (by omega) (by omega)),
    upd_swap M _ _ (n 2 1 (by omega) (by omega) (by omega)), upd_swap _ _ _ (n 2 0 (by omega) (by omega) (by omega)), upd_swap M _ _ (n 1 0 (by omega) (by omega) (by omega))]
theorem ld_low (M : Int → Int) (a v : Int) : ldN (stN M a v 4) a 2 = v % 65536 := by
  have n := fun i j hi hj h => adr_ne a (i := i) (j := j) hi hj h
  show (0 + stN M a v 4 (adr a 0) * 256 ^ 0) + stN M a v 4 (adr a 1) * 256 ^ 1 = _
  have h0 : stN M a v 4 (adr a 0) = v / 256 ^ 0 % 256 := by
    show upd (upd (upd (upd M (adr a 0) _) (adr a 1) _) (adr a 2) _) (adr a 3) _ (adr a 0) = _
    unfold upd
    rw [if_neg (n 0 3 (by omega) (by omega) (by omega)), if_neg (n 0 2 (by omega) (by omega) (by omega)), if_neg (n 0 1 (by omega) (by omega) (by omega)), if_pos rfl]
  have h1 : stN M a v 4 (adr a 1) = v / 256 ^ 1 % 256 := by
    show upd (upd (upd (upd M (adr a 0) _) (adr a 1) _) (adr a 2) _) (adr a 3) _ (adr a 1) = _
    unfold upd
    rw [if_neg (n 1 3 (by omega) (by omega) (by omega)), if_neg (n 1 2 (by omega) (by omega) (by omega)), if_pos rfl]
  rw [h0, h1]
  have e1 : (256 : Int) ^ 1 = 256 := by decide
  rw [Int.pow_zero, e1, Int.ediv_one]
  omega
theorem ld_high (M : Int → Int) (a v : Int) (h0 : 0 ≤ v) (h1 : v < 4294967296) : ldN (stN M a v 4) (adr a 2) 2 = v / 65536 := by
  have n := fun i j hi hj h => adr_ne a (i := i) (j := j) hi hj h
  show (0 + stN M a v 4 (adr (adr a 2) 0) * 256 ^ 0) + stN M a v 4 (adr (adr a 2) 1) * 256 ^ 1 = _
  rw [adr_add, adr_add]
  have h2 : stN M a v 4 (adr a 2) = v / 256 ^ 2 % 256 := by
    show upd (upd (upd (upd M (adr a 0) _) (adr a 1) _) (adr a 2) _) (adr a 3) _ (adr a 2) = _
    unfold upd
    rw [if_neg (n 2 3 (by omega) (by omega) (by omega)), if_pos rfl]
  have h3 : stN M a v 4 (adr a 3) = v / 256 ^ 3 % 256 := by
    show upd (upd (upd (upd M (adr a 0) _) (adr a 1) _) (adr a 2) _) (adr a 3) _ (adr a 3) = _
    unfold upd
    rw [if_pos rfl]
  rw [h2, h3]
  have e1 : (256 : Int) ^ 1 = 256 := by decide
  have e2 : (256 : Int) ^ 2 = 65536 := by decide
  have e3 : (256 : Int) ^ 3 = 16777216 := by decide
  rw [Int.pow_zero, e1, e2, e3]
  omega
theorem ld_all (M : Int → Int) (a v : Int) (h0 : 0 ≤ v) (h1 : v < 4294967296) : ldN (stN M a v 4) a 4 = v := by
  rw [ld_st M a v h0 4 (Nat.le_refl _)]
  have e4 : (256 : Int) ^ 4 = 4294967296 := by decide
  rw [e4]; omega
end Go.Proofs.Ytoabdbnecjbgkaa.P
