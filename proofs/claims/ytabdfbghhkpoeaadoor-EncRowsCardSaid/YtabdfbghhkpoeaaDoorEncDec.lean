/- A word that an instruction is put into is decoded as that instruction; which words fit a row. No program is in sight. -/
import Derived.Test.YtabdfbghhkpoeaaDoorEncPut
import Derived.Test.YtabdfbghhkpoeaaDoorImmP
namespace Go.Proofs.YtabdfbghhkpoeaaDoor.P
set_option linter.unusedVariables false
set_option linter.unusedSimpArgs false
open Go Go.RowKit

/-- a piece of a number that is put together -/
theorem piece (x hi mid lo K L : Int) (hK : 0 < K) (hL : 0 < L) (l : 0 ≤ lo ∧ lo < K) (m : 0 ≤ mid ∧ mid < L) (h : x = (hi * L + mid) * K + lo) : x / K % L = mid := by
  have e : x / K = hi * L + mid := by
    rw [h, Int.add_comm, Int.add_mul_ediv_right _ _ (Int.ne_of_gt hK), Int.ediv_eq_zero_of_lt l.1 l.2, Int.zero_add]
  rw [e, Int.add_comm, Int.add_mul_emod_self_right, Int.emod_eq_of_lt m.1 m.2]
theorem piece0 (x hi lo K : Int) (hK : 0 < K) (l : 0 ≤ lo ∧ lo < K) (h : x = hi * K + lo) : x % K = lo := by
  rw [h, Int.add_comm, Int.add_mul_emod_self_right, Int.emod_eq_of_lt l.1 l.2]

/-- the operation whose bits a word has -/
theorem opN_of {x o : Int} (h0 : 1 ≤ o) (h1 : o ≤ 48) (hl : x % 128 = lowOf o) (h3 : 3 < o → o ≠ 39 → o ≠ 40 → fld x 12 3 = f3Of o)
    (h7 : 24 < o → o ≠ 38 → o ≠ 39 → o ≠ 40 → fld x 25 7 = f7Of o) (h39 : o = 39 → x = 115) (h40 : o = 40 → x = 1048691) : opN x = o := by
  have hc : o = 1 ∨ o = 2 ∨ o = 3 ∨ o = 4 ∨ o = 5 ∨ o = 6 ∨ o = 7 ∨ o = 8 ∨ o = 9 ∨ o = 10 ∨ o = 11 ∨ o = 12 ∨ o = 13 ∨ o = 14 ∨ o = 15 ∨ o = 16 ∨ o = 17 ∨ o = 18 ∨ o = 19 ∨ o = 20 ∨ o = 21 ∨ o = 22 ∨ o = 23 ∨ o = 24 ∨ o = 25 ∨ o = 26 ∨ o = 27 ∨ o = 28 ∨ o = 29 ∨ o = 30 ∨ o = 31 ∨ o = 32 ∨ o = 33 ∨ o = 34 ∨ o = 35 ∨ o = 36 ∨ o = 37 ∨ o = 38 ∨ o = 39 ∨ o = 40 ∨ o = 41 ∨ o = 42 ∨ o = 43 ∨ o = 44 ∨ o = 45 ∨ o = 46 ∨ o = 47 ∨ o = 48 := by omega
  rcases hc with rfl | rfl | rfl | rfl | rfl | rfl | rfl | rfl | rfl | rfl | rfl | rfl | rfl | rfl | rfl | rfl | rfl | rfl | rfl | rfl | rfl | rfl | rfl | rfl | rfl | rfl | rfl | rfl | rfl | rfl | rfl | rfl | rfl | rfl | rfl | rfl | rfl | rfl | rfl | rfl | rfl | rfl | rfl | rfl | rfl | rfl | rfl | rfl
  · exact opN_lui hl
  · exact opN_auipc hl
  · exact opN_jal hl
  · rw [opN_jalr hl, h3 (by decide) (by decide) (by decide)]; rfl
  all_goals try (first | (rw [opN_branch hl, h3 (by decide) (by decide) (by decide)]; rfl; done) | (rw [opN_load hl, h3 (by decide) (by decide) (by decide)]; rfl; done) | (rw [opN_store hl, h3 (by decide) (by decide) (by decide)]; rfl; done) | (rw [opN_fence hl, h3 (by decide) (by decide) (by decide)]; rfl; done))
  all_goals try (rw [opN_bare hl]; first | (rw [if_pos (h39 rfl)]; done) | (rw [if_neg (by rw [h40 rfl]; decide), if_pos (h40 rfl)]; done))
  all_goals try (rw [opN_register hl, h7 (by decide) (by decide) (by decide) (by decide), h3 (by decide) (by decide) (by decide)]; rfl; done)
  all_goals try (rw [opN_number hl, h7 (by decide) (by decide) (by decide) (by decide), h3 (by decide) (by decide) (by decide)]; rfl; done)
  all_goals (rw [opN_number hl, h3 (by decide) (by decide) (by decide), if_neg (fun h => absurd h.1 (by decide)), if_neg (fun h => absurd h.1 (by decide))]; rfl)
theorem f12 {imm : Int} (h : sgn (imm % 4294967296) 12 = imm) : -2048 ≤ imm ∧ imm < 2048 := by
  have e : (2 : Int) ^ 12 = 4096 := by decide
  unfold sgn at h; rw [e] at h; split at h <;> omega
theorem f13 {imm : Int} (h : sgn (imm % 4294967296) 13 = imm) : -4096 ≤ imm ∧ imm < 4096 := by
  have e : (2 : Int) ^ 13 = 8192 := by decide
  unfold sgn at h; rw [e] at h; split at h <;> omega
theorem f21 {imm : Int} (h : sgn (imm % 4294967296) 21 = imm) : -1048576 ≤ imm ∧ imm < 1048576 := by
  have e : (2 : Int) ^ 21 = 2097152 := by decide
  unfold sgn at h; rw [e] at h; split at h <;> omega

/-! the pieces of a word, by the form -/
theorem numU {imm : Int} (i0 : -2147483648 ≤ imm) (i1 : imm < 2147483648) (hm : imm % 4096 = 0) : ∃ p q : Int, fld (imm % 4294967296) 12 20 = p + 524288 * q ∧ (0 ≤ p ∧ p < 524288) ∧ (0 ≤ q ∧ q < 2) ∧ p * 4096 - 2147483648 * q = imm := by
  have e : fld (imm % 4294967296) 12 20 = imm % 4294967296 / 4096 % 1048576 := rfl
  rw [e]
  exact ⟨imm % 4294967296 / 4096 % 524288, imm % 4294967296 / 2147483648, by omega, by omega, by omega, by omega⟩
theorem digU {x c rd imm : Int} (hc : 0 ≤ c ∧ c < 128) (a : 0 ≤ rd ∧ rd < 32) (i0 : -2147483648 ≤ imm) (i1 : imm < 2147483648) (hm : imm % 4096 = 0)
    (hx : x = c + rd * 128 + fld (imm % 4294967296) 12 20 * 4096) : (0 ≤ x ∧ x < 4294967296) ∧ x % 128 = c ∧ fld x 7 5 = rd ∧ immU x = imm := by
  obtain ⟨p, q, e, hp, hq, hi⟩ := numU i0 i1 hm
  rw [e] at hx
  refine ⟨by omega, piece0 x (rd + (p + 524288 * q) * 32) c 128 (by decide) hc (by omega), piece x (p + 524288 * q) rd c 128 32 (by decide) (by decide) hc a (by omega), ?_⟩
  rw [immU_eq, piece x q p (c + rd * 128) 4096 524288 (by decide) (by decide) (by omega) (by omega) (by omega),
    piece x 0 q (c + rd * 128 + p * 4096) 2147483648 2 (by decide) (by decide) (by omega) (by omega) (by omega)]
  exact hi
theorem numJ {imm : Int} (i0 : -1048576 ≤ imm) (i1 : imm < 1048576) (hm : imm % 2 = 0) : ∃ p q r s : Int, fld (imm % 4294967296) 1 10 = p ∧ fld (imm % 4294967296) 11 1 = q ∧ fld (imm % 4294967296) 12 8 = r ∧ fld (imm % 4294967296) 20 1 = s ∧
    (0 ≤ p ∧ p < 1024) ∧ (0 ≤ q ∧ q < 2) ∧ (0 ≤ r ∧ r < 256) ∧ (0 ≤ s ∧ s < 2) ∧ r * 4096 + 2048 * q + p * 2 - 1048576 * s = imm := by
  have e1 : fld (imm % 4294967296) 1 10 = imm / 2 % 1024 := by show imm % 4294967296 / 2 % 1024 = _; omega
  have e2 : fld (imm % 4294967296) 11 1 = imm / 2048 % 2 := by show imm % 4294967296 / 2048 % 2 = _; omega
  have e3 : fld (imm % 4294967296) 12 8 = imm / 4096 % 256 := by show imm % 4294967296 / 4096 % 256 = _; omega
  have e4 : fld (imm % 4294967296) 20 1 = imm / 1048576 % 2 := by show imm % 4294967296 / 1048576 % 2 = _; omega
  rw [e1, e2, e3, e4]
  exact ⟨_, _, _, _, rfl, rfl, rfl, rfl, by omega, by omega, by omega, by omega, by omega⟩
theorem digJ {x c rd imm : Int} (hc : 0 ≤ c ∧ c < 128) (a : 0 ≤ rd ∧ rd < 32) (i0 : -1048576 ≤ imm) (i1 : imm < 1048576) (hm : imm % 2 = 0)
    (hx : x = c + rd * 128 + (fld (imm % 4294967296) 1 10 * 2097152 + fld (imm % 4294967296) 11 1 * 1048576 + fld (imm % 4294967296) 12 8 * 4096 + fld (imm % 4294967296) 20 1 * 2147483648)) :
    (0 ≤ x ∧ x < 4294967296) ∧ x % 128 = c ∧ fld x 7 5 = rd ∧ immJ x = imm := by
  obtain ⟨p, q, r, s, e1, e2, e3, e4, hp, hq, hr, hs, hi⟩ := numJ i0 i1 hm
  rw [e1, e2, e3, e4] at hx
  refine ⟨by omega, piece0 x (rd + 32 * (p * 512 + q * 256 + r + s * 524288)) c 128 (by decide) hc (by omega), piece x (p * 512 + q * 256 + r + s * 524288) rd c 128 32 (by decide) (by decide) hc a (by omega), ?_⟩
  rw [immJ_eq, piece x (q + 2 * p + 2048 * s) r (c + rd * 128) 4096 256 (by decide) (by decide) (by omega) (by omega) (by omega),
    piece x (p + 1024 * s) q (c + rd * 128 + r * 4096) 1048576 2 (by decide) (by decide) (by omega) (by omega) (by omega),
    piece x s p (c + rd * 128 + r * 4096 + q * 1048576) 2097152 1024 (by decide) (by decide) (by omega) (by omega) (by omega),
    piece x 0 s (c + rd * 128 + r * 4096 + q * 1048576 + p * 2097152) 2147483648 2 (by decide) (by decide) (by omega) (by omega) (by omega)]
  exact hi
theorem numB_ {imm : Int} (i0 : -4096 ≤ imm) (i1 : imm < 4096) (hm : imm % 2 = 0) : ∃ p q r s : Int, fld (imm % 4294967296) 1 4 = p ∧ fld (imm % 4294967296) 5 6 = q ∧ fld (imm % 4294967296) 11 1 = r ∧ fld (imm % 4294967296) 12 1 = s ∧
    (0 ≤ p ∧ p < 16) ∧ (0 ≤ q ∧ q < 64) ∧ (0 ≤ r ∧ r < 2) ∧ (0 ≤ s ∧ s < 2) ∧ 2048 * r + q * 32 + p * 2 - 4096 * s = imm := by
  have e1 : fld (imm % 4294967296) 1 4 = imm / 2 % 16 := by show imm % 4294967296 / 2 % 16 = _; omega
  have e2 : fld (imm % 4294967296) 5 6 = imm / 32 % 64 := by show imm % 4294967296 / 32 % 64 = _; omega
  have e3 : fld (imm % 4294967296) 11 1 = imm / 2048 % 2 := by show imm % 4294967296 / 2048 % 2 = _; omega
  have e4 : fld (imm % 4294967296) 12 1 = imm / 4096 % 2 := by show imm % 4294967296 / 4096 % 2 = _; omega
  rw [e1, e2, e3, e4]
  exact ⟨_, _, _, _, rfl, rfl, rfl, rfl, by omega, by omega, by omega, by omega, by omega⟩
theorem digB {x c f3 rs1 rs2 imm : Int} (hc : 0 ≤ c ∧ c < 128) (h3 : 0 ≤ f3 ∧ f3 < 8) (b : 0 ≤ rs1 ∧ rs1 < 32) (d : 0 ≤ rs2 ∧ rs2 < 32) (i0 : -4096 ≤ imm) (i1 : imm < 4096) (hm : imm % 2 = 0)
    (hx : x = c + f3 * 4096 + rs1 * 32768 + rs2 * 1048576 + (fld (imm % 4294967296) 1 4 * 256 + fld (imm % 4294967296) 5 6 * 33554432 + fld (imm % 4294967296) 11 1 * 128 + fld (imm % 4294967296) 12 1 * 2147483648)) :
    (0 ≤ x ∧ x < 4294967296) ∧ x % 128 = c ∧ fld x 12 3 = f3 ∧ fld x 15 5 = rs1 ∧ fld x 20 5 = rs2 ∧ immB x = imm := by
  obtain ⟨p, q, r, s, e1, e2, e3, e4, hp, hq, hr, hs, hi⟩ := numB_ i0 i1 hm
  rw [e1, e2, e3, e4] at hx
  refine ⟨by omega, piece0 x (r + 2 * p + 32 * f3 + 256 * rs1 + 8192 * rs2 + 262144 * q + 16777216 * s) c 128 (by decide) hc (by omega), piece x (rs1 + 32 * rs2 + 1024 * q + 65536 * s) f3 (c + r * 128 + p * 256) 4096 8 (by decide) (by decide) (by omega) h3 (by omega),
    piece x (rs2 + 32 * q + 2048 * s) rs1 (c + r * 128 + p * 256 + f3 * 4096) 32768 32 (by decide) (by decide) (by omega) b (by omega), piece x (q + 64 * s) rs2 (c + r * 128 + p * 256 + f3 * 4096 + rs1 * 32768) 1048576 32 (by decide) (by decide) (by omega) d (by omega), ?_⟩
  rw [immB_eq, piece x (p + 16 * f3 + 128 * rs1 + 4096 * rs2 + 131072 * q + 8388608 * s) r c 128 2 (by decide) (by decide) (by omega) (by omega) (by omega),
    piece x s q (c + r * 128 + p * 256 + f3 * 4096 + rs1 * 32768 + rs2 * 1048576) 33554432 64 (by decide) (by decide) (by omega) (by omega) (by omega),
    piece x (f3 + 8 * rs1 + 256 * rs2 + 8192 * q + 524288 * s) p (c + r * 128) 256 16 (by decide) (by decide) (by omega) (by omega) (by omega),
    piece x 0 s (c + r * 128 + p * 256 + f3 * 4096 + rs1 * 32768 + rs2 * 1048576 + q * 33554432) 2147483648 2 (by decide) (by decide) (by omega) (by omega) (by omega)]
  exact hi
theorem digI {x c f3 rd rs1 imm : Int} (hc : 0 ≤ c ∧ c < 128) (h3 : 0 ≤ f3 ∧ f3 < 8) (a : 0 ≤ rd ∧ rd < 32) (b : 0 ≤ rs1 ∧ rs1 < 32) (i0 : -2048 ≤ imm) (i1 : imm < 2048)
    (hx : x = c + f3 * 4096 + rd * 128 + rs1 * 32768 + fld (imm % 4294967296) 0 12 * 1048576) :
    (0 ≤ x ∧ x < 4294967296) ∧ x % 128 = c ∧ fld x 12 3 = f3 ∧ fld x 7 5 = rd ∧ fld x 15 5 = rs1 ∧ immI x = imm := by
  obtain ⟨p, q, e, hp, hq, hi⟩ : ∃ p q : Int, fld (imm % 4294967296) 0 12 = p + 2048 * q ∧ (0 ≤ p ∧ p < 2048) ∧ (0 ≤ q ∧ q < 2) ∧ p - 2048 * q = imm := by
    have e : fld (imm % 4294967296) 0 12 = imm % 4096 := by show imm % 4294967296 / 1 % 4096 = _; omega
    rw [e]
    exact ⟨imm % 2048, imm / 2048 % 2, by omega, by omega, by omega, by omega⟩
  rw [e] at hx
  refine ⟨by omega, piece0 x (rd + 32 * f3 + 256 * rs1 + 8192 * (p + 2048 * q)) c 128 (by decide) hc (by omega), piece x (rs1 + 32 * (p + 2048 * q)) f3 (c + rd * 128) 4096 8 (by decide) (by decide) (by omega) h3 (by omega),
    piece x (f3 + 8 * rs1 + 256 * (p + 2048 * q)) rd c 128 32 (by decide) (by decide) hc a (by omega), piece x (p + 2048 * q) rs1 (c + rd * 128 + f3 * 4096) 32768 32 (by decide) (by decide) (by omega) b (by omega), ?_⟩
  rw [immI_eq, piece x q p (c + rd * 128 + f3 * 4096 + rs1 * 32768) 1048576 2048 (by decide) (by decide) (by omega) (by omega) (by omega),
    piece x 0 q (c + rd * 128 + f3 * 4096 + rs1 * 32768 + p * 1048576) 2147483648 2 (by decide) (by decide) (by omega) (by omega) (by omega)]
  exact hi
theorem digS {x c f3 rs1 rs2 imm : Int} (hc : 0 ≤ c ∧ c < 128) (h3 : 0 ≤ f3 ∧ f3 < 8) (b : 0 ≤ rs1 ∧ rs1 < 32) (d : 0 ≤ rs2 ∧ rs2 < 32) (i0 : -2048 ≤ imm) (i1 : imm < 2048)
    (hx : x = c + f3 * 4096 + rs1 * 32768 + rs2 * 1048576 + (fld (imm % 4294967296) 0 5 * 128 + fld (imm % 4294967296) 5 7 * 33554432)) :
    (0 ≤ x ∧ x < 4294967296) ∧ x % 128 = c ∧ fld x 12 3 = f3 ∧ fld x 15 5 = rs1 ∧ fld x 20 5 = rs2 ∧ immS x = imm := by
  obtain ⟨p, q, s, e1, e2, hp, hq, hs, hi⟩ : ∃ p q s : Int, fld (imm % 4294967296) 0 5 = p ∧ fld (imm % 4294967296) 5 7 = q + 64 * s ∧ (0 ≤ p ∧ p < 32) ∧ (0 ≤ q ∧ q < 64) ∧ (0 ≤ s ∧ s < 2) ∧ q * 32 + p - 2048 * s = imm := by
    have e1 : fld (imm % 4294967296) 0 5 = imm % 32 := by show imm % 4294967296 / 1 % 32 = _; omega
    have e2 : fld (imm % 4294967296) 5 7 = imm / 32 % 128 := by show imm % 4294967296 / 32 % 128 = _; omega
    rw [e1, e2]
    exact ⟨_, imm / 32 % 64, imm / 2048 % 2, rfl, by omega, by omega, by omega, by omega, by omega⟩
  rw [e1, e2] at hx
  refine ⟨by omega, piece0 x (p + 32 * f3 + 256 * rs1 + 8192 * rs2 + 262144 * (q + 64 * s)) c 128 (by decide) hc (by omega), piece x (rs1 + 32 * rs2 + 1024 * (q + 64 * s)) f3 (c + p * 128) 4096 8 (by decide) (by decide) (by omega) h3 (by omega),
    piece x (rs2 + 32 * (q + 64 * s)) rs1 (c + p * 128 + f3 * 4096) 32768 32 (by decide) (by decide) (by omega) b (by omega), piece x (q + 64 * s) rs2 (c + p * 128 + f3 * 4096 + rs1 * 32768) 1048576 32 (by decide) (by decide) (by omega) d (by omega), ?_⟩
  rw [immS_eq, piece x s q (c + p * 128 + f3 * 4096 + rs1 * 32768 + rs2 * 1048576) 33554432 64 (by decide) (by decide) (by omega) (by omega) (by omega),
    piece x (f3 + 8 * rs1 + 256 * rs2 + 8192 * (q + 64 * s)) p c 128 32 (by decide) (by decide) hc hp (by omega),
    piece x 0 s (c + p * 128 + f3 * 4096 + rs1 * 32768 + rs2 * 1048576 + q * 33554432) 2147483648 2 (by decide) (by decide) (by omega) (by omega) (by omega)]
  exact hi
theorem digR {x c f3 f7 rd rs1 rs2 : Int} (hc : 0 ≤ c ∧ c < 128) (h3 : 0 ≤ f3 ∧ f3 < 8) (h7 : 0 ≤ f7 ∧ f7 < 128) (a : 0 ≤ rd ∧ rd < 32) (b : 0 ≤ rs1 ∧ rs1 < 32) (d : 0 ≤ rs2 ∧ rs2 < 32)
    (hx : x = c + f3 * 4096 + f7 * 33554432 + rd * 128 + rs1 * 32768 + rs2 * 1048576) :
    (0 ≤ x ∧ x < 4294967296) ∧ x % 128 = c ∧ fld x 12 3 = f3 ∧ fld x 25 7 = f7 ∧ fld x 7 5 = rd ∧ fld x 15 5 = rs1 ∧ fld x 20 5 = rs2 := by
  refine ⟨by omega, piece0 x (rd + 32 * f3 + 256 * rs1 + 8192 * rs2 + 262144 * f7) c 128 (by decide) hc (by omega), piece x (rs1 + 32 * rs2 + 1024 * f7) f3 (c + rd * 128) 4096 8 (by decide) (by decide) (by omega) h3 (by omega),
    piece x 0 f7 (c + rd * 128 + f3 * 4096 + rs1 * 32768 + rs2 * 1048576) 33554432 128 (by decide) (by decide) (by omega) h7 (by omega),
    piece x (f3 + 8 * rs1 + 256 * rs2 + 8192 * f7) rd c 128 32 (by decide) (by decide) hc a (by omega), piece x (rs2 + 32 * f7) rs1 (c + rd * 128 + f3 * 4096) 32768 32 (by decide) (by decide) (by omega) b (by omega),
    piece x f7 rs2 (c + rd * 128 + f3 * 4096 + rs1 * 32768) 1048576 32 (by decide) (by decide) (by omega) d (by omega)⟩

theorem code_all : ∀ k : Nat, k < 48 → ¬ (37 ≤ k ∧ k ≤ 39) → mC ((k : Int) + 1) = lowOf ((k : Int) + 1) ∧ (3 ≤ k → m3 ((k : Int) + 1) = f3Of ((k : Int) + 1)) ∧ (24 ≤ k → m7 ((k : Int) + 1) = f7Of ((k : Int) + 1)) ∧ (k < 3 → m3 ((k : Int) + 1) = 0) := by decide
theorem code_of (op : Int) (h0 : 1 ≤ op) (h1 : op ≤ 48) (h : form op ≠ 9) : mC op = lowOf op ∧ (3 < op → m3 op = f3Of op) ∧ (24 < op → m7 op = f7Of op) ∧ (op ≤ 3 → m3 op = 0) := by
  have := code_all (op - 1).toNat (by omega) (fun hk => h (form_bare (by omega)))
  have e : (((op - 1).toNat : Nat) : Int) + 1 = op := by omega
  rw [e] at this
  exact ⟨this.1, fun h => this.2.1 (by omega), fun h => this.2.2.1 (by omega), fun h => this.2.2.2 (by omega)⟩
theorem may_rg {op rd rs1 rs2 imm : Int} (h : mayB op rd rs1 rs2 imm = true) :
    (1 ≤ op ∧ op ≤ 48) ∧ (1 ≤ form op ∧ form op ≤ 9) ∧ rg rd ∧ rg rs1 ∧ rg rs2 ∧ (hasRd (form op) = false → rd = 0) ∧ (hasRs1 (form op) = false → rs1 = 0) ∧ (hasRs2 (form op) = false → rs2 = 0) ∧ numB (form op) imm = true := by
  unfold mayB at h
  simp only [Bool.and_eq_true, Bool.not_eq_true', beq_eq_false_iff_ne, ne_eq] at h
  obtain ⟨⟨⟨⟨h0, h1⟩, h2⟩, h3⟩, h4⟩ := h
  have hb := form_bd op
  have ho : 1 ≤ op ∧ op ≤ 48 := by
    by_cases k : op < 1 ∨ 48 < op
    · exact absurd (form_none k) h0
    · omega
  have r : ∀ n b, regB n b = true → rg n ∧ (b = false → n = 0) := by
    intro n b hr
    simp only [regB, Bool.and_eq_true, Bool.or_eq_true, decide_eq_true_eq, beq_iff_eq] at hr
    refine ⟨⟨hr.1.1, hr.1.2⟩, fun hb => ?_⟩
    rcases hr.2 with h | h
    · rw [hb] at h; cases h
    · exact h
  exact ⟨ho, by omega, (r _ _ h1).1, (r _ _ h2).1, (r _ _ h3).1, (r _ _ h1).2, (r _ _ h2).2, (r _ _ h3).2, h4⟩
/-- the form tells the operations -/
theorem form_ops {op : Int} (h0 : 1 ≤ op) (h1 : op ≤ 48) : (form op = 1 → op ≤ 2) ∧ (form op = 2 → op = 3) ∧ (form op ≠ 1 → form op ≠ 2 → 3 < op) ∧ (form op ≠ 7 → form op ≠ 8 → form op ≠ 9 → op ≤ 24) ∧ (form op = 9 → 38 ≤ op ∧ op ≤ 40) ∧ (form op ≠ 9 → op ≠ 38 ∧ op ≠ 39 ∧ op ≠ 40) := by
  unfold form
  repeat' split
  all_goals omega
/-- WHAT AN INSTRUCTION IS PUT INTO IS DECODED AS IT -/
theorem dec_enc {op rd rs1 rs2 imm : Int} (h : mayB op rd rs1 rs2 imm = true) (i0 : -2147483648 ≤ imm) (i1 : imm < 2147483648) :
    (0 ≤ encW op rd rs1 rs2 imm ∧ encW op rd rs1 rs2 imm < 4294967296) ∧ opN (encW op rd rs1 rs2 imm) = op ∧ dRd (encW op rd rs1 rs2 imm) = rd ∧ dRs1 (encW op rd rs1 rs2 imm) = rs1 ∧ dRs2 (encW op rd rs1 rs2 imm) = rs2 ∧ dImm (encW op rd rs1 rs2 imm) = imm := by
  obtain ⟨ho, hf, a, b, d, hd, hs, ht, hn⟩ := may_rg h
  obtain ⟨o1, o2, o3, o7, o9, o9'⟩ := form_ops ho.1 ho.2
  -- it is enough to have the operation
  have fin : ∀ x, (0 ≤ x ∧ x < 4294967296) → opN x = op → (hasRd (form op) = true → fld x 7 5 = rd) → (hasRs1 (form op) = true → fld x 15 5 = rs1) → (hasRs2 (form op) = true → fld x 20 5 = rs2) → immOf (form op) x = imm →
      (0 ≤ x ∧ x < 4294967296) ∧ opN x = op ∧ dRd x = rd ∧ dRs1 x = rs1 ∧ dRs2 x = rs2 ∧ dImm x = imm := by
    intro x hx e g1 g2 g3 g4
    refine ⟨hx, e, ?_, ?_, ?_, ?_⟩
    · unfold dRd; rw [e]; split
      · exact g1 (by assumption)
      · rename_i hh; exact (hd (by simpa using hh)).symm
    · unfold dRs1; rw [e]; split
      · exact g2 (by assumption)
      · rename_i hh; exact (hs (by simpa using hh)).symm
    · unfold dRs2; rw [e]; split
      · exact g3 (by assumption)
      · rename_i hh; exact (ht (by simpa using hh)).symm
    · unfold dImm; rw [e]; exact g4
  by_cases h9 : form op = 9
  · obtain rfl := hd (by rw [h9]; rfl)
    obtain rfl := hs (by rw [h9]; rfl)
    obtain rfl := ht (by rw [h9]; rfl)
    have hi : imm = 0 := by rw [h9] at hn; simpa [numB] using hn
    subst hi
    have := o9 h9
    have hc : op = 38 ∨ op = 39 ∨ op = 40 := by omega
    rcases hc with rfl | rfl | rfl <;> decide
  · obtain ⟨e, h70, h71, h7⟩ := match_parts op ho.1 ho.2 h9
    obtain ⟨c1, c3, c7, c0⟩ := code_of op ho.1 ho.2 h9
    have hC := mC_bd op
    have h3b := m3_bd op
    have n9 := o9' h9
    unfold rg at a b d
    have hw : encW op rd rs1 rs2 imm = mC op + m3 op * 4096 + m7 op * 33554432 + rd * 128 + rs1 * 32768 + rs2 * 1048576 + laidV (form op) (imm % 4294967296) := by unfold encW; rw [e]
    generalize encW op rd rs1 rs2 imm = x at *
    clear e h
    generalize mC op = c at *
    generalize m3 op = f3 at *
    generalize m7 op = f7 at *
    have hcase : form op = 1 ∨ form op = 2 ∨ form op = 3 ∨ form op = 4 ∨ form op = 5 ∨ form op = 6 ∨ form op = 7 ∨ form op = 8 := by omega
    have ops : x % 128 = c → (3 < op → fld x 12 3 = f3) → (24 < op → fld x 25 7 = f7) → opN x = op := fun q1 q2 q3 =>
      opN_of ho.1 ho.2 (q1.trans c1) (fun h _ _ => (q2 h).trans (c3 h)) (fun h _ _ _ => (q3 h).trans (c7 h)) (fun h => absurd h n9.2.1) (fun h => absurd h n9.2.2)
    rcases hcase with hf' | hf' | hf' | hf' | hf' | hf' | hf' | hf' <;> rw [hf'] at hd hs ht hn hw o1 o2 o3 o7 h7 fin
    · obtain rfl := hs rfl; obtain rfl := ht rfl
      obtain rfl : f3 = 0 := c0 (by have := o1 rfl; omega)
      obtain rfl : f7 = 0 := by omega
      have hm : imm % 4096 = 0 := by simpa [numB] using hn
      obtain ⟨r, q1, q2, q3⟩ := digU (x := x) hC a i0 i1 hm (by rw [hw]; show _ + fld (imm % 4294967296) 12 20 * 4096 = _; omega)
      exact fin x r (ops q1 (fun h => by have := o1 rfl; omega) (fun h => by have := o1 rfl; omega)) (fun _ => q2) (fun h => by cases h) (fun h => by cases h) q3
    · obtain rfl := hs rfl; obtain rfl := ht rfl
      obtain rfl : f3 = 0 := c0 (by have := o2 rfl; omega)
      obtain rfl : f7 = 0 := by omega
      have hm : imm % 2 = 0 ∧ sgn (imm % 4294967296) 21 = imm := by simpa [numB] using hn
      obtain ⟨j0, j1⟩ := f21 hm.2
      obtain ⟨r, q1, q2, q3⟩ := digJ (x := x) hC a j0 j1 hm.1 (by rw [hw]; show _ + (fld (imm % 4294967296) 1 10 * 2097152 + fld (imm % 4294967296) 11 1 * 1048576 + fld (imm % 4294967296) 12 8 * 4096 + fld (imm % 4294967296) 20 1 * 2147483648) = _; omega)
      exact fin x r (ops q1 (fun h => by have := o2 rfl; omega) (fun h => by have := o2 rfl; omega)) (fun _ => q2) (fun h => by cases h) (fun h => by cases h) q3
    · obtain rfl := hd rfl
      obtain rfl : f7 = 0 := by omega
      have hm : imm % 2 = 0 ∧ sgn (imm % 4294967296) 13 = imm := by simpa [numB] using hn
      obtain ⟨j0, j1⟩ := f13 hm.2
      obtain ⟨r, q1, q2, q3, q4, q5⟩ := digB (x := x) hC h3b b d j0 j1 hm.1 (by rw [hw]; show _ + (fld (imm % 4294967296) 1 4 * 256 + fld (imm % 4294967296) 5 6 * 33554432 + fld (imm % 4294967296) 11 1 * 128 + fld (imm % 4294967296) 12 1 * 2147483648) = _; omega)
      exact fin x r (ops q1 (fun _ => q2) (fun h => by have := o7 (by decide) (by decide) (by decide); omega)) (fun h => by cases h) (fun _ => q3) (fun _ => q4) q5
    · obtain rfl := ht rfl
      obtain rfl : f7 = 0 := by omega
      have hm : sgn (imm % 4294967296) 12 = imm := by simpa [numB] using hn
      obtain ⟨j0, j1⟩ := f12 hm
      obtain ⟨r, q1, q2, q3, q4, q5⟩ := digI (x := x) hC h3b a b j0 j1 (by rw [hw]; show _ + fld (imm % 4294967296) 0 12 * 1048576 = _; omega)
      exact fin x r (ops q1 (fun _ => q2) (fun h => by have := o7 (by decide) (by decide) (by decide); omega)) (fun _ => q3) (fun _ => q4) (fun h => by cases h) q5
    · obtain rfl := hd rfl
      obtain rfl : f7 = 0 := by omega
      have hm : sgn (imm % 4294967296) 12 = imm := by simpa [numB] using hn
      obtain ⟨j0, j1⟩ := f12 hm
      obtain ⟨r, q1, q2, q3, q4, q5⟩ := digS (x := x) hC h3b b d j0 j1 (by rw [hw]; show _ + (fld (imm % 4294967296) 0 5 * 128 + fld (imm % 4294967296) 5 7 * 33554432) = _; omega)
      exact fin x r (ops q1 (fun _ => q2) (fun h => by have := o7 (by decide) (by decide) (by decide); omega)) (fun h => by cases h) (fun _ => q3) (fun _ => q4) q5
    · obtain rfl := ht rfl
      obtain rfl : f7 = 0 := by omega
      have hm : sgn (imm % 4294967296) 12 = imm := by simpa [numB] using hn
      obtain ⟨j0, j1⟩ := f12 hm
      obtain ⟨r, q1, q2, q3, q4, q5⟩ := digI (x := x) hC h3b a b j0 j1 (by rw [hw]; show _ + fld (imm % 4294967296) 0 12 * 1048576 = _; omega)
      exact fin x r (ops q1 (fun _ => q2) (fun h => by have := o7 (by decide) (by decide) (by decide); omega)) (fun _ => q3) (fun _ => q4) (fun h => by cases h) q5
    · obtain rfl := ht rfl
      have hm : 0 ≤ imm ∧ imm < 32 := by simpa [numB] using hn
      have ei : fld (imm % 4294967296) 0 5 = imm := by show imm % 4294967296 / 1 % 32 = imm; omega
      obtain ⟨r, q1, q2, q3, q4, q5, q6⟩ := digR (x := x) (rs2 := imm) hC h3b ⟨h70, h71⟩ a b hm (by rw [hw]; show _ + fld (imm % 4294967296) 0 5 * 1048576 = _; rw [ei]; omega)
      exact fin x r (ops q1 (fun _ => q2) (fun _ => q3)) (fun _ => q4) (fun _ => q5) (fun h => by cases h) q6
    · have hm : imm = 0 := by simpa [numB] using hn
      subst hm
      obtain ⟨r, q1, q2, q3, q4, q5, q6⟩ := digR (x := x) hC h3b ⟨h70, h71⟩ a b d (by rw [hw]; show _ + 0 = _; omega)
      exact fin x r (ops q1 (fun _ => q2) (fun _ => q3)) (fun _ => q4) (fun _ => q5) (fun _ => q6) rfl
end Go.Proofs.YtabdfbghhkpoeaaDoor.P
