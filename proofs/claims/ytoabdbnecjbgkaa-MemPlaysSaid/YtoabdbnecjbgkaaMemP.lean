/- A memory as a function of its addresses: what is put, loaded, stored, laid; what its cells are. No program is in sight. -/
import Derived.Test.YtoabdbnecjbgkaaWordP
import Derived.WalkKit
namespace Go.Proofs.Ytoabdbnecjbgkaa.P
set_option linter.unusedVariables false
open Go Go.RowKit

/-- the address so many bytes on -/
def adr (a : Int) (i : Nat) : Int := (a + i) % 4294967296
def okA (a : Int) : Prop := 0 ≤ a ∧ a < 4294967296
theorem adr_ok (a : Int) (i : Nat) : okA (adr a i) := by unfold adr okA; omega
/-- one byte is put -/
def upd (M : Int → Int) (a b : Int) : Int → Int := fun x => if x = a then b else M x
/-- bytes, all of them -/
def Byt (M : Int → Int) : Prop := ∀ a, 0 ≤ M a ∧ M a < 256
theorem Byt.upd {M : Int → Int} (h : Byt M) {a b : Int} (hb : 0 ≤ b ∧ b < 256) : Byt (upd M a b) := by
  intro x; unfold P.upd; split
  · exact hb
  · exact h x
/-- the number of so many bytes -/
def ldN (M : Int → Int) (a : Int) : Nat → Int
  | 0 => 0
  | n + 1 => ldN M a n + M (adr a n) * 256 ^ n
/-- the lowest bytes of a number are stored -/
def stN (M : Int → Int) (a v : Int) : Nat → Int → Int
  | 0 => M
  | n + 1 => upd (stN M a v n) (adr a n) (v / 256 ^ n % 256)
/-- the first of some bytes are laid -/
def layN (M : Int → Int) (a : Int) (l : List Int) : Nat → Int → Int
  | 0 => M
  | n + 1 => upd (layN M a l n) (adr a n) (l.getD n 0)
/-- how many bytes of a number are meant -/
def hl4 (n : Int) : Nat := (max 0 (min n 4)).toNat
theorem hl4_le (n : Int) : hl4 n ≤ 4 := by unfold hl4; omega
theorem p256pos (n : Nat) : (0 : Int) < 256 ^ n := Int.pow_pos (by decide)
theorem p256succ (n : Nat) : (256 : Int) ^ (n + 1) = 256 * 256 ^ n := by rw [Int.pow_succ, Int.mul_comm]
theorem ldN_bd {M : Int → Int} (h : Byt M) (a : Int) (n : Nat) : 0 ≤ ldN M a n ∧ ldN M a n < 256 ^ n := by
  induction n with
  | zero => unfold ldN; decide
  | succ n ih =>
    have hb := h (adr a n)
    have hp := p256pos n
    unfold ldN
    rw [p256succ]
    generalize M (adr a n) = b at *
    generalize (256 : Int) ^ n = p at *
    have h1 : 0 ≤ b * p := Int.mul_nonneg hb.1 (Int.le_of_lt hp)
    have h2 : b * p ≤ 255 * p := Int.mul_le_mul_of_nonneg_right (by omega) (Int.le_of_lt hp)
    omega
theorem Byt.stN {M : Int → Int} (h : Byt M) (a v : Int) (n : Nat) : Byt (stN M a v n) := by
  induction n with
  | zero => exact h
  | succ n ih => exact ih.upd (by omega)
theorem Byt.layN {M : Int → Int} (h : Byt M) (a : Int) {l : List Int} (hl : ∀ b ∈ l, 0 ≤ b ∧ b < 256) (n : Nat) : Byt (layN M a l n) := by
  induction n with
  | zero => exact h
  | succ n ih =>
    refine ih.upd ?_
    by_cases hn : n < l.length
    · exact hl _ (by simp [List.getD, hn])
    · rw [List.getD_eq_getElem?_getD, List.getElem?_eq_none (by omega)]; decide
/-- cells put one after the other -/
def made (M : Int → Int) (l : List (Int × Int)) : Int → Int := l.foldl (fun m c => upd m c.1 c.2) M
def okC (c : Int × Int) : Prop := okA c.1 ∧ 0 ≤ c.2 ∧ c.2 < 256
theorem Byt.made {l : List (Int × Int)} : ∀ {M : Int → Int}, Byt M → (∀ c ∈ l, okC c) → Byt (P.made M l) := by
  induction l with
  | nil => intro M h _; exact h
  | cons c t ih => intro M h hl; exact ih (h.upd (hl c (by simp)).2) (fun d hd => hl d (by simp [hd]))
theorem made_snoc (M : Int → Int) (l : List (Int × Int)) (c : Int × Int) : made M (l ++ [c]) = upd (made M l) c.1 c.2 := by
  unfold made; rw [List.foldl_append]; rfl
theorem made_take (M : Int → Int) (l : List (Int × Int)) (k : Nat) (h : k < l.length) : made M (l.take (k + 1)) = upd (made M (l.take k)) (l.getD k (0, 0)).1 (l.getD k (0, 0)).2 := by
  rw [List.take_add_one, List.getElem?_eq_getElem h]
  show made M (l.take k ++ [l[k]]) = _
  rw [made_snoc]
  simp [List.getD, h]
def none0 : Int → Int := fun _ => 0
theorem none0_byt : Byt none0 := fun _ => by unfold none0; decide
/-- addresses rise -/
def Rises (l : List (Int × Int)) : Prop := l.Pairwise fun c d => c.1 < d.1
/-- THE CELLS OF A MEMORY: those whose byte isn't 0, and their addresses rise -/
structure CellsOf (M : Int → Int) (l : List (Int × Int)) : Prop where
  up : Rises l
  mem : ∀ a b, (a, b) ∈ l ↔ okA a ∧ M a = b ∧ b ≠ 0
/-- two lists of rising cells that have the same members are one -/
theorem rises_ext : ∀ {l m : List (Int × Int)}, Rises l → Rises m → (∀ c, c ∈ l ↔ c ∈ m) → l = m
  | [], [], _, _, _ => rfl
  | [], d :: m, _, _, h => by have := (h d).2 (by simp); simp at this
  | c :: l, [], _, _, h => by have := (h c).1 (by simp); simp at this
  | c :: l, d :: m, hl, hm, h => by
    unfold Rises at hl hm
    rw [List.pairwise_cons] at hl hm
    have e : c = d := by
      have h1 := (h c).1 (by simp)
      have h2 := (h d).2 (by simp)
      rcases List.mem_cons.1 h1 with h1 | h1
      · exact h1
      · rcases List.mem_cons.1 h2 with h2 | h2
        · exact h2.symm
        · have a1 := hm.1 c h1
          have a2 := hl.1 d h2
          omega
    subst e
    congr 1
    refine rises_ext hl.2 hm.2 fun x => ?_
    have hx := h x
    constructor
    · intro hxl
      rcases List.mem_cons.1 (hx.1 (by simp [hxl])) with e | e
      · subst e; have := hl.1 x hxl; omega
      · exact e
    · intro hxm
      rcases List.mem_cons.1 (hx.2 (by simp [hxm])) with e | e
      · subst e; have := hm.1 x hxm; omega
      · exact e
theorem CellsOf.one {M M' : Int → Int} {l m : List (Int × Int)} (h : CellsOf M l) (k : CellsOf M' m) (e : ∀ a, okA a → M a = M' a) : l = m := by
  refine rises_ext h.up k.up fun c => ?_
  obtain ⟨a, b⟩ := c
  rw [h.mem, k.mem]
  constructor
  · rintro ⟨h1, h2, h3⟩; exact ⟨h1, (e a h1) ▸ h2, h3⟩
  · rintro ⟨h1, h2, h3⟩; exact ⟨h1, (e a h1).trans h2, h3⟩
/-- what is made of the cells of a memory is that memory -/
theorem mk_off : ∀ {l : List (Int × Int)} {M : Int → Int} {a : Int}, (∀ c ∈ l, c.1 ≠ a) → made M l a = M a
  | [], _, _, _ => rfl
  | c :: l, M, a, h => by
    show made (upd M c.1 c.2) l a = M a
    rw [mk_off (fun d hd => h d (by simp [hd]))]
    unfold upd
    rw [if_neg (fun e => h c (by simp) e.symm)]
theorem mk_on : ∀ {l : List (Int × Int)} {M : Int → Int} {a b : Int}, Rises l → (a, b) ∈ l → made M l a = b
  | c :: l, M, a, b, hr, h => by
    unfold Rises at hr
    rw [List.pairwise_cons] at hr
    show made (upd M c.1 c.2) l a = b
    rcases List.mem_cons.1 h with e | e
    · subst e
      rw [mk_off (fun d hd e2 => by have := hr.1 d hd; simp at this; omega)]
      unfold upd; simp
    · exact mk_on hr.2 e
theorem CellsOf.again {M : Int → Int} {l : List (Int × Int)} (h : CellsOf M l) (a : Int) (ha : okA a) : made none0 l a = M a := by
  by_cases hz : M a = 0
  · rw [mk_off (fun c hc e => by
      obtain ⟨x, y⟩ := c
      have := (h.mem x y).1 hc
      simp at e
      subst e
      exact this.2.2 (this.2.1.symm.trans hz)), hz]
    rfl
  · exact mk_on h.up ((h.mem a (M a)).2 ⟨ha, rfl, hz⟩)
/-- a byte is read behind it was stored -/
theorem ldN_stN_off (M : Int → Int) (a v : Int) (n : Nat) : ∀ j, n ≤ j → j < 4294967296 → ∀ x, x = adr a j → stN M a v n x = M x := by
  induction n with
  | zero => intro j _ _ x _; rfl
  | succ n ih =>
    intro j hj hj2 x hx
    unfold stN upd
    rw [if_neg, ih j (by omega) hj2 x hx]
    subst hx
    unfold adr; omega
theorem ld_st (M : Int → Int) (a v : Int) (h0 : 0 ≤ v) (n : Nat) (hn : n ≤ 4) : ldN (stN M a v n) a n = v % 256 ^ n := by
  have key : ∀ m k, m ≤ k → k ≤ 4 → ldN (stN M a v k) a m = v % 256 ^ m := by
    intro m
    induction m with
    | zero => intro k _ _; unfold ldN; rw [Int.pow_zero, Int.emod_one]
    | succ m ih =>
      intro k hk hk4
      unfold ldN
      rw [ih k (by omega) hk4]
      have hv : stN M a v k (adr a m) = v / 256 ^ m % 256 := by
        clear ih
        induction k with
        | zero => omega
        | succ k ihk =>
          unfold stN upd
          by_cases e : m = k
          · rw [if_pos (by rw [e]), e]
          · rw [if_neg (by unfold adr; omega)]
            exact ihk (by omega) (by omega)
      rw [hv, p256succ]
      have hp := p256pos m
      generalize (256 : Int) ^ m = p at *
      have h1 := Int.emod_add_mul_ediv v p
      have h2 := Int.emod_add_mul_ediv (v / p) 256
      have h3 : v % (256 * p) = v % p + p * (v / p % 256) := by
        have e1 : v / p / 256 = v / (256 * p) := by rw [Int.ediv_ediv_of_nonneg (Int.le_of_lt hp), Int.mul_comm]
        have h4 := Int.emod_add_mul_ediv v (256 * p)
        rw [e1] at h2
        generalize v / (256 * p) = q at *
        generalize v / p % 256 = r at *
        generalize v / p = z at *
        rw [← h2, Int.mul_add] at h1
        have e2 : p * (256 * q) = 256 * p * q := by rw [← Int.mul_assoc, Int.mul_comm p 256]
        rw [e2] at h1
        omega
      rw [h3, Int.mul_comm]
  exact key n n (Nat.le_refl _) hn
/-- a list of cells as a memory: the first one of an address counts -/
def rd : List (Int × Int) → Int → Int
  | [], _ => 0
  | c :: t, a => if c.1 = a then c.2 else rd t a
def Keys (l : List (Int × Int)) : Prop := l.Pairwise fun c d => c.1 ≠ d.1
theorem rd_none : ∀ {l : List (Int × Int)} {a : Int}, (∀ c ∈ l, c.1 ≠ a) → rd l a = 0
  | [], _, _ => rfl
  | c :: t, a, h => by unfold rd; rw [if_neg (h c (by simp))]; exact rd_none fun d hd => h d (by simp [hd])
theorem rd_mem : ∀ {l : List (Int × Int)} {a b : Int}, Keys l → (a, b) ∈ l → rd l a = b
  | c :: t, a, b, hk, h => by
    unfold Keys at hk
    rw [List.pairwise_cons] at hk
    unfold rd
    rcases List.mem_cons.1 h with e | e
    · subst e; simp
    · rw [if_neg (hk.1 _ e)]
      exact rd_mem hk.2 e
theorem rd_byt : ∀ {l : List (Int × Int)}, (∀ c ∈ l, okC c) → Byt (rd l)
  | [], _ => fun a => by unfold rd; decide
  | c :: t, h => fun a => by
    unfold rd; split
    · exact (h c (by simp)).2
    · exact rd_byt (fun d hd => h d (by simp [hd])) a
theorem rd_set : ∀ {l : List (Int × Int)} {i : Nat} {a b : Int}, i < l.length → (∀ j, j < i → (l.getD j (0, 0)).1 ≠ a) → (l.getD i (0, 0)).1 = a → rd (l.set i (a, b)) = upd (rd l) a b
  | c :: t, 0, a, b, _, _, h => by
    funext x
    have hc : c.1 = a := h
    show (if a = x then b else rd t x) = if x = a then b else (if c.1 = x then c.2 else rd t x)
    rw [hc]
    by_cases e : x = a
    · rw [if_pos e, if_pos e.symm]
    · rw [if_neg e, if_neg (fun k => e k.symm), if_neg (fun k => e k.symm)]
  | c :: t, i + 1, a, b, hi, hl, h => by
    funext x
    have h0 : c.1 ≠ a := hl 0 (by omega)
    have ih := rd_set (l := t) (i := i) (a := a) (b := b) (by simpa using hi) (fun j hj => hl (j + 1) (by omega)) h
    show (if c.1 = x then c.2 else rd (t.set i (a, b)) x) = if x = a then b else (if c.1 = x then c.2 else rd t x)
    rw [ih]
    unfold upd
    by_cases e : x = a
    · subst e; rw [if_neg h0, if_pos rfl, if_pos rfl]
    · rw [if_neg e, if_neg e]
theorem rd_snoc : ∀ {l : List (Int × Int)} {a b : Int}, (∀ c ∈ l, c.1 ≠ a) → rd (l ++ [(a, b)]) = upd (rd l) a b
  | [], a, b, _ => by
    funext x
    show (if a = x then b else 0) = if x = a then b else 0
    by_cases e : x = a
    · rw [if_pos e, if_pos e.symm]
    · rw [if_neg e, if_neg (fun k => e k.symm)]
  | c :: t, a, b, h => by
    funext x
    have h0 : c.1 ≠ a := h c (by simp)
    have ih := rd_snoc (l := t) (a := a) (b := b) fun d hd => h d (by simp [hd])
    show (if c.1 = x then c.2 else rd (t ++ [(a, b)]) x) = if x = a then b else (if c.1 = x then c.2 else rd t x)
    rw [ih]
    unfold upd
    by_cases e : x = a
    · subst e; rw [if_neg h0, if_pos rfl, if_pos rfl]
    · rw [if_neg e, if_neg e]
theorem Keys.set {l : List (Int × Int)} {i : Nat} {a b : Int} (h : Keys l) (hi : i < l.length) (e : (l.getD i (0, 0)).1 = a) : Keys (l.set i (a, b)) := by
  unfold Keys at *
  rw [List.pairwise_iff_getElem] at h ⊢
  intro j k hj hk hjk
  have hg : ∀ m (hm : m < (l.set i (a, b)).length), ((l.set i (a, b))[m]).1 = (l[m]'(by simpa using hm)).1 := fun m hm => by
    rw [List.getElem_set]
    split
    · rename_i e2; subst e2; simp [List.getD, hi] at e; exact e.symm
    · rfl
  rw [hg, hg]
  exact h j k _ _ hjk
theorem Keys.snoc {l : List (Int × Int)} {a b : Int} (h : Keys l) (hn : ∀ c ∈ l, c.1 ≠ a) : Keys (l ++ [(a, b)]) := by
  unfold Keys at *
  rw [List.pairwise_append]
  exact ⟨h, by simp, fun c hc d hd => by simp at hd; subst hd; exact hn c hc⟩
/-- the cells, flat -/
def flat (l : List (Int × Int)) : List Value := l.flatMap fun c => [.int .u32 c.1, .int .u8 c.2]
theorem flat_length : ∀ l : List (Int × Int), (flat l).length = l.length * 2
  | [] => rfl
  | c :: t => by
    have := flat_length t
    unfold flat at *
    rw [List.flatMap_cons, List.length_append, this]; simp; omega
theorem flat_get : ∀ (l : List (Int × Int)) (i : Nat), i < l.length → (flat l)[i * 2]? = some (.int .u32 (l.getD i (0, 0)).1) ∧ (flat l)[i * 2 + 1]? = some (.int .u8 (l.getD i (0, 0)).2)
  | c :: t, 0, _ => ⟨rfl, rfl⟩
  | c :: t, i + 1, h => by
    have ih := flat_get t i (by simpa using h)
    have e : flat (c :: t) = .int .u32 c.1 :: .int .u8 c.2 :: flat t := rfl
    have e2 : (i + 1) * 2 = i * 2 + 2 := by omega
    rw [e, e2]
    exact ih
theorem flat_set : ∀ (l : List (Int × Int)) (i : Nat) (b : Int), i < l.length → (flat l).set (i * 2 + 1) (.int .u8 b) = flat (l.set i ((l.getD i (0, 0)).1, b))
  | c :: t, 0, b, _ => rfl
  | c :: t, i + 1, b, h => by
    have ih := flat_set t i b (by simpa using h)
    have e : flat (c :: t) = .int .u32 c.1 :: .int .u8 c.2 :: flat t := rfl
    have e2 : (i + 1) * 2 + 1 = (i * 2 + 1) + 2 := by omega
    rw [e, e2]
    show Value.int .u32 c.1 :: Value.int .u8 c.2 :: (flat t).set (i * 2 + 1) (.int .u8 b) = _
    rw [ih]; rfl
theorem flat_append (l m : List (Int × Int)) : flat (l ++ m) = flat l ++ flat m := by unfold flat; exact List.flatMap_append
end Go.Proofs.Ytoabdbnecjbgkaa.P
