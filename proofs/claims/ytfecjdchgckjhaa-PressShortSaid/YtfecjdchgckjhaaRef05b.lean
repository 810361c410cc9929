/- What the functions of package typecaseref05 compute: its lists; the cells of a result. -/
import Derived.Test.YtfecjdchgckjhaaRef05a
import Derived.Test.YtfecjdchgckjhaaSlim2
namespace Go.Proofs.Ytfecjdchgckjhaa.R5
set_option linter.unusedVariables false
set_option linter.unusedSimpArgs false
open Go.ChangeShapes Go.WideShapes Go.ChangeAt Go.RowKit Go.Proofs.Ytfecjdchgckjhaa.P Go.Proofs.Ytfecjdchgckjhaa.W Go.Proofs.Ytfecjdchgckjhaa.O Go.Proofs.Ytfecjdchgckjhaa.R4

theorem list_N6 (w : World) : Calls Try.prog 45 #[.int .i64 0, .slice (some ⟨w.heap.size, 0, none⟩) 6 6] (w.alloc (.cells #[.int .i64 12, .int .i64 6, .int .i64 5, .int .i64 4, .int .i64 3, .int .i64 2] 3))
    fun e w' => ∃ v, e = .returned v ∧ IntsAt w' (w.heap.size + 1) v (lN6 ++ no 0) ∧ Below (w.heap.size + 1) (w.alloc (.cells #[.int .i64 12, .int .i64 6, .int .i64 5, .int .i64 4, .int .i64 3, .int .i64 2] 3)) w' := by
  have h := list 0 _ lN6 w.heap.size _ (lit_at w lN6 #[.int .i64 12, .int .i64 6, .int .i64 5, .int .i64 4, .int .i64 3, .int .i64 2] rfl (by decide)) (by decide) (by decide) (by decide)
  refine h.mono ?_
  rintro e w' ⟨v, rfl, hi, hb⟩
  exact ⟨v, rfl, by simpa using hi, by simpa using hb⟩
theorem bits_N6 (x : Int) (v : Value) (B : Nat) (w : World) (h0 : 0 ≤ x) (h1 : x < 4294967296) (H : IntsAt w B v (lN6 ++ no 0)) :
    Calls Try.prog 48 #[.int .u32 x, v] w fun e w' => e = .returned (.int .i32 (sN6 x)) ∧ w = w' := by
  have h := Bits x v (lN6 ++ no 0) B w h0 h1 H (by decide) (by decide)
  have e : sgn (bitsV x (lN6 ++ no 0)) (lN6 ++ no 0).length = sN6 x := by
    rw [bitsV_noughts]; simp [sN6]; rfl
  exact e ▸ h
theorem list_J (w : World) : Calls Try.prog 45 #[.int .i64 1, .slice (some ⟨w.heap.size, 0, none⟩) 11 11] (w.alloc (.cells #[.int .i64 12, .int .i64 8, .int .i64 10, .int .i64 9, .int .i64 6, .int .i64 7, .int .i64 2, .int .i64 11, .int .i64 5, .int .i64 4, .int .i64 3] 3))
    fun e w' => ∃ v, e = .returned v ∧ IntsAt w' (w.heap.size + 1) v (lJ ++ no 1) ∧ Below (w.heap.size + 1) (w.alloc (.cells #[.int .i64 12, .int .i64 8, .int .i64 10, .int .i64 9, .int .i64 6, .int .i64 7, .int .i64 2, .int .i64 11, .int .i64 5, .int .i64 4, .int .i64 3] 3)) w' := by
  have h := list 1 _ lJ w.heap.size _ (lit_at w lJ #[.int .i64 12, .int .i64 8, .int .i64 10, .int .i64 9, .int .i64 6, .int .i64 7, .int .i64 2, .int .i64 11, .int .i64 5, .int .i64 4, .int .i64 3] rfl (by decide)) (by decide) (by decide) (by decide)
  refine h.mono ?_
  rintro e w' ⟨v, rfl, hi, hb⟩
  exact ⟨v, rfl, by simpa using hi, by simpa using hb⟩
theorem bits_J (x : Int) (v : Value) (B : Nat) (w : World) (h0 : 0 ≤ x) (h1 : x < 4294967296) (H : IntsAt w B v (lJ ++ no 1)) :
    Calls Try.prog 48 #[.int .u32 x, v] w fun e w' => e = .returned (.int .i32 (sJ x)) ∧ w = w' := by
  have h := Bits x v (lJ ++ no 1) B w h0 h1 H (by decide) (by decide)
  have e : sgn (bitsV x (lJ ++ no 1)) (lJ ++ no 1).length = sJ x := by
    rw [bitsV_noughts]; rfl
  exact e ▸ h
theorem list_B (w : World) : Calls Try.prog 45 #[.int .i64 1, .slice (some ⟨w.heap.size, 0, none⟩) 8 8] (w.alloc (.cells #[.int .i64 12, .int .i64 6, .int .i64 5, .int .i64 2, .int .i64 11, .int .i64 10, .int .i64 4, .int .i64 3] 3))
    fun e w' => ∃ v, e = .returned v ∧ IntsAt w' (w.heap.size + 1) v (lB ++ no 1) ∧ Below (w.heap.size + 1) (w.alloc (.cells #[.int .i64 12, .int .i64 6, .int .i64 5, .int .i64 2, .int .i64 11, .int .i64 10, .int .i64 4, .int .i64 3] 3)) w' := by
  have h := list 1 _ lB w.heap.size _ (lit_at w lB #[.int .i64 12, .int .i64 6, .int .i64 5, .int .i64 2, .int .i64 11, .int .i64 10, .int .i64 4, .int .i64 3] rfl (by decide)) (by decide) (by decide) (by decide)
  refine h.mono ?_
  rintro e w' ⟨v, rfl, hi, hb⟩
  exact ⟨v, rfl, by simpa using hi, by simpa using hb⟩
theorem bits_B (x : Int) (v : Value) (B : Nat) (w : World) (h0 : 0 ≤ x) (h1 : x < 4294967296) (H : IntsAt w B v (lB ++ no 1)) :
    Calls Try.prog 48 #[.int .u32 x, v] w fun e w' => e = .returned (.int .i32 (sB x)) ∧ w = w' := by
  have h := Bits x v (lB ++ no 1) B w h0 h1 H (by decide) (by decide)
  have e : sgn (bitsV x (lB ++ no 1)) (lB ++ no 1).length = sB x := by
    rw [bitsV_noughts]; rfl
  exact e ▸ h
theorem list_A (w : World) : Calls Try.prog 45 #[.int .i64 4, .slice (some ⟨w.heap.size, 0, none⟩) 6 6] (w.alloc (.cells #[.int .i64 12, .int .i64 4, .int .i64 3, .int .i64 5, .int .i64 2, .int .i64 6] 3))
    fun e w' => ∃ v, e = .returned v ∧ IntsAt w' (w.heap.size + 1) v (lA ++ no 4) ∧ Below (w.heap.size + 1) (w.alloc (.cells #[.int .i64 12, .int .i64 4, .int .i64 3, .int .i64 5, .int .i64 2, .int .i64 6] 3)) w' := by
  have h := list 4 _ lA w.heap.size _ (lit_at w lA #[.int .i64 12, .int .i64 4, .int .i64 3, .int .i64 5, .int .i64 2, .int .i64 6] rfl (by decide)) (by decide) (by decide) (by decide)
  refine h.mono ?_
  rintro e w' ⟨v, rfl, hi, hb⟩
  exact ⟨v, rfl, by simpa using hi, by simpa using hb⟩
theorem bits_A (x : Int) (v : Value) (B : Nat) (w : World) (h0 : 0 ≤ x) (h1 : x < 4294967296) (H : IntsAt w B v (lA ++ no 4)) :
    Calls Try.prog 48 #[.int .u32 x, v] w fun e w' => e = .returned (.int .i32 (sA x)) ∧ w = w' := by
  have h := Bits x v (lA ++ no 4) B w h0 h1 H (by decide) (by decide)
  have e : sgn (bitsV x (lA ++ no 4)) (lA ++ no 4).length = sA x := by
    rw [bitsV_noughts]; rfl
  exact e ▸ h
theorem list_U (w : World) : Calls Try.prog 45 #[.int .i64 2, .slice (some ⟨w.heap.size, 0, none⟩) 8 8] (w.alloc (.cells #[.int .i64 10, .int .i64 9, .int .i64 8, .int .i64 7, .int .i64 12, .int .i64 11, .int .i64 5, .int .i64 6] 3))
    fun e w' => ∃ v, e = .returned v ∧ IntsAt w' (w.heap.size + 1) v (lU ++ no 2) ∧ Below (w.heap.size + 1) (w.alloc (.cells #[.int .i64 10, .int .i64 9, .int .i64 8, .int .i64 7, .int .i64 12, .int .i64 11, .int .i64 5, .int .i64 6] 3)) w' := by
  have h := list 2 _ lU w.heap.size _ (lit_at w lU #[.int .i64 10, .int .i64 9, .int .i64 8, .int .i64 7, .int .i64 12, .int .i64 11, .int .i64 5, .int .i64 6] rfl (by decide)) (by decide) (by decide) (by decide)
  refine h.mono ?_
  rintro e w' ⟨v, rfl, hi, hb⟩
  exact ⟨v, rfl, by simpa using hi, by simpa using hb⟩
theorem plain_U (x : Int) (v : Value) (B : Nat) (w : World) (h0 : 0 ≤ x) (h1 : x < 4294967296) (H : IntsAt w B v (lU ++ no 2)) :
    Calls Try.prog 44 #[.int .u32 x, v] w fun e w' => e = .returned (.int .i32 (sU x)) ∧ Below w.heap.size w w' := by
  have h := plain x v (lU ++ no 2) B w h0 h1 H (by decide) (by decide)
  have e : bitsV x (lU ++ no 2) = sU x := by
    rw [bitsV_noughts]; rfl
  exact e ▸ h
theorem list_V (w : World) : Calls Try.prog 45 #[.int .i64 2, .slice (some ⟨w.heap.size, 0, none⟩) 5 5] (w.alloc (.cells #[.int .i64 5, .int .i64 12, .int .i64 11, .int .i64 10, .int .i64 6] 3))
    fun e w' => ∃ v, e = .returned v ∧ IntsAt w' (w.heap.size + 1) v (lV ++ no 2) ∧ Below (w.heap.size + 1) (w.alloc (.cells #[.int .i64 5, .int .i64 12, .int .i64 11, .int .i64 10, .int .i64 6] 3)) w' := by
  have h := list 2 _ lV w.heap.size _ (lit_at w lV #[.int .i64 5, .int .i64 12, .int .i64 11, .int .i64 10, .int .i64 6] rfl (by decide)) (by decide) (by decide) (by decide)
  refine h.mono ?_
  rintro e w' ⟨v, rfl, hi, hb⟩
  exact ⟨v, rfl, by simpa using hi, by simpa using hb⟩
theorem plain_V (x : Int) (v : Value) (B : Nat) (w : World) (h0 : 0 ≤ x) (h1 : x < 4294967296) (H : IntsAt w B v (lV ++ no 2)) :
    Calls Try.prog 44 #[.int .u32 x, v] w fun e w' => e = .returned (.int .i32 (sV x)) ∧ Below w.heap.size w w' := by
  have h := plain x v (lV ++ no 2) B w h0 h1 H (by decide) (by decide)
  have e : bitsV x (lV ++ no 2) = sV x := by
    rw [bitsV_noughts]; rfl
  exact e ▸ h
theorem list_L (w : World) : Calls Try.prog 45 #[.int .i64 2, .slice (some ⟨w.heap.size, 0, none⟩) 6 6] (w.alloc (.cells #[.int .i64 3, .int .i64 2, .int .i64 12, .int .i64 6, .int .i64 5, .int .i64 4] 3))
    fun e w' => ∃ v, e = .returned v ∧ IntsAt w' (w.heap.size + 1) v (lL ++ no 2) ∧ Below (w.heap.size + 1) (w.alloc (.cells #[.int .i64 3, .int .i64 2, .int .i64 12, .int .i64 6, .int .i64 5, .int .i64 4] 3)) w' := by
  have h := list 2 _ lL w.heap.size _ (lit_at w lL #[.int .i64 3, .int .i64 2, .int .i64 12, .int .i64 6, .int .i64 5, .int .i64 4] rfl (by decide)) (by decide) (by decide) (by decide)
  refine h.mono ?_
  rintro e w' ⟨v, rfl, hi, hb⟩
  exact ⟨v, rfl, by simpa using hi, by simpa using hb⟩
theorem plain_L (x : Int) (v : Value) (B : Nat) (w : World) (h0 : 0 ≤ x) (h1 : x < 4294967296) (H : IntsAt w B v (lL ++ no 2)) :
    Calls Try.prog 44 #[.int .u32 x, v] w fun e w' => e = .returned (.int .i32 (sL x)) ∧ Below w.heap.size w w' := by
  have h := plain x v (lL ++ no 2) B w h0 h1 H (by decide) (by decide)
  have e : bitsV x (lL ++ no 2) = sL x := by
    rw [bitsV_noughts]; rfl
  exact e ▸ h
theorem list_S (w : World) : Calls Try.prog 45 #[.int .i64 2, .slice (some ⟨w.heap.size, 0, none⟩) 6 6] (w.alloc (.cells #[.int .i64 8, .int .i64 7, .int .i64 12, .int .i64 11, .int .i64 10, .int .i64 9] 3))
    fun e w' => ∃ v, e = .returned v ∧ IntsAt w' (w.heap.size + 1) v (lS ++ no 2) ∧ Below (w.heap.size + 1) (w.alloc (.cells #[.int .i64 8, .int .i64 7, .int .i64 12, .int .i64 11, .int .i64 10, .int .i64 9] 3)) w' := by
  have h := list 2 _ lS w.heap.size _ (lit_at w lS #[.int .i64 8, .int .i64 7, .int .i64 12, .int .i64 11, .int .i64 10, .int .i64 9] rfl (by decide)) (by decide) (by decide) (by decide)
  refine h.mono ?_
  rintro e w' ⟨v, rfl, hi, hb⟩
  exact ⟨v, rfl, by simpa using hi, by simpa using hb⟩
theorem plain_S (x : Int) (v : Value) (B : Nat) (w : World) (h0 : 0 ≤ x) (h1 : x < 4294967296) (H : IntsAt w B v (lS ++ no 2)) :
    Calls Try.prog 44 #[.int .u32 x, v] w fun e w' => e = .returned (.int .i32 (sS x)) ∧ Below w.heap.size w w' := by
  have h := plain x v (lS ++ no 2) B w h0 h1 H (by decide) (by decide)
  have e : bitsV x (lS ++ no 2) = sS x := by
    rw [bitsV_noughts]; rfl
  exact e ▸ h

/-- the cells of the result are there, and hold noughts; nothing else has turned -/
structure Res (b : Nat) (w0 w : World) : Prop where
  bel : Below b w0 w
  lt : b < w.heap.size
  c0 : w.cell? ⟨b, 0, none⟩ = some (.int .i64 0)
  c1 : w.cell? ⟨b, 1, none⟩ = some (.int .i64 0)
  c2 : w.cell? ⟨b, 2, none⟩ = some (.int .i64 0)
  c3 : w.cell? ⟨b, 3, none⟩ = some (.int .i64 0)
  c4 : w.cell? ⟨b, 4, none⟩ = some (.int .i32 0)
  f0 : w.frozen? ⟨b, 0, none⟩ = false
  f1 : w.frozen? ⟨b, 1, none⟩ = false
  f2 : w.frozen? ⟨b, 2, none⟩ = false
  f3 : w.frozen? ⟨b, 3, none⟩ = false
  f4 : w.frozen? ⟨b, 4, none⟩ = false
theorem Res.start (w : World) (t : TypeId) : Res w.heap.size w (w.alloc (.cells #[.int .i64 0, .int .i64 0, .int .i64 0, .int .i64 0, .int .i32 0] t)) :=
  ⟨below_alloc w _, by simp, by simp, by simp, by simp, by simp, by simp, by rw [frozen?_alloc_cells]; simp [World.frozen?], by rw [frozen?_alloc_cells]; simp [World.frozen?], by rw [frozen?_alloc_cells]; simp [World.frozen?], by rw [frozen?_alloc_cells]; simp [World.frozen?], by rw [frozen?_alloc_cells]; simp [World.frozen?]⟩
theorem Res.call {b : Nat} {w0 w w' : World} (h : Res b w0 w) (k : Below w.heap.size w w') : Res b w0 w' :=
  ⟨h.bel.trans (k.mono (Nat.le_of_lt h.lt)), Nat.lt_of_lt_of_le h.lt k.size, (k.cell (p := ⟨b, 0, none⟩) h.lt).trans h.c0, (k.cell (p := ⟨b, 1, none⟩) h.lt).trans h.c1, (k.cell (p := ⟨b, 2, none⟩) h.lt).trans h.c2, (k.cell (p := ⟨b, 3, none⟩) h.lt).trans h.c3, (k.cell (p := ⟨b, 4, none⟩) h.lt).trans h.c4, (k.frozen (p := ⟨b, 0, none⟩) h.lt).trans h.f0, (k.frozen (p := ⟨b, 1, none⟩) h.lt).trans h.f1, (k.frozen (p := ⟨b, 2, none⟩) h.lt).trans h.f2, (k.frozen (p := ⟨b, 3, none⟩) h.lt).trans h.f3, (k.frozen (p := ⟨b, 4, none⟩) h.lt).trans h.f4⟩
theorem Res.lit {b : Nat} {w0 w w' : World} {o : Obj} (h : Res b w0 w) (k : Below (w.heap.size + 1) (w.alloc o) w') : Res b w0 w' :=
  h.call (((Below.refl _ _).alloc (Nat.le_refl _) o).trans (k.mono (Nat.le_succ _)))
theorem beq_ne (v n : Int) (h : v ≠ n) : (v == n) = false := by simpa using h
theorem bne_ne (v n : Int) (h : v ≠ n) : (v != n) = true := by simpa using h
theorem bd (x : Int) (l n : Nat) {m : Int} (hm : (2 : Int) ^ n = m) : 0 ≤ fld x l n ∧ fld x l n < m := hm ▸ fld_bd x l n
end Go.Proofs.Ytfecjdchgckjhaa.R5
