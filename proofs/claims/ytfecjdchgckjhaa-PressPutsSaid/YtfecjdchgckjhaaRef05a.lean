/- What the functions of package typecaseref05 compute: lists of bits, fields, numbers. What the functions of package typecaseref05 compute: its lists; the cells of a result. What the functions of package typecaseref05 compute: the quarters. What the functions of package typecaseref05 compute: the quarters. What the functions of package typecaseref05 compute: the quarters. What the functions of package typecaseref05 compute: the quarters. -/
import Derived.Test.YtfecjdchgckjhaaRef04
import Derived.Test.YtfecjdchgckjhaaSlimP
import Derived.Test.YtfecjdchgckjhaaCells
import Derived.Test.YtfecjdchgckjhaaSlim
import Derived.Deep.Cut
import Derived.Deep.RegionHeld3
import Derived.Test.YtfecjdchgckjhaaCellMap
namespace Go.Proofs.Ytfecjdchgckjhaa.R5
set_option linter.unusedVariables false
set_option linter.unusedSimpArgs false
open Go.ChangeShapes Go.WideShapes Go.ChangeAt Go.RowKit Go.Proofs.Ytfecjdchgckjhaa.P Go.Proofs.Ytfecjdchgckjhaa.W Go.Proofs.Ytfecjdchgckjhaa.O Go.Proofs.Ytfecjdchgckjhaa.R4

theorem lit_at (w : World) (l : List Int) (arr : Array Value) (hl : arr.toList = l.map (Value.int .i64)) (hm : l.length ≤ maxLen) :
    IntsAt (w.alloc (.cells arr 3)) w.heap.size (.slice (some ⟨w.heap.size, 0, none⟩) l.length l.length) l :=
  ⟨by simp, .inr ⟨w.heap.size, l.length, arr, rfl, Nat.le_refl _, heap_alloc_new w _, Nat.le_refl _, hm, (by have := congrArg List.length hl; simpa using this), (by rw [hl, List.take_of_length_le (by simp)])⟩⟩

/-- 'append(a, b...)': a on top of the stack, b anywhere -/
theorem app2 {ops : Array Oper} {rest : List Oper} {o : Oper} {a : Act} {Q : Exit → Act → World → Prop} {w0 w : World} {L : List (Value × List Int)} {v1 v2 : Value} {l1 l2 : List Int} {B2 : Nat}
    (hgd : o.guard = none) (s x : Operand) (ho : o.op = .call { callee := .builtin .append, args := #[s, x], argTypes := #[46, 46] })
    (hs : a.eval s = v1) (hx : a.eval x = v2) (H : Stack w0 w ((v1, l1) :: L)) (H2 : IntsAt w B2 v2 l2) (hne : l2 ≠ []) (hlen : l1.length + l2.length ≤ 1000000)
    (h : ∀ v' w', Stack w0 w' ((v', l1 ++ l2) :: L) → wpList Try.prog ops Q rest (a.put o.dst v') w') : wpList Try.prog ops Q (o :: rest) a w := by
  obtain ⟨i0, hi, hz0, hz1, hz2⟩ := info_parts infoInt
  have H1 : IntsAt w w0.heap.size v1 l1 := H.2.1 (v1, l1) (by simp)
  obtain ⟨g, cap, rfl, hbg, hgl, hlc, hcm, hcell⟩ := IntsAt.form H2 hne
  refine wpList_append_own_at w hgd s x 46 ho w0.heap.size 3 i0 (.int .i64 0) 1 8 Try.underlying46 hi hz0 hz1 hz2 rfl (by decide) v1 l1.length (l1.map (Value.int .i64)) hs H1
    ⟨g, 0, none⟩ l2.length cap (l2.map (Value.int .i64)) hx (by simp) ?_ ?_ (by unfold maxLen; omega) (by omega) H.1.size ?_
  · intro j u hu
    have hadd : (⟨g, 0, none⟩ : Addr).add j = ⟨g, j, none⟩ := by unfold Addr.add; split <;> simp_all
    rw [hadd]
    have hj : j < l2.length := by
      have := (List.getElem?_eq_some_iff.1 hu).1; simpa using this
    rw [hcell j hj]
    simp [List.getD, hj] at hu ⊢
    exact hu
  · intro u hu
    simp at hu
    obtain ⟨k, _, rfl⟩ := hu
    rfl
  · intro v' w' hown hgrow _ hat
    refine h v' w' ⟨?_, ?_, ?_⟩
    · exact Below.grown H.1 hgrow H.1.size (fun k hk => (IntsAt.lt H1 k hk).1)
    · intro p hp
      rcases List.mem_cons.1 hp with rfl | hp
      · show w'.ownsRow _ _ _ _ _ _
        rw [List.length_append, List.map_append]
        exact hown
      · have hpw := List.pairwise_cons.1 H.2.2
        have hpp := H.2.1 p (by simp [hp])
        refine hpp.kept hgrow ?_
        rcases hpw.1 p hp with h1 | h1 | h1
        · by_cases hq : p.1.ownBlock = none
          · exact .inl hq
          · exact .inr (fun e => hq (e.trans h1))
        · exact .inl h1
        · exact .inr (fun e => h1 e.symm)
    · have hpw := List.pairwise_cons.1 H.2.2
      refine List.Pairwise.cons (fun q hq => ?_) hpw.2
      have hqq := H.2.1 q (by simp [hq])
      rcases hat with e | e
      · show v'.ownBlock = none ∨ _ ∨ v'.ownBlock ≠ _
        rw [e]; exact hpw.1 q hq
      · cases hw : q.1.ownBlock with
        | none => exact .inr (.inl rfl)
        | some b =>
          have h2 := hqq.lt b hw
          refine .inr (.inr ?_)
          show v'.ownBlock ≠ _
          rw [e]
          intro e2
          injection e2 with e2
          omega

theorem no_snoc (n : Nat) : no (n + 1) = no n ++ [-1] := by unfold no; rw [List.replicate_succ']
theorem list (n : Nat) (v : Value) (l : List Int) (B : Nat) (w : World) (H : IntsAt w B v l) (hne : l ≠ []) (hn : n ≤ 100) (hl : l.length ≤ 100) :
    Calls Try.prog 45 #[.int .i64 n, v] w (Gives w (l ++ no n)) := by
  go_enter Try.func45, Try.ntmps45
  go_wp2_with (first | (at_builtin; refine app2 rfl _ _ rfl rfl rfl ((Stack.start w).lit [] _ _ rfl rfl (by decide)) (H.below ((Below.refl _ _).alloc (Nat.le_refl _) _)) hne (by simp; omega) ?_; intro v1 w1 hst1))
  replace hst1 : Stack w w1 [(v1, l ++ no 0)] := by simpa [no] using hst1
  go_loopw [5, 6] (fun v i wr => ∃ k : Nat, k ≤ n ∧ i = .int .i64 k ∧ Stack w wr [(v, l ++ no k)]) (fun _ i _ => n - (intOf i).toNat)
  case atStart => exact ⟨0, by omega, rfl, hst1⟩
  case round =>
    obtain ⟨k, hk, rfl, hst⟩ := hrel
    clear hst1
    have HL := hid (show (l ++ no k).length ≤ 200 by rw [List.length_append, no_length]; omega)
    by_cases hs : k < n
    · have HN := hid (no_snoc k)
      go_wp2_with (first | (at_builtin; refine app rfl _ _ rfl rfl rfl (hst.lit [-1] _ _ rfl rfl (by simp [maxLen])) (by simp) (by have := HL.out; simp at this ⊢; omega) ?_; intro v2 w2 hst2))
      go_roundw
      case rel => exact ⟨k + 1, by omega, by go_num, by rw [HN.out, ← List.append_assoc]; exact hst2⟩
      case measure => simp [intOf]; omega
    · obtain rfl : k = n := by omega
      go_wp2
      go_ret
      exact ⟨_, rfl, hst.top, hst.bel⟩

theorem plain (x : Int) (v : Value) (l : List Int) (B : Nat) (w : World) (h0 : 0 ≤ x) (h1 : x < 4294967296) (H : IntsAt w B v l) (hne : l ≠ []) (hlen : l.length ≤ 30) :
    Calls Try.prog 44 #[.int .u32 x, v] w fun e w' => e = .returned (.int .i32 (bitsV x l)) ∧ Below w.heap.size w w' := by
  have hb := bitsV_bd x l
  have hp : (2 : Int) ^ l.length ≤ 2 ^ 30 := p2le hlen
  have hv : sgn (bitsV x ([-1] ++ l)) ([-1] ++ l).length = bitsV x l := by
    have e : bitsV x ([-1] ++ l) = bitsV x l := by rw [bitsV_append]; simp [bitsV, bi]
    have e2 : ([-1] ++ l).length = l.length + 1 := by simp
    rw [e, e2]
    unfold sgn
    rw [p2succ, Int.emod_eq_of_lt hb.1 (by omega)]
    split <;> omega
  have HV := hid hv
  clear hv hp
  generalize bitsV x l = r at *
  go_enter Try.func44, Try.ntmps44
  go_wp2_with (first | (at_builtin; refine app2 rfl _ _ rfl rfl rfl ((Stack.start w).lit [-1] _ _ rfl rfl (by decide)) (H.below ((Below.refl _ _).alloc (Nat.le_refl _) _)) hne (by simp; omega) ?_; intro v1 w1 hst1))
  go_wp2_with fail
  refine (Bits _ _ _ _ _ h0 h1 hst1.top (by simp) (by simp; try omega)).mono ?_
  rintro e w' ⟨rfl, rfl⟩
  rw [HV.out]
  go_wp2
  go_ret
  exact ⟨rfl, hst1.bel⟩

theorem field (x h l : Int) (w : World) (h0 : 0 ≤ x) (h1 : x < 4294967296) (hl0 : 0 ≤ l) (hl1 : l ≤ h) (hh : h ≤ 31) :
    Calls Try.prog 46 #[.int .u32 x, .int .i64 h, .int .i64 l] w fun e w' => e = .returned (.int .i64 (fld x l.toNat (h - l + 1).toNat)) ∧ w = w' := by
  have hf := fld_lt32 x l.toNat (b := (h - l + 1).toNat) (by omega)
  have e : held (h - l + 1) = (h - l + 1).toNat := by unfold held; omega
  have e2 : max l 0 = l := by omega
  have hw : ∀ w, Calls Try.prog 58 #[.int .u32 x, .int .i64 l, .int .i64 (h - l + 1)] w fun e w' => e = .returned (.int .u32 (fld x l.toNat (h - l + 1).toNat)) ∧ w = w' := by
    intro w
    have := R1.Field x l (h - l + 1) w h0 h1
    rw [e, e2] at this; exact this
  have HW := hid hw
  clear e e2 hw
  generalize fld x l.toNat (h - l + 1).toNat = r at *
  go_enter Try.func46, Try.ntmps46
  go_wp2_with (go_at_call 58; refine (HW.out _).mono ?_; rintro e w' ⟨rfl, rfl⟩)
  go_ret
  exact ⟨rfl, rfl⟩
theorem few (x l : Int) (w : World) (h0 : 0 ≤ x) (h1 : x < 4294967296) (hl0 : 0 ≤ l) (hl1 : l ≤ 29) :
    Calls Try.prog 47 #[.int .u32 x, .int .i64 l] w fun e w' => e = .returned (.int .i64 (8 + fld x l.toNat 3)) ∧ w = w' := by
  have hb : 0 ≤ fld x l.toNat 3 ∧ fld x l.toNat 3 < 8 := fld_bd x _ 3
  have hw : ∀ w, Calls Try.prog 46 #[.int .u32 x, .int .i64 (l + 2), .int .i64 l] w fun e w' => e = .returned (.int .i64 (fld x l.toNat 3)) ∧ w = w' := by
    intro w
    have := field x (l + 2) l w h0 h1 hl0 (by omega) (by omega)
    have e : (l + 2 - l + 1).toNat = 3 := by omega
    rw [e] at this; exact this
  have HW := hid hw
  clear hw
  generalize fld x l.toNat 3 = r at *
  go_enter Try.func47, Try.ntmps47
  go_wp2_with (go_at_call 46; refine (HW.out _).mono ?_; rintro e w' ⟨rfl, rfl⟩)
  go_ret
  exact ⟨rfl, rfl⟩
end Go.Proofs.Ytfecjdchgckjhaa.R5

namespace Go.Proofs.Ytfecjdchgckjhaa.R5
set_option linter.unusedVariables false
set_option linter.unusedSimpArgs false
open Go.ChangeShapes Go.WideShapes Go.ChangeAt Go.RowKit Go.Proofs.Ytfecjdchgckjhaa.P Go.Proofs.Ytfecjdchgckjhaa.W Go.Proofs.Ytfecjdchgckjhaa.O Go.Proofs.Ytfecjdchgckjhaa.R4

theorem list_N6 (w : World) : Calls Try.prog 45 #[.int .i64 0, .slice (some ⟨w.heap.size, 0, none⟩) 6 6] (w.alloc (.cells #[.int .i64 12, .int .i64 6, .int .i64 5, .int .i64 4, .int .i64 3, .int .i64 2] 3))
    fun e w' => ∃ v, e = .returned v ∧ IntsAt w' (w.heap.size + 1) v (lN6 ++ no 0) ∧ Below (w.heap.size + 1) (w.alloc (.cells #[.int .i64 12, .int .i64 6, .int .i64 5, .int .i64 4, .int .i64 3, .int .i64 2] 3)) w' := by
  have h := list 0 _ lN6 w.heap.size _ (lit_at w lN6 #[.int .i64 12, .int .i64 6, .int .i64 5, .int .i64 4, .int .i64 3, .int .i64 2] rfl (by decide)) (by decide) (by decide) (by decide)
  refine h.mono ?_
  rintro e w' ⟨v, rfl, hi, hb⟩
  exact ⟨v, rfl, by simpa using hi, by simpa using hb⟩
theorem bits_N6 (x : Int) (v : Value) (B : Nat) (w : World) (h0 : 0 ≤ x) (h1 : x < 4294967296) (H : IntsAt w B v (lN6 ++ no 0)) :
    Calls Try.prog 48 #[.int .u32 x, v] w fun e w' => e = .returned (.int .i32 (sN6 x)) ∧ w = w' := by
  have h := Bits x v (lN6 ++ no 0) B w h0 h1 H (by decide) (by decide)
  have e : sgn (bitsV x (lN6 ++ no 0)) (lN6 ++ no 0).length = sN6 x := by
    rw [bitsV_noughts]; simp [sN6]; rfl
  exact e ▸ h
theorem list_J (w : World) : Calls Try.prog 45 #[.int .i64 1, .slice (some ⟨w.heap.size, 0, none⟩) 11 11] (w.alloc (.cells #[.int .i64 12, .int .i64 8, .int .i64 10, .int .i64 9, .int .i64 6, .int .i64 7, .int .i64 2, .int .i64 11, .int .i64 5, .int .i64 4, .int .i64 3] 3))
    fun e w' => ∃ v, e = .returned v ∧ IntsAt w' (w.heap.size + 1) v (lJ ++ no 1) ∧ Below (w.heap.size + 1) (w.alloc (.cells #[.int .i64 12, .int .i64 8, .int .i64 10, .int .i64 9, .int .i64 6, .int .i64 7, .int .i64 2, .int .i64 11, .int .i64 5, .int .i64 4, .int .i64 3] 3)) w' := by
  have h := list 1 _ lJ w.heap.size _ (lit_at w lJ #[.int .i64 12, .int .i64 8, .int .i64 10, .int .i64 9, .int .i64 6, .int .i64 7, .int .i64 2, .int .i64 11, .int .i64 5, .int .i64 4, .int .i64 3] rfl (by decide)) (by decide) (by decide) (by decide)
  refine h.mono ?_
  rintro e w' ⟨v, rfl, hi, hb⟩
  exact ⟨v, rfl, by simpa using hi, by simpa using hb⟩
theorem bits_J (x : Int) (v : Value) (B : Nat) (w : World) (h0 : 0 ≤ x) (h1 : x < 4294967296) (H : IntsAt w B v (lJ ++ no 1)) :
    Calls Try.prog 48 #[.int .u32 x, v] w fun e w' => e = .returned (.int .i32 (sJ x)) ∧ w = w' := by
  have h := Bits x v (lJ ++ no 1) B w h0 h1 H (by decide) (by decide)
  have e : sgn (bitsV x (lJ ++ no 1)) (lJ ++ no 1).length = sJ x := by
    rw [bitsV_noughts]; rfl
  exact e ▸ h
theorem list_B (w : World) : Calls Try.prog 45 #[.int .i64 1, .slice (some ⟨w.heap.size, 0, none⟩) 8 8] (w.alloc (.cells #[.int .i64 12, .int .i64 6, .int .i64 5, .int .i64 2, .int .i64 11, .int .i64 10, .int .i64 4, .int .i64 3] 3))
    fun e w' => ∃ v, e = .returned v ∧ IntsAt w' (w.heap.size + 1) v (lB ++ no 1) ∧ Below (w.heap.size + 1) (w.alloc (.cells #[.int .i64 12, .int .i64 6, .int .i64 5, .int .i64 2, .int .i64 11, .int .i64 10, .int .i64 4, .int .i64 3] 3)) w' := by
  have h := list 1 _ lB w.heap.size _ (lit_at w lB #[.int .i64 12, .int .i64 6, .int .i64 5, .int .i64 2, .int .i64 11, .int .i64 10, .int .i64 4, .int .i64 3] rfl (by decide)) (by decide) (by decide) (by decide)
  refine h.mono ?_
  rintro e w' ⟨v, rfl, hi, hb⟩
  exact ⟨v, rfl, by simpa using hi, by simpa using hb⟩
theorem bits_B (x : Int) (v : Value) (B : Nat) (w : World) (h0 : 0 ≤ x) (h1 : x < 4294967296) (H : IntsAt w B v (lB ++ no 1)) :
    Calls Try.prog 48 #[.int .u32 x, v] w fun e w' => e = .returned (.int .i32 (sB x)) ∧ w = w' := by
  have h := Bits x v (lB ++ no 1) B w h0 h1 H (by decide) (by decide)
  have e : sgn (bitsV x (lB ++ no 1)) (lB ++ no 1).length = sB x := by
    rw [bitsV_noughts]; rfl
  exact e ▸ h
theorem list_A (w : World) : Calls Try.prog 45 #[.int .i64 4, .slice (some ⟨w.heap.size, 0, none⟩) 6 6] (w.alloc (.cells #[.int .i64 12, .int .i64 4, .int .i64 3, .int .i64 5, .int .i64 2, .int .i64 6] 3))
    fun e w' => ∃ v, e = .returned v ∧ IntsAt w' (w.heap.size + 1) v (lA ++ no 4) ∧ Below (w.heap.size + 1) (w.alloc (.cells #[.int .i64 12, .int .i64 4, .int .i64 3, .int .i64 5, .int .i64 2, .int .i64 6] 3)) w' := by
  have h := list 4 _ lA w.heap.size _ (lit_at w lA #[.int .i64 12, .int .i64 4, .int .i64 3, .int .i64 5, .int .i64 2, .int .i64 6] rfl (by decide)) (by decide) (by decide) (by decide)
  refine h.mono ?_
  rintro e w' ⟨v, rfl, hi, hb⟩
  exact ⟨v, rfl, by simpa using hi, by simpa using hb⟩
theorem bits_A (x : Int) (v : Value) (B : Nat) (w : World) (h0 : 0 ≤ x) (h1 : x < 4294967296) (H : IntsAt w B v (lA ++ no 4)) :
    Calls Try.prog 48 #[.int .u32 x, v] w fun e w' => e = .returned (.int .i32 (sA x)) ∧ w = w' := by
  have h := Bits x v (lA ++ no 4) B w h0 h1 H (by decide) (by decide)
  have e : sgn (bitsV x (lA ++ no 4)) (lA ++ no 4).length = sA x := by
    rw [bitsV_noughts]; rfl
  exact e ▸ h
theorem list_U (w : World) : Calls Try.prog 45 #[.int .i64 2, .slice (some ⟨w.heap.size, 0, none⟩) 8 8] (w.alloc (.cells #[.int .i64 10, .int .i64 9, .int .i64 8, .int .i64 7, .int .i64 12, .int .i64 11, .int .i64 5, .int .i64 6] 3))
    fun e w' => ∃ v, e = .returned v ∧ IntsAt w' (w.heap.size + 1) v (lU ++ no 2) ∧ Below (w.heap.size + 1) (w.alloc (.cells #[.int .i64 10, .int .i64 9, .int .i64 8, .int .i64 7, .int .i64 12, .int .i64 11, .int .i64 5, .int .i64 6] 3)) w' := by
  have h := list 2 _ lU w.heap.size _ (lit_at w lU #[.int .i64 10, .int .i64 9, .int .i64 8, .int .i64 7, .int .i64 12, .int .i64 11, .int .i64 5, .int .i64 6] rfl (by decide)) (by decide) (by decide) (by decide)
  refine h.mono ?_
  rintro e w' ⟨v, rfl, hi, hb⟩
  exact ⟨v, rfl, by simpa using hi, by simpa using hb⟩
theorem plain_U (x : Int) (v : Value) (B : Nat) (w : World) (h0 : 0 ≤ x) (h1 : x < 4294967296) (H : IntsAt w B v (lU ++ no 2)) :
    Calls Try.prog 44 #[.int .u32 x, v] w fun e w' => e = .returned (.int .i32 (sU x)) ∧ Below w.heap.size w w' := by
  have h := plain x v (lU ++ no 2) B w h0 h1 H (by decide) (by decide)
  have e : bitsV x (lU ++ no 2) = sU x := by
    rw [bitsV_noughts]; rfl
  exact e ▸ h
theorem list_V (w : World) : Calls Try.prog 45 #[.int .i64 2, .slice (some ⟨w.heap.size, 0, none⟩) 5 5] (w.alloc (.cells #[.int .i64 5, .int .i64 12, .int .i64 11, .int .i64 10, .int .i64 6] 3))
    fun e w' => ∃ v, e = .returned v ∧ IntsAt w' (w.heap.size + 1) v (lV ++ no 2) ∧ Below (w.heap.size + 1) (w.alloc (.cells #[.int .i64 5, .int .i64 12, .int .i64 11, .int .i64 10, .int .i64 6] 3)) w' := by
  have h := list 2 _ lV w.heap.size _ (lit_at w lV #[.int .i64 5, .int .i64 12, .int .i64 11, .int .i64 10, .int .i64 6] rfl (by decide)) (by decide) (by decide) (by decide)
  refine h.mono ?_
  rintro e w' ⟨v, rfl, hi, hb⟩
  exact ⟨v, rfl, by simpa using hi, by simpa using hb⟩
theorem plain_V (x : Int) (v : Value) (B : Nat) (w : World) (h0 : 0 ≤ x) (h1 : x < 4294967296) (H : IntsAt w B v (lV ++ no 2)) :
    Calls Try.prog 44 #[.int .u32 x, v] w fun e w' => e = .returned (.int .i32 (sV x)) ∧ Below w.heap.size w w' := by
  have h := plain x v (lV ++ no 2) B w h0 h1 H (by decide) (by decide)
  have e : bitsV x (lV ++ no 2) = sV x := by
    rw [bitsV_noughts]; rfl
  exact e ▸ h
theorem list_L (w : World) : Calls Try.prog 45 #[.int .i64 2, .slice (some ⟨w.heap.size, 0, none⟩) 6 6] (w.alloc (.cells #[.int .i64 3, .int .i64 2, .int .i64 12, .int .i64 6, .int .i64 5, .int .i64 4] 3))
    fun e w' => ∃ v, e = .returned v ∧ IntsAt w' (w.heap.size + 1) v (lL ++ no 2) ∧ Below (w.heap.size + 1) (w.alloc (.cells #[.int .i64 3, .int .i64 2, .int .i64 12, .int .i64 6, .int .i64 5, .int .i64 4] 3)) w' := by
  have h := list 2 _ lL w.heap.size _ (lit_at w lL #[.int .i64 3, .int .i64 2, .int .i64 12, .int .i64 6, .int .i64 5, .int .i64 4] rfl (by decide)) (by decide) (by decide) (by decide)
  refine h.mono ?_
  rintro e w' ⟨v, rfl, hi, hb⟩
  exact ⟨v, rfl, by simpa using hi, by simpa using hb⟩
theorem plain_L (x : Int) (v : Value) (B : Nat) (w : World) (h0 : 0 ≤ x) (h1 : x < 4294967296) (H : IntsAt w B v (lL ++ no 2)) :
    Calls Try.prog 44 #[.int .u32 x, v] w fun e w' => e = .returned (.int .i32 (sL x)) ∧ Below w.heap.size w w' := by
  have h := plain x v (lL ++ no 2) B w h0 h1 H (by decide) (by decide)
  have e : bitsV x (lL ++ no 2) = sL x := by
    rw [bitsV_noughts]; rfl
  exact e ▸ h
theorem list_S (w : World) : Calls Try.prog 45 #[.int .i64 2, .slice (some ⟨w.heap.size, 0, none⟩) 6 6] (w.alloc (.cells #[.int .i64 8, .int .i64 7, .int .i64 12, .int .i64 11, .int .i64 10, .int .i64 9] 3))
    fun e w' => ∃ v, e = .returned v ∧ IntsAt w' (w.heap.size + 1) v (lS ++ no 2) ∧ Below (w.heap.size + 1) (w.alloc (.cells #[.int .i64 8, .int .i64 7, .int .i64 12, .int .i64 11, .int .i64 10, .int .i64 9] 3)) w' := by
  have h := list 2 _ lS w.heap.size _ (lit_at w lS #[.int .i64 8, .int .i64 7, .int .i64 12, .int .i64 11, .int .i64 10, .int .i64 9] rfl (by decide)) (by decide) (by decide) (by decide)
  refine h.mono ?_
  rintro e w' ⟨v, rfl, hi, hb⟩
  exact ⟨v, rfl, by simpa using hi, by simpa using hb⟩
theorem plain_S (x : Int) (v : Value) (B : Nat) (w : World) (h0 : 0 ≤ x) (h1 : x < 4294967296) (H : IntsAt w B v (lS ++ no 2)) :
    Calls Try.prog 44 #[.int .u32 x, v] w fun e w' => e = .returned (.int .i32 (sS x)) ∧ Below w.heap.size w w' := by
  have h := plain x v (lS ++ no 2) B w h0 h1 H (by decide) (by decide)
  have e : bitsV x (lS ++ no 2) = sS x := by
    rw [bitsV_noughts]; rfl
  exact e ▸ h

/-- the cells of the result are there, and hold noughts; nothing else has turned -/
structure Res (b : Nat) (w0 w : World) : Prop where
  bel : Below b w0 w
  lt : b < w.heap.size
  c0 : w.cell? ⟨b, 0, none⟩ = some (.int .i64 0)
  c1 : w.cell? ⟨b, 1, none⟩ = some (.int .i64 0)
  c2 : w.cell? ⟨b, 2, none⟩ = some (.int .i64 0)
  c3 : w.cell? ⟨b, 3, none⟩ = some (.int .i64 0)
  c4 : w.cell? ⟨b, 4, none⟩ = some (.int .i32 0)
  f0 : w.frozen? ⟨b, 0, none⟩ = false
  f1 : w.frozen? ⟨b, 1, none⟩ = false
  f2 : w.frozen? ⟨b, 2, none⟩ = false
  f3 : w.frozen? ⟨b, 3, none⟩ = false
  f4 : w.frozen? ⟨b, 4, none⟩ = false
theorem Res.start (w : World) (t : TypeId) : Res w.heap.size w (w.alloc (.cells #[.int .i64 0, .int .i64 0, .int .i64 0, .int .i64 0, .int .i32 0] t)) :=
  ⟨below_alloc w _, by simp, by simp, by simp, by simp, by simp, by simp, by rw [frozen?_alloc_cells]; simp [World.frozen?], by rw [frozen?_alloc_cells]; simp [World.frozen?], by rw [frozen?_alloc_cells]; simp [World.frozen?], by rw [frozen?_alloc_cells]; simp [World.frozen?], by rw [frozen?_alloc_cells]; simp [World.frozen?]⟩
theorem Res.call {b : Nat} {w0 w w' : World} (h : Res b w0 w) (k : Below w.heap.size w w') : Res b w0 w' :=
  ⟨h.bel.trans (k.mono (Nat.le_of_lt h.lt)), Nat.lt_of_lt_of_le h.lt k.size, (k.cell (p := ⟨b, 0, none⟩) h.lt).trans h.c0, (k.cell (p := ⟨b, 1, none⟩) h.lt).trans h.c1, (k.cell (p := ⟨b, 2, none⟩) h.lt).trans h.c2, (k.cell (p := ⟨b, 3, none⟩) h.lt).trans h.c3, (k.cell (p := ⟨b, 4, none⟩) h.lt).trans h.c4, (k.frozen (p := ⟨b, 0, none⟩) h.lt).trans h.f0, (k.frozen (p := ⟨b, 1, none⟩) h.lt).trans h.f1, (k.frozen (p := ⟨b, 2, none⟩) h.lt).trans h.f2, (k.frozen (p := ⟨b, 3, none⟩) h.lt).trans h.f3, (k.frozen (p := ⟨b, 4, none⟩) h.lt).trans h.f4⟩
theorem Res.lit {b : Nat} {w0 w w' : World} {o : Obj} (h : Res b w0 w) (k : Below (w.heap.size + 1) (w.alloc o) w') : Res b w0 w' :=
  h.call (((Below.refl _ _).alloc (Nat.le_refl _) o).trans (k.mono (Nat.le_succ _)))
theorem beq_ne (v n : Int) (h : v ≠ n) : (v == n) = false := by simpa using h
theorem bne_ne (v n : Int) (h : v ≠ n) : (v != n) = true := by simpa using h
theorem bd (x : Int) (l n : Nat) {m : Int} (hm : (2 : Int) ^ n = m) : 0 ≤ fld x l n ∧ fld x l n < m := hm ▸ fld_bd x l n
end Go.Proofs.Ytfecjdchgckjhaa.R5

namespace Go.Proofs.Ytfecjdchgckjhaa.R5
set_option linter.unusedVariables false
set_option linter.unusedSimpArgs false
open Go.ChangeShapes Go.WideShapes Go.ChangeAt Go.RowKit Go.Proofs.Ytfecjdchgckjhaa.P Go.Proofs.Ytfecjdchgckjhaa.W Go.Proofs.Ytfecjdchgckjhaa.O Go.Proofs.Ytfecjdchgckjhaa.R4

set_option maxRecDepth 100000 in
set_option maxHeartbeats 2000000 in
theorem quarter0 (x : Int) (w : World) (h0 : 0 ≤ x) (h1 : x < 4294967296) :
    Calls Try.prog 30 #[.int .u32 x] w fun e w' => e = .returned (q0 x).val ∧ Below w.heap.size w w' := by
  have HBU := hid (fun v B w => plain_U x v B w h0 h1)
  have HBV := hid (fun v B w => plain_V x v B w h0 h1)
  have HFf := hid (show ∀ w, Calls Try.prog 46 #[.int .u32 x, .int .i64 15, .int .i64 13] w fun e w' => e = .returned (.int .i64 (fld x 13 3)) ∧ w = w' from fun w => field x 15 13 w h0 h1 (by omega) (by omega) (by omega))
  have HW2 := hid (show ∀ w, Calls Try.prog 47 #[.int .u32 x, .int .i64 2] w fun e w' => e = .returned (.int .i64 (sR2 x)) ∧ w = w' from fun w => few x 2 w h0 h1 (by omega) (by omega))
  have HW7 := hid (show ∀ w, Calls Try.prog 47 #[.int .u32 x, .int .i64 7] w fun e w' => e = .returned (.int .i64 (sR1 x)) ∧ w = w' from fun w => few x 7 w h0 h1 (by omega) (by omega))
  have hu := bitsV_bd x lU
  have e1 : (2 : Int) ^ lU.length = 256 := by decide
  rw [e1] at hu
  have hu2 : 0 ≤ sU x ∧ sU x < 1024 := by unfold sU; omega
  clear hu e1
  have hq : Hid (q0 x = if fld x 13 3 = 0 then (if sU x = 0 then .none else ⟨19, sR2 x, 2, 0, sU x⟩) else if fld x 13 3 = 2 then ⟨13, sR2 x, sR1 x, 0, sV x⟩ else if fld x 13 3 = 6 then ⟨18, 0, sR1 x, sR2 x, sV x⟩ else .none) := hid rfl
  generalize fld x 13 3 = f at *
  generalize sU x = u at *
  generalize sV x = v at *
  generalize sR1 x = r1 at *
  generalize sR2 x = r2 at *
  have hc : (f = 0 ∧ u = 0) ∨ (f = 0 ∧ (u == 0) = false ∧ (u != 0) = true) ∨ (f = 2) ∨ (f = 6) ∨ ((f == 0) = false ∧ (f != 0) = true ∧ (f == 2) = false ∧ (f != 2) = true ∧ (f == 6) = false ∧ (f != 6) = true) := by first | omega | (simp only [bne_iff_ne, beq_eq_false_iff_ne, ne_eq]; omega)
  rcases hc with ⟨rfl, rfl⟩ | ⟨rfl, k0, k1⟩ | rfl | rfl | ⟨k0, k1, k2, k3, k4, k5⟩
  all_goals
    go_enter Try.func30, Try.ntmps30
    go_upto_region 1 with (fail)
    have HR := hid (Res.start w 23)
    generalize w.alloc (.cells #[.int .i64 0, .int .i64 0, .int .i64 0, .int .i64 0, .int .i32 0] 23) = w1 at *
    go_wp2_with (first | (go_at_call 45; (with_reducible refine (R5.list_U _).mono ?_); rintro e w' ⟨v, rfl, hi, hb⟩; replace HR := hid (Res.lit HR.out hb); clear hb) | (go_at_call 45; (with_reducible refine (R5.list_V _).mono ?_); rintro e w' ⟨v, rfl, hi, hb⟩; replace HR := hid (Res.lit HR.out hb); clear hb) | (go_at_call 44; (with_reducible refine (HBU.out _ _ _ hi).mono ?_); rintro e w' ⟨rfl, hb⟩; replace HR := hid (Res.call HR.out hb); clear hb hi) | (go_at_call 44; (with_reducible refine (HBV.out _ _ _ hi).mono ?_); rintro e w' ⟨rfl, hb⟩; replace HR := hid (Res.call HR.out hb); clear hb hi; (try clear hbw zl c0 c1 c2 c3 c4 f0 f1 f2 f3 f4 five0 five1 five2 five3 five4); obtain ⟨hbw, zl, c0, c1, c2, c3, c4, f0, f1, f2, f3, f4⟩ := HR.out; obtain ⟨five0, five1, five2, five3, five4⟩ := S.five_ret c0 c1 c2 c3 c4) | (go_at_call 46; (with_reducible refine (HFf.out _).mono ?_); rintro e w' ⟨rfl, rfl⟩) | (go_at_call 47; (with_reducible refine (HW2.out _).mono ?_); rintro e w' ⟨rfl, rfl⟩) | (go_at_call 47; (with_reducible refine (HW7.out _).mono ?_); rintro e w' ⟨rfl, rfl⟩))
    all_goals (refine bodyPost_ret (by simp [results, Try.results30, go_sem, five0, five1, five2, five3, five4]; try rfl) rfl ?_)
    all_goals refine ⟨?_, (by repeat' (first | (with_reducible exact Below.refl _ _) | (with_reducible assumption) | (with_reducible refine below_drewN ?_ _) | (with_reducible refine Below.alloc ?_ ?_ _) | (with_reducible refine Below.drew ?_) | (with_reducible refine Below.setCell ?_ ?_ _) | (with_reducible exact Below.size (by assumption)) | go_size))⟩
    all_goals rw [hq.out]
    all_goals clear HR HBU HBV HFf HW2 HW7 hq hbw zl c0 c1 c2 c3 c4 f0 f1 f2 f3 f4 five0 five1 five2 five3 five4
    all_goals simp_all [I5.val, I5.none]
end Go.Proofs.Ytfecjdchgckjhaa.R5

namespace Go.Proofs.Ytfecjdchgckjhaa.R5
set_option linter.unusedVariables false
set_option linter.unusedSimpArgs false
open Go.ChangeShapes Go.WideShapes Go.ChangeAt Go.RowKit Go.Proofs.Ytfecjdchgckjhaa.P Go.Proofs.Ytfecjdchgckjhaa.W Go.Proofs.Ytfecjdchgckjhaa.O Go.Proofs.Ytfecjdchgckjhaa.R4

set_option maxRecDepth 100000 in
set_option maxHeartbeats 2000000 in
theorem sumsA (x : Int) (w : World) (h0 : 0 ≤ x) (h1 : x < 4294967296) (hne : ¬ (fld x 10 2 = 3 ∧ fld x 12 1 = 0)) :
    Calls Try.prog 49 #[.int .u32 x, .int .i32 (sN6 x)] w fun e w' => e = .returned (qSums x).val ∧ Below w.heap.size w w' := by
  have HFs := hid (show ∀ w, Calls Try.prog 46 #[.int .u32 x, .int .i64 6, .int .i64 2] w fun e w' => e = .returned (.int .i64 (fld x 2 5)) ∧ w = w' from fun w => field x 6 2 w h0 h1 (by omega) (by omega) (by omega))
  have HFo := hid (show ∀ w, Calls Try.prog 46 #[.int .u32 x, .int .i64 12, .int .i64 12] w fun e w' => e = .returned (.int .i64 (fld x 12 1)) ∧ w = w' from fun w => field x 12 12 w h0 h1 (by omega) (by omega) (by omega))
  have HFk := hid (show ∀ w, Calls Try.prog 46 #[.int .u32 x, .int .i64 11, .int .i64 10] w fun e w' => e = .returned (.int .i64 (fld x 10 2)) ∧ w = w' from fun w => field x 11 10 w h0 h1 (by omega) (by omega) (by omega))
  have HFj := hid (show ∀ w, Calls Try.prog 46 #[.int .u32 x, .int .i64 6, .int .i64 5] w fun e w' => e = .returned (.int .i64 (fld x 5 2)) ∧ w = w' from fun w => field x 6 5 w h0 h1 (by omega) (by omega) (by omega))
  have HW7 := hid (show ∀ w, Calls Try.prog 47 #[.int .u32 x, .int .i64 7] w fun e w' => e = .returned (.int .i64 (sR1 x)) ∧ w = w' from fun w => few x 7 w h0 h1 (by omega) (by omega))
  have HW2 := hid (show ∀ w, Calls Try.prog 47 #[.int .u32 x, .int .i64 2] w fun e w' => e = .returned (.int .i64 (sR2 x)) ∧ w = w' from fun w => few x 2 w h0 h1 (by omega) (by omega))
  have hk : 0 ≤ fld x 10 2 ∧ fld x 10 2 < 4 := fld_bd x 10 2
  have ho : 0 ≤ fld x 12 1 ∧ fld x 12 1 < 2 := fld_bd x 12 1
  have hs : 0 ≤ fld x 2 5 ∧ fld x 2 5 < 32 := fld_bd x 2 5
  have hj : 0 ≤ fld x 5 2 ∧ fld x 5 2 < 4 := fld_bd x 5 2
  have hq : Hid (qSums x = if fld x 10 2 = 2 then ⟨24, sR1 x, sR1 x, 0, sN6 x⟩ else if fld x 12 1 = 1 then .none else if fld x 10 2 = 0 then ⟨26, sR1 x, sR1 x, 0, fld x 2 5⟩ else if fld x 10 2 = 1 then ⟨27, sR1 x, sR1 x, 0, fld x 2 5⟩ else ⟨if fld x 5 2 = 0 then 29 else if fld x 5 2 = 1 then 33 else if fld x 5 2 = 2 then 36 else 37, sR1 x, sR1 x, sR2 x, 0⟩) := hid rfl
  generalize fld x 10 2 = k at *
  generalize fld x 12 1 = o at *
  generalize fld x 2 5 = s at *
  generalize fld x 5 2 = j at *
  generalize sN6 x = n at *
  generalize sR1 x = r1 at *
  generalize sR2 x = r2 at *
  have hc : (k = 2) ∨ (k = 0 ∧ o = 0) ∨ (k = 0 ∧ o = 1) ∨ (k = 1 ∧ o = 0) ∨ (k = 1 ∧ o = 1) ∨ (k = 3 ∧ o = 1) := by first | omega | (simp only [bne_iff_ne, beq_eq_false_iff_ne, ne_eq]; omega)
  rcases hc with rfl | ⟨rfl, rfl⟩ | ⟨rfl, rfl⟩ | ⟨rfl, rfl⟩ | ⟨rfl, rfl⟩ | ⟨rfl, rfl⟩
  all_goals
    go_enter Try.func49, Try.ntmps49
    go_upto_region 1 with (fail)
    have HR := hid (Res.start w 23)
    generalize w.alloc (.cells #[.int .i64 0, .int .i64 0, .int .i64 0, .int .i64 0, .int .i32 0] 23) = w1 at *
    (try clear hbw zl c0 c1 c2 c3 c4 f0 f1 f2 f3 f4 five0 five1 five2 five3 five4); obtain ⟨hbw, zl, c0, c1, c2, c3, c4, f0, f1, f2, f3, f4⟩ := HR.out; obtain ⟨five0, five1, five2, five3, five4⟩ := S.five_ret c0 c1 c2 c3 c4
    go_wp2_with (first | (go_at_call 46; (with_reducible refine (HFs.out _).mono ?_); rintro e w' ⟨rfl, rfl⟩) | (go_at_call 46; (with_reducible refine (HFo.out _).mono ?_); rintro e w' ⟨rfl, rfl⟩) | (go_at_call 46; (with_reducible refine (HFk.out _).mono ?_); rintro e w' ⟨rfl, rfl⟩) | (go_at_call 46; (with_reducible refine (HFj.out _).mono ?_); rintro e w' ⟨rfl, rfl⟩) | (go_at_call 47; (with_reducible refine (HW7.out _).mono ?_); rintro e w' ⟨rfl, rfl⟩) | (go_at_call 47; (with_reducible refine (HW2.out _).mono ?_); rintro e w' ⟨rfl, rfl⟩))
    all_goals (refine bodyPost_ret (by simp [results, Try.results49, go_sem, five0, five1, five2, five3, five4]; try rfl) rfl ?_)
    all_goals refine ⟨?_, (by repeat' (first | (with_reducible exact Below.refl _ _) | (with_reducible assumption) | (with_reducible refine below_drewN ?_ _) | (with_reducible refine Below.alloc ?_ ?_ _) | (with_reducible refine Below.drew ?_) | (with_reducible refine Below.setCell ?_ ?_ _) | (with_reducible exact Below.size (by assumption)) | go_size))⟩
    all_goals rw [hq.out]
    all_goals clear HR HFs HFo HFk HFj HW7 HW2 hq hbw zl c0 c1 c2 c3 c4 f0 f1 f2 f3 f4 five0 five1 five2 five3 five4
    all_goals simp_all [I5.val, I5.none]
set_option maxRecDepth 100000 in
set_option maxHeartbeats 2000000 in
theorem sums0 (x : Int) (w : World) (h0 : 0 ≤ x) (h1 : x < 4294967296) (hc : fld x 10 2 = 3 ∧ fld x 12 1 = 0 ∧ fld x 5 2 = 0) :
    Calls Try.prog 49 #[.int .u32 x, .int .i32 (sN6 x)] w fun e w' => e = .returned (qSums x).val ∧ Below w.heap.size w w' := by
  have HFs := hid (show ∀ w, Calls Try.prog 46 #[.int .u32 x, .int .i64 6, .int .i64 2] w fun e w' => e = .returned (.int .i64 (fld x 2 5)) ∧ w = w' from fun w => field x 6 2 w h0 h1 (by omega) (by omega) (by omega))
  have HFo := hid (show ∀ w, Calls Try.prog 46 #[.int .u32 x, .int .i64 12, .int .i64 12] w fun e w' => e = .returned (.int .i64 (fld x 12 1)) ∧ w = w' from fun w => field x 12 12 w h0 h1 (by omega) (by omega) (by omega))
  have HFk := hid (show ∀ w, Calls Try.prog 46 #[.int .u32 x, .int .i64 11, .int .i64 10] w fun e w' => e = .returned (.int .i64 (fld x 10 2)) ∧ w = w' from fun w => field x 11 10 w h0 h1 (by omega) (by omega) (by omega))
  have HFj := hid (show ∀ w, Calls Try.prog 46 #[.int .u32 x, .int .i64 6, .int .i64 5] w fun e w' => e = .returned (.int .i64 (fld x 5 2)) ∧ w = w' from fun w => field x 6 5 w h0 h1 (by omega) (by omega) (by omega))
  have HW7 := hid (show ∀ w, Calls Try.prog 47 #[.int .u32 x, .int .i64 7] w fun e w' => e = .returned (.int .i64 (sR1 x)) ∧ w = w' from fun w => few x 7 w h0 h1 (by omega) (by omega))
  have HW2 := hid (show ∀ w, Calls Try.prog 47 #[.int .u32 x, .int .i64 2] w fun e w' => e = .returned (.int .i64 (sR2 x)) ∧ w = w' from fun w => few x 2 w h0 h1 (by omega) (by omega))
  have hk : 0 ≤ fld x 10 2 ∧ fld x 10 2 < 4 := fld_bd x 10 2
  have ho : 0 ≤ fld x 12 1 ∧ fld x 12 1 < 2 := fld_bd x 12 1
  have hs : 0 ≤ fld x 2 5 ∧ fld x 2 5 < 32 := fld_bd x 2 5
  have hj : 0 ≤ fld x 5 2 ∧ fld x 5 2 < 4 := fld_bd x 5 2
  have hq : Hid (qSums x = if fld x 10 2 = 2 then ⟨24, sR1 x, sR1 x, 0, sN6 x⟩ else if fld x 12 1 = 1 then .none else if fld x 10 2 = 0 then ⟨26, sR1 x, sR1 x, 0, fld x 2 5⟩ else if fld x 10 2 = 1 then ⟨27, sR1 x, sR1 x, 0, fld x 2 5⟩ else ⟨if fld x 5 2 = 0 then 29 else if fld x 5 2 = 1 then 33 else if fld x 5 2 = 2 then 36 else 37, sR1 x, sR1 x, sR2 x, 0⟩) := hid rfl
  generalize fld x 10 2 = k at *
  generalize fld x 12 1 = o at *
  generalize fld x 2 5 = s at *
  generalize fld x 5 2 = j at *
  generalize sN6 x = n at *
  generalize sR1 x = r1 at *
  generalize sR2 x = r2 at *
  obtain ⟨rfl, rfl, rfl⟩ := hc
  all_goals
    go_enter Try.func49, Try.ntmps49
    go_upto_region 1 with (fail)
    have HR := hid (Res.start w 23)
    generalize w.alloc (.cells #[.int .i64 0, .int .i64 0, .int .i64 0, .int .i64 0, .int .i32 0] 23) = w1 at *
    (try clear hbw zl c0 c1 c2 c3 c4 f0 f1 f2 f3 f4 five0 five1 five2 five3 five4); obtain ⟨hbw, zl, c0, c1, c2, c3, c4, f0, f1, f2, f3, f4⟩ := HR.out; obtain ⟨five0, five1, five2, five3, five4⟩ := S.five_ret c0 c1 c2 c3 c4
    go_wp2_with (first | (go_at_call 46; (with_reducible refine (HFs.out _).mono ?_); rintro e w' ⟨rfl, rfl⟩) | (go_at_call 46; (with_reducible refine (HFo.out _).mono ?_); rintro e w' ⟨rfl, rfl⟩) | (go_at_call 46; (with_reducible refine (HFk.out _).mono ?_); rintro e w' ⟨rfl, rfl⟩) | (go_at_call 46; (with_reducible refine (HFj.out _).mono ?_); rintro e w' ⟨rfl, rfl⟩) | (go_at_call 47; (with_reducible refine (HW7.out _).mono ?_); rintro e w' ⟨rfl, rfl⟩) | (go_at_call 47; (with_reducible refine (HW2.out _).mono ?_); rintro e w' ⟨rfl, rfl⟩))
    go_region_with ((first | (go_at_call 46; (with_reducible refine (HFs.out _).mono ?_); rintro e w' ⟨rfl, rfl⟩) | (go_at_call 46; (with_reducible refine (HFo.out _).mono ?_); rintro e w' ⟨rfl, rfl⟩) | (go_at_call 46; (with_reducible refine (HFk.out _).mono ?_); rintro e w' ⟨rfl, rfl⟩) | (go_at_call 46; (with_reducible refine (HFj.out _).mono ?_); rintro e w' ⟨rfl, rfl⟩) | (go_at_call 47; (with_reducible refine (HW7.out _).mono ?_); rintro e w' ⟨rfl, rfl⟩) | (go_at_call 47; (with_reducible refine (HW2.out _).mono ?_); rintro e w' ⟨rfl, rfl⟩)))
    all_goals
      obtain ⟨t0, t1, t2, t3, t4, hl2, hbF⟩ := five_all hbw zl c0 c1 c2 c3 c4 (.int .i64 29) (.int .i64 r1) (.int .i64 r1) (.int .i64 r2) (.int .i32 0)
      clear HR hbw zl c0 c1 c2 c3 c4 f0 f1 f2 f3 f4 five0 five1 five2 five3 five4 HFs HFo HFk HFj HW7 HW2
      generalize World.setCell _ ⟨w.heap.size, 4, none⟩ _ = wf at *
      have hnw : ∀ o j, (wf.alloc o).cell? ⟨w.heap.size, j, none⟩ = wf.cell? ⟨w.heap.size, j, none⟩ := fun o j => World.cell?_alloc_old _ _ _ (by show w.heap.size ≠ wf.heap.size; omega)
      go_wp2
      refine bodyPost_ret (v := .agg #[.int .i64 29, .int .i64 r1, .int .i64 r1, .int .i64 r2, .int .i32 0]) (by simp [results, Try.results49, go_sem, hnw, t0, t1, t2, t3, t4]; try rfl) rfl ⟨by rw [hq.out]; rfl, (by repeat' (first | (with_reducible exact Below.refl _ _) | (with_reducible assumption) | (with_reducible refine below_drewN ?_ _) | (with_reducible refine Below.alloc ?_ ?_ _) | (with_reducible refine Below.drew ?_) | (with_reducible refine Below.setCell ?_ ?_ _) | (with_reducible exact Below.size (by assumption)) | go_size))⟩
set_option maxRecDepth 100000 in
set_option maxHeartbeats 2000000 in
theorem sums1 (x : Int) (w : World) (h0 : 0 ≤ x) (h1 : x < 4294967296) (hc : fld x 10 2 = 3 ∧ fld x 12 1 = 0 ∧ fld x 5 2 = 1) :
    Calls Try.prog 49 #[.int .u32 x, .int .i32 (sN6 x)] w fun e w' => e = .returned (qSums x).val ∧ Below w.heap.size w w' := by
  have HFs := hid (show ∀ w, Calls Try.prog 46 #[.int .u32 x, .int .i64 6, .int .i64 2] w fun e w' => e = .returned (.int .i64 (fld x 2 5)) ∧ w = w' from fun w => field x 6 2 w h0 h1 (by omega) (by omega) (by omega))
  have HFo := hid (show ∀ w, Calls Try.prog 46 #[.int .u32 x, .int .i64 12, .int .i64 12] w fun e w' => e = .returned (.int .i64 (fld x 12 1)) ∧ w = w' from fun w => field x 12 12 w h0 h1 (by omega) (by omega) (by omega))
  have HFk := hid (show ∀ w, Calls Try.prog 46 #[.int .u32 x, .int .i64 11, .int .i64 10] w fun e w' => e = .returned (.int .i64 (fld x 10 2)) ∧ w = w' from fun w => field x 11 10 w h0 h1 (by omega) (by omega) (by omega))
  have HFj := hid (show ∀ w, Calls Try.prog 46 #[.int .u32 x, .int .i64 6, .int .i64 5] w fun e w' => e = .returned (.int .i64 (fld x 5 2)) ∧ w = w' from fun w => field x 6 5 w h0 h1 (by omega) (by omega) (by omega))
  have HW7 := hid (show ∀ w, Calls Try.prog 47 #[.int .u32 x, .int .i64 7] w fun e w' => e = .returned (.int .i64 (sR1 x)) ∧ w = w' from fun w => few x 7 w h0 h1 (by omega) (by omega))
  have HW2 := hid (show ∀ w, Calls Try.prog 47 #[.int .u32 x, .int .i64 2] w fun e w' => e = .returned (.int .i64 (sR2 x)) ∧ w = w' from fun w => few x 2 w h0 h1 (by omega) (by omega))
  have hk : 0 ≤ fld x 10 2 ∧ fld x 10 2 < 4 := fld_bd x 10 2
  have ho : 0 ≤ fld x 12 1 ∧ fld x 12 1 < 2 := fld_bd x 12 1
  have hs : 0 ≤ fld x 2 5 ∧ fld x 2 5 < 32 := fld_bd x 2 5
  have hj : 0 ≤ fld x 5 2 ∧ fld x 5 2 < 4 := fld_bd x 5 2
  have hq : Hid (qSums x = if fld x 10 2 = 2 then ⟨24, sR1 x, sR1 x, 0, sN6 x⟩ else if fld x 12 1 = 1 then .none else if fld x 10 2 = 0 then ⟨26, sR1 x, sR1 x, 0, fld x 2 5⟩ else if fld x 10 2 = 1 then ⟨27, sR1 x, sR1 x, 0, fld x 2 5⟩ else ⟨if fld x 5 2 = 0 then 29 else if fld x 5 2 = 1 then 33 else if fld x 5 2 = 2 then 36 else 37, sR1 x, sR1 x, sR2 x, 0⟩) := hid rfl
  generalize fld x 10 2 = k at *
  generalize fld x 12 1 = o at *
  generalize fld x 2 5 = s at *
  generalize fld x 5 2 = j at *
  generalize sN6 x = n at *
  generalize sR1 x = r1 at *
  generalize sR2 x = r2 at *
  obtain ⟨rfl, rfl, rfl⟩ := hc
  all_goals
    go_enter Try.func49, Try.ntmps49
    go_upto_region 1 with (fail)
    have HR := hid (Res.start w 23)
    generalize w.alloc (.cells #[.int .i64 0, .int .i64 0, .int .i64 0, .int .i64 0, .int .i32 0] 23) = w1 at *
    (try clear hbw zl c0 c1 c2 c3 c4 f0 f1 f2 f3 f4 five0 five1 five2 five3 five4); obtain ⟨hbw, zl, c0, c1, c2, c3, c4, f0, f1, f2, f3, f4⟩ := HR.out; obtain ⟨five0, five1, five2, five3, five4⟩ := S.five_ret c0 c1 c2 c3 c4
    go_wp2_with (first | (go_at_call 46; (with_reducible refine (HFs.out _).mono ?_); rintro e w' ⟨rfl, rfl⟩) | (go_at_call 46; (with_reducible refine (HFo.out _).mono ?_); rintro e w' ⟨rfl, rfl⟩) | (go_at_call 46; (with_reducible refine (HFk.out _).mono ?_); rintro e w' ⟨rfl, rfl⟩) | (go_at_call 46; (with_reducible refine (HFj.out _).mono ?_); rintro e w' ⟨rfl, rfl⟩) | (go_at_call 47; (with_reducible refine (HW7.out _).mono ?_); rintro e w' ⟨rfl, rfl⟩) | (go_at_call 47; (with_reducible refine (HW2.out _).mono ?_); rintro e w' ⟨rfl, rfl⟩))
    go_region_with ((first | (go_at_call 46; (with_reducible refine (HFs.out _).mono ?_); rintro e w' ⟨rfl, rfl⟩) | (go_at_call 46; (with_reducible refine (HFo.out _).mono ?_); rintro e w' ⟨rfl, rfl⟩) | (go_at_call 46; (with_reducible refine (HFk.out _).mono ?_); rintro e w' ⟨rfl, rfl⟩) | (go_at_call 46; (with_reducible refine (HFj.out _).mono ?_); rintro e w' ⟨rfl, rfl⟩) | (go_at_call 47; (with_reducible refine (HW7.out _).mono ?_); rintro e w' ⟨rfl, rfl⟩) | (go_at_call 47; (with_reducible refine (HW2.out _).mono ?_); rintro e w' ⟨rfl, rfl⟩)))
    all_goals
      obtain ⟨t0, t1, t2, t3, t4, hl2, hbF⟩ := five_all hbw zl c0 c1 c2 c3 c4 (.int .i64 33) (.int .i64 r1) (.int .i64 r1) (.int .i64 r2) (.int .i32 0)
      clear HR hbw zl c0 c1 c2 c3 c4 f0 f1 f2 f3 f4 five0 five1 five2 five3 five4 HFs HFo HFk HFj HW7 HW2
      generalize World.setCell _ ⟨w.heap.size, 4, none⟩ _ = wf at *
      have hnw : ∀ o j, (wf.alloc o).cell? ⟨w.heap.size, j, none⟩ = wf.cell? ⟨w.heap.size, j, none⟩ := fun o j => World.cell?_alloc_old _ _ _ (by show w.heap.size ≠ wf.heap.size; omega)
      go_wp2
      refine bodyPost_ret (v := .agg #[.int .i64 33, .int .i64 r1, .int .i64 r1, .int .i64 r2, .int .i32 0]) (by simp [results, Try.results49, go_sem, hnw, t0, t1, t2, t3, t4]; try rfl) rfl ⟨by rw [hq.out]; rfl, (by repeat' (first | (with_reducible exact Below.refl _ _) | (with_reducible assumption) | (with_reducible refine below_drewN ?_ _) | (with_reducible refine Below.alloc ?_ ?_ _) | (with_reducible refine Below.drew ?_) | (with_reducible refine Below.setCell ?_ ?_ _) | (with_reducible exact Below.size (by assumption)) | go_size))⟩
set_option maxRecDepth 100000 in
set_option maxHeartbeats 2000000 in
theorem sums2 (x : Int) (w : World) (h0 : 0 ≤ x) (h1 : x < 4294967296) (hc : fld x 10 2 = 3 ∧ fld x 12 1 = 0 ∧ fld x 5 2 = 2) :
    Calls Try.prog 49 #[.int .u32 x, .int .i32 (sN6 x)] w fun e w' => e = .returned (qSums x).val ∧ Below w.heap.size w w' := by
  have HFs := hid (show ∀ w, Calls Try.prog 46 #[.int .u32 x, .int .i64 6, .int .i64 2] w fun e w' => e = .returned (.int .i64 (fld x 2 5)) ∧ w = w' from fun w => field x 6 2 w h0 h1 (by omega) (by omega) (by omega))
  have HFo := hid (show ∀ w, Calls Try.prog 46 #[.int .u32 x, .int .i64 12, .int .i64 12] w fun e w' => e = .returned (.int .i64 (fld x 12 1)) ∧ w = w' from fun w => field x 12 12 w h0 h1 (by omega) (by omega) (by omega))
  have HFk := hid (show ∀ w, Calls Try.prog 46 #[.int .u32 x, .int .i64 11, .int .i64 10] w fun e w' => e = .returned (.int .i64 (fld x 10 2)) ∧ w = w' from fun w => field x 11 10 w h0 h1 (by omega) (by omega) (by omega))
  have HFj := hid (show ∀ w, Calls Try.prog 46 #[.int .u32 x, .int .i64 6, .int .i64 5] w fun e w' => e = .returned (.int .i64 (fld x 5 2)) ∧ w = w' from fun w => field x 6 5 w h0 h1 (by omega) (by omega) (by omega))
  have HW7 := hid (show ∀ w, Calls Try.prog 47 #[.int .u32 x, .int .i64 7] w fun e w' => e = .returned (.int .i64 (sR1 x)) ∧ w = w' from fun w => few x 7 w h0 h1 (by omega) (by omega))
  have HW2 := hid (show ∀ w, Calls Try.prog 47 #[.int .u32 x, .int .i64 2] w fun e w' => e = .returned (.int .i64 (sR2 x)) ∧ w = w' from fun w => few x 2 w h0 h1 (by omega) (by omega))
  have hk : 0 ≤ fld x 10 2 ∧ fld x 10 2 < 4 := fld_bd x 10 2
  have ho : 0 ≤ fld x 12 1 ∧ fld x 12 1 < 2 := fld_bd x 12 1
  have hs : 0 ≤ fld x 2 5 ∧ fld x 2 5 < 32 := fld_bd x 2 5
  have hj : 0 ≤ fld x 5 2 ∧ fld x 5 2 < 4 := fld_bd x 5 2
  have hq : Hid (qSums x = if fld x 10 2 = 2 then ⟨24, sR1 x, sR1 x, 0, sN6 x⟩ else if fld x 12 1 = 1 then .none else if fld x 10 2 = 0 then ⟨26, sR1 x, sR1 x, 0, fld x 2 5⟩ else if fld x 10 2 = 1 then ⟨27, sR1 x, sR1 x, 0, fld x 2 5⟩ else ⟨if fld x 5 2 = 0 then 29 else if fld x 5 2 = 1 then 33 else if fld x 5 2 = 2 then 36 else 37, sR1 x, sR1 x, sR2 x, 0⟩) := hid rfl
  generalize fld x 10 2 = k at *
  generalize fld x 12 1 = o at *
  generalize fld x 2 5 = s at *
  generalize fld x 5 2 = j at *
  generalize sN6 x = n at *
  generalize sR1 x = r1 at *
  generalize sR2 x = r2 at *
  obtain ⟨rfl, rfl, rfl⟩ := hc
  all_goals
    go_enter Try.func49, Try.ntmps49
    go_upto_region 1 with (fail)
    have HR := hid (Res.start w 23)
    generalize w.alloc (.cells #[.int .i64 0, .int .i64 0, .int .i64 0, .int .i64 0, .int .i32 0] 23) = w1 at *
    (try clear hbw zl c0 c1 c2 c3 c4 f0 f1 f2 f3 f4 five0 five1 five2 five3 five4); obtain ⟨hbw, zl, c0, c1, c2, c3, c4, f0, f1, f2, f3, f4⟩ := HR.out; obtain ⟨five0, five1, five2, five3, five4⟩ := S.five_ret c0 c1 c2 c3 c4
    go_wp2_with (first | (go_at_call 46; (with_reducible refine (HFs.out _).mono ?_); rintro e w' ⟨rfl, rfl⟩) | (go_at_call 46; (with_reducible refine (HFo.out _).mono ?_); rintro e w' ⟨rfl, rfl⟩) | (go_at_call 46; (with_reducible refine (HFk.out _).mono ?_); rintro e w' ⟨rfl, rfl⟩) | (go_at_call 46; (with_reducible refine (HFj.out _).mono ?_); rintro e w' ⟨rfl, rfl⟩) | (go_at_call 47; (with_reducible refine (HW7.out _).mono ?_); rintro e w' ⟨rfl, rfl⟩) | (go_at_call 47; (with_reducible refine (HW2.out _).mono ?_); rintro e w' ⟨rfl, rfl⟩))
    go_region_with ((first | (go_at_call 46; (with_reducible refine (HFs.out _).mono ?_); rintro e w' ⟨rfl, rfl⟩) | (go_at_call 46; (with_reducible refine (HFo.out _).mono ?_); rintro e w' ⟨rfl, rfl⟩) | (go_at_call 46; (with_reducible refine (HFk.out _).mono ?_); rintro e w' ⟨rfl, rfl⟩) | (go_at_call 46; (with_reducible refine (HFj.out _).mono ?_); rintro e w' ⟨rfl, rfl⟩) | (go_at_call 47; (with_reducible refine (HW7.out _).mono ?_); rintro e w' ⟨rfl, rfl⟩) | (go_at_call 47; (with_reducible refine (HW2.out _).mono ?_); rintro e w' ⟨rfl, rfl⟩)))
    all_goals
      obtain ⟨t0, t1, t2, t3, t4, hl2, hbF⟩ := five_all hbw zl c0 c1 c2 c3 c4 (.int .i64 36) (.int .i64 r1) (.int .i64 r1) (.int .i64 r2) (.int .i32 0)
      clear HR hbw zl c0 c1 c2 c3 c4 f0 f1 f2 f3 f4 five0 five1 five2 five3 five4 HFs HFo HFk HFj HW7 HW2
      generalize World.setCell _ ⟨w.heap.size, 4, none⟩ _ = wf at *
      have hnw : ∀ o j, (wf.alloc o).cell? ⟨w.heap.size, j, none⟩ = wf.cell? ⟨w.heap.size, j, none⟩ := fun o j => World.cell?_alloc_old _ _ _ (by show w.heap.size ≠ wf.heap.size; omega)
      go_wp2
      refine bodyPost_ret (v := .agg #[.int .i64 36, .int .i64 r1, .int .i64 r1, .int .i64 r2, .int .i32 0]) (by simp [results, Try.results49, go_sem, hnw, t0, t1, t2, t3, t4]; try rfl) rfl ⟨by rw [hq.out]; rfl, (by repeat' (first | (with_reducible exact Below.refl _ _) | (with_reducible assumption) | (with_reducible refine below_drewN ?_ _) | (with_reducible refine Below.alloc ?_ ?_ _) | (with_reducible refine Below.drew ?_) | (with_reducible refine Below.setCell ?_ ?_ _) | (with_reducible exact Below.size (by assumption)) | go_size))⟩
set_option maxRecDepth 100000 in
set_option maxHeartbeats 2000000 in
theorem sums3 (x : Int) (w : World) (h0 : 0 ≤ x) (h1 : x < 4294967296) (hc : fld x 10 2 = 3 ∧ fld x 12 1 = 0 ∧ fld x 5 2 = 3) :
    Calls Try.prog 49 #[.int .u32 x, .int .i32 (sN6 x)] w fun e w' => e = .returned (qSums x).val ∧ Below w.heap.size w w' := by
  have HFs := hid (show ∀ w, Calls Try.prog 46 #[.int .u32 x, .int .i64 6, .int .i64 2] w fun e w' => e = .returned (.int .i64 (fld x 2 5)) ∧ w = w' from fun w => field x 6 2 w h0 h1 (by omega) (by omega) (by omega))
  have HFo := hid (show ∀ w, Calls Try.prog 46 #[.int .u32 x, .int .i64 12, .int .i64 12] w fun e w' => e = .returned (.int .i64 (fld x 12 1)) ∧ w = w' from fun w => field x 12 12 w h0 h1 (by omega) (by omega) (by omega))
  have HFk := hid (show ∀ w, Calls Try.prog 46 #[.int .u32 x, .int .i64 11, .int .i64 10] w fun e w' => e = .returned (.int .i64 (fld x 10 2)) ∧ w = w' from fun w => field x 11 10 w h0 h1 (by omega) (by omega) (by omega))
  have HFj := hid (show ∀ w, Calls Try.prog 46 #[.int .u32 x, .int .i64 6, .int .i64 5] w fun e w' => e = .returned (.int .i64 (fld x 5 2)) ∧ w = w' from fun w => field x 6 5 w h0 h1 (by omega) (by omega) (by omega))
  have HW7 := hid (show ∀ w, Calls Try.prog 47 #[.int .u32 x, .int .i64 7] w fun e w' => e = .returned (.int .i64 (sR1 x)) ∧ w = w' from fun w => few x 7 w h0 h1 (by omega) (by omega))
  have HW2 := hid (show ∀ w, Calls Try.prog 47 #[.int .u32 x, .int .i64 2] w fun e w' => e = .returned (.int .i64 (sR2 x)) ∧ w = w' from fun w => few x 2 w h0 h1 (by omega) (by omega))
  have hk : 0 ≤ fld x 10 2 ∧ fld x 10 2 < 4 := fld_bd x 10 2
  have ho : 0 ≤ fld x 12 1 ∧ fld x 12 1 < 2 := fld_bd x 12 1
  have hs : 0 ≤ fld x 2 5 ∧ fld x 2 5 < 32 := fld_bd x 2 5
  have hj : 0 ≤ fld x 5 2 ∧ fld x 5 2 < 4 := fld_bd x 5 2
  have hq : Hid (qSums x = if fld x 10 2 = 2 then ⟨24, sR1 x, sR1 x, 0, sN6 x⟩ else if fld x 12 1 = 1 then .none else if fld x 10 2 = 0 then ⟨26, sR1 x, sR1 x, 0, fld x 2 5⟩ else if fld x 10 2 = 1 then ⟨27, sR1 x, sR1 x, 0, fld x 2 5⟩ else ⟨if fld x 5 2 = 0 then 29 else if fld x 5 2 = 1 then 33 else if fld x 5 2 = 2 then 36 else 37, sR1 x, sR1 x, sR2 x, 0⟩) := hid rfl
  generalize fld x 10 2 = k at *
  generalize fld x 12 1 = o at *
  generalize fld x 2 5 = s at *
  generalize fld x 5 2 = j at *
  generalize sN6 x = n at *
  generalize sR1 x = r1 at *
  generalize sR2 x = r2 at *
  obtain ⟨rfl, rfl, rfl⟩ := hc
  all_goals
    go_enter Try.func49, Try.ntmps49
    go_upto_region 1 with (fail)
    have HR := hid (Res.start w 23)
    generalize w.alloc (.cells #[.int .i64 0, .int .i64 0, .int .i64 0, .int .i64 0, .int .i32 0] 23) = w1 at *
    (try clear hbw zl c0 c1 c2 c3 c4 f0 f1 f2 f3 f4 five0 five1 five2 five3 five4); obtain ⟨hbw, zl, c0, c1, c2, c3, c4, f0, f1, f2, f3, f4⟩ := HR.out; obtain ⟨five0, five1, five2, five3, five4⟩ := S.five_ret c0 c1 c2 c3 c4
    go_wp2_with (first | (go_at_call 46; (with_reducible refine (HFs.out _).mono ?_); rintro e w' ⟨rfl, rfl⟩) | (go_at_call 46; (with_reducible refine (HFo.out _).mono ?_); rintro e w' ⟨rfl, rfl⟩) | (go_at_call 46; (with_reducible refine (HFk.out _).mono ?_); rintro e w' ⟨rfl, rfl⟩) | (go_at_call 46; (with_reducible refine (HFj.out _).mono ?_); rintro e w' ⟨rfl, rfl⟩) | (go_at_call 47; (with_reducible refine (HW7.out _).mono ?_); rintro e w' ⟨rfl, rfl⟩) | (go_at_call 47; (with_reducible refine (HW2.out _).mono ?_); rintro e w' ⟨rfl, rfl⟩))
    go_region_with ((first | (go_at_call 46; (with_reducible refine (HFs.out _).mono ?_); rintro e w' ⟨rfl, rfl⟩) | (go_at_call 46; (with_reducible refine (HFo.out _).mono ?_); rintro e w' ⟨rfl, rfl⟩) | (go_at_call 46; (with_reducible refine (HFk.out _).mono ?_); rintro e w' ⟨rfl, rfl⟩) | (go_at_call 46; (with_reducible refine (HFj.out _).mono ?_); rintro e w' ⟨rfl, rfl⟩) | (go_at_call 47; (with_reducible refine (HW7.out _).mono ?_); rintro e w' ⟨rfl, rfl⟩) | (go_at_call 47; (with_reducible refine (HW2.out _).mono ?_); rintro e w' ⟨rfl, rfl⟩)))
    all_goals
      obtain ⟨t0, t1, t2, t3, t4, hl2, hbF⟩ := five_all hbw zl c0 c1 c2 c3 c4 (.int .i64 37) (.int .i64 r1) (.int .i64 r1) (.int .i64 r2) (.int .i32 0)
      clear HR hbw zl c0 c1 c2 c3 c4 f0 f1 f2 f3 f4 five0 five1 five2 five3 five4 HFs HFo HFk HFj HW7 HW2
      generalize World.setCell _ ⟨w.heap.size, 4, none⟩ _ = wf at *
      have hnw : ∀ o j, (wf.alloc o).cell? ⟨w.heap.size, j, none⟩ = wf.cell? ⟨w.heap.size, j, none⟩ := fun o j => World.cell?_alloc_old _ _ _ (by show w.heap.size ≠ wf.heap.size; omega)
      go_wp2
      refine bodyPost_ret (v := .agg #[.int .i64 37, .int .i64 r1, .int .i64 r1, .int .i64 r2, .int .i32 0]) (by simp [results, Try.results49, go_sem, hnw, t0, t1, t2, t3, t4]; try rfl) rfl ⟨by rw [hq.out]; rfl, (by repeat' (first | (with_reducible exact Below.refl _ _) | (with_reducible assumption) | (with_reducible refine below_drewN ?_ _) | (with_reducible refine Below.alloc ?_ ?_ _) | (with_reducible refine Below.drew ?_) | (with_reducible refine Below.setCell ?_ ?_ _) | (with_reducible exact Below.size (by assumption)) | go_size))⟩
set_option maxHeartbeats 400000 in
theorem sums (x : Int) (w : World) (h0 : 0 ≤ x) (h1 : x < 4294967296) :
    Calls Try.prog 49 #[.int .u32 x, .int .i32 (sN6 x)] w fun e w' => e = .returned (qSums x).val ∧ Below w.heap.size w w' := by
  have hj : 0 ≤ fld x 5 2 ∧ fld x 5 2 < 4 := fld_bd x 5 2
  by_cases hne : fld x 10 2 = 3 ∧ fld x 12 1 = 0
  · have h : fld x 5 2 = 0 ∨ fld x 5 2 = 1 ∨ fld x 5 2 = 2 ∨ fld x 5 2 = 3 := by omega
    rcases h with h | h | h | h
    · exact sums0 x w h0 h1 ⟨hne.1, hne.2, h⟩
    · exact sums1 x w h0 h1 ⟨hne.1, hne.2, h⟩
    · exact sums2 x w h0 h1 ⟨hne.1, hne.2, h⟩
    · exact sums3 x w h0 h1 ⟨hne.1, hne.2, h⟩
  · exact sumsA x w h0 h1 hne
end Go.Proofs.Ytfecjdchgckjhaa.R5

namespace Go.Proofs.Ytfecjdchgckjhaa.R5
set_option linter.unusedVariables false
set_option linter.unusedSimpArgs false
open Go.ChangeShapes Go.WideShapes Go.ChangeAt Go.RowKit Go.Proofs.Ytfecjdchgckjhaa.P Go.Proofs.Ytfecjdchgckjhaa.W Go.Proofs.Ytfecjdchgckjhaa.O Go.Proofs.Ytfecjdchgckjhaa.R4

set_option maxRecDepth 100000 in
set_option maxHeartbeats 2000000 in
theorem quarter1 (x : Int) (w : World) (h0 : 0 ≤ x) (h1 : x < 4294967296) :
    Calls Try.prog 31 #[.int .u32 x] w fun e w' => e = .returned (q1 x).val ∧ Below w.heap.size w w' := by
  have HBN6 := hid (fun v B w => bits_N6 x v B w h0 h1)
  have HBJ := hid (fun v B w => bits_J x v B w h0 h1)
  have HBB := hid (fun v B w => bits_B x v B w h0 h1)
  have HBA := hid (fun v B w => bits_A x v B w h0 h1)
  have HFd := hid (show ∀ w, Calls Try.prog 46 #[.int .u32 x, .int .i64 11, .int .i64 7] w fun e w' => e = .returned (.int .i64 (fld x 7 5)) ∧ w = w' from fun w => field x 11 7 w h0 h1 (by omega) (by omega) (by omega))
  have HFf := hid (show ∀ w, Calls Try.prog 46 #[.int .u32 x, .int .i64 15, .int .i64 13] w fun e w' => e = .returned (.int .i64 (fld x 13 3)) ∧ w = w' from fun w => field x 15 13 w h0 h1 (by omega) (by omega) (by omega))
  have HW7 := hid (show ∀ w, Calls Try.prog 47 #[.int .u32 x, .int .i64 7] w fun e w' => e = .returned (.int .i64 (sR1 x)) ∧ w = w' from fun w => few x 7 w h0 h1 (by omega) (by omega))
  have HS := hid (show ∀ w, Calls Try.prog 49 #[.int .u32 x, .int .i32 (sN6 x)] w fun e w' => e = .returned (.agg #[.int .i64 (qSums x).op, .int .i64 (qSums x).rd, .int .i64 (qSums x).rs1, .int .i64 (qSums x).rs2, .int .i32 (qSums x).imm]) ∧ Below w.heap.size w w' from fun w => sums x w h0 h1)
  have hn := sN6_bd x
  have hf : 0 ≤ fld x 13 3 ∧ fld x 13 3 < 8 := fld_bd x 13 3
  have hq : Hid (q1 x = if fld x 13 3 = 0 then ⟨19, fld x 7 5, fld x 7 5, 0, sN6 x⟩ else if fld x 13 3 = 1 then ⟨3, 1, 0, 0, sJ x⟩ else if fld x 13 3 = 2 then ⟨19, fld x 7 5, 0, 0, sN6 x⟩ else if fld x 13 3 = 3 then (if sN6 x = 0 then .none else if fld x 7 5 = 2 then ⟨19, 2, 2, 0, sA x⟩ else ⟨1, fld x 7 5, 0, 0, sN6 x * 4096⟩) else if fld x 13 3 = 4 then qSums x else if fld x 13 3 = 5 then ⟨3, 0, 0, 0, sJ x⟩ else if fld x 13 3 = 6 then ⟨5, 0, sR1 x, 0, sB x⟩ else ⟨6, 0, sR1 x, 0, sB x⟩) := hid rfl
  generalize fld x 13 3 = f at *
  generalize fld x 7 5 = d at *
  generalize sN6 x = n at *
  generalize sJ x = j at *
  generalize sB x = bb at *
  generalize sA x = aa at *
  generalize sR1 x = r1 at *
  have hc : (f = 0) ∨ (f = 1) ∨ (f = 2) ∨ (f = 3 ∧ n = 0) ∨ (f = 3 ∧ d = 2 ∧ (n == 0) = false ∧ (n != 0) = true) ∨ (f = 3 ∧ (n == 0) = false ∧ (n != 0) = true ∧ (d == 2) = false ∧ (d != 2) = true) ∨ (f = 4) ∨ (f = 5) ∨ (f = 6) ∨ (f = 7) := by first | omega | (simp only [bne_iff_ne, beq_eq_false_iff_ne, ne_eq]; omega)
  rcases hc with rfl | rfl | rfl | ⟨rfl, rfl⟩ | ⟨rfl, rfl, k0, k1⟩ | ⟨rfl, k0, k1, k2, k3⟩ | rfl | rfl | rfl | rfl
  all_goals
    go_enter Try.func31, Try.ntmps31
    go_upto_region 1 with (fail)
    have HR := hid (Res.start w 23)
    generalize w.alloc (.cells #[.int .i64 0, .int .i64 0, .int .i64 0, .int .i64 0, .int .i32 0] 23) = w1 at *
    go_wp2_with (first | (go_at_call 45; (with_reducible refine (R5.list_N6 _).mono ?_); rintro e w' ⟨v, rfl, hi, hb⟩; replace HR := hid (Res.lit HR.out hb); clear hb) | (go_at_call 45; (with_reducible refine (R5.list_J _).mono ?_); rintro e w' ⟨v, rfl, hi, hb⟩; replace HR := hid (Res.lit HR.out hb); clear hb) | (go_at_call 45; (with_reducible refine (R5.list_B _).mono ?_); rintro e w' ⟨v, rfl, hi, hb⟩; replace HR := hid (Res.lit HR.out hb); clear hb; (try clear hbw zl c0 c1 c2 c3 c4 f0 f1 f2 f3 f4 five0 five1 five2 five3 five4); obtain ⟨hbw, zl, c0, c1, c2, c3, c4, f0, f1, f2, f3, f4⟩ := HR.out; obtain ⟨five0, five1, five2, five3, five4⟩ := S.five_ret c0 c1 c2 c3 c4) | (go_at_call 45; (with_reducible refine (R5.list_A _).mono ?_); rintro e w' ⟨v, rfl, hi, hb⟩; replace HR := hid (Res.lit HR.out hb); clear hb; (try clear hbw zl c0 c1 c2 c3 c4 f0 f1 f2 f3 f4 five0 five1 five2 five3 five4); obtain ⟨hbw, zl, c0, c1, c2, c3, c4, f0, f1, f2, f3, f4⟩ := HR.out; obtain ⟨five0, five1, five2, five3, five4⟩ := S.five_ret c0 c1 c2 c3 c4) | (go_at_call 48; (with_reducible refine (HBN6.out _ _ _ hi).mono ?_); rintro e w' ⟨rfl, rfl⟩; clear hi) | (go_at_call 48; (with_reducible refine (HBJ.out _ _ _ hi).mono ?_); rintro e w' ⟨rfl, rfl⟩; clear hi) | (go_at_call 48; (with_reducible refine (HBB.out _ _ _ hi).mono ?_); rintro e w' ⟨rfl, rfl⟩; clear hi) | (go_at_call 48; (with_reducible refine (HBA.out _ _ _ hi).mono ?_); rintro e w' ⟨rfl, rfl⟩; clear hi) | (go_at_call 46; (with_reducible refine (HFd.out _).mono ?_); rintro e w' ⟨rfl, rfl⟩) | (go_at_call 46; (with_reducible refine (HFf.out _).mono ?_); rintro e w' ⟨rfl, rfl⟩) | (go_at_call 47; (with_reducible refine (HW7.out _).mono ?_); rintro e w' ⟨rfl, rfl⟩) | (go_at_call 49; (with_reducible refine (HS.out _).mono ?_); rintro e w' ⟨rfl, hb⟩; replace HR := hid (Res.call HR.out hb); clear hb; (try clear hbw zl c0 c1 c2 c3 c4 f0 f1 f2 f3 f4 five0 five1 five2 five3 five4); obtain ⟨hbw, zl, c0, c1, c2, c3, c4, f0, f1, f2, f3, f4⟩ := HR.out; obtain ⟨five0, five1, five2, five3, five4⟩ := S.five_ret c0 c1 c2 c3 c4))
    all_goals (refine bodyPost_ret (by simp [results, Try.results31, go_sem, five0, five1, five2, five3, five4]; try rfl) rfl ?_)
    all_goals refine ⟨?_, (by repeat' (first | (with_reducible exact Below.refl _ _) | (with_reducible assumption) | (with_reducible refine below_drewN ?_ _) | (with_reducible refine Below.alloc ?_ ?_ _) | (with_reducible refine Below.drew ?_) | (with_reducible refine Below.setCell ?_ ?_ _) | (with_reducible exact Below.size (by assumption)) | go_size))⟩
    all_goals rw [hq.out]
    all_goals clear HR HBN6 HBJ HBB HBA HFd HFf HW7 HS hq hbw zl c0 c1 c2 c3 c4 f0 f1 f2 f3 f4 five0 five1 five2 five3 five4
    all_goals simp_all [I5.val, I5.none]
end Go.Proofs.Ytfecjdchgckjhaa.R5

namespace Go.Proofs.Ytfecjdchgckjhaa.R5
set_option linter.unusedVariables false
set_option linter.unusedSimpArgs false
open Go.ChangeShapes Go.WideShapes Go.ChangeAt Go.RowKit Go.Proofs.Ytfecjdchgckjhaa.P Go.Proofs.Ytfecjdchgckjhaa.W Go.Proofs.Ytfecjdchgckjhaa.O Go.Proofs.Ytfecjdchgckjhaa.R4

set_option maxRecDepth 100000 in
set_option maxHeartbeats 2000000 in
theorem quarter2 (x : Int) (w : World) (h0 : 0 ≤ x) (h1 : x < 4294967296) :
    Calls Try.prog 32 #[.int .u32 x] w fun e w' => e = .returned (q2 x).val ∧ Below w.heap.size w w' := by
  have HBL := hid (fun v B w => plain_L x v B w h0 h1)
  have HBS := hid (fun v B w => plain_S x v B w h0 h1)
  have HFd := hid (show ∀ w, Calls Try.prog 46 #[.int .u32 x, .int .i64 11, .int .i64 7] w fun e w' => e = .returned (.int .i64 (fld x 7 5)) ∧ w = w' from fun w => field x 11 7 w h0 h1 (by omega) (by omega) (by omega))
  have HFs := hid (show ∀ w, Calls Try.prog 46 #[.int .u32 x, .int .i64 6, .int .i64 2] w fun e w' => e = .returned (.int .i64 (fld x 2 5)) ∧ w = w' from fun w => field x 6 2 w h0 h1 (by omega) (by omega) (by omega))
  have HFo := hid (show ∀ w, Calls Try.prog 46 #[.int .u32 x, .int .i64 12, .int .i64 12] w fun e w' => e = .returned (.int .i64 (fld x 12 1)) ∧ w = w' from fun w => field x 12 12 w h0 h1 (by omega) (by omega) (by omega))
  have HFf := hid (show ∀ w, Calls Try.prog 46 #[.int .u32 x, .int .i64 15, .int .i64 13] w fun e w' => e = .returned (.int .i64 (fld x 13 3)) ∧ w = w' from fun w => field x 15 13 w h0 h1 (by omega) (by omega) (by omega))
  have hf : 0 ≤ fld x 13 3 ∧ fld x 13 3 < 8 := fld_bd x 13 3
  have ho : 0 ≤ fld x 12 1 ∧ fld x 12 1 < 2 := fld_bd x 12 1
  have hs : 0 ≤ fld x 2 5 ∧ fld x 2 5 < 32 := fld_bd x 2 5
  have hq : Hid (q2 x = if fld x 13 3 = 0 then (if fld x 12 1 = 0 then ⟨25, fld x 7 5, fld x 7 5, 0, fld x 2 5⟩ else .none) else if fld x 13 3 = 2 then (if fld x 7 5 = 0 then .none else ⟨13, fld x 7 5, 2, 0, sL x⟩) else if fld x 13 3 = 4 then (if fld x 2 5 ≠ 0 then ⟨28, fld x 7 5, if fld x 12 1 = 0 then 0 else fld x 7 5, fld x 2 5, 0⟩ else if fld x 7 5 ≠ 0 then ⟨4, fld x 12 1, fld x 7 5, 0, 0⟩ else if fld x 12 1 = 1 then ⟨40, 0, 0, 0, 0⟩ else .none) else if fld x 13 3 = 6 then ⟨18, 0, 2, fld x 2 5, sS x⟩ else .none) := hid rfl
  generalize fld x 13 3 = f at *
  generalize fld x 7 5 = d at *
  generalize fld x 2 5 = s at *
  generalize fld x 12 1 = o at *
  generalize sL x = vl at *
  generalize sS x = vs at *
  have hc : (f = 0 ∧ o = 0) ∨ (f = 0 ∧ o = 1) ∨ (f = 2 ∧ d = 0) ∨ (f = 2 ∧ (d == 0) = false ∧ (d != 0) = true) ∨ (f = 6) ∨ (f = 4 ∧ o = 0 ∧ (s == 0) = false ∧ (s != 0) = true) ∨ (f = 4 ∧ o = 1 ∧ (s == 0) = false ∧ (s != 0) = true) ∨ (f = 4 ∧ o = 0 ∧ s = 0 ∧ (d == 0) = false ∧ (d != 0) = true) ∨ (f = 4 ∧ o = 1 ∧ s = 0 ∧ (d == 0) = false ∧ (d != 0) = true) ∨ (f = 4 ∧ o = 0 ∧ s = 0 ∧ d = 0) ∨ (f = 4 ∧ o = 1 ∧ s = 0 ∧ d = 0) ∨ ((f == 0) = false ∧ (f != 0) = true ∧ (f == 2) = false ∧ (f != 2) = true ∧ (f == 6) = false ∧ (f != 6) = true ∧ (f == 4) = false ∧ (f != 4) = true) := by first | omega | (simp only [bne_iff_ne, beq_eq_false_iff_ne, ne_eq]; omega)
  rcases hc with ⟨rfl, rfl⟩ | ⟨rfl, rfl⟩ | ⟨rfl, rfl⟩ | ⟨rfl, k0, k1⟩ | rfl | ⟨rfl, rfl, k0, k1⟩ | ⟨rfl, rfl, k0, k1⟩ | ⟨rfl, rfl, rfl, k0, k1⟩ | ⟨rfl, rfl, rfl, k0, k1⟩ | ⟨rfl, rfl, rfl, rfl⟩ | ⟨rfl, rfl, rfl, rfl⟩ | ⟨k0, k1, k2, k3, k4, k5, k6, k7⟩
  all_goals
    go_enter Try.func32, Try.ntmps32
    go_upto_region 1 with (fail)
    have HR := hid (Res.start w 23)
    generalize w.alloc (.cells #[.int .i64 0, .int .i64 0, .int .i64 0, .int .i64 0, .int .i32 0] 23) = w1 at *
    (try clear hbw zl c0 c1 c2 c3 c4 f0 f1 f2 f3 f4 five0 five1 five2 five3 five4); obtain ⟨hbw, zl, c0, c1, c2, c3, c4, f0, f1, f2, f3, f4⟩ := HR.out; obtain ⟨five0, five1, five2, five3, five4⟩ := S.five_ret c0 c1 c2 c3 c4
    go_wp2_with (first | (go_at_call 45; (with_reducible refine (R5.list_L _).mono ?_); rintro e w' ⟨v, rfl, hi, hb⟩; replace HR := hid (Res.lit HR.out hb); clear hb) | (go_at_call 45; (with_reducible refine (R5.list_S _).mono ?_); rintro e w' ⟨v, rfl, hi, hb⟩; replace HR := hid (Res.lit HR.out hb); clear hb) | (go_at_call 44; (with_reducible refine (HBL.out _ _ _ hi).mono ?_); rintro e w' ⟨rfl, hb⟩; replace HR := hid (Res.call HR.out hb); clear hb hi; (try clear hbw zl c0 c1 c2 c3 c4 f0 f1 f2 f3 f4 five0 five1 five2 five3 five4); obtain ⟨hbw, zl, c0, c1, c2, c3, c4, f0, f1, f2, f3, f4⟩ := HR.out; obtain ⟨five0, five1, five2, five3, five4⟩ := S.five_ret c0 c1 c2 c3 c4) | (go_at_call 44; (with_reducible refine (HBS.out _ _ _ hi).mono ?_); rintro e w' ⟨rfl, hb⟩; replace HR := hid (Res.call HR.out hb); clear hb hi; (try clear hbw zl c0 c1 c2 c3 c4 f0 f1 f2 f3 f4 five0 five1 five2 five3 five4); obtain ⟨hbw, zl, c0, c1, c2, c3, c4, f0, f1, f2, f3, f4⟩ := HR.out; obtain ⟨five0, five1, five2, five3, five4⟩ := S.five_ret c0 c1 c2 c3 c4) | (go_at_call 46; (with_reducible refine (HFd.out _).mono ?_); rintro e w' ⟨rfl, rfl⟩) | (go_at_call 46; (with_reducible refine (HFs.out _).mono ?_); rintro e w' ⟨rfl, rfl⟩) | (go_at_call 46; (with_reducible refine (HFo.out _).mono ?_); rintro e w' ⟨rfl, rfl⟩) | (go_at_call 46; (with_reducible refine (HFf.out _).mono ?_); rintro e w' ⟨rfl, rfl⟩))
    all_goals (refine bodyPost_ret (by simp [results, Try.results32, go_sem, five0, five1, five2, five3, five4]; try rfl) rfl ?_)
    all_goals refine ⟨?_, (by repeat' (first | (with_reducible exact Below.refl _ _) | (with_reducible assumption) | (with_reducible refine below_drewN ?_ _) | (with_reducible refine Below.alloc ?_ ?_ _) | (with_reducible refine Below.drew ?_) | (with_reducible refine Below.setCell ?_ ?_ _) | (with_reducible exact Below.size (by assumption)) | go_size))⟩
    all_goals rw [hq.out]
    all_goals clear HR HBL HBS HFd HFs HFo HFf hq hbw zl c0 c1 c2 c3 c4 f0 f1 f2 f3 f4 five0 five1 five2 five3 five4
    all_goals simp_all [I5.val, I5.none]
end Go.Proofs.Ytfecjdchgckjhaa.R5
