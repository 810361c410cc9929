/- What the functions of package typecaseref05 compute: lists of bits, fields, numbers. -/
import Derived.Test.YtfecjdchgckjhaaRef04
import Derived.Test.YtfecjdchgckjhaaSlimP
import Derived.Test.YtfecjdchgckjhaaCells
namespace Go.Proofs.Ytfecjdchgckjhaa.R5
set_option linter.unusedVariables false
set_option linter.unusedSimpArgs false
open Go.ChangeShapes Go.WideShapes Go.ChangeAt Go.RowKit Go.Proofs.Ytfecjdchgckjhaa.P Go.Proofs.Ytfecjdchgckjhaa.W Go.Proofs.Ytfecjdchgckjhaa.O Go.Proofs.Ytfecjdchgckjhaa.R4

theorem lit_at (w : World) (l : List Int) (arr : Array Value) (hl : arr.toList = l.map (Value.int .i64)) (hm : l.length ≤ maxLen) :
    IntsAt (w.alloc (.cells arr 3)) w.heap.size (.slice (some ⟨w.heap.size, 0, none⟩) l.length l.length) l :=
  ⟨by simp, .inr ⟨w.heap.size, l.length, arr, rfl, Nat.le_refl _, heap_alloc_new w _, Nat.le_refl _, hm, (by have := congrArg List.length hl; simpa using this), (by rw [hl, List.take_of_length_le (by simp)])⟩⟩

/-- 'append(a, b...)': a on top of the stack, b anywhere -/
theorem app2 {ops : Array Oper} {rest : List Oper} {o : Oper} {a : Act} {Q : Exit → Act → World → Prop} {w0 w : World} {L : List (Value × List Int)} {v1 v2 : Value} {l1 l2 : List Int} {B2 : Nat}
    (hgd : o.guard = none) (s x : Operand) (ho : o.op = .call { callee := .builtin .append, args := #[s, x], argTypes := #[46, 46] })
    (hs : a.eval s = v1) (hx : a.eval x = v2) (H : Stack w0 w ((v1, l1) :: L)) (H2 : IntsAt w B2 v2 l2) (hne : l2 ≠ []) (hlen : l1.length + l2.length ≤ 1000000)
    (h : ∀ v' w', Stack w0 w' ((v', l1 ++ l2) :: L) → wpList Try.prog ops Q rest (a.put o.dst v') w') : wpList Try.prog ops Q (o :: rest) a w := by
  obtain ⟨i0, hi, hz0, hz1, hz2⟩ := info_parts infoInt
  have H1 : IntsAt w w0.heap.size v1 l1 := H.2.1 (v1, l1) (by simp)
  obtain ⟨g, cap, rfl, hbg, hgl, hlc, hcm, hcell⟩ := IntsAt.form H2 hne
  refine wpList_append_own_at w hgd s x 46 ho w0.heap.size 3 i0 (.int .i64 0) 1 8 Try.underlying46 hi hz0 hz1 hz2 rfl (by decide) v1 l1.length (l1.map (Value.int .i64)) hs H1
    ⟨g, 0, none⟩ l2.length cap (l2.map (Value.int .i64)) hx (by simp) ?_ ?_ (by unfold maxLen; omega) (by omega) H.1.size ?_
  · intro j u hu
    have hadd : (⟨g, 0, none⟩ : Addr).add j = ⟨g, j, none⟩ := by unfold Addr.add; split <;> simp_all
    rw [hadd]
    have hj : j < l2.length := by
      have := (List.getElem?_eq_some_iff.1 hu).1; simpa using this
    rw [hcell j hj]
    simp [List.getD, hj] at hu ⊢
    exact hu
  · intro u hu
    simp at hu
    obtain ⟨k, _, rfl⟩ := hu
    rfl
  · intro v' w' hown hgrow _ hat
    refine h v' w' ⟨?_, ?_, ?_⟩
    · exact Below.grown H.1 hgrow H.1.size (fun k hk => (IntsAt.lt H1 k hk).1)
    · intro p hp
      rcases List.mem_cons.1 hp with rfl | hp
      · show w'.ownsRow _ _ _ _ _ _
        rw [List.length_append, List.map_append]
        exact hown
      · have hpw := List.pairwise_cons.1 H.2.2
        have hpp := H.2.1 p (by simp [hp])
        refine hpp.kept hgrow ?_
        rcases hpw.1 p hp with h1 | h1 | h1
        · by_cases hq : p.1.ownBlock = none
          · exact .inl hq
          · exact .inr (fun e => hq (e.trans h1))
        · exact .inl h1
        · exact .inr (fun e => h1 e.symm)
    · have hpw := List.pairwise_cons.1 H.2.2
      refine List.Pairwise.cons (fun q hq => ?_) hpw.2
      have hqq := H.2.1 q (by simp [hq])
      rcases hat with e | e
      · show v'.ownBlock = none ∨ _ ∨ v'.ownBlock ≠ _
        rw [e]; exact hpw.1 q hq
      · cases hw : q.1.ownBlock with
        | none => exact .inr (.inl rfl)
        | some b =>
          have h2 := hqq.lt b hw
          refine .inr (.inr ?_)
          show v'.ownBlock ≠ _
          rw [e]
          intro e2
          injection e2 with e2
          omega

theorem no_snoc (n : Nat) : no (n + 1) = no n ++ [-1] := by unfold no; rw [List.replicate_succ']
theorem list (n : Nat) (v : Value) (l : List Int) (B : Nat) (w : World) (H : IntsAt w B v l) (hne : l ≠ []) (hn : n ≤ 100) (hl : l.length ≤ 100) :
    Calls Try.prog 45 #[.int .i64 n, v] w (Gives w (l ++ no n)) := by
  go_enter Try.func45, Try.ntmps45
  go_wp2_with (first | (at_builtin; refine app2 rfl _ _ rfl rfl rfl ((Stack.start w).lit [] _ _ rfl rfl (by decide)) (H.below ((Below.refl _ _).alloc (Nat.le_refl _) _)) hne (by simp; omega) ?_; intro v1 w1 hst1))
  replace hst1 : Stack w w1 [(v1, l ++ no 0)] := by simpa [no] using hst1
  go_loopw [5, 6] (fun v i wr => ∃ k : Nat, k ≤ n ∧ i = .int .i64 k ∧ Stack w wr [(v, l ++ no k)]) (fun _ i _ => n - (intOf i).toNat)
  case atStart => exact ⟨0, by omega, rfl, hst1⟩
  case round =>
    obtain ⟨k, hk, rfl, hst⟩ := hrel
    clear hst1
    have HL := hid (show (l ++ no k).length ≤ 200 by rw [List.length_append, no_length]; omega)
    by_cases hs : k < n
    · have HN := hid (no_snoc k)
      go_wp2_with (first | (at_builtin; refine app rfl _ _ rfl rfl rfl (hst.lit [-1] _ _ rfl rfl (by simp [maxLen])) (by simp) (by have := HL.out; simp at this ⊢; omega) ?_; intro v2 w2 hst2))
      go_roundw
      case rel => exact ⟨k + 1, by omega, by go_num, by rw [HN.out, ← List.append_assoc]; exact hst2⟩
      case measure => simp [intOf]; omega
    · obtain rfl : k = n := by omega
      go_wp2
      go_ret
      exact ⟨_, rfl, hst.top, hst.bel⟩

theorem plain (x : Int) (v : Value) (l : List Int) (B : Nat) (w : World) (h0 : 0 ≤ x) (h1 : x < 4294967296) (H : IntsAt w B v l) (hne : l ≠ []) (hlen : l.length ≤ 30) :
    Calls Try.prog 44 #[.int .u32 x, v] w fun e w' => e = .returned (.int .i32 (bitsV x l)) ∧ Below w.heap.size w w' := by
  have hb := bitsV_bd x l
  have hp : (2 : Int) ^ l.length ≤ 2 ^ 30 := p2le hlen
  have hv : sgn (bitsV x ([-1] ++ l)) ([-1] ++ l).length = bitsV x l := by
    have e : bitsV x ([-1] ++ l) = bitsV x l := by rw [bitsV_append]; simp [bitsV, bi]
    have e2 : ([-1] ++ l).length = l.length + 1 := by simp
    rw [e, e2]
    unfold sgn
    rw [p2succ, Int.emod_eq_of_lt hb.1 (by omega)]
    split <;> omega
  have HV := hid hv
  clear hv hp
  generalize bitsV x l = r at *
  go_enter Try.func44, Try.ntmps44
  go_wp2_with (first | (at_builtin; refine app2 rfl _ _ rfl rfl rfl ((Stack.start w).lit [-1] _ _ rfl rfl (by decide)) (H.below ((Below.refl _ _).alloc (Nat.le_refl _) _)) hne (by simp; omega) ?_; intro v1 w1 hst1))
  go_wp2_with fail
  refine (Bits _ _ _ _ _ h0 h1 hst1.top (by simp) (by simp; try omega)).mono ?_
  rintro e w' ⟨rfl, rfl⟩
  rw [HV.out]
  go_wp2
  go_ret
  exact ⟨rfl, hst1.bel⟩

theorem field (x h l : Int) (w : World) (h0 : 0 ≤ x) (h1 : x < 4294967296) (hl0 : 0 ≤ l) (hl1 : l ≤ h) (hh : h ≤ 31) :
    Calls Try.prog 46 #[.int .u32 x, .int .i64 h, .int .i64 l] w fun e w' => e = .returned (.int .i64 (fld x l.toNat (h - l + 1).toNat)) ∧ w = w' := by
  have hf := fld_lt32 x l.toNat (b := (h - l + 1).toNat) (by omega)
  have e : held (h - l + 1) = (h - l + 1).toNat := by unfold held; omega
  have e2 : max l 0 = l := by omega
  have hw : ∀ w, Calls Try.prog 58 #[.int .u32 x, .int .i64 l, .int .i64 (h - l + 1)] w fun e w' => e = .returned (.int .u32 (fld x l.toNat (h - l + 1).toNat)) ∧ w = w' := by
    intro w
    have := R1.Field x l (h - l + 1) w h0 h1
    rw [e, e2] at this; exact this
  have HW := hid hw
  clear e e2 hw
  generalize fld x l.toNat (h - l + 1).toNat = r at *
  go_enter Try.func46, Try.ntmps46
  go_wp2_with (go_at_call 58; refine (HW.out _).mono ?_; rintro e w' ⟨rfl, rfl⟩)
  go_ret
  exact ⟨rfl, rfl⟩
theorem few (x l : Int) (w : World) (h0 : 0 ≤ x) (h1 : x < 4294967296) (hl0 : 0 ≤ l) (hl1 : l ≤ 29) :
    Calls Try.prog 47 #[.int .u32 x, .int .i64 l] w fun e w' => e = .returned (.int .i64 (8 + fld x l.toNat 3)) ∧ w = w' := by
  have hb : 0 ≤ fld x l.toNat 3 ∧ fld x l.toNat 3 < 8 := fld_bd x _ 3
  have hw : ∀ w, Calls Try.prog 46 #[.int .u32 x, .int .i64 (l + 2), .int .i64 l] w fun e w' => e = .returned (.int .i64 (fld x l.toNat 3)) ∧ w = w' := by
    intro w
    have := field x (l + 2) l w h0 h1 hl0 (by omega) (by omega)
    have e : (l + 2 - l + 1).toNat = 3 := by omega
    rw [e] at this; exact this
  have HW := hid hw
  clear hw
  generalize fld x l.toNat 3 = r at *
  go_enter Try.func47, Try.ntmps47
  go_wp2_with (go_at_call 46; refine (HW.out _).mono ?_; rintro e w' ⟨rfl, rfl⟩)
  go_ret
  exact ⟨rfl, rfl⟩
end Go.Proofs.Ytfecjdchgckjhaa.R5
