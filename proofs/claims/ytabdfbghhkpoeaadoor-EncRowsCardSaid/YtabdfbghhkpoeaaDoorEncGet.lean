/- What enc.Get and typecaseref08.Get come to: both the same. -/
import Derived.Test.YtabdfbghhkpoeaaDoorEncFit
import Derived.Test.YtabdfbghhkpoeaaDoorEnc7
import Derived.Test.YtabdfbghhkpoeaaDoorEnc9
import Derived.Test.YtabdfbghhkpoeaaDoorRef08f
import Derived.Deep.Cut
namespace Go.Proofs.YtabdfbghhkpoeaaDoor.P
set_option linter.unusedVariables false
set_option linter.unusedSimpArgs false
open Go Go.RowKit

/-- is a word that of an instruction? -/
def getB (x : Int) : Bool := !(opN x == 0) && encW (opN x) (dRd x) (dRs1 x) (dRs2 x) (dImm x) == x
theorem getB_code {x : Int} (h : getB x = true) : opN x ≠ 0 ∧ encW (opN x) (dRd x) (dRs1 x) (dRs2 x) (dImm x) = x := by
  unfold getB at h
  simpa using h
theorem getB_fit {x : Int} (h0 : 0 ≤ x) (h1 : x < 4294967296) (h : getB x = true) : ∃ n : Nat, n < 48 ∧ opN x = (n : Int) + 1 ∧ fitB x n = true ∧ ∀ k, k < n → fitB x k = false := by
  obtain ⟨hne, hx⟩ := getB_code h
  have hr := opN_rng x
  have hf := code_fit h0 h1 hne (fun h8 => by
    have e : encW (opN x) (dRd x) (dRs1 x) (dRs2 x) (dImm x) = 267386895 := by
      unfold dRd dRs1 dRs2 dImm; rw [h8]; show encW 38 0 0 0 0 = _; decide
    exact hx.symm.trans e)
  refine ⟨(opN x - 1).toNat, by omega, by omega, hf, fun k hk => ?_⟩
  cases hh : fitB x k with
  | false => rfl
  | true =>
    have := fit_one h0 h1 k _ (by omega) (by omega) hh hf
    omega
theorem getB_none {x : Int} (h0 : 0 ≤ x) (h1 : x < 4294967296) (h : getB x = false) : ∀ k, k < 48 → fitB x k = false := by
  intro k hk
  cases hh : fitB x k with
  | false => rfl
  | true =>
    obtain ⟨e, _, _, _, _, hx, _⟩ := get_fit h0 h1 k hk hh
    have : getB x = true := by
      unfold getB
      rw [hx]
      have : opN x ≠ 0 := by omega
      simpa using this
    rw [h] at this; cases this
end Go.Proofs.YtabdfbghhkpoeaaDoor.P
namespace Go.Proofs.YtabdfbghhkpoeaaDoor.E
open Go.ChangeShapes Go.WideShapes Go.ChangeAt Go.RowKit Go.Proofs.YtabdfbghhkpoeaaDoor.P Go.Proofs.YtabdfbghhkpoeaaDoor.W
set_option linter.unusedVariables false
set_option linter.unusedSimpArgs false

theorem Get_is (x : Int) (w : World) (x0 : 0 ≤ x) (x1 : x < 4294967296) (h : getB x = true) (hT : Tabs w) :
    Calls Tryd.prog 12 #[.int .u32 x] w fun e w' => e = .returned (.tuple #[.agg #[.int .i64 (opN x), .int .i64 (dRd x), .int .i64 (dRs1 x), .int .i64 (dRs2 x), .int .i32 (dImm x)], .bool true]) ∧ Below w.heap.size w w' := by
  obtain ⟨n, hn, ho, hf, hl⟩ := getB_fit x0 x1 h
  obtain ⟨-, e1, e2, e3, e4, -, -⟩ := get_fit x0 x1 n hn hf
  have := Get_yes x n w x0 x1 hn hl hf hT
  rw [e1, e2, e3, e4, ← ho] at this
  exact this
theorem Get_isnt (x : Int) (w : World) (x0 : 0 ≤ x) (x1 : x < 4294967296) (h : getB x = false) :
    Calls Tryd.prog 12 #[.int .u32 x] w fun e w' => e = .returned (.tuple #[.agg #[.int .i64 0, .int .i64 0, .int .i64 0, .int .i64 0, .int .i32 0], .bool false]) ∧ Below w.heap.size w w' :=
  Get_no x w x0 x1 (getB_none x0 x1 h)
end Go.Proofs.YtabdfbghhkpoeaaDoor.E
namespace Go.Proofs.YtabdfbghhkpoeaaDoor.R8
open Go.ChangeShapes Go.WideShapes Go.ChangeAt Go.RowKit Go.Proofs.YtabdfbghhkpoeaaDoor.P Go.Proofs.YtabdfbghhkpoeaaDoor.W Go.Proofs.YtabdfbghhkpoeaaDoor.V
set_option linter.unusedVariables false
set_option linter.unusedSimpArgs false

set_option maxHeartbeats 1000000 in
theorem Get (x : Int) (w : World) (x0 : 0 ≤ x) (x1 : x < 4294967296) :
    Calls Tryd.prog 13 #[.int .u32 x] w fun e w' => e = .returned (if getB x = true then .tuple #[.agg #[.int .i64 (opN x), .int .i64 (dRd x), .int .i64 (dRs1 x), .int .i64 (dRs2 x), .int .i32 (dImm x)], .bool true] else .tuple #[.agg #[.int .i64 0, .int .i64 0, .int .i64 0, .int .i64 0, .int .i32 0], .bool false]) ∧ Below w.heap.size w w' := by
  have HD := hid (fun w => R4.Decode x w x0 x1)
  have hr := opN_rng x
  have hi := dImm_bd x x0 x1
  have hmay := may_dec x
  have HP := hid (fun (h : opN x ≠ 0) w => Put_yes (opN x) (dRd x) (dRs1 x) (dRs2 x) (dImm x) w (hmay h) hi.1 hi.2)
  have hg : getB x = (!(opN x == 0) && encW (opN x) (dRd x) (dRs1 x) (dRs2 x) (dImm x) == x) := rfl
  have HG := hid hg
  have hdv : decV x = .tuple #[.agg #[.int .i64 (opN x), .int .i64 (dRd x), .int .i64 (dRs1 x), .int .i64 (dRs2 x), .int .i32 (dImm x)], .bool (!(opN x == 0))] := rfl
  rw [hdv] at HD
  clear hg hmay hi hdv
  generalize encW (opN x) (dRd x) (dRs1 x) (dRs2 x) (dImm x) = y at *
  generalize opN x = o at *
  generalize dRd x = p1 at *
  generalize dRs1 x = p2 at *
  generalize dRs2 x = p3 at *
  generalize dImm x = p4 at *
  generalize getB x = g at *
  cases ho : (o == 0)
  · have hoP := HP.out (beq_eq_false_iff_ne.1 ho)
    have HP' := hid hoP
    rw [ho] at HG
    have hg : g = (y == x) := by rw [HG.out]; rfl
    subst hg
    clear hoP HP HG
    cases hy : (y == x)
    · rw [if_neg (by decide)]
      have hyx : (y != x) = true := by simpa using hy
      go_enter Tryd.func13, Tryd.ntmps13
      go_wp2_with fail
      have hz0 := Zero.new w 23
      have hb0 : Below w.heap.size w (w.alloc (.cells #[.int .i64 0, .int .i64 0, .int .i64 0, .int .i64 0, .int .i32 0] 23)) := (Below.refl _ _).alloc (Nat.le_refl _) _
      generalize w.alloc (.cells #[.int .i64 0, .int .i64 0, .int .i64 0, .int .i64 0, .int .i32 0] 23) = w1 at *
      refine (HD.out _).mono ?_
      rw [ho]
      rintro e w2 ⟨rfl, hb2⟩
      have hz2 := hz0.below hb2 hz0.lt
      have hb2' := bel_step hb0 hb2
      clear hz0 hb0 hb2 w1
      have hz3 := hz2.below (below_alloc w2 (.cells #[.int .i64 o, .int .i64 p1, .int .i64 p2, .int .i64 p3, .int .i32 p4] 23)) hz2.lt
      have hi3 := Inst.new w2 23 (.int .i64 o) (.int .i64 p1) (.int .i64 p2) (.int .i64 p3) (.int .i32 p4)
      have hb3 := bel_step hb2' (below_alloc w2 (.cells #[.int .i64 o, .int .i64 p1, .int .i64 p2, .int .i64 p3, .int .i32 p4] 23))
      have hne : w.heap.size ≠ w2.heap.size := Nat.ne_of_lt hz2.lt
      clear hz2 hb2'
      generalize hw3 : w2.alloc (.cells #[.int .i64 o, .int .i64 p1, .int .i64 p2, .int .i64 p3, .int .i32 p4] 23) = w3 at *
      generalize hpb : w2.heap.size = pb at *
      have HW := hid hw3
      have HPB := hid hpb
      clear hw3 hpb
      go_wp2_with fail
      rw [HW.out, HPB.out]
      refine (HP'.out _).mono ?_
      rintro e w4 ⟨rfl, hb4⟩
      replace hz3 := hz3.below hb4 hz3.lt
      replace hi3 := hi3.below hb4 hi3.lt
      replace hb3 := bel_step hb3 hb4
      clear hb4
      obtain ⟨il, i0, i1, i2, i3, i4⟩ := hi3
      obtain ⟨tl, t0, t1, t2, t3, t4, tf⟩ := hz3
      clear HW
      go_wp2
      refine bodyPost_ret (v := .tuple #[.agg #[.int .i64 0, .int .i64 0, .int .i64 0, .int .i64 0, .int .i32 0], .bool false]) (by simp [results, Tryd.results13, go_sem, setCell_map, t0, t1, t2, t3, t4]; try rfl) rfl ⟨rfl, (by repeat' (first | (with_reducible exact Below.refl _ _) | (with_reducible assumption) | (with_reducible refine below_drewN ?_ _) | (with_reducible refine Below.alloc ?_ ?_ _) | (with_reducible refine Below.drew ?_) | (with_reducible refine Below.setCell ?_ ?_ _) | (with_reducible exact Below.size (by assumption)) | go_size))⟩
    · rw [if_pos rfl]
      obtain rfl : y = x := by simpa using hy
      have hyx : (y != y) = false := by simp
      go_enter Tryd.func13, Tryd.ntmps13
      go_wp2_with fail
      have hz0 := Zero.new w 23
      have hb0 : Below w.heap.size w (w.alloc (.cells #[.int .i64 0, .int .i64 0, .int .i64 0, .int .i64 0, .int .i32 0] 23)) := (Below.refl _ _).alloc (Nat.le_refl _) _
      generalize w.alloc (.cells #[.int .i64 0, .int .i64 0, .int .i64 0, .int .i64 0, .int .i32 0] 23) = w1 at *
      refine (HD.out _).mono ?_
      rw [ho]
      rintro e w2 ⟨rfl, hb2⟩
      have hz2 := hz0.below hb2 hz0.lt
      have hb2' := bel_step hb0 hb2
      clear hz0 hb0 hb2 w1
      have hz3 := hz2.below (below_alloc w2 (.cells #[.int .i64 o, .int .i64 p1, .int .i64 p2, .int .i64 p3, .int .i32 p4] 23)) hz2.lt
      have hi3 := Inst.new w2 23 (.int .i64 o) (.int .i64 p1) (.int .i64 p2) (.int .i64 p3) (.int .i32 p4)
      have hb3 := bel_step hb2' (below_alloc w2 (.cells #[.int .i64 o, .int .i64 p1, .int .i64 p2, .int .i64 p3, .int .i32 p4] 23))
      have hne : w.heap.size ≠ w2.heap.size := Nat.ne_of_lt hz2.lt
      clear hz2 hb2'
      generalize hw3 : w2.alloc (.cells #[.int .i64 o, .int .i64 p1, .int .i64 p2, .int .i64 p3, .int .i32 p4] 23) = w3 at *
      generalize hpb : w2.heap.size = pb at *
      have HW := hid hw3
      have HPB := hid hpb
      clear hw3 hpb
      go_wp2_with fail
      rw [HW.out, HPB.out]
      refine (HP'.out _).mono ?_
      rintro e w4 ⟨rfl, hb4⟩
      replace hz3 := hz3.below hb4 hz3.lt
      replace hi3 := hi3.below hb4 hi3.lt
      replace hb3 := bel_step hb3 hb4
      clear hb4
      obtain ⟨il, i0, i1, i2, i3, i4⟩ := hi3
      obtain ⟨tl, t0, t1, t2, t3, t4, tf⟩ := hz3
      clear HW
      go_wp2
      refine bodyPost_ret (v := .tuple #[.agg #[.int .i64 o, .int .i64 p1, .int .i64 p2, .int .i64 p3, .int .i32 p4], .bool true]) (by simp [results, Tryd.results13, go_sem, setCell_map, t0, t1, t2, t3, t4]; try rfl) rfl ⟨rfl, (by repeat' (first | (with_reducible exact Below.refl _ _) | (with_reducible assumption) | (with_reducible refine below_drewN ?_ _) | (with_reducible refine Below.alloc ?_ ?_ _) | (with_reducible refine Below.drew ?_) | (with_reducible refine Below.setCell ?_ ?_ _) | (with_reducible exact Below.size (by assumption)) | go_size))⟩
  · have hg : g = false := by rw [HG.out, ho]; rfl
    subst hg
    rw [if_neg (by decide)]
    clear HG HP
    go_enter Tryd.func13, Tryd.ntmps13
    go_wp2_with fail
    have hz0 := Zero.new w 23
    have hb0 : Below w.heap.size w (w.alloc (.cells #[.int .i64 0, .int .i64 0, .int .i64 0, .int .i64 0, .int .i32 0] 23)) := (Below.refl _ _).alloc (Nat.le_refl _) _
    generalize w.alloc (.cells #[.int .i64 0, .int .i64 0, .int .i64 0, .int .i64 0, .int .i32 0] 23) = w1 at *
    refine (HD.out _).mono ?_
    rintro e w2 ⟨rfl, hb2⟩
    have hz2 := hz0.below hb2 hz0.lt
    have hb2' := bel_step hb0 hb2
    clear hz0 hb0 hb2 w1
    have hz3 := hz2.below (below_alloc w2 (.cells #[.int .i64 o, .int .i64 p1, .int .i64 p2, .int .i64 p3, .int .i32 p4] 23)) hz2.lt
    have hi3 := Inst.new w2 23 (.int .i64 o) (.int .i64 p1) (.int .i64 p2) (.int .i64 p3) (.int .i32 p4)
    have hb3 := bel_step hb2' (below_alloc w2 (.cells #[.int .i64 o, .int .i64 p1, .int .i64 p2, .int .i64 p3, .int .i32 p4] 23))
    have hne : w.heap.size ≠ w2.heap.size := Nat.ne_of_lt hz2.lt
    clear hz2 hb2'
    generalize hw3 : w2.alloc (.cells #[.int .i64 o, .int .i64 p1, .int .i64 p2, .int .i64 p3, .int .i32 p4] 23) = w3 at *
    generalize hpb : w2.heap.size = pb at *
    have HW := hid hw3
    have HPB := hid hpb
    clear hw3 hpb
    obtain ⟨tl, t0, t1, t2, t3, t4, tf⟩ := hz3
    clear hi3
    rw [ho]
    go_upto_region 3 with (fail)
    rw [HW.out]
    go_wp2
    refine bodyPost_ret (v := .tuple #[.agg #[.int .i64 0, .int .i64 0, .int .i64 0, .int .i64 0, .int .i32 0], .bool false]) (by simp [results, Tryd.results13, go_sem, setCell_map, t0, t1, t2, t3, t4]; try rfl) rfl ⟨rfl, (by repeat' (first | (with_reducible exact Below.refl _ _) | (with_reducible assumption) | (with_reducible refine below_drewN ?_ _) | (with_reducible refine Below.alloc ?_ ?_ _) | (with_reducible refine Below.drew ?_) | (with_reducible refine Below.setCell ?_ ?_ _) | (with_reducible exact Below.size (by assumption)) | go_size))⟩
end Go.Proofs.YtabdfbghhkpoeaaDoor.R8
