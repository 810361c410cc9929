/- What ins.Reg computes. -/
import Derived.Test.YtcbibefbjfhdcaaDoorInsT
import Derived.Test.YtcbibefbjfhdcaaDoorLibI
import Derived.BigQuiet
import Derived.Deep.QuietTactic
import Derived.Deep.Cut
import Derived.Deep.MidRow
namespace Go.Proofs.YtcbibefbjfhdcaaDoor.I
set_option linter.unusedVariables false
set_option linter.unusedSimpArgs false
open Go.ChangeShapes Go.WideShapes Go.ChangeAt Go.RowKit Go.Proofs.YtcbibefbjfhdcaaDoor.P Go.Proofs.YtcbibefbjfhdcaaDoor.W

theorem x_num : ∀ k, k < 32 → (120 : UInt8) :: Lib.decDigits k = (numN k).data.toList := by decide +kernel
theorem num_eq (k : Nat) (hk : k < 32) : ((⟨#[120]⟩ : ByteArray) ++ ⟨(Lib.decDigits k).toArray⟩) = numN k := by
  have h := x_num k hk
  have e : ((⟨#[120]⟩ : ByteArray) ++ ⟨(Lib.decDigits k).toArray⟩).data.toList = 120 :: Lib.decDigits k := by simp
  have e2 := e.trans h
  cases hx : ((⟨#[120]⟩ : ByteArray) ++ ⟨(Lib.decDigits k).toArray⟩)
  cases hy : numN k
  rw [hx, hy] at e2
  simp at e2
  rw [e2]
theorem num_size (k : Nat) (hk : k < 32) : (⟨#[120]⟩ : ByteArray).size + (⟨(Lib.decDigits k).toArray⟩ : ByteArray).size ≤ 9223372036854775807 := by
  have h := congrArg List.length (x_num k hk)
  have h2 : ∀ k, k < 32 → (numN k).data.toList.length ≤ 3 := by decide
  have h3 := h2 k hk
  rw [← h] at h3
  simp at h3
  have e1 : (⟨#[120]⟩ : ByteArray).size = 1 := rfl
  have e2 : (⟨(Lib.decDigits k).toArray⟩ : ByteArray).size = (Lib.decDigits k).length := by simp [ByteArray.size]
  omega
theorem ix32 (cs : Array Value) (k : Nat) (v : Value) (hk : k < 32) (hc : cs[k]? = some v) (w : World) : (Instr.index 50 (.agg cs) (.int .i64 (k : Int))).run Tryd.prog w = .ok v w := by
  have hn : 0 ≤ (k : Int) ∧ (k : Int) < 32 := by omega
  have hk2 : ¬ 32 ≤ k := by omega
  simp [Instr.index, run_underlying Tryd.underlying50, asIntOf, hn, hc, go_sem]
  omega
set_option maxHeartbeats 2000000 in
theorem Reg (s : ByteArray) (w : World) (hT : Tabs w) :
    Calls Tryd.prog 17 #[.string s] w fun e w' => e = .returned (.tuple #[.int .i64 (regR s), .bool (regOk s)]) ∧ w = w' := by
  have H1 := hid (fun k hk h => reg_found (s := s) k hk h)
  have H2 := hid (fun h => reg_fp8 (s := s) h)
  have H3 := hid (fun h h2 => reg_none (s := s) h h2)
  generalize regR s = rr at *
  generalize regOk s = ro at *
  have HC : Hid (w.rangeAt 1 0 (regNames.map Value.string)) := hid (fun j v hv => by
    have hj : j < 32 := by have := (List.getElem?_eq_some_iff.1 hv).1; simpa [regNames_length] using this
    rw [Nat.zero_add]
    have := hT.c.2 j hj
    rw [this, ← hv]
    simp [List.getD, show j < regNames.length from hj])
  clear hT
  go_enter Tryd.func17, Tryd.ntmps17
  go_upto_region 3 with (fail)
  · rename (s.toList == _) = true => h
    go_ret2
    obtain ⟨e1, e2⟩ := H2.out h
    exact ⟨by rw [e1, e2]; rfl, rfl⟩
  rename (s.toList == _) = false => hfp
  have HFP := hid hfp
  clear hfp
  refine wp_region_list ?_
  refine wpList_load_mid rfl 50 (Operand.global 1) rfl 1 0 rfl _ _ HC.out Tryd.underlying50 rfl (by kernel_rfl) ?_
  have HA : Hid (∀ k, k < 32 → (List.map Value.string regNames).toArray[k]? = some (.string (regN k))) := hid (fun k hk => by
    simp [regN, List.getD, show k < regNames.length from hk])
  generalize (List.map Value.string regNames).toArray = arr at *
  go_wp2
  go_loopw [9] (fun i wr => ∃ k : Nat, k ≤ 32 ∧ i = .int .i64 k ∧ regFrom s 0 32 = regFrom s k (32 - k) ∧ w = wr) (fun i _ => 32 - (intOf i).toNat)
  case atStart => exact ⟨0, by omega, rfl, rfl, rfl⟩
  case round =>
    obtain ⟨k, hk, rfl, hix, rfl⟩ := hrel
    by_cases hk2 : k < 32
    · have hlt : (k : Int) < 32 := by omega
      have hstep : regFrom s k (32 - k) = if isReg s k = true then k else regFrom s (k + 1) (32 - (k + 1)) := by
        obtain ⟨j, hj⟩ : ∃ j, 32 - k = j + 1 := ⟨31 - k, by omega⟩
        have hj2 : 32 - (k + 1) = j := by omega
        rw [hj, hj2]; rfl
      unfold isReg at hstep
      have HI := hid (hix.trans hstep)
      have hx := fun w => ix32 arr k _ hk2 (HA.out k hk2) w
      have HS := hid (fun w => LB.strconv_Itoa_small k (by omega) w)
      have hadd := fun w => run_string_add_sum (P := Tryd.prog) w ⟨#[120]⟩ ⟨(Lib.decDigits k).toArray⟩ (num_size k hk2)
      rw [num_eq k hk2] at hadd
      clear hix hstep
      generalize (⟨(Lib.decDigits k).toArray⟩ : ByteArray) = ds at *
      generalize numN k = t1 at *
      generalize regN k = t2 at *
      go_wp2_with (go_at_call 32; (with_reducible refine (HS.out _).mono ?_); rintro e w' ⟨rfl, rfl⟩)
      · have h : (t2.toList == s.toList) = true := by rename t2.toList = s.toList => h; rw [h]; exact beq_self_eq_true _
        go_ret2
        obtain ⟨e1, e2⟩ := H1.out k hk2 (by rw [HI.out, h]; simp)
        exact ⟨by rw [e1, e2]; rfl, rfl⟩
      · have h : (t2.toList == s.toList || t1.toList == s.toList) = true := by clear H1 H2 H3 HI hx hadd; simp_all
        go_ret2
        obtain ⟨e1, e2⟩ := H1.out k hk2 (by rw [HI.out, h]; simp)
        exact ⟨by rw [e1, e2]; rfl, rfl⟩
      · have h : (t2.toList == s.toList || t1.toList == s.toList) = false := by clear H1 H2 H3 HI hx hadd; simp_all
        go_roundw
        case rel => exact ⟨k + 1, by omega, by go_num, by rw [HI.out, h]; simp, by trivial⟩
        case measure => simp [intOf]; omega
    · obtain rfl : k = 32 := by omega
      have HI := hid hix
      clear hix
      go_wp2
      go_ret2
      obtain ⟨e1, e2⟩ := H3.out HFP.out (by rw [HI.out]; rfl)
      exact ⟨by rw [e1, e2]; rfl, rfl⟩
end Go.Proofs.YtcbibefbjfhdcaaDoor.I
