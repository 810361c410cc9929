/- What the functions of package ins compute that read its lists of names. -/
import Derived.Test.YtcbibefbjfhdcaaDoorRegP
import Derived.Test.YtcbibefbjfhdcaaDoorNames
import Derived.Test.YtcbibefbjfhdcaaDoorIns
import Derived.Test.YtcbibefbjfhdcaaDoorCells
namespace Go.Proofs.YtcbibefbjfhdcaaDoor.I
set_option linter.unusedVariables false
set_option linter.unusedSimpArgs false
open Go.ChangeShapes Go.WideShapes Go.ChangeAt Go.RowKit Go.Proofs.YtcbibefbjfhdcaaDoor.P Go.Proofs.YtcbibefbjfhdcaaDoor.W

/-- what the lists of package ins hold -/
structure Tabs (w : World) : Prop where
  n : R3.StrsAt w 0 names
  c : R3.StrsAt w 1 regNames
theorem Tabs.below {w w' : World} (h : Tabs w) (hb : Below w.heap.size w w') : Tabs w' := ⟨h.n.below hb h.n.1, h.c.below hb h.c.1⟩

theorem Name (op : Int) (w : World) (hT : Tabs w) :
    Calls Tryd.prog 15 #[.int .i64 op] w fun e w' => e = .returned (.string (nameV op)) ∧ w = w' := by
  by_cases h : 1 ≤ op ∧ op ≤ 48
  · obtain ⟨k, rfl⟩ : ∃ k : Nat, op = (k : Int) := ⟨op.toNat, by omega⟩
    have e : nameV (k : Int) = nameN k := by unfold nameV; rw [if_pos h, Int.toNat_natCast]
    have hc := hT.n.2 k (by show k < 49; omega)
    have hg := hT.n.1
    have hn : names.getD k ⟨#[]⟩ = nameN k := rfl
    rw [hn] at hc
    clear hT hn
    rw [e]
    clear e
    generalize nameN k = s at *
    obtain ⟨h0, h1⟩ := h
    have h2 : (k : Int) < 49 := by omega
    go_enter Tryd.func15, Tryd.ntmps15
    go_wp2
    go_ret
    exact ⟨rfl, rfl⟩
  · have e : nameV op = ⟨#[]⟩ := by unfold nameV; rw [if_neg h]
    rw [e]
    clear hT
    go_enter Tryd.func15, Tryd.ntmps15
    go_wp2
    all_goals first | (go_ret; exact ⟨rfl, rfl⟩) | (exfalso; simp_all; omega)
theorem RegName (n : Int) (w : World) (hT : Tabs w) :
    Calls Tryd.prog 19 #[.int .i64 n] w fun e w' => e = .returned (.string (regV n)) ∧ w = w' := by
  by_cases h : 0 ≤ n ∧ n < 32
  · obtain ⟨k, rfl⟩ : ∃ k : Nat, n = (k : Int) := ⟨n.toNat, by omega⟩
    have e : regV (k : Int) = regN k := by unfold regV; rw [if_pos h, Int.toNat_natCast]
    have hc := hT.c.2 k (by show k < 32; omega)
    have hg := hT.c.1
    have hn : regNames.getD k ⟨#[]⟩ = regN k := rfl
    rw [hn] at hc
    clear hT hn
    rw [e]
    clear e
    generalize regN k = s at *
    obtain ⟨h0, h1⟩ := h
    go_enter Tryd.func19, Tryd.ntmps19
    go_wp2
    go_ret
    exact ⟨rfl, rfl⟩
  · have e : regV n = ⟨#[]⟩ := by unfold regV; rw [if_neg h]
    rw [e]
    clear hT
    go_enter Tryd.func19, Tryd.ntmps19
    go_wp2
    all_goals first | (go_ret; exact ⟨rfl, rfl⟩) | (exfalso; simp_all; omega)
set_option maxHeartbeats 1000000 in
theorem Op (s : ByteArray) (w : World) (hT : Tabs w) :
    Calls Tryd.prog 16 #[.string s] w fun e w' => e = .returned (.int .i64 (ixFrom s 1 48)) ∧ w = w' := by
  have HN := hid hT.n.2
  have hg := hT.n.1
  clear hT
  go_enter Tryd.func16, Tryd.ntmps16
  go_wp2
  go_loopw [3] (fun i wr => ∃ m : Nat, 1 ≤ m ∧ m ≤ 49 ∧ i = .int .i64 m ∧ ixFrom s 1 48 = ixFrom s m (49 - m) ∧ w = wr) (fun i _ => 49 - (intOf i).toNat)
  case atStart => exact ⟨1, by omega, by omega, rfl, rfl, rfl⟩
  case round =>
    obtain ⟨m, hm1, hm2, rfl, hix, rfl⟩ := hrel
    by_cases hm : m < 49
    · have hcm := HN.out m hm
      have hnm : names.getD m ⟨#[]⟩ = nameN m := rfl
      rw [hnm] at hcm
      have hstep : ixFrom s m (49 - m) = if ((nameN m).toList == s.toList) = true then (m : Int) else ixFrom s (m + 1) (49 - (m + 1)) := by
        obtain ⟨j, hj⟩ : ∃ j, 49 - m = j + 1 := ⟨48 - m, by omega⟩
        have hj2 : 49 - (m + 1) = j := by omega
        rw [hj, hj2]; rfl
      have HI := hid (hix.trans hstep)
      clear hix hstep
      generalize nameN m = t at *
      clear hnm
      have h1 : (m : Int) ≤ 48 := by omega
      have h2 : (m : Int) < 49 := by omega
      go_wp2
      · rename (t.toList == s.toList) = true => h
        go_ret
        exact ⟨by simp only [HI.out, h]; simp, rfl⟩
      · rename (t.toList == s.toList) = false => h
        go_roundw
        case rel => exact ⟨m + 1, by omega, by omega, by go_num, by rw [HI.out, h]; rfl, by trivial⟩
        case measure => simp [intOf]; omega
    · obtain rfl : m = 49 := by omega
      have HI := hid hix
      clear hix
      go_wp2
      go_ret
      exact ⟨by rw [HI.out]; rfl, rfl⟩
end Go.Proofs.YtcbibefbjfhdcaaDoor.I
