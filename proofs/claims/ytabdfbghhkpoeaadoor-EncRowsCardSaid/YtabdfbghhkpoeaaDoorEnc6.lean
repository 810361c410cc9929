/- What the parts of enc.Get compute. -/
import Derived.Test.YtabdfbghhkpoeaaDoorEnc5
import Derived.Deep.RegionHeld3
namespace Go.Proofs.YtabdfbghhkpoeaaDoor.E
set_option linter.unusedVariables false
set_option linter.unusedSimpArgs false
open Go.ChangeShapes Go.WideShapes Go.ChangeAt Go.RowKit Go.Proofs.YtabdfbghhkpoeaaDoor.P Go.Proofs.YtabdfbghhkpoeaaDoor.W

/-- which registers a form has, as bits -/
def regsV (f : Int) : Int := if f = 1 then 1 else if f = 2 then 1 else if f = 3 then 6 else if f = 4 then 3 else if f = 5 then 6 else if f = 6 then 3 else if f = 7 then 3 else if f = 8 then 7 else 0
theorem Tabs.regs {w : World} (h : Tabs w) (f : Int) (hf : 1 ≤ f ∧ f ≤ 9) : w.cell? ⟨0, f.toNat, none⟩ = some (.int .i64 (regsV f)) := by
  have hc : f = 1 ∨ f = 2 ∨ f = 3 ∨ f = 4 ∨ f = 5 ∨ f = 6 ∨ f = 7 ∨ f = 8 ∨ f = 9 := by omega
  rcases hc with rfl | rfl | rfl | rfl | rfl | rfl | rfl | rfl | rfl
  · exact h.r1
  · exact h.r2
  · exact h.r3
  · exact h.r4
  · exact h.r5
  · exact h.r6
  · exact h.r7
  · exact h.r8
  · exact h.r9
set_option maxHeartbeats 1000000 in
theorem part (bit low f x : Int) (a b : Nat) (w : World) (x0 : 0 ≤ x) (x1 : x < 4294967296) (hf : 1 ≤ f ∧ f ≤ 9) (hl : 0 ≤ low ∧ low ≤ 31) (hT : Tabs w) (ha : w.cell? ⟨a, 0, none⟩ = some (.int .i64 f)) (hb : w.cell? ⟨b, 0, none⟩ = some (.int .u32 x)) :
    Calls Tryd.prog 35 #[.int .i64 bit, .int .i64 low, .pointer (some ⟨a, 0, none⟩), .pointer (some ⟨b, 0, none⟩)] w
      fun e w' => e = .returned (.int .i64 (if bits .and .i64 (regsV f) bit = 0 then 0 else fld x low.toNat 5)) ∧ ∃ n, w' = w.drewN n := by
  have hr := hT.regs f hf
  have hx := fld_lt32 x low.toNat (b := 5) (by omega)
  have hF := fun w => W.Field x low 5 w x0 x1
  rw [show held 5 = 5 from by decide, show max low 0 = low from by omega] at hF
  replace hF := hid hF
  obtain ⟨f0, f1⟩ := hf
  generalize fld x low.toNat 5 = y at *
  by_cases hz : bits .and .i64 (regsV f) bit = 0
  · rw [if_pos hz]
    have hb0 : (bits .and .i64 (regsV f) bit == 0) = true := by simpa using hz
    have HZ := hid hz
    clear hz
    go_enter Tryd.func35, Tryd.ntmps35
    go_wp2
    go_ret
    exact ⟨rfl, 0, rfl⟩
  · rw [if_neg hz]
    have hb0 : (bits .and .i64 (regsV f) bit == 0) = false := by simpa using hz
    clear hz
    go_enter Tryd.func35, Tryd.ntmps35
    go_wp2_with (first | (go_at_call 36; (with_reducible refine (hF.out _).mono ?_); rintro e w' ⟨rfl, m, rfl⟩))
    go_ret
    exact ⟨rfl, _, rfl⟩
/-- the instruction of a row, as a word has it -/
def gRd (op x : Int) : Int := if hasRd (form op) then fld x 7 5 else 0
def gRs1 (op x : Int) : Int := if hasRs1 (form op) then fld x 15 5 else 0
def gRs2 (op x : Int) : Int := if hasRs2 (form op) then fld x 20 5 else 0
def gImm (op x : Int) : Int := if form op = 8 ∨ form op = 9 then 0 else readV (form op) x
theorem regs_bits (f : Int) (hf : 1 ≤ f ∧ f ≤ 9) : (bits .and .i64 (regsV f) 1 = 0 ↔ hasRd f = false) ∧ (bits .and .i64 (regsV f) 2 = 0 ↔ hasRs1 f = false) ∧ (bits .and .i64 (regsV f) 4 = 0 ↔ hasRs2 f = false) := by
  have hc : f = 1 ∨ f = 2 ∨ f = 3 ∨ f = 4 ∨ f = 5 ∨ f = 6 ∨ f = 7 ∨ f = 8 ∨ f = 9 := by omega
  rcases hc with rfl | rfl | rfl | rfl | rfl | rfl | rfl | rfl | rfl <;> decide
end Go.Proofs.YtabdfbghhkpoeaaDoor.E
