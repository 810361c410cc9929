/- The test that the statements of layer 3 begin with. -/
import Derived.Test.YtcbibefbjfhdcaaDoorInsR
import Derived.Deep.RegionHeld3
namespace Go.Proofs.YtcbibefbjfhdcaaDoor.A3
set_option linter.unusedVariables false
set_option linter.unusedSimpArgs false
open Go.ChangeShapes Go.WideShapes Go.ChangeAt Go.RowKit Go.Proofs.YtcbibefbjfhdcaaDoor.P Go.Proofs.YtcbibefbjfhdcaaDoor.W Go.Proofs.YtcbibefbjfhdcaaDoor.I

theorem c1 (w : World) (hT : Tabs w) : Calls Tryd.prog 17 #[.string ⟨#[102, 112]⟩] w fun e w' => e = .returned (.tuple #[.int .i64 8, .bool true]) ∧ w = w' := by
  have h := Reg fpS w hT
  have e1 : regR fpS = 8 := by unfold regR; rw [reg_fp]; rfl
  have e2 : regOk fpS = true := by unfold regOk; rw [reg_fp]; rfl
  rw [e1, e2] at h; exact h
theorem c2 (w : World) (hT : Tabs w) : Calls Tryd.prog 19 #[.int .i64 8] w fun e w' => e = .returned (.string ⟨#[115, 48]⟩) ∧ w = w' := RegName 8 w hT
theorem c3 (w : World) (hT : Tabs w) : Calls Tryd.prog 16 #[.string ⟨#[114, 101, 109, 117]⟩] w fun e w' => e = .returned (.int .i64 48) ∧ w = w' := by
  have h := I.Op ⟨#[114, 101, 109, 117]⟩ w hT
  have e : ixFrom ⟨#[114, 101, 109, 117]⟩ 1 48 = 48 := name_back 48 (by decide) (by decide)
  rw [e] at h; exact h
theorem c4 (w : World) (hT : Tabs w) : Calls Tryd.prog 15 #[.int .i64 1] w fun e w' => e = .returned (.string ⟨#[108, 117, 105]⟩) ∧ w = w' := Name 1 w hT
theorem c5 (w : World) : Calls Tryd.prog 11 #[.agg #[.int .i64 19, .int .i64 0, .int .i64 0, .int .i64 0, .int .i32 2047]] w fun e w' => e = .returned (.bool true) ∧ Below w.heap.size w w' := May 19 0 0 0 2047 w
theorem c6 (w : World) : Calls Tryd.prog 11 #[.agg #[.int .i64 19, .int .i64 0, .int .i64 0, .int .i64 0, .int .i32 2048]] w fun e w' => e = .returned (.bool false) ∧ Below w.heap.size w w' := May 19 0 0 0 2048 w
theorem awake (w : World) (hT : Tabs w) : Calls Tryd.prog 9 #[] w fun e w' => e = .returned (.bool true) ∧ Below w.heap.size w w' := by
  have HT := hid hT
  clear hT
  go_enter Tryd.func9, Tryd.ntmps9
  go_wp2_with (first | (go_at_call 17; (with_reducible refine (c1 _ HT.out).mono ?_); rintro e w' ⟨rfl, rfl⟩) | (go_at_call 19; (with_reducible refine (c2 _ HT.out).mono ?_); rintro e w' ⟨rfl, rfl⟩) | (go_at_call 16; (with_reducible refine (c3 _ HT.out).mono ?_); rintro e w' ⟨rfl, rfl⟩) | (go_at_call 15; (with_reducible refine (c4 _ HT.out).mono ?_); rintro e w' ⟨rfl, rfl⟩) | (go_at_call 11; (first | (with_reducible refine (c5 _).mono ?_) | (with_reducible refine (c6 _).mono ?_)); rintro e w' ⟨rfl, hb⟩; have hbw : Below w.heap.size w w' := bel_step (w := w) (by repeat' (first | (with_reducible exact Below.refl _ _) | (with_reducible assumption) | (with_reducible refine below_drewN ?_ _) | (with_reducible refine Below.alloc ?_ ?_ _) | (with_reducible refine Below.drew ?_) | (with_reducible refine Below.setCell ?_ ?_ _) | (with_reducible exact Below.size (by assumption)) | go_size)) hb; clear hb))
  go_ret
  exact ⟨rfl, by assumption⟩
end Go.Proofs.YtcbibefbjfhdcaaDoor.A3
