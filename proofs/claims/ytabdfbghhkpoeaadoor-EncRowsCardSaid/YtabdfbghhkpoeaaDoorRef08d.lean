/- What typecaseref08.Row computes. -/
import Derived.Test.YtabdfbghhkpoeaaDoorRef08a
import Derived.Test.YtabdfbghhkpoeaaDoorRef08b
import Derived.Test.YtabdfbghhkpoeaaDoorRef08c
import Derived.Deep.RegionHeld3
namespace Go.Proofs.YtabdfbghhkpoeaaDoor.R8
set_option linter.unusedVariables false
set_option linter.unusedSimpArgs false
open Go.ChangeShapes Go.WideShapes Go.ChangeAt Go.RowKit Go.Proofs.YtabdfbghhkpoeaaDoor.P Go.Proofs.YtabdfbghhkpoeaaDoor.W

set_option maxHeartbeats 1000000 in
theorem rowOf1 (op c0 c1 c2 : Int) (w : World) (h : ∀ w, Calls Tryd.prog 39 #[.int .i64 op] w fun e w' => e = .returned (.agg #[.int .u32 c0, .int .u32 c1, .int .u32 c2, .int .u32 1]) ∧ Below w.heap.size w w')
    (a0 : 0 ≤ c0) (a1 : 0 ≤ c1) (a2 : 0 ≤ c2) (a3 : c1 ≤ 7) (a4 : c2 ≤ 127) (a5 : c0 + c1 * 4096 + c2 * 33554432 < 4294967296) :
    Calls Tryd.prog 15 #[.int .i64 op] w fun e w' => e = .returned (.tuple #[.int .u32 (c0 + c1 * 4096 + c2 * 33554432), .int .u32 127]) ∧ Below w.heap.size w w' := by
  have H := hid h
  clear h
  have b1 : c0 + c1 * 4096 < 4294967296 := by omega
  go_enter Tryd.func15, Tryd.ntmps15
  go_wp2_with fail
  refine (H.out _).mono ?_
  rintro e w1 ⟨rfl, hb1⟩
  clear H
  go_wp2
  go_region
  all_goals go_wp2
  all_goals go_ret2
  all_goals exact ⟨rfl, bel_step hb1 (by repeat' (first | (with_reducible exact Below.refl _ _) | (with_reducible assumption) | (with_reducible refine below_drewN ?_ _) | (with_reducible refine Below.alloc ?_ ?_ _) | (with_reducible refine Below.drew ?_) | (with_reducible refine Below.setCell ?_ ?_ _) | (with_reducible exact Below.size (by assumption)) | go_size))⟩
set_option maxHeartbeats 1000000 in
theorem rowOf2 (op c0 c1 c2 : Int) (w : World) (h : ∀ w, Calls Tryd.prog 39 #[.int .i64 op] w fun e w' => e = .returned (.agg #[.int .u32 c0, .int .u32 c1, .int .u32 c2, .int .u32 2]) ∧ Below w.heap.size w w')
    (a0 : 0 ≤ c0) (a1 : 0 ≤ c1) (a2 : 0 ≤ c2) (a3 : c1 ≤ 7) (a4 : c2 ≤ 127) (a5 : c0 + c1 * 4096 + c2 * 33554432 < 4294967296) :
    Calls Tryd.prog 15 #[.int .i64 op] w fun e w' => e = .returned (.tuple #[.int .u32 (c0 + c1 * 4096 + c2 * 33554432), .int .u32 28799]) ∧ Below w.heap.size w w' := by
  have H := hid h
  clear h
  have b1 : c0 + c1 * 4096 < 4294967296 := by omega
  go_enter Tryd.func15, Tryd.ntmps15
  go_wp2_with fail
  refine (H.out _).mono ?_
  rintro e w1 ⟨rfl, hb1⟩
  clear H
  go_wp2
  go_region
  all_goals go_wp2
  all_goals go_ret2
  all_goals exact ⟨rfl, bel_step hb1 (by repeat' (first | (with_reducible exact Below.refl _ _) | (with_reducible assumption) | (with_reducible refine below_drewN ?_ _) | (with_reducible refine Below.alloc ?_ ?_ _) | (with_reducible refine Below.drew ?_) | (with_reducible refine Below.setCell ?_ ?_ _) | (with_reducible exact Below.size (by assumption)) | go_size))⟩
set_option maxHeartbeats 1000000 in
theorem rowOf3 (op c0 c1 c2 : Int) (w : World) (h : ∀ w, Calls Tryd.prog 39 #[.int .i64 op] w fun e w' => e = .returned (.agg #[.int .u32 c0, .int .u32 c1, .int .u32 c2, .int .u32 3]) ∧ Below w.heap.size w w')
    (a0 : 0 ≤ c0) (a1 : 0 ≤ c1) (a2 : 0 ≤ c2) (a3 : c1 ≤ 7) (a4 : c2 ≤ 127) (a5 : c0 + c1 * 4096 + c2 * 33554432 < 4294967296) :
    Calls Tryd.prog 15 #[.int .i64 op] w fun e w' => e = .returned (.tuple #[.int .u32 (c0 + c1 * 4096 + c2 * 33554432), .int .u32 4261441663]) ∧ Below w.heap.size w w' := by
  have H := hid h
  clear h
  have b1 : c0 + c1 * 4096 < 4294967296 := by omega
  go_enter Tryd.func15, Tryd.ntmps15
  go_wp2_with fail
  refine (H.out _).mono ?_
  rintro e w1 ⟨rfl, hb1⟩
  clear H
  go_wp2
  go_region
  all_goals go_wp2
  all_goals go_ret2
  all_goals exact ⟨rfl, bel_step hb1 (by repeat' (first | (with_reducible exact Below.refl _ _) | (with_reducible assumption) | (with_reducible refine below_drewN ?_ _) | (with_reducible refine Below.alloc ?_ ?_ _) | (with_reducible refine Below.drew ?_) | (with_reducible refine Below.setCell ?_ ?_ _) | (with_reducible exact Below.size (by assumption)) | go_size))⟩
set_option maxHeartbeats 1000000 in
theorem rowOf4 (op c0 c1 c2 : Int) (w : World) (h : ∀ w, Calls Tryd.prog 39 #[.int .i64 op] w fun e w' => e = .returned (.agg #[.int .u32 c0, .int .u32 c1, .int .u32 c2, .int .u32 4]) ∧ Below w.heap.size w w')
    (a0 : 0 ≤ c0) (a1 : 0 ≤ c1) (a2 : 0 ≤ c2) (a3 : c1 ≤ 7) (a4 : c2 ≤ 127) (a5 : c0 + c1 * 4096 + c2 * 33554432 < 4294967296) :
    Calls Tryd.prog 15 #[.int .i64 op] w fun e w' => e = .returned (.tuple #[.int .u32 (c0 + c1 * 4096 + c2 * 33554432), .int .u32 4294967295]) ∧ Below w.heap.size w w' := by
  have H := hid h
  clear h
  have b1 : c0 + c1 * 4096 < 4294967296 := by omega
  go_enter Tryd.func15, Tryd.ntmps15
  go_wp2_with fail
  refine (H.out _).mono ?_
  rintro e w1 ⟨rfl, hb1⟩
  clear H
  go_wp2
  go_region
  all_goals go_wp2
  all_goals go_ret2
  all_goals exact ⟨rfl, bel_step hb1 (by repeat' (first | (with_reducible exact Below.refl _ _) | (with_reducible assumption) | (with_reducible refine below_drewN ?_ _) | (with_reducible refine Below.alloc ?_ ?_ _) | (with_reducible refine Below.drew ?_) | (with_reducible refine Below.setCell ?_ ?_ _) | (with_reducible exact Below.size (by assumption)) | go_size))⟩
/-- the row of an operation -/
theorem Row (op : Int) (w : World) (h0 : 1 ≤ op) (h1 : op ≤ 48) : Calls Tryd.prog 15 #[.int .i64 op] w fun e w' => e = .returned (.tuple #[.int .u32 (matchV op), .int .u32 (maskV op)]) ∧ Below w.heap.size w w' := by
  have hc : op = 1 ∨ op = 2 ∨ op = 3 ∨ op = 4 ∨ op = 5 ∨ op = 6 ∨ op = 7 ∨ op = 8 ∨ op = 9 ∨ op = 10 ∨ op = 11 ∨ op = 12 ∨ op = 13 ∨ op = 14 ∨ op = 15 ∨ op = 16 ∨ op = 17 ∨ op = 18 ∨ op = 19 ∨ op = 20 ∨ op = 21 ∨ op = 22 ∨ op = 23 ∨ op = 24 ∨ op = 25 ∨ op = 26 ∨ op = 27 ∨ op = 28 ∨ op = 29 ∨ op = 30 ∨ op = 31 ∨ op = 32 ∨ op = 33 ∨ op = 34 ∨ op = 35 ∨ op = 36 ∨ op = 37 ∨ op = 38 ∨ op = 39 ∨ op = 40 ∨ op = 41 ∨ op = 42 ∨ op = 43 ∨ op = 44 ∨ op = 45 ∨ op = 46 ∨ op = 47 ∨ op = 48 := by omega
  rcases hc with rfl | rfl | rfl | rfl | rfl | rfl | rfl | rfl | rfl | rfl | rfl | rfl | rfl | rfl | rfl | rfl | rfl | rfl | rfl | rfl | rfl | rfl | rfl | rfl | rfl | rfl | rfl | rfl | rfl | rfl | rfl | rfl | rfl | rfl | rfl | rfl | rfl | rfl | rfl | rfl | rfl | rfl | rfl | rfl | rfl | rfl | rfl | rfl
  · exact rowOf1 1 55 0 0 w codes1 (by decide) (by decide) (by decide) (by decide) (by decide) (by decide)
  · exact rowOf1 2 23 0 0 w codes2 (by decide) (by decide) (by decide) (by decide) (by decide) (by decide)
  · exact rowOf1 3 111 0 0 w codes3 (by decide) (by decide) (by decide) (by decide) (by decide) (by decide)
  · exact rowOf2 4 103 0 0 w codes4 (by decide) (by decide) (by decide) (by decide) (by decide) (by decide)
  · exact rowOf2 5 99 0 0 w codes5 (by decide) (by decide) (by decide) (by decide) (by decide) (by decide)
  · exact rowOf2 6 99 1 0 w codes6 (by decide) (by decide) (by decide) (by decide) (by decide) (by decide)
  · exact rowOf2 7 99 4 0 w codes7 (by decide) (by decide) (by decide) (by decide) (by decide) (by decide)
  · exact rowOf2 8 99 5 0 w codes8 (by decide) (by decide) (by decide) (by decide) (by decide) (by decide)
  · exact rowOf2 9 99 6 0 w codes9 (by decide) (by decide) (by decide) (by decide) (by decide) (by decide)
  · exact rowOf2 10 99 7 0 w codes10 (by decide) (by decide) (by decide) (by decide) (by decide) (by decide)
  · exact rowOf2 11 3 0 0 w codes11 (by decide) (by decide) (by decide) (by decide) (by decide) (by decide)
  · exact rowOf2 12 3 1 0 w codes12 (by decide) (by decide) (by decide) (by decide) (by decide) (by decide)
  · exact rowOf2 13 3 2 0 w codes13 (by decide) (by decide) (by decide) (by decide) (by decide) (by decide)
  · exact rowOf2 14 3 4 0 w codes14 (by decide) (by decide) (by decide) (by decide) (by decide) (by decide)
  · exact rowOf2 15 3 5 0 w codes15 (by decide) (by decide) (by decide) (by decide) (by decide) (by decide)
  · exact rowOf2 16 35 0 0 w codes16 (by decide) (by decide) (by decide) (by decide) (by decide) (by decide)
  · exact rowOf2 17 35 1 0 w codes17 (by decide) (by decide) (by decide) (by decide) (by decide) (by decide)
  · exact rowOf2 18 35 2 0 w codes18 (by decide) (by decide) (by decide) (by decide) (by decide) (by decide)
  · exact rowOf2 19 19 0 0 w codes19 (by decide) (by decide) (by decide) (by decide) (by decide) (by decide)
  · exact rowOf2 20 19 2 0 w codes20 (by decide) (by decide) (by decide) (by decide) (by decide) (by decide)
  · exact rowOf2 21 19 3 0 w codes21 (by decide) (by decide) (by decide) (by decide) (by decide) (by decide)
  · exact rowOf2 22 19 4 0 w codes22 (by decide) (by decide) (by decide) (by decide) (by decide) (by decide)
  · exact rowOf2 23 19 6 0 w codes23 (by decide) (by decide) (by decide) (by decide) (by decide) (by decide)
  · exact rowOf2 24 19 7 0 w codes24 (by decide) (by decide) (by decide) (by decide) (by decide) (by decide)
  · exact rowOf3 25 19 1 0 w codes25 (by decide) (by decide) (by decide) (by decide) (by decide) (by decide)
  · exact rowOf3 26 19 5 0 w codes26 (by decide) (by decide) (by decide) (by decide) (by decide) (by decide)
  · exact rowOf3 27 19 5 32 w codes27 (by decide) (by decide) (by decide) (by decide) (by decide) (by decide)
  · exact rowOf3 28 51 0 0 w codes28 (by decide) (by decide) (by decide) (by decide) (by decide) (by decide)
  · exact rowOf3 29 51 0 32 w codes29 (by decide) (by decide) (by decide) (by decide) (by decide) (by decide)
  · exact rowOf3 30 51 1 0 w codes30 (by decide) (by decide) (by decide) (by decide) (by decide) (by decide)
  · exact rowOf3 31 51 2 0 w codes31 (by decide) (by decide) (by decide) (by decide) (by decide) (by decide)
  · exact rowOf3 32 51 3 0 w codes32 (by decide) (by decide) (by decide) (by decide) (by decide) (by decide)
  · exact rowOf3 33 51 4 0 w codes33 (by decide) (by decide) (by decide) (by decide) (by decide) (by decide)
  · exact rowOf3 34 51 5 0 w codes34 (by decide) (by decide) (by decide) (by decide) (by decide) (by decide)
  · exact rowOf3 35 51 5 32 w codes35 (by decide) (by decide) (by decide) (by decide) (by decide) (by decide)
  · exact rowOf3 36 51 6 0 w codes36 (by decide) (by decide) (by decide) (by decide) (by decide) (by decide)
  · exact rowOf3 37 51 7 0 w codes37 (by decide) (by decide) (by decide) (by decide) (by decide) (by decide)
  · exact rowOf4 38 267386895 0 0 w codes38 (by decide) (by decide) (by decide) (by decide) (by decide) (by decide)
  · exact rowOf4 39 115 0 0 w codes39 (by decide) (by decide) (by decide) (by decide) (by decide) (by decide)
  · exact rowOf4 40 1048691 0 0 w codes40 (by decide) (by decide) (by decide) (by decide) (by decide) (by decide)
  · exact rowOf3 41 51 0 1 w codes41 (by decide) (by decide) (by decide) (by decide) (by decide) (by decide)
  · exact rowOf3 42 51 1 1 w codes42 (by decide) (by decide) (by decide) (by decide) (by decide) (by decide)
  · exact rowOf3 43 51 2 1 w codes43 (by decide) (by decide) (by decide) (by decide) (by decide) (by decide)
  · exact rowOf3 44 51 3 1 w codes44 (by decide) (by decide) (by decide) (by decide) (by decide) (by decide)
  · exact rowOf3 45 51 4 1 w codes45 (by decide) (by decide) (by decide) (by decide) (by decide) (by decide)
  · exact rowOf3 46 51 5 1 w codes46 (by decide) (by decide) (by decide) (by decide) (by decide) (by decide)
  · exact rowOf3 47 51 6 1 w codes47 (by decide) (by decide) (by decide) (by decide) (by decide) (by decide)
  · exact rowOf3 48 51 7 1 w codes48 (by decide) (by decide) (by decide) (by decide) (by decide) (by decide)
end Go.Proofs.YtabdfbghhkpoeaaDoor.R8
