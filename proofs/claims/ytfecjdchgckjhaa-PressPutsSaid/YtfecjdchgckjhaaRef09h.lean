/- What typecaseref09.places computes, name by name. -/
import Derived.Test.YtfecjdchgckjhaaRef09a
namespace Go.Proofs.Ytfecjdchgckjhaa.R9
set_option linter.unusedVariables false
set_option linter.unusedSimpArgs false
open Go.ChangeShapes Go.WideShapes Go.ChangeAt Go.RowKit Go.Proofs.Ytfecjdchgckjhaa.P Go.Proofs.Ytfecjdchgckjhaa.W Go.Proofs.Ytfecjdchgckjhaa.F

/-- numbers in a row, or nil -/
def IntsLit (w : World) (v : Value) (l : List Int) : Prop := (v = .slice none 0 0 ∧ l = []) ∨ ∃ b, v = .slice (some ⟨b, 0, none⟩) l.length l.length ∧ b < w.heap.size ∧ ∀ k, k < l.length → w.cell? ⟨b, k, none⟩ = some (.int .i64 (l.getD k 0))
theorem IntsLit.below {w w' : World} {v : Value} {l : List Int} (h : IntsLit w v l) (hb : Below w.heap.size w w') : IntsLit w' v l := by
  rcases h with h | ⟨b, h1, h2, h3⟩
  · exact .inl h
  · exact .inr ⟨b, h1, Nat.lt_of_lt_of_le h2 hb.size, fun k hk => (hb.cell (p := ⟨b, k, none⟩) h2).trans (h3 k hk)⟩
theorem IntsLit.new (w : World) (t : TypeId) (l : List Int) (n : Nat) (hn : n = l.length) : IntsLit (w.alloc (.cells (l.map (Value.int .i64)).toArray t)) (.slice (some ⟨w.heap.size, 0, none⟩) n n) l := by
  subst hn
  refine .inr ⟨w.heap.size, rfl, by simp, fun k hk => (F.cell_new _ _ _ _).trans ?_⟩
  simp [hk]
set_option maxHeartbeats 8000000 in
theorem places (k : Nat) (w : World) (hk : k < 27) :
    Calls Try.prog 25 #[.string (prAt k).nm] w fun e w' => ∃ v, e = .returned (.tuple #[v, .int .i64 (unitK k)]) ∧ IntsLit w' v (placesK k) ∧ Below w.heap.size w w' := by
  have hc : k = 0 ∨ k = 1 ∨ k = 2 ∨ k = 3 ∨ k = 4 ∨ k = 5 ∨ k = 6 ∨ k = 7 ∨ k = 8 ∨ k = 9 ∨ k = 10 ∨ k = 11 ∨ k = 12 ∨ k = 13 ∨ k = 14 ∨ k = 15 ∨ k = 16 ∨ k = 17 ∨ k = 18 ∨ k = 19 ∨ k = 20 ∨ k = 21 ∨ k = 22 ∨ k = 23 ∨ k = 24 ∨ k = 25 ∨ k = 26 := by omega
  clear hk
  rcases hc with rfl | rfl | rfl | rfl | rfl | rfl | rfl | rfl | rfl | rfl | rfl | rfl | rfl | rfl | rfl | rfl | rfl | rfl | rfl | rfl | rfl | rfl | rfl | rfl | rfl | rfl | rfl
  · show Calls Try.prog 25 #[.string ⟨#[99, 46, 97, 100, 100, 105, 52, 115, 112, 110]⟩] w _
    go_enter Try.func25, Try.ntmps25
    go_wp2
    go_ret2
    exact ⟨_, rfl, IntsLit.new w _ [10, 9, 8, 7, 12, 11, 5, 6] 8 rfl, (by repeat' (first | (with_reducible exact Below.refl _ _) | (with_reducible assumption) | (with_reducible refine below_drewN ?_ _) | (with_reducible refine Below.alloc ?_ ?_ _) | (with_reducible refine Below.drew ?_) | (with_reducible refine Below.setCell ?_ ?_ _) | (with_reducible exact Below.size (by assumption)) | go_size))⟩
  · show Calls Try.prog 25 #[.string ⟨#[99, 46, 108, 119]⟩] w _
    go_enter Try.func25, Try.ntmps25
    go_wp2
    go_ret2
    exact ⟨_, rfl, IntsLit.new w _ [5, 12, 11, 10, 6] 5 rfl, (by repeat' (first | (with_reducible exact Below.refl _ _) | (with_reducible assumption) | (with_reducible refine below_drewN ?_ _) | (with_reducible refine Below.alloc ?_ ?_ _) | (with_reducible refine Below.drew ?_) | (with_reducible refine Below.setCell ?_ ?_ _) | (with_reducible exact Below.size (by assumption)) | go_size))⟩
  · show Calls Try.prog 25 #[.string ⟨#[99, 46, 115, 119]⟩] w _
    go_enter Try.func25, Try.ntmps25
    go_wp2
    go_ret2
    exact ⟨_, rfl, IntsLit.new w _ [5, 12, 11, 10, 6] 5 rfl, (by repeat' (first | (with_reducible exact Below.refl _ _) | (with_reducible assumption) | (with_reducible refine below_drewN ?_ _) | (with_reducible refine Below.alloc ?_ ?_ _) | (with_reducible refine Below.drew ?_) | (with_reducible refine Below.setCell ?_ ?_ _) | (with_reducible exact Below.size (by assumption)) | go_size))⟩
  · show Calls Try.prog 25 #[.string ⟨#[99, 46, 110, 111, 112]⟩] w _
    go_enter Try.func25, Try.ntmps25
    go_wp2
    go_ret2
    exact ⟨_, rfl, .inl ⟨rfl, rfl⟩, (by repeat' (first | (with_reducible exact Below.refl _ _) | (with_reducible assumption) | (with_reducible refine below_drewN ?_ _) | (with_reducible refine Below.alloc ?_ ?_ _) | (with_reducible refine Below.drew ?_) | (with_reducible refine Below.setCell ?_ ?_ _) | (with_reducible exact Below.size (by assumption)) | go_size))⟩
  · show Calls Try.prog 25 #[.string ⟨#[99, 46, 97, 100, 100, 105]⟩] w _
    go_enter Try.func25, Try.ntmps25
    go_wp2
    go_ret2
    exact ⟨_, rfl, IntsLit.new w _ [12, 6, 5, 4, 3, 2] 6 rfl, (by repeat' (first | (with_reducible exact Below.refl _ _) | (with_reducible assumption) | (with_reducible refine below_drewN ?_ _) | (with_reducible refine Below.alloc ?_ ?_ _) | (with_reducible refine Below.drew ?_) | (with_reducible refine Below.setCell ?_ ?_ _) | (with_reducible exact Below.size (by assumption)) | go_size))⟩
  · show Calls Try.prog 25 #[.string ⟨#[99, 46, 106, 97, 108]⟩] w _
    go_enter Try.func25, Try.ntmps25
    go_wp2
    go_ret2
    exact ⟨_, rfl, IntsLit.new w _ [12, 8, 10, 9, 6, 7, 2, 11, 5, 4, 3] 11 rfl, (by repeat' (first | (with_reducible exact Below.refl _ _) | (with_reducible assumption) | (with_reducible refine below_drewN ?_ _) | (with_reducible refine Below.alloc ?_ ?_ _) | (with_reducible refine Below.drew ?_) | (with_reducible refine Below.setCell ?_ ?_ _) | (with_reducible exact Below.size (by assumption)) | go_size))⟩
  · show Calls Try.prog 25 #[.string ⟨#[99, 46, 108, 105]⟩] w _
    go_enter Try.func25, Try.ntmps25
    go_wp2
    go_ret2
    exact ⟨_, rfl, IntsLit.new w _ [12, 6, 5, 4, 3, 2] 6 rfl, (by repeat' (first | (with_reducible exact Below.refl _ _) | (with_reducible assumption) | (with_reducible refine below_drewN ?_ _) | (with_reducible refine Below.alloc ?_ ?_ _) | (with_reducible refine Below.drew ?_) | (with_reducible refine Below.setCell ?_ ?_ _) | (with_reducible exact Below.size (by assumption)) | go_size))⟩
  · show Calls Try.prog 25 #[.string ⟨#[99, 46, 97, 100, 100, 105, 49, 54, 115, 112]⟩] w _
    go_enter Try.func25, Try.ntmps25
    go_wp2
    go_ret2
    exact ⟨_, rfl, IntsLit.new w _ [12, 4, 3, 5, 2, 6] 6 rfl, (by repeat' (first | (with_reducible exact Below.refl _ _) | (with_reducible assumption) | (with_reducible refine below_drewN ?_ _) | (with_reducible refine Below.alloc ?_ ?_ _) | (with_reducible refine Below.drew ?_) | (with_reducible refine Below.setCell ?_ ?_ _) | (with_reducible exact Below.size (by assumption)) | go_size))⟩
  · show Calls Try.prog 25 #[.string ⟨#[99, 46, 108, 117, 105]⟩] w _
    go_enter Try.func25, Try.ntmps25
    go_wp2
    go_ret2
    exact ⟨_, rfl, IntsLit.new w _ [12, 6, 5, 4, 3, 2] 6 rfl, (by repeat' (first | (with_reducible exact Below.refl _ _) | (with_reducible assumption) | (with_reducible refine below_drewN ?_ _) | (with_reducible refine Below.alloc ?_ ?_ _) | (with_reducible refine Below.drew ?_) | (with_reducible refine Below.setCell ?_ ?_ _) | (with_reducible exact Below.size (by assumption)) | go_size))⟩
  · show Calls Try.prog 25 #[.string ⟨#[99, 46, 115, 114, 108, 105]⟩] w _
    go_enter Try.func25, Try.ntmps25
    go_wp2
    go_ret2
    exact ⟨_, rfl, IntsLit.new w _ [6, 5, 4, 3, 2] 5 rfl, (by repeat' (first | (with_reducible exact Below.refl _ _) | (with_reducible assumption) | (with_reducible refine below_drewN ?_ _) | (with_reducible refine Below.alloc ?_ ?_ _) | (with_reducible refine Below.drew ?_) | (with_reducible refine Below.setCell ?_ ?_ _) | (with_reducible exact Below.size (by assumption)) | go_size))⟩
  · show Calls Try.prog 25 #[.string ⟨#[99, 46, 115, 114, 97, 105]⟩] w _
    go_enter Try.func25, Try.ntmps25
    go_wp2
    go_ret2
    exact ⟨_, rfl, IntsLit.new w _ [6, 5, 4, 3, 2] 5 rfl, (by repeat' (first | (with_reducible exact Below.refl _ _) | (with_reducible assumption) | (with_reducible refine below_drewN ?_ _) | (with_reducible refine Below.alloc ?_ ?_ _) | (with_reducible refine Below.drew ?_) | (with_reducible refine Below.setCell ?_ ?_ _) | (with_reducible exact Below.size (by assumption)) | go_size))⟩
  · show Calls Try.prog 25 #[.string ⟨#[99, 46, 97, 110, 100, 105]⟩] w _
    go_enter Try.func25, Try.ntmps25
    go_wp2
    go_ret2
    exact ⟨_, rfl, IntsLit.new w _ [12, 6, 5, 4, 3, 2] 6 rfl, (by repeat' (first | (with_reducible exact Below.refl _ _) | (with_reducible assumption) | (with_reducible refine below_drewN ?_ _) | (with_reducible refine Below.alloc ?_ ?_ _) | (with_reducible refine Below.drew ?_) | (with_reducible refine Below.setCell ?_ ?_ _) | (with_reducible exact Below.size (by assumption)) | go_size))⟩
  · show Calls Try.prog 25 #[.string ⟨#[99, 46, 115, 117, 98]⟩] w _
    go_enter Try.func25, Try.ntmps25
    go_wp2
    go_ret2
    exact ⟨_, rfl, .inl ⟨rfl, rfl⟩, (by repeat' (first | (with_reducible exact Below.refl _ _) | (with_reducible assumption) | (with_reducible refine below_drewN ?_ _) | (with_reducible refine Below.alloc ?_ ?_ _) | (with_reducible refine Below.drew ?_) | (with_reducible refine Below.setCell ?_ ?_ _) | (with_reducible exact Below.size (by assumption)) | go_size))⟩
  · show Calls Try.prog 25 #[.string ⟨#[99, 46, 120, 111, 114]⟩] w _
    go_enter Try.func25, Try.ntmps25
    go_wp2
    go_ret2
    exact ⟨_, rfl, .inl ⟨rfl, rfl⟩, (by repeat' (first | (with_reducible exact Below.refl _ _) | (with_reducible assumption) | (with_reducible refine below_drewN ?_ _) | (with_reducible refine Below.alloc ?_ ?_ _) | (with_reducible refine Below.drew ?_) | (with_reducible refine Below.setCell ?_ ?_ _) | (with_reducible exact Below.size (by assumption)) | go_size))⟩
  · show Calls Try.prog 25 #[.string ⟨#[99, 46, 111, 114]⟩] w _
    go_enter Try.func25, Try.ntmps25
    go_wp2
    go_ret2
    exact ⟨_, rfl, .inl ⟨rfl, rfl⟩, (by repeat' (first | (with_reducible exact Below.refl _ _) | (with_reducible assumption) | (with_reducible refine below_drewN ?_ _) | (with_reducible refine Below.alloc ?_ ?_ _) | (with_reducible refine Below.drew ?_) | (with_reducible refine Below.setCell ?_ ?_ _) | (with_reducible exact Below.size (by assumption)) | go_size))⟩
  · show Calls Try.prog 25 #[.string ⟨#[99, 46, 97, 110, 100]⟩] w _
    go_enter Try.func25, Try.ntmps25
    go_wp2
    go_ret2
    exact ⟨_, rfl, .inl ⟨rfl, rfl⟩, (by repeat' (first | (with_reducible exact Below.refl _ _) | (with_reducible assumption) | (with_reducible refine below_drewN ?_ _) | (with_reducible refine Below.alloc ?_ ?_ _) | (with_reducible refine Below.drew ?_) | (with_reducible refine Below.setCell ?_ ?_ _) | (with_reducible exact Below.size (by assumption)) | go_size))⟩
  · show Calls Try.prog 25 #[.string ⟨#[99, 46, 106]⟩] w _
    go_enter Try.func25, Try.ntmps25
    go_wp2
    go_ret2
    exact ⟨_, rfl, IntsLit.new w _ [12, 8, 10, 9, 6, 7, 2, 11, 5, 4, 3] 11 rfl, (by repeat' (first | (with_reducible exact Below.refl _ _) | (with_reducible assumption) | (with_reducible refine below_drewN ?_ _) | (with_reducible refine Below.alloc ?_ ?_ _) | (with_reducible refine Below.drew ?_) | (with_reducible refine Below.setCell ?_ ?_ _) | (with_reducible exact Below.size (by assumption)) | go_size))⟩
  · show Calls Try.prog 25 #[.string ⟨#[99, 46, 98, 101, 113, 122]⟩] w _
    go_enter Try.func25, Try.ntmps25
    go_wp2
    go_ret2
    exact ⟨_, rfl, IntsLit.new w _ [12, 6, 5, 2, 11, 10, 4, 3] 8 rfl, (by repeat' (first | (with_reducible exact Below.refl _ _) | (with_reducible assumption) | (with_reducible refine below_drewN ?_ _) | (with_reducible refine Below.alloc ?_ ?_ _) | (with_reducible refine Below.drew ?_) | (with_reducible refine Below.setCell ?_ ?_ _) | (with_reducible exact Below.size (by assumption)) | go_size))⟩
  · show Calls Try.prog 25 #[.string ⟨#[99, 46, 98, 110, 101, 122]⟩] w _
    go_enter Try.func25, Try.ntmps25
    go_wp2
    go_ret2
    exact ⟨_, rfl, IntsLit.new w _ [12, 6, 5, 2, 11, 10, 4, 3] 8 rfl, (by repeat' (first | (with_reducible exact Below.refl _ _) | (with_reducible assumption) | (with_reducible refine below_drewN ?_ _) | (with_reducible refine Below.alloc ?_ ?_ _) | (with_reducible refine Below.drew ?_) | (with_reducible refine Below.setCell ?_ ?_ _) | (with_reducible exact Below.size (by assumption)) | go_size))⟩
  · show Calls Try.prog 25 #[.string ⟨#[99, 46, 115, 108, 108, 105]⟩] w _
    go_enter Try.func25, Try.ntmps25
    go_wp2
    go_ret2
    exact ⟨_, rfl, IntsLit.new w _ [6, 5, 4, 3, 2] 5 rfl, (by repeat' (first | (with_reducible exact Below.refl _ _) | (with_reducible assumption) | (with_reducible refine below_drewN ?_ _) | (with_reducible refine Below.alloc ?_ ?_ _) | (with_reducible refine Below.drew ?_) | (with_reducible refine Below.setCell ?_ ?_ _) | (with_reducible exact Below.size (by assumption)) | go_size))⟩
  · show Calls Try.prog 25 #[.string ⟨#[99, 46, 108, 119, 115, 112]⟩] w _
    go_enter Try.func25, Try.ntmps25
    go_wp2
    go_ret2
    exact ⟨_, rfl, IntsLit.new w _ [3, 2, 12, 6, 5, 4] 6 rfl, (by repeat' (first | (with_reducible exact Below.refl _ _) | (with_reducible assumption) | (with_reducible refine below_drewN ?_ _) | (with_reducible refine Below.alloc ?_ ?_ _) | (with_reducible refine Below.drew ?_) | (with_reducible refine Below.setCell ?_ ?_ _) | (with_reducible exact Below.size (by assumption)) | go_size))⟩
  · show Calls Try.prog 25 #[.string ⟨#[99, 46, 106, 114]⟩] w _
    go_enter Try.func25, Try.ntmps25
    go_wp2
    go_ret2
    exact ⟨_, rfl, .inl ⟨rfl, rfl⟩, (by repeat' (first | (with_reducible exact Below.refl _ _) | (with_reducible assumption) | (with_reducible refine below_drewN ?_ _) | (with_reducible refine Below.alloc ?_ ?_ _) | (with_reducible refine Below.drew ?_) | (with_reducible refine Below.setCell ?_ ?_ _) | (with_reducible exact Below.size (by assumption)) | go_size))⟩
  · show Calls Try.prog 25 #[.string ⟨#[99, 46, 109, 118]⟩] w _
    go_enter Try.func25, Try.ntmps25
    go_wp2
    go_ret2
    exact ⟨_, rfl, .inl ⟨rfl, rfl⟩, (by repeat' (first | (with_reducible exact Below.refl _ _) | (with_reducible assumption) | (with_reducible refine below_drewN ?_ _) | (with_reducible refine Below.alloc ?_ ?_ _) | (with_reducible refine Below.drew ?_) | (with_reducible refine Below.setCell ?_ ?_ _) | (with_reducible exact Below.size (by assumption)) | go_size))⟩
  · show Calls Try.prog 25 #[.string ⟨#[99, 46, 101, 98, 114, 101, 97, 107]⟩] w _
    go_enter Try.func25, Try.ntmps25
    go_wp2
    go_ret2
    exact ⟨_, rfl, .inl ⟨rfl, rfl⟩, (by repeat' (first | (with_reducible exact Below.refl _ _) | (with_reducible assumption) | (with_reducible refine below_drewN ?_ _) | (with_reducible refine Below.alloc ?_ ?_ _) | (with_reducible refine Below.drew ?_) | (with_reducible refine Below.setCell ?_ ?_ _) | (with_reducible exact Below.size (by assumption)) | go_size))⟩
  · show Calls Try.prog 25 #[.string ⟨#[99, 46, 106, 97, 108, 114]⟩] w _
    go_enter Try.func25, Try.ntmps25
    go_wp2
    go_ret2
    exact ⟨_, rfl, .inl ⟨rfl, rfl⟩, (by repeat' (first | (with_reducible exact Below.refl _ _) | (with_reducible assumption) | (with_reducible refine below_drewN ?_ _) | (with_reducible refine Below.alloc ?_ ?_ _) | (with_reducible refine Below.drew ?_) | (with_reducible refine Below.setCell ?_ ?_ _) | (with_reducible exact Below.size (by assumption)) | go_size))⟩
  · show Calls Try.prog 25 #[.string ⟨#[99, 46, 97, 100, 100]⟩] w _
    go_enter Try.func25, Try.ntmps25
    go_wp2
    go_ret2
    exact ⟨_, rfl, .inl ⟨rfl, rfl⟩, (by repeat' (first | (with_reducible exact Below.refl _ _) | (with_reducible assumption) | (with_reducible refine below_drewN ?_ _) | (with_reducible refine Below.alloc ?_ ?_ _) | (with_reducible refine Below.drew ?_) | (with_reducible refine Below.setCell ?_ ?_ _) | (with_reducible exact Below.size (by assumption)) | go_size))⟩
  · show Calls Try.prog 25 #[.string ⟨#[99, 46, 115, 119, 115, 112]⟩] w _
    go_enter Try.func25, Try.ntmps25
    go_wp2
    go_ret2
    exact ⟨_, rfl, IntsLit.new w _ [8, 7, 12, 11, 10, 9] 6 rfl, (by repeat' (first | (with_reducible exact Below.refl _ _) | (with_reducible assumption) | (with_reducible refine below_drewN ?_ _) | (with_reducible refine Below.alloc ?_ ?_ _) | (with_reducible refine Below.drew ?_) | (with_reducible refine Below.setCell ?_ ?_ _) | (with_reducible exact Below.size (by assumption)) | go_size))⟩
end Go.Proofs.Ytfecjdchgckjhaa.R9
