/- A map of bytes that reads as a memory: what a store and a deletion make of it. -/
import Derived.Test.YtoabdbnecjbgkaaMemP
import Derived.Test.YtoabdbnecjbgkaaWord
import Derived.Maps.OwnSet
import Derived.Maps.RangeWalk
namespace Go.Proofs.Ytoabdbnecjbgkaa.M
set_option linter.unusedVariables false
open Go.ChangeShapes Go.WideShapes Go.RowKit Go.Proofs.Ytoabdbnecjbgkaa.P Go.Maps

abbrev D0 := DataW Unit
def kl (a : Int) : Lit := .int .u32 a
def bd (c : Int) : D0 := .lit (.int .u8 c)
theorem isKey (a : Int) : WideAt.IsKeyLit (kl a) := trivial
theorem kl_ne {a b : Int} (h : a ≠ b) : kl a ≠ kl b := fun e => h (by unfold kl at e; injection e)
theorem kl_inj {a b : Int} (h : kl a = kl b) : a = b := by unfold kl at h; injection h
theorem bd_inj {a b : Int} (h : bd a = bd b) : a = b := by unfold bd at h; injection h with h; injection h
/-- the map's datum is the memory: it has no byte 0 -/
structure Reads (D : D0) (M : Int → Int) : Prop where
  isMap : IsMap D
  look : ∀ a, okA a → D.atKey (kl a) (bd 0) = bd (M a)
  has_ : ∀ a, okA a → Maps.has D (kl a) = (M a != 0)
theorem Reads.made : Reads (.map []) none0 := ⟨⟨[], rfl⟩, fun a _ => rfl, fun a _ => rfl⟩
theorem Reads.put {D : D0} {M : Int → Int} (h : Reads D M) (a b : Int) (hb : b ≠ 0) : Reads (D.put (kl a) (bd b)) (upd M a b) := by
  refine ⟨?_, fun x hx => ?_, fun x hx => ?_⟩
  · obtain ⟨es, rfl⟩ := h.isMap
    exact ⟨_, rfl⟩
  · by_cases e : x = a
    · subst e
      rw [atKey_put_same h.isMap (isKey _)]
      unfold upd; simp
    · rw [atKey_put_other (kl_ne e), h.look x hx]
      unfold upd; rw [if_neg e]
  · by_cases e : x = a
    · subst e
      rw [has_put_same h.isMap (isKey _)]
      unfold upd; simp [hb]
    · rw [has_put_other (kl_ne e), h.has_ x hx]
      unfold upd; rw [if_neg e]
theorem Reads.del {D : D0} {M : Int → Int} (h : Reads D M) (a : Int) : Reads (D.del (kl a)) (upd M a 0) := by
  refine ⟨?_, fun x hx => ?_, fun x hx => ?_⟩
  · obtain ⟨es, rfl⟩ := h.isMap
    exact ⟨_, rfl⟩
  · by_cases e : x = a
    · subst e
      rw [atKey_del_same]
      unfold upd; simp
    · rw [atKey_del_other (kl_ne e), h.look x hx]
      unfold upd; rw [if_neg e]
  · by_cases e : x = a
    · subst e
      rw [has_del_same]
      unfold upd; simp
    · rw [has_del_other (kl_ne e), h.has_ x hx]
      unfold upd; rw [if_neg e]

theorem lawK : Keyed Try.prog 23 := int_keyed Try.underlying23
theorem zeroE (w : World) : (zeroValue 5).run Try.prog w = .ok (.int .u8 0) w := by kernel_rfl
theorem wfK {a : Int} (h : okA a) : (Lit.int .u32 a).wf = true := by
  unfold okA at h
  simp [Lit.wf, IntKind.min, IntKind.max, IntKind.signed, IntKind.bits]; omega
theorem wfE {b : Int} (h : 0 ≤ b ∧ b < 256) : (Lit.int .u8 b).wf = true := by
  simp [Lit.wf, IntKind.min, IntKind.max, IntKind.signed, IntKind.bits]; omega
theorem keyK {a : Int} (h : okA a) : keyOf Try.prog 23 (.int .u32 a) = some (kl a) := keyOf_int_mk Try.underlying23 (wfK h)
theorem elemE {b : Int} (h : 0 ≤ b ∧ b < 256) : plainElem (H := Unit) Try.prog 5 (.int .u8 b) = some (bd b, []) := plainElem_int Try.underlying5 (wfE h)

/-- AT p LIES A MEMORY of package mem; its map is block B, of at most n entries -/
structure MemAt (w : World) (p B n : Nat) (M : Int → Int) : Prop where
  cell : w.cell? ⟨p, 0, none⟩ = some (.map (some B))
  byt : Byt M
  owns : ∃ D : D0, w.ownsMap Try.prog 23 (plainElem Try.prog 5) B n D ∧ Reads D M
theorem MemAt.ltp {w : World} {p B n : Nat} {M : Int → Int} (h : MemAt w p B n M) : p < w.heap.size := World.block_lt_of_cell? w _ h.cell
theorem MemAt.ltB {w : World} {p B n : Nat} {M : Int → Int} (h : MemAt w p B n M) : B < w.heap.size := by
  obtain ⟨D, hD, _⟩ := h.owns
  exact hD.lt
theorem MemAt.ne {w : World} {p B n : Nat} {M : Int → Int} (h : MemAt w p B n M) : p ≠ B := by
  intro e
  obtain ⟨D, ⟨es, clock, hb, _⟩, _⟩ := h.owns
  have hc := h.cell
  subst e
  simp [World.cell?, hb] at hc
theorem MemAt.mono {w : World} {p B n m : Nat} {M : Int → Int} (h : MemAt w p B n M) (hn : n ≤ m) : MemAt w p B m M := by
  obtain ⟨D, h1, h2⟩ := h.owns
  exact ⟨h.cell, h.byt, D, h1.mono hn, h2⟩
theorem cell_grown {w w' : World} {row : Option Nat} (hg : w.grownBy w' row) {a : Addr} (ha : a.block < w.heap.size) (hr : some a.block ≠ row) : w'.cell? a = w.cell? a := by
  unfold World.cell?
  rw [hg.block a.block ha hr]
theorem MemAt.kept {w w' : World} {p B n : Nat} {M : Int → Int} {row : Option Nat} (h : MemAt w p B n M) (hg : w.grownBy w' row) (hp : some p ≠ row) (hB : some B ≠ row) : MemAt w' p B n M := by
  obtain ⟨D, h1, h2⟩ := h.owns
  exact ⟨(cell_grown hg h.ltp hp).trans h.cell, h.byt, D, h1.kept hg hB, h2⟩
theorem grown_of_below {w w' : World} (h : Below w.heap.size w w') : w.grownBy w' none := ⟨h.os, h.tape, h.output, h.size, fun k hk _ => h.block k hk⟩
theorem MemAt.below {w w' : World} {p B n : Nat} {M : Int → Int} (h : MemAt w p B n M) (hb : Below w.heap.size w w') : MemAt w' p B n M := h.kept (grown_of_below hb) (by simp) (by simp)
/-- what lies below both blocks is kept, too -/
theorem MemAt.under {w w' : World} {p B n b : Nat} {M : Int → Int} (h : MemAt w p B n M) (hb : Below b w w') (hp : p < b) (hB : B < b) : MemAt w' p B n M := by
  obtain ⟨D, ⟨es, clock, h1, h1'⟩, h2⟩ := h.owns
  exact ⟨(hb.cell (p := ⟨p, 0, none⟩) hp).trans h.cell, h.byt, D, ⟨es, clock, (hb.block B hB).trans h1, h1'⟩, h2⟩
end Go.Proofs.Ytoabdbnecjbgkaa.M
