/- Acts that come in as an argument: what they are. -/
import Derived.Test.YtoabdbnecjbgkaaMemG
import Derived.Test.YtoabdbnecjbgkaaCells
namespace Go.Proofs.Ytoabdbnecjbgkaa.M
set_option linter.unusedVariables false
open Go.ChangeShapes Go.WideShapes Go.RowKit Go.Proofs.Ytoabdbnecjbgkaa.P Go.Deep

structure Deed where
  kind : Int
  at_ : Int
  n : Int
  v : Int
  bv : Value
  b : List Int
def okI (n : Int) : Prop := -9223372036854775808 ≤ n ∧ n < 9223372036854775808
structure okDeed (w : World) (a : Deed) : Prop where
  hk : okI a.kind
  ha : okA a.at_
  hn : okI a.n
  hv : okA a.v
  hb : BytesAt w a.bv a.b
  hby : ∀ b ∈ a.b, 0 ≤ b ∧ b < 256
  hl : a.b.length ≤ maxLen
  hlt : 0 < a.b.length → ∀ x n c, a.bv = .slice (some x) n c → x.block < w.heap.size
def deed0 : Deed := ⟨0, 0, 0, 0, .slice none 0 0, []⟩
/-- a slice of acts that came in -/
def ActsAt (w : World) (v : Value) (l : List Deed) : Prop :=
  ∃ (ao : Option Addr) (cap : Nat), v = .slice ao l.length cap ∧ ∀ i, i < l.length → ∃ b o, ao = some ⟨b, o, none⟩ ∧
    w.cell? ⟨b, o + i * 5, none⟩ = some (.int .i64 (l.getD i deed0).kind) ∧ w.cell? ⟨b, o + i * 5 + 1, none⟩ = some (.int .u32 (l.getD i deed0).at_) ∧
    w.cell? ⟨b, o + i * 5 + 2, none⟩ = some (.int .i64 (l.getD i deed0).n) ∧ w.cell? ⟨b, o + i * 5 + 3, none⟩ = some (.int .u32 (l.getD i deed0).v) ∧
    w.cell? ⟨b, o + i * 5 + 4, none⟩ = some (l.getD i deed0).bv
theorem wf64 {n : Int} (h : (Lit.int .i64 n).wf = true) : okI n := by
  have : -9223372036854775808 ≤ n ∧ n ≤ 9223372036854775807 := by simpa [Lit.wf, IntKind.min, IntKind.max, IntKind.signed, IntKind.bits] using h
  unfold okI; omega
theorem plain_spot {w : World} {a : Addr} {v : Value} (h : w.cell? (a.add 0) = some v) : a = ⟨a.block, a.off, none⟩ := by
  have hs := World.cell?_spot h
  obtain ⟨b, o, sp⟩ := a
  simp [Addr.add] at hs
  simp [hs]
instance : Inhabited Deed := ⟨deed0⟩
set_option maxRecDepth 100000 in
theorem open_bytes {H : Type} {enc : TypeId × Value → H} {w : World} {base : Nat} {spare : Nat → Bool} {held : Bool} {fuel : Nat} {cs : List Value} {x : DataW H × List MemPlace}
    (h : DataW.trod enc Try.prog w base spare held fuel 39 cs = some x) : ∃ (v : Value) (l : List Int), cs = [v] ∧ BytesAt w v l ∧ (∀ b ∈ l, 0 ≤ b ∧ b < 256) ∧ l.length ≤ maxLen ∧ (0 < l.length → ∀ x n c, v = .slice (some x) n c → x.block < w.heap.size) := by
  rcases open_slice1 Try.underlying39 cellsU8 h with ⟨rfl, _⟩ | ⟨a, len, cap, m, n, V, D, Pl, rfl, hb, hl, hm, hmm, _, hx⟩
  · exact ⟨_, [], rfl, ⟨none, 0, rfl, fun i hi => by simp at hi⟩, by simp, by simp, by simp⟩
  · have hlm : len ≤ m := by rw [hmm]; split <;> omega
    have each : ∀ i, i < len → ∃ c : Int, V i = .int .u8 c ∧ (0 ≤ c ∧ c < 256) := fun i hi => by
      obtain ⟨y, f1, f2, f3⟩ := DataW.trod_int Try.underlying5 (hx i (by omega)).2
      exact ⟨y, by simpa using f1, wf8 f3⟩
    obtain ⟨q, hq⟩ := choose_lt each
    refine ⟨_, (List.range len).map q, rfl, ⟨some a, cap, by simp, fun i hi => ?_⟩, ?_, by simp; omega, ?_⟩
    · have hi2 : i < len := by simpa using hi
      have e : ((List.range len).map q).getD i 0 = q i := by simp [List.getD, hi2]
      have g0 := (hx i (by omega)).1
      have ea := plain_spot (hx 0 (by omega)).1
      refine ⟨a.block, a.off, by rw [← ea], ?_⟩
      rw [e, ← (hq i hi2).1, ← g0]
      conv => rhs; rw [ea]
      rw [Addr.add_lit]
    · intro c hc
      obtain ⟨i, hi, rfl⟩ := List.mem_map.1 hc
      exact (hq i (by simpa using hi)).2
    · intro h0 x n c e
      have h02 : 0 < len := by simpa using h0
      have g0 := (hx 0 (by omega)).1
      have ea := plain_spot g0
      rw [ea, Addr.add_lit] at g0
      injection e with e1
      injection e1 with e1
      subst e1
      exact World.block_lt_of_cell? w ⟨a.block, _, none⟩ g0
theorem cellsDeed : Try.prog.cellsOf 41 = 5 := by kernel_rfl
theorem cellsI : Try.prog.cellsOf 3 = 1 := by kernel_rfl
theorem cellsBs : Try.prog.cellsOf 39 = 1 := by kernel_rfl
set_option maxRecDepth 100000 in
theorem open_acts {H : Type} {enc : TypeId × Value → H} {w : World} {base : Nat} {spare : Nat → Bool} {held : Bool} {r : Reach} {b0 : Nat} {v : Value} {d : DataW H} {p : List MemPlace}
    (hv : Value.okWide Try.prog w r b0 35 v) (h : DataW.Trod enc Try.prog w base spare held 35 v d p) : ∃ l : List Deed, ActsAt w v l ∧ (∀ c ∈ l, okDeed w c) ∧ l.length ≤ maxLen := by
  obtain ⟨a0, len0, cap0, rfl⟩ := okWide_slice Try.underlying35 hv
  have hcl : (Value.slice a0 len0 cap0).cells.toList = [Value.slice a0 len0 cap0] := rfl
  obtain ⟨fuel, hf⟩ := h
  rw [hcl] at hf
  rcases open_slice Try.underlying35 hf with ⟨h1, _⟩ | ⟨a, len, cap, m, n, D, Pl, h1, h2, h3, h4, h5, h6, h7⟩
  · exact ⟨[], ⟨none, 0, by simpa using h1, fun i hi => by simp at hi⟩, by simp, by simp⟩
  · have hlm : len ≤ m := by rw [h5]; split <;> omega
    have each : ∀ i, i < len → ∃ c : Deed, w.cell? (a.add (i * 5)) = some (.int .i64 c.kind) ∧ w.cell? (a.add (i * 5 + 1)) = some (.int .u32 c.at_) ∧ w.cell? (a.add (i * 5 + 2)) = some (.int .i64 c.n) ∧
        w.cell? (a.add (i * 5 + 3)) = some (.int .u32 c.v) ∧ w.cell? (a.add (i * 5 + 4)) = some c.bv ∧ okDeed w c := fun i hi => by
      obtain ⟨cs', g1, g2⟩ := h7 i (by omega)
      rw [cellsDeed] at g1
      obtain ⟨_, hlen, hcell⟩ := World.cells?_some g1
      obtain ⟨xs, k, hk, hxy, _, hxl, hf⟩ := DataW.trod_struct Try.underlying41 g2
      match xs, hxl, cs', hlen with
      | [y0, y1, y2, y3, y4], _, [v0, v1, v2, v3, v4], _ =>
        have f0 := hf 0 _ rfl
        have f1 := hf 1 _ rfl
        have f2 := hf 2 _ rfl
        have f3 := hf 3 _ rfl
        have f4 := hf 4 _ rfl
        simp [cellsI, cellsU32, cellsBs] at f0 f1 f2 f3 f4
        have e0 := hcell 0 (by omega)
        have e1 := hcell 1 (by omega)
        have e2 := hcell 2 (by omega)
        have e3 := hcell 3 (by omega)
        have e4 := hcell 4 (by omega)
        rw [add_add] at e0 e1 e2 e3 e4
        obtain ⟨x0, p0, -, q0⟩ := DataW.trod_int Try.underlying3 f0
        obtain ⟨x1, p1, -, q1⟩ := DataW.trod_int Try.underlying23 f1
        obtain ⟨x2, p2, -, q2⟩ := DataW.trod_int Try.underlying3 f2
        obtain ⟨x3, p3, -, q3⟩ := DataW.trod_int Try.underlying23 f3
        obtain ⟨bv, bl, p4, q4, q5, q6, q7⟩ := open_bytes f4
        simp at p0 p1 p2 p3 p4
        subst p0 p1 p2 p3 p4
        refine ⟨⟨x0, x1, x2, x3, v4, bl⟩, by simpa using e0, by simpa using e1, by simpa using e2, by simpa using e3, by simpa using e4, ⟨wf64 q0, wf32 q1, wf64 q2, wf32 q3, q4, q5, q6, q7⟩⟩
    obtain ⟨q, hq⟩ := choose_lt each
    refine ⟨(List.range len).map q, ⟨some a, cap, by simpa using h1, fun i hi => ?_⟩, ?_, by simp; omega⟩
    · have hi2 : i < len := by simpa using hi
      have e : ((List.range len).map q).getD i deed0 = q i := by simp [List.getD, hi2]
      obtain ⟨g0, g1, g2, g3, g4, -⟩ := hq i hi2
      have ea := plain_spot (by simpa using (hq 0 (by omega)).1)
      rw [ea, Addr.add_lit] at g0 g1 g2 g3 g4
      rw [e]
      exact ⟨a.block, a.off, by rw [← ea], g0, g1, g2, g3, g4⟩
    · intro c hc
      obtain ⟨i, hi, rfl⟩ := List.mem_map.1 hc
      exact (hq i (by simpa using hi)).2.2.2.2.2
theorem ActsAt.old {w w' : World} {v : Value} {l : List Deed} (h : ActsAt w v l) (hb : Below w.heap.size w w') : ActsAt w' v l := by
  obtain ⟨ao, cap, h1, h3⟩ := h
  refine ⟨ao, cap, h1, fun i hi => ?_⟩
  obtain ⟨b, o, rfl, g0, g1, g2, g3, g4⟩ := h3 i hi
  have h2 := World.block_lt_of_cell? w _ g0
  have hc : ∀ j, w'.cell? ⟨b, j, none⟩ = w.cell? ⟨b, j, none⟩ := fun j => hb.cell (p := ⟨b, j, none⟩) h2
  exact ⟨b, o, rfl, (hc _).trans g0, (hc _).trans g1, (hc _).trans g2, (hc _).trans g3, (hc _).trans g4⟩
theorem okDeed.old {w w' : World} {c : Deed} (h : okDeed w c) (hb : Below w.heap.size w w') : okDeed w' c :=
  ⟨h.hk, h.ha, h.hn, h.hv, h.hb.old hb, h.hby, h.hl, fun h0 x n c e => Nat.lt_of_lt_of_le (h.hlt h0 x n c e) hb.size⟩
theorem RefAt.apart {w w' : World} {p : Nat} {l : List (Int × Int)} (h : RefAt w p l) (hb : Below w.heap.size w w') {k : Nat} (hk : w.heap.size ≤ k) : Apart w' p k := by
  have hp := h.ltp
  obtain ⟨v, hv, hc⟩ := h.row
  refine ⟨by omega, ?_⟩
  rw [refBlock_of ((hb.cell (p := ⟨p, 0, none⟩) hp).trans hv)]
  intro e
  have := (World.ownsRow.lt hc k e.symm).2
  omega
theorem Apart.kept {w w' : World} {p k : Nat} (h : Apart w p k) (e : w'.cell? ⟨p, 0, none⟩ = w.cell? ⟨p, 0, none⟩) : Apart w' p k := by
  refine ⟨h.1, ?_⟩
  have := h.2
  unfold refBlock at this ⊢
  rw [e]; exact this
theorem size_of_block {w w' : World} {b : Nat} (hl : b < w.heap.size) (e : w'.heap[b]? = w.heap[b]?) : b < w'.heap.size := by
  have : w.heap[b]? ≠ none := by rw [Array.getElem?_eq_getElem hl]; simp
  rw [← e] at this
  exact Nat.lt_of_not_le fun hh => this (Array.getElem?_eq_none hh)
theorem inst_blk {w w' : World} {b : Nat} {v0 v1 v2 v3 v4 : Value} (h : W.Inst w b v0 v1 v2 v3 v4) (e : w'.heap[b]? = w.heap[b]?) : W.Inst w' b v0 v1 v2 v3 v4 :=
  ⟨size_of_block h.lt e, (World.cell?_of_block (w := w) e).trans h.c0, (World.cell?_of_block (w := w) e).trans h.c1, (World.cell?_of_block (w := w) e).trans h.c2, (World.cell?_of_block (w := w) e).trans h.c3, (World.cell?_of_block (w := w) e).trans h.c4⟩
theorem same_sym {PR : Program} {f : FuncId} {args : Array Value} {w : World} {v : Value} (h : Calls PR f args w fun e w' => e = .returned v ∧ w = w') : Calls PR f args w fun e w' => e = .returned v ∧ w' = w := h.mono fun _ _ h => ⟨h.1, h.2.symm⟩
end Go.Proofs.Ytoabdbnecjbgkaa.M
