/- What (*typecaseref02.Mem).Cells computes. -/
import Derived.Test.YtoabdbnecjbgkaaMemV
import Derived.RegionTactic
import Derived.BigRegion
import Derived.Deep.RegionWith
import Derived.BigQuiet
import Derived.Deep.RegionLaw
import Derived.Laws.OwnMore
import Derived.Deep.AppendLies
namespace Go.Proofs.Ytoabdbnecjbgkaa.M
set_option linter.unusedVariables false
set_option linter.unusedSimpArgs false
open Go.ChangeShapes Go.WideShapes Go.ChangeAt Go.RowKit Go.Proofs.Ytoabdbnecjbgkaa.P Go.Proofs.Ytoabdbnecjbgkaa.W

/-- a cell put in its place -/
def insAt (s : List (Int × Int)) (k : Nat) (c : Int × Int) : List (Int × Int) := s.take k ++ c :: s.drop k
theorem insAt_rises {s : List (Int × Int)} {k : Nat} {c : Int × Int} (hs : Rises s) (hk : k ≤ s.length) (hlow : ∀ j, j < k → (s.getD j (0, 0)).1 < c.1) (hup : ∀ j, k ≤ j → j < s.length → c.1 < (s.getD j (0, 0)).1) : Rises (insAt s k c) := by
  unfold Rises insAt at *
  rw [List.pairwise_append]
  refine ⟨hs.sublist (List.take_sublist _ _), ?_, ?_⟩
  · rw [List.pairwise_cons]
    refine ⟨fun d hd => ?_, hs.sublist (List.drop_sublist _ _)⟩
    obtain ⟨j, hj, rfl⟩ := List.getElem_of_mem hd
    rw [List.getElem_drop]
    have hj2 : k + j < s.length := by simp at hj; omega
    have := hup (k + j) (by omega) hj2
    simpa [List.getD, hj2] using this
  · intro a ha d hd
    obtain ⟨j, hj, rfl⟩ := List.getElem_of_mem ha
    have hj1 : j < k := by simp at hj; omega
    have hj2 : j < s.length := by simp at hj; omega
    have h1 := hlow j hj1
    rw [List.getElem_take]
    simp [List.getD, hj2] at h1
    rcases List.mem_cons.1 hd with e | e
    · rw [e]; exact h1
    · obtain ⟨i, hi, rfl⟩ := List.getElem_of_mem e
      rw [List.getElem_drop]
      have hi2 : k + i < s.length := by simp at hi; omega
      have := hup (k + i) (by omega) hi2
      simp [List.getD, hi2] at this
      omega
theorem insAt_mem {s : List (Int × Int)} {k : Nat} {c d : Int × Int} : d ∈ insAt s k c ↔ d = c ∨ d ∈ s := by
  unfold insAt
  rw [List.mem_append, List.mem_cons]
  constructor
  · rintro (h | h | h)
    · exact .inr (List.mem_of_mem_take h)
    · exact .inl h
    · exact .inr (List.mem_of_mem_drop h)
  · rintro (h | h)
    · exact .inr (.inl h)
    · have : d ∈ s.take k ++ s.drop k := by rw [List.take_append_drop]; exact h
      rcases List.mem_append.1 this with h1 | h1
      · exact .inl h1
      · exact .inr (.inr h1)
theorem insAt_length {s : List (Int × Int)} {k : Nat} {c : Int × Int} : (insAt s k c).length = s.length + 1 := by
  unfold insAt; simp; omega
theorem flat_drop : ∀ (l : List (Int × Int)) (j : Nat), flat (l.drop j) = (flat l).drop (j * 2)
  | l, 0 => by simp
  | [], j + 1 => by simp [flat]
  | c :: l, j + 1 => by
    have e : flat (c :: l) = .int .u32 c.1 :: .int .u8 c.2 :: flat l := rfl
    rw [e, show (j + 1) * 2 = j * 2 + 1 + 1 by omega]
    simpa using flat_drop l j
theorem flat_take : ∀ (l : List (Int × Int)) (j : Nat), flat (l.take j) = (flat l).take (j * 2)
  | l, 0 => by simp [flat]
  | [], j + 1 => by simp [flat]
  | c :: l, j + 1 => by
    have e : flat (c :: l) = .int .u32 c.1 :: .int .u8 c.2 :: flat l := rfl
    have e2 : flat (List.take (j + 1) (c :: l)) = .int .u32 c.1 :: .int .u8 c.2 :: flat (l.take j) := rfl
    rw [e, e2, show (j + 1) * 2 = j * 2 + 1 + 1 by omega]
    simp [flat_take l j]
theorem flat_one : ∀ (l : List (Int × Int)), ∀ u ∈ flat l, u.oneCell' = true
  | [], u, h => by simp [flat] at h
  | c :: l, u, h => by
    have e : flat (c :: l) = .int .u32 c.1 :: .int .u8 c.2 :: flat l := rfl
    rw [e] at h
    rcases List.mem_cons.1 h with h | h
    · subst h; rfl
    · rcases List.mem_cons.1 h with h | h
      · subst h; rfl
      · exact flat_one l u h
theorem own_new (w : World) (c : Int × Int) : CellsOwn (w.alloc (.cells #[.int .u32 c.1, .int .u8 c.2] 33)) w.heap.size (.slice (some ⟨w.heap.size, 0, none⟩) 1 1) [c] :=
  ⟨rfl, .inr ⟨w.heap.size, 1, _, rfl, Nat.le_refl _, heap_alloc_new w _, Nat.le_refl _, by unfold maxLen; omega, rfl, rfl⟩⟩
theorem own_zero (w : World) : CellsOwn (w.alloc (.cells #[] 33)) w.heap.size (.slice (some ⟨w.heap.size, 0, none⟩) 0 0) [] :=
  ⟨rfl, .inr ⟨w.heap.size, 0, _, rfl, Nat.le_refl _, heap_alloc_new w _, Nat.le_refl _, by unfold maxLen; omega, rfl, rfl⟩⟩
/-- the cells of a part of a slice -/
theorem CellsOwn.from {w : World} {b g cap : Nat} {s : List (Int × Int)} (h : CellsOwn w b (.slice (some ⟨g, 0, none⟩) s.length cap) s) (j : Nat) :
    ∀ ad, (if cap = j then some (⟨g, 0, none⟩ : Addr) else some ⟨g, j * 2, none⟩) = some ad → ∀ t u, (flat (s.drop j))[t]? = some u → w.cell? (ad.add t) = some u := by
  intro ad had t u hu
  have hlen : s.length ≤ cap := by
    rcases h.2 with ⟨h1, h2⟩ | ⟨g', cap', cur, h1, _, _, h4, _⟩
    · cases h1
    · cases h1; exact h4
  have ht : t < (flat (s.drop j)).length := (List.getElem?_eq_some_iff.1 hu).1
  rw [flat_length, List.length_drop] at ht
  rw [if_neg (by omega)] at had
  obtain rfl := Option.some.inj had
  rw [flat_drop, List.getElem?_drop] at hu
  have := World.ownsRow.cells h (g := g) rfl _ _ hu
  have e : ∀ x y : Nat, (⟨g, x, none⟩ : Addr).add y = ⟨g, x + y, none⟩ := fun x y => Addr.add_lit ..
  rw [e] at this ⊢
  rw [Nat.zero_add] at this
  exact this
theorem CellsOwn.all {w : World} {b : Nat} {ao : Option Addr} {n cap : Nat} {s : List (Int × Int)} (h : CellsOwn w b (.slice ao n cap) s) :
    ∀ ad, ao = some ad → ∀ t u, (flat s)[t]? = some u → w.cell? (ad.add t) = some u := by
  intro ad had t u hu
  subst had
  rcases h.2 with ⟨h1, h2⟩ | ⟨g', cap', cur, h1, _, _, h4, _⟩
  · cases h1
  · cases h1
    exact World.ownsRow.cells h (g := g') rfl _ _ hu
theorem CellsOwn.below {w w' : World} {b : Nat} {v : Value} {s : List (Int × Int)} (h : CellsOwn w b v s) (hb : Below w.heap.size w w') : CellsOwn w' b v s := by
  refine World.ownsRow.kept h (grown_of_below hb) ?_
  cases hv : v.ownBlock with
  | none => exact .inl rfl
  | some k => exact .inr (by simp)
theorem CellsOwn.upto {w : World} {b : Nat} {ao : Option Addr} {n cap : Nat} {s : List (Int × Int)} (h : CellsOwn w b (.slice ao n cap) s) (j : Nat) :
    ∀ ad, ao = some ad → ∀ t u, (flat (s.take j))[t]? = some u → w.cell? (ad.add t) = some u := by
  intro ad had t u hu
  subst had
  rw [flat_take, List.getElem?_take] at hu
  split at hu
  · rcases h.2 with ⟨h1, h2⟩ | ⟨g', cap', cur, h1, _, _, h4, _⟩
    · cases h1
    · cases h1
      exact World.ownsRow.cells h (g := g') rfl _ _ hu
  · cases hu
theorem CellsOwn.cap_le {w : World} {b n : Nat} {ao : Option Addr} {cap : Nat} {s : List (Int × Int)} (h : CellsOwn w b (.slice ao n cap) s) : s.length ≤ cap := by
  rcases h.2 with ⟨h1, h2⟩ | ⟨g', cap', cur, h1, _, _, h4, _⟩
  · rw [h2]; exact Nat.zero_le _
  · cases h1; exact h4
theorem CellsOwn.nils {w : World} {b n : Nat} {ao : Option Addr} {cap : Nat} {s : List (Int × Int)} (h : CellsOwn w b (.slice ao n cap) s) : ao = none → n = 0 ∧ cap = 0 := by
  intro e
  rcases h.2 with ⟨h1, h2⟩ | ⟨g', cap', cur, h1, _⟩
  · cases h1; exact ⟨rfl, rfl⟩
  · subst e; cases h1
section
variable {PR : Program} (w : World)
/-- append of whatever slice, nil or not, onto a slice of the call's own -/
theorem run_append_any (base : Nat) (t ty e : TypeId) (i : TypeInfo) (z : Value) (size bytes : Nat) (ht : PR.underlying t = some (.slice e)) (hi : PR.info? e = some i) (hz : i.zero = some z)
    (hsize : i.size = size) (hby : i.bytes = bytes) (hzs : z.cells.size = size) (hsz : 0 < size)
    (v : Value) (n : Nat) (xs : List Value) (hown : w.ownsRow base e size v n xs)
    (ao : Option Addr) (m c : Nat) (news : List Value) (hno : ao = none → m = 0 ∧ c = 0) (hl : news.length = m * size) (hnews : ∀ ad, ao = some ad → ∀ j u, news[j]? = some u → w.cell? (ad.add j) = some u) (h1 : ∀ u ∈ news, u.oneCell' = true)
    (h63 : n + m ≤ maxLen) (hbytes : (n + m) * bytes ≤ 140737488355328) (hbase : base ≤ w.heap.size) :
    ∃ v' w', (Builtin.append_ #[t, t] ty #[v, .slice ao m c]).run PR w = .ok v' w' ∧ w'.ownsRow base e size v' (n + m) (xs ++ news) ∧ w.grownBy w' v.ownBlock := by
  cases ao with
  | some ad =>
    obtain ⟨v', w', g1, g2, g3, -, -⟩ := run_append_own_at (P := PR) w base t ty e i z size bytes ht hi hz hsize hby hzs hsz v n xs hown ad m c news hl (hnews ad rfl) h1 h63 hbytes hbase
    exact ⟨v', w', g1, g2, g3⟩
  | none =>
    obtain ⟨rfl, rfl⟩ := hno rfl
    have hn : news = [] := List.eq_nil_of_length_eq_zero (by simpa using hl)
    subst hn
    exact ⟨v, w, run_append_owned_none (P := PR) w base t ty e i size ht hi v n xs hown, by simpa using hown, World.grownBy.refl _ _⟩
theorem wp_append_any {o : Oper} {a : Act} {K : Act → World → Prop} {Q : Exit → Act → World → Prop} (s x : Operand) (t : TypeId)
    (ho : o.op = .call { callee := .builtin .append, args := #[s, x], argTypes := #[t, t] })
    (base : Nat) (e : TypeId) (i : TypeInfo) (z : Value) (size bytes : Nat) (ht : PR.underlying t = some (.slice e)) (hi : PR.info? e = some i) (hz : i.zero = some z)
    (hsize : i.size = size) (hby : i.bytes = bytes) (hzs : z.cells.size = size) (hsz : 0 < size)
    (v : Value) (n : Nat) (xs : List Value) (hs : a.eval s = v) (hown : w.ownsRow base e size v n xs)
    (ao : Option Addr) (m c : Nat) (news : List Value) (hx : a.eval x = .slice ao m c) (hno : ao = none → m = 0 ∧ c = 0) (hl : news.length = m * size) (hnews : ∀ ad, ao = some ad → ∀ j u, news[j]? = some u → w.cell? (ad.add j) = some u) (h1 : ∀ u ∈ news, u.oneCell' = true)
    (h63 : n + m ≤ maxLen) (hbytes : (n + m) * bytes ≤ 140737488355328) (hbase : base ≤ w.heap.size)
    (h : ∀ v' w', w'.ownsRow base e size v' (n + m) (xs ++ news) → w.grownBy w' v.ownBlock → K (a.put o.dst v') w') : o.wp PR a w K Q := by
  obtain ⟨v', w', hr, h2, h3⟩ := run_append_any (PR := PR) w base t o.type e i z size bytes ht hi hz hsize hby hzs hsz v n xs hown ao m c news hno hl hnews h1 h63 hbytes hbase
  unfold Oper.wp execOp
  simp only [ho, resolve, invoke, builtin, Sem.run_bind, Sem.run_pure, Result.andThen_ok, List.map_toArray, List.map_cons, List.map_nil, hs, hx, hr]
  exact h v' w' h2 h3
theorem wpList_append_any {ops : Array Oper} {rest : List Oper} {o : Oper} {a : Act} {Q : Exit → Act → World → Prop} (hgd : o.guard = none) (s x : Operand) (t : TypeId)
    (ho : o.op = .call { callee := .builtin .append, args := #[s, x], argTypes := #[t, t] })
    (base : Nat) (e : TypeId) (i : TypeInfo) (z : Value) (size bytes : Nat) (ht : PR.underlying t = some (.slice e)) (hi : PR.info? e = some i) (hz : i.zero = some z)
    (hsize : i.size = size) (hby : i.bytes = bytes) (hzs : z.cells.size = size) (hsz : 0 < size)
    (v : Value) (n : Nat) (xs : List Value) (hs : a.eval s = v) (hown : w.ownsRow base e size v n xs)
    (ao : Option Addr) (m c : Nat) (news : List Value) (hx : a.eval x = .slice ao m c) (hno : ao = none → m = 0 ∧ c = 0) (hl : news.length = m * size) (hnews : ∀ ad, ao = some ad → ∀ j u, news[j]? = some u → w.cell? (ad.add j) = some u) (h1 : ∀ u ∈ news, u.oneCell' = true)
    (h63 : n + m ≤ maxLen) (hbytes : (n + m) * bytes ≤ 140737488355328) (hbase : base ≤ w.heap.size)
    (h : ∀ v' w', w'.ownsRow base e size v' (n + m) (xs ++ news) → w.grownBy w' v.ownBlock → wpList PR ops Q rest (a.put o.dst v') w') : wpList PR ops Q (o :: rest) a w :=
  wpList_plain hgd fun _ hK => wp_append_any w s x t ho base e i z size bytes ht hi hz hsize hby hzs hsz v n xs hs hown ao m c news hx hno hl hnews h1 h63 hbytes hbase fun v' w' h2 h3 => hK _ _ (h v' w' h2 h3)
theorem step_append_any {ops : Array Oper} {o : Oper} {a : Act} {K : Act → World → Prop} {Q : Exit → Act → World → Prop} {E : Prop} (hgd : o.guard = none) (s x : Operand) (t : TypeId)
    (ho : o.op = .call { callee := .builtin .append, args := #[s, x], argTypes := #[t, t] })
    (base : Nat) (e : TypeId) (i : TypeInfo) (z : Value) (size bytes : Nat) (ht : PR.underlying t = some (.slice e)) (hi : PR.info? e = some i) (hz : i.zero = some z)
    (hsize : i.size = size) (hby : i.bytes = bytes) (hzs : z.cells.size = size) (hsz : 0 < size)
    (v : Value) (n : Nat) (xs : List Value) (hs : a.eval s = v) (hown : w.ownsRow base e size v n xs)
    (ao : Option Addr) (m c : Nat) (news : List Value) (hx : a.eval x = .slice ao m c) (hno : ao = none → m = 0 ∧ c = 0) (hl : news.length = m * size) (hnews : ∀ ad, ao = some ad → ∀ j u, news[j]? = some u → w.cell? (ad.add j) = some u) (h1 : ∀ u ∈ news, u.oneCell' = true)
    (h63 : n + m ≤ maxLen) (hbytes : (n + m) * bytes ≤ 140737488355328) (hbase : base ≤ w.heap.size)
    (h : ∀ v' w', w'.ownsRow base e size v' (n + m) (xs ++ news) → w.grownBy w' v.ownBlock → K (a.put o.dst v') w') :
    if Region.wanted o (yielded ops a.tmps) = true then Oper.wp PR o a w K Q else E := by
  rw [if_pos (by simp [Region.wanted, hgd])]
  exact wp_append_any w s x t ho base e i z size bytes ht hi hz hsize hby hzs hsz v n xs hs hown ao m c news hx hno hl hnews h1 h63 hbytes hbase h
end
theorem rises_get {s : List (Int × Int)} (h : Rises s) {i j : Nat} (hij : i < j) (hj : j < s.length) : (s.getD i (0, 0)).1 < (s.getD j (0, 0)).1 := by
  have := (List.pairwise_iff_getElem.1 h) i j (by omega) hj hij
  simpa [List.getD, hj, show i < s.length by omega] using this
theorem keys_ne {l : List (Int × Int)} (h : P.Keys l) {k : Nat} (hk : k < l.length) {d : Int × Int} (hd : d ∈ l.take k) : d.1 ≠ (l.getD k (0, 0)).1 := by
  obtain ⟨i, hi, rfl⟩ := List.getElem_of_mem hd
  have hi2 : i < k := by simp at hi; omega
  have := (List.pairwise_iff_getElem.1 h) i k (by omega) hk hi2
  rw [List.getElem_take]
  simpa [List.getD, hk] using this
theorem rd_absent : ∀ {l : List (Int × Int)} {a b : Int}, rd l a = b → b ≠ 0 → (a, b) ∈ l
  | [], a, b, h, h0 => absurd (show (0 : Int) = b from h).symm h0
  | c :: t, a, b, h, h0 => by
    have e : rd (c :: t) a = if c.1 = a then c.2 else rd t a := rfl
    rw [e] at h
    split at h
    · rename_i h1
      exact List.mem_cons.2 (.inl (by rw [← h1, ← h]))
    · exact List.mem_cons.2 (.inr (rd_absent h h0))
theorem own_ins {w : World} {b b' : Nat} {v : Value} {s : List (Int × Int)} {c : Int × Int} {j n : Nat} {xs : List Value} (h : w.ownsRow b 33 2 v n xs) (hb : b' ≤ b) (hx : xs = flat (s.take j) ++ (flat [c] ++ flat (s.drop j))) (hn : n = s.length + 1) : CellsOwn w b' v (insAt s j c) := by
  have e1 : flat (insAt s j c) = xs := by
    rw [hx]; unfold insAt
    rw [flat_append, show c :: s.drop j = [c] ++ s.drop j from rfl, flat_append]
  have h2 : w.ownsRow b' 33 2 v n xs := ⟨h.1, h.2.imp id (fun ⟨g, cap, cur, h1, h2, h3⟩ => ⟨g, cap, cur, h1, Nat.le_trans hb h2, h3⟩)⟩
  show w.ownsRow _ _ _ _ _ _
  rw [e1, insAt_length, ← hn]
  exact h2
set_option maxRecDepth 100000 in
set_option maxHeartbeats 4000000 in
theorem refCells (w : World) (p : Nat) (l : List (Int × Int)) (h : RefAt w p l) (hll : l.length < 5000000000) :
    Calls Try.prog 20 #[.pointer (some ⟨p, 0, none⟩)] w fun e w' => ∃ v s, e = .returned v ∧ CellsOwn w' w.heap.size v s ∧ CellsOf (rd l) s ∧ s.length ≤ l.length ∧ Below w.heap.size w w' := by
  obtain ⟨i0, hi, hz0, hz1, hz2⟩ := info_parts infoCell
  have HR := hid h
  obtain ⟨v0, hv0, hc0⟩ := h.row
  obtain ⟨ao, cap, rfl, hel⟩ := hc0.at
  have HEL := hid hel
  have HV := hid hv0
  have hpl := h.ltp
  clear h hc0 hel hv0
  go_enter Try.func20, Try.ntmps20
  go_wp2
  go_loopw [3, 4] (fun v i wr => ∃ (k : Nat) (s : List (Int × Int)), k ≤ l.length ∧ i = .int .i64 k ∧ CellsOwn wr w.heap.size v s ∧ Rises s ∧ (∀ c, c ∈ s ↔ c ∈ l.take k ∧ c.2 ≠ 0) ∧ s.length ≤ k ∧ Below w.heap.size w wr) (fun v i wr => l.length - (intOf i).toNat)
  case atStart => exact ⟨0, [], by omega, rfl, CellsOwn.nil _ _, List.Pairwise.nil, by simp, by simp, Below.refl _ _⟩
  case round =>
    obtain ⟨k, s, hk, rfl, hs, hris, hmem, hsl, hbw⟩ := hrel
    have hV := (hbw.cell (p := ⟨p, 0, none⟩) hpl).trans HV.out
    by_cases hk2 : k < l.length
    · have hkl : (k : Int) < l.length := by omega
      obtain ⟨g, rfl, hpg, hgl, g0, g1, -⟩ := HEL.out k hk2
      have c0 := (hbw.cell (p := ⟨g, k * 2, none⟩) hgl).trans g0
      have c1 := (hbw.cell (p := ⟨g, k * 2 + 1, none⟩) hgl).trans g1
      have HTK : Hid (l.take (k + 1) = l.take k ++ [l.getD k (0, 0)]) := hid (by
        rw [List.take_add_one, List.getElem?_eq_getElem hk2]; simp [List.getD, hk2])
      clear g0 g1
      generalize hcc : l.getD k (0, 0) = c at *
      have HCC := hid hcc
      clear hcc
      have HRI := hid hris
      have HME := hid hmem
      have HBW := hid hbw
      clear hris hmem hbw
      obtain ⟨ca, cb⟩ := c
      by_cases hz : cb = 0
      · subst hz
        have hzz : ((0 : Int) == 0) = true := by decide
        go_wp2
        go_roundw
        case rel => exact ⟨k + 1, s, by omega, by go_num, hs, HRI.out, fun c => by
          rw [HME.out, HTK.out, List.mem_append, List.mem_singleton]
          constructor
          · rintro ⟨h1, h2⟩; exact ⟨.inl h1, h2⟩
          · rintro ⟨h1 | h1, h2⟩
            · exact ⟨h1, h2⟩
            · subst h1; exact absurd rfl h2, by omega, HBW.out⟩
        case measure => simp [intOf]; omega
      · have hzz : (cb == 0) = false := by simpa using hz
        obtain ⟨ao2, cap2, rfl, hsel⟩ := hs.at
        have HSE := hid hsel
        have HS := hid hs
        clear hsel hs
        go_wp2
        obtain ⟨ws, rfl⟩ : ∃ x, x = wr := ⟨_, rfl⟩
        go_loopw [5] (fun i wq => ∃ j : Nat, j ≤ s.length ∧ i = .int .i64 j ∧ (∀ x, j ≤ x → x < s.length → ca < (s.getD x (0, 0)).1) ∧ Below ws.heap.size ws wq) (fun i wq => (intOf i).toNat)
        case atStart => exact ⟨s.length, by omega, rfl, fun x h1 h2 => by omega, Below.refl _ _⟩
        case round =>
          obtain ⟨j, hj, rfl, hup, hbq⟩ := hrel
          have HUP := hid hup
          have HBQ := hid hbq
          clear hup
          have hgr : g < ws.heap.size := Nat.lt_of_lt_of_le hgl HBW.out.size
          have c0q := (hbq.cell (p := ⟨g, k * 2, none⟩) hgr).trans c0
          have c1q := (hbq.cell (p := ⟨g, k * 2 + 1, none⟩) hgr).trans c1
          have hVq := (hbq.cell (p := ⟨p, 0, none⟩) (Nat.lt_of_lt_of_le hpl HBW.out.size)).trans hV
          cases j with
          | zero =>
            have hg0 : decide ((0 : Int) > 0) = false := by decide
            go_wp2_with fail
            go_quiet (fail)
            have HLO : Hid (∀ x, x < 0 → (s.getD x (0, 0)).1 < ca) := hid (fun x hx => by omega)
            have HNO := hid (CellsOwn.nils HS.out)
            generalize hwz : wr.drewN nq = wz
            have HBZ : Hid (Below ws.heap.size ws wz) := hid (by rw [← hwz]; exact below_drewN HBQ.out _)
            have c0z := (HBZ.out.cell (p := ⟨g, k * 2, none⟩) hgr).trans c0
            have c1z := (HBZ.out.cell (p := ⟨g, k * 2 + 1, none⟩) hgr).trans c1
            have hVz := (HBZ.out.cell (p := ⟨p, 0, none⟩) (Nat.lt_of_lt_of_le hpl HBW.out.size)).trans hV
            have HSZ : Hid (CellsOwn wz w.heap.size _ s) := hid (HS.out.below HBZ.out)
            have HSA : Hid (CellsOwn (wz.alloc (.cells #[.int .u32 ca, .int .u8 cb] 33)).drew w.heap.size _ s) := hid (World.ownsRow.alloc HSZ.out _)
            have HN : Hid (CellsOwn (wz.alloc (.cells #[.int .u32 ca, .int .u8 cb] 33)).drew wz.heap.size (.slice (some ⟨wz.heap.size, 0, none⟩) 1 1) [(ca, cb)]) := hid (own_new wz (ca, cb))
            clear hwz c0q c1q hVq
            have HNE : Hid (∀ ad, ao2 = some ad → ∀ t u, (flat (s))[t]? = some u → (wz.alloc (.cells #[.int .u32 ca, .int .u8 cb] 33)).drew.cell? (ad.add t) = some u) := hid (HSA.out.all)
            go_wp2_with fail
            go_region_law ((refine step_append_any _ rfl _ _ 22 rfl wz.heap.size 33 i0 (.agg #[.int .u32 0, .int .u8 0]) 2 8 Try.underlying22 hi hz0 hz1 hz2 rfl (by decide) _ 1 (flat [(ca, cb)]) rfl HN.out ao2 s.length _ (flat (s)) rfl HNO.out (by simp [flat_length]) HNE.out (flat_one _) (by unfold maxLen; omega) (by omega) (by simp) ?_); intro v1 w1 hown1 hgr1)
            have hB1 : Below wz.heap.size wz w1 := Below.grown (Below.alloc (Below.refl _ _) (Nat.le_refl _) _).drew hgr1 (by simp) (fun b hb => by cases hb; exact Nat.le_refl _)
            obtain ⟨g1, cap1, rfl, hg11, hg12⟩ := hown1.form (by omega)
            have HS2 : Hid (CellsOwn (w1.alloc (.cells #[] 33)) w.heap.size _ s) := hid (World.ownsRow.alloc (HSZ.out.below hB1) _)
            have HZ2 : Hid (CellsOwn (w1.alloc (.cells #[] 33)) w1.heap.size _ []) := hid (own_zero w1)
            have HR2 := hid (World.ownsRow.alloc hown1 (.cells #[] 33))
            have HB2 : Hid (Below wz.heap.size wz (w1.alloc (.cells #[] 33))) := hid (hB1.alloc (by have := hB1.size; omega) _)
            have hz1s := hB1.size
            have HNT := hid (CellsOwn.nils HS2.out)
            have HNU := hid (HS2.out.upto (0))
            have tok1 : True := trivial
            clear hown1 hgr1 hB1 HS HSA HSZ HN HNE
            go_wp2_with (at_builtin; first
              | (clear tok1; (refine wpList_append_any _ rfl _ _ 22 rfl w1.heap.size 33 i0 (.agg #[.int .u32 0, .int .u8 0]) 2 8 Try.underlying22 hi hz0 hz1 hz2 rfl (by decide) _ 0 [] rfl HZ2.out _ (0) _ (flat (s.take (0))) rfl (fun e => ⟨rfl, (HNT.out e).2⟩) (by simp [flat_length] <;> omega) HNU.out (flat_one _) (by unfold maxLen; omega) (by omega) (by simp) ?_); (intro v2 w2 hown2 hgr2); (have HR3 := hid (World.ownsRow.kept HR2.out hgr2 (.inr (fun e => absurd (Option.some.inj (show some g1 = some w1.heap.size from e)) (Nat.ne_of_lt hg12))))))
              | ((refine wpList_append_any _ rfl _ _ 22 rfl w1.heap.size 33 i0 (.agg #[.int .u32 0, .int .u8 0]) 2 8 Try.underlying22 hi hz0 hz1 hz2 rfl (by decide) v2 (0 + (0)) ([] ++ flat (s.take (0))) rfl hown2 (some ⟨g1, 0, none⟩) (1 + s.length) _ (flat [(ca, cb)] ++ flat (s)) rfl (fun e => by cases e) (by simp [flat_length] <;> omega) (fun ad had => by obtain rfl := Option.some.inj had; exact World.ownsRow.cells HR3.out (g := g1) rfl) (by rw [← flat_append]; exact flat_one _) (by unfold maxLen; omega) (by omega) (by have := hgr2.size; simp at this; omega) ?_); (intro v3 w3 hown3 hgr3)))
            have hw1s : w.heap.size ≤ w1.heap.size := Nat.le_trans HBW.out.size (Nat.le_trans HBZ.out.size hz1s)
            have hb3 : Below w.heap.size w w3 := by
              have q1 : Below w.heap.size w wz := HBW.out.trans (Below.mono HBZ.out HBW.out.size)
              have q2 : Below w.heap.size w (w1.alloc (.cells #[] 33)) := q1.trans (Below.mono HB2.out (Nat.le_trans HBW.out.size HBZ.out.size))
              have q3 : Below w.heap.size w w2 := q2.grown hgr2 q2.size (fun b hb => by cases hb; omega)
              exact q3.grown hgr3 q3.size (fun b hb => by have := (World.ownsRow.lt hown2 b hb).1; omega)
            refine ⟨⟨k + 1, insAt s (0) (ca, cb), by omega, by go_num, own_ins hown3 hw1s (by simp) (by omega), insAt_rises HRI.out (by omega) HLO.out HUP.out, fun c => ?_, by rw [insAt_length]; omega, hb3⟩, by simp [intOf]; omega⟩
            rw [insAt_mem, HME.out, HTK.out, List.mem_append, List.mem_singleton]
            constructor
            · rintro (h1 | ⟨h1, h2⟩)
              · subst h1; exact ⟨.inr rfl, hz⟩
              · exact ⟨.inl h1, h2⟩
            · rintro ⟨h1 | h1, h2⟩
              · exact .inr ⟨h1, h2⟩
              · exact .inl h1
          | succ j =>
            obtain ⟨g2, rfl, hg21, hg22, d0, -, -⟩ := HSE.out j (by omega)
            have d0q := (hbq.cell (p := ⟨g2, j * 2, none⟩) hg22).trans d0
            have hjs : (j : Int) < s.length := by omega
            have hg0 : decide (((j + 1 : Nat) : Int) > 0) = true := by simp <;> omega
            have hw1 : IntKind.i64.wrap (((j + 1 : Nat) : Int) - 1) = j := (IntWalk.i64_in _ (by omega)).trans (by simp)
            generalize hsd : s.getD j (0, 0) = d at d0 d0q
            have HSD := hid hsd
            clear hsd
            obtain ⟨da, db⟩ := d
            by_cases hlt : ca < da
            · have hd : decide (ca < da) = true := by simpa using hlt
              go_wp2_with fail
              go_quiet (fail)
              go_wp2_with fail
              refine ⟨⟨j, by omega, rfl, fun x h1 h2 => ?_, below_drewN HBQ.out _⟩, by simp [intOf]⟩
              by_cases e : x = j
              · subst e; rw [HSD.out]; exact hlt
              · exact HUP.out x (by omega) h2
            · have hd : decide (ca < da) = false := by simpa using hlt
              go_wp2_with fail
              go_quiet (fail)
              have HLO : Hid (∀ x, x < j + 1 → (s.getD x (0, 0)).1 < ca) := hid (fun x hx => by
                have hm := HME.out (da, db)
                have hin : (da, db) ∈ s := by rw [← HSD.out]; simp [List.getD, show j < s.length by omega]
                have hne := keys_ne HR.out.keys hk2 ((hm.1 hin).1)
                rw [HCC.out] at hne
                simp at hne
                have hda : da < ca := by omega
                by_cases e : x = j
                · subst e; rw [HSD.out]; exact hda
                · have := rises_get HRI.out (show x < j by omega) (by omega)
                  rw [HSD.out] at this
                  simp at this ⊢
                  omega)
              have HNO : Hid ((if cap2 = j + 1 then some (⟨g2, 0, none⟩ : Addr) else some ⟨g2, (j + 1) * 2, none⟩) = none → s.length - (j + 1) = 0 ∧ cap2 - (j + 1) = 0) := hid (fun e => by split at e <;> cases e)
              have hj0 : (0 : Int) ≤ (j : Int) + 1 := by omega
              have hj1 : (j : Int) + 1 ≤ s.length := by omega
              have hj2 : (j : Int) + 1 ≤ cap2 := by have := HS.out.cap_le; omega
              generalize hwz : wr.drewN nq = wz
              have HBZ : Hid (Below ws.heap.size ws wz) := hid (by rw [← hwz]; exact below_drewN HBQ.out _)
              have c0z := (HBZ.out.cell (p := ⟨g, k * 2, none⟩) hgr).trans c0
              have c1z := (HBZ.out.cell (p := ⟨g, k * 2 + 1, none⟩) hgr).trans c1
              have hVz := (HBZ.out.cell (p := ⟨p, 0, none⟩) (Nat.lt_of_lt_of_le hpl HBW.out.size)).trans hV
              have HSZ : Hid (CellsOwn wz w.heap.size _ s) := hid (HS.out.below HBZ.out)
              have HSA : Hid (CellsOwn (wz.alloc (.cells #[.int .u32 ca, .int .u8 cb] 33)).drew w.heap.size _ s) := hid (World.ownsRow.alloc HSZ.out _)
              have HN : Hid (CellsOwn (wz.alloc (.cells #[.int .u32 ca, .int .u8 cb] 33)).drew wz.heap.size (.slice (some ⟨wz.heap.size, 0, none⟩) 1 1) [(ca, cb)]) := hid (own_new wz (ca, cb))
              clear hwz c0q c1q hVq
              have HNE : Hid (∀ ad, (if cap2 = j + 1 then some (⟨g2, 0, none⟩ : Addr) else some ⟨g2, (j + 1) * 2, none⟩) = some ad → ∀ t u, (flat (s.drop (j + 1)))[t]? = some u → (wz.alloc (.cells #[.int .u32 ca, .int .u8 cb] 33)).drew.cell? (ad.add t) = some u) := hid (HSA.out.from (j + 1))
              go_wp2_with fail
              go_region_law ((refine step_append_any _ rfl _ _ 22 rfl wz.heap.size 33 i0 (.agg #[.int .u32 0, .int .u8 0]) 2 8 Try.underlying22 hi hz0 hz1 hz2 rfl (by decide) _ 1 (flat [(ca, cb)]) rfl HN.out (if cap2 = j + 1 then some (⟨g2, 0, none⟩ : Addr) else some ⟨g2, (j + 1) * 2, none⟩) (s.length - (j + 1)) _ (flat (s.drop (j + 1))) rfl HNO.out (by simp [flat_length]) HNE.out (flat_one _) (by unfold maxLen; omega) (by omega) (by simp) ?_); intro v1 w1 hown1 hgr1)
              have hB1 : Below wz.heap.size wz w1 := Below.grown (Below.alloc (Below.refl _ _) (Nat.le_refl _) _).drew hgr1 (by simp) (fun b hb => by cases hb; exact Nat.le_refl _)
              obtain ⟨g1, cap1, rfl, hg11, hg12⟩ := hown1.form (by omega)
              have HS2 : Hid (CellsOwn (w1.alloc (.cells #[] 33)) w.heap.size _ s) := hid (World.ownsRow.alloc (HSZ.out.below hB1) _)
              have HZ2 : Hid (CellsOwn (w1.alloc (.cells #[] 33)) w1.heap.size _ []) := hid (own_zero w1)
              have HR2 := hid (World.ownsRow.alloc hown1 (.cells #[] 33))
              have HB2 : Hid (Below wz.heap.size wz (w1.alloc (.cells #[] 33))) := hid (hB1.alloc (by have := hB1.size; omega) _)
              have hz1s := hB1.size
              have HNT := hid (CellsOwn.nils HS2.out)
              have HNU := hid (HS2.out.upto (j + 1))
              have tok1 : True := trivial
              clear hown1 hgr1 hB1 HS HSA HSZ HN HNE
              go_wp2_with (at_builtin; first
                | (clear tok1; (refine wpList_append_any _ rfl _ _ 22 rfl w1.heap.size 33 i0 (.agg #[.int .u32 0, .int .u8 0]) 2 8 Try.underlying22 hi hz0 hz1 hz2 rfl (by decide) _ 0 [] rfl HZ2.out _ (j + 1) _ (flat (s.take (j + 1))) rfl (fun e => by cases e) (by simp [flat_length] <;> omega) HNU.out (flat_one _) (by unfold maxLen; omega) (by omega) (by simp) ?_); (intro v2 w2 hown2 hgr2); (have HR3 := hid (World.ownsRow.kept HR2.out hgr2 (.inr (fun e => absurd (Option.some.inj (show some g1 = some w1.heap.size from e)) (Nat.ne_of_lt hg12))))))
                | ((refine wpList_append_any _ rfl _ _ 22 rfl w1.heap.size 33 i0 (.agg #[.int .u32 0, .int .u8 0]) 2 8 Try.underlying22 hi hz0 hz1 hz2 rfl (by decide) v2 (0 + (j + 1)) ([] ++ flat (s.take (j + 1))) rfl hown2 (some ⟨g1, 0, none⟩) (1 + (s.length - (j + 1))) _ (flat [(ca, cb)] ++ flat (s.drop (j + 1))) rfl (fun e => by cases e) (by simp [flat_length] <;> omega) (fun ad had => by obtain rfl := Option.some.inj had; exact World.ownsRow.cells HR3.out (g := g1) rfl) (by rw [← flat_append]; exact flat_one _) (by unfold maxLen; omega) (by omega) (by have := hgr2.size; simp at this; omega) ?_); (intro v3 w3 hown3 hgr3)))
              have hw1s : w.heap.size ≤ w1.heap.size := Nat.le_trans HBW.out.size (Nat.le_trans HBZ.out.size hz1s)
              have hb3 : Below w.heap.size w w3 := by
                have q1 : Below w.heap.size w wz := HBW.out.trans (Below.mono HBZ.out HBW.out.size)
                have q2 : Below w.heap.size w (w1.alloc (.cells #[] 33)) := q1.trans (Below.mono HB2.out (Nat.le_trans HBW.out.size HBZ.out.size))
                have q3 : Below w.heap.size w w2 := q2.grown hgr2 q2.size (fun b hb => by cases hb; omega)
                exact q3.grown hgr3 q3.size (fun b hb => by have := (World.ownsRow.lt hown2 b hb).1; omega)
              refine ⟨⟨k + 1, insAt s (j + 1) (ca, cb), by omega, by go_num, own_ins hown3 hw1s (by simp) (by omega), insAt_rises HRI.out (by omega) HLO.out HUP.out, fun c => ?_, by rw [insAt_length]; omega, hb3⟩, by simp [intOf]; omega⟩
              rw [insAt_mem, HME.out, HTK.out, List.mem_append, List.mem_singleton]
              constructor
              · rintro (h1 | ⟨h1, h2⟩)
                · subst h1; exact ⟨.inr rfl, hz⟩
                · exact ⟨.inl h1, h2⟩
              · rintro ⟨h1 | h1, h2⟩
                · exact .inr ⟨h1, h2⟩
                · exact .inl h1
    · obtain rfl : k = l.length := by omega
      rw [List.take_length] at hmem
      have HKE := HR.out.keys
      go_wp2
      go_ret
      refine ⟨_, s, rfl, hs, ⟨hris, fun a b => ?_⟩, hsl, hbw⟩
      rw [hmem]
      constructor
      · rintro ⟨h1, h2⟩
        exact ⟨(HR.out.ok _ h1).1, rd_mem HKE h1, h2⟩
      · rintro ⟨h1, h2, h3⟩
        exact ⟨rd_absent h2 h3, h3⟩
end Go.Proofs.Ytoabdbnecjbgkaa.M
