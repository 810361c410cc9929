/- A memory has at most 2^32 cells, however many are put. -/
import Derived.Test.YtoabdbnecjbgkaaMemX
import Derived.Test.YtoabdbnecjbgkaaMemR
namespace Go.Proofs.Ytoabdbnecjbgkaa.M
set_option linter.unusedVariables false
set_option linter.unusedSimpArgs false
open Go.ChangeShapes Go.WideShapes Go.ChangeAt Go.RowKit Go.Proofs.Ytoabdbnecjbgkaa.P Go.Proofs.Ytoabdbnecjbgkaa.W Go.Maps

theorem nodup_le : ∀ (n : Nat) (l : List Nat), l.Nodup → (∀ x ∈ l, x < n) → l.length ≤ n
  | 0, [], _, _ => Nat.le_refl _
  | 0, x :: _, _, h => absurd (h x (by simp)) (by omega)
  | n + 1, l, hd, h => by
    by_cases hn : n ∈ l
    · have e := List.length_erase_of_mem hn
      have ih := nodup_le n (l.erase n) (hd.erase n) (fun x hx => by
        have h1 := (hd.mem_erase_iff).1 hx
        have h2 := h x h1.2
        have := h1.1
        omega)
      have : 0 < l.length := List.length_pos_of_mem hn
      omega
    · have := nodup_le n l hd (fun x hx => by
        have h2 := h x hx
        have : x ≠ n := fun e => hn (e ▸ hx)
        omega)
      omega
def NN : Nat := 4294967296
theorem RefAt.len {w : World} {p : Nat} {l : List (Int × Int)} (h : RefAt w p l) : l.length ≤ 4294967296 := by
  have hk := h.keys
  have hd : (l.map fun c => c.1.toNat).Nodup := by
    unfold List.Nodup
    rw [List.pairwise_map]
    refine List.Pairwise.imp_of_mem (fun {a b} ha hb hab e => ?_) hk
    have h1 := (h.ok a ha).1
    have h2 := (h.ok b hb).1
    unfold okA at h1 h2
    have e2 : a.1.toNat = b.1.toNat := e
    exact hab (by omega)
  have := nodup_le 4294967296 _ hd (fun x hx => by
    obtain ⟨c, hc, rfl⟩ := List.mem_map.1 hx
    have h1 := (h.ok c hc).1
    unfold okA at h1
    omega)
  simpa using this
def keyN (l : Lit) : Nat := match l with
  | .int _ a => a.toNat
  | _ => 0
theorem key_int {PR : Program} {k : TypeId} {q : IntKind} {l : Lit} (hk : PR.underlying k = some (.int q)) {v : Value} (hv : mapKey PR k v = some l) : ∃ a, l = .int q a ∧ (Lit.int q a).wf = true := by
  unfold mapKey at hv
  rw [hk] at hv
  cases v <;> simp at hv
  obtain ⟨⟨rfl, hw⟩, rfl⟩ := hv
  exact ⟨_, rfl, hw⟩
theorem key_u32 {l : Lit} (h : KeysOf Try.prog 23 l) : ∃ a, l = .int .u32 a ∧ okA a := by
  obtain ⟨v, hv⟩ := h
  rw [keyOf_int Try.underlying23] at hv
  obtain ⟨a, h1, h2⟩ := key_int Try.underlying23 hv
  exact ⟨a, h1, wf32 h2⟩
theorem MemAt.cap {w : World} {p B n : Nat} {M : Int → Int} (h : MemAt w p B n M) : MemAt w p B 4294967296 M := by
  obtain ⟨D, ⟨es, clock, h1, F, h3, h4⟩, h2⟩ := h.owns
  refine ⟨h.cell, h.byt, D, ⟨es, clock, h1, F, ?_, h4⟩, h2⟩
  have hk := Maps.fit_keys F
  have ha := Maps.fit_apart lawK F
  generalize hL : es.toList.map (WideElems.rg Try.prog 23 (plainElem Try.prog 5)) = L at *
  have hlen : L.length = es.size := by rw [← hL]; simp
  have hd : (L.map fun q => keyN q.1).Nodup := by
    unfold List.Nodup
    rw [List.pairwise_map]
    refine List.Pairwise.imp_of_mem (fun {a b} hha hb hab e => ?_) ha
    obtain ⟨x, e1, o1⟩ := key_u32 (hk a hha)
    obtain ⟨y, e2, o2⟩ := key_u32 (hk b hb)
    rw [e1, e2] at e hab
    have e3 : x.toNat = y.toNat := e
    unfold okA at o1 o2
    exact hab (by rw [show x = y by omega])
  have := nodup_le 4294967296 _ hd (fun x hx => by
    obtain ⟨c, hc, rfl⟩ := List.mem_map.1 hx
    obtain ⟨x, e1, o1⟩ := key_u32 (hk c hc)
    rw [e1]
    show x.toNat < _
    unfold okA at o1
    omega)
  rw [List.length_map, hlen] at this
  exact this
set_option maxRecDepth 100000 in
set_option maxHeartbeats 1000000 in
theorem LayG (w : World) (p B : Nat) (M : Int → Int) (a : Int) (v : Value) (l : List Int) (h : MemAt w p B 4294967296 M) (ha : okA a) (hv : BytesAt w v l) (hl : ∀ b ∈ l, 0 ≤ b ∧ b < 256) (hll : l.length ≤ maxLen) (hB : 0 < l.length → ∀ a n c, v = .slice (some a) n c → a.block ≠ B) :
    Calls Try.prog 17 #[.pointer (some ⟨p, 0, none⟩), .int .u32 a, v] w fun e w' => e = .returned (.tuple #[]) ∧ MemAt w' p B 4294967296 (layN M a l l.length) ∧ w.grownBy w' (some B) := by
  unfold maxLen at hll
  have HH := hid h
  have HV := hid hv
  obtain ⟨ao, cap, rfl, -⟩ := id hv
  have HL := hid hl
  have HB := hid hB
  clear h hv hl hB
  go_enter Try.func17, Try.ntmps17
  go_wp2
  go_loopw [10] (fun i wr => ∃ k : Nat, k ≤ l.length ∧ i = .int .i64 k ∧ MemAt wr p B 4294967296 (layN M a l k) ∧ w.grownBy wr (some B)) (fun i wr => l.length - (intOf i).toNat)
  case atStart => exact ⟨0, by omega, rfl, HH.out, grown_refl _ _⟩
  case round =>
    obtain ⟨k, hk, rfl, hM, hg⟩ := hrel
    by_cases hk2 : k < l.length
    · have hkl : (k : Int) < l.length := by omega
      have hVr := HV.out.kept hg (fun a n c e => by have := HB.out (by omega) a n c e; simpa using this)
      obtain ⟨ao2, cap2, h1, h2⟩ := hVr
      injection h1 with h1 _ h3
      subst h1
      obtain ⟨b, o, rfl, hc⟩ := h2 k hk2
      clear h2 h3
      have hb := HL.out (l.getD k 0) (by simp [List.getD, hk2])
      have hP := put wr p B _ (layN M a l k) (adr a k) (l.getD k 0) hM (adr_ok a k) hb (by unfold maxLen; omega)
      rw [show upd (layN M a l k) (adr a k) (l.getD k 0) = layN M a l (k + 1) from rfl] at hP
      have HG := hid hg
      clear hM hg
      generalize l.getD k 0 = c at *
      go_wp2_with fail
      refine hP.mono ?_
      rintro e w1 ⟨rfl, hM1, hg1⟩
      go_wp2_with fail
      go_roundw
      case rel => exact ⟨k + 1, by omega, by go_num, hM1.cap, grown_trans HG.out hg1⟩
      case measure => simp [intOf]; omega
    · obtain rfl : k = l.length := by omega
      go_wp2
      go_end0
      exact ⟨rfl, hM, hg⟩
end Go.Proofs.Ytoabdbnecjbgkaa.M
