/- What a listed package-level variable of numbers or strings holds, cell by cell. -/
import Derived.Test.YtcbibefbjfhdcaaDoorWord
import Derived.OpenShut
import Derived.LaidMore
namespace Go.Proofs.YtcbibefbjfhdcaaDoor.W
set_option linter.unusedVariables false
open Go.ChangeShapes Go.WideShapes Go.ChangeAt Go.RowKit

theorem ints_row {H : Type} {enc : TypeId × Value → H} {P : Program} {w : World} {base : Nat} {sp : Nat → Bool} {held : Bool} {fuel : Nat} {t e : TypeId} {n : Nat} {cs : List Value} {zs : List Int} {p : List MemPlace}
    (ht : P.underlying t = some (.array n e)) (he : P.underlying e = some (.int .i64)) (hc : P.cellsOf e = 1) (hct : P.cellsOf t = n)
    (h : DataW.trod enc P w base sp held fuel t cs = some (.agg (zs.map fun z => .lit (.int .i64 z)), p)) : cs = zs.map (Value.int .i64) := by
  obtain ⟨xs, m, rfl, hx, hlen, hn, hel⟩ := DataW.trod_array ht h
  have hz : xs.map (·.1) = zs.map fun z => DataW.lit (.int .i64 z) := by
    have := (Prod.mk.inj hx).1
    injection this with this
    exact this.symm
  have hzl : zs.length = n := by
    have := congrArg List.length hz
    simp at this
    omega
  refine List.ext_getElem? fun i => ?_
  by_cases hi : i < n
  · have h1 := hel i hi
    rw [hc, Nat.mul_one] at h1
    have hxi : i < xs.length := by omega
    rw [List.getElem?_eq_getElem hxi] at h1
    obtain ⟨k, e1, e2, -⟩ := DataW.trod_int he h1
    have hcl : i < cs.length := by omega
    have e3 : (cs.drop i).take 1 = [cs[i]] := by rw [List.drop_eq_getElem_cons hcl]; rfl
    rw [e3] at e1
    have e4 : (xs.map (·.1))[i]? = some (.lit (.int .i64 k)) := by simp [hxi, e2]
    rw [hz] at e4
    have hzi : i < zs.length := by omega
    simp [hzi] at e4
    simp [hcl, hzi]
    rw [e4]
    simpa using e1
  · rw [List.getElem?_eq_none (by omega), List.getElem?_eq_none (by simp; omega)]
theorem strs_row {H : Type} {enc : TypeId × Value → H} {P : Program} {w : World} {base : Nat} {sp : Nat → Bool} {held : Bool} {fuel : Nat} {t e : TypeId} {n : Nat} {cs : List Value} {zs : List (List UInt8)} {p : List MemPlace}
    (ht : P.underlying t = some (.array n e)) (he : P.underlying e = some .string) (hc : P.cellsOf e = 1) (hct : P.cellsOf t = n)
    (h : DataW.trod enc P w base sp held fuel t cs = some (.agg (zs.map fun z => .lit (.string z)), p)) : cs = zs.map fun z => Value.string ⟨z.toArray⟩ := by
  obtain ⟨xs, m, rfl, hx, hlen, hn, hel⟩ := DataW.trod_array ht h
  have hz : xs.map (·.1) = zs.map fun z => DataW.lit (.string z) := by
    have := (Prod.mk.inj hx).1
    injection this with this
    exact this.symm
  have hzl : zs.length = n := by
    have := congrArg List.length hz
    simp at this
    omega
  refine List.ext_getElem? fun i => ?_
  by_cases hi : i < n
  · have h1 := hel i hi
    rw [hc, Nat.mul_one] at h1
    have hxi : i < xs.length := by omega
    rw [List.getElem?_eq_getElem hxi] at h1
    obtain ⟨k, e1, e2, -⟩ := DataW.trod_string he h1
    have hcl : i < cs.length := by omega
    have e3 : (cs.drop i).take 1 = [cs[i]] := by rw [List.drop_eq_getElem_cons hcl]; rfl
    rw [e3] at e1
    have e4 : (xs.map (·.1))[i]? = some (.lit (.string k.data.toList)) := by simp [hxi, e2]
    rw [hz] at e4
    have hzi : i < zs.length := by omega
    simp [hzi] at e4
    simp [hcl, hzi]
    rw [e4]
    simpa using e1
  · rw [List.getElem?_eq_none (by omega), List.getElem?_eq_none (by simp; omega)]
theorem ints_rows {H : Type} {enc : TypeId × Value → H} {P : Program} {w : World} {base : Nat} {sp : Nat → Bool} {held : Bool} {fuel : Nat} {t e u : TypeId} {n m : Nat} {cs : List Value} {zs : List (List Int)} {p : List MemPlace}
    (ht : P.underlying t = some (.array n e)) (he : P.underlying e = some (.array m u)) (hu : P.underlying u = some (.int .i64)) (hc : P.cellsOf u = 1) (hce : P.cellsOf e = m) (hct : P.cellsOf t = n * m)
    (h : DataW.trod enc P w base sp held fuel t cs = some (.agg (zs.map fun l => .agg (l.map fun z => .lit (.int .i64 z))), p)) (i : Nat) (hi : i < n) (j : Nat) (hj : j < m) : cs[i * m + j]? = (zs[i]?.bind (·[j]?)).map (Value.int .i64) := by
  obtain ⟨xs, f, rfl, hx, hlen, hn, hel⟩ := DataW.trod_array ht h
  have hz : xs.map (·.1) = zs.map fun l => DataW.agg (l.map fun z => .lit (.int .i64 z)) := by
    have := (Prod.mk.inj hx).1
    injection this with this
    exact this.symm
  have hzl : zs.length = n := by
    have := congrArg List.length hz
    simp at this
    omega
  have h1 := hel i hi
  have hxi : i < xs.length := by omega
  have hzi : i < zs.length := by omega
  rw [hce, List.getElem?_eq_getElem hxi] at h1
  have e4 : (xs.map (·.1))[i]? = some xs[i].1 := by simp [hxi]
  rw [hz] at e4
  simp [hzi] at e4
  have h2 : DataW.trod enc P w base sp held f e ((cs.drop (i * m)).take m) = some (.agg (zs[i].map fun z => .lit (.int .i64 z)), xs[i].2) := by
    rw [h1, e4]
  have h3 := ints_row he hu hc hce h2
  have h4 : ((cs.drop (i * m)).take m)[j]? = cs[i * m + j]? := by
    rw [List.getElem?_take_of_lt hj, List.getElem?_drop]
  rw [← h4, h3]
  simp [hzi]
end Go.Proofs.YtcbibefbjfhdcaaDoor.W
