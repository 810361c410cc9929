/- The names of the operations, in plain terms. No program is in sight. -/
import Derived.Test.YtfecjdchgckjhaaDecP
namespace Go.Proofs.Ytfecjdchgckjhaa.P
set_option linter.unusedVariables false
open Go Go.RowKit

/-- the operations' names, by their numbers -/
def names : List ByteArray := [⟨#[]⟩,
  ⟨#[108, 117, 105]⟩,
  ⟨#[97, 117, 105, 112, 99]⟩,
  ⟨#[106, 97, 108]⟩,
  ⟨#[106, 97, 108, 114]⟩,
  ⟨#[98, 101, 113]⟩,
  ⟨#[98, 110, 101]⟩,
  ⟨#[98, 108, 116]⟩,
  ⟨#[98, 103, 101]⟩,
  ⟨#[98, 108, 116, 117]⟩,
  ⟨#[98, 103, 101, 117]⟩,
  ⟨#[108, 98]⟩,
  ⟨#[108, 104]⟩,
  ⟨#[108, 119]⟩,
  ⟨#[108, 98, 117]⟩,
  ⟨#[108, 104, 117]⟩,
  ⟨#[115, 98]⟩,
  ⟨#[115, 104]⟩,
  ⟨#[115, 119]⟩,
  ⟨#[97, 100, 100, 105]⟩,
  ⟨#[115, 108, 116, 105]⟩,
  ⟨#[115, 108, 116, 105, 117]⟩,
  ⟨#[120, 111, 114, 105]⟩,
  ⟨#[111, 114, 105]⟩,
  ⟨#[97, 110, 100, 105]⟩,
  ⟨#[115, 108, 108, 105]⟩,
  ⟨#[115, 114, 108, 105]⟩,
  ⟨#[115, 114, 97, 105]⟩,
  ⟨#[97, 100, 100]⟩,
  ⟨#[115, 117, 98]⟩,
  ⟨#[115, 108, 108]⟩,
  ⟨#[115, 108, 116]⟩,
  ⟨#[115, 108, 116, 117]⟩,
  ⟨#[120, 111, 114]⟩,
  ⟨#[115, 114, 108]⟩,
  ⟨#[115, 114, 97]⟩,
  ⟨#[111, 114]⟩,
  ⟨#[97, 110, 100]⟩,
  ⟨#[102, 101, 110, 99, 101]⟩,
  ⟨#[101, 99, 97, 108, 108]⟩,
  ⟨#[101, 98, 114, 101, 97, 107]⟩,
  ⟨#[109, 117, 108]⟩,
  ⟨#[109, 117, 108, 104]⟩,
  ⟨#[109, 117, 108, 104, 115, 117]⟩,
  ⟨#[109, 117, 108, 104, 117]⟩,
  ⟨#[100, 105, 118]⟩,
  ⟨#[100, 105, 118, 117]⟩,
  ⟨#[114, 101, 109]⟩,
  ⟨#[114, 101, 109, 117]⟩]
def nameN (k : Nat) : ByteArray := names.getD k ⟨#[]⟩
theorem names_length : names.length = 49 := rfl
/-- the place of a name, from the place k on, n places are looked at; 0: it is none -/
def ixFrom (s : ByteArray) : Nat → Nat → Int
  | _, 0 => 0
  | k, n + 1 => if ((nameN k).toList == s.toList) = true then (k : Int) else ixFrom s (k + 1) n
/-- the operation of a name; 0: there is none -/
def ixN (s : ByteArray) : Int := if s.toList.isEmpty = true then 0 else ixFrom s 1 48
/-- the same, over the bytes -/
def ixFromD (s : List UInt8) : Nat → Nat → Int
  | _, 0 => 0
  | k, n + 1 => if ((nameN k).data.toList == s) = true then (k : Int) else ixFromD s (k + 1) n
def ixD (s : List UInt8) : Int := if s.isEmpty = true then 0 else ixFromD s 1 48
theorem ixFrom_eq (s : ByteArray) (n : Nat) : ∀ k, ixFrom s k n = ixFromD s.data.toList k n := by
  induction n with
  | zero => intro k; rfl
  | succ n ih => intro k; unfold ixFrom ixFromD; rw [ByteArray.toList_eq, ByteArray.toList_eq, ih]
theorem ixN_eq (s : ByteArray) : ixN s = ixD s.data.toList := by
  unfold ixN ixD; rw [ByteArray.toList_eq, ixFrom_eq]
theorem ixN_none : ixN ⟨#[]⟩ = 0 := by rw [ixN_eq]; rfl
/-- the operations of a list of names -/
theorem ix_pick {l : List ByteArray} {m : List Int} {k : Int} (h0 : 0 ≤ k) (h1 : k < 8) (h : ∀ i, i < 8 → ixD (l.getD i ⟨#[]⟩).data.toList = m.getD i 0) : ixN (l.getD k.toNat ⟨#[]⟩) = pick m k := by
  rw [ixN_eq]; exact h _ (by omega)
end Go.Proofs.Ytfecjdchgckjhaa.P
