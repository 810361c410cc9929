/- The registers' names. No program is in sight. -/
import Derived.Test.YtcbibefbjfhdcaaDoorDecP
namespace Go.Proofs.YtcbibefbjfhdcaaDoor.P
set_option linter.unusedVariables false
open Go Go.RowKit

/-- the registers' names -/
def regNames : List ByteArray := [⟨#[122, 101, 114, 111]⟩, ⟨#[114, 97]⟩, ⟨#[115, 112]⟩, ⟨#[103, 112]⟩, ⟨#[116, 112]⟩, ⟨#[116, 48]⟩, ⟨#[116, 49]⟩, ⟨#[116, 50]⟩, ⟨#[115, 48]⟩, ⟨#[115, 49]⟩, ⟨#[97, 48]⟩, ⟨#[97, 49]⟩, ⟨#[97, 50]⟩, ⟨#[97, 51]⟩, ⟨#[97, 52]⟩, ⟨#[97, 53]⟩, ⟨#[97, 54]⟩, ⟨#[97, 55]⟩, ⟨#[115, 50]⟩, ⟨#[115, 51]⟩, ⟨#[115, 52]⟩, ⟨#[115, 53]⟩, ⟨#[115, 54]⟩, ⟨#[115, 55]⟩, ⟨#[115, 56]⟩, ⟨#[115, 57]⟩, ⟨#[115, 49, 48]⟩, ⟨#[115, 49, 49]⟩, ⟨#[116, 51]⟩, ⟨#[116, 52]⟩, ⟨#[116, 53]⟩, ⟨#[116, 54]⟩]
/-- by their numbers -/
def numNames : List ByteArray := [⟨#[120, 48]⟩, ⟨#[120, 49]⟩, ⟨#[120, 50]⟩, ⟨#[120, 51]⟩, ⟨#[120, 52]⟩, ⟨#[120, 53]⟩, ⟨#[120, 54]⟩, ⟨#[120, 55]⟩, ⟨#[120, 56]⟩, ⟨#[120, 57]⟩, ⟨#[120, 49, 48]⟩, ⟨#[120, 49, 49]⟩, ⟨#[120, 49, 50]⟩, ⟨#[120, 49, 51]⟩, ⟨#[120, 49, 52]⟩, ⟨#[120, 49, 53]⟩, ⟨#[120, 49, 54]⟩, ⟨#[120, 49, 55]⟩, ⟨#[120, 49, 56]⟩, ⟨#[120, 49, 57]⟩, ⟨#[120, 50, 48]⟩, ⟨#[120, 50, 49]⟩, ⟨#[120, 50, 50]⟩, ⟨#[120, 50, 51]⟩, ⟨#[120, 50, 52]⟩, ⟨#[120, 50, 53]⟩, ⟨#[120, 50, 54]⟩, ⟨#[120, 50, 55]⟩, ⟨#[120, 50, 56]⟩, ⟨#[120, 50, 57]⟩, ⟨#[120, 51, 48]⟩, ⟨#[120, 51, 49]⟩]
def regN (k : Nat) : ByteArray := regNames.getD k ⟨#[]⟩
def numN (k : Nat) : ByteArray := numNames.getD k ⟨#[]⟩
theorem regNames_length : regNames.length = 32 := rfl
/-- the name of a register; of a number that is none: nothing -/
def regV (n : Int) : ByteArray := if 0 ≤ n ∧ n < 32 then regN n.toNat else ⟨#[]⟩
/-- the name of an operation; of a number that is none: nothing -/
def nameV (op : Int) : ByteArray := if 1 ≤ op ∧ op ≤ 48 then nameN op.toNat else ⟨#[]⟩
/-- is it a name of that register? -/
def isReg (s : ByteArray) (k : Nat) : Bool := (regN k).toList == s.toList || (numN k).toList == s.toList
/-- the register of a name, from the k-th on, of n; 32: it is none's -/
def regFrom (s : ByteArray) : Nat → Nat → Nat
  | _, 0 => 32
  | k, n + 1 => if isReg s k = true then k else regFrom s (k + 1) n
def fpS : ByteArray := ⟨#[102, 112]⟩
/-- the register of a name; 32: there is none -/
def regIx (s : ByteArray) : Nat := if (s.toList == fpS.toList) = true then 8 else regFrom s 0 32
/-- what is told of a name: the register -/
def regR (s : ByteArray) : Int := if regIx s < 32 then (regIx s : Int) else 0
/-- .. and is there one? -/
def regOk (s : ByteArray) : Bool := decide (regIx s < 32)
def isRegD (s : List UInt8) (k : Nat) : Bool := (regN k).data.toList == s || (numN k).data.toList == s
theorem isReg_eq (s : ByteArray) (k : Nat) : isReg s k = isRegD s.data.toList k := by
  unfold isReg isRegD; rw [ByteArray.toList_eq, ByteArray.toList_eq, ByteArray.toList_eq]
def regFromD (s : List UInt8) : Nat → Nat → Nat
  | _, 0 => 32
  | k, n + 1 => if isRegD s k = true then k else regFromD s (k + 1) n
theorem regFrom_eq (s : ByteArray) (n : Nat) : ∀ k, regFrom s k n = regFromD s.data.toList k n := by
  induction n with
  | zero => intro k; rfl
  | succ n ih => intro k; unfold regFrom regFromD; rw [isReg_eq, ih]
theorem regFrom_le (s : ByteArray) (n : Nat) : ∀ k, k + n ≤ 32 → regFrom s k n ≤ 32 := by
  induction n with
  | zero => intro k _; exact Nat.le_refl _
  | succ n ih =>
    intro k hk
    unfold regFrom; split
    · omega
    · exact ih _ (by omega)
theorem regIx_le (s : ByteArray) : regIx s ≤ 32 := by
  unfold regIx; split
  · omega
  · exact regFrom_le s 32 0 (by omega)
theorem fp_none : regFromD [102, 112] 0 32 = 32 := by decide
/-- 'fp' is no other register's name -/
theorem regFrom_fp {s : ByteArray} (h : (s.toList == fpS.toList) = true) : regFrom s 0 32 = 32 := by
  rw [beq_iff_eq, ByteArray.toList_eq, ByteArray.toList_eq] at h
  rw [regFrom_eq, h]; exact fp_none
theorem reg_found {s : ByteArray} (k : Nat) (hk : k < 32) (h : regFrom s 0 32 = k) : regR s = (k : Int) ∧ regOk s = true := by
  have e : regIx s = k := by
    unfold regIx; split
    · rename_i hf
      have := regFrom_fp hf; omega
    · exact h
  unfold regR regOk; rw [e, if_pos hk]; simp [hk]
theorem reg_fp8 {s : ByteArray} (h : (s.toList == [102, 112]) = true) : regR s = 8 ∧ regOk s = true := by
  have h2 : (s.toList == fpS.toList) = true := by rw [ByteArray.toList_eq fpS]; exact h
  have e : regIx s = 8 := by unfold regIx; rw [if_pos h2]
  unfold regR regOk; rw [e]; decide
theorem reg_none {s : ByteArray} (h : (s.toList == [102, 112]) = false) (h2 : regFrom s 0 32 = 32) : regR s = 0 ∧ regOk s = false := by
  have h3 : ¬ (s.toList == fpS.toList) = true := by rw [ByteArray.toList_eq fpS]; exact fun e => by rw [show fpS.data.toList = [102, 112] from rfl, h] at e; cases e
  have e : regIx s = 32 := by unfold regIx; rw [if_neg h3, h2]
  unfold regR regOk; rw [e]; decide
def regIxD (s : List UInt8) : Nat := if (s == [102, 112]) = true then 8 else regFromD s 0 32
theorem regIx_eq (s : ByteArray) : regIx s = regIxD s.data.toList := by
  unfold regIx regIxD; rw [regFrom_eq, ByteArray.toList_eq, ByteArray.toList_eq]; rfl
theorem reg_own : ∀ k, k < 32 → regIxD (regN k).data.toList = k ∧ regIxD (numN k).data.toList = k := by decide
theorem reg_back (k : Nat) (h : k < 32) : regIx (regN k) = k := by rw [regIx_eq]; exact (reg_own k h).1
theorem num_back (k : Nat) (h : k < 32) : regIx (numN k) = k := by rw [regIx_eq]; exact (reg_own k h).2
theorem reg_empty : regIx ⟨#[]⟩ = 32 := by rw [regIx_eq]; decide
theorem reg_fp : regIx fpS = 8 := by rw [regIx_eq]; decide
theorem ix_own : ∀ k, k < 49 → 1 ≤ k → ixFromD (nameN k).data.toList 1 48 = (k : Int) := by decide
theorem name_back (k : Nat) (h : k < 49) (h1 : 1 ≤ k) : ixFrom (nameN k) 1 48 = (k : Int) := by rw [ixFrom_eq]; exact ix_own k h h1
theorem ixFrom_bd (s : ByteArray) (n : Nat) : ∀ k, 0 ≤ ixFrom s k n ∧ ixFrom s k n ≤ (k + n : Nat) := by
  induction n with
  | zero => intro k; unfold ixFrom; omega
  | succ n ih =>
    intro k
    unfold ixFrom; split
    · omega
    · have := ih (k + 1); omega
theorem names_apart : ∀ k, k < 49 → ∀ j, j < k → ((nameN j).data.toList == (nameN k).data.toList) = false := by decide
end Go.Proofs.YtcbibefbjfhdcaaDoor.P
