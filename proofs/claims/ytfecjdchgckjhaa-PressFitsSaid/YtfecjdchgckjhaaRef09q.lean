/- What typecaseref09.Fits computes. -/
import Derived.Test.YtfecjdchgckjhaaRef09p
import Derived.Deep.Cut
import Derived.Deep.DeepCutAuto
import Derived.Deep.RegionWith
namespace Go.Proofs.Ytfecjdchgckjhaa.R9
set_option linter.unusedVariables false
set_option linter.unusedSimpArgs false
open Go.ChangeShapes Go.WideShapes Go.ChangeAt Go.RowKit Go.Proofs.Ytfecjdchgckjhaa.P Go.Proofs.Ytfecjdchgckjhaa.W Go.Proofs.Ytfecjdchgckjhaa.F

theorem may_op {op rd rs1 rs2 imm : Int} (h : mayB op rd rs1 rs2 imm = true) : 1 ≤ op ∧ op ≤ 48 := by
  by_cases k : op < 1 ∨ 48 < op
  · exfalso
    have := form_none k
    simp [mayB, this] at h
  · omega
theorem names_at (w : World) : Calls Try.prog 27 #[] w fun e w' => ∃ b, e = .returned (.slice (some ⟨b, 0, none⟩) 49 49) ∧ Below w.heap.size w w' ∧ R3.StrsAt w' b names :=
  (R3.Names w).mono fun _ _ ⟨h1, h2, h3⟩ => ⟨_, h1, h2, h3⟩
theorem name_size {k : Nat} (h : k < 49) : (nameN k).size ≤ 10 := by
  have : ∀ k, k < 49 → (nameN k).size ≤ 10 := by decide
  exact this k h
theorem pre_is (s : ByteArray) (l : List UInt8) : ((⟨#[99, 46]⟩ ++ s : ByteArray).toList == 99 :: 46 :: l) = (s.toList == l) := by
  rw [ByteArray.toList_eq, ByteArray.toList_eq]
  have e : (⟨#[99, 46]⟩ ++ s : ByteArray).data.toList = 99 :: 46 :: s.data.toList := by rw [ByteArray.data_append]; simp
  rw [e]; simp
/-- a name is one operation's alone -/
theorem name_is {c : Int} {l : List UInt8} (h : ∀ j : Nat, j < 49 → ((nameN j).data.toList == l) = ((j : Int) == c)) {op : Int} (h0 : 1 ≤ op) (h1 : op ≤ 48) : ((nameN op.toNat).toList == l) = (op == c) := by
  have := h op.toNat (by omega)
  rw [ByteArray.toList_eq, this, show ((op.toNat : Nat) : Int) = op by omega]
end Go.Proofs.Ytfecjdchgckjhaa.R9
