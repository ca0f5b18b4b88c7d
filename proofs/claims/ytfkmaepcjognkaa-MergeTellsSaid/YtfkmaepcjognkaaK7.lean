/- Known values: a small state is made as the document says. No condition. -/
import Derived.Test.YtfkmaepcjognkaaFacts
namespace Go.Proofs.Ytfkmaepcjognkaa.Pad
open Go Go.Proofs
def k7e (n : UInt32) : PEntry := ⟨1, n, ⟨1, n, 1, 0, 0, ⟨#[97]⟩⟩⟩
def k7 : Nat → PState
  | 0 => PState.zero
  | i + 1 => (pAdd (k7 i) (k7e (UInt32.ofNat (i + 1)))).1
theorem k7_ok : ((List.range 7).all fun i => decide ((pAdd (k7 i) (k7e (UInt32.ofNat (i + 1)))).2 = 0)) = true := by kernel_rfl
theorem k7_known : ((k7 7).log.length = 6 ∧ (k7 7).tail.n = 1 ∧ pHead (k7 7) = (1, 7)) ∧ (pAdd (k7 7) ⟨1, 9, ⟨1, 9, 4, 0, 0, ⟨#[]⟩⟩⟩).2 = 10 ∧ pIs (k7 7) = true ∧ (pFold (k7 7)).o0.data = ⟨#[97]⟩ := by decide +kernel
end Go.Proofs.Ytfkmaepcjognkaa.Pad
