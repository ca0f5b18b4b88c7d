/- Plain laws: the document's differences are the program's. No condition. -/
import Derived.Test.YtfkmaepcjognkaaR6p
namespace Go.Proofs.Ytfkmaepcjognkaa.Pad
open Go Go.Proofs
set_option linter.unusedSimpArgs false
set_option linter.unusedVariables false
def rIn (s t : PState) : Bool := decide (s.tail = t.tail) || s.log.any (fun e => decide (e.since = t.tail.since) && decide (e.n = t.tail.n))
theorem shared_eq {s t : PState} (hs : Ok s) (ht : Ok t) (hu : (pUpto s t.tail.n).2 = true) : decide (pmTail s t.tail.n = t.tail) = rIn s t := by
  obtain ⟨u1, u2, _⟩ := upto_ok hs hu
  rw [Bool.eq_iff_iff]
  simp only [rIn, Bool.or_eq_true, decide_eq_true_eq, List.any_eq_true, Bool.and_eq_true]
  cases hf : (pFind s t.tail.n).2 with
  | true =>
    have hv := find_val hs hf
    have hfo := (find_ok hs).1 hf
    have hn := chain_n _ _ hs.ch _ _ hv
    obtain ⟨x, hx⟩ : ∃ x, x = (pFind s t.tail.n).1 := ⟨_, rfl⟩
    rw [← hx] at hv hn
    have hxn : x.n = t.tail.n := UInt32.toNat_inj.1 (by omega)
    have hm : pmTail s t.tail.n = ⟨x.since, x.n, POp.zero⟩ := by rw [pmTail, if_pos hf, hx]
    rw [hm]
    constructor
    · intro h
      exact .inr ⟨x, List.mem_of_getElem? hv, (by have h5 := congrArg PEntry.since h; exact h5), hxn⟩
    · rintro (h | ⟨e, he, h1, h2⟩)
      · rw [h] at hfo; omega
      · obtain ⟨i, hi⟩ := List.mem_iff_getElem?.1 he
        have hen := chain_n _ _ hs.ch _ _ hi
        have : t.tail.n.toNat - s.tail.n.toNat - 1 = i := by rw [← h2]; omega
        rw [this, hi] at hv
        injection hv with hv
        subst hv
        have hop := ht.op
        have e : ∀ y : PEntry, e.since = y.since → e.n = y.n → y.op = POp.zero → (⟨e.since, e.n, POp.zero⟩ : PEntry) = y := fun y a b c => by
          cases y; simp only at a b c; rw [a, b, c]
        exact e _ h1 h2 hop
  | false =>
    have hnf : ¬ (s.tail.n.toNat < t.tail.n.toNat) := fun hlt => by
      rw [(find_ok hs).2 ⟨hlt, u2⟩] at hf; cases hf
    have hm : pmTail s t.tail.n = s.tail := by rw [pmTail, if_neg (by simp [hf])]
    rw [hm]
    constructor
    · exact fun h => .inl h
    · rintro (h | ⟨e, he, h1, h2⟩)
      · exact h
      · obtain ⟨i, hi⟩ := List.mem_iff_getElem?.1 he
        have hen := chain_n _ _ hs.ch _ _ hi
        rw [h2] at hen
        omega
theorem stands_rIn {s t : PState} (hs : Ok s) (ht : Ok t) : pStands s t = (rIn s t && ((pUpto s t.tail.n).2 && decide ((pUpto s t.tail.n).1 = t.base))) := by
  unfold pStands
  cases hu : (pUpto s t.tail.n).2 with
  | false => simp
  | true => rw [shared_eq hs ht hu]; simp
end Go.Proofs.Ytfkmaepcjognkaa.Pad
