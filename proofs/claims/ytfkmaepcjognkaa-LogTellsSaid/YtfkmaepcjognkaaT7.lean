/- Plain laws of layer 7: places, folding in two goes, rows. No condition. -/
import Derived.Test.YtfkmaepcjognkaaRow7
namespace Go.Proofs.Ytfkmaepcjognkaa.Pad
open Go Go.Proofs
theorem row_ok_aux (since : UInt32) : ∀ (ops : List POp) (p : PState × List POp), Ok p.1 → Ok (ops.foldl (pRowStep since) p).1
  | [], _, h => h
  | o :: ops, p, h => row_ok_aux since ops _ (by
    unfold pRowStep
    split
    · rename_i h0; exact ok_add h0
    · exact h)
theorem row_ok (ops : List POp) (since : UInt32) : Ok (pRow ops since).1 := row_ok_aux since ops _ ok_zero
theorem head_ok {s : PState} (h : Ok s) : pHead s = ((lastE s).since, (lastE s).n) := by rw [pHead, if_pos (ok_is h)]
theorem place_eq {s : PState} (_ : Ok s) {x : UInt32} (h1 : s.tail.n.toNat ≤ x.toNat) (h2 : x.toNat ≤ (lastE s).n.toNat) : pPlace s x = ((x.toNat - s.tail.n.toNat : Nat) : Int) := by
  unfold pPlace
  rw [if_neg (by simp only [UInt32.lt_iff_toNat_lt]; omega), UInt32.toNat_sub_of_le _ _ (by rw [UInt32.le_iff_toNat_le]; exact h1)]
theorem tail_eq {s : PState} (h : Ok s) {x : UInt32} (h1 : s.tail.n.toNat ≤ x.toNat) (h2 : x.toNat ≤ (lastE s).n.toNat) : pTail s x = (pFolded s (x.toNat - s.tail.n.toNat), 0) := by
  unfold pTail
  rw [ok_is h, if_neg (by simp), if_neg (by rw [UInt32.lt_iff_toNat_lt]; omega), place_eq h h1 h2, if_neg (by omega), Int.toNat_natCast]
theorem tail_n : ∀ (xs : List PEntry) (t : PEntry) (i : Nat), pChain t xs = true → i ≤ xs.length → (tailOf t (xs.take i)).n.toNat = t.n.toNat + i
  | _, t, 0, _, _ => rfl
  | [], t, i + 1, _, h => by simp at h
  | e :: r, t, i + 1, hc, h => by
    simp only [pChain, Bool.and_eq_true] at hc
    have := tail_n r ⟨e.since, e.n, POp.zero⟩ i (by rw [chain_same (l := ⟨e.since, e.n, POp.zero⟩) (l' := e) rfl rfl]; exact hc.2) (by simpa using h)
    have h2 := next_n hc.1
    show (tailOf ⟨e.since, e.n, POp.zero⟩ (r.take i)).n.toNat = _
    rw [this, h2]; omega
theorem folded_n {s : PState} (h : Ok s) {i : Nat} (hi : i ≤ s.log.length) : (pFolded s i).tail.n.toNat = s.tail.n.toNat + i := by
  rw [folded_eq]; exact tail_n _ _ _ h.ch hi
theorem span_n {s : PState} (h : Ok s) : ((lastE s).n - s.tail.n + 1).toNat = s.log.length + 1 := by
  have h1 := last_n h.ch
  have h2 := h.len
  rw [UInt32.toNat_add, UInt32.toNat_sub_of_le _ _ (by rw [UInt32.le_iff_toNat_le]; omega)]
  have e : (1 : UInt32).toNat = 1 := rfl
  rw [e, Nat.mod_eq_of_lt (by omega)]; omega
theorem span_ne {s : PState} (h : Ok s) : ((lastE s).n - s.tail.n + 1).toNat ≠ 0 := by rw [span_n h]; omega
theorem span_x {s : PState} (h : Ok s) {a x : UInt32} (hx : s.tail.n + a % ((lastE s).n - s.tail.n + 1) = x) : s.tail.n.toNat ≤ x.toNat ∧ x.toNat ≤ (lastE s).n.toNat := by
  have h1 := last_n h.ch
  have h2 := (lastE s).n.toNat_lt
  have h3 : a.toNat % (s.log.length + 1) < s.log.length + 1 := Nat.mod_lt _ (by omega)
  rw [← hx, UInt32.toNat_add, UInt32.toNat_mod, span_n h, Nat.mod_eq_of_lt (by omega)]
  omega
theorem tail_two {s : PState} (h : Ok s) {x y : UInt32} (h1 : s.tail.n.toNat ≤ x.toNat) (hxy : x.toNat ≤ y.toNat) (h2 : y.toNat ≤ (lastE s).n.toNat) : pTail (pFolded s (x.toNat - s.tail.n.toNat)) y = (pFolded s (y.toNat - s.tail.n.toNat), 0) := by
  have hl := last_n h.ch
  have hn := folded_n h (i := x.toNat - s.tail.n.toNat) (by omega)
  rw [tail_eq (ok_folded h _) (by omega) (by rw [(last_folded _).1]; exact h2), folded_folded, hn]
  congr 2; omega
theorem tail_back {s : PState} (h : Ok s) {x y : UInt32} (h1 : s.tail.n.toNat ≤ x.toNat) (hxy : x.toNat ≤ y.toNat) (h2 : y.toNat ≤ (lastE s).n.toNat) : (x = y ∧ (pTail (pFolded s (y.toNat - s.tail.n.toNat)) x).2 = 0) ∨ (x ≠ y ∧ (pTail (pFolded s (y.toNat - s.tail.n.toNat)) x).2 = 80) := by
  have hl := last_n h.ch
  have hn := folded_n h (i := y.toNat - s.tail.n.toNat) (by omega)
  rcases Nat.lt_or_ge x.toNat y.toNat with hlt | hge
  · refine .inr ⟨fun e => by rw [e] at hlt; omega, ?_⟩
    unfold pTail
    rw [ok_is (ok_folded h _), if_neg (by simp), if_pos (by rw [UInt32.lt_iff_toNat_lt]; omega)]
  · have e : x = y := UInt32.toNat_inj.1 (by omega)
    subst e
    refine .inl ⟨rfl, ?_⟩
    rw [tail_eq (ok_folded h _) (by omega) (by rw [(last_folded _).1]; exact h2)]
theorem next_folded {s : PState} (n : Nat) (e : PEntry) : pNext (lastE (pFolded s n)) e = pNext (lastE s) e := next_same (last_folded n).1 (last_folded n).2
theorem add_folded {s : PState} (h : Ok s) (n : Nat) (e : PEntry) : (pAdd (pFolded s n) e).2 = (pAdd s e).2 := by
  cases hn : pNext (lastE s) e with
  | true => rw [add_ok h hn, add_ok (ok_folded h n) (by rw [next_folded]; exact hn)]
  | false =>
    unfold pAdd
    rw [next_folded, hn, if_pos (.inr rfl), if_pos (.inr rfl)]
theorem ok_add' {s : PState} (e : PEntry) : Ok (pAdd s e).1 := by
  rcases add_err s e with h | ⟨_, h⟩
  · exact ok_add h
  · rw [h]; exact ok_zero
theorem fold_add {s : PState} (h : Ok s) (n : Nat) (e : PEntry) : pFold (pAdd (pFolded s n) e).1 = pFold (pAdd s e).1 := by
  have h2 := add_folded h n e
  rw [fold_ok (ok_add' e), fold_ok (ok_add' e)]
  rcases add_err s e with h0 | ⟨h0, hz⟩
  · rw [all_add h0, all_add (by rw [h2]; exact h0), all_folded]
  · rw [hz]
    rcases add_err (pFolded s n) e with h1 | ⟨_, h1⟩
    · rw [h2, h0] at h1; cases h1
    · rw [h1]
end Go.Proofs.Ytfkmaepcjognkaa.Pad
