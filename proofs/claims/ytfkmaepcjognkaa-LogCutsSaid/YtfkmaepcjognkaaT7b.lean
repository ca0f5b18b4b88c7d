/- Plain laws of layer 7: a row of operations is one list of entries. No condition. -/
import Derived.Test.YtfkmaepcjognkaaT8b
import Derived.Test.YtfkmaepcjognkaaAll
namespace Go.Proofs.Ytfkmaepcjognkaa.Pad
open Go Go.Proofs
/-- A row's state is one list of entries, folded. -/
def RowIs (r : PState × List POp) (es : List PEntry) : Prop := es.map PEntry.op = r.2 ∧ pChain PEntry.zero es = true ∧ r.1 = grow PState.zero es
theorem row_is_aux (since : UInt32) : ∀ (ops : List POp) (p : PState × List POp), (∃ es, RowIs p es) → ∃ es, RowIs (ops.foldl (pRowStep since) p) es
  | [], _, h => h
  | o :: ops, p, ⟨es, h1, h2, h3⟩ => row_is_aux since ops _ (by
    unfold pRowStep
    split
    · rename_i h0
      rw [h3] at h0 ⊢
      obtain ⟨g1, g2⟩ := grow_snoc ok_zero (es := es) h2 h0
      have g3 : pChain PEntry.zero (es ++ [(⟨since % 60 + 1, (pHead (grow PState.zero es)).2 + 1, o⟩ : PEntry)]) = true := g2
      exact ⟨es ++ [(⟨since % 60 + 1, (pHead (grow PState.zero es)).2 + 1, o⟩ : PEntry)], by rw [List.map_append, h1]; rfl, g3, g1⟩
    · exact ⟨es, h1, h2, h3⟩)
theorem row_is (ops : List POp) (since : UInt32) : ∃ es, RowIs (pRow ops since) es := row_is_aux since ops _ ⟨[], rfl, rfl, (grow_nil ok_zero).symm⟩
theorem zero_grow {es : List PEntry} (hc : pChain PEntry.zero es = true) : (grow PState.zero es).tail.n.toNat = es.length - 6 ∧ (grow PState.zero es).log = es.drop (es.length - 6) ∧ (grow PState.zero es).base = foldB PBase.zero (es.take (es.length - 6)) ∧ (lastE (grow PState.zero es)).n.toNat = es.length := by
  have ho := ok_grow ok_zero (es := es) hc
  have e : PState.zero.log.length + es.length - 6 = es.length - 6 := by show 0 + es.length - 6 = _; omega
  have h1 : (grow PState.zero es).tail.n.toNat = es.length - 6 := by
    rw [grow, folded_eq, e]
    have := tail_n es PEntry.zero (es.length - 6) hc (by omega)
    show (tailOf PEntry.zero (es.take (es.length - 6))).n.toNat = _
    rw [this]; exact Nat.zero_add _
  have h2 : (grow PState.zero es).log = es.drop (es.length - 6) := by rw [grow, folded_eq, e]; rfl
  refine ⟨h1, h2, by rw [grow, folded_eq, e]; rfl, ?_⟩
  rw [last_n ho.ch, h1, h2, List.length_drop]; omega
theorem all_ops : ∀ (es : List PEntry) (p : PBase × List PRes), ((es.map PEntry.op).foldl pAllStep p).1 = foldB p.1 es
  | [], _ => rfl
  | e :: es, p => by rw [List.map_cons, List.foldl_cons, all_ops es]; rfl
/-- What the row did up to a number, by the operations alone. -/
theorem cuts_base {r : PState × List POp} {es : List PEntry} (h : RowIs r es) {x : Nat} (h1 : r.1.tail.n.toNat ≤ x) : foldB r.1.base (r.1.log.take (x - r.1.tail.n.toNat)) = (pAllP PBase.zero (r.2.take x)).1 := by
  obtain ⟨e1, e2, e3⟩ := h
  obtain ⟨z1, z2, z3, _⟩ := zero_grow e2
  rw [← e1, ← List.map_take, pAllP, all_ops, e3, z2, z3]
  rw [e3, z1] at h1
  rw [z1, ← foldB_append, show x = (es.length - 6) + (x - (es.length - 6)) by omega, List.take_add]
  rw [show (es.length - 6) + (x - (es.length - 6)) - (es.length - 6) = x - (es.length - 6) by omega]
theorem row_small {ops : List POp} {since : UInt32} (h : ops.length ≤ 100) : (lastE (pRow ops since).1).n.toNat < 1000 := by
  obtain ⟨es, e1, e2, e3⟩ := row_is ops since
  have h1 : (pRow ops since).2.length ≤ 0 + ops.length := row_len since ops (PState.zero, [])
  rw [← e1, List.length_map] at h1
  rw [e3, (zero_grow e2).2.2.2]; omega
theorem past_place {s : PState} (hb : (lastE s).n.toNat < 1000) : pPlace s ((lastE s).n + 1) = -1 := by
  have e1 : (1 : UInt32).toNat = 1 := rfl
  have hn : ((lastE s).n + 1).toNat = (lastE s).n.toNat + 1 := by rw [UInt32.toNat_add, e1]; exact Nat.mod_eq_of_lt (by omega)
  unfold pPlace
  rw [if_pos (.inr (by rw [UInt32.lt_iff_toNat_lt]; omega))]
theorem past_cut {s : PState} (h : Ok s) (hb : (lastE s).n.toNat < 1000) : pCut s ((lastE s).n + 1) = (PState.zero, 141) := by
  rw [pCut, if_neg (by simp [ok_is h]), past_place hb, if_pos (by decide)]
theorem past_tail {s : PState} (h : Ok s) (hb : (lastE s).n.toNat < 1000) : pTail s ((lastE s).n + 1) = (PState.zero, 141) := by
  have e1 : (1 : UInt32).toNat = 1 := rfl
  have hn : ((lastE s).n + 1).toNat = (lastE s).n.toNat + 1 := by rw [UInt32.toNat_add, e1]; exact Nat.mod_eq_of_lt (by omega)
  have hl := last_n h.ch
  rw [pTail, if_neg (by simp [ok_is h]), if_neg (by rw [UInt32.lt_iff_toNat_lt]; omega), past_place hb, if_pos (by decide)]
theorem cut_head {s : PState} (h : Ok s) {x : UInt32} (h1 : s.tail.n.toNat ≤ x.toNat) (h2 : x.toNat ≤ (lastE s).n.toNat) : (lastE { s with log := s.log.take (x.toNat - s.tail.n.toNat) }).n = x := by
  have hl := last_n h.ch
  have ho := ok_cut h (x.toNat - s.tail.n.toNat)
  apply UInt32.toNat_inj.1
  rw [last_n ho.ch]
  show s.tail.n.toNat + (s.log.take (x.toNat - s.tail.n.toNat)).length = _
  rw [List.length_take]; omega
theorem tail_head {s : PState} (h : Ok s) {x : UInt32} (h1 : s.tail.n.toNat ≤ x.toNat) (h2 : x.toNat ≤ (lastE s).n.toNat) : (pFolded s (x.toNat - s.tail.n.toNat)).tail.n = x := by
  have hl := last_n h.ch
  apply UInt32.toNat_inj.1
  rw [folded_n h (by omega)]; omega
end Go.Proofs.Ytfkmaepcjognkaa.Pad
