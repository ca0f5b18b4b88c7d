/- Plain laws of differences: what was made, applied, makes the one state the other. No condition. -/
import Derived.Test.YtfkmaepcjognkaaMergeb
import Derived.Test.YtfkmaepcjognkaaT7
namespace Go.Proofs.Ytfkmaepcjognkaa.Pad
open Go Go.Proofs
/-- Entries added one by one are all added, then folded. -/
theorem added_eq : ∀ (es : List PEntry) {s : PState}, Ok s → pChain s.tail (s.log ++ es) = true → pAdded s es = (pFolded { s with log := s.log ++ es } (s.log.length + es.length - 6), 0)
  | [], s, h, _ => by
    have := h.len
    rw [pAdded, List.append_nil, List.length_nil, show s.log.length + 0 - 6 = 0 by omega]
    rw [show ({ s with log := s.log } : PState) = s from rfl, folded_zero]
  | e :: es, s, h, hc => by
    have hl := h.len
    have hn : pNext (lastE s) e = true := by
      have h1 := chain_take _ _ (s.log.length + 1) hc
      rw [List.take_append, List.take_of_length_le (by omega), show s.log.length + 1 - s.log.length = 1 by omega] at h1
      exact chain_last _ _ _ h1
    rw [pAdded, add_ok h hn, if_neg (by simp)]
    have ho : Ok (pFolded { s with log := s.log ++ [e] } (s.log.length + 1 - 6)) := ok_snoc h hn _ (by omega)
    have e1 : (pFolded { s with log := s.log ++ [e] } (s.log.length + 1 - 6)).log = (s.log ++ [e]).drop (s.log.length + 1 - 6) := rfl
    have e2 : (s.log ++ [e]).drop (s.log.length + 1 - 6) ++ es = (s.log ++ e :: es).drop (s.log.length + 1 - 6) := by
      rw [show s.log ++ e :: es = (s.log ++ [e]) ++ es by simp]
      exact (List.drop_append_of_le_length (by rw [List.length_append, List.length_singleton]; omega)).symm
    have e3 : (s.log ++ [e]).take (s.log.length + 1 - 6) = (s.log ++ e :: es).take (s.log.length + 1 - 6) := by
      rw [show s.log ++ e :: es = (s.log ++ [e]) ++ es by simp]
      exact (List.take_append_of_le_length (by rw [List.length_append, List.length_singleton]; omega)).symm
    have key : ({ pFolded { s with log := s.log ++ [e] } (s.log.length + 1 - 6) with log := (pFolded { s with log := s.log ++ [e] } (s.log.length + 1 - 6)).log ++ es } : PState) = pFolded { s with log := s.log ++ e :: es } (s.log.length + 1 - 6) := by
      rw [folded_eq, folded_eq]
      simp only [e2, e3]
    rw [added_eq es ho (by
      rw [e1, e2, folded_eq]
      simp only [e3]
      exact chain_drop _ _ _ hc)]
    rw [key, folded_folded]
    have e4 : ((pFolded { s with log := s.log ++ [e] } (s.log.length + 1 - 6)).log).length = s.log.length + 1 - (s.log.length + 1 - 6) := by rw [e1]; simp
    rw [e4, List.length_cons]
    congr 2
    omega
where
  chain_last : ∀ (xs : List PEntry) (t e : PEntry), pChain t (xs ++ [e]) = true → pNext ((xs[xs.length - 1]?).getD t) e = true
    | [], t, e, h => by simpa [pChain] using h
    | [x], t, e, h => by simp [pChain] at h; simpa using h.2
    | x :: y :: r, t, e, h => by
      simp only [List.cons_append, pChain, Bool.and_eq_true] at h
      have := chain_last (y :: r) x e (by simp only [List.cons_append, pChain, Bool.and_eq_true]; exact h.2)
      simpa using this
theorem find_ok {s : PState} (h : Ok s) {n : UInt32} : (pFind s n).2 = true ↔ s.tail.n.toNat < n.toNat ∧ n.toNat ≤ (lastE s).n.toNat := by
  constructor
  · intro hf
    unfold pFind at hf
    split at hf
    · cases hf
    · rename_i h1
      simp only [not_or, UInt32.le_iff_toNat_le] at h1
      obtain ⟨_, h2, h3⟩ := h1
      refine ⟨by omega, ?_⟩
      unfold pPlace at h3
      split at h3
      · omega
      · rename_i h4; simp only [not_or, UInt32.lt_iff_toNat_lt] at h4; omega
  · intro ⟨h1, h2⟩
    unfold pFind
    have hp := place_eq h (x := n) (by omega) h2
    rw [if_neg]
    simp only [not_or, ok_is h, UInt32.le_iff_toNat_le, hp]
    exact ⟨by simp, by omega, by omega⟩
theorem find_val {s : PState} (h : Ok s) {n : UInt32} (hf : (pFind s n).2 = true) : s.log[n.toNat - s.tail.n.toNat - 1]? = some (pFind s n).1 := by
  obtain ⟨h1, h2⟩ := (find_ok h).1 hf
  have hp := place_eq h (x := n) (by omega) h2
  have hl := last_n h.ch
  unfold pFind at hf ⊢
  split at hf
  · cases hf
  · rename_i h3
    rw [if_neg h3, hp]
    simp only [Int.toNat_natCast]
    rw [List.getElem?_eq_getElem (by omega)]; rfl
/-- The entries up to the common number are the same. -/
theorem common_same {s : PState} (h : Ok s) : ∀ (xs : List PEntry) (t : PEntry), pChain t xs = true → s.tail.n.toNat ≤ t.n.toNat → t.n.toNat ≤ (lastE s).n.toNat →
    (pCommon s t.n xs).toNat ≤ (lastE s).n.toNat ∧ (s.log.drop (t.n.toNat - s.tail.n.toNat)).take ((pCommon s t.n xs).toNat - t.n.toNat) = xs.take ((pCommon s t.n xs).toNat - t.n.toNat)
  | [], t, _, h1, h2 => by simp [pCommon, h2]
  | e :: r, t, hc, h1, h2 => by
    have hcm := common_le s (e :: r) t hc
    simp only [pChain, Bool.and_eq_true] at hc
    have hn := next_n hc.1
    simp only [pCommon] at hcm ⊢
    split
    · simp [h2]
    · rename_i hx
      simp only [not_or, Bool.not_eq_false, Classical.not_not] at hx
      have hfo := (find_ok h).1 hx.1
      have hv := find_val h hx.1
      rw [hx.2] at hv
      have hcr := common_le s r e hc.2
      obtain ⟨g1, g2⟩ := common_same h r e hc.2 (by omega) (by omega)
      refine ⟨g1, ?_⟩
      rw [show (pCommon s e.n r).toNat - t.n.toNat = ((pCommon s e.n r).toNat - e.n.toNat) + 1 by omega]
      rw [show e.n.toNat - s.tail.n.toNat - 1 = t.n.toNat - s.tail.n.toNat by omega] at hv
      rw [drop_of hv, List.take_succ_cons, List.take_succ_cons, ← g2, show t.n.toNat - s.tail.n.toNat + 1 = e.n.toNat - s.tail.n.toNat by omega]
theorem upto_ok {s : PState} (h : Ok s) {n : UInt32} (hu : (pUpto s n).2 = true) : s.tail.n.toNat ≤ n.toNat ∧ n.toNat ≤ (lastE s).n.toNat ∧ (pUpto s n).1 = foldB s.base (s.log.take (n.toNat - s.tail.n.toNat)) := by
  unfold pUpto at hu ⊢
  split at hu
  · cases hu
  · rename_i h1
    rw [if_neg h1]
    simp only [not_or] at h1
    have h2 := h1.2
    have h3 : s.tail.n.toNat ≤ n.toNat ∧ n.toNat ≤ (lastE s).n.toNat := by
      unfold pPlace at h2
      split at h2
      · omega
      · rename_i h4; simp only [not_or, UInt32.lt_iff_toNat_lt] at h4; omega
    rw [place_eq h h3.1 h3.2, Int.toNat_natCast, folded_eq]
    exact ⟨h3.1, h3.2, rfl⟩
theorem upto_eq {s : PState} (h : Ok s) {n : UInt32} (h1 : s.tail.n.toNat ≤ n.toNat) (h2 : n.toNat ≤ (lastE s).n.toNat) : pUpto s n = (foldB s.base (s.log.take (n.toNat - s.tail.n.toNat)), true) := by
  unfold pUpto
  rw [place_eq h h1 h2, if_neg (by simp [ok_is h]), Int.toNat_natCast, folded_eq]
theorem cut_eq {s : PState} (h : Ok s) {n : UInt32} (h1 : s.tail.n.toNat ≤ n.toNat) (h2 : n.toNat ≤ (lastE s).n.toNat) : pCut s n = ({ s with log := s.log.take (n.toNat - s.tail.n.toNat) }, 0) := by
  unfold pCut
  rw [place_eq h h1 h2, if_neg (by simp [ok_is h]), if_neg (by omega), Int.toNat_natCast]
theorem ok_cut {s : PState} (h : Ok s) (k : Nat) : Ok { s with log := s.log.take k } :=
  ⟨h.st, h.ts, h.op, by simp only [List.length_take]; have := h.len; omega, h.base, chain_take _ _ _ h.ch⟩
theorem mtail_eq {s : PState} (h : Ok s) {n : UInt32} (h1 : s.tail.n.toNat ≤ n.toNat) (h2 : n.toNat ≤ (lastE s).n.toNat) : pmTail s n = tailOf s.tail (s.log.take (n.toNat - s.tail.n.toNat)) := by
  unfold pmTail
  split
  · rename_i hf
    have hv := find_val h hf
    have hlt := ((find_ok h).1 hf).1
    have := take_of hv
    rw [show n.toNat - s.tail.n.toNat - 1 + 1 = n.toNat - s.tail.n.toNat by omega] at this
    rw [this, tailOf_snoc]
  · rename_i hf
    have : ¬ (s.tail.n.toNat < n.toNat) := fun hlt => hf ((find_ok h).2 ⟨hlt, h2⟩)
    rw [show n.toNat - s.tail.n.toNat = 0 by omega]; rfl
theorem stands_iff {s t : PState} (h : Ok s) : pStands s t = true ↔ s.tail.n.toNat ≤ t.tail.n.toNat ∧ t.tail.n.toNat ≤ (lastE s).n.toNat ∧ tailOf s.tail (s.log.take (t.tail.n.toNat - s.tail.n.toNat)) = t.tail ∧ foldB s.base (s.log.take (t.tail.n.toNat - s.tail.n.toNat)) = t.base := by
  constructor
  · intro hs
    simp only [pStands, Bool.and_eq_true, decide_eq_true_eq] at hs
    obtain ⟨h1, h2, h3⟩ := hs
    obtain ⟨u1, u2, u3⟩ := upto_ok h h1
    rw [mtail_eq h u1 u2] at h2
    exact ⟨u1, u2, h2, by rw [← u3]; exact h3⟩
  · intro ⟨u1, u2, h2, h3⟩
    simp only [pStands, Bool.and_eq_true, decide_eq_true_eq, upto_eq h u1 u2, mtail_eq h u1 u2]
    exact ⟨trivial, h2, h3⟩
theorem with_started (s : PState) : ({ s with started := s.started } : PState) = s := rfl
theorem end_ok {s : PState} {d : PDiff} {t : PState} (h : pTail s d.whole.tail.n = (t, 0)) (h1 : t.tail.since = d.whole.tail.since) (h2 : Ok { t with started := d.whole.started }) : pEnd s d = ({ t with started := d.whole.started }, 0) := by
  unfold pEnd
  rw [h, if_neg]
  simp [h1, ok_is h2]
/-- What was made, applied, makes the one the other. -/
theorem apply_make {s t : PState} (hs : Ok s) (ht : Ok t) : pApply s (pMake s t) = (t, 0) := by
  by_cases h0 : ({ s with started := t.started } : PState) = t
  · have hm : pMake s t = ⟨0, 0, [], pmHead t⟩ := by rw [pMake, if_neg (by simp [ok_is hs, ok_is ht]), if_pos h0]
    have htail : s.tail = t.tail := by have h1 := congrArg PState.tail h0; exact h1
    have hp : pTail s t.tail.n = (s, 0) := by
      rw [← htail, tail_eq hs (Nat.le_refl _) (by have := last_n hs.ch; omega), Nat.sub_self, folded_zero]
    have he : pEnd s ⟨0, 0, [], pmHead t⟩ = ({ s with started := t.started }, 0) := end_ok (t := s) hp (by rw [htail]; rfl) (by show Ok { s with started := t.started }; rw [h0]; exact ht)
    rw [hm, pApply, if_neg (by simp [ok_is hs]), if_neg (by simp), if_neg (by simp), he, h0]
  · cases hst : pStands s t with
    | false =>
      have hm : pMake s t = ⟨2, 0, [], t⟩ := by rw [pMake, if_neg (by simp [ok_is hs, ok_is ht]), if_neg h0, if_pos hst]
      rw [hm, pApply, if_neg (by simp [ok_is hs]), if_pos rfl, if_neg (by simp [ok_is ht])]
    | true =>
      have hm : pMake s t = ⟨1, pCommon s t.tail.n t.log, t.log.drop (pCommon s t.tail.n t.log - t.tail.n).toNat, pmHead t⟩ := by
        rw [pMake, if_neg (by simp [ok_is hs, ok_is ht]), if_neg h0, if_neg (by simp [hst])]
      obtain ⟨u1, u2, u3, u4⟩ := (stands_iff hs).1 hst
      obtain ⟨c1, c2⟩ := common_same hs t.log t.tail ht.ch u1 u2
      have c3 := common_le s t.log t.tail ht.ch
      have hls := last_n hs.ch
      have hlt := last_n ht.ch
      have hls6 := hs.len
      have hlt6 := ht.len
      obtain ⟨c, hc⟩ : ∃ c, c = pCommon s t.tail.n t.log := ⟨_, rfl⟩
      rw [← hc] at c1 c2 c3 hm
      have hsub : (c - t.tail.n).toNat = c.toNat - t.tail.n.toNat := UInt32.toNat_sub_of_le _ _ (by rw [UInt32.le_iff_toNat_le]; exact c3.1)
      rw [hsub] at hm
      have hcut := cut_eq hs (n := c) (by omega) c1
      -- one list of entries
      have hE : s.log.take (c.toNat - s.tail.n.toNat) ++ t.log.drop (c.toNat - t.tail.n.toNat) = s.log.take (t.tail.n.toNat - s.tail.n.toNat) ++ t.log := by
        have : s.log.take (c.toNat - s.tail.n.toNat) = s.log.take (t.tail.n.toNat - s.tail.n.toNat) ++ t.log.take (c.toNat - t.tail.n.toNat) := by
          rw [← c2, show c.toNat - s.tail.n.toNat = (t.tail.n.toNat - s.tail.n.toNat) + (c.toNat - t.tail.n.toNat) by omega, List.take_add]
        rw [this, List.append_assoc, List.take_append_drop]
      have hch : pChain s.tail (s.log.take (t.tail.n.toNat - s.tail.n.toNat) ++ t.log) = true := by
        refine chain_join _ _ _ (chain_take _ _ _ hs.ch) ?_
        rw [u3]; exact ht.ch
      have hadd := added_eq (t.log.drop (c.toNat - t.tail.n.toNat)) (ok_cut hs (c.toNat - s.tail.n.toNat)) (by simp only [hE]; exact hch)
      simp only [hE] at hadd
      obtain ⟨j, hj⟩ : ∃ j, j = (s.log.take (c.toNat - s.tail.n.toNat)).length + (t.log.drop (c.toNat - t.tail.n.toNat)).length - 6 := ⟨_, rfl⟩
      rw [← hj] at hadd
      have hjle : j ≤ t.tail.n.toNat - s.tail.n.toNat := by
        rw [hj, List.length_take, List.length_drop]; omega
      have hEl : (s.log.take (t.tail.n.toNat - s.tail.n.toNat) ++ t.log).length = (t.tail.n.toNat - s.tail.n.toNat) + t.log.length := by
        rw [List.length_append, List.length_take]; omega
      have hj6 : (s.log.take (t.tail.n.toNat - s.tail.n.toNat) ++ t.log).length - j ≤ 6 := by
        rw [hEl, hj, List.length_take, List.length_drop]; omega
      obtain ⟨f, hf⟩ : ∃ f : PState, f = { s with log := s.log.take (t.tail.n.toNat - s.tail.n.toNat) ++ t.log } := ⟨_, rfl⟩
      have hr : Ok (pFolded f j) := by
        rw [folded_eq, hf]
        have hm2 := chain_mem _ _ hch
        exact ⟨hs.st, tailOf_since hs.ts (fun e he => (hm2 e (List.mem_of_mem_take he)).2), tailOf_op hs.op _, by simp only [List.length_drop]; omega, base_fold _ hs.base, chain_drop _ _ _ hch⟩
      rw [← hf] at hadd
      have hfn : (pFolded f j).tail.n.toNat = s.tail.n.toNat + j := by
        rw [folded_eq, hf]; exact tail_n _ _ _ hch (by rw [hEl]; omega)
      have hrl : (lastE (pFolded f j)).n.toNat = t.tail.n.toNat + t.log.length := by
        rw [last_n hr.ch, hfn]
        have : (pFolded f j).log.length = (t.tail.n.toNat - s.tail.n.toNat) + t.log.length - j := by rw [folded_eq, hf]; simp only [List.length_drop, hEl]
        rw [this]; omega
      have htl : pTail (pFolded f j) t.tail.n = (pFolded f (t.tail.n.toNat - s.tail.n.toNat), 0) := by
        rw [tail_eq hr (by omega) (by omega), folded_folded, hfn]
        congr 2; omega
      have hlen : (s.log.take (t.tail.n.toNat - s.tail.n.toNat)).length = t.tail.n.toNat - s.tail.n.toNat := by rw [List.length_take]; omega
      have hfin : pFolded f (t.tail.n.toNat - s.tail.n.toNat) = ⟨s.started, t.base, t.tail, t.log⟩ := by
        rw [folded_eq, hf]
        simp only [List.take_append_of_le_length (Nat.le_of_eq hlen.symm), List.take_take, Nat.min_self, u3, u4]
        rw [show (s.log.take (t.tail.n.toNat - s.tail.n.toNat) ++ t.log).drop (t.tail.n.toNat - s.tail.n.toNat) = t.log by
          conv => lhs; arg 1; rw [← hlen]
          exact List.drop_left]
      rw [hfin] at htl
      have hend : pEnd (pFolded f j) ⟨1, c, t.log.drop (c.toNat - t.tail.n.toNat), pmHead t⟩ = (t, 0) := by
        have := end_ok (s := pFolded f j) (d := ⟨1, c, t.log.drop (c.toNat - t.tail.n.toNat), pmHead t⟩) (t := ⟨s.started, t.base, t.tail, t.log⟩) htl rfl (by exact ht)
        rw [this]; rfl
      rw [hm, pApply, if_neg (by simp [ok_is hs]), if_neg (by simp), if_pos rfl]
      simp only [hcut, hadd]
      rw [if_neg (by simp), if_neg (by simp), hend]
where
  chain_join : ∀ (xs ys : List PEntry) (t : PEntry), pChain t xs = true → pChain (tailOf t xs) ys = true → pChain t (xs ++ ys) = true
    | [], ys, t, _, h => h
    | x :: xs, ys, t, hc, h => by
      simp only [pChain, Bool.and_eq_true] at hc
      simp only [List.cons_append, pChain, Bool.and_eq_true]
      refine ⟨hc.1, chain_join xs ys x hc.2 ?_⟩
      rw [chain_same (l := tailOf x xs) (l' := tailOf ⟨x.since, x.n, POp.zero⟩ xs) (tail_same x ⟨x.since, x.n, POp.zero⟩ rfl rfl xs).1 (tail_same x ⟨x.since, x.n, POp.zero⟩ rfl rfl xs).2]
      exact h
  tail_same : ∀ (l l' : PEntry), l.n = l'.n → l.since = l'.since → ∀ xs, (tailOf l xs).n = (tailOf l' xs).n ∧ (tailOf l xs).since = (tailOf l' xs).since
    | l, l', h1, h2, [] => ⟨h1, h2⟩
    | l, l', h1, h2, x :: xs => ⟨rfl, rfl⟩
end Go.Proofs.Ytfkmaepcjognkaa.Pad
