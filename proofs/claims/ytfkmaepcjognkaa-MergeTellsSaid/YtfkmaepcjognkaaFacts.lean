/- Plain laws of a group's state: folding, adding, heads; no program in sight. No condition. -/
import Derived.Test.YtfkmaepcjognkaaLogb
namespace Go.Proofs.Ytfkmaepcjognkaa.Pad
open Go Go.Proofs
def foldB (b : PBase) (es : List PEntry) : PBase := es.foldl (fun b e => (pDo b e.op).1) b
def tailOf (t : PEntry) (es : List PEntry) : PEntry := es.foldl (fun _ e => ⟨e.since, e.n, POp.zero⟩) t
def pAll (s : PState) : PBase := foldB s.base s.log
structure Ok (s : PState) : Prop where
  st : ¬ 60 < s.started
  ts : ¬ 60 < s.tail.since
  op : s.tail.op = POp.zero
  len : s.log.length ≤ 6
  base : pBase s.base = true
  ch : pChain s.tail s.log = true
theorem ok_is {s : PState} (h : Ok s) : pIs s = true := by
  unfold pIs
  rw [if_neg]
  · exact h.ch
  · simp only [not_or]
    refine ⟨h.st, h.ts, fun hn => hn h.op, ?_, by rw [h.base]; simp⟩
    have := h.len; omega
theorem is_ok {s : PState} (h : pIs s = true) : Ok s := by
  have hc := is_chain h
  have hl := is_len h
  have hb := is_base h
  unfold pIs at h
  split at h
  · cases h
  · rename_i h1
    simp only [not_or] at h1
    exact ⟨h1.1, h1.2.1, Classical.not_not.1 h1.2.2.1, hl, hb, hc⟩
theorem foldl_step : ∀ (es : List PEntry) (s : PState), es.foldl pStep s = ⟨s.started, foldB s.base es, tailOf s.tail es, s.log⟩
  | [], s => rfl
  | e :: es, s => by rw [List.foldl_cons, foldl_step es]; rfl
theorem folded_eq (s : PState) (n : Nat) : pFolded s n = ⟨s.started, foldB s.base (s.log.take n), tailOf s.tail (s.log.take n), s.log.drop n⟩ := by
  rw [pFolded, foldl_step]
theorem foldB_append (b : PBase) (xs ys : List PEntry) : foldB b (xs ++ ys) = foldB (foldB b xs) ys := List.foldl_append
theorem tailOf_append (t : PEntry) (xs ys : List PEntry) : tailOf t (xs ++ ys) = tailOf (tailOf t xs) ys := List.foldl_append
theorem tailOf_snoc (t : PEntry) (xs : List PEntry) (e : PEntry) : tailOf t (xs ++ [e]) = ⟨e.since, e.n, POp.zero⟩ := by rw [tailOf_append]; rfl
theorem folded_folded (s : PState) (a b : Nat) : pFolded (pFolded s a) b = pFolded s (a + b) := by
  rw [folded_eq (pFolded s a), folded_eq s a, folded_eq s (a + b)]
  simp only [List.drop_drop, List.take_add, foldB_append, tailOf_append]
theorem all_folded (s : PState) (n : Nat) : pAll (pFolded s n) = pAll s := by
  rw [folded_eq]
  simp only [pAll, ← foldB_append, List.take_append_drop]
theorem folded_zero (s : PState) : pFolded s 0 = s := by rw [folded_eq]; rfl
theorem folded_base (s : PState) : (pFolded s s.log.length).base = pAll s := by rw [folded_eq, List.take_length]; rfl
theorem fold_ok {s : PState} (h : Ok s) : pFold s = pAll s := by rw [pFold, if_pos (ok_is h), folded_base]

/-! ### chains -/
theorem next_same {l l' e : PEntry} (h1 : l.n = l'.n) (h2 : l.since = l'.since) : pNext l e = pNext l' e := by simp only [pNext, h1, h2]
theorem chain_same {l l' : PEntry} (h1 : l.n = l'.n) (h2 : l.since = l'.since) : ∀ xs, pChain l xs = pChain l' xs
  | [] => rfl
  | e :: r => by simp only [pChain, next_same h1 h2]
theorem chain_drop : ∀ (xs : List PEntry) (t : PEntry) (n : Nat), pChain t xs = true → pChain (tailOf t (xs.take n)) (xs.drop n) = true
  | _, t, 0, h => h
  | [], t, n + 1, h => h
  | e :: r, t, n + 1, h => by
    simp only [pChain, Bool.and_eq_true] at h
    have := chain_drop r ⟨e.since, e.n, POp.zero⟩ n (by rw [chain_same (l := ⟨e.since, e.n, POp.zero⟩) (l' := e) rfl rfl]; exact h.2)
    exact this
theorem chain_take : ∀ (xs : List PEntry) (t : PEntry) (n : Nat), pChain t xs = true → pChain t (xs.take n) = true
  | _, t, 0, h => by simp [pChain]
  | [], t, n + 1, h => by simpa using h
  | e :: r, t, n + 1, h => by
    simp only [pChain, Bool.and_eq_true] at h
    simp only [List.take_succ_cons, pChain, Bool.and_eq_true]
    exact ⟨h.1, chain_take r e n h.2⟩
theorem chain_snoc : ∀ (xs : List PEntry) (t e : PEntry), pChain t xs = true → pNext ((xs[xs.length - 1]?).getD t) e = true → pChain t (xs ++ [e]) = true
  | [], t, e, _, h => by simpa [pChain] using h
  | [x], t, e, hc, h => by
    simp only [pChain, Bool.and_true] at hc
    simp only [List.length_singleton, Nat.sub_self, List.getElem?_cons_zero, Option.getD_some] at h
    simp [pChain, hc, h]
  | x :: y :: r, t, e, hc, h => by
    simp only [pChain, Bool.and_eq_true] at hc
    simp only [List.cons_append, pChain, Bool.and_eq_true]
    refine ⟨hc.1, ?_⟩
    have := chain_snoc (y :: r) x e (by simp only [pChain, Bool.and_eq_true]; exact hc.2) (by simpa using h)
    simpa [pChain] using this
theorem chain_mem : ∀ (xs : List PEntry) (t : PEntry), pChain t xs = true → ∀ e ∈ xs, writes e.op = true ∧ ¬ 60 < e.since
  | [], _, _, e, h => by cases h
  | x :: r, t, hc, e, h => by
    simp only [pChain, Bool.and_eq_true] at hc
    rcases List.mem_cons.1 h with rfl | h
    · have := hc.1
      simp only [pNext, Bool.and_eq_true, decide_eq_true_eq] at this
      exact ⟨this.1, by rw [UInt32.not_lt]; exact this.2.2.2.2⟩
    · exact chain_mem r x hc.2 e h
theorem tailOf_eq (t : PEntry) (xs : List PEntry) : (tailOf t xs).n = ((xs[xs.length - 1]?).getD t).n ∧ (tailOf t xs).since = ((xs[xs.length - 1]?).getD t).since := by
  rcases List.eq_nil_or_concat xs with rfl | ⟨ys, e, rfl⟩
  · exact ⟨rfl, rfl⟩
  · rw [List.concat_eq_append, tailOf_snoc]; simp
theorem tailOf_op {t : PEntry} (h : t.op = POp.zero) (xs : List PEntry) : (tailOf t xs).op = POp.zero := by
  rcases List.eq_nil_or_concat xs with rfl | ⟨ys, e, rfl⟩
  · exact h
  · rw [List.concat_eq_append, tailOf_snoc]
theorem tailOf_since {t : PEntry} {xs : List PEntry} (h : ¬ 60 < t.since) (hx : ∀ e ∈ xs, ¬ 60 < e.since) : ¬ 60 < (tailOf t xs).since := by
  rcases List.eq_nil_or_concat xs with rfl | ⟨ys, e, rfl⟩
  · exact h
  · rw [List.concat_eq_append] at hx ⊢
    rw [tailOf_snoc]; exact hx e (by simp)

/-! ### bases stay bases -/
theorem obj_set_same {b : PBase} {x : PObj} {k : Nat} (hk : k < 6) : (b.setObj x k).obj k = x := by
  match k, hk with
  | 0, _ | 1, _ | 2, _ | 3, _ | 4, _ | 5, _ => rfl
theorem last_setLast (b : PBase) (x : PLast) (k i : Nat) : (b.setLast x k).last i = x ∨ (b.setLast x k).last i = b.last i := by
  match k, i with
  | 0, 0 => exact .inl rfl
  | 0, 1 | 0, i + 2 => exact .inr rfl
  | 1, 1 => exact .inl rfl
  | 1, 0 | 1, i + 2 => exact .inr rfl
  | k + 2, i + 2 => exact .inl rfl
  | k + 2, 0 | k + 2, 1 => exact .inr rfl
theorem last_setObj (b : PBase) (x : PObj) (k i : Nat) : (b.setObj x k).last i = b.last i := by
  match k with
  | 0 | 1 | 2 | 3 | 4 | k + 5 => match i with | 0 | 1 | i + 2 => rfl
theorem pObject_there {x : PObj} (h : x.there = true) (h0 : x.a0.size ≤ 16) (h1 : x.a1.size ≤ 16) (h2 : x.a2.size ≤ 16) (hd : x.data.size ≤ 16) : pObject x = true := by
  unfold pObject
  rw [if_neg (by rw [h]; simp), all_t]
  · simp only [Bool.true_and, decide_eq_true_eq]; omega
  · intro j hj
    simp only [decide_eq_true_eq]
    match j, hj with
    | 0, _ => show (x.a0.size : Int) ≤ 16; omega
    | 1, _ => show (x.a1.size : Int) ≤ 16; omega
    | 2, _ => show (x.a2.size : Int) ≤ 16; omega
theorem pObject_facts {x : PObj} (h : pObject x = true) : x.a0.size ≤ 16 ∧ x.a1.size ≤ 16 ∧ x.a2.size ≤ 16 ∧ x.data.size ≤ 16 := by
  unfold pObject at h
  split at h
  · have := of_decide_eq_true h
    rw [this]
    exact ⟨Nat.zero_le _, Nat.zero_le _, Nat.zero_le _, Nat.zero_le _⟩
  · simp only [Bool.and_eq_true, decide_eq_true_eq] at h
    have h1 := List.all_eq_true.1 h.1
    have a0 := of_decide_eq_true (h1 0 (by simp))
    have a1 := of_decide_eq_true (h1 1 (by simp))
    have a2 := of_decide_eq_true (h1 2 (by simp))
    have e0 : (x.attr 0) = x.a0 := rfl
    have e1 : (x.attr 1) = x.a1 := rfl
    have e2 : (x.attr 2) = x.a2 := rfl
    rw [e0] at a0; rw [e1] at a1; rw [e2] at a2
    exact ⟨by omega, by omega, by omega, by omega⟩
theorem does_object {k : UInt8} {x : PObj} {o : POp} (hx : pObject x = true) (ho : o.data.size ≤ 16) : pObject (pDoes k x o).1 = true := by
  obtain ⟨h0, h1, h2, hd⟩ := pObject_facts hx
  unfold pDoes
  split
  · unfold pWrite
    split
    · exact hx
    · refine pObject_there rfl h0 h1 h2 ?_
      have := grown_size x.data ((o.at_.toNat : Int) + (o.data.size : Int))
      simp only [ByteArray.size_append, ByteArray.size_extract]
      omega
  · split
    · unfold pTrunc
      split
      · exact hx
      · rename_i ht
        split
        · exact hx
        · rename_i hat
          refine pObject_there (by simpa using ht) h0 h1 h2 ?_
          rw [UInt8.lt_iff_toNat_lt] at hat
          have e : (16 : UInt8).toNat = 16 := rfl
          rw [e] at hat
          simp only [ByteArray.size_extract]
          omega
    · split
      · unfold pAttr
        split
        · exact hx
        · split
          · exact hx
          · rename_i ht
            have ht : x.there = true := by simpa using ht
            match o.at_.toNat with
            | 0 => exact pObject_there ht ho h1 h2 hd
            | 1 => exact pObject_there ht h0 ho h2 hd
            | i + 2 => exact pObject_there ht h0 h1 ho hd
      · unfold pRemove
        split
        · exact hx
        · decide
theorem does_code (k : UInt8) (x : PObj) (o : POp) : (pDoes k x o).2 = 0 ∨ (pDoes k x o).2 = 1 ∨ (pDoes k x o).2 = 2 ∨ (pDoes k x o).2 = 3 := by
  unfold pDoes
  split
  · unfold pWrite; split <;> simp
  · split
    · unfold pTrunc; split; simp; split <;> simp
    · split
      · unfold pAttr; split; simp; split <;> simp
      · unfold pRemove; split <;> simp
theorem last_big (b : PBase) (i : Nat) : b.last i = b.last (min i 2) := by
  match i with
  | 0 | 1 => rfl
  | i + 2 => rw [show min (i + 2) 2 = 2 by omega]; rfl
theorem base_obj {b : PBase} (h : pBase b = true) (i : Nat) : pObject (b.obj i) = true := by
  simp only [pBase, Bool.and_eq_true] at h
  rw [obj_big]
  exact List.all_eq_true.1 h.1 (min i 5) (List.mem_range.2 (by omega))
theorem base_last {b : PBase} (h : pBase b = true) (i : Nat) : pLast (b.last i) = true := by
  simp only [pBase, Bool.and_eq_true] at h
  rw [last_big]
  exact List.all_eq_true.1 h.2 (min i 2) (List.mem_range.2 (by omega))
theorem writes_seq {o : POp} (h : writes o = true) : o.seq ≠ 0 := by
  unfold writes at h
  simp only [Bool.and_eq_true] at h
  have h1 := h.1
  unfold isOp at h1
  split at h1
  · cases h1
  · rename_i h2; simp only [not_or] at h2; exact h2.2.2.1
theorem base_do {b : PBase} {o : POp} (hb : pBase b = true) : pBase (pDo b o).1 = true := by
  unfold pDo
  split
  · exact hb
  · rename_i hw
    have hw : writes o = true := by simpa using hw
    split
    · exact hb
    · refine pBase_t (fun j _ => ?_) (fun j _ => ?_)
      · simp only [pDone, obj_setLast]
        rcases obj_setObj b (pDoes o.kind (b.obj o.obj.toNat) o).1 o.obj.toNat j with e | e
        · rw [e]; exact does_object (base_obj hb _) (writes_facts hw).2.2.2
        · rw [e]; exact base_obj hb j
      · simp only [pDone]
        rcases last_setLast (b.setObj (pDoes o.kind (b.obj o.obj.toNat) o).1 o.obj.toNat) ⟨o.seq, ⟨(pDoes o.kind (b.obj o.obj.toNat) o).2, ⟨#[]⟩⟩⟩ (o.client - 1).toNat j with e | e
        · rw [e]
          have hs := writes_seq hw
          rcases does_code o.kind (b.obj o.obj.toNat) o with h | h | h | h <;> simp [pLast, h, hs]
        · rw [e, last_setObj]; exact base_last hb j
theorem base_fold : ∀ (es : List PEntry) {b : PBase}, pBase b = true → pBase (foldB b es) = true
  | [], _, h => h
  | e :: es, b, h => base_fold es (b := (pDo b e.op).1) (base_do h)

/-! ### states stay states -/
theorem ok_folded {s : PState} (h : Ok s) (n : Nat) : Ok (pFolded s n) := by
  rw [folded_eq]
  have hm := chain_mem _ _ h.ch
  exact ⟨h.st, tailOf_since h.ts (fun e he => (hm e (List.mem_of_mem_take he)).2), tailOf_op h.op _, by simp only [List.length_drop]; have := h.len; omega, base_fold _ h.base, chain_drop _ _ _ h.ch⟩
theorem ok_zero : Ok PState.zero := by
  refine ⟨by decide, by decide, rfl, Nat.zero_le _, by decide, rfl⟩
theorem last_folded {s : PState} (n : Nat) : (lastE (pFolded s n)).n = (lastE s).n ∧ (lastE (pFolded s n)).since = (lastE s).since := by
  rw [folded_eq]
  unfold lastE
  simp only [List.length_drop, List.getElem?_drop]
  by_cases hn : n < s.log.length
  · rw [show n + (s.log.length - n - 1) = s.log.length - 1 by omega, List.getElem?_eq_getElem (by omega)]
    exact ⟨rfl, rfl⟩
  · rw [List.getElem?_eq_none (by omega), List.take_of_length_le (by omega)]
    exact tailOf_eq s.tail s.log
theorem ok_snoc {s : PState} {e : PEntry} (h : Ok s) (hn : pNext (lastE s) e = true) (k : Nat) (hk : s.log.length + 1 - k ≤ 6) : Ok (pFolded { s with log := s.log ++ [e] } k) := by
  have hc : pChain s.tail (s.log ++ [e]) = true := chain_snoc _ _ _ h.ch hn
  rw [folded_eq]
  have hm := chain_mem _ _ hc
  exact ⟨h.st, tailOf_since h.ts (fun x hx => (hm x (List.mem_of_mem_take hx)).2), tailOf_op h.op _, by simp only [List.length_drop, List.length_append, List.length_singleton]; omega, base_fold _ h.base, chain_drop _ _ _ hc⟩
theorem add_ok {s : PState} {e : PEntry} (h : Ok s) (hn : pNext (lastE s) e = true) : pAdd s e = (pFolded { s with log := s.log ++ [e] } (s.log.length + 1 - 6), 0) := by
  rw [pAdd, if_neg]
  simp [ok_is h, hn]
theorem add_err (s : PState) (e : PEntry) : (pAdd s e).2 = 0 ∨ (pAdd s e).2 = 10 ∧ (pAdd s e).1 = PState.zero := by
  unfold pAdd; split
  · exact .inr ⟨rfl, rfl⟩
  · exact .inl rfl
theorem add_zero {s : PState} {e : PEntry} (h : (pAdd s e).2 = 0) : pIs s = true ∧ pNext (lastE s) e = true := by
  unfold pAdd at h
  split at h
  · cases h
  · rename_i h1; simp only [not_or, Bool.not_eq_false] at h1; exact h1
theorem ok_add {s : PState} {e : PEntry} (h : (pAdd s e).2 = 0) : Ok (pAdd s e).1 := by
  obtain ⟨h1, h2⟩ := add_zero h
  rw [add_ok (is_ok h1) h2]
  exact ok_snoc (is_ok h1) h2 _ (by omega)
theorem last_snoc (s : PState) (e : PEntry) : lastE { s with log := s.log ++ [e] } = e := by simp [lastE]
theorem last_add {s : PState} {e : PEntry} (h : (pAdd s e).2 = 0) : (lastE (pAdd s e).1).n = e.n ∧ (lastE (pAdd s e).1).since = e.since := by
  obtain ⟨h1, h2⟩ := add_zero h
  rw [add_ok (is_ok h1) h2]
  have := last_folded (s := { s with log := s.log ++ [e] }) (s.log.length + 1 - 6)
  rwa [last_snoc] at this
theorem all_add {s : PState} {e : PEntry} (h : (pAdd s e).2 = 0) : pAll (pAdd s e).1 = (pDo (pAll s) e.op).1 := by
  obtain ⟨h1, h2⟩ := add_zero h
  rw [add_ok (is_ok h1) h2, all_folded]
  simp only [pAll, foldB_append]; rfl
end Go.Proofs.Ytfkmaepcjognkaa.Pad
