/- Plain laws of layer 8: two runs over the same rows. No condition. -/
import Derived.Test.YtfkmaepcjognkaaT8b
namespace Go.Proofs.Ytfkmaepcjognkaa.Pad
open Go Go.Proofs
def start (x : UInt32) : PState := ⟨x, PBase.zero, PEntry.zero, []⟩
def lastL (es : List PEntry) : PEntry := (es[es.length - 1]?).getD PEntry.zero
def stepE (es : List PEntry) (x : POp × UInt32) : List PEntry := if pNext (lastL es) ⟨x.2, (lastL es).n + 1, x.1⟩ = true then es ++ [⟨x.2, (lastL es).n + 1, x.1⟩] else es
theorem last_start (x : UInt32) (es : List PEntry) : (lastE (grow (start x) es)).n = (lastL es).n ∧ (lastE (grow (start x) es)).since = (lastL es).since := last_grow (s := start x) es
theorem step_grow {x : UInt32} (hx : Ok (start x)) {es : List PEntry} (hc : pChain PEntry.zero es = true) (it : POp × UInt32) : pStStep (grow (start x) es) it = grow (start x) (stepE es it) ∧ pChain PEntry.zero (stepE es it) = true := by
  have hok := ok_grow hx (es := es) hc
  obtain ⟨l1, l2⟩ := last_start x es
  have hn : (pHead (grow (start x) es)).2 = (lastL es).n := by rw [head_ok hok]; exact l1
  unfold pStStep stepE
  rw [hn]
  have hnx : pNext (lastE (grow (start x) es)) ⟨it.2, (lastL es).n + 1, it.1⟩ = pNext (lastL es) ⟨it.2, (lastL es).n + 1, it.1⟩ := next_same l1 l2
  cases hb : pNext (lastL es) ⟨it.2, (lastL es).n + 1, it.1⟩ with
  | true =>
    have h0 : (pAdd (grow (start x) es) ⟨it.2, (lastL es).n + 1, it.1⟩).2 = 0 := by rw [add_ok hok (hnx.trans hb)]
    obtain ⟨g1, g2⟩ := grow_snoc hx (es := es) hc h0
    rw [if_pos h0, if_pos rfl]
    exact ⟨g1, g2⟩
  | false =>
    have h0 : (pAdd (grow (start x) es) ⟨it.2, (lastL es).n + 1, it.1⟩).2 = 10 := by rw [pAdd, if_pos (.inr (hnx.trans hb))]
    rw [if_neg (by rw [h0]; decide), if_neg (by simp)]
    exact ⟨rfl, hc⟩
theorem fold_grow {x : UInt32} (hx : Ok (start x)) : ∀ (xs : List (POp × UInt32)) (es : List PEntry), pChain PEntry.zero es = true → xs.foldl pStStep (grow (start x) es) = grow (start x) (xs.foldl stepE es) ∧ pChain PEntry.zero (xs.foldl stepE es) = true
  | [], _, hc => ⟨rfl, hc⟩
  | it :: xs, es, hc => by
    obtain ⟨h1, h2⟩ := step_grow hx hc it
    rw [List.foldl_cons, List.foldl_cons, h1]
    exact fold_grow hx xs _ h2
theorem fold_more (y : UInt32) : ∀ (xs : List (POp × UInt32)) (es : List PEntry), (∀ p ∈ xs, p.2 = y) → ∃ ms, xs.foldl stepE es = es ++ ms ∧ (∀ e ∈ ms, e.since = y) ∧ ms.length ≤ xs.length
  | [], es, _ => ⟨[], by simp, by simp, Nat.le_refl _⟩
  | it :: xs, es, h => by
    obtain ⟨ms, h1, h2, h3⟩ := fold_more y xs (stepE es it) (fun p hp => h p (List.mem_cons_of_mem _ hp))
    rw [List.foldl_cons, h1]
    unfold stepE
    split
    · refine ⟨⟨it.2, (lastL es).n + 1, it.1⟩ :: ms, by simp, fun e he => ?_, by simp; omega⟩
      rcases List.mem_cons.1 he with rfl | he
      · exact h it List.mem_cons_self
      · exact h2 e he
    · exact ⟨ms, rfl, h2, by simp; omega⟩
theorem start_grow {x : UInt32} (hx : Ok (start x)) {es : List PEntry} (hc : pChain PEntry.zero es = true) : (grow (start x) es).tail.n.toNat = es.length - 6 ∧ (grow (start x) es).log = es.drop (es.length - 6) ∧ (grow (start x) es).base = foldB PBase.zero (es.take (es.length - 6)) ∧ (lastE (grow (start x) es)).n.toNat = es.length := by
  have ho := ok_grow hx (es := es) hc
  have e : (start x).log.length + es.length - 6 = es.length - 6 := by show 0 + es.length - 6 = _; omega
  have h1 : (grow (start x) es).tail.n.toNat = es.length - 6 := by
    rw [grow, folded_eq, e]
    have := tail_n es PEntry.zero (es.length - 6) hc (by omega)
    show (tailOf PEntry.zero (es.take (es.length - 6))).n.toNat = _
    rw [this]; exact Nat.zero_add _
  have h2 : (grow (start x) es).log = es.drop (es.length - 6) := by rw [grow, folded_eq, e]; rfl
  refine ⟨h1, h2, by rw [grow, folded_eq, e]; rfl, ?_⟩
  rw [last_n ho.ch, h1, h2, List.length_drop]; omega
theorem common_zs {s : PState} {fs : List PEntry} (hf : ∀ e, fs[0]? = some e → (pFind s e.n).2 = false ∨ ¬ (pFind s e.n).1 = e) : ∀ (zs : List PEntry) (n : UInt32), (∀ e ∈ zs, pFind s e.n = (e, true)) → pCommon s n (zs ++ fs) = zs.foldl (fun _ e => e.n) n
  | [], n, _ => by
    cases fs with
    | nil => rfl
    | cons e r => rw [List.nil_append, pCommon, if_pos (hf e rfl)]; rfl
  | e :: zs, n, h => by
    rw [List.cons_append, pCommon, h e List.mem_cons_self, if_neg (by simp)]
    exact common_zs hf zs e.n (fun x hx => h x (List.mem_cons_of_mem _ hx))
theorem foldl_last : ∀ (zs : List PEntry) (n : UInt32) (k : Nat), n.toNat = k → (∀ i e, zs[i]? = some e → e.n.toNat = k + i + 1) → (zs.foldl (fun _ e => e.n) n).toNat = k + zs.length
  | [], n, k, h, _ => by simpa using h
  | e :: zs, n, k, h, hz => by
    have h0 := hz 0 e rfl
    have := foldl_last zs e.n (k + 1) (by omega) (fun i x hx => by have := hz (i + 1) x (by simpa using hx); omega)
    rw [List.foldl_cons, this, List.length_cons]; omega
theorem make_from {s t : PState} (h : (pMake s t).kind = 1) : pStands s t = true ∧ (pMake s t).from_ = pCommon s t.tail.n t.log := by
  unfold pMake at h ⊢
  split at h
  · cases h
  · rename_i h1
    rw [if_neg h1]
    split at h
    · cases h
    · rename_i h2
      rw [if_neg h2]
      split at h
      · cases h
      · rename_i h3
        rw [if_neg h3]
        exact ⟨by simpa using h3, rfl⟩
theorem st_start (a b : List POp) (since started : UInt32) : ∃ es ms, pSt a b since 0 started = grow (start (started % 60)) (es ++ ms) ∧ es = (a.map (fun o => (o, (1 : UInt32)))).foldl stepE [] ∧ pChain PEntry.zero es = true ∧ pChain PEntry.zero (es ++ ms) = true ∧ (∀ e ∈ ms, e.since = since % 20 + 2) ∧ ms.length ≤ b.length := by
  have hx : Ok (start (started % 60)) := ok_start started
  have hz : grow (start (started % 60)) [] = start (started % 60) := grow_nil hx
  obtain ⟨a1, a2⟩ := fold_grow hx (a.map (fun o => (o, (1 : UInt32)))) [] rfl
  obtain ⟨b1, b2⟩ := fold_grow hx (b.map (fun o => (o, since % 20 + 2))) _ a2
  obtain ⟨ms, m1, m2, m3⟩ := fold_more (since % 20 + 2) (b.map (fun o => (o, since % 20 + 2))) ((a.map (fun o => (o, (1 : UInt32)))).foldl stepE []) (fun p hp => by
    obtain ⟨o, _, rfl⟩ := List.mem_map.1 hp; rfl)
  refine ⟨_, ms, ?_, rfl, a2, by rw [← m1]; exact b2, m2, by simpa using m3⟩
  rw [st_f0, pSt0, items, List.foldl_append, ← m1, ← b1, ← a1, hz]; rfl
theorem rewinds {xs ya yb : List POp} (hb : yb.length ≤ 3) (hk : (pMake (pSt xs ya 5 0 1) (pSt xs yb 6 0 9)).kind = 1) :
    (pMake (pSt xs ya 5 0 1) (pSt xs yb 6 0 9)).from_ = (lastE (pSt xs [] 0 0 1)).n ∧ pExtends (pSt xs ya 5 0 1) (pSt xs yb 6 0 9) = decide ((lastE (pSt xs ya 5 0 1)).n = (lastE (pSt xs [] 0 0 1)).n) := by
  obtain ⟨es, ea, s1, s2, s3, s4, s5, s6⟩ := st_start xs ya 5 1
  obtain ⟨es', eb, t1, t2, t3, t4, t5, t6⟩ := st_start xs yb 6 9
  obtain ⟨es'', ec, u1, u2, u3, u4, u5, u6⟩ := st_start xs [] 0 1
  have he1 : es' = es := t2.trans s2.symm
  have he2 : es'' = es := u2.trans s2.symm
  rw [he1] at t1 t3 t4
  rw [he2] at u1 u3 u4
  have hec : ec = [] := List.eq_nil_of_length_eq_zero (by simpa using u6)
  subst hec
  rw [List.append_nil] at u1 u4
  have hos := st_ok xs ya 5 0 1
  have hot := st_ok xs yb 6 0 9
  have hkk := make_from hk
  obtain ⟨k1, k2⟩ := hkk
  obtain ⟨v1, v2, _, _⟩ := (stands_iff hos).1 k1
  obtain ⟨g1, g2, _, g4⟩ := start_grow (ok_start 1) s4
  obtain ⟨h1, h2, _, h4⟩ := start_grow (ok_start 9) t4
  obtain ⟨_, _, _, i4⟩ := start_grow (ok_start 1) u4
  rw [← s1] at g1 g2 g4
  rw [← t1] at h1 h2 h4
  rw [← u1] at i4
  rw [g1, h1] at v1
  rw [h1, g4] at v2
  simp only [List.length_append] at g1 g2 g4 h1 h2 h4 v1 v2
  have hlog : (pSt xs yb 6 0 9).log = es.drop (es.length + eb.length - 6) ++ eb := by rw [h2]; exact List.drop_append_of_le_length (by omega)
  have hn : ∀ {ms : List PEntry}, pChain PEntry.zero (es ++ ms) = true → ∀ i e, (es ++ ms)[i]? = some e → e.n.toNat = i + 1 := fun hc i e he => by
    have := chain_n _ _ hc i e he
    have e0 : PEntry.zero.n.toNat = 0 := rfl
    omega
  have hsl : ∀ i, (pSt xs ya 5 0 1).log[i]? = (es ++ ea)[es.length + ea.length - 6 + i]? := fun i => by rw [g2, List.getElem?_drop]
  have hc := common_zs (s := pSt xs ya 5 0 1) (fs := eb) (fun e he => by
      have hx : (es ++ eb)[es.length]? = some e := by rw [List.getElem?_append_right (Nat.le_refl _), Nat.sub_self]; exact he
      have hen := hn t4 _ _ hx
      have hsi : e.since = 8 := t5 e (List.mem_of_getElem? he)
      cases hf : (pFind (pSt xs ya 5 0 1) e.n).2 with
      | false => exact .inl rfl
      | true =>
        refine .inr fun heq => ?_
        have hv := find_val hos hf
        have hfo := (find_ok hos).1 hf
        rw [heq, hsl] at hv
        rw [List.getElem?_append_right (by omega)] at hv
        have := s5 e (List.mem_of_getElem? hv)
        rw [hsi] at this
        exact absurd this (by decide)) (es.drop (es.length + eb.length - 6)) (pSt xs yb 6 0 9).tail.n (fun e he => by
      obtain ⟨i, hi⟩ := List.mem_iff_getElem?.1 he
      rw [List.getElem?_drop] at hi
      have hlt := (List.getElem?_eq_some_iff.1 hi).1
      have hle : es.length + ea.length - 6 ≤ es.length + eb.length - 6 + i := by omega
      refine find_at hos (i := es.length + eb.length - 6 + i - (es.length + ea.length - 6)) ?_
      rw [hsl, show es.length + ea.length - 6 + (es.length + eb.length - 6 + i - (es.length + ea.length - 6)) = es.length + eb.length - 6 + i by omega, List.getElem?_append_left hlt]
      exact hi)
  have hl := foldl_last (es.drop (es.length + eb.length - 6)) (pSt xs yb 6 0 9).tail.n (es.length + eb.length - 6) h1 (fun i e he => by
    rw [List.getElem?_drop] at he
    have := hn (ms := []) (by rw [List.append_nil]; exact s3) (es.length + eb.length - 6 + i) e (by rw [List.append_nil]; exact he)
    omega)
  have hfrom : (pMake (pSt xs ya 5 0 1) (pSt xs yb 6 0 9)).from_ = (lastE (pSt xs [] 0 0 1)).n := by
    apply UInt32.toNat_inj.1
    rw [k2, hlog, hc, hl, i4, List.length_drop]; omega
  refine ⟨hfrom, ?_⟩
  rw [pExtends, if_neg (by simp [ok_is hos, ok_is hot]), head_ok hos, head_ok hot, hk, hfrom]
  simp only [decide_true, Bool.true_and]
  by_cases he : (lastE (pSt xs ya 5 0 1)).n = (lastE (pSt xs [] 0 0 1)).n
  · have : (lastE (pSt xs ya 5 0 1)).n ≤ (lastE (pSt xs yb 6 0 9)).n := by rw [UInt32.le_iff_toNat_le, h4, he, i4]; omega
    simp [he, this]
    rw [← he]; exact this
  · have he' : ¬ (lastE (pSt xs [] 0 0 1)).n = (lastE (pSt xs ya 5 0 1)).n := fun e => he e.symm
    simp [he, he']
end Go.Proofs.Ytfkmaepcjognkaa.Pad
