/- Plain laws of layer 8: a state that has grown by some entries. No condition. -/
import Derived.Test.YtfkmaepcjognkaaT8
namespace Go.Proofs.Ytfkmaepcjognkaa.Pad
open Go Go.Proofs
def grow (s : PState) (es : List PEntry) : PState := pFolded { s with log := s.log ++ es } (s.log.length + es.length - 6)
theorem grow_nil {s : PState} (h : Ok s) : grow s [] = s := by
  have := h.len
  rw [grow, List.append_nil, List.length_nil, show s.log.length + 0 - 6 = 0 by omega, folded_zero]
theorem added_grow {s : PState} (h : Ok s) {es : List PEntry} (hc : pChain s.tail (s.log ++ es) = true) : pAdded s es = (grow s es, 0) := added_eq es h hc
theorem ok_added : ∀ (es : List PEntry) {s : PState}, Ok s → Ok (pAdded s es).1
  | [], _, h => h
  | e :: es, s, h => by
    rw [pAdded]
    split
    · exact ok_zero
    · exact ok_added es (ok_add' e)
theorem ok_grow {s : PState} (h : Ok s) {es : List PEntry} (hc : pChain s.tail (s.log ++ es) = true) : Ok (grow s es) := by
  have := ok_added es h
  rwa [added_grow h hc] at this
theorem added_snoc : ∀ (es : List PEntry) (s : PState) (e : PEntry), (pAdded s es).2 = 0 → (pAdd (pAdded s es).1 e).2 = 0 → pAdded s (es ++ [e]) = ((pAdd (pAdded s es).1 e).1, 0)
  | [], s, e, _, h => by simp only [List.nil_append, pAdded] at h ⊢; rw [if_neg (by simpa using h)]
  | x :: es, s, e, h1, h2 => by
    simp only [List.cons_append, pAdded] at h1 h2 ⊢
    split at h1
    · exact absurd h1 (by assumption)
    · rename_i h3
      rw [if_neg h3] at h2 ⊢
      rw [if_neg h3]
      exact added_snoc es _ e h1 h2
theorem last_grow {s : PState} (es : List PEntry) : (lastE (grow s es)).n = (lastE { s with log := s.log ++ es }).n ∧ (lastE (grow s es)).since = (lastE { s with log := s.log ++ es }).since := last_folded _
theorem grow_snoc {s : PState} (h : Ok s) {es : List PEntry} (hc : pChain s.tail (s.log ++ es) = true) {e : PEntry} (h0 : (pAdd (grow s es) e).2 = 0) : (pAdd (grow s es) e).1 = grow s (es ++ [e]) ∧ pChain s.tail (s.log ++ (es ++ [e])) = true := by
  have hn := (add_zero h0).2
  rw [next_same (l' := lastE { s with log := s.log ++ es }) (last_grow es).1 (last_grow es).2] at hn
  have hc2 : pChain s.tail (s.log ++ (es ++ [e])) = true := by
    rw [← List.append_assoc]; exact chain_snoc _ _ _ hc hn
  refine ⟨?_, hc2⟩
  have h1 := added_grow h hc
  have h2 := added_snoc es s e (by rw [h1]) (by rw [h1]; exact h0)
  rw [added_grow h hc2, h1] at h2
  exact (congrArg Prod.fst h2).symm
theorem common_app {s : PState} (h : Ok s) {fs : List PEntry} (hf : ∀ e, fs[0]? = some e → (lastE s).n.toNat < e.n.toNat) : ∀ (k i : Nat) (n : UInt32), i + k = s.log.length → n.toNat = s.tail.n.toNat + i → (pCommon s n (s.log.drop i ++ fs)).toNat = s.tail.n.toNat + s.log.length
  | 0, i, n, hk, hn => by
    rw [List.drop_of_length_le (by omega), List.nil_append]
    cases fs with
    | nil => rw [pCommon, hn]; omega
    | cons e r =>
      have h1 := hf e rfl
      rw [pCommon, if_pos, hn]
      · omega
      · refine .inl ?_
        cases hb : (pFind s e.n).2 with
        | false => rfl
        | true => have := ((find_ok h).1 hb).2; omega
  | k + 1, i, n, hk, hn => by
    obtain ⟨e, he⟩ := get_of (l := s.log) (i := i) (by omega)
    rw [drop_of he, List.cons_append, pCommon, find_at h he, if_neg (by simp)]
    exact common_app h hf k (i + 1) e.n (by omega) (by rw [chain_n _ _ h.ch i e he]; omega)
theorem grow_facts {s : PState} (h : Ok s) {es : List PEntry} (hc : pChain s.tail (s.log ++ es) = true) (hle : es.length ≤ 6) :
    (grow s es).tail.n.toNat = s.tail.n.toNat + (s.log.length + es.length - 6) ∧ (grow s es).log = s.log.drop (s.log.length + es.length - 6) ++ es ∧ (lastE (grow s es)).n.toNat = (lastE s).n.toNat + es.length ∧
    pStands s (grow s es) = true ∧ (pCommon s (grow s es).tail.n (grow s es).log).toNat = (lastE s).n.toNat := by
  have hl := h.len
  have hln := last_n h.ch
  have ho := ok_grow h hc
  have h1 : (grow s es).tail.n.toNat = s.tail.n.toNat + (s.log.length + es.length - 6) := by
    rw [grow, folded_eq]; exact tail_n _ _ _ hc (by rw [List.length_append]; omega)
  have h2 : (grow s es).log = s.log.drop (s.log.length + es.length - 6) ++ es := by
    rw [grow, folded_eq]; exact List.drop_append_of_le_length (by omega)
  have h3 : (lastE (grow s es)).n.toNat = (lastE s).n.toNat + es.length := by
    rw [last_n ho.ch, h1, h2, List.length_append, List.length_drop]; omega
  have ht : (s.log ++ es).take (s.log.length + es.length - 6) = s.log.take (s.log.length + es.length - 6) := List.take_append_of_le_length (by omega)
  refine ⟨h1, h2, h3, (stands_iff h).2 ⟨by omega, by omega, ?_, ?_⟩, ?_⟩
  · rw [h1, show s.tail.n.toNat + (s.log.length + es.length - 6) - s.tail.n.toNat = s.log.length + es.length - 6 by omega, grow, folded_eq]
    simp only [ht]
  · rw [h1, show s.tail.n.toNat + (s.log.length + es.length - 6) - s.tail.n.toNat = s.log.length + es.length - 6 by omega, grow, folded_eq]
    simp only [ht]
  · rw [h2, common_app h (fun e he => by
      have hx : (s.log ++ es)[s.log.length]? = some e := by rw [List.getElem?_append_right (Nat.le_refl _), Nat.sub_self]; exact he
      have := chain_n _ _ hc _ _ hx
      omega) (s.log.length - (s.log.length + es.length - 6)) (s.log.length + es.length - 6) _ (by omega) h1, hln]
theorem make_grow {s : PState} (h : Ok s) {es : List PEntry} (hc : pChain s.tail (s.log ++ es) = true) (hle : es.length ≤ 6) (hne : es.length ≠ 0) : pMake s (grow s es) = ⟨1, (lastE s).n, es, pmHead (grow s es)⟩ := by
  obtain ⟨h1, h2, h3, h4, h5⟩ := grow_facts h hc hle
  have ho := ok_grow h hc
  have hl := h.len
  have hln := last_n h.ch
  have hcn : pCommon s (grow s es).tail.n (grow s es).log = (lastE s).n := UInt32.toNat_inj.1 h5
  rw [pMake, if_neg (by simp [ok_is h, ok_is ho]), if_neg, if_neg (by simp [h4]), hcn]
  · congr 1
    rw [h2, UInt32.toNat_sub_of_le _ _ (by rw [UInt32.le_iff_toNat_le]; omega), h1, hln]
    rw [List.drop_append, List.drop_of_length_le (by rw [List.length_drop]; omega), List.length_drop]
    rw [show s.tail.n.toNat + s.log.length - (s.tail.n.toNat + (s.log.length + es.length - 6)) - (s.log.length - (s.log.length + es.length - 6)) = 0 by omega]
    rfl
  · intro he
    have e1 : (lastE s).n = (lastE (grow s es)).n := by rw [← he]; rfl
    have e2 := congrArg UInt32.toNat e1
    omega
theorem apply_twice {s : PState} (h : Ok s) {es : List PEntry} (hc : pChain s.tail (s.log ++ es) = true) (hle : es.length ≤ 6) : pApply (grow s es) (pMake s (grow s es)) = (grow s es, 0) := by
  have ho := ok_grow h hc
  by_cases hne : es.length = 0
  · have : es = [] := List.eq_nil_of_length_eq_zero hne
    subst this
    rw [grow_nil h]; exact apply_make h h
  · obtain ⟨h1, h2, h3, h4, h5⟩ := grow_facts h hc hle
    have hl := h.len
    have hln := last_n h.ch
    have ht6 := ho.len
    rw [make_grow h hc hle hne]
    obtain ⟨t, ht⟩ : ∃ t, t = grow s es := ⟨_, rfl⟩
    rw [← ht] at ho h1 h2 h3 ht6 ⊢
    have hcut := cut_eq ho (n := (lastE s).n) (by omega) (by omega)
    have hk : (lastE s).n.toNat - t.tail.n.toNat = (s.log.drop (s.log.length + es.length - 6)).length := by rw [List.length_drop]; omega
    rw [hk, h2, List.take_left] at hcut
    have hE : s.log.drop (s.log.length + es.length - 6) ++ es = t.log := h2.symm
    have hoc : Ok { t with log := s.log.drop (s.log.length + es.length - 6) } := by
      have := ok_cut ho (s.log.drop (s.log.length + es.length - 6)).length
      rwa [h2, List.take_left] at this
    have hadd := added_eq es hoc (by simp only [hE]; exact ho.ch)
    simp only [hE] at hadd
    have hz : (s.log.drop (s.log.length + es.length - 6)).length + es.length - 6 = 0 := by
      have : t.log.length = (s.log.drop (s.log.length + es.length - 6)).length + es.length := by rw [h2, List.length_append]
      omega
    rw [hz, folded_zero] at hadd
    have htl : pTail t t.tail.n = (t, 0) := by rw [tail_eq ho (Nat.le_refl _) (by omega), Nat.sub_self, folded_zero]
    have hend : pEnd t ⟨1, (lastE s).n, es, pmHead t⟩ = (t, 0) := end_ok (t := t) htl rfl ho
    rw [pApply, if_neg (by simp [ok_is ho]), if_neg (by simp), if_pos rfl]
    simp only [hcut]
    rw [if_neg (by simp)]
    simp only [hadd]
    rw [if_neg (by simp)]
    exact hend
theorem ext_grow {s : PState} (h : Ok s) {es : List PEntry} (hc : pChain s.tail (s.log ++ es) = true) (hle : es.length ≤ 6) : pExtends s (grow s es) = true ∧ pExtends (grow s es) s = decide ((es.length : Int) = 0) := by
  have ho := ok_grow h hc
  obtain ⟨h1, h2, h3, h4, h5⟩ := grow_facts h hc hle
  by_cases hne : es.length = 0
  · have : es = [] := List.eq_nil_of_length_eq_zero hne
    subst this
    rw [grow_nil h]
    simp [pExtends, ok_is h, make_self h]
  · constructor
    · rw [pExtends, if_neg (by simp [ok_is h, ok_is ho]), make_grow h hc hle hne, head_ok h, head_ok ho]
      simp [UInt32.le_iff_toNat_le]; omega
    · rw [pExtends, if_neg (by simp [ok_is h, ok_is ho]), head_ok h, head_ok ho]
      have e1 : decide ((lastE (grow s es)).n ≤ (lastE s).n) = false := by rw [decide_eq_false_iff_not, UInt32.le_iff_toNat_le]; omega
      have e2 : decide ((es.length : Int) = 0) = false := by rw [decide_eq_false_iff_not]; omega
      simp only [e1, e2, Bool.false_and]
theorem only_kind {s : PState} (h : Ok s) {es : List PEntry} (hc : pChain s.tail (s.log ++ es) = true) (hle : es.length ≤ 6) : (pMake s (grow s es)).kind = (if (es.length : Int) = 0 then 0 else 1) ∧ (pMake s (grow s es)).log.length = es.length := by
  by_cases hne : es.length = 0
  · have : es = [] := List.eq_nil_of_length_eq_zero hne
    subst this
    rw [grow_nil h, make_self h]; exact ⟨rfl, rfl⟩
  · rw [make_grow h hc hle hne, if_neg (by omega)]; exact ⟨rfl, rfl⟩
end Go.Proofs.Ytfkmaepcjognkaa.Pad
