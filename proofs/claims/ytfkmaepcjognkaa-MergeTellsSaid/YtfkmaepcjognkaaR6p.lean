/- Plain laws: the document's operations and states are the program's. No condition. -/
import Derived.Test.YtfkmaepcjognkaaT8b
namespace Go.Proofs.Ytfkmaepcjognkaa.Pad
open Go Go.Proofs
set_option linter.unusedVariables false
set_option linter.unusedSimpArgs false
def rIsOp (o : POp) : Bool :=
  if o.client < 1 ∨ 3 < o.client ∨ o.seq < 1 ∨ o.kind < 1 ∨ 5 < o.kind ∨ 6 ≤ o.obj ∨ 16 < (o.data.size : Int) then false
  else if ¬ o.kind = 1 ∧ ¬ o.kind = 3 ∧ ¬ o.data = ⟨#[]⟩ then false
  else (!decide (o.kind = 4) && !decide (o.kind = 5)) || decide (o.at_ = 0)
theorem lt_one32 (s : UInt32) : s < 1 ↔ s = 0 := by
  rw [UInt32.lt_iff_toNat_lt, ← UInt32.toNat_inj]
  have e1 : (1 : UInt32).toNat = 1 := rfl
  have e0 : (0 : UInt32).toNat = 0 := rfl
  omega
theorem kinds (k : UInt8) : k < 1 ∨ 5 < k ∨ k = 1 ∨ k = 2 ∨ k = 3 ∨ k = 4 ∨ k = 5 := by
  simp only [UInt8.lt_iff_toNat_lt, ← UInt8.toNat_inj]
  have e1 : (1 : UInt8).toNat = 1 := rfl
  have e2 : (2 : UInt8).toNat = 2 := rfl
  have e3 : (3 : UInt8).toNat = 3 := rfl
  have e4 : (4 : UInt8).toNat = 4 := rfl
  have e5 : (5 : UInt8).toNat = 5 := rfl
  omega
theorem rIsOp_eq (o : POp) : rIsOp o = isOp o := by
  obtain ⟨c, s, k, ob, a, d⟩ := o
  unfold rIsOp isOp
  simp only [lt_one32]
  by_cases h : c < 1 ∨ 3 < c ∨ s = 0 ∨ 6 ≤ ob ∨ 16 < (d.size : Int)
  · rw [if_pos h, if_pos]
    rcases h with h | h | h | h | h
    · exact .inl h
    · exact .inr (.inl h)
    · exact .inr (.inr (.inl h))
    · exact .inr (.inr (.inr (.inr (.inr (.inl h)))))
    · exact .inr (.inr (.inr (.inr (.inr (.inr h)))))
  · rw [if_neg h]
    simp only [not_or] at h
    obtain ⟨h1, h2, h3, h4, h5⟩ := h
    rcases kinds k with hk | hk | rfl | rfl | rfl | rfl | rfl
    · rw [if_pos (by exact .inr (.inr (.inr (.inl hk))))]
      have n1 : k.toNat = 0 := by rw [UInt8.lt_iff_toNat_lt] at hk; have e1 : (1 : UInt8).toNat = 1 := rfl; omega
      have : k = 0 := UInt8.toNat_inj.1 (by rw [n1]; rfl)
      subst this
      rfl
    · rw [if_pos (by exact .inr (.inr (.inr (.inr (.inl hk)))))]
      rw [UInt8.lt_iff_toNat_lt] at hk
      have e5 : (5 : UInt8).toNat = 5 := rfl
      have ne : ∀ j : UInt8, j.toNat ≤ 5 → ¬ k = j := fun j hj e => by rw [e] at hk; omega
      rw [if_neg (by rintro (h | h); exact ne 1 (by decide) h; exact ne 3 (by decide) h), if_neg (ne 2 (by decide)), decide_eq_false (by rintro (h | h); exact ne 4 (by decide) h; exact ne 5 (by decide) h)]
      rfl
    · rw [if_neg (by rintro (h | h | h | h | h | h | h) <;> first | exact h1 h | exact h2 h | exact h3 h | exact h4 h | exact h5 h | exact absurd h (by decide)), if_neg (by simp), if_pos (.inl rfl)]
      rfl
    · rw [if_neg (by rintro (h | h | h | h | h | h | h) <;> first | exact h1 h | exact h2 h | exact h3 h | exact h4 h | exact h5 h | exact absurd h (by decide)), if_neg (by decide : ¬ ((2 : UInt8) = 1 ∨ (2 : UInt8) = 3)), if_pos rfl]
      by_cases hd : d = ⟨#[]⟩
      · rw [if_neg (by simp [hd]), decide_eq_true hd]; rfl
      · rw [if_pos ⟨by decide, by decide, hd⟩, decide_eq_false hd]
    · rw [if_neg (by rintro (h | h | h | h | h | h | h) <;> first | exact h1 h | exact h2 h | exact h3 h | exact h4 h | exact h5 h | exact absurd h (by decide)), if_neg (by simp), if_pos (.inr rfl)]
      rfl
    · rw [if_neg (by rintro (h | h | h | h | h | h | h) <;> first | exact h1 h | exact h2 h | exact h3 h | exact h4 h | exact h5 h | exact absurd h (by decide)), if_neg (by decide : ¬ ((4 : UInt8) = 1 ∨ (4 : UInt8) = 3)), if_neg (by decide : ¬ ((4 : UInt8) = 2))]
      by_cases hd : d = ⟨#[]⟩
      · rw [if_neg (by simp [hd])]; simp [hd]
      · rw [if_pos ⟨by decide, by decide, hd⟩]; simp [hd]
    · rw [if_neg (by rintro (h | h | h | h | h | h | h) <;> first | exact h1 h | exact h2 h | exact h3 h | exact h4 h | exact h5 h | exact absurd h (by decide)), if_neg (by decide : ¬ ((5 : UInt8) = 1 ∨ (5 : UInt8) = 3)), if_neg (by decide : ¬ ((5 : UInt8) = 2))]
      by_cases hd : d = ⟨#[]⟩
      · rw [if_neg (by simp [hd])]; simp [hd]
      · rw [if_pos ⟨by decide, by decide, hd⟩]; simp [hd]

/-! ### bytes -/
def zs (k : Nat) : ByteArray := ⟨(Lib.repeatL [0] k).toArray⟩
theorem ba_ext {a b : ByteArray} (h : a.data.toList = b.data.toList) : a = b := ByteArray.ext (Array.toList_inj.1 h)
theorem zs_list (k : Nat) : (zs k).data.toList = List.replicate k 0 := by
  have := Lib.repeatL_replicate 0 1 k
  simpa [zs] using this
theorem zs_size (k : Nat) : (zs k).size = k := by
  have := congrArg List.length (zs_list k)
  rw [List.length_replicate, Array.length_toList] at this
  exact this
theorem zs_zero : zs 0 = ⟨#[]⟩ := rfl
theorem zs_succ (k : Nat) : zs k ++ ⟨#[0]⟩ = zs (k + 1) := by
  apply ba_ext
  rw [zs_list, ByteArray.data_append, Array.toList_append, zs_list, List.replicate_succ']
theorem grown_zs (d : ByteArray) (n : Int) : grown d n = d ++ zs (n - (d.size : Int)).toNat := by
  have e : (ByteArray.mk #[0]).data.toList = [0] := rfl
  have hn : (if n - (d.size : Int) < 0 then 0 else n - (d.size : Int)).toNat = (n - (d.size : Int)).toNat := by split <;> omega
  unfold grown zs
  rw [e, hn]
theorem app_list (a b : ByteArray) : (a ++ b).data.toList = a.data.toList ++ b.data.toList := by rw [ByteArray.data_append, Array.toList_append]
theorem app_nil (d : ByteArray) : d ++ ⟨#[]⟩ = d := by
  apply ba_ext
  rw [app_list]; simp
theorem ext_list (a : ByteArray) (i j : Nat) : (a.extract i j).data.toList = (a.data.toList.take j).drop i := by
  rw [ByteArray.data_extract, Array.toList_extract, List.extract_eq_take_drop, List.drop_take]
theorem size_list (a : ByteArray) : a.data.toList.length = a.size := Array.length_toList
def rP (d : ByteArray) (k : Nat) : ByteArray := if (d.size : Int) < (k : Int) then d ++ zs ((k : Int) - (d.size : Int)).toNat else d
def rW (d data : ByteArray) (k : Nat) : ByteArray :=
  (rP d k).extract 0 (k : Int).toNat ++ data ++ (if (k : Int) + (data.size : Int) < ((rP d k).size : Int) then (rP d k).extract ((k : Int) + (data.size : Int)).toNat (rP d k).size else ⟨#[]⟩)
theorem rP_eq (d : ByteArray) (k : Nat) : rP d k = d ++ zs (k - d.size) := by
  unfold rP
  split
  · rw [show ((k : Int) - (d.size : Int)).toNat = k - d.size by omega]
  · rw [show k - d.size = 0 by omega, zs_zero, app_nil]
theorem take_zs (d : ByteArray) {k j : Nat} (h : k - d.size ≤ j) : ((d ++ zs j).extract 0 k).data.toList = d.data.toList.take k ++ List.replicate (k - d.size) 0 := by
  rw [ext_list, app_list, zs_list, List.drop_zero, List.take_append, size_list, List.take_replicate, Nat.min_eq_left h]
theorem drop_full (a : ByteArray) (i : Nat) : (a.extract i a.size).data.toList = a.data.toList.drop i := by
  rw [ext_list, ← size_list, List.take_length]
theorem rW_eq (d data : ByteArray) (k : Nat) : rW d data k = (grown d ((k : Int) + (data.size : Int))).extract 0 k ++ data ++ (grown d ((k : Int) + (data.size : Int))).extract ((k : Int) + (data.size : Int)).toNat (grown d ((k : Int) + (data.size : Int))).size := by
  have hn : ((k : Int) + (data.size : Int)).toNat = k + data.size := by omega
  have hm : ((k : Int) + (data.size : Int) - (d.size : Int)).toNat = k + data.size - d.size := by omega
  unfold rW
  rw [grown_zs, hn, hm, rP_eq, Int.toNat_natCast]
  have hs : (d ++ zs (k - d.size)).size = d.size + (k - d.size) := by rw [ByteArray.size_append, zs_size]
  apply ba_ext
  by_cases h2 : (k : Int) + (data.size : Int) < ((d ++ zs (k - d.size)).size : Int)
  · rw [if_pos h2]
    rw [hs] at h2
    have h3 : k - d.size = 0 := by omega
    have h4 : k + data.size - d.size = 0 := by omega
    rw [h3, h4]
  · rw [if_neg h2]
    rw [hs] at h2
    simp only [app_list, drop_full]
    rw [take_zs d (Nat.le_refl _), take_zs d (by omega), zs_list]
    congr 1
    rw [List.drop_of_length_le]
    rw [List.length_append, size_list, List.length_replicate]; omega
theorem pWrite_r (x : PObj) (o : POp) : pWrite x o = if 16 < (o.at_.toNat : Int) + (o.data.size : Int) then (x, 2) else (⟨true, rW x.data o.data o.at_.toNat, x.a0, x.a1, x.a2⟩, 0) := by
  rw [pWrite, rW_eq]
def rT (d : ByteArray) (k : Nat) : ByteArray := (rP d k).extract 0 (k : Int).toNat
theorem rT_eq (d : ByteArray) (k : Nat) : rT d k = (grown d (k : Int)).extract 0 k := by
  rw [grown_zs, rT, rP_eq, Int.toNat_natCast, show ((k : Int) - (d.size : Int)).toNat = k - d.size by omega]
theorem u8_lt (a : UInt8) (k : UInt8) : (k < a) ↔ ((k.toNat : Int) < (a.toNat : Int)) := by rw [UInt8.lt_iff_toNat_lt]; omega
theorem u8_le (a : UInt8) (k : UInt8) : (k ≤ a) ↔ ((k.toNat : Int) ≤ (a.toNat : Int)) := by rw [UInt8.le_iff_toNat_le]; omega
theorem pTrunc_r (x : PObj) (o : POp) : pTrunc x o = if x.there = false then (x, 1) else if (16 : Int) < (o.at_.toNat : Int) then (x, 2) else ({ x with data := rT x.data o.at_.toNat }, 0) := by
  have e : ((16 : UInt8) < o.at_) = ((16 : Int) < (o.at_.toNat : Int)) := propext (u8_lt o.at_ 16)
  simp only [pTrunc, e, rT_eq]
theorem pAttr_r (x : PObj) (o : POp) : pAttr x o = if (3 : Int) ≤ (o.at_.toNat : Int) then (x, 3) else if x.there = false then (x, 1) else (x.setAttr o.data (o.at_.toNat : Int).toNat, 0) := by
  have e : ((3 : UInt8) ≤ o.at_) = ((3 : Int) ≤ (o.at_.toNat : Int)) := propext (u8_le o.at_ 3)
  simp only [pAttr, e, Int.toNat_natCast]

/-! ### bases -/
theorem rObj_t {x : PObj} (h1 : x.there = true ∨ x = PObj.zero) (h2 : ¬ (16 : Int) < (x.data.size : Int)) (h3 : ∀ j, j < 3 → ((x.attr j).size : Int) ≤ 16) : pObject x = true := by
  unfold pObject
  by_cases ht : x.there = false
  · rw [if_pos ht]
    rcases h1 with h1 | h1
    · rw [ht] at h1; cases h1
    · exact decide_eq_true h1
  · rw [if_neg ht, all_t (fun j h => decide_eq_true (h3 j h)), Bool.true_and]
    exact decide_eq_true (by omega)
theorem rObj_f {x : PObj} (h : (x.there = false ∧ ¬ x = PObj.zero) ∨ (16 : Int) < (x.data.size : Int) ∨ ∃ j, j < 3 ∧ (16 : Int) < ((x.attr j).size : Int)) : pObject x = false := by
  cases hb : pObject x with
  | false => rfl
  | true =>
    obtain ⟨f0, f1, f2, f3⟩ := pObject_facts hb
    rcases h with ⟨h1, h2⟩ | h | ⟨j, hj, h⟩
    · rw [pObject, if_pos h1, decide_eq_false h2] at hb; cases hb
    · omega
    · match j, hj with
      | 0, _ => have : (x.attr 0) = x.a0 := rfl; rw [this] at h; omega
      | 1, _ => have : (x.attr 1) = x.a1 := rfl; rw [this] at h; omega
      | 2, _ => have : (x.attr 2) = x.a2 := rfl; rw [this] at h; omega
theorem rLast_eq (l : PLast) : pLast l = !(!decide (l.r.data = ⟨#[]⟩) || (decide (3 < l.r.code) || (decide (l.seq = 0) && !decide (l.r.code = 0)))) := by
  obtain ⟨s, c, d⟩ := l
  unfold pLast
  congr 1
  by_cases hd : d = ⟨#[]⟩
  · subst hd
    have : decide ((⟨s, ⟨c, ⟨#[]⟩⟩⟩ : PLast) = ⟨0, PRes.zero⟩) = (decide (s = 0) && decide (c = 0)) := by
      rw [Bool.eq_iff_iff]; simp [PRes.zero]
    simp only [this]
    by_cases hs : s = 0 <;> simp [hs]
  · simp [hd]

/-! ### states -/
theorem rnext_eq (l e : PEntry) : pNext l e = (writes e.op && (!decide (e.n = 0) && (decide (e.n - 1 = l.n) && (!decide (e.since < l.since) && !decide (60 < e.since))))) := by
  unfold pNext
  have h1 : (decide (e.n = l.n + 1) && (decide (l.n < e.n) && (decide (l.since ≤ e.since) && decide (e.since ≤ 60)))) = (!decide (e.n = 0) && (decide (e.n - 1 = l.n) && (!decide (e.since < l.since) && !decide (60 < e.since)))) := by
    rw [Bool.eq_iff_iff]
    simp only [Bool.and_eq_true, Bool.not_eq_true', decide_eq_true_eq, decide_eq_false_iff_not, UInt32.not_lt]
    constructor
    · rintro ⟨a, b, c, d⟩
      rw [UInt32.lt_iff_toNat_lt] at b
      have n0 : ¬ e.n = 0 := fun h => by rw [h] at b; exact absurd b (by simp)
      exact ⟨n0, by rw [a]; simp, c, d⟩
    · rintro ⟨a, b, c, d⟩
      have hp : 0 < e.n.toNat := by
        rcases Nat.eq_zero_or_pos e.n.toNat with h | h
        · exact absurd (UInt32.toNat_inj.1 (by rw [h]; rfl)) a
        · exact h
      have e1 : (1 : UInt32).toNat = 1 := rfl
      have hs : (e.n - 1).toNat = e.n.toNat - 1 := UInt32.toNat_sub_of_le _ _ (by rw [UInt32.le_iff_toNat_le, e1]; omega)
      refine ⟨by rw [← b]; simp, by rw [UInt32.lt_iff_toNat_lt, ← b]; omega, c, d⟩
  rw [h1]
theorem add_one_eq {s : PState} {e : PEntry} (h : Ok s) (hn : pNext (lastE s) e = true) : pAdd s e = (if (6 : Int) < (s.log.length : Int) + 1 then pFolded { s with log := s.log ++ [e] } 1 else { s with log := s.log ++ [e] }, 0) := by
  have hl := h.len
  rw [add_ok h hn]
  split
  · rw [show s.log.length + 1 - 6 = 1 by omega]
  · rw [show s.log.length + 1 - 6 = 0 by omega, folded_zero]
theorem add_no {s : PState} {e : PEntry} (hn : pIs s = false ∨ pNext (lastE s) e = false) : pAdd s e = (PState.zero, 10) := by rw [pAdd, if_pos hn]
theorem upto_no {s : PState} {n : UInt32} (h : pIs s = false ∨ n < s.tail.n ∨ (lastE s).n < n) : pUpto s n = (PBase.zero, false) := by
  unfold pUpto
  rw [if_pos]
  rcases h with h | h
  · exact .inl h
  · refine .inr ?_
    unfold pPlace
    rw [if_pos h]; decide
theorem cut_no {s : PState} {n : UInt32} (h0 : pIs s = true) (h : n < s.tail.n ∨ (lastE s).n < n) : pCut s n = (PState.zero, 141) := by
  unfold pCut
  rw [if_neg (by simp [h0]), if_pos]
  unfold pPlace
  rw [if_pos h]; decide
theorem tail_no {s : PState} {n : UInt32} (h0 : pIs s = true) (h1 : ¬ n < s.tail.n) (h : (lastE s).n < n) : pTail s n = (PState.zero, 141) := by
  unfold pTail
  rw [if_neg (by simp [h0]), if_neg h1, if_pos]
  unfold pPlace
  rw [if_pos (.inr h)]; decide
theorem find_no {s : PState} (h : Ok s) {n : UInt32} (hn : ∀ (i : Nat) (e : PEntry), s.log[i]? = some e → ¬ e.n = n) : pFind s n = (PEntry.zero, false) := by
  cases hf : (pFind s n).2 with
  | true =>
    have hv := find_val h hf
    have hc := chain_n _ _ h.ch _ _ hv
    have h2 := (find_ok h).1 hf
    exact absurd (UInt32.toNat_inj.1 (by omega)) (hn _ _ hv)
  | false =>
    unfold pFind at hf ⊢
    split at hf
    · rename_i h1; rw [if_pos h1]
    · cases hf
theorem pop_eq {s : PState} {e : PEntry} (h : s.log[0]? = some e) : pFolded s 1 = ⟨s.started, (pDo s.base e.op).1, ⟨e.since, e.n, POp.zero⟩, s.log.drop 1⟩ := by
  have := take_of h
  rw [List.take_zero, List.nil_append] at this
  rw [folded_eq, this]; rfl
theorem fold_upto (s : PState) : (pUpto s (pHead s).2).1 = pFold s := by
  cases hi : pIs s with
  | false => rw [upto_no (.inl hi), pFold, if_neg (by simp [hi])]
  | true =>
    have h := is_ok hi
    have hl := last_n h.ch
    rw [head_ok h, upto_eq h (by omega) (Nat.le_refl _), fold_ok h, hl, show s.tail.n.toNat + s.log.length - s.tail.n.toNat = s.log.length by omega, List.take_length]; rfl
theorem find_none {s : PState} (h : pIs s = false) (n : UInt32) : pFind s n = (PEntry.zero, false) := by rw [pFind, if_pos (.inl h)]
end Go.Proofs.Ytfkmaepcjognkaa.Pad
