/- Plain laws of layer 8. No condition. -/
import Derived.Test.YtfkmaepcjognkaaRow8
namespace Go.Proofs.Ytfkmaepcjognkaa.Pad
open Go Go.Proofs
theorem stX_zero (s : PState) : stX s 0 = s.tail.n := by
  unfold stX
  have e : (0 : UInt8).toUInt32 = 0 := rfl
  rw [e]
  apply UInt32.toNat_inj.1
  rw [UInt32.toNat_add, UInt32.toNat_mod]
  have e0 : (0 : UInt32).toNat = 0 := rfl
  rw [e0, Nat.zero_mod, Nat.add_zero]
  exact Nat.mod_eq_of_lt s.tail.n.toNat_lt
theorem st_f0 (a b : List POp) (since started : UInt32) : pSt a b since 0 started = pSt0 a b since started := by rw [pSt, stX_zero, Nat.sub_self, folded_zero]
theorem st_fold (a b : List POp) (since : UInt32) (f : UInt8) (started : UInt32) : ∃ j, j ≤ (pSt0 a b since started).log.length ∧ pSt a b since f started = pFolded (pSt0 a b since started) j := by
  have h := st0_ok a b since started
  have hx := span_x h (a := f.toUInt32) (x := stX (pSt0 a b since started) f) rfl
  have hl := last_n h.ch
  exact ⟨_, by omega, rfl⟩
theorem make_self {s : PState} (h : Ok s) : pMake s s = ⟨0, 0, [], pmHead s⟩ := by rw [pMake, if_neg (by simp [ok_is h]), if_pos rfl]
theorem bytes_head (k : Int) (f : UInt32) (s : PState) : pBytes ⟨k, f, [], pmHead s⟩ = 0 := by
  have : pCount PBase.zero 6 = 0 := by decide
  simp only [pBytes, pmHead, List.length_nil, this]; rfl
theorem find_at {s : PState} (h : Ok s) {i : Nat} {e : PEntry} (he : s.log[i]? = some e) : pFind s e.n = (e, true) := by
  have hn := chain_n _ _ h.ch i e he
  have hl := last_n h.ch
  have hlt := (List.getElem?_eq_some_iff.1 he).1
  have hf := (find_ok h (n := e.n)).2 ⟨by omega, by omega⟩
  have hv := find_val h hf
  rw [show e.n.toNat - s.tail.n.toNat - 1 = i by omega, he] at hv
  injection hv with hv
  rw [Prod.ext_iff]
  exact ⟨hv.symm, hf⟩
theorem common_all {s : PState} (h : Ok s) : ∀ (k i : Nat) (n : UInt32), i + k = s.log.length → n.toNat = s.tail.n.toNat + i → (pCommon s n (s.log.drop i)).toNat = s.tail.n.toNat + s.log.length
  | 0, i, n, hk, hn => by rw [List.drop_of_length_le (by omega), pCommon, hn]; omega
  | k + 1, i, n, hk, hn => by
    obtain ⟨e, he⟩ := get_of (l := s.log) (i := i) (by omega)
    rw [drop_of he, pCommon, find_at h he, if_neg (by simp)]
    exact common_all h k (i + 1) e.n (by omega) (by rw [chain_n _ _ h.ch i e he]; omega)
theorem stands_folded {s : PState} (h : Ok s) {j : Nat} (hj : j ≤ s.log.length) : pStands s (pFolded s j) = true := by
  have hn := folded_n h hj
  have hl := last_n h.ch
  refine (stands_iff h).2 ⟨by omega, by omega, ?_, ?_⟩
  · rw [hn, show s.tail.n.toNat + j - s.tail.n.toNat = j by omega, folded_eq]
  · rw [hn, show s.tail.n.toNat + j - s.tail.n.toNat = j by omega, folded_eq]
theorem make_folded {s : PState} (h : Ok s) {j : Nat} (hj : j ≤ s.log.length) : (pMake s (pFolded s j)).kind ≤ 1 ∧ (pMake s (pFolded s j)).log = [] := by
  have hn := folded_n h hj
  have ho := ok_folded h j
  unfold pMake
  rw [if_neg (by simp [ok_is h, ok_is ho])]
  split
  · exact ⟨by simp, rfl⟩
  · rw [stands_folded h hj, if_neg (by simp)]
    refine ⟨by simp, ?_⟩
    have hc := common_all h (s.log.length - j) j (pFolded s j).tail.n (by omega) hn
    have hlog : (pFolded s j).log = s.log.drop j := rfl
    simp only [hlog]
    apply List.drop_of_length_le
    rw [UInt32.toNat_sub_of_le _ _ (by rw [UInt32.le_iff_toNat_le]; omega), hc, hn, List.length_drop]
    omega
end Go.Proofs.Ytfkmaepcjognkaa.Pad
