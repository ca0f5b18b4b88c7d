/- Plain laws for the door: operations; what a base holds. -/
import Derived.Test.YtfkmaepcjognkaaDoorLog
namespace Go.Proofs.YtfkmaepcjognkaaDoor.Pad
open Go Go.Proofs
set_option linter.unusedVariables false
set_option linter.unusedSimpArgs false
def rIsOp (o : POp) : Bool :=
  if o.client < 1 ∨ 3 < o.client ∨ o.seq < 1 ∨ o.kind < 1 ∨ 5 < o.kind ∨ 6 ≤ o.obj ∨ 16 < (o.data.size : Int) then false
  else if ¬ o.kind = 1 ∧ ¬ o.kind = 3 ∧ ¬ o.data = ⟨#[]⟩ then false
  else (!decide (o.kind = 4) && !decide (o.kind = 5)) || decide (o.at_ = 0)
theorem lt_one32 (s : UInt32) : s < 1 ↔ s = 0 := by
  rw [UInt32.lt_iff_toNat_lt, ← UInt32.toNat_inj]
  have e1 : (1 : UInt32).toNat = 1 := rfl
  have e0 : (0 : UInt32).toNat = 0 := rfl
  omega
theorem kinds (k : UInt8) : k < 1 ∨ 5 < k ∨ k = 1 ∨ k = 2 ∨ k = 3 ∨ k = 4 ∨ k = 5 := by
  simp only [UInt8.lt_iff_toNat_lt, ← UInt8.toNat_inj]
  have e1 : (1 : UInt8).toNat = 1 := rfl
  have e2 : (2 : UInt8).toNat = 2 := rfl
  have e3 : (3 : UInt8).toNat = 3 := rfl
  have e4 : (4 : UInt8).toNat = 4 := rfl
  have e5 : (5 : UInt8).toNat = 5 := rfl
  omega
theorem rIsOp_eq (o : POp) : rIsOp o = isOp o := by
  obtain ⟨c, s, k, ob, a, d⟩ := o
  unfold rIsOp isOp
  simp only [lt_one32]
  by_cases h : c < 1 ∨ 3 < c ∨ s = 0 ∨ 6 ≤ ob ∨ 16 < (d.size : Int)
  · rw [if_pos h, if_pos]
    rcases h with h | h | h | h | h
    · exact .inl h
    · exact .inr (.inl h)
    · exact .inr (.inr (.inl h))
    · exact .inr (.inr (.inr (.inr (.inr (.inl h)))))
    · exact .inr (.inr (.inr (.inr (.inr (.inr h)))))
  · rw [if_neg h]
    simp only [not_or] at h
    obtain ⟨h1, h2, h3, h4, h5⟩ := h
    rcases kinds k with hk | hk | rfl | rfl | rfl | rfl | rfl
    · rw [if_pos (by exact .inr (.inr (.inr (.inl hk))))]
      have n1 : k.toNat = 0 := by rw [UInt8.lt_iff_toNat_lt] at hk; have e1 : (1 : UInt8).toNat = 1 := rfl; omega
      have : k = 0 := UInt8.toNat_inj.1 (by rw [n1]; rfl)
      subst this
      rfl
    · rw [if_pos (by exact .inr (.inr (.inr (.inr (.inl hk)))))]
      rw [UInt8.lt_iff_toNat_lt] at hk
      have e5 : (5 : UInt8).toNat = 5 := rfl
      have ne : ∀ j : UInt8, j.toNat ≤ 5 → ¬ k = j := fun j hj e => by rw [e] at hk; omega
      rw [if_neg (by rintro (h | h); exact ne 1 (by decide) h; exact ne 3 (by decide) h), if_neg (ne 2 (by decide)), decide_eq_false (by rintro (h | h); exact ne 4 (by decide) h; exact ne 5 (by decide) h)]
      rfl
    · rw [if_neg (by rintro (h | h | h | h | h | h | h) <;> first | exact h1 h | exact h2 h | exact h3 h | exact h4 h | exact h5 h | exact absurd h (by decide)), if_neg (by simp), if_pos (.inl rfl)]
      rfl
    · rw [if_neg (by rintro (h | h | h | h | h | h | h) <;> first | exact h1 h | exact h2 h | exact h3 h | exact h4 h | exact h5 h | exact absurd h (by decide)), if_neg (by decide : ¬ ((2 : UInt8) = 1 ∨ (2 : UInt8) = 3)), if_pos rfl]
      by_cases hd : d = ⟨#[]⟩
      · rw [if_neg (by simp [hd]), decide_eq_true hd]; rfl
      · rw [if_pos ⟨by decide, by decide, hd⟩, decide_eq_false hd]
    · rw [if_neg (by rintro (h | h | h | h | h | h | h) <;> first | exact h1 h | exact h2 h | exact h3 h | exact h4 h | exact h5 h | exact absurd h (by decide)), if_neg (by simp), if_pos (.inr rfl)]
      rfl
    · rw [if_neg (by rintro (h | h | h | h | h | h | h) <;> first | exact h1 h | exact h2 h | exact h3 h | exact h4 h | exact h5 h | exact absurd h (by decide)), if_neg (by decide : ¬ ((4 : UInt8) = 1 ∨ (4 : UInt8) = 3)), if_neg (by decide : ¬ ((4 : UInt8) = 2))]
      by_cases hd : d = ⟨#[]⟩
      · rw [if_neg (by simp [hd])]; simp [hd]
      · rw [if_pos ⟨by decide, by decide, hd⟩]; simp [hd]
    · rw [if_neg (by rintro (h | h | h | h | h | h | h) <;> first | exact h1 h | exact h2 h | exact h3 h | exact h4 h | exact h5 h | exact absurd h (by decide)), if_neg (by decide : ¬ ((5 : UInt8) = 1 ∨ (5 : UInt8) = 3)), if_neg (by decide : ¬ ((5 : UInt8) = 2))]
      by_cases hd : d = ⟨#[]⟩
      · rw [if_neg (by simp [hd])]; simp [hd]
      · rw [if_pos ⟨by decide, by decide, hd⟩]; simp [hd]

/-! ### bytes -/
def zs (k : Nat) : ByteArray := ⟨(Lib.repeatL [0] k).toArray⟩
theorem ba_ext {a b : ByteArray} (h : a.data.toList = b.data.toList) : a = b := ByteArray.ext (Array.toList_inj.1 h)
theorem zs_list (k : Nat) : (zs k).data.toList = List.replicate k 0 := by
  have := Lib.repeatL_replicate 0 1 k
  simpa [zs] using this
theorem zs_size (k : Nat) : (zs k).size = k := by
  have := congrArg List.length (zs_list k)
  rw [List.length_replicate, Array.length_toList] at this
  exact this
theorem zs_zero : zs 0 = ⟨#[]⟩ := rfl
theorem zs_succ (k : Nat) : zs k ++ ⟨#[0]⟩ = zs (k + 1) := by
  apply ba_ext
  rw [zs_list, ByteArray.data_append, Array.toList_append, zs_list, List.replicate_succ']
theorem grown_zs (d : ByteArray) (n : Int) : grown d n = d ++ zs (n - (d.size : Int)).toNat := by
  have e : (ByteArray.mk #[0]).data.toList = [0] := rfl
  have hn : (if n - (d.size : Int) < 0 then 0 else n - (d.size : Int)).toNat = (n - (d.size : Int)).toNat := by split <;> omega
  unfold grown zs
  rw [e, hn]
theorem app_list (a b : ByteArray) : (a ++ b).data.toList = a.data.toList ++ b.data.toList := by rw [ByteArray.data_append, Array.toList_append]
theorem app_nil (d : ByteArray) : d ++ ⟨#[]⟩ = d := by
  apply ba_ext
  rw [app_list]; simp
theorem ext_list (a : ByteArray) (i j : Nat) : (a.extract i j).data.toList = (a.data.toList.take j).drop i := by
  rw [ByteArray.data_extract, Array.toList_extract, List.extract_eq_take_drop, List.drop_take]
theorem size_list (a : ByteArray) : a.data.toList.length = a.size := Array.length_toList
def rP (d : ByteArray) (k : Nat) : ByteArray := if (d.size : Int) < (k : Int) then d ++ zs ((k : Int) - (d.size : Int)).toNat else d
def rW (d data : ByteArray) (k : Nat) : ByteArray :=
  (rP d k).extract 0 (k : Int).toNat ++ data ++ (if (k : Int) + (data.size : Int) < ((rP d k).size : Int) then (rP d k).extract ((k : Int) + (data.size : Int)).toNat (rP d k).size else ⟨#[]⟩)
theorem rP_eq (d : ByteArray) (k : Nat) : rP d k = d ++ zs (k - d.size) := by
  unfold rP
  split
  · rw [show ((k : Int) - (d.size : Int)).toNat = k - d.size by omega]
  · rw [show k - d.size = 0 by omega, zs_zero, app_nil]
theorem take_zs (d : ByteArray) {k j : Nat} (h : k - d.size ≤ j) : ((d ++ zs j).extract 0 k).data.toList = d.data.toList.take k ++ List.replicate (k - d.size) 0 := by
  rw [ext_list, app_list, zs_list, List.drop_zero, List.take_append, size_list, List.take_replicate, Nat.min_eq_left h]
theorem drop_full (a : ByteArray) (i : Nat) : (a.extract i a.size).data.toList = a.data.toList.drop i := by
  rw [ext_list, ← size_list, List.take_length]
theorem rW_eq (d data : ByteArray) (k : Nat) : rW d data k = (grown d ((k : Int) + (data.size : Int))).extract 0 k ++ data ++ (grown d ((k : Int) + (data.size : Int))).extract ((k : Int) + (data.size : Int)).toNat (grown d ((k : Int) + (data.size : Int))).size := by
  have hn : ((k : Int) + (data.size : Int)).toNat = k + data.size := by omega
  have hm : ((k : Int) + (data.size : Int) - (d.size : Int)).toNat = k + data.size - d.size := by omega
  unfold rW
  rw [grown_zs, hn, hm, rP_eq, Int.toNat_natCast]
  have hs : (d ++ zs (k - d.size)).size = d.size + (k - d.size) := by rw [ByteArray.size_append, zs_size]
  apply ba_ext
  by_cases h2 : (k : Int) + (data.size : Int) < ((d ++ zs (k - d.size)).size : Int)
  · rw [if_pos h2]
    rw [hs] at h2
    have h3 : k - d.size = 0 := by omega
    have h4 : k + data.size - d.size = 0 := by omega
    rw [h3, h4]
  · rw [if_neg h2]
    rw [hs] at h2
    simp only [app_list, drop_full]
    rw [take_zs d (Nat.le_refl _), take_zs d (by omega), zs_list]
    congr 1
    rw [List.drop_of_length_le]
    rw [List.length_append, size_list, List.length_replicate]; omega
theorem pWrite_r (x : PObj) (o : POp) : pWrite x o = if 16 < (o.at_.toNat : Int) + (o.data.size : Int) then (x, 2) else (⟨true, rW x.data o.data o.at_.toNat, x.a0, x.a1, x.a2⟩, 0) := by
  rw [pWrite, rW_eq]
def rT (d : ByteArray) (k : Nat) : ByteArray := (rP d k).extract 0 (k : Int).toNat
theorem rT_eq (d : ByteArray) (k : Nat) : rT d k = (grown d (k : Int)).extract 0 k := by
  rw [grown_zs, rT, rP_eq, Int.toNat_natCast, show ((k : Int) - (d.size : Int)).toNat = k - d.size by omega]
theorem u8_lt (a : UInt8) (k : UInt8) : (k < a) ↔ ((k.toNat : Int) < (a.toNat : Int)) := by rw [UInt8.lt_iff_toNat_lt]; omega
theorem u8_le (a : UInt8) (k : UInt8) : (k ≤ a) ↔ ((k.toNat : Int) ≤ (a.toNat : Int)) := by rw [UInt8.le_iff_toNat_le]; omega
theorem pTrunc_r (x : PObj) (o : POp) : pTrunc x o = if x.there = false then (x, 1) else if (16 : Int) < (o.at_.toNat : Int) then (x, 2) else ({ x with data := rT x.data o.at_.toNat }, 0) := by
  have e : ((16 : UInt8) < o.at_) = ((16 : Int) < (o.at_.toNat : Int)) := propext (u8_lt o.at_ 16)
  simp only [pTrunc, e, rT_eq]
theorem pAttr_r (x : PObj) (o : POp) : pAttr x o = if (3 : Int) ≤ (o.at_.toNat : Int) then (x, 3) else if x.there = false then (x, 1) else (x.setAttr o.data (o.at_.toNat : Int).toNat, 0) := by
  have e : ((3 : UInt8) ≤ o.at_) = ((3 : Int) ≤ (o.at_.toNat : Int)) := propext (u8_le o.at_ 3)
  simp only [pAttr, e, Int.toNat_natCast]

/-! ### bases -/
abbrev Opl (G : Ghost) (l : Sl) (xs : List POp) : Prop := RdL G 6 POp.enc l xs
theorem obj_setObj (b : PBase) (x : PObj) (k i : Nat) : (b.setObj x k).obj i = x ∨ (b.setObj x k).obj i = b.obj i := by
  match k, i with
  | 0, 0 => exact .inl rfl
  | 0, 1 | 0, 2 | 0, 3 | 0, 4 | 0, i + 5 => exact .inr rfl
  | 1, 1 => exact .inl rfl
  | 1, 0 | 1, 2 | 1, 3 | 1, 4 | 1, i + 5 => exact .inr rfl
  | 2, 2 => exact .inl rfl
  | 2, 0 | 2, 1 | 2, 3 | 2, 4 | 2, i + 5 => exact .inr rfl
  | 3, 3 => exact .inl rfl
  | 3, 0 | 3, 1 | 3, 2 | 3, 4 | 3, i + 5 => exact .inr rfl
  | 4, 4 => exact .inl rfl
  | 4, 0 | 4, 1 | 4, 2 | 4, 3 | 4, i + 5 => exact .inr rfl
  | k + 5, i + 5 => exact .inl rfl
  | k + 5, 0 | k + 5, 1 | k + 5, 2 | k + 5, 3 | k + 5, 4 => exact .inr rfl
theorem obj_setLast (b : PBase) (x : PLast) (k i : Nat) : (b.setLast x k).obj i = b.obj i := by
  match k with
  | 0 | 1 | k + 2 => cases i with | zero => rfl | succ i => match i with | 0 | 1 | 2 | 3 | i + 4 => rfl
theorem does_few {k : UInt8} {x : PObj} {o : POp} (hx : x.data.size ≤ 1000) (ho : o.data.size ≤ 16) : (pDoes k x o).1.data.size ≤ 1000 := by
  unfold pDoes
  split
  · unfold pWrite
    split
    · exact hx
    · rename_i h
      have := grown_size x.data ((o.at_.toNat : Int) + (o.data.size : Int))
      simp only [ByteArray.size_append, ByteArray.size_extract]
      omega
  · split
    · unfold pTrunc
      split
      · exact hx
      · split
        · exact hx
        · have := o.at_.toNat_lt
          have := grown_size x.data (o.at_.toNat : Int)
          simp only [ByteArray.size_extract]
          omega
    · split
      · unfold pAttr
        split
        · exact hx
        · split
          · exact hx
          · match h : o.at_.toNat with
            | 0 | 1 | i + 2 => exact hx
      · unfold pRemove
        split
        · exact hx
        · exact Nat.zero_le _
theorem few_do {b : PBase} {o : POp} (hb : Few b) : Few (pDo b o).1 := by
  unfold pDo
  split
  · exact hb
  · split
    · exact hb
    · rename_i h _
      intro i
      simp only [pDone, obj_setLast]
      rcases obj_setObj b (pDoes o.kind (b.obj o.obj.toNat) o).1 o.obj.toNat i with e | e
      · rw [e]; exact does_few (hb _) (writes_facts (by simpa using h)).2.2.2
      · rw [e]; exact hb i
end Go.Proofs.YtfkmaepcjognkaaDoor.Pad
