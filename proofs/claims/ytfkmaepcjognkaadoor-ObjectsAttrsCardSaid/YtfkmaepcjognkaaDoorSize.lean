/- How long the strings of an argument are: no longer than memory reaches. No condition. -/
import Derived.Test.YtfkmaepcjognkaaDoorRow6
import Derived.Test.YtfkmaepcjognkaaDoorOpen2D
import Derived.SizedLaws
namespace Go.Proofs.YtfkmaepcjognkaaDoor.Pad
open Go Go.Proofs Go.ChangeShapes Go.WideShapes Go.ChangeAt Go.RowKit
set_option linter.unusedVariables false
set_option linter.unusedSimpArgs false
set_option linter.constructorNameAsVariable false
set_option maxRecDepth 100000
def Strs (cs : List Value) : Prop := ∀ s, Value.string s ∈ cs → s.size ≤ reachBytes
def DecZ (t : TypeId) : Prop := ∀ (H : Type) (en : TypeId × Value → H) (w : World) (fuel : Nat) (cs : List Value) (x : DataW H × List MemPlace), DataW.trod en P w 0 (fun _ => true) true fuel t cs = some x → (∀ n ∈ x.1.weights P t, n ≤ reachBytes) → Strs cs
theorem decz_string {t : TypeId} (ht : P.underlying t = some .string) : DecZ t := fun H en w fuel cs x h hz => by
  obtain ⟨s, rfl, rfl, _⟩ := DataW.trod_string ht h
  intro s' hs
  have e : s' = s := by simpa using hs
  subst e
  have := hz s'.data.toList.length (by simp [DataW.weights])
  simpa using this
theorem decz_int {t : TypeId} {k : IntKind} (ht : P.underlying t = some (.int k)) : DecZ t := fun H en w fuel cs x h hz => by
  obtain ⟨n, h1, _, h2⟩ := DataW.trod_int ht h
  subst h1
  intro s hs; simp at hs
theorem decz_bool {t : TypeId} (ht : P.underlying t = some .bool) : DecZ t := fun H en w fuel cs x h hz => by
  obtain ⟨b, rfl⟩ := dec_bool ht H en w fuel cs x h
  intro s hs; simp at hs
theorem weights_all {H : Type} {e : TypeId} : ∀ {ds : List (DataW H)} {j : Nat} {d : DataW H}, ds[j]? = some d → ∀ n ∈ d.weights P e, n ∈ DataW.weightsAll P e ds
  | d0 :: ds, 0, d, hd, n, hn => by
    simp only [List.getElem?_cons_zero, Option.some.injEq] at hd
    subst hd
    simp only [DataW.weightsAll, List.mem_append]; exact Or.inl hn
  | d0 :: ds, j + 1, d, hd, n, hn => by
    simp only [List.getElem?_cons_succ] at hd
    simp only [DataW.weightsAll, List.mem_append]; exact Or.inr (weights_all hd n hn)
  | [], _, _, hd, _, _ => by simp at hd
theorem mem_cut {v : Value} {cs : List Value} {i o k : Nat} (h : cs[i]? = some v) (h1 : o ≤ i) (h2 : i < o + k) : v ∈ (cs.drop o).take k := by
  rw [List.mem_iff_getElem?]
  refine ⟨i - o, ?_⟩
  rw [List.getElem?_take, if_pos (by omega), List.getElem?_drop, show o + (i - o) = i by omega, h]
theorem decz_array {t : TypeId} {n k : Nat} {e : TypeId} (ht : P.underlying t = some (.array n e)) (hk : P.cellsOf e = k) (hk0 : 0 < k) (hc : P.cellsOf t = n * k) (he : DecZ e) : DecZ t := fun H en w fuel cs x h hz => by
  obtain ⟨xs, m, _, rfl, hl, hlen, hf⟩ := DataW.trod_array ht h
  intro s hs
  obtain ⟨i, hi⟩ := List.mem_iff_getElem?.1 hs
  have hil : i < n * k := by have := (List.getElem?_eq_some_iff.1 hi).1; rw [hl, hc] at this; exact this
  have hq : i / k < n := (Nat.div_lt_iff_lt_mul hk0).2 hil
  have h1 := hf (i / k) hq
  rw [hk, List.getElem?_eq_getElem (by omega)] at h1
  have hdm := Nat.div_add_mod i k
  have hml := Nat.mod_lt i hk0
  rw [Nat.mul_comm] at hdm
  refine he H en w m _ _ h1 (fun y hy => hz y ?_) s (mem_cut hi (by omega) (by omega))
  simp only [DataW.weights, ht]
  exact weights_all (j := i / k) (by rw [List.getElem?_map, List.getElem?_eq_getElem (by omega)]; rfl) y hy
theorem decz_struct {t : TypeId} {fs : Array Field} (ht : P.underlying t = some (.struct fs)) (hc : ∀ i, i < P.cellsOf t → ∃ (j : Nat) (f : Field), fs[j]? = some f ∧ f.offset ≤ i ∧ i < f.offset + P.cellsOf f.type) (he : ∀ (j : Nat) (f : Field), fs[j]? = some f → DecZ f.type) : DecZ t := fun H en w fuel cs x h hz => by
  obtain ⟨xs, m, _, rfl, hl, hlen, hf⟩ := DataW.trod_struct ht h
  intro s hs
  obtain ⟨i, hi⟩ := List.mem_iff_getElem?.1 hs
  obtain ⟨j, f, hj, h2, h3⟩ := hc i (by rw [← hl]; exact (List.getElem?_eq_some_iff.1 hi).1)
  have h1 := hf j f hj
  have hjl : j < xs.length := by rw [hlen]; exact (Array.getElem?_eq_some_iff.1 hj).1
  rw [List.getElem?_eq_getElem hjl] at h1
  refine he j f hj H en w m _ _ h1 (fun y hy => hz y ?_) s (mem_cut hi h2 h3)
  simp only [DataW.weights, ht]
  refine DataW.weights_mem_each (j := j) (t := f.type) ?_ ?_ y hy
  · rw [List.getElem?_map, Array.getElem?_toList, hj]; rfl
  · rw [List.getElem?_map, List.getElem?_eq_getElem hjl]; rfl
/-- A struct's cells are covered by its fields: by counting. -/
theorem cover {t : TypeId} {fs : Array Field} {n : Nat} (hn : P.cellsOf t = n) (h : ((List.range n).all fun i => (List.range fs.size).any fun j => match fs[j]? with | some f => Nat.ble f.offset i && Nat.blt i (f.offset + P.cellsOf f.type) | none => false) = true) : ∀ i, i < P.cellsOf t → ∃ (j : Nat) (f : Field), fs[j]? = some f ∧ f.offset ≤ i ∧ i < f.offset + P.cellsOf f.type := by
  intro i hi
  rw [List.all_eq_true] at h
  have h1 := h i (List.mem_range.2 (by omega))
  rw [List.any_eq_true] at h1
  obtain ⟨j, _, h2⟩ := h1
  split at h2
  · rename_i f hf
    rw [Bool.and_eq_true] at h2
    exact ⟨j, f, hf, Nat.le_of_ble_eq_true h2.1, Nat.le_of_ble_eq_true h2.2⟩
  · cases h2
theorem decz_Attrs : DecZ 22 := decz_array Tryd.underlying22 (by kernel_rfl : P.cellsOf 9 = 1) (by omega) (by kernel_rfl) (decz_string Tryd.underlying9)
theorem decz_Res : DecZ 28 := decz_struct Tryd.underlying28 (cover (n := 2) (by kernel_rfl) (by kernel_rfl)) (fun j f hj => by
  rcases j with _ | _ | j
  · obtain rfl := Option.some.inj hj; exact decz_int Tryd.underlying5
  · obtain rfl := Option.some.inj hj; exact decz_string Tryd.underlying9
  · simp at hj)
theorem decz_Last : DecZ 30 := decz_struct Tryd.underlying30 (cover (n := 3) (by kernel_rfl) (by kernel_rfl)) (fun j f hj => by
  rcases j with _ | _ | j
  · obtain rfl := Option.some.inj hj; exact decz_int Tryd.underlying26
  · obtain rfl := Option.some.inj hj; exact decz_Res
  · simp at hj)
theorem decz_Obj : DecZ 24 := decz_struct Tryd.underlying24 (cover (n := 5) (by kernel_rfl) (by kernel_rfl)) (fun j f hj => by
  rcases j with _ | _ | _ | j
  · obtain rfl := Option.some.inj hj; exact decz_bool Tryd.underlying4
  · obtain rfl := Option.some.inj hj; exact decz_string Tryd.underlying9
  · obtain rfl := Option.some.inj hj; exact decz_Attrs
  · simp at hj)
theorem decz_Objs : DecZ 25 := decz_array Tryd.underlying25 (by kernel_rfl : P.cellsOf 24 = 5) (by omega) (by kernel_rfl) decz_Obj
theorem decz_Lasts : DecZ 31 := decz_array Tryd.underlying31 (by kernel_rfl : P.cellsOf 30 = 3) (by omega) (by kernel_rfl) decz_Last
theorem decz_Base : DecZ 33 := decz_struct Tryd.underlying33 (cover (n := 39) (by kernel_rfl) (by kernel_rfl)) (fun j f hj => by
  rcases j with _ | _ | j
  · obtain rfl := Option.some.inj hj; exact decz_Objs
  · obtain rfl := Option.some.inj hj; exact decz_Lasts
  · simp at hj)
theorem wide_of {b : PBase} (h : Strs b.enc) : Wide b := fun i => by
  have hr : reachBytes ≤ 1000000000000000 := by decide
  have hs : ∀ s, Value.string s ∈ b.enc → s.size ≤ 1000000000000000 := fun s hs => Nat.le_trans (h s hs) hr
  rw [obj_big]
  have hi : min i 5 = 0 ∨ min i 5 = 1 ∨ min i 5 = 2 ∨ min i 5 = 3 ∨ min i 5 = 4 ∨ min i 5 = 5 := by omega
  rcases hi with e | e | e | e | e | e <;> rw [e] <;>
  · refine ⟨hs _ (by simp [PBase.enc, PBase.encObjs, PObj.enc, PBase.obj]), fun k => ?_⟩
    rw [attr_big]
    have hk : min k 2 = 0 ∨ min k 2 = 1 ∨ min k 2 = 2 := by omega
    rcases hk with e | e | e <;> rw [e] <;> exact hs _ (by simp [PBase.enc, PBase.encObjs, PObj.enc, PBase.obj, PObj.attr])
theorem open_wide {H : Type} {en : TypeId × Value → H} {w : World} {v : Value} {d : DataW H} {p : List MemPlace} {r : Reach} {b0 : Nat} (hval : Value.okWide P w r b0 33 v) (h : DataW.Trod en P w 0 (fun _ => true) true 33 v d p) (hz : ∀ n ∈ d.weights P 33, n ≤ reachBytes) : ∃ x : PBase, v = agg x.enc ∧ Wide x := by
  have h0 := h
  obtain ⟨x, rfl⟩ := open_base hval h
  obtain ⟨fuel, hf⟩ := h0
  exact ⟨x, rfl, wide_of (decz_Base _ _ _ _ _ _ hf hz)⟩
end Go.Proofs.YtfkmaepcjognkaaDoor.Pad
