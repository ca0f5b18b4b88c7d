/- How arguments lie in memory: what a reading says of the cells. No condition. -/
import Derived.Test.YtfkmaepcjognkaaDoorDoorA
import Derived.OpenShut
import Derived.WalkKit
import Derived.ProofKit
import Derived.Carry
namespace Go.Proofs.YtfkmaepcjognkaaDoor.Pad
open Go Go.Proofs Go.ChangeShapes Go.WideShapes Go.ChangeAt Go.RowKit
set_option linter.unusedVariables false
set_option linter.constructorNameAsVariable false
set_option maxRecDepth 100000
/-- All that is there at the beginning. -/
def whole (w : World) : Ghost := fun k => match w.heap[k]? with
  | some (.cells c t fz) => some ⟨t, fz, c.size, c.toList⟩
  | _ => none
theorem whole_imm (w : World) : Imm (whole w) w := by
  intro k r h
  unfold whole at h
  split at h
  · rename_i c t fz hk
    injection h with h; subst h
    exact ⟨c, hk, rfl, List.prefix_refl _⟩
  · cases h
def Dec (t : TypeId) (R : World → List Value → Prop) : Prop := ∀ (H : Type) (en : TypeId × Value → H) (w : World) (fuel : Nat) (cs : List Value) (x : DataW H × List MemPlace), DataW.trod en P w 0 (fun _ => true) true fuel t cs = some x → R w cs
theorem dec_int {t : TypeId} {k : IntKind} (ht : P.underlying t = some (.int k)) : Dec t (fun _ cs => ∃ n, cs = [.int k n] ∧ (Lit.int k n).wf = true) := by
  intro H en w fuel cs x h
  obtain ⟨n, h1, _, h2⟩ := DataW.trod_int ht h
  exact ⟨n, h1, h2⟩
theorem u8_of {n : Int} (h : (Lit.int .u8 n).wf = true) : ∃ x : UInt8, n = (x.toNat : Int) := by
  have h1 : 0 ≤ n ∧ n ≤ 255 := by simpa [Lit.wf, IntKind.min, IntKind.max, IntKind.bits, IntKind.signed] using h
  refine ⟨UInt8.ofNat n.toNat, ?_⟩
  rw [UInt8.toNat_ofNat']; omega
theorem u32_of' {n : Int} (h : (Lit.int .u32 n).wf = true) : ∃ x : UInt32, n = (x.toNat : Int) := by
  have h1 : 0 ≤ n ∧ n ≤ 4294967295 := by simpa [Lit.wf, IntKind.min, IntKind.max, IntKind.bits, IntKind.signed] using h
  refine ⟨UInt32.ofNat n.toNat, ?_⟩
  rw [UInt32.toNat_ofNat']; omega
theorem dec_u8 {t : TypeId} (ht : P.underlying t = some (.int .u8)) : Dec t (fun _ cs => ∃ x : UInt8, cs = [.int .u8 (x.toNat : Int)]) := fun H en w fuel cs x h => by
  obtain ⟨n, rfl, h2⟩ := dec_int ht H en w fuel cs x h
  obtain ⟨y, rfl⟩ := u8_of h2
  exact ⟨y, rfl⟩
theorem dec_u32 {t : TypeId} (ht : P.underlying t = some (.int .u32)) : Dec t (fun _ cs => ∃ x : UInt32, cs = [.int .u32 (x.toNat : Int)]) := fun H en w fuel cs x h => by
  obtain ⟨n, rfl, h2⟩ := dec_int ht H en w fuel cs x h
  obtain ⟨y, rfl⟩ := u32_of' h2
  exact ⟨y, rfl⟩
theorem dec_string {t : TypeId} (ht : P.underlying t = some .string) : Dec t (fun _ cs => ∃ x : ByteArray, cs = [.string x]) := fun H en w fuel cs x h => by
  cases fuel with
  | zero => simp [DataW.trod] at h
  | succ fuel =>
    unfold DataW.trod at h
    rw [ht] at h
    split at h <;> simp_all
theorem dec_bool {t : TypeId} (ht : P.underlying t = some .bool) : Dec t (fun _ cs => ∃ x : Bool, cs = [.bool x]) := fun H en w fuel cs x h => by
  cases fuel with
  | zero => simp [DataW.trod] at h
  | succ fuel =>
    unfold DataW.trod at h
    rw [ht] at h
    split at h <;> simp_all
theorem struct_field {t : TypeId} {fs : Array Field} (ht : P.underlying t = some (.struct fs)) {H : Type} {en : TypeId × Value → H} {w : World} {fuel : Nat} {cs : List Value} {x : DataW H × List MemPlace} (h : DataW.trod en P w 0 (fun _ => true) true fuel t cs = some x) :
    cs.length = P.cellsOf t ∧ ∀ (i : Nat) (f : Field), fs[i]? = some f → ∀ R, Dec f.type R → R w ((cs.drop f.offset).take (P.cellsOf f.type)) := by
  obtain ⟨xs, n, _, _, hl, hlen, hf⟩ := DataW.trod_struct ht h
  refine ⟨hl, fun i f hi R hR => ?_⟩
  have h1 := hf i f hi
  have hlt : i < xs.length := by rw [hlen]; exact (Array.getElem?_eq_some_iff.1 hi).1
  rw [List.getElem?_eq_getElem hlt] at h1
  exact hR _ _ _ _ _ _ h1
theorem fieldR {t : TypeId} {fs : Array Field} {w : World} {cs : List Value} (h : cs.length = P.cellsOf t ∧ ∀ (i : Nat) (f : Field), fs[i]? = some f → ∀ R, Dec f.type R → R w ((cs.drop f.offset).take (P.cellsOf f.type))) (i : Nat) {f : Field} {T o n : Nat} (hi : fs[i]? = some f) (hT : f.type = T) (ho : f.offset = o) (hn : P.cellsOf T = n) {R : World → List Value → Prop} (hd : Dec T R) : R w ((cs.drop o).take n) := by
  subst hT; subst ho; subst hn
  exact h.2 i f hi R hd
theorem dec_Op : Dec 35 (fun _ cs => ∃ o : POp, cs = o.enc) := fun H en w fuel cs x h => by
  have hf := struct_field Tryd.underlying35 h
  have hl := hf.1
  have c : P.cellsOf 35 = 6 := by kernel_rfl
  have c1 : P.cellsOf 5 = 1 := by kernel_rfl
  have c2 : P.cellsOf 26 = 1 := by kernel_rfl
  have c3 : P.cellsOf 9 = 1 := by kernel_rfl
  obtain ⟨x0, h0⟩ := fieldR hf 0 rfl rfl (o := 0) rfl c1 (dec_u8 Tryd.underlying5)
  obtain ⟨x1, h1⟩ := fieldR hf 1 rfl rfl (o := 1) rfl c2 (dec_u32 Tryd.underlying26)
  obtain ⟨x2, h2⟩ := fieldR hf 2 rfl rfl (o := 2) rfl c1 (dec_u8 Tryd.underlying5)
  obtain ⟨x3, h3⟩ := fieldR hf 3 rfl rfl (o := 3) rfl c1 (dec_u8 Tryd.underlying5)
  obtain ⟨x4, h4⟩ := fieldR hf 4 rfl rfl (o := 4) rfl c1 (dec_u8 Tryd.underlying5)
  obtain ⟨x5, h5⟩ := fieldR hf 5 rfl rfl (o := 5) rfl c3 (dec_string Tryd.underlying9)
  rw [c] at hl
  match cs, hl with
  | [a0, a1, a2, a3, a4, a5], _ =>
    simp at h0 h1 h2 h3 h4 h5
    exact ⟨⟨x0, x1, x2, x3, x4, x5⟩, by simp [POp.enc, h0, h1, h2, h3, h4, h5]⟩
/-- A slice's elements, one by one, are a row. -/
theorem rdl_of {α : Type} {k : Nat} {enc : α → List Value} (one : ∀ x, (enc x).length = k) (hk : 0 < k) {w : World} {a : Addr} {len cap : Nat} (hcap : len ≤ cap) (hmax : cap ≤ 9223372036854775807)
    (h : ∀ i, i < len → ∃ x : α, w.cells? 0 (a.add (i * k)) k = some (enc x)) : ∃ xs : List α, RdL (whole w) k enc ⟨some a, len, cap⟩ xs := by
  obtain ⟨xs, hxl, hxs⟩ : ∃ xs : List α, xs.length = len ∧ ∀ i x, xs[i]? = some x → w.cells? 0 (a.add (i * k)) k = some (enc x) := by
    clear hcap hmax
    induction len with
    | zero => exact ⟨[], rfl, fun i x hx => by simp at hx⟩
    | succ n ih =>
      obtain ⟨xs, h1, h2⟩ := ih (fun i hi => h i (by omega))
      obtain ⟨x, hx⟩ := h n (by omega)
      refine ⟨xs ++ [x], by simp [h1], fun i y hy => ?_⟩
      by_cases hi : i < xs.length
      · rw [List.getElem?_append_left hi] at hy; exact h2 i y hy
      · have hie : i = n := by
          have := (List.getElem?_eq_some_iff.1 hy).1
          simp at this; omega
        subst hie
        rw [List.getElem?_append_right (by omega)] at hy
        simp [h1] at hy
        rw [← hy]; exact hx
  refine ⟨xs, ⟨by rw [flat_len one, hxl], hcap, hmax, (fun h => nomatch h), fun h0 => ?_⟩, hxl.symm, one⟩
  have cell : ∀ i j, i < len → j < k → ∃ v, (xs.flatMap enc)[i * k + j]? = some v ∧ w.cell? ((a.add (i * k)).add j) = some v := by
    intro i j hi hj
    obtain ⟨x, hx⟩ := get_of (l := xs) (i := i) (by omega)
    obtain ⟨_, h3, h4⟩ := World.cells?_some (hxs i x hx)
    have h5 := h4 j hj
    have hlt : j < (enc x).length := by rw [one]; exact hj
    refine ⟨(enc x)[j], ?_, by rw [h5, List.getElem?_eq_getElem hlt]⟩
    have h6 : (xs.flatMap enc).drop (i * k) = (xs.drop i).flatMap enc := flat_drop one xs i
    rw [← List.getElem?_drop, h6, drop_of hx, List.flatMap_cons, List.getElem?_append_left hlt, List.getElem?_eq_getElem hlt]
  obtain ⟨v0, _, hv0⟩ := cell 0 0 h0 hk
  have ha0 : (a.add (0 * k)).add 0 = a := by simp [Addr.add]
  rw [ha0] at hv0
  obtain ⟨b, o, sp⟩ := a
  have hrow : ∃ c t fz, w.heap[b]? = some (.cells c t fz) ∧ sp = none := by
    unfold World.cell? at hv0
    split at hv0
    · rename_i c t fz hc
      split at hv0
      · cases hv0
      · rename_i hs; exact ⟨c, t, fz, hc, by simpa using hs⟩
    · cases hv0
  obtain ⟨c, t, fz, hc, rfl⟩ := hrow
  refine ⟨b, o, ⟨t, fz, c.size, c.toList⟩, rfl, by simp only [whole, hc], ?_, by rw [flat_len one, hxl]⟩
  apply List.ext_getElem?
  intro m
  simp only [List.getElem?_take, List.getElem?_drop]
  by_cases hm : m < len * k
  · rw [if_pos hm]
    have hi : m / k < len := Nat.div_lt_of_lt_mul (by rw [Nat.mul_comm]; exact hm)
    have hj : m % k < k := Nat.mod_lt _ hk
    obtain ⟨v, h1, h2⟩ := cell (m / k) (m % k) hi hj
    have e : m / k * k + m % k = m := by rw [Nat.mul_comm]; exact Nat.div_add_mod m k
    rw [e] at h1
    rw [h1, ← h2, addr_add, addr_add, cell_of_row w b _ c t fz hc, Nat.add_assoc, e]
    simp
  · rw [if_neg hm, List.getElem?_eq_none (by rw [flat_len one, hxl]; omega)]
theorem open_slice {α : Type} {k : Nat} {enc : α → List Value} {t E : TypeId} (hu : P.underlying t = some (.slice E)) (hc : P.cellsOf E = k) (hk : 0 < k) (one : ∀ x, (enc x).length = k) (hd : Dec E (fun _ cs => ∃ x : α, cs = enc x))
    {H : Type} {en : TypeId × Value → H} {w : World} {v : Value} {d : DataW H} {p : List MemPlace} {r : Reach} {b0 : Nat} (hval : Value.okWide P w r b0 t v) (h : DataW.Trod en P w 0 (fun _ => true) true t v d p) : ∃ (l : Sl) (xs : List α), v = l.v ∧ RdL (whole w) k enc l xs := by
  obtain ⟨a, len, cap, rfl⟩ := okWide_slice hu hval
  obtain ⟨fuel, hf⟩ := h
  rcases DataW.trod_slice hu hf with ⟨hcs, _⟩ | ⟨x, l, c, elems, rest, n, _, hcs, _, _, hl, hm, hlen, hel, _⟩
  · simp [Value.cells] at hcs
    obtain ⟨rfl, rfl, rfl⟩ := hcs
    exact ⟨Sl.nil, [], rfl, ⟨Rd.nil' _ _, rfl, one⟩⟩
  · simp [Value.cells] at hcs
    obtain ⟨rfl, rfl, rfl⟩ := hcs
    obtain ⟨xs, hxs⟩ := rdl_of (cap := cap) one hk (a := x) hl (by simpa [maxLen] using hm) (fun i hi => by
      have h1 := hel i hi
      rw [hc, List.getElem?_eq_getElem (by omega)] at h1
      obtain ⟨cs, h2, h3⟩ := Option.bind_eq_some_iff.1 h1
      obtain ⟨y, rfl⟩ := hd _ _ _ _ _ _ h3
      exact ⟨y, h2⟩)
    exact ⟨⟨some x, len, cap⟩, xs, rfl, hxs⟩
theorem open_agg {α : Type} {enc : α → List Value} {t : TypeId} (hu : ∃ d, P.underlying t = some d ∧ isAggD d = true) (hd : Dec t (fun _ cs => ∃ x : α, cs = enc x))
    {H : Type} {en : TypeId × Value → H} {w : World} {v : Value} {d : DataW H} {p : List MemPlace} {r : Reach} {b0 : Nat} (hval : Value.okWide P w r b0 t v) (h : DataW.Trod en P w 0 (fun _ => true) true t v d p) : ∃ x : α, v = agg (enc x) := by
  obtain ⟨fuel, hf⟩ := h
  obtain ⟨dd, hu1, hu2⟩ := hu
  obtain ⟨x, hx⟩ := hd _ _ _ _ _ _ hf
  unfold Value.okWide at hval
  rw [hu1] at hval
  have : ∃ cs, v = .agg cs := by
    cases dd <;> first | (obtain ⟨cs, h1, _⟩ := hval; exact ⟨cs, h1⟩) | cases hu2
  obtain ⟨cs, rfl⟩ := this
  refine ⟨x, ?_⟩
  simp only [Value.cells] at hx
  rw [← hx]
theorem open_u8 {t : TypeId} (ht : P.underlying t = some (.int .u8)) {H : Type} {en : TypeId × Value → H} {w : World} {v : Value} {d : DataW H} {p : List MemPlace} {r : Reach} {b0 : Nat} (hval : Value.okWide P w r b0 t v) (h : DataW.Trod en P w 0 (fun _ => true) true t v d p) : ∃ x : UInt8, v = .int .u8 (x.toNat : Int) := by
  obtain ⟨n, rfl, _, _, hw⟩ := open_int ht hval h
  obtain ⟨x, rfl⟩ := u8_of hw
  exact ⟨x, rfl⟩
theorem open_u32 {t : TypeId} (ht : P.underlying t = some (.int .u32)) {H : Type} {en : TypeId × Value → H} {w : World} {v : Value} {d : DataW H} {p : List MemPlace} {r : Reach} {b0 : Nat} (hval : Value.okWide P w r b0 t v) (h : DataW.Trod en P w 0 (fun _ => true) true t v d p) : ∃ x : UInt32, v = .int .u32 (x.toNat : Int) := by
  obtain ⟨n, rfl, _, _, hw⟩ := open_int ht hval h
  obtain ⟨x, rfl⟩ := u32_of' hw
  exact ⟨x, rfl⟩
theorem open_opl {H : Type} {en : TypeId × Value → H} {w : World} {v : Value} {d : DataW H} {p : List MemPlace} {r : Reach} {b0 : Nat} (hval : Value.okWide P w r b0 49 v) (h : DataW.Trod en P w 0 (fun _ => true) true 49 v d p) : ∃ (l : Sl) (xs : List POp), v = l.v ∧ Opl (whole w) l xs :=
  open_slice (k := 6) Tryd.underlying49 (by kernel_rfl) (by decide) (fun x => rfl) dec_Op hval h
theorem open_op {H : Type} {en : TypeId × Value → H} {w : World} {v : Value} {d : DataW H} {p : List MemPlace} {r : Reach} {b0 : Nat} (hval : Value.okWide P w r b0 35 v) (h : DataW.Trod en P w 0 (fun _ => true) true 35 v d p) : ∃ x : POp, v = agg x.enc :=
  open_agg agg_Op.und dec_Op hval h
/-- What a law's walk says, as the row's step asks it. -/
theorem calls_of_ret {f : Nat} {vs : List Value} {w : World} {v0 : Value} (h : Ret P f vs [] w (whole w) (fun _ _ v => v = v0)) : Calls P f vs.toArray w fun e w' => e = .returned v0 ∧ Below w.heap.size w w' :=
  h.calls.mono fun e W ⟨v, G, he, hE, hv⟩ => ⟨by rw [he, hv], hE.fr.below⟩
theorem laidOut : laidOutB P = true := by kernel_rfl
end Go.Proofs.YtfkmaepcjognkaaDoor.Pad
