/- How arguments lie in memory: structs, arrays, slices within them. No condition. -/
import Derived.Test.YtfkmaepcjognkaaDoorOpenD
namespace Go.Proofs.YtfkmaepcjognkaaDoor.Pad
open Go Go.Proofs Go.ChangeShapes Go.WideShapes Go.ChangeAt Go.RowKit
set_option linter.unusedSimpArgs false
set_option linter.unusedVariables false
set_option linter.constructorNameAsVariable false
set_option maxRecDepth 100000
theorem dec_sliceW {α : Type} {k : Nat} {enc : α → List Value} {t E : TypeId} {w : World} (hu : P.underlying t = some (.slice E)) (hc : P.cellsOf E = k) (hk : 0 < k) (one : ∀ x, (enc x).length = k)
    (hd : ∀ (H : Type) (en : TypeId × Value → H) (fuel : Nat) (cs : List Value) (x : DataW H × List MemPlace), DataW.trod en P w 0 (fun _ => true) true fuel E cs = some x → ∃ y : α, cs = enc y)
    {H : Type} {en : TypeId × Value → H} {fuel : Nat} {cs : List Value} {x : DataW H × List MemPlace} (hf : DataW.trod en P w 0 (fun _ => true) true fuel t cs = some x) : ∃ (l : Sl) (xs : List α), cs = [l.v] ∧ RdL (whole w) k enc l xs := by
  rcases DataW.trod_slice hu hf with ⟨hcs, _⟩ | ⟨x, l, c, elems, rest, n, _, hcs, _, _, hl, hm, hlen, hel, _⟩
  · exact ⟨Sl.nil, [], by rw [hcs]; rfl, ⟨Rd.nil' _ _, rfl, one⟩⟩
  · obtain ⟨xs, hxs⟩ := rdl_of (cap := c) one hk (a := x) hl (by simpa [maxLen] using hm) (fun i hi => by
      have h1 := hel i hi
      rw [hc, List.getElem?_eq_getElem (by omega)] at h1
      obtain ⟨cs, h2, h3⟩ := Option.bind_eq_some_iff.1 h1
      obtain ⟨y, rfl⟩ := hd _ _ _ _ _ h3
      exact ⟨y, h2⟩)
    exact ⟨⟨some x, l, c⟩, xs, by rw [hcs]; rfl, hxs⟩
theorem dec_slice {α : Type} {k : Nat} {enc : α → List Value} {t E : TypeId} (hu : P.underlying t = some (.slice E)) (hc : P.cellsOf E = k) (hk : 0 < k) (one : ∀ x, (enc x).length = k) (hd : Dec E (fun _ cs => ∃ x : α, cs = enc x)) :
    Dec t (fun w cs => ∃ (l : Sl) (xs : List α), cs = [l.v] ∧ RdL (whole w) k enc l xs) := fun H en w fuel cs x h => dec_sliceW hu hc hk one (fun H en fuel cs x h => hd H en w fuel cs x h) h
theorem array_elem {t : TypeId} {n : Nat} {e : TypeId} (ht : P.underlying t = some (.array n e)) {H : Type} {en : TypeId × Value → H} {w : World} {fuel : Nat} {cs : List Value} {x : DataW H × List MemPlace} (h : DataW.trod en P w 0 (fun _ => true) true fuel t cs = some x) :
    cs.length = P.cellsOf t ∧ ∀ i, i < n → ∀ R, Dec e R → R w ((cs.drop (i * P.cellsOf e)).take (P.cellsOf e)) := by
  obtain ⟨xs, m, _, _, hl, hlen, hf⟩ := DataW.trod_array ht h
  refine ⟨hl, fun i hi R hR => ?_⟩
  have h1 := hf i hi
  rw [List.getElem?_eq_getElem (by omega)] at h1
  exact hR _ _ _ _ _ _ h1
theorem elemR {t : TypeId} {n : Nat} {e : TypeId} {w : World} {cs : List Value} (h : cs.length = P.cellsOf t ∧ ∀ i, i < n → ∀ R, Dec e R → R w ((cs.drop (i * P.cellsOf e)).take (P.cellsOf e))) (i k : Nat) (hi : Nat.blt i n = true) (hk : P.cellsOf e = k) {R : World → List Value → Prop} (hd : Dec e R) : R w ((cs.drop (i * k)).take k) := by
  subst hk
  exact h.2 i (Nat.le_of_ble_eq_true hi) R hd
theorem dec_Attrs : Dec 22 (fun _ cs => ∃ a b c : ByteArray, cs = [.string a, .string b, .string c]) := fun H en w fuel cs x h => by
  have hf := array_elem Tryd.underlying22 h
  have hl := hf.1
  have c : P.cellsOf 22 = 3 := by kernel_rfl
  obtain ⟨x0, h0⟩ := elemR hf 0 1 rfl (by kernel_rfl : P.cellsOf 9 = 1) (dec_string Tryd.underlying9)
  obtain ⟨x1, h1⟩ := elemR hf 1 1 rfl (by kernel_rfl : P.cellsOf 9 = 1) (dec_string Tryd.underlying9)
  obtain ⟨x2, h2⟩ := elemR hf 2 1 rfl (by kernel_rfl : P.cellsOf 9 = 1) (dec_string Tryd.underlying9)
  rw [c] at hl
  have e : ∀ (o n : Nat), cs.drop o = (cs.drop o).take n ++ cs.drop (o + n) := fun o n => by rw [← List.drop_drop, List.take_append_drop]
  have hcs : cs = ((cs.drop (0 * 1)).take 1) ++ (((cs.drop (1 * 1)).take 1) ++ (((cs.drop (2 * 1)).take 1))) := by
    calc cs = cs.drop 0 := rfl
      _ = _ := by rw [e 0 1, e 1 1]
      _ = _ := by rw [List.take_of_length_le (l := cs.drop 2) (by rw [List.length_drop]; omega)]
  rw [hcs, h0, h1, h2]
  exact ⟨x0, x1, x2, rfl⟩
theorem dec_Res : Dec 28 (fun _ cs => ∃ o : PRes, cs = o.enc) := fun H en w fuel cs x h => by
  have hf := struct_field Tryd.underlying28 h
  have hl := hf.1
  have c : P.cellsOf 28 = 2 := by kernel_rfl
  obtain ⟨x0, h0⟩ := fieldR hf 0 rfl rfl (o := 0) rfl (by kernel_rfl : P.cellsOf 5 = 1) (dec_u8 Tryd.underlying5)
  obtain ⟨x1, h1⟩ := fieldR hf 1 rfl rfl (o := 1) rfl (by kernel_rfl : P.cellsOf 9 = 1) (dec_string Tryd.underlying9)
  rw [c] at hl
  have hcs : cs = ((cs.drop 0).take 1) ++ (((cs.drop 1).take 1)) := by
    have e : ∀ (o n : Nat), cs.drop o = (cs.drop o).take n ++ cs.drop (o + n) := fun o n => by rw [← List.drop_drop, List.take_append_drop]
    calc cs = cs.drop 0 := rfl
      _ = _ := by rw [e 0 1]
      _ = _ := by rw [List.take_of_length_le (l := cs.drop 1) (by rw [List.length_drop]; omega)]
  rw [hcs, h0, h1]
  exact ⟨⟨x0, x1⟩, rfl⟩
theorem dec_Last : Dec 30 (fun _ cs => ∃ o : PLast, cs = o.enc) := fun H en w fuel cs x h => by
  have hf := struct_field Tryd.underlying30 h
  have hl := hf.1
  have c : P.cellsOf 30 = 3 := by kernel_rfl
  obtain ⟨x0, h0⟩ := fieldR hf 0 rfl rfl (o := 0) rfl (by kernel_rfl : P.cellsOf 26 = 1) (dec_u32 Tryd.underlying26)
  obtain ⟨x1, h1⟩ := fieldR hf 1 rfl rfl (o := 1) rfl (by kernel_rfl : P.cellsOf 28 = 2) (dec_Res)
  rw [c] at hl
  have hcs : cs = ((cs.drop 0).take 1) ++ (((cs.drop 1).take 2)) := by
    have e : ∀ (o n : Nat), cs.drop o = (cs.drop o).take n ++ cs.drop (o + n) := fun o n => by rw [← List.drop_drop, List.take_append_drop]
    calc cs = cs.drop 0 := rfl
      _ = _ := by rw [e 0 1]
      _ = _ := by rw [List.take_of_length_le (l := cs.drop 1) (by rw [List.length_drop]; omega)]
  rw [hcs, h0, h1]
  exact ⟨⟨x0, x1⟩, rfl⟩
theorem dec_Obj : Dec 24 (fun _ cs => ∃ o : PObj, cs = o.enc) := fun H en w fuel cs x h => by
  have hf := struct_field Tryd.underlying24 h
  have hl := hf.1
  have c : P.cellsOf 24 = 5 := by kernel_rfl
  obtain ⟨x0, h0⟩ := fieldR hf 0 rfl rfl (o := 0) rfl (by kernel_rfl : P.cellsOf 4 = 1) (dec_bool Tryd.underlying4)
  obtain ⟨x1, h1⟩ := fieldR hf 1 rfl rfl (o := 1) rfl (by kernel_rfl : P.cellsOf 9 = 1) (dec_string Tryd.underlying9)
  obtain ⟨x2, x3, x4, h2⟩ := fieldR hf 2 rfl rfl (o := 2) rfl (by kernel_rfl : P.cellsOf 22 = 3) (dec_Attrs)
  rw [c] at hl
  have e : ∀ (o n : Nat), cs.drop o = (cs.drop o).take n ++ cs.drop (o + n) := fun o n => by rw [← List.drop_drop, List.take_append_drop]
  have hcs : cs = ((cs.drop 0).take 1) ++ (((cs.drop 1).take 1) ++ (((cs.drop 2).take 3))) := by
    calc cs = cs.drop 0 := rfl
      _ = _ := by rw [e 0 1, e 1 1]
      _ = _ := by rw [List.take_of_length_le (l := cs.drop 2) (by rw [List.length_drop]; omega)]
  rw [hcs, h0, h1, h2]
  exact ⟨⟨x0, x1, x2, x3, x4⟩, rfl⟩
theorem dec_Objs : Dec 25 (fun _ cs => ∃ b : PBase, b.l0 = PLast.zero ∧ b.l1 = PLast.zero ∧ b.l2 = PLast.zero ∧ cs = b.encObjs) := fun H en w fuel cs x h => by
  have hf := array_elem Tryd.underlying25 h
  have hl := hf.1
  have c : P.cellsOf 25 = 30 := by kernel_rfl
  obtain ⟨x0, h0⟩ := elemR hf 0 5 rfl (by kernel_rfl : P.cellsOf 24 = 5) (dec_Obj)
  obtain ⟨x1, h1⟩ := elemR hf 1 5 rfl (by kernel_rfl : P.cellsOf 24 = 5) (dec_Obj)
  obtain ⟨x2, h2⟩ := elemR hf 2 5 rfl (by kernel_rfl : P.cellsOf 24 = 5) (dec_Obj)
  obtain ⟨x3, h3⟩ := elemR hf 3 5 rfl (by kernel_rfl : P.cellsOf 24 = 5) (dec_Obj)
  obtain ⟨x4, h4⟩ := elemR hf 4 5 rfl (by kernel_rfl : P.cellsOf 24 = 5) (dec_Obj)
  obtain ⟨x5, h5⟩ := elemR hf 5 5 rfl (by kernel_rfl : P.cellsOf 24 = 5) (dec_Obj)
  rw [c] at hl
  have e : ∀ (o n : Nat), cs.drop o = (cs.drop o).take n ++ cs.drop (o + n) := fun o n => by rw [← List.drop_drop, List.take_append_drop]
  have hcs : cs = ((cs.drop (0 * 5)).take 5) ++ (((cs.drop (1 * 5)).take 5) ++ (((cs.drop (2 * 5)).take 5) ++ (((cs.drop (3 * 5)).take 5) ++ (((cs.drop (4 * 5)).take 5) ++ (((cs.drop (5 * 5)).take 5)))))) := by
    calc cs = cs.drop 0 := rfl
      _ = _ := by rw [e 0 5, e 5 5, e 10 5, e 15 5, e 20 5]
      _ = _ := by rw [List.take_of_length_le (l := cs.drop 25) (by rw [List.length_drop]; omega)]
  rw [hcs, h0, h1, h2, h3, h4, h5]
  exact ⟨⟨x0, x1, x2, x3, x4, x5, PLast.zero, PLast.zero, PLast.zero⟩, rfl, rfl, rfl, rfl⟩
theorem dec_Lasts : Dec 31 (fun _ cs => ∃ a b c : PLast, cs = a.enc ++ (b.enc ++ c.enc)) := fun H en w fuel cs x h => by
  have hf := array_elem Tryd.underlying31 h
  have hl := hf.1
  have c : P.cellsOf 31 = 9 := by kernel_rfl
  obtain ⟨x0, h0⟩ := elemR hf 0 3 rfl (by kernel_rfl : P.cellsOf 30 = 3) (dec_Last)
  obtain ⟨x1, h1⟩ := elemR hf 1 3 rfl (by kernel_rfl : P.cellsOf 30 = 3) (dec_Last)
  obtain ⟨x2, h2⟩ := elemR hf 2 3 rfl (by kernel_rfl : P.cellsOf 30 = 3) (dec_Last)
  rw [c] at hl
  have e : ∀ (o n : Nat), cs.drop o = (cs.drop o).take n ++ cs.drop (o + n) := fun o n => by rw [← List.drop_drop, List.take_append_drop]
  have hcs : cs = ((cs.drop (0 * 3)).take 3) ++ (((cs.drop (1 * 3)).take 3) ++ (((cs.drop (2 * 3)).take 3))) := by
    calc cs = cs.drop 0 := rfl
      _ = _ := by rw [e 0 3, e 3 3]
      _ = _ := by rw [List.take_of_length_le (l := cs.drop 6) (by rw [List.length_drop]; omega)]
  rw [hcs, h0, h1, h2]
  exact ⟨x0, x1, x2, rfl⟩
theorem dec_Base : Dec 33 (fun _ cs => ∃ o : PBase, cs = o.enc) := fun H en w fuel cs x h => by
  have hf := struct_field Tryd.underlying33 h
  have hl := hf.1
  have c : P.cellsOf 33 = 39 := by kernel_rfl
  obtain ⟨x0, _, _, _, h0⟩ := fieldR hf 0 rfl rfl (o := 0) rfl (by kernel_rfl : P.cellsOf 25 = 30) (dec_Objs)
  obtain ⟨y0, y1, y2, h1⟩ := fieldR hf 1 rfl rfl (o := 30) rfl (by kernel_rfl : P.cellsOf 31 = 9) (dec_Lasts)
  rw [c] at hl
  have e : ∀ (o n : Nat), cs.drop o = (cs.drop o).take n ++ cs.drop (o + n) := fun o n => by rw [← List.drop_drop, List.take_append_drop]
  have hcs : cs = ((cs.drop 0).take 30) ++ (((cs.drop 30).take 9)) := by
    calc cs = cs.drop 0 := rfl
      _ = _ := by rw [e 0 30]
      _ = _ := by rw [List.take_of_length_le (l := cs.drop 30) (by rw [List.length_drop]; omega)]
  rw [hcs, h0, h1]
  exact ⟨⟨x0.o0, x0.o1, x0.o2, x0.o3, x0.o4, x0.o5, y0, y1, y2⟩, rfl⟩
theorem dec_Entry : Dec 59 (fun _ cs => ∃ o : PEntry, cs = o.enc) := fun H en w fuel cs x h => by
  have hf := struct_field Tryd.underlying59 h
  have hl := hf.1
  have c : P.cellsOf 59 = 8 := by kernel_rfl
  obtain ⟨x0, h0⟩ := fieldR hf 0 rfl rfl (o := 0) rfl (by kernel_rfl : P.cellsOf 26 = 1) (dec_u32 Tryd.underlying26)
  obtain ⟨x1, h1⟩ := fieldR hf 1 rfl rfl (o := 1) rfl (by kernel_rfl : P.cellsOf 26 = 1) (dec_u32 Tryd.underlying26)
  obtain ⟨x2, h2⟩ := fieldR hf 2 rfl rfl (o := 2) rfl (by kernel_rfl : P.cellsOf 35 = 6) (dec_Op)
  rw [c] at hl
  have hcs : cs = ((cs.drop 0).take 1) ++ (((cs.drop 1).take 1) ++ (((cs.drop 2).take 6))) := by
    have e : ∀ (o n : Nat), cs.drop o = (cs.drop o).take n ++ cs.drop (o + n) := fun o n => by rw [← List.drop_drop, List.take_append_drop]
    calc cs = cs.drop 0 := rfl
      _ = _ := by rw [e 0 1, e 1 1]
      _ = _ := by rw [List.take_of_length_le (l := cs.drop 2) (by rw [List.length_drop]; omega)]
  rw [hcs, h0, h1, h2]
  exact ⟨⟨x0, x1, x2⟩, rfl⟩
theorem dec_Entries : Dec 56 (fun w cs => ∃ (l : Sl) (xs : List PEntry), cs = [l.v] ∧ Ens (whole w) l xs) := dec_slice Tryd.underlying56 (by kernel_rfl) (by decide) (fun x => rfl) dec_Entry
theorem dec_State : Dec 61 (fun w cs => ∃ (s : PState) (l : Sl), cs = GState.enc (s.at l) ∧ Ens (whole w) l s.log) := fun H en w fuel cs x h => by
  have hf := struct_field Tryd.underlying61 h
  have hl := hf.1
  have c : P.cellsOf 61 = 49 := by kernel_rfl
  obtain ⟨x0, h0⟩ := fieldR hf 0 rfl rfl (o := 0) rfl (by kernel_rfl : P.cellsOf 26 = 1) (dec_u32 Tryd.underlying26)
  obtain ⟨x1, h1⟩ := fieldR hf 1 rfl rfl (o := 1) rfl (by kernel_rfl : P.cellsOf 33 = 39) (dec_Base)
  obtain ⟨x2, h2⟩ := fieldR hf 2 rfl rfl (o := 40) rfl (by kernel_rfl : P.cellsOf 59 = 8) (dec_Entry)
  obtain ⟨l3, xs3, h3, hl3⟩ := fieldR hf 3 rfl rfl (o := 48) rfl (by kernel_rfl : P.cellsOf 56 = 1) (dec_Entries)
  rw [c] at hl
  have hcs : cs = ((cs.drop 0).take 1) ++ (((cs.drop 1).take 39) ++ (((cs.drop 40).take 8) ++ (((cs.drop 48).take 1)))) := by
    have e : ∀ (o n : Nat), cs.drop o = (cs.drop o).take n ++ cs.drop (o + n) := fun o n => by rw [← List.drop_drop, List.take_append_drop]
    calc cs = cs.drop 0 := rfl
      _ = _ := by rw [e 0 1, e 1 39, e 40 8]
      _ = _ := by rw [List.take_of_length_le (l := cs.drop 48) (by rw [List.length_drop]; omega)]
  rw [hcs, h0, h1, h2, h3]
  exact ⟨⟨x0, x1, x2, xs3⟩, l3, rfl, hl3⟩
theorem ofTrod {t : TypeId} {R : World → List Value → Prop} (hu : ∃ d, P.underlying t = some d ∧ isAggD d = true) (hd : Dec t R)
    {H : Type} {en : TypeId × Value → H} {w : World} {v : Value} {d : DataW H} {p : List MemPlace} {r : Reach} {b0 : Nat} (hval : Value.okWide P w r b0 t v) (h : DataW.Trod en P w 0 (fun _ => true) true t v d p) : ∃ cs, v = agg cs ∧ R w cs := by
  obtain ⟨fuel, hf⟩ := h
  obtain ⟨dd, hu1, hu2⟩ := hu
  have hx := hd _ _ _ _ _ _ hf
  unfold Value.okWide at hval
  rw [hu1] at hval
  have : ∃ cs, v = .agg cs := by
    cases dd <;> first | (obtain ⟨cs, h1, _⟩ := hval; exact ⟨cs, h1⟩) | cases hu2
  obtain ⟨cs, rfl⟩ := this
  exact ⟨cs.toList, by simp [agg], hx⟩
theorem open_base {H : Type} {en : TypeId × Value → H} {w : World} {v : Value} {d : DataW H} {p : List MemPlace} {r : Reach} {b0 : Nat} (hval : Value.okWide P w r b0 33 v) (h : DataW.Trod en P w 0 (fun _ => true) true 33 v d p) : ∃ x : PBase, v = agg x.enc := open_agg agg_Base.und dec_Base hval h
theorem open_entry {H : Type} {en : TypeId × Value → H} {w : World} {v : Value} {d : DataW H} {p : List MemPlace} {r : Reach} {b0 : Nat} (hval : Value.okWide P w r b0 59 v) (h : DataW.Trod en P w 0 (fun _ => true) true 59 v d p) : ∃ x : PEntry, v = agg x.enc := open_agg agg_Entry.und dec_Entry hval h
theorem open_state {H : Type} {en : TypeId × Value → H} {w : World} {v : Value} {d : DataW H} {p : List MemPlace} {r : Reach} {b0 : Nat} (hval : Value.okWide P w r b0 61 v) (h : DataW.Trod en P w 0 (fun _ => true) true 61 v d p) : ∃ (s : PState) (l : Sl), v = agg (GState.enc (s.at l)) ∧ Ens (whole w) l s.log := by
  obtain ⟨cs, rfl, s, l, rfl, hl⟩ := ofTrod agg_State.und dec_State hval h
  exact ⟨s, l, rfl, hl⟩
end Go.Proofs.YtfkmaepcjognkaaDoor.Pad
