/- The library's fourth part: string slices, calls of function values, empty slice literals, made slices, copies, comparisons with nil. No condition. -/
import Derived.Test.YtfkmaepcjognkaaDoorLib3
namespace Go.Proofs.YtfkmaepcjognkaaDoor.Pad
open Go
theorem St.perm {B : List Nat} {w W : World} {m m' : List Box} {G0 G : Ghost} (M : St B w G0 W m G) (h : m.Perm m') : St B w G0 W m' G :=
  ⟨M.fr, M.gl, M.go, M.imm, fun x hx => M.own x (h.mem_iff.2 hx), (h.map Box.id).nodup_iff.1 M.nd⟩
section
variable {P : Program} {ops : Array Oper} {Q : Exit → Act → World → Prop} {md : Region.Mode} {S : World → Prop} {T : List Nat} {n : Nat} {l : Env} {a : Act} {W : World} {K : Act → World → Prop} {f : Nat} {ls : Array Bool}
theorem w_plain {i : Nat} {o : Oper} (hi : ops[i]? = some o) (hg : o.guard = none) (h : o.wp P a W K Q) : wpOp P ops Q i K a W := by
  unfold wpOp
  rw [hi]
  simp only [Region.wanted, hg, if_true]
  exact .inl h
theorem w_guard {i : Nat} {o : Oper} (F : Frm n l a) {j t : Nat} {want b : Bool} (hi : ops[i]? = some o) (hg : o.guard = some (j, want)) (hj : (ops[j]?).bind (·.dst) = some t) (hl : look l t = some (.bool b)) (hb : b = want) (h : o.wp P a W K Q) : wpOp P ops Q i K a W := by
  unfold wpOp
  rw [hi]
  simp only [wanted_of F hg hj hl, hb, beq_self_eq_true, if_true]
  exact .inl h
theorem t_rdy {r : List Nat} (hr : Region.ready md ops ls = r) (hne : r ≠ []) (h : ∀ i ∈ r, wpOp P ops Q i (fun a' W' => (T.contains i = false → S W') ∧ AnyT P md ops Q S T f (ls.setIfInBounds i true) a' W') a W) : AnyT P md ops Q S T (f + 1) ls a W :=
  ⟨fun h0 => absurd (hr.symm.trans h0) hne, fun i hi => h i (by rw [← hr]; exact hi)⟩
theorem t_rdy2 {i j : Nat} (hr : Region.ready md ops ls = [i, j])
    (h1 : wpOp P ops Q i (fun a' W' => (T.contains i = false → S W') ∧ AnyT P md ops Q S T f (ls.setIfInBounds i true) a' W') a W)
    (h2 : wpOp P ops Q j (fun a' W' => (T.contains j = false → S W') ∧ AnyT P md ops Q S T f (ls.setIfInBounds j true) a' W') a W) : AnyT P md ops Q S T (f + 1) ls a W :=
  t_rdy hr (by simp) fun x hx => by
    rcases List.mem_cons.1 hx with rfl | hx
    · exact h1
    · obtain rfl := List.mem_singleton.1 hx; exact h2
theorem t_rdy3 {i j k : Nat} (hr : Region.ready md ops ls = [i, j, k])
    (h1 : wpOp P ops Q i (fun a' W' => (T.contains i = false → S W') ∧ AnyT P md ops Q S T f (ls.setIfInBounds i true) a' W') a W)
    (h2 : wpOp P ops Q j (fun a' W' => (T.contains j = false → S W') ∧ AnyT P md ops Q S T f (ls.setIfInBounds j true) a' W') a W)
    (h3 : wpOp P ops Q k (fun a' W' => (T.contains k = false → S W') ∧ AnyT P md ops Q S T f (ls.setIfInBounds k true) a' W') a W) : AnyT P md ops Q S T (f + 1) ls a W :=
  t_rdy hr (by simp) fun x hx => by
    rcases List.mem_cons.1 hx with rfl | hx
    · exact h1
    · rcases List.mem_cons.1 hx with rfl | hx
      · exact h2
      · obtain rfl := List.mem_singleton.1 hx; exact h3
theorem t_rdy4 {i j k m : Nat} (hr : Region.ready md ops ls = [i, j, k, m])
    (h1 : wpOp P ops Q i (fun a' W' => (T.contains i = false → S W') ∧ AnyT P md ops Q S T f (ls.setIfInBounds i true) a' W') a W)
    (h2 : wpOp P ops Q j (fun a' W' => (T.contains j = false → S W') ∧ AnyT P md ops Q S T f (ls.setIfInBounds j true) a' W') a W)
    (h3 : wpOp P ops Q k (fun a' W' => (T.contains k = false → S W') ∧ AnyT P md ops Q S T f (ls.setIfInBounds k true) a' W') a W)
    (h4 : wpOp P ops Q m (fun a' W' => (T.contains m = false → S W') ∧ AnyT P md ops Q S T f (ls.setIfInBounds m true) a' W') a W) : AnyT P md ops Q S T (f + 1) ls a W :=
  t_rdy hr (by simp) fun x hx => by
    rcases List.mem_cons.1 hx with rfl | hx
    · exact h1
    · rcases List.mem_cons.1 hx with rfl | hx
      · exact h2
      · rcases List.mem_cons.1 hx with rfl | hx
        · exact h3
        · obtain rfl := List.mem_singleton.1 hx; exact h4
end
theorem keepAnd {p s X : Prop} (h : s) (k : s → X) : (p → s) ∧ X := ⟨fun _ => h, k h⟩
section
variable {P : Program} {n : Nat} {l : Env} {a : Act} {W : World} {dst : Option Nat} {ty : TypeId} {ps : String} {af : Array Edge} {g : Option (Nat × Bool)}
theorem sliceAt_str {t : TypeId} (hs : P.underlying t = some .string) (x : Value) (lo hi mx : Option Value) : (Instr.sliceAt t x lo hi mx).run P W = (Instr.slice t x lo hi mx).run P W := by
  simp [Instr.sliceAt, run_underlying hs]
theorem r_sstr_to (F : Frm n l a) {x y : Operand} {t : TypeId} {s : ByteArray} {kd : IntKind} {j : Int} (hs : P.underlying t = some .string) (hx : ev l x = some (.string s)) (hy : ev l y = some (.int kd j)) (h0 : 0 ≤ j) (h1 : j ≤ s.size) :
    Run P ⟨dst, .slice t x none (some y) none, ty, ps, af, g⟩ a W (.string (s.extract 0 j.toNat)) W := by
  simp [Run, execOp, F.eval hx, F.eval hy, sliceAt_str hs, Instr.slice, run_underlying hs, Instr.sliceBounds, run_sliceBound h0 h1]
theorem r_sstr_from (F : Frm n l a) {x y : Operand} {t : TypeId} {s : ByteArray} {kd : IntKind} {i : Int} (hs : P.underlying t = some .string) (hx : ev l x = some (.string s)) (hy : ev l y = some (.int kd i)) (h0 : 0 ≤ i) (h1 : i ≤ s.size) :
    Run P ⟨dst, .slice t x (some y) none none, ty, ps, af, g⟩ a W (.string (s.extract i.toNat s.size)) W := by
  simp [Run, execOp, F.eval hx, F.eval hy, sliceAt_str hs, Instr.slice, run_underlying hs, Instr.sliceBounds, run_sliceBound h0 h1]
theorem equal_slnil {t E : TypeId} {k : Nat} (hs : Slc P t E k) (s : Sl) : (Op.equal t s.v (.slice none 0 0)).run P W = .ok s.a.isNone W := by
  obtain ⟨sa, sl, sc⟩ := s
  obtain ⟨d, hd⟩ : ∃ d, Op.maxDepth = d + 1 := ⟨_, rfl⟩
  unfold Op.equal
  rw [hd]
  cases sa <;> simp [Sl.v, Op.equalIn, run_underlying hs.und]
theorem r_eql_slnil (F : Frm n l a) {x : Operand} {t E T' : TypeId} {k : Nat} {s : Sl} (hs : Slc P t E k) (hx : ev l x = some s.v) :
    Run P ⟨dst, .binOp .eql t x (.const (.slice none 0 0)) T', ty, ps, af, g⟩ a W (.bool s.a.isNone) W := by
  have h := equal_slnil (W := W) hs s
  have hc : a.eval (.const (.slice none 0 0)) = .slice none 0 0 := rfl
  simp only [Run, execOp, F.eval hx, hc]
  simp only [Sl.v] at h ⊢
  simp [eqGuard, Go.binOp, h]
theorem r_makeFunc (F : Frm n l a) {fn : Fn} {xs ys : List Operand} {us vs : List Value} (hx : evs l xs = some us) (hy : evs l ys = some vs) :
    Run P ⟨dst, .makeFunc fn xs.toArray ys.toArray, ty, ps, af, g⟩ a W (.func fn us.toArray vs.toArray) W := by
  have h1 := F.evals hx
  have h2 := F.evals hy
  simp [Run, execOp, Instr.makeFunc, ← h1, ← h2]
end

/-! ### slice literals -/
theorem fold_set : ∀ (c : List Value) (j off : Nat) (arr : Array Value), off + j + c.length ≤ arr.size → ((c.zipIdx j).foldl (fun (cs : Array Value) (x : Value × Nat) => cs.setIfInBounds (off + x.2) x.1) arr).toList = arr.toList.take (off + j) ++ c ++ arr.toList.drop (off + j + c.length)
  | [], j, off, arr, _ => by simp
  | x :: c, j, off, arr, h => by
    simp only [List.length_cons] at h
    rw [List.zipIdx_cons, List.foldl_cons, fold_set c (j + 1) off _ (by simp; omega)]
    have hlt : off + j < arr.toList.length := by simp; omega
    obtain ⟨A, y, B, hL, hA⟩ : ∃ A y B, arr.toList = A ++ y :: B ∧ A.length = off + j :=
      ⟨arr.toList.take (off + j), arr.toList[off + j], arr.toList.drop (off + j + 1), by rw [← List.drop_eq_getElem_cons hlt, List.take_append_drop], by rw [List.length_take]; omega⟩
    simp only [Array.toList_setIfInBounds, List.length_cons]
    rw [hL, show off + (j + 1) = A.length + 1 by omega, ← hA, show A.length + (c.length + 1) = A.length + 1 + c.length by omega]
    have e1 : (A ++ y :: B).set A.length x = A ++ x :: B := by simp
    have e2 : (A ++ x :: B).take (A.length + 1) = A ++ [x] := by rw [List.take_length_add_append]; rfl
    have e3 : ∀ z : Value, (A ++ z :: B).drop (A.length + 1 + c.length) = B.drop c.length := fun z => by rw [Nat.add_assoc, List.drop_length_add_append, Nat.add_comm, List.drop_succ_cons]
    have e4 : (A ++ y :: B).take A.length = A := by simp
    rw [e1, e2, e3, e3, e4]
    simp
theorem fill_one {k : Nat} {base : Array Value} {v : Value} {c : List Value} (hv : v.cells = c.toArray) (hc : c.length = k) (hb : base.size = k) : Instr.fill (fun i => some (i * k, k)) base [(0, v)] = some c.toArray := by
  have h := fold_set c 0 (0 * k) base (by omega)
  simp only [Nat.zero_mul, Nat.add_zero, List.take_zero, List.nil_append, Nat.zero_add] at h
  rw [hc, ← hb, ← Array.length_toList, List.drop_length, List.append_nil] at h
  simp only [Instr.fill, hv, List.size_toArray, hc, Nat.zero_mul, Nat.zero_add]
  rw [if_neg (by simp [hb])]
  congr 1
  apply Array.toList_inj.1
  rw [← Array.foldl_toList]
  simpa using h

/-! ### a function value is called -/
section
variable {P : Program} {Q : Exit → Act → World → Prop} {K : Act → World → Prop} {B : List Nat} {w W : World} {m : List Box} {G0 G : Ghost} {n : Nat} {l : Env} {a : Act} {d : Nat} {dst : Option Nat} {ty : TypeId} {ps : String} {af : Array Edge} {g : Option (Nat × Bool)}
theorem wp_enterV (F : Frm n l a) {c : Operand} {us cs : List Value} {xs : List Operand} {vs : List Value} {f : FuncId} {ts : Array TypeId} {R : Ending → World → Prop} (hc0 : ev l c = some (.func (.func f) us.toArray cs.toArray)) (hx : evs l xs = some vs) (he : ∃ fn, P.funcs[f]? = some fn ∧ (fn.name == "runtime.NumGoroutine") = false ∧ fn.body.isNone = false) (hc : Calls P f (us ++ vs ++ cs).toArray W R)
    (hR : ∀ e W', R e W' → ∃ v, e = .returned v ∧ K (a.put dst v) W') : Oper.wp P ⟨dst, .call { callee := .value c, args := xs.toArray, argTypes := ts }, ty, ps, af, g⟩ a W K Q := by
  obtain ⟨fn, h1, h2, h3⟩ := he
  have hv := F.evals hx
  have h2' : fn.name ≠ "runtime.NumGoroutine" := by simpa using h2
  have h3' : fn.body ≠ none := by intro h; rw [h] at h3; cases h3
  have hrun : (execOp a.eval ⟨dst, .call { callee := .value c, args := xs.toArray, argTypes := ts }, ty, ps, af, g⟩).run P W = .ok (.enter f (us ++ vs ++ cs).toArray) W := by
    simp [execOp, resolve, F.eval hc0, Deferred.ofValue, invoke, callFunc, h1, h2', h3']
    rw [← hv]
  unfold Oper.wp
  rw [hrun]
  refine hc.mono fun e W' hr => ?_
  obtain ⟨v, rfl, hk⟩ := hR e W' hr
  exact hk
theorem o_callV (M : St B w G0 W m G) (F : Frm n l a) {c : Operand} {us cs : List Value} {xs : List Operand} {vs : List Value} {f : FuncId} {ts : Array TypeId} {post : Ghost → World → Value → Prop} (hc : ev l c = some (.func (.func f) us.toArray cs.toArray)) (hx : evs l xs = some vs) (h : Ret P f (us ++ vs ++ cs) [] W G post) (hd : Nat.blt d n = true)
    (k : ∀ a' W' v G', post G' W' v → St B w G0 W' m G' → Ends [] W G W' G' → Frm n ((d, v) :: l) a' → K a' W') : Oper.wp P ⟨some d, .call { callee := .value c, args := xs.toArray, argTypes := ts }, ty, ps, af, g⟩ a W K Q :=
  wp_enterV F hc hx h.ent h.calls fun _ W' ⟨v, G', h1, h2, h3⟩ => ⟨v, h1, k _ W' v G' h3 (M.after h2) h2 (F.put hd v)⟩
theorem o_callVB (F : Frm n l a) {c : Operand} {us cs : List Value} {xs : List Operand} {vs : List Value} {f : FuncId} {ts : Array TypeId} {post : Ghost → World → Value → Prop} {b : Nat} (hc : ev l c = some (.func (.func f) us.toArray cs.toArray)) (hx : evs l xs = some vs) (h : Ret P f (us ++ vs ++ cs) [b] W G post) (hd : Nat.blt d n = true)
    (k : ∀ a' W' v G', post G' W' v → Ends [b] W G W' G' → Frm n ((d, v) :: l) a' → K a' W') : Oper.wp P ⟨some d, .call { callee := .value c, args := xs.toArray, argTypes := ts }, ty, ps, af, g⟩ a W K Q :=
  wp_enterV F hc hx h.ent h.calls fun _ W' ⟨v, G', h1, h2, h3⟩ => ⟨v, h1, k _ W' v G' h3 h2 (F.put hd v)⟩

/-- A box written over whole. -/
theorem o_storeA (M : St B w G0 W m G) (F : Frm n l a) {x y : Operand} {T : TypeId} {b k : Nat} {t : TypeId} {cs vs : List Value} {m' : List Box} (hx : ev l x = some (.pointer (some ⟨b, 0, none⟩))) (hy : ev l y = some (.agg vs.toArray))
    (hT : (P.info? T).map (·.size) = some k) (u : Upd m b t cs vs m') (hk : vs.length = k) (h1 : vs.all (·.oneCell') = true) (hf : cs.length = k)
    (kk : ∀ a' W', St B w G0 W' m' G → Frm n l a' → K a' W') : Oper.wp P ⟨none, .store T x y, ty, ps, af, g⟩ a W K Q :=
  o_store M F hx hy hT hk h1 (by simp [hf]) (by simp [over, hf, hk]) u kk

/-! ### an empty slice literal; a slice made, and copied into -/
/-- A slice literal of one thing. -/
theorem o_bslice1 (M : St B w G0 W m G) (F : Frm n l a) {t E k : Nat} {x : Operand} {cs : List Value} {z : Value} (hs : Slc P t E k) (hz : Zer P E z) (hx : ev l x = some (.agg cs.toArray)) (hc : cs.length = k) (hN : Nat.ble (1 * k) 16777216 = true) (hd : Nat.blt d n = true)
    (kk : ∀ a' W' S' G', Grew B w G0 m W G E k W' G' S' cs → S'.len = 1 → S'.a ≠ none → (∀ k, k < W.heap.size → G' k = G k) → Frm n ((d, S'.v) :: l) a' → K a' W') :
    Oper.wp P ⟨some d, .buildSlice t 1 #[(0, x)], ty, ps, af, g⟩ a W K Q :=
  o_bslice (xs := [(0, x)]) (vs := [(0, .agg cs.toArray)]) M F hs hz (by simp [evp, hx]) (fill_one rfl hc (by simp)) hN (by rw [hc, Nat.one_mul]) (by decide) hd kk
theorem o_bslice1s (M : St B w G0 W m G) (F : Frm n l a) {t E : Nat} {x : Operand} {v : Value} {z : Value} (hs : Slc P t E 1) (hz : Zer P E z) (hx : ev l x = some v) (h1 : v.oneCell' = true) (hd : Nat.blt d n = true)
    (kk : ∀ a' W' S' G', Grew B w G0 m W G E 1 W' G' S' [v] → S'.len = 1 → S'.a ≠ none → (∀ k, k < W.heap.size → G' k = G k) → Frm n ((d, S'.v) :: l) a' → K a' W') :
    Oper.wp P ⟨some d, .buildSlice t 1 #[(0, x)], ty, ps, af, g⟩ a W K Q :=
  o_bslice (xs := [(0, x)]) (vs := [(0, v)]) M F hs hz (by simp [evp, hx]) (fill_one (by cases v <;> first | rfl | cases h1) rfl (by simp)) (by decide) rfl (by decide) hd kk
theorem o_bslice0 (M : St B w G0 W m G) (F : Frm n l a) {t E k : Nat} (hs : Slc P t E k) (hd : Nat.blt d n = true)
    (kk : ∀ a' W' S' G', Grew B w G0 m W G E k W' G' S' [] → S'.len = 0 → S'.a ≠ none → (∀ k, k < W.heap.size → G' k = G k) → Frm n ((d, S'.v) :: l) a' → K a' W') :
    Oper.wp P ⟨some d, .buildSlice t 0 #[], ty, ps, af, g⟩ a W K Q := by
  obtain ⟨k1, k2⟩ := M.row #[] E [] (List.prefix_refl _)
  refine o_val F (v := .slice (some ⟨W.heap.size, 0, none⟩) 0 0) (W' := W.alloc (.cells #[] E (0, 0))) ?_ hd (fun a' F' => kk a' _ ⟨some ⟨W.heap.size, 0, none⟩, 0, 0⟩ _ ⟨k1, k2, ⟨⟨by simp, Nat.le_refl _, by simp, (fun h => nomatch h), fun h => absurd h (by simp)⟩, .inr ⟨W.heap.size, ⟨E, (0, 0), 0, []⟩, rfl, by simp [Ghost.put], rfl, rfl, by simp, rfl, .inl M.fr.size⟩⟩, by simp⟩ rfl (by simp) (fun k hk => by simp only [Ghost.put]; rw [if_neg (by omega)]) F')
  simp [Run, execOp, Instr.buildSlice, run_underlying hs.und, run_size hs.size, Instr.fill, newRow]
  rw [show (Array.range 0 : Array Nat) = #[] from by simp [Array.range], Array.map_empty]
/-- An own row that nobody has written into. -/
structure Made (B : List Nat) (w : World) (G : Ghost) (E k : Nat) (b N : Nat) : Prop where
  row : G b = some ⟨E, (0, 0), N * k, []⟩
  own : w.heap.size ≤ b ∨ b ∈ B
theorem o_makeSlice (M : St B w G0 W m G) (F : Frm n l a) {x y : Operand} {t E k by_ N : Nat} {z : Value} (hs : Slc P t E k) (ha : App P E k by_) (hz : Zer P E z) (hx : ev l x = some (.int .i64 (N : Int))) (hy : ev l y = some (.int .i64 (N : Int))) (hN : N ≤ 1000000) (hb : Nat.ble by_ 1000 = true) (hd : Nat.blt d n = true)
    (kk : ∀ a' W' G' b, St B w G0 W' m G' → Gle G G' → Made B w G' E k b N → Frm n ((d, .slice (some ⟨b, 0, none⟩) N N) :: l) a' → K a' W') :
    Oper.wp P ⟨some d, .makeSlice t x y, ty, ps, af, g⟩ a W K Q := by
  obtain ⟨i, z', hi, hz', hik, hib, hzc⟩ := ha.ok
  have hb' := Nat.le_of_ble_eq_true hb
  have hzv := run_zero (W := W) hz
  obtain ⟨k1, k2⟩ := M.row ((Array.range (N * k)).map (z.cells[· % z.cells.size]!)) E [] (List.nil_prefix)
  have hmul : (by_ : Int) * (N : Int) ≤ 1000000000 := by
    have h1 : by_ * N ≤ 1000 * 1000000 := Nat.mul_le_mul hb' hN
    have h2 : ((by_ * N : Nat) : Int) = (by_ : Int) * (N : Int) := Int.natCast_mul _ _
    omega
  have hmul' : N * by_ ≤ 1000000000 := by
    have h1 : N * by_ ≤ 1000000 * 1000 := Nat.mul_le_mul hN hb'
    omega
  have hw : IntKind.i64.wrap (N : Int) = (N : Int) := by simp [IntKind.wrap, IntKind.bits, IntKind.signed]; omega
  refine o_val F (v := .slice (some ⟨W.heap.size, 0, none⟩) N N) (W' := W.alloc (.cells ((Array.range (N * k)).map (z.cells[· % z.cells.size]!)) E (0, 0))) ?_ hd (fun a' F' => kk a' _ _ W.heap.size k1 k2 ⟨by simp [Ghost.put], .inl M.fr.size⟩ F')
  have hroom : ¬ (roomBytes < N * by_) := by simp [roomBytes]; omega
  have hnn : ¬ ((N : Int) < 0) := by omega
  have hlt : ¬ ((281474976710656 : Int) < (by_ : Int) * (N : Int)) := by omega
  by_cases h0 : N * k = 0
  · have e0 : ∀ f : Nat → Value, (Array.range 0).map f = #[] := fun f => Array.eq_empty_of_size_eq_zero (by simp)
    simp [Run, execOp, F.eval hx, F.eval hy, Instr.makeSlice, run_underlying hs.und, run_size hs.size, typeInfo, hi, hib, asInt, asIntOf, hw, hnn, hlt, askRoom, h0, newRow, e0]
  · simp [Run, execOp, F.eval hx, F.eval hy, Instr.makeSlice, run_underlying hs.und, run_size hs.size, typeInfo, hi, hib, asInt, asIntOf, hw, hnn, hlt, askRoom, h0, newRow, hzv]
theorem o_copy (M : St B w G0 W m G) (F : Frm n l a) {x y : Operand} {t E k N b : Nat} {X : Sl} {cs : List Value} (hs : Slc P t E k) (hx : ev l x = some (.slice (some ⟨b, 0, none⟩) N N)) (hy : ev l y = some X.v) (hM : Made B w G E k b N) (R : Rd G k X cs) (hl : X.len = N) (h1 : cs.all (·.oneCell') = true) (hmax : N ≤ 9223372036854775807) (hd : Nat.blt d n = true)
    (kk : ∀ a' W' G', St B w G0 W' m G' → Gle G G' → Tip B w G' E k ⟨some ⟨b, 0, none⟩, N, N⟩ cs → Frm n ((d, .int .i64 (N : Int)) :: l) a' → K a' W') :
    Oper.wp P ⟨some d, .call { callee := .builtin .copy, args := #[x, y], argTypes := #[t, t] }, ty, ps, af, g⟩ a W K Q := by
  obtain ⟨cur, hc1, hc2, hc3⟩ := M.imm b _ hM.row
  have hlen : cs.length = N * k := by rw [R.len, hl]
  have hfit : ([] : List Value).length + cs.length ≤ N * k := by simp [hlen]
  obtain ⟨k1, k2⟩ := M.grow (news := cs) hM.row hM.own hc1 hc2 hc3 (by simp [hlen])
  have hst := run_storeCells_at P b 0 E cs 0 cur W hc1 (by rw [hc2, hlen]; simp) (fun v hv => List.all_eq_true.1 h1 v hv)
  simp only [Nat.add_zero, Nat.zero_add, List.take_zero, List.nil_append] at hst
  have hS : Rd (G.put b { ty := E, fz := (0, 0), size := N * k, pre := [] ++ cs }) k ⟨some ⟨b, 0, none⟩, N, N⟩ cs := ⟨hlen, Nat.le_refl _, hmax, (fun h => nomatch h), fun _ => ⟨b, 0, { ty := E, fz := (0, 0), size := N * k, pre := [] ++ cs }, rfl, by simp only [Ghost.put, if_pos], ⟨by simp only [List.nil_append, List.drop_zero]; rw [List.take_of_length_le (by rw [hlen]; exact Nat.le_refl _)], hlen⟩⟩⟩
  refine o_val F (v := .int .i64 (N : Int)) (W' := W.setRow b (([] : List Value) ++ cs ++ cur.toList.drop (([] : List Value).length + cs.length)).toArray) ?_ hd (fun a' F' => kk a' _ _ k1 k2 ⟨hS, .inr ⟨b, { ty := E, fz := (0, 0), size := N * k, pre := [] ++ cs }, rfl, by simp only [Ghost.put, if_pos], rfl, rfl, rfl, by simp, hM.own⟩⟩ F')
  rcases Nat.eq_zero_or_pos N with h0 | h0
  · have hcs : cs = [] := List.eq_nil_of_length_eq_zero (by rw [hlen, h0]; simp)
    subst hcs
    have hX0 : X.len = 0 := by omega
    obtain ⟨xa, xl, xc⟩ := X
    simp only at hX0
    subst hX0
    cases xa <;> simp [Run, execOp, resolve, invoke, builtin, F.eval hx, F.eval hy, Builtin.copy_, Sl.v, run_underlying hs.und, run_size hs.size, Builtin.lenOf, Builtin.firstCells, loadCells, loadCellsFrom, hst, h0, goInt]
  · obtain ⟨xb, xo, xr, hxa, hxg, hxs⟩ := R.row (by omega)
    have hrows := M.imm.rows R hxa
    have hld : (loadCells ⟨xb, xo, none⟩ cs.length).run P W = .ok cs.toArray W := run_loadCells_list (P := P) W ⟨xb, xo, none⟩ cs hrows
    rw [hlen] at hld
    simp only [Sl.v] at hy
    rw [hxa] at hy
    simp [Run, execOp, resolve, invoke, builtin, F.eval hx, F.eval hy, Builtin.copy_, run_underlying hs.und, run_size hs.size, Builtin.lenOf, Builtin.firstCells, hl, hld, hst, goInt]
end
end Go.Proofs.YtfkmaepcjognkaaDoor.Pad
