/- The library's third part: a region that draws its order, walked with a condition on the worlds that all operations but some last ones keep. No condition. -/
import Derived.Test.YtfkmaepcjognkaaDoorLib2
namespace Go.Proofs.YtfkmaepcjognkaaDoor.Pad
open Go
section
variable {P : Program} {ops : Array Oper} {Q : Exit → Act → World → Prop} {md : Region.Mode} {S : World → Prop} {T : List Nat}
/-- Whatever order comes; S holds behind every operation that is not in T. -/
def AnyT (P : Program) (md : Region.Mode) (ops : Array Oper) (Q : Exit → Act → World → Prop) (S : World → Prop) (T : List Nat) : Nat → Array Bool → Act → World → Prop
  | 0, ls, a, w => Region.ready md ops ls = [] ∧ Q .normal a w
  | f + 1, ls, a, w => (Region.ready md ops ls = [] → Q .normal a w) ∧ ∀ i ∈ Region.ready md ops ls, wpOp P ops Q i (fun a' w' => (T.contains i = false → S w') ∧ AnyT P md ops Q S T f (ls.setIfInBounds i true) a' w') a w
theorem AnyT.any : ∀ (f : Nat) (ls : Array Bool) (a : Act) (w : World), AnyT P md ops Q S T f ls a w → wpAny P md ops Q f ls a w
  | 0, _, _, _, h => h
  | f + 1, _, _, _, h => ⟨h.1, fun i hi => wpOp_mono (fun a' w' h' => AnyT.any f _ a' w' h'.2) (h.2 i hi)⟩
theorem c_draw {id : Nat} {a : Act} {w : World} (S : World → Prop) (T : List Nat) {l : List Oper} (hm : P.follows .mixedOrders = true)
    (h : AnyT P .any l.toArray Q S T l.toArray.size (Array.replicate l.toArray.size false) a w.drew) : (Code.region id l.toArray true).wp P Q a w :=
  wp_region_any hm (AnyT.any _ _ _ _ h)
/-- Every one of the last ones that is still to come waits for number i. -/
def waits (md : Region.Mode) (ops : Array Oper) (ls : Array Bool) (i : Nat) (T : List Nat) : Bool :=
  T.all fun j => ls.getD j true || j == i || match ops[j]? with
    | some o => o.after.any (fun e => Region.binds md e && e.on == i)
    | none => false
theorem waits_spec {ls : Array Bool} {i : Nat} (h : waits md ops ls i T = true) {j : Nat} (hT : T.contains j = true) (hj : ls.getD j true = false) (hne : j ≠ i) : ∃ o, ops[j]? = some o ∧ ∃ e ∈ o.after, Region.binds md e = true ∧ e.on = i := by
  have h1 := List.all_eq_true.1 h j (by simpa using hT)
  simp only [hj, Bool.false_or, Bool.or_eq_true, beq_iff_eq, hne, false_or] at h1
  cases ho : ops[j]? with
  | none => rw [ho] at h1; cases h1
  | some o =>
    rw [ho] at h1
    replace h1 : (o.after.any fun e => Region.binds md e && e.on == i) = true := h1
    rw [← Array.any_toList] at h1
    obtain ⟨e, he, h2⟩ := List.any_eq_true.1 h1
    simp only [Bool.and_eq_true, beq_iff_eq] at h2
    exact ⟨o, rfl, e, by simpa using he, h2.1, h2.2⟩
theorem anyT_first {i : Nat} {oi : Oper} {v : Value} (hi : ops[i]? = some oi) (hsel : ∀ (j : Nat) (o : Oper) cs b, ops[j]? = some o → o.op ≠ .select cs b)
    (hQ : ∀ c a w, Q (.panic c) (a.put oi.dst v) w → Q (.panic c) a w) : ∀ (f : Nat) (ls : Array Bool) (a : Act) (w : World),
      (∀ j oj, ops[j]? = some oj → j ≠ i → ls.getD j true = false → (∀ e ∈ oj.after, Region.binds md e = true → e.on ≠ i) → oi.apart ops oj = true) →
      (∀ j, T.contains j = true → ls.getD j true = false → j ≠ i → ∃ o, ops[j]? = some o ∧ ∃ e ∈ o.after, Region.binds md e = true ∧ e.on = i) →
      i ∈ Region.ready md ops ls → YieldsIf P ops S oi v a → S w →
      AnyT P md ops Q S T f (ls.setIfInBounds i true) (a.put oi.dst v) w → AnyT P md ops Q S T (f + 1) ls a w := by
  intro f
  induction f with
  | zero =>
    intro ls a w _ _ hr hy hS H
    refine ⟨fun h => absurd hr (by rw [h]; simp), fun j hj => ?_⟩
    by_cases hji : j = i
    · subst hji
      exact hy.wpOp hi hS ⟨fun _ => hS, H⟩
    · have hmem := ready_mono hj hji
      rw [H.1] at hmem
      exact absurd hmem (by simp)
  | succ f ih =>
    intro ls a w hfree hlast hr hy hS H
    refine ⟨fun h => absurd hr (by rw [h]; simp), fun j hj => ?_⟩
    by_cases hji : j = i
    · subst hji
      exact hy.wpOp hi hS ⟨fun _ => hS, H⟩
    · obtain ⟨hjl, oj, hoj, hjall⟩ := mem_ready.1 hj
      have hil := (mem_ready.1 hr).1
      have hno : ∀ e ∈ oj.after, Region.binds md e = true → e.on ≠ i := by
        intro e he hb heq
        have ht := hjall e he hb
        rw [heq] at ht
        by_cases hlt : i < ls.size
        · simp [hlt] at hil ht
          rw [hil] at ht
          cases ht
        · simp [Array.getElem?_eq_none (Nat.le_of_not_lt hlt)] at ht
      have hjT : T.contains j = false := by
        cases hc : T.contains j with
        | false => rfl
        | true =>
          obtain ⟨o, ho, e, he, hb, heq⟩ := hlast j hc hjl hji
          rw [hoj] at ho
          injection ho with ho
          subst ho
          exact absurd heq (hno e he hb)
      have hstep := wpOp_putIf hoj (hfree j oj hoj hji hjl hno) (fun cs b => hsel i oi cs b hi) (fun cs b => hsel j oj cs b hoj) hQ hy (H.2 j (ready_mono hj hji))
      refine wpOp_mono (fun a' w' h3 => ⟨fun _ => h3.2.1 hjT, ih (ls.setIfInBounds j true) a' w' ?_ ?_ (ready_mono hr (Ne.symm hji)) h3.1 (h3.2.1 hjT) ?_⟩) hstep
      · intro k ok hk hki hkl hkn
        refine hfree k ok hk hki ?_ hkn
        by_cases hjk : j = k
        · subst hjk; exact hjl
        · rwa [getD_set_ne true hjk] at hkl
      · intro k hkT hkl hki
        refine hlast k hkT ?_ hki
        by_cases hjk : j = k
        · subst hjk; exact hjl
        · rwa [getD_set_ne true hjk] at hkl
      · rw [Array.setIfInBounds_comm _ _ hji]
        exact h3.2.2
section
variable {n : Nat} {l : Env} {a : Act} {W : World} {f : Nat} {ls : Array Bool} {i : Nat} {d : Nat} {op : Op} {ty : TypeId} {ps : String} {af : Array Edge} {v : Value}
/-- Number i is taken first: it only looks. -/
theorem t_take (F : Frm n l a) (hi : ops[i]? = some ⟨some d, op, ty, ps, af, none⟩) (hd : Nat.blt d n = true) (hS : S W) (hy : ∀ W', S W' → Run P ⟨some d, op, ty, ps, af, none⟩ a W' v W')
    (hQ : ∀ c a w, Q (.panic c) (a.put (some d) v) w → Q (.panic c) a w) (hs : Region.noSelect ops = true) (hf : Region.free md ops ls i = true) (hr : (Region.ready md ops ls).contains i = true) (hw : waits md ops ls i T = true)
    (k : ∀ a', Frm n ((d, v) :: l) a' → AnyT P md ops Q S T f (ls.setIfInBounds i true) a' W) : AnyT P md ops Q S T (f + 1) ls a W :=
  anyT_first hi (Region.noSelect_spec hs) hQ f ls a W (Region.free_spec hi hf) (fun _ h1 h2 h3 => waits_spec hw h1 h2 h3) (by simpa using hr) (.inl ⟨rfl, fun w hw => hy w hw⟩) hS (k _ (F.put hd v))
/-- The same, guarded and wanted. -/
theorem t_takeg (F : Frm n l a) {j t : Nat} {want b : Bool} (hi : ops[i]? = some ⟨some d, op, ty, ps, af, some (j, want)⟩) (hj : (ops[j]?).bind (·.dst) = some t) (hl : look l t = some (.bool b)) (hb : b = want) (hd : Nat.blt d n = true) (hS : S W) (hy : ∀ W', S W' → Run P ⟨some d, op, ty, ps, af, some (j, want)⟩ a W' v W')
    (hQ : ∀ c a w, Q (.panic c) (a.put (some d) v) w → Q (.panic c) a w) (hs : Region.noSelect ops = true) (hf : Region.free md ops ls i = true) (hr : (Region.ready md ops ls).contains i = true) (hw : waits md ops ls i T = true)
    (k : ∀ a', Frm n ((d, v) :: l) a' → AnyT P md ops Q S T f (ls.setIfInBounds i true) a' W) : AnyT P md ops Q S T (f + 1) ls a W :=
  anyT_first hi (Region.noSelect_spec hs) hQ f ls a W (Region.free_spec hi hf) (fun _ h1 h2 h3 => waits_spec hw h1 h2 h3) (by simpa using hr) (.inl ⟨by rw [wanted_of F rfl hj hl, hb]; simp, fun w hw => hy w hw⟩) hS (k _ (F.put hd v))
/-- Guarded and not wanted. -/
theorem t_skip (F : Frm n l a) {j t : Nat} {want b : Bool} (hi : ops[i]? = some ⟨some d, op, ty, ps, af, some (j, want)⟩) (hj : (ops[j]?).bind (·.dst) = some t) (hl : look l t = some (.bool b)) (hb : b = !want) (hd : Nat.blt d n = true) (hS : S W)
    (hQ : ∀ c a w, Q (.panic c) (a.put (some d) undef) w → Q (.panic c) a w) (hs : Region.noSelect ops = true) (hf : Region.free md ops ls i = true) (hr : (Region.ready md ops ls).contains i = true) (hw : waits md ops ls i T = true)
    (k : ∀ a', Frm n ((d, undef) :: l) a' → AnyT P md ops Q S T f (ls.setIfInBounds i true) a' W) : AnyT P md ops Q S T (f + 1) ls a W :=
  anyT_first hi (Region.noSelect_spec hs) hQ f ls a W (Region.free_spec hi hf) (fun _ h1 h2 h3 => waits_spec hw h1 h2 h3) (by simpa using hr) (.inr ⟨by rw [wanted_of F rfl hj hl, hb]; cases want <;> simp, rfl⟩) hS (k _ (F.put hd _))
/-- One operation alone can come up. -/
theorem t_one {o : Oper} (hr : Region.ready md ops ls = [i]) (hi : ops[i]? = some o) (hg : o.guard = none) (h : o.wp P a W (fun a' W' => (T.contains i = false → S W') ∧ AnyT P md ops Q S T f (ls.setIfInBounds i true) a' W') Q) : AnyT P md ops Q S T (f + 1) ls a W := by
  refine ⟨(fun h0 => absurd h0 (by rw [hr]; simp)), fun j hj => ?_⟩
  rw [hr] at hj
  obtain rfl := List.mem_singleton.1 hj
  unfold wpOp
  rw [hi]
  simp only [Region.wanted, hg, if_true]
  exact .inl h
theorem t_oneg {o : Oper} (F : Frm n l a) {j t : Nat} {want b : Bool} (hr : Region.ready md ops ls = [i]) (hi : ops[i]? = some o) (hg : o.guard = some (j, want)) (hj : (ops[j]?).bind (·.dst) = some t) (hl : look l t = some (.bool b)) (hb : b = want) (h : o.wp P a W (fun a' W' => (T.contains i = false → S W') ∧ AnyT P md ops Q S T f (ls.setIfInBounds i true) a' W') Q) : AnyT P md ops Q S T (f + 1) ls a W := by
  refine ⟨(fun h0 => absurd h0 (by rw [hr]; simp)), fun j' hj' => ?_⟩
  rw [hr] at hj'
  obtain rfl := List.mem_singleton.1 hj'
  unfold wpOp
  rw [hi]
  simp only [wanted_of F hg hj hl, hb, beq_self_eq_true, if_true]
  exact .inl h
/-- One of two. -/
theorem t_two {i' : Nat} {o o' : Oper} (hr : Region.ready md ops ls = [i, i']) (hi : ops[i]? = some o) (hi' : ops[i']? = some o') (hg : o.guard = none) (hg' : o'.guard = none)
    (h : o.wp P a W (fun a' W' => (T.contains i = false → S W') ∧ AnyT P md ops Q S T f (ls.setIfInBounds i true) a' W') Q)
    (h' : o'.wp P a W (fun a' W' => (T.contains i' = false → S W') ∧ AnyT P md ops Q S T f (ls.setIfInBounds i' true) a' W') Q) : AnyT P md ops Q S T (f + 1) ls a W := by
  refine ⟨(fun h0 => absurd h0 (by rw [hr]; simp)), fun j hj => ?_⟩
  rw [hr] at hj
  rcases List.mem_cons.1 hj with rfl | hj
  · unfold wpOp
    rw [hi]
    simp only [Region.wanted, hg, if_true]
    exact .inl h
  · obtain rfl := List.mem_singleton.1 hj
    unfold wpOp
    rw [hi']
    simp only [Region.wanted, hg', if_true]
    exact .inl h'
theorem t_done (hr : Region.ready md ops ls = []) (h : Q .normal a W) : ∀ f, AnyT P md ops Q S T f ls a W
  | 0 => ⟨hr, h⟩
  | _ + 1 => ⟨fun _ => h, fun j hj => by rw [hr] at hj; cases hj⟩
end
end
/-- The condition that serves: the boxes of the region's beginning are as they were. -/
def Keeps (B : List Nat) (w : World) (G0 : Ghost) (m : List Box) (G : Ghost) (W : World) : Prop := ∃ G', Gle G G' ∧ St B w G0 W m G'
theorem Keeps.mk {B : List Nat} {w : World} {G0 : Ghost} {m m' : List Box} {G G' : Ghost} {W : World} (hg : Gle G G') (M : St B w G0 W m' G') (h : m.Sublist m') : Keeps B w G0 m G W := ⟨G', hg, M.drop h⟩
theorem Keeps.here {B : List Nat} {w : World} {G0 : Ghost} {m : List Box} {G : Ghost} {W : World} (M : St B w G0 W m G) : Keeps B w G0 m G W := ⟨G, Gle.refl G, M⟩
theorem c_drawM {P : Program} {Q : Exit → Act → World → Prop} {B : List Nat} {w W : World} {m : List Box} {G0 G : Ghost} {id : Nat} {a : Act} {l : List Oper} (M : St B w G0 W m G) (T : List Nat) (hm : P.follows .mixedOrders = true)
    (h : St B w G0 W.drew m G → AnyT P .any l.toArray Q (Keeps B w G0 m G) T l.toArray.size (Array.replicate l.toArray.size false) a W.drew) : (Code.region id l.toArray true).wp P Q a W := c_draw _ T hm (h M.drew)
section
variable {P : Program} {B : List Nat} {w W : World} {m : List Box} {G0 G G' : Ghost} {n : Nat} {l : Env} {a : Act} {dst : Option Nat} {ty : TypeId} {ps : String} {af : Array Edge} {g : Option (Nat × Bool)}
theorem r_loadrG (hg : Gle G G') (M : St B w G0 W m G') (F : Frm n l a) {x : Operand} {b o : Nat} {T : TypeId} {r : Row} {vs : List Value} {k : Nat} (hx : ev l x = some (.pointer (some ⟨b, o, none⟩))) (hm : G b = some r) (ha : Agg P T k) (hv : Seg r.pre o k vs) :
    Run P ⟨dst, .load T x, ty, ps, af, g⟩ a W (.agg vs.toArray) W := by
  obtain ⟨r', h1, h2⟩ := hg b r hm
  exact r_loadr M F hx h1 ha (hv.pre h2.pre)
theorem r_loadrG1 (hg : Gle G G') (M : St B w G0 W m G') (F : Frm n l a) {x : Operand} {b o : Nat} {T : TypeId} {r : Row} {v : Value} (hx : ev l x = some (.pointer (some ⟨b, o, none⟩))) (hm : G b = some r) (ha : Sca P T) (hv : r.pre[o]? = some v) :
    Run P ⟨dst, .load T x, ty, ps, af, g⟩ a W v W := by
  obtain ⟨r', h1, h2⟩ := hg b r hm
  obtain ⟨q, hq⟩ := h2.pre
  exact r_loadr1 M F hx h1 ha (by rw [← hq, List.getElem?_append_left (List.getElem?_eq_some_iff.1 hv).1]; exact hv)
end
section
variable {P : Program} {Q : Exit → Act → World → Prop} {n : Nat} {l : Env} {a : Act} {W : World}
theorem c_true (F : Frm n l a) {c : Operand} {x y : Code} {b : Bool} (hc : ev l c = some (.bool b)) (hb : b = true) (h : x.wp P Q a W) : (Code.cond c x y).wp P Q a W := wp_cond_true (by rw [F.eval hc, hb]) h
theorem c_false (F : Frm n l a) {c : Operand} {x y : Code} {b : Bool} (hc : ev l c = some (.bool b)) (hb : b = false) (h : y.wp P Q a W) : (Code.cond c x y).wp P Q a W := wp_cond_false (by rw [F.eval hc, hb]) h
end
/-- A slice that reads as a list of things of k cells. -/
structure RdL {α : Type} (G : Ghost) (k : Nat) (enc : α → List Value) (s : Sl) (xs : List α) : Prop where
  rd : Rd G k s (xs.flatMap enc)
  len : s.len = xs.length
  one : ∀ x, (enc x).length = k
theorem RdL.mono {α : Type} {G G' : Ghost} {k : Nat} {enc : α → List Value} {s : Sl} {xs : List α} (h : RdL G k enc s xs) (hg : Gle G G') : RdL G' k enc s xs := ⟨h.rd.mono hg, h.len, h.one⟩
theorem flat_drop {α : Type} {enc : α → List Value} {k : Nat} (h : ∀ x, (enc x).length = k) : ∀ (xs : List α) (i : Nat), (xs.flatMap enc).drop (i * k) = (xs.drop i).flatMap enc
  | [], i => by simp
  | x :: xs, 0 => by simp
  | x :: xs, i + 1 => by
    rw [List.flatMap_cons, Nat.succ_mul, Nat.add_comm, ← List.drop_drop, ← h x, List.drop_left, h x, flat_drop h xs i]; rfl
theorem flat_take {α : Type} {enc : α → List Value} {k : Nat} (h : ∀ x, (enc x).length = k) : ∀ (xs : List α) (i : Nat), (xs.flatMap enc).take (i * k) = (xs.take i).flatMap enc
  | [], i => by simp
  | x :: xs, 0 => by simp
  | x :: xs, i + 1 => by
    rw [List.flatMap_cons, Nat.succ_mul, Nat.add_comm, ← h x, List.take_length_add_append, h x, flat_take h xs i]; rfl
theorem flat_len {α : Type} {enc : α → List Value} {k : Nat} (h : ∀ x, (enc x).length = k) : ∀ (xs : List α), (xs.flatMap enc).length = xs.length * k
  | [] => by simp
  | x :: xs => by rw [List.flatMap_cons, List.length_append, h x, flat_len h xs, List.length_cons, Nat.succ_mul]; omega
theorem flat_one {α : Type} {enc : α → List Value} (h : ∀ x, (enc x).all (·.oneCell') = true) : ∀ (xs : List α), (xs.flatMap enc).all (·.oneCell') = true
  | [] => rfl
  | x :: xs => by rw [List.flatMap_cons, List.all_append, h x, flat_one h xs]; rfl
theorem RdL.nil {α : Type} (G : Ghost) {k : Nat} {enc : α → List Value} (h : ∀ x, (enc x).length = k) : RdL G k enc Sl.nil [] := ⟨Rd.nil' G k, rfl, h⟩
theorem RdL.elem {α : Type} {G : Ghost} {k : Nat} {enc : α → List Value} {s : Sl} {xs : List α} (h : RdL G k enc s xs) {i : Nat} {x : α} (hi : xs[i]? = some x) : ∃ b o r, s.a = some ⟨b, o, none⟩ ∧ G b = some r ∧ Seg r.pre (o + i * k) k (enc x) := by
  have hlt : i < xs.length := (List.getElem?_eq_some_iff.1 hi).1
  obtain ⟨b, o, r, h1, h2, h3⟩ := h.rd.row (by rw [h.len]; omega)
  refine ⟨b, o, r, h1, h2, h3.sub (p := i * k) (j := k) (us := enc x) ⟨?_, h.one x⟩ (by rw [h.len, ← Nat.succ_mul]; exact Nat.mul_le_mul_right _ hlt)⟩
  rw [flat_drop h.one, List.drop_eq_getElem_cons hlt, List.flatMap_cons]
  have hx : xs[i] = x := by rw [List.getElem?_eq_getElem hlt] at hi; injection hi
  rw [hx, List.take_left' (h.one x)]
theorem RdL.cut {α : Type} {G : Ghost} {k : Nat} {enc : α → List Value} {s : Sl} {xs : List α} (h : RdL G k enc s xs) {i j : Nat} (hij : i ≤ j) (hj : j ≤ xs.length) : RdL G k enc (s.cut k i j) ((xs.drop i).take (j - i)) := by
  refine ⟨?_, ?_, h.one⟩
  · have := h.rd.cut hij (by rw [h.len]; exact hj)
    rwa [flat_drop h.one, flat_take h.one] at this
  · simp only [Sl.cut, List.length_take, List.length_drop]; omega
theorem St.gle {B : List Nat} {w W : World} {m : List Box} {G0 G : Ghost} (_ : St B w G0 W m G) : Gle G G := Gle.refl G
theorem not_of {b c : Bool} (h : b = c) : (!b) = !c := by rw [h]
theorem ble_of {i j : Nat} (h : i ≤ j) : Nat.ble i j = true := Nat.ble_eq_true_of_le h
section
variable {P : Program} {ops : Array Oper} {Q : Exit → Act → World → Prop} {md : Region.Mode} {S : World → Prop} {T : List Nat} {rest : List Oper} {n : Nat} {l : Env} {a : Act} {W : World}
theorem wanted_undef (F : Frm n l a) {o : Oper} {j t : Nat} {want : Bool} (hg : o.guard = some (j, want)) (hj : (ops[j]?).bind (·.dst) = some t) (hl : look l t = some undef) :
    Region.wanted o (yielded ops a.tmps) = false := by
  have := F.get t _ hl
  simp only [Region.wanted, hg, yielded, hj, Option.bind_some, this]
  cases want <;> rfl
/-- Passed over since its guard was passed over. -/
theorem l_skipu (F : Frm n l a) {o : Oper} {j t d : Nat} {want : Bool} (hg : o.guard = some (j, want)) (hj : (ops[j]?).bind (·.dst) = some t) (hl : look l t = some undef)
    (hd : o.dst = some d) (hn : Nat.blt d n = true) (h : ∀ a', Frm n ((d, undef) :: l) a' → wpList P ops Q rest a' W) : wpList P ops Q (o :: rest) a W := by
  unfold wpList
  rw [wanted_undef F hg hj hl, if_neg (by simp), hd]
  exact h _ (F.put hn _)
theorem t_skipu {f : Nat} {ls : Array Bool} {i d : Nat} {op : Op} {ty : TypeId} {ps : String} {af : Array Edge} (F : Frm n l a) {j t : Nat} {want : Bool} (hi : ops[i]? = some ⟨some d, op, ty, ps, af, some (j, want)⟩) (hj : (ops[j]?).bind (·.dst) = some t) (hl : look l t = some undef) (hd : Nat.blt d n = true) (hS : S W)
    (hQ : ∀ c a w, Q (.panic c) (a.put (some d) undef) w → Q (.panic c) a w) (hs : Region.noSelect ops = true) (hf : Region.free md ops ls i = true) (hr : (Region.ready md ops ls).contains i = true) (hw : waits md ops ls i T = true)
    (k : ∀ a', Frm n ((d, undef) :: l) a' → AnyT P md ops Q S T f (ls.setIfInBounds i true) a' W) : AnyT P md ops Q S T (f + 1) ls a W :=
  anyT_first hi (Region.noSelect_spec hs) hQ f ls a W (Region.free_spec hi hf) (fun _ h1 h2 h3 => waits_spec hw h1 h2 h3) (by simpa using hr) (.inr ⟨wanted_undef F rfl hj hl, rfl⟩) hS (k _ (F.put hd _))
end
end Go.Proofs.YtfkmaepcjognkaaDoor.Pad
