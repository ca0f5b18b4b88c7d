/- A small library for walking the operations of a function: frames as lists of known slots, own boxes, rows that only grow, one lemma an operation. No condition. -/
import Derived.Tactics
import Derived.Below
import Derived.Deep.LoopGhost
import Derived.OrdersHeld
import Derived.KernelRfl
import Derived.Laws.AppendOwn
import Derived.Laws.StructEq
import Derived.Laws.Small
namespace Go.Proofs.YtfkmaepcjognkaaDoor.Pad
open Go

/-! ### frames -/
abbrev Env := List (Nat × Value)
def look : Env → Nat → Option Value
  | [], _ => none
  | (j, v) :: l, i => match Nat.beq j i with
    | true => some v
    | false => look l i
def ev (l : Env) : Operand → Option Value
  | .tmp i => look l i
  | .const v => some v
  | .func f => some (.func (.func f) #[] #[])
  | .global g => some (.pointer (some ⟨g, 0, none⟩))
def evs (l : Env) : List Operand → Option (List Value)
  | [] => some []
  | x :: xs => match ev l x with
    | none => none
    | some v => match evs l xs with
      | none => none
      | some vs => some (v :: vs)
structure Frm (n : Nat) (l : Env) (a : Act) : Prop where
  size : a.tmps.size = n
  defers : a.defers = []
  get : ∀ i v, look l i = some v → a.tmps[i]? = some v

theorem look_put {l : Env} {d i : Nat} {v u : Value} (h : look ((d, v) :: l) i = some u) : (d = i ∧ v = u) ∨ (d ≠ i ∧ look l i = some u) := by
  unfold look at h
  cases hb : Nat.beq d i with
  | true => rw [hb] at h; exact .inl ⟨Nat.eq_of_beq_eq_true hb, by injection h⟩
  | false => rw [hb] at h; exact .inr ⟨Nat.ne_of_beq_eq_false hb, h⟩

section
variable {n : Nat} {l : Env} {a : Act}
theorem Frm.put (F : Frm n l a) {d : Nat} (hd : Nat.blt d n = true) (v : Value) : Frm n ((d, v) :: l) (a.put (some d) v) := by
  refine ⟨by simp [Act.put, F.size], F.defers, fun i u h => ?_⟩
  have hd' : d < n := Nat.le_of_ble_eq_true hd
  rcases look_put h with ⟨rfl, rfl⟩ | ⟨hne, h'⟩
  · simp [Act.put, F.size, hd']
  · simp only [Act.put]; rw [Array.getElem?_setIfInBounds_ne hne]; exact F.get i u h'
theorem Frm.put_none (F : Frm n l a) (v : Value) : Frm n l (a.put none v) := F
theorem Frm.sub (F : Frm n l a) {l' : Env} (h : ∀ i v, look l' i = some v → look l i = some v) : Frm n l' a := ⟨F.size, F.defers, fun i v hi => F.get i v (h i v hi)⟩
theorem Frm.nil (F : Frm n l a) : Frm n [] a := F.sub (fun i v h => by cases h)
/-- One slot kept (the list is built from the right). -/
theorem Frm.cons (F : Frm n l a) {l' : Env} (F' : Frm n l' a) (i : Nat) {v : Value} (h : look l i = some v) : Frm n ((i, v) :: l') a :=
  ⟨F.size, F.defers, fun j u hj => by
    rcases look_put hj with ⟨rfl, rfl⟩ | ⟨_, hj'⟩
    · exact F.get _ _ h
    · exact F'.get j u hj'⟩
theorem Frm.getD (F : Frm n l a) {i : Nat} {v : Value} (h : look l i = some v) : a.tmps.getD i undef = v := by
  have := F.get i v h
  rw [Array.getD_eq_getD_getElem?, this]; rfl
theorem Frm.eval (F : Frm n l a) {x : Operand} {v : Value} (h : ev l x = some v) : a.eval x = v := by
  cases x with
  | tmp i => exact F.getD h
  | const u => simp only [ev, Option.some.injEq] at h; exact h
  | func f => simp only [ev, Option.some.injEq] at h; exact h
  | global g => simp only [ev, Option.some.injEq] at h; exact h
theorem Frm.evals (F : Frm n l a) : ∀ {xs : List Operand} {vs : List Value}, evs l xs = some vs → xs.map a.eval = vs
  | [], vs, h => by simp only [evs, Option.some.injEq] at h; simpa using h
  | x :: xs, vs, h => by
    simp only [evs] at h
    split at h
    · cases h
    · rename_i v hv
      split at h
      · cases h
      · rename_i us hus
        injection h with h; subst h
        rw [List.map_cons, F.eval hv, F.evals hus]
/-- The frame that a call begins with: its arguments in the first slots. -/
def args : Nat → List Value → Env
  | _, [] => []
  | k, v :: vs => (k, v) :: args (k + 1) vs
theorem look_args : ∀ (vs : List Value) (k i : Nat) (v : Value), look (args k vs) i = some v → k ≤ i ∧ vs[i - k]? = some v
  | [], _, _, _, h => by cases h
  | u :: us, k, i, v, h => by
    rcases look_put h with ⟨rfl, rfl⟩ | ⟨hne, h'⟩
    · simp
    · obtain ⟨h1, h2⟩ := look_args us (k + 1) i v h'
      refine ⟨by omega, ?_⟩
      rw [show i - k = (i - (k + 1)) + 1 by omega, List.getElem?_cons_succ]; exact h2
theorem Frm.enter (vs : List Value) (n : Nat) (h : Nat.ble vs.length n = true) : Frm n (args 0 vs) { tmps := vs.toArray ++ Array.replicate (n - vs.toArray.size) undef, defers := [] } := by
  have h' := Nat.le_of_ble_eq_true h
  refine ⟨by simp; omega, rfl, fun i v hi => ?_⟩
  obtain ⟨_, h2⟩ := look_args vs 0 i v hi
  simp only [Nat.sub_zero] at h2
  have hl : i < vs.length := (List.getElem?_eq_some_iff.1 h2).1
  rw [Array.getElem?_append_left (by simpa using hl)]
  simpa using h2
end

/-! ### rows that only grow; own boxes -/
structure Row where
  ty : TypeId
  fz : Nat × Nat
  size : Nat
  pre : List Value
abbrev Ghost := Nat → Option Row
structure Row.le (r r' : Row) : Prop where
  ty : r'.ty = r.ty
  fz : r'.fz = r.fz
  size : r'.size = r.size
  pre : r.pre <+: r'.pre
theorem Row.le_refl (r : Row) : r.le r := ⟨rfl, rfl, rfl, List.prefix_refl _⟩
theorem Row.le_trans {a b c : Row} (h : a.le b) (k : b.le c) : a.le c := ⟨k.ty.trans h.ty, k.fz.trans h.fz, k.size.trans h.size, h.pre.trans k.pre⟩
def Gle (G G' : Ghost) : Prop := ∀ k r, G k = some r → ∃ r', G' k = some r' ∧ r.le r'
theorem Gle.refl (G : Ghost) : Gle G G := fun _ r h => ⟨r, h, r.le_refl⟩
theorem Gle.trans {A B C : Ghost} (h : Gle A B) (k : Gle B C) : Gle A C := fun i r hr =>
  let ⟨r1, h1, l1⟩ := h i r hr
  let ⟨r2, h2, l2⟩ := k i r1 h1
  ⟨r2, h2, Row.le_trans l1 l2⟩
def Imm (G : Ghost) (W : World) : Prop := ∀ k r, G k = some r → ∃ c, W.heap[k]? = some (.cells c r.ty r.fz) ∧ c.size = r.size ∧ r.pre <+: c.toList
theorem Imm.lt {G : Ghost} {W : World} (h : Imm G W) {k : Nat} {r : Row} (hk : G k = some r) : k < W.heap.size :=
  let ⟨_, h1, _⟩ := h k r hk
  (Array.getElem?_eq_some_iff.1 h1).1
theorem Imm.fresh {G : Ghost} {W : World} (h : Imm G W) {k : Nat} (hk : W.heap.size ≤ k) : G k = none := by
  cases hg : G k with
  | none => rfl
  | some r => exact absurd (h.lt hg) (by omega)

/-- What was there when the call began is as it was, but for the blocks in B. -/
structure Fr (B : List Nat) (w W : World) : Prop where
  os : W.os = w.os
  tape : W.tape = w.tape
  output : W.output = w.output
  size : w.heap.size ≤ W.heap.size
  block : ∀ k, k < w.heap.size → k ∉ B → W.heap[k]? = w.heap[k]?
theorem Fr.refl (B : List Nat) (w : World) : Fr B w w := ⟨rfl, rfl, rfl, Nat.le_refl _, fun _ _ _ => rfl⟩
theorem Fr.trans {B : List Nat} {a b c : World} (h : Fr B a b) (k : Fr B b c) : Fr B a c :=
  ⟨k.os.trans h.os, k.tape.trans h.tape, k.output.trans h.output, Nat.le_trans h.size k.size,
   fun i hi hb => (k.block i (Nat.lt_of_lt_of_le hi h.size) hb).trans (h.block i hi hb)⟩
theorem Fr.below {w W : World} (h : Fr [] w W) : RowKit.Below w.heap.size w W := ⟨h.os, h.tape, h.output, h.size, fun k hk => h.block k hk (by simp)⟩
theorem Fr.drew {B : List Nat} {w W : World} (h : Fr B w W) : Fr B w W.drew := ⟨h.os, h.tape, h.output, h.size, h.block⟩
theorem Fr.wide {B C : List Nat} {w W : World} (h : Fr B w W) (hs : ∀ k, k ∈ B → k ∈ C) : Fr C w W := ⟨h.os, h.tape, h.output, h.size, fun k hk hn => h.block k hk (fun hb => hn (hs k hb))⟩

structure Box where
  id : Nat
  ty : TypeId
  cs : List Value
structure St (B : List Nat) (w : World) (G0 : Ghost) (W : World) (m : List Box) (G : Ghost) : Prop where
  fr : Fr B w W
  gl : Gle G0 G
  go : ∀ k, k < w.heap.size → k ∉ B → G k = G0 k
  imm : Imm G W
  own : ∀ x, x ∈ m → W.heap[x.id]? = some (.cells x.cs.toArray x.ty (0, 0)) ∧ (w.heap.size ≤ x.id ∨ x.id ∈ B) ∧ G x.id = none
  nd : (m.map Box.id).Nodup

section
variable {B : List Nat} {w W : World} {m : List Box} {G0 G : Ghost}
theorem St.start (G : Ghost) (w : World) (h : Imm G w) (B : List Nat) : St B w G w [] G := ⟨Fr.refl B w, Gle.refl G, fun _ _ _ => rfl, h, fun _ hx => (by cases hx), List.nodup_nil⟩
theorem St.lt (M : St B w G0 W m G) {x : Box} (hx : x ∈ m) : x.id < W.heap.size := (Array.getElem?_eq_some_iff.1 (M.own x hx).1).1
theorem heap_drew' (W : World) : W.drew.heap = W.heap := rfl
theorem Imm.same {G : Ghost} {W W' : World} (h : Imm G W) (hs : ∀ k, k < W.heap.size → G k ≠ none → W'.heap[k]? = W.heap[k]?) : Imm G W' := fun k r hk => by
  obtain ⟨c, h1, h2⟩ := h k r hk
  exact ⟨c, by rw [hs k (h.lt hk) (by rw [hk]; simp)]; exact h1, h2⟩
theorem St.drew (M : St B w G0 W m G) : St B w G0 W.drew m G := ⟨M.fr.drew, M.gl, M.go, M.imm, M.own, M.nd⟩
/-- A new block. -/
theorem St.alloc (M : St B w G0 W m G) (cs : List Value) (ty : TypeId) : St B w G0 (W.alloc (.cells cs.toArray ty (0, 0))) (⟨W.heap.size, ty, cs⟩ :: m) G := by
  have old : ∀ k, k < W.heap.size → (W.alloc (.cells cs.toArray ty (0, 0))).heap[k]? = W.heap[k]? := fun k hk => RowKit.Below.heap_alloc _ _ _ hk
  refine ⟨M.fr.trans ⟨rfl, rfl, rfl, by simp, fun k hk _ => old k hk⟩, M.gl, M.go, M.imm.same (fun k hk _ => old k hk), ?_, ?_⟩
  · intro x hx
    rcases List.mem_cons.1 hx with rfl | hx
    · exact ⟨heap_alloc_new W _, .inl M.fr.size, M.imm.fresh (Nat.le_refl _)⟩
    · obtain ⟨h1, h2, h3⟩ := M.own x hx
      exact ⟨by rw [old _ (M.lt hx)]; exact h1, h2, h3⟩
  · rw [List.map_cons, List.nodup_cons]
    refine ⟨fun h => ?_, M.nd⟩
    obtain ⟨x, hx, he⟩ := List.mem_map.1 h
    have := M.lt hx
    simp only at he
    omega
/-- Boxes let go. -/
theorem St.drop (M : St B w G0 W m G) {m' : List Box} (h : m'.Sublist m) : St B w G0 W m' G :=
  ⟨M.fr, M.gl, M.go, M.imm, fun x hx => M.own x (h.subset hx), M.nd.sublist (h.map _)⟩
end

/-- One box is another now. -/
inductive Upd : List Box → Nat → TypeId → List Value → List Value → List Box → Prop
  | here (b : Nat) (t : TypeId) (cs cs' : List Value) (m : List Box) : Upd (⟨b, t, cs⟩ :: m) b t cs cs' (⟨b, t, cs'⟩ :: m)
  | there (x : Box) {m m' : List Box} {b : Nat} {t : TypeId} {cs cs' : List Value} (h : Upd m b t cs cs' m') : Upd (x :: m) b t cs cs' (x :: m')
theorem Upd.mem {m m' : List Box} {b : Nat} {t : TypeId} {cs cs' : List Value} (h : Upd m b t cs cs' m') : ⟨b, t, cs⟩ ∈ m := by
  induction h with
  | here => exact List.mem_cons_self
  | there x h ih => exact List.mem_cons_of_mem _ ih
theorem Upd.ids {m m' : List Box} {b : Nat} {t : TypeId} {cs cs' : List Value} (h : Upd m b t cs cs' m') : m'.map Box.id = m.map Box.id := by
  induction h with
  | here => rfl
  | there x h ih => simp [ih]
theorem Upd.mem' {m m' : List Box} {b : Nat} {t : TypeId} {cs cs' : List Value} (h : Upd m b t cs cs' m') (hn : (m.map Box.id).Nodup) {x : Box} (hx : x ∈ m') : x = ⟨b, t, cs'⟩ ∨ (x ∈ m ∧ x.id ≠ b) := by
  induction h with
  | here b t cs cs' m =>
    rcases List.mem_cons.1 hx with rfl | hx
    · exact .inl rfl
    · refine .inr ⟨List.mem_cons_of_mem _ hx, fun he => ?_⟩
      rw [List.map_cons, List.nodup_cons] at hn
      exact hn.1 (List.mem_map.2 ⟨x, hx, he⟩)
  | there y h ih =>
    rw [List.map_cons, List.nodup_cons] at hn
    rcases List.mem_cons.1 hx with rfl | hx
    · exact .inr ⟨List.mem_cons_self, fun he => hn.1 (List.mem_map.2 ⟨_, h.mem, he.symm⟩)⟩
    · rcases ih hn.2 hx with h1 | ⟨h1, h2⟩
      · exact .inl h1
      · exact .inr ⟨List.mem_cons_of_mem _ h1, h2⟩
theorem setRow_block (W : World) (g k : Nat) (old cs : Array Value) (t : TypeId) (fr : Nat × Nat) (hg : W.heap[g]? = some (.cells old t fr)) : (W.setRow g cs).heap[k]? = if k = g then some (.cells cs t fr) else W.heap[k]? := by
  split
  · rename_i h; subst h; exact setRow_heap W k old cs t fr hg
  · rename_i h; exact setRow_other W g k cs h
theorem St.set {B : List Nat} {w W : World} {m m' : List Box} {G0 G : Ghost} {b : Nat} {t : TypeId} {cs cs' : List Value} (M : St B w G0 W m G) (u : Upd m b t cs cs' m') : St B w G0 (W.setRow b cs'.toArray) m' G := by
  obtain ⟨h1, h2, h3⟩ := M.own _ u.mem
  have hb := fun k => setRow_block W b k cs.toArray cs'.toArray t (0, 0) h1
  refine ⟨⟨M.fr.os, M.fr.tape, M.fr.output, by simpa using M.fr.size, fun k hk hn => ?_⟩, M.gl, M.go, M.imm.same (fun k hk hg => ?_), fun x hx => ?_, by rw [u.ids]; exact M.nd⟩
  · rw [hb, if_neg]
    · exact M.fr.block k hk hn
    · rintro rfl
      rcases h2 with h2 | h2
      · simp only at h2; omega
      · exact hn h2
  · rw [hb, if_neg]
    rintro rfl
    exact hg h3
  · rcases u.mem' M.nd hx with rfl | ⟨hm, hne⟩
    · exact ⟨by rw [hb, if_pos rfl], h2, h3⟩
    · obtain ⟨k1, k2, k3⟩ := M.own x hm
      exact ⟨by rw [hb, if_neg hne]; exact k1, k2, k3⟩

/-! ### the form of a region's list: one step -/
section
variable {P : Program} {ops : Array Oper} {Q : Exit → Act → World → Prop} {K : Act → World → Prop} {rest : List Oper} {n : Nat} {l : Env} {a : Act} {W : World} {o : Oper}
theorem l_step (hg : o.guard = none) (h : o.wp P a W (wpList P ops Q rest) Q) : wpList P ops Q (o :: rest) a W :=
  wpList_plain hg fun _ hK => Oper.wp_mono hK h
theorem wanted_of (F : Frm n l a) {j t : Nat} {want b : Bool} (hg : o.guard = some (j, want)) (hj : (ops[j]?).bind (·.dst) = some t) (hl : look l t = some (.bool b)) :
    Region.wanted o (yielded ops a.tmps) = (b == want) := by
  have := F.get t _ hl
  simp only [Region.wanted, hg, yielded, hj, Option.bind_some, this]
  cases b <;> cases want <;> rfl
/-- A guarded operation that is carried out. -/
theorem l_guard (F : Frm n l a) {j t : Nat} {want b : Bool} (hg : o.guard = some (j, want)) (hj : (ops[j]?).bind (·.dst) = some t) (hl : look l t = some (.bool b)) (hb : b = want)
    (h : o.wp P a W (wpList P ops Q rest) Q) : wpList P ops Q (o :: rest) a W := by
  unfold wpList
  rw [wanted_of F hg hj hl, hb, if_pos (by simp)]
  exact .inl h
/-- A guarded operation that is passed over. -/
theorem l_skip (F : Frm n l a) {j t d : Nat} {want b : Bool} (hg : o.guard = some (j, want)) (hj : (ops[j]?).bind (·.dst) = some t) (hl : look l t = some (.bool b)) (hb : b = !want)
    (hd : o.dst = some d) (hn : Nat.blt d n = true) (h : ∀ a', Frm n ((d, undef) :: l) a' → wpList P ops Q rest a' W) : wpList P ops Q (o :: rest) a W := by
  unfold wpList
  rw [wanted_of F hg hj hl, hb, if_neg (by cases want <;> simp), hd]
  exact h _ (F.put hn _)
/-- Passed over, nothing kept of it. -/
theorem l_skip0 (F : Frm n l a) {j t : Nat} {want b : Bool} (hg : o.guard = some (j, want)) (hj : (ops[j]?).bind (·.dst) = some t) (hl : look l t = some (.bool b)) (hb : b = !want)
    (hd : ∀ i v, look l i = some v → o.dst ≠ some i) (h : ∀ a', Frm n l a' → wpList P ops Q rest a' W) : wpList P ops Q (o :: rest) a W := by
  unfold wpList
  rw [wanted_of F hg hj hl, hb, if_neg (by cases want <;> simp)]
  refine h _ ⟨?_, ?_, fun i v hi => ?_⟩
  · cases o.dst <;> simp [Act.put, F.size]
  · cases o.dst <;> exact F.defers
  · have hne := hd i v hi
    cases hdst : o.dst with
    | none => exact F.get i v hi
    | some d =>
      simp only [Act.put]
      rw [Array.getElem?_setIfInBounds_ne (by rintro rfl; exact hne hdst)]
      exact F.get i v hi
theorem l_nil (h : Q .normal a W) : wpList P ops Q [] a W := h
end

/-- An operation that yields a value. -/
def Run (P : Program) (o : Oper) (a : Act) (W : World) (v : Value) (W' : World) : Prop := (execOp a.eval o).run P W = .ok (.value v) W'
def Run0 (P : Program) (o : Oper) (a : Act) (W : World) (W' : World) : Prop := (execOp a.eval o).run P W = .ok .skip W'
section
variable {P : Program} {Q : Exit → Act → World → Prop} {K : Act → World → Prop} {n : Nat} {l : Env} {a : Act} {W W' : World} {d : Nat} {op : Op} {ty : TypeId} {ps : String} {af : Array Edge} {g : Option (Nat × Bool)} {v : Value}
theorem o_val (F : Frm n l a) (h : Run P ⟨some d, op, ty, ps, af, g⟩ a W v W') (hd : Nat.blt d n = true) (k : ∀ a', Frm n ((d, v) :: l) a' → K a' W') : Oper.wp P ⟨some d, op, ty, ps, af, g⟩ a W K Q := by
  unfold Oper.wp; unfold Run at h; rw [h]; exact k _ (F.put hd v)
theorem o_none (F : Frm n l a) (h : Run0 P ⟨none, op, ty, ps, af, g⟩ a W W') (k : ∀ a', Frm n l a' → K a' W') : Oper.wp P ⟨none, op, ty, ps, af, g⟩ a W K Q := by
  unfold Oper.wp; unfold Run0 at h; rw [h]; exact k _ F
end

/-! ### operations that do not touch memory -/
section
variable {P : Program} {n : Nat} {l : Env} {a : Act} {W : World} {dst : Option Nat} {ty : TypeId} {ps : String} {af : Array Edge} {g : Option (Nat × Bool)} {v : Value}
theorem r_move (F : Frm n l a) {x : Operand} (hx : ev l x = some v) : Run P ⟨dst, .move x, ty, ps, af, g⟩ a W v W := by
  simp [Run, execOp, F.eval hx]
theorem r_assign (F : Frm n l a) {x : Operand} (hx : ev l x = some v) : Run P ⟨dst, .assign x, ty, ps, af, g⟩ a W v W := by
  simp [Run, execOp, F.eval hx]
theorem r_pick (F : Frm n l a) {c x y : Operand} {b : Bool} (hc : ev l c = some (.bool b)) (hv : (if b then ev l x else ev l y) = some v) : Run P ⟨dst, .pick c x y, ty, ps, af, g⟩ a W v W := by
  cases b
  · have hy : ev l y = some v := by simpa using hv
    simp [Run, execOp, F.eval hc, F.eval hy, asBool]
  · have hx : ev l x = some v := by simpa using hv
    simp [Run, execOp, F.eval hc, F.eval hx, asBool]
theorem r_pick_t (F : Frm n l a) {c x y : Operand} {b : Bool} (hc : ev l c = some (.bool b)) (hb : b = true) (hv : ev l x = some v) : Run P ⟨dst, .pick c x y, ty, ps, af, g⟩ a W v W :=
  r_pick F hc (by rw [hb]; exact hv)
theorem r_pick_f (F : Frm n l a) {c x y : Operand} {b : Bool} (hc : ev l c = some (.bool b)) (hb : b = false) (hv : ev l y = some v) : Run P ⟨dst, .pick c x y, ty, ps, af, g⟩ a W v W :=
  r_pick F hc (by rw [hb]; exact hv)
theorem r_not (F : Frm n l a) {x : Operand} {b : Bool} (hx : ev l x = some (.bool b)) {t : TypeId} : Run P ⟨dst, .unOp .not t x, ty, ps, af, g⟩ a W (.bool !b) W := by
  simp [Run, execOp, F.eval hx, Op.unary]
theorem r_extract (F : Frm n l a) {x : Operand} {vs : List Value} {i : Nat} (hx : ev l x = some (.tuple vs.toArray)) (hv : vs[i]? = some v) : Run P ⟨dst, .extract x i, ty, ps, af, g⟩ a W v W := by
  simp [Run, execOp, F.eval hx, Instr.extract, hv]
theorem r_nilCheck (F : Frm n l a) {x : Operand} {p : Addr} (hx : ev l x = some (.pointer (some p))) : Run P ⟨dst, .nilCheck x, ty, ps, af, g⟩ a W (.pointer (some p)) W := by
  simp [Run, execOp, F.eval hx]
theorem r_len_slice (F : Frm n l a) {x : Operand} {A : Option Addr} {k c : Nat} {t E : TypeId} (hu : P.underlying t = some (.slice E)) (hx : ev l x = some (.slice A k c)) : Run P ⟨dst, .call { callee := .builtin .len, args := #[x], argTypes := #[t] }, ty, ps, af, g⟩ a W (.int .i64 (k : Int)) W := by
  simp [Run, execOp, resolve, invoke, builtin, F.eval hx, Builtin.len_, goInt, run_underlying hu]
theorem r_len_string (F : Frm n l a) {x : Operand} {s : ByteArray} {t : TypeId} (hu : P.underlying t = some .string) (hx : ev l x = some (.string s)) : Run P ⟨dst, .call { callee := .builtin .len, args := #[x], argTypes := #[t] }, ty, ps, af, g⟩ a W (.int .i64 (s.size : Int)) W := by
  simp [Run, execOp, resolve, invoke, builtin, F.eval hx, Builtin.len_, goInt, run_underlying hu]
end

/-! ### what the walk asks of a type -/
def isAggD : TypeDesc → Bool
  | .struct _ | .array _ _ => true
  | _ => false
structure Agg (P : Program) (T : TypeId) (k : Nat) : Prop where
  und : ∃ d, P.underlying T = some d ∧ isAggD d = true
  size : (P.info? T).map (·.size) = some k
structure Sca (P : Program) (T : TypeId) : Prop where
  und : ∃ d, P.underlying T = some d ∧ isAggD d = false
  size : (P.info? T).map (·.size) = some 1
/-- Field i of struct T: where it begins; that it has cells. -/
structure Fld (P : Program) (T : TypeId) (i k : Nat) (E : TypeId) : Prop where
  und : ∃ fs f, P.underlying T = some (.struct fs) ∧ fs[i]? = some f ∧ f.offset = k ∧ f.type = E
  size : ∃ z, (P.info? E).map (·.size) = some z ∧ z ≠ 0
structure Arr (P : Program) (T : TypeId) (n : Nat) (E : TypeId) (k : Nat) : Prop where
  und : P.underlying T = some (.array n E)
  size : (P.info? E).map (·.size) = some k
structure Slc (P : Program) (T : TypeId) (E : TypeId) (k : Nat) : Prop where
  und : P.underlying T = some (.slice E)
  size : (P.info? E).map (·.size) = some k
  pos : 0 < k
structure Zer (P : Program) (T : TypeId) (z : Value) : Prop where
  zero : (P.info? T).bind (·.zero) = some z
section
variable {P : Program} {T E : TypeId} {k i n : Nat} {W : World}
theorem info_of_size {z : Nat} (h : (P.info? T).map (·.size) = some z) : ∃ i, P.info? T = some i ∧ i.size = z := by
  cases hq : P.info? T with
  | none => rw [hq] at h; cases h
  | some i => rw [hq] at h; exact ⟨i, rfl, by injection h⟩
theorem run_size {z : Nat} (h : (P.info? T).map (·.size) = some z) : (sizeOf T).run P W = .ok z W := by
  obtain ⟨i, h1, h2⟩ := info_of_size h
  simp [sizeOf, typeInfo, h1, h2]
theorem run_isAgg {d : TypeDesc} (h : P.underlying T = some d) : (isAgg T).run P W = .ok (isAggD d) W := by
  unfold isAgg
  rw [Sem.run_bind, run_underlying h W]
  cases d <;> rfl
theorem run_zero {z : Value} (h : Zer P T z) : (zeroValue T).run P W = .ok z W := by
  have := h.zero
  cases hq : P.info? T with
  | none => rw [hq] at this; cases this
  | some i => rw [hq] at this; simp only [Option.bind_some] at this; simp [zeroValue, typeInfo, hq, this]
end
/-- A part of a row of cells. -/
structure Seg (cs : List Value) (o k : Nat) (vs : List Value) : Prop where
  eq : (cs.drop o).take k = vs
  len : vs.length = k
theorem Seg.get {cs vs : List Value} {o k : Nat} (h : Seg cs o k vs) {j : Nat} {v : Value} (hj : vs[j]? = some v) : cs[o + j]? = some v := by
  rw [← h.eq, List.getElem?_take] at hj
  split at hj
  · rwa [List.getElem?_drop] at hj
  · cases hj
theorem Seg.fits {cs vs : List Value} {o k : Nat} (h : Seg cs o k vs) (hk : 0 < k) : o + k ≤ cs.length := by
  have h1 := h.len
  rw [← h.eq, List.length_take, List.length_drop] at h1
  omega
theorem Seg.pre {cs ds vs : List Value} {o k : Nat} (h : Seg cs o k vs) (hp : cs <+: ds) : Seg ds o k vs := by
  obtain ⟨r, rfl⟩ := hp
  rcases Nat.eq_zero_or_pos k with rfl | hk
  · refine ⟨?_, h.len⟩
    have := h.eq
    simp at this ⊢; exact this
  · have hf := h.fits hk
    refine ⟨?_, h.len⟩
    rw [List.drop_append_of_le_length (by omega), List.take_append_of_le_length (by rw [List.length_drop]; omega)]
    exact h.eq
theorem Seg.sub {cs vs us : List Value} {o k p j : Nat} (h : Seg cs o k vs) (h' : Seg vs p j us) (hj : p + j ≤ k) : Seg cs (o + p) j us := by
  refine ⟨?_, h'.len⟩
  rw [← h'.eq, ← h.eq, List.drop_take, List.take_take, List.drop_drop]
  congr 1
  omega
theorem addr_add (b o j : Nat) : (⟨b, o, none⟩ : Addr).add j = ⟨b, o + j, none⟩ := by unfold Addr.add; split <;> simp_all
/-- A load out of a block. -/
theorem run_load_seg {P : Program} {W : World} {T : TypeId} {b o k : Nat} {t : TypeId} {c : Array Value} {fz : Nat × Nat} {vs : List Value} (ha : Agg P T k) (hb : W.heap[b]? = some (.cells c t fz)) (hv : Seg c.toList o k vs) :
    (loadVar T ⟨b, o, none⟩).run P W = .ok (.agg vs.toArray) W := by
  obtain ⟨d, hd, hd'⟩ := ha.und
  have hl : (loadCells ⟨b, o, none⟩ vs.length).run P W = .ok vs.toArray W := run_loadCells_list (P := P) W ⟨b, o, none⟩ vs (fun j v hj => by
    rw [addr_add, cell_of_row W b (o + j) c t fz hb]
    simpa using hv.get hj)
  rw [hv.len] at hl
  simp [loadVar, run_isAgg hd, hd', run_size ha.size, hl]
theorem run_load_one {P : Program} {W : World} {T : TypeId} {b o : Nat} {t : TypeId} {c : Array Value} {fz : Nat × Nat} {v : Value} (ha : Sca P T) (hb : W.heap[b]? = some (.cells c t fz)) (hv : c.toList[o]? = some v) :
    (loadVar T ⟨b, o, none⟩).run P W = .ok v W := by
  obtain ⟨d, hd, hd'⟩ := ha.und
  have hc : W.cell? ⟨b, o, none⟩ = some v := by rw [cell_of_row W b o c t fz hb]; simpa using hv
  simp [loadVar, run_isAgg hd, hd', load, Sem.run, hc]
section
variable {P : Program} {B : List Nat} {w W : World} {m : List Box} {G0 G : Ghost} {n : Nat} {l : Env} {a : Act} {dst : Option Nat} {ty : TypeId} {ps : String} {af : Array Edge} {g : Option (Nat × Bool)}
/-- A struct or an array out of an own box. -/
theorem r_load (M : St B w G0 W m G) (F : Frm n l a) {x : Operand} {b o : Nat} {t T : TypeId} {cs vs : List Value} {k : Nat} (hx : ev l x = some (.pointer (some ⟨b, o, none⟩))) (hm : ⟨b, t, cs⟩ ∈ m) (ha : Agg P T k) (hv : Seg cs o k vs) :
    Run P ⟨dst, .load T x, ty, ps, af, g⟩ a W (.agg vs.toArray) W := by
  have := run_load_seg ha (M.own _ hm).1 (by simpa using hv)
  simp [Run, execOp, F.eval hx, Instr.loadAt, Instr.sureAddr, this]
/-- One cell out of an own box. -/
theorem r_load1 (M : St B w G0 W m G) (F : Frm n l a) {x : Operand} {b o : Nat} {t T : TypeId} {cs : List Value} {v : Value} (hx : ev l x = some (.pointer (some ⟨b, o, none⟩))) (hm : ⟨b, t, cs⟩ ∈ m) (ha : Sca P T) (hv : cs[o]? = some v) :
    Run P ⟨dst, .load T x, ty, ps, af, g⟩ a W v W := by
  have := run_load_one ha (M.own _ hm).1 (by simpa using hv)
  simp [Run, execOp, F.eval hx, Instr.loadAt, Instr.sureAddr, this]
/-- A struct or an array out of a row. -/
theorem r_loadr (M : St B w G0 W m G) (F : Frm n l a) {x : Operand} {b o : Nat} {T : TypeId} {r : Row} {vs : List Value} {k : Nat} (hx : ev l x = some (.pointer (some ⟨b, o, none⟩))) (hm : G b = some r) (ha : Agg P T k) (hv : Seg r.pre o k vs) :
    Run P ⟨dst, .load T x, ty, ps, af, g⟩ a W (.agg vs.toArray) W := by
  obtain ⟨c, h1, h2, h3⟩ := M.imm b r hm
  have := run_load_seg ha h1 (hv.pre h3)
  simp [Run, execOp, F.eval hx, Instr.loadAt, Instr.sureAddr, this]
theorem r_loadr1 (M : St B w G0 W m G) (F : Frm n l a) {x : Operand} {b o : Nat} {T : TypeId} {r : Row} {v : Value} (hx : ev l x = some (.pointer (some ⟨b, o, none⟩))) (hm : G b = some r) (ha : Sca P T) (hv : r.pre[o]? = some v) :
    Run P ⟨dst, .load T x, ty, ps, af, g⟩ a W v W := by
  obtain ⟨c, h1, h2, ⟨q, h3⟩⟩ := M.imm b r hm
  have hlt : o < r.pre.length := (List.getElem?_eq_some_iff.1 hv).1
  have := run_load_one ha h1 (v := v) (by rw [← h3, List.getElem?_append_left hlt]; exact hv)
  simp [Run, execOp, F.eval hx, Instr.loadAt, Instr.sureAddr, this]
theorem r_fieldAddr (F : Frm n l a) {x : Operand} {b o i k : Nat} {T E : TypeId} (hx : ev l x = some (.pointer (some ⟨b, o, none⟩))) (hf : Fld P T i k E) :
    Run P ⟨dst, .fieldAddr T x i, ty, ps, af, g⟩ a W (.pointer (some ⟨b, o + k, none⟩)) W := by
  obtain ⟨fs, f, h1, h2, h3, h4⟩ := hf.und
  obtain ⟨z, hz, hz0⟩ := hf.size
  have h5 := run_size (W := W) (P := P) hz
  simp [Run, execOp, F.eval hx, Instr.fieldAt, Instr.sureAddr, run_underlying h1, h2, fieldPlace, h4, h5, hz0, h3, addr_add]
/-- A field out of a struct value. -/
theorem r_field (F : Frm n l a) {x : Operand} {i o k : Nat} {T E : TypeId} {cs vs : List Value} (hx : ev l x = some (.agg cs.toArray)) (hf : Fld P T i o E) (ha : Agg P E k) (hv : Seg cs o k vs) :
    Run P ⟨dst, .field T x i, ty, ps, af, g⟩ a W (.agg vs.toArray) W := by
  obtain ⟨fs, f, h1, h2, h3, h4⟩ := hf.und
  obtain ⟨d, hd, hd'⟩ := ha.und
  simp [Run, execOp, F.eval hx, Instr.field, run_underlying h1, h2, part, asAgg, h4, h3, run_isAgg hd, hd', run_size ha.size]
  exact hv.eq
theorem r_field1 (F : Frm n l a) {x : Operand} {i o : Nat} {T E : TypeId} {cs : List Value} {v : Value} (hx : ev l x = some (.agg cs.toArray)) (hf : Fld P T i o E) (ha : Sca P E) (hv : cs[o]? = some v) :
    Run P ⟨dst, .field T x i, ty, ps, af, g⟩ a W v W := by
  obtain ⟨fs, f, h1, h2, h3, h4⟩ := hf.und
  obtain ⟨d, hd, hd'⟩ := ha.und
  simp [Run, execOp, F.eval hx, Instr.field, run_underlying h1, h2, part, asAgg, h4, h3, run_isAgg hd, hd', hv]
/-- The address of an array's element. -/
theorem r_indexArr (F : Frm n l a) {x y : Operand} {b o N k : Nat} {T E : TypeId} {kd : IntKind} {i : Int} (hx : ev l x = some (.pointer (some ⟨b, o, none⟩))) (hy : ev l y = some (.int kd i)) (ha : Arr P T N E k) (h0 : 0 ≤ i) (h1 : i < N) :
    Run P ⟨dst, .indexAddr T x y, ty, ps, af, g⟩ a W (.pointer (some ⟨b, o + i.toNat * k, none⟩)) W := by
  simp [Run, execOp, F.eval hx, F.eval hy, Instr.indexAt, asIntOf, run_underlying ha.und, Instr.sureAddr, h0, h1, run_size ha.size, addr_add]
theorem r_index (F : Frm n l a) {x y : Operand} {N k : Nat} {T E : TypeId} {kd : IntKind} {i : Int} {cs vs : List Value} (hx : ev l x = some (.agg cs.toArray)) (hy : ev l y = some (.int kd i)) (ha : Arr P T N E k) (he : Agg P E k) (h0 : 0 ≤ i) (h1 : i < N) (hv : Seg cs (i.toNat * k) k vs) :
    Run P ⟨dst, .index T x y, ty, ps, af, g⟩ a W (.agg vs.toArray) W := by
  obtain ⟨d, hd, hd'⟩ := he.und
  simp [Run, execOp, F.eval hx, F.eval hy, Instr.index, asIntOf, run_underlying ha.und, h0, h1, run_size ha.size, part, run_isAgg hd, hd']
  exact hv.eq
theorem r_index1 (F : Frm n l a) {x y : Operand} {N : Nat} {T E : TypeId} {kd : IntKind} {i : Int} {cs : List Value} {v : Value} (hx : ev l x = some (.agg cs.toArray)) (hy : ev l y = some (.int kd i)) (ha : Arr P T N E 1) (he : Sca P E) (h0 : 0 ≤ i) (h1 : i < N) (hv : cs[i.toNat]? = some v) :
    Run P ⟨dst, .index T x y, ty, ps, af, g⟩ a W v W := by
  obtain ⟨d, hd, hd'⟩ := he.und
  simp [Run, execOp, F.eval hx, F.eval hy, Instr.index, asIntOf, run_underlying ha.und, h0, h1, run_size ha.size, part, run_isAgg hd, hd', hv]
end

/-! ### own boxes: made, written -/
theorem alloc_cells (W : World) (cs : List Value) (t : TypeId) : { W with heap := W.heap.push (.cells cs.toArray t) } = W.alloc (.cells cs.toArray t (0, 0)) := rfl
section
variable {P : Program} {Q : Exit → Act → World → Prop} {K : Act → World → Prop} {B : List Nat} {w W : World} {m : List Box} {G0 G : Ghost} {n : Nat} {l : Env} {a : Act} {d : Nat} {ty : TypeId} {ps : String} {af : Array Edge} {g : Option (Nat × Bool)}
theorem o_box (M : St B w G0 W m G) (F : Frm n l a) {x : Operand} {T : TypeId} {cs : List Value} (hx : ev l x = some (.agg cs.toArray)) (hd : Nat.blt d n = true)
    (k : ∀ a' W' b, St B w G0 W' (⟨b, T, cs⟩ :: m) G → Frm n ((d, .pointer (some ⟨b, 0, none⟩)) :: l) a' → K a' W') : Oper.wp P ⟨some d, .box T x, ty, ps, af, g⟩ a W K Q := by
  refine o_val F (v := .pointer (some ⟨W.heap.size, 0, none⟩)) (W' := W.alloc (.cells cs.toArray T (0, 0))) ?_ hd (fun a' F' => k a' _ _ (M.alloc cs T) F')
  simp [Run, execOp, F.eval hx, Instr.box, newVar, newRow, Value.cells]
/-- A box of one cell. -/
theorem o_box1 (M : St B w G0 W m G) (F : Frm n l a) {x : Operand} {T : TypeId} {v : Value} (hx : ev l x = some v) (h1 : v.oneCell' = true) (hd : Nat.blt d n = true)
    (k : ∀ a' W' b, St B w G0 W' (⟨b, T, [v]⟩ :: m) G → Frm n ((d, .pointer (some ⟨b, 0, none⟩)) :: l) a' → K a' W') : Oper.wp P ⟨some d, .box T x, ty, ps, af, g⟩ a W K Q := by
  refine o_val F (v := .pointer (some ⟨W.heap.size, 0, none⟩)) (W' := W.alloc (.cells [v].toArray T (0, 0))) ?_ hd (fun a' F' => k a' _ _ (M.alloc [v] T) F')
  have hc : v.cells = #[v] := by cases v <;> first | rfl | cases h1
  simp [Run, execOp, F.eval hx, Instr.box, newVar, newRow, hc]
theorem o_alloc (M : St B w G0 W m G) (F : Frm n l a) {T : TypeId} {cs : List Value} (hz : Zer P T (.agg cs.toArray)) (hd : Nat.blt d n = true)
    (k : ∀ a' W' b, St B w G0 W' (⟨b, T, cs⟩ :: m) G → Frm n ((d, .pointer (some ⟨b, 0, none⟩)) :: l) a' → K a' W') : Oper.wp P ⟨some d, .alloc T, ty, ps, af, g⟩ a W K Q := by
  refine o_val F (v := .pointer (some ⟨W.heap.size, 0, none⟩)) (W' := W.alloc (.cells cs.toArray T (0, 0))) ?_ hd (fun a' F' => k a' _ _ (M.alloc cs T) F')
  simp [Run, execOp, Instr.alloc, run_zero hz, newVar, newRow, Value.cells]
/-- cs with the cells from o on written over by vs. -/
def over (cs : List Value) (o : Nat) (vs : List Value) : List Value := cs.take o ++ vs ++ cs.drop (o + vs.length)
theorem o_store (M : St B w G0 W m G) (F : Frm n l a) {x y : Operand} {T : TypeId} {b o k : Nat} {t : TypeId} {cs cs' vs : List Value} {m' : List Box} (hx : ev l x = some (.pointer (some ⟨b, o, none⟩))) (hy : ev l y = some (.agg vs.toArray))
    (hT : (P.info? T).map (·.size) = some k) (hk : vs.length = k) (h1 : vs.all (·.oneCell') = true) (hf : Nat.ble (o + k) cs.length = true) (hp : over cs o vs = cs') (u : Upd m b t cs cs' m')
    (kk : ∀ a' W', St B w G0 W' m' G → Frm n l a' → K a' W') : Oper.wp P ⟨none, .store T x y, ty, ps, af, g⟩ a W K Q := by
  have hs := run_storeCells_at P b o t vs 0 cs.toArray W (M.own _ u.mem).1 (by simp only [List.size_toArray]; have := Nat.le_of_ble_eq_true hf; omega) (fun v hv => List.all_eq_true.1 h1 v hv)
  simp only [Nat.add_zero] at hs
  refine o_none F (W' := W.setRow b cs'.toArray) ?_ (fun a' F' => kk a' _ (M.set u) F')
  have hp' : cs.take o ++ (vs ++ cs.drop (o + vs.length)) = cs' := by rw [← hp]; simp [over]
  simp [Run0, execOp, F.eval hx, F.eval hy, Instr.storeAt, Instr.sureAddr, storeVar, Value.cells, run_size hT, hk]
  rw [hk] at hs hp'
  simp only [List.append_assoc, hp'] at hs
  simp [hs]
theorem o_store1 (M : St B w G0 W m G) (F : Frm n l a) {x y : Operand} {T : TypeId} {b o : Nat} {t : TypeId} {cs cs' : List Value} {v : Value} {m' : List Box} (hx : ev l x = some (.pointer (some ⟨b, o, none⟩))) (hy : ev l y = some v)
    (hT : Sca P T) (h1 : v.oneCell' = true) (hf : Nat.blt o cs.length = true) (hp : cs.set o v = cs') (u : Upd m b t cs cs' m')
    (kk : ∀ a' W', St B w G0 W' m' G → Frm n l a' → K a' W') : Oper.wp P ⟨none, .store T x y, ty, ps, af, g⟩ a W K Q := by
  have hlt : o < cs.length := Nat.le_of_ble_eq_true hf
  have hs := run_storeCells_at P b o t [v] 0 cs.toArray W (M.own _ u.mem).1 (by simp; omega) (fun q hq => by simp at hq; rw [hq]; exact h1)
  simp only [Nat.add_zero] at hs
  have hc : v.cells = #[v] := by cases v <;> first | rfl | cases h1
  refine o_none F (W' := W.setRow b cs'.toArray) ?_ (fun a' F' => kk a' _ (M.set u) F')
  have hp' : cs.take o ++ (v :: cs.drop (o + 1)) = cs' := by rw [← hp, List.set_eq_take_append_cons_drop, if_pos hlt]
  simp only [List.length_singleton, List.append_assoc, List.singleton_append, hp'] at hs
  simp [Run0, execOp, F.eval hx, F.eval hy, Instr.storeAt, Instr.sureAddr, storeVar, hc, run_size hT.size]
  simp [hs]
end
/-- The parts of a struct that is built. -/
def evp (l : Env) : List (Nat × Operand) → Option (List (Nat × Value))
  | [] => some []
  | (i, x) :: xs => match ev l x with
    | none => none
    | some v => match evp l xs with
      | none => none
      | some vs => some ((i, v) :: vs)
theorem Frm.evalp {n : Nat} {l : Env} {a : Act} (F : Frm n l a) : ∀ {xs : List (Nat × Operand)} {vs : List (Nat × Value)}, evp l xs = some vs → xs.map (fun p => (p.1, a.eval p.2)) = vs
  | [], vs, h => by simp only [evp, Option.some.injEq] at h; simpa using h
  | (i, x) :: xs, vs, h => by
    simp only [evp] at h
    split at h
    · cases h
    · rename_i v hv
      split at h
      · cases h
      · rename_i us hus
        injection h with h; subst h
        rw [List.map_cons, F.eval hv, F.evalp hus]
theorem r_build {P : Program} {W : World} {n : Nat} {l : Env} {a : Act} {dst : Option Nat} {ty : TypeId} {ps : String} {af : Array Edge} {g : Option (Nat × Bool)} (F : Frm n l a) {T : TypeId} {xs : List (Nat × Operand)} {vs : List (Nat × Value)} {cs : List Value}
    (hx : evp l xs = some vs) (hb : P.built T vs = some cs.toArray) : Run P ⟨dst, .build T xs.toArray, ty, ps, af, g⟩ a W (.agg cs.toArray) W := by
  have h1 := F.evalp hx
  have h2 := run_build (P := P) W T vs.toArray cs.toArray (by simpa using hb)
  have h3 : (Array.map (fun p : Nat × Operand => (p.1, a.eval p.2)) xs.toArray) = vs.toArray := by rw [← h1]; simp
  simp only [Run, execOp]
  rw [show (Array.map (fun (x : Nat × Operand) => match x with | (i, x) => (i, a.eval x)) xs.toArray) = vs.toArray from h3]
  simp [h2]

/-! ### slices that are read -/
structure Sl where
  a : Option Addr
  len : Nat
  cap : Nat
def Sl.v (s : Sl) : Value := .slice s.a s.len s.cap
def Sl.nil : Sl := ⟨none, 0, 0⟩
/-- The slice s reads as the cells cs (elements of k cells). -/
structure Rd (G : Ghost) (k : Nat) (s : Sl) (cs : List Value) : Prop where
  len : cs.length = s.len * k
  cap : s.len ≤ s.cap
  max : s.cap ≤ 9223372036854775807
  nil : s.a = none → s.cap = 0
  row : 0 < s.len → ∃ b o r, s.a = some ⟨b, o, none⟩ ∧ G b = some r ∧ Seg r.pre o (s.len * k) cs
theorem Rd.mono {G G' : Ghost} {k : Nat} {s : Sl} {cs : List Value} (h : Rd G k s cs) (hg : Gle G G') : Rd G' k s cs :=
  ⟨h.len, h.cap, h.max, h.nil, fun h0 => by
    obtain ⟨b, o, r, h1, h2, h3⟩ := h.row h0
    obtain ⟨r', h4, h5⟩ := hg b r h2
    exact ⟨b, o, r', h1, h4, h3.pre h5.pre⟩⟩
theorem Rd.nil' (G : Ghost) (k : Nat) : Rd G k Sl.nil [] := ⟨by simp [Sl.nil], Nat.le_refl _, by simp [Sl.nil], fun _ => rfl, fun h => by simp [Sl.nil] at h⟩
/-- s[i:j]. -/
def Sl.cut (s : Sl) (k i j : Nat) : Sl := ⟨if s.cap = i then s.a else s.a.map (·.add (i * k)), j - i, s.cap - i⟩
theorem Rd.cut {G : Ghost} {k : Nat} {s : Sl} {cs : List Value} (h : Rd G k s cs) {i j : Nat} (hij : i ≤ j) (hj : j ≤ s.len) : Rd G k (s.cut k i j) ((cs.drop (i * k)).take ((j - i) * k)) := by
  have hc := h.cap
  have hjk : j * k ≤ s.len * k := Nat.mul_le_mul_right _ hj
  have hik : i * k ≤ j * k := Nat.mul_le_mul_right _ hij
  have hl := h.len
  refine ⟨?_, by simp only [Sl.cut]; omega, by have := h.max; simp only [Sl.cut]; omega, fun hn => ?_, fun h0 => ?_⟩
  · simp only [Sl.cut, List.length_take, List.length_drop, Nat.sub_mul]
    omega
  · simp only [Sl.cut] at hn ⊢
    split at hn
    · omega
    · have := h.nil (by simpa using hn); omega
  · simp only [Sl.cut] at h0 ⊢
    obtain ⟨b, o, r, h1, h2, h3⟩ := h.row (by omega)
    refine ⟨b, o + i * k, r, ?_, h2, ?_⟩
    · rw [if_neg (by omega), h1]; exact congrArg some (addr_add _ _ _)
    · have h4 : Seg cs (i * k) ((j - i) * k) ((cs.drop (i * k)).take ((j - i) * k)) := ⟨rfl, by simp only [List.length_take, List.length_drop, Nat.sub_mul]; omega⟩
      exact h3.sub h4 (by rw [Nat.sub_mul]; omega)
section
variable {P : Program} {B : List Nat} {w W : World} {m : List Box} {G0 G : Ghost} {n : Nat} {l : Env} {a : Act} {dst : Option Nat} {ty : TypeId} {ps : String} {af : Array Edge} {g : Option (Nat × Bool)}
theorem run_sliceBound {W : World} {kd : IntKind} {i : Int} {y : Nat} {code : BoundsCode} (h0 : 0 ≤ i) (h1 : i ≤ y) : (Instr.sliceBound (.int kd i) y code).run P W = .ok i.toNat W := by
  simp [Instr.sliceBound, asIntOf, h0, h1]
theorem sliceAt_slc {t E : TypeId} {k : Nat} (hs : Slc P t E k) (x : Value) (lo hi mx : Option Value) : (Instr.sliceAt t x lo hi mx).run P W = (Instr.slice t x lo hi mx).run P W := by
  simp [Instr.sliceAt, run_underlying hs.und]
theorem r_slice_to (F : Frm n l a) {x y : Operand} {t E : TypeId} {k : Nat} {s : Sl} {kd : IntKind} {j : Int} (hs : Slc P t E k) (hx : ev l x = some s.v) (hy : ev l y = some (.int kd j)) (h0 : 0 ≤ j) (h1 : j ≤ s.cap) :
    Run P ⟨dst, .slice t x none (some y) none, ty, ps, af, g⟩ a W (s.cut k 0 j.toNat).v W := by
  simp [Run, execOp, F.eval hx, F.eval hy, sliceAt_slc hs, Instr.slice, run_underlying hs.und, Sl.v, Sl.cut, Instr.sliceBounds, run_sliceBound h0 h1, run_size hs.size]
theorem r_slice_from (F : Frm n l a) {x y : Operand} {t E : TypeId} {k : Nat} {s : Sl} {kd : IntKind} {i : Int} (hs : Slc P t E k) (hx : ev l x = some s.v) (hy : ev l y = some (.int kd i)) (h0 : 0 ≤ i) (h1 : i ≤ s.len) :
    Run P ⟨dst, .slice t x (some y) none none, ty, ps, af, g⟩ a W (s.cut k i.toNat s.len).v W := by
  simp [Run, execOp, F.eval hx, F.eval hy, sliceAt_slc hs, Instr.slice, run_underlying hs.und, Sl.v, Sl.cut, Instr.sliceBounds, run_sliceBound h0 h1, run_size hs.size]
theorem r_indexSl (F : Frm n l a) {x y : Operand} {k : Nat} {t E : TypeId} {kd : IntKind} {i : Int} {s : Sl} {b o : Nat} (hx : ev l x = some s.v) (hy : ev l y = some (.int kd i)) (hs : Slc P t E k) (ha : s.a = some ⟨b, o, none⟩) (h0 : 0 ≤ i) (h1 : i < s.len) :
    Run P ⟨dst, .indexAddr t x y, ty, ps, af, g⟩ a W (.pointer (some ⟨b, o + i.toNat * k, none⟩)) W := by
  simp [Run, execOp, F.eval hx, F.eval hy, Instr.indexAt, asIntOf, Sl.v, run_underlying hs.und, h0, h1, run_size hs.size, addr_add, ha]
end

/-! ### a new row -/
def Ghost.put (G : Ghost) (b : Nat) (r : Row) : Ghost := fun k => if k = b then some r else G k
theorem Gle.put {G : Ghost} {b : Nat} {r : Row} (h : ∀ r0, G b = some r0 → r0.le r) : Gle G (G.put b r) := fun k r0 hk => by
  unfold Ghost.put
  split
  · rename_i he; subst he; exact ⟨r, rfl, h r0 hk⟩
  · exact ⟨r0, hk, r0.le_refl⟩
theorem St.row {B : List Nat} {w W : World} {m : List Box} {G0 G : Ghost} (M : St B w G0 W m G) (c : Array Value) (ty : TypeId) (pre : List Value) (hp : pre <+: c.toList) :
    St B w G0 (W.alloc (.cells c ty (0, 0))) m (G.put W.heap.size ⟨ty, (0, 0), c.size, pre⟩) ∧ Gle G (G.put W.heap.size ⟨ty, (0, 0), c.size, pre⟩) := by
  have hf := M.imm.fresh (Nat.le_refl W.heap.size)
  have old : ∀ k, k < W.heap.size → (W.alloc (.cells c ty (0, 0))).heap[k]? = W.heap[k]? := fun k hk => RowKit.Below.heap_alloc _ _ _ hk
  have hgl : Gle G (G.put W.heap.size ⟨ty, (0, 0), c.size, pre⟩) := Gle.put (fun r0 h0 => by rw [hf] at h0; cases h0)
  refine ⟨⟨M.fr.trans ⟨rfl, rfl, rfl, by simp, fun k hk _ => old k hk⟩, M.gl.trans hgl, fun k hk hn => ?_, fun k r hk => ?_, fun x hx => ?_, M.nd⟩, hgl⟩
  · have := M.fr.size
    unfold Ghost.put; rw [if_neg (by omega)]; exact M.go k hk hn
  · unfold Ghost.put at hk
    split at hk
    · rename_i he
      subst he
      injection hk with hk
      subst hk
      exact ⟨c, heap_alloc_new W _, rfl, hp⟩
    · obtain ⟨c', h1, h2⟩ := M.imm k r hk
      exact ⟨c', by rw [old k (M.imm.lt hk)]; exact h1, h2⟩
  · obtain ⟨h1, h2, h3⟩ := M.own x hx
    have hlt := M.lt hx
    exact ⟨by rw [old _ hlt]; exact h1, h2, by unfold Ghost.put; rw [if_neg (by omega)]; exact h3⟩
/-- A slice whose row ends where it ends, in a block of the call's own: it may be appended to. -/
structure Tip (B : List Nat) (w : World) (G : Ghost) (E k : Nat) (s : Sl) (cs : List Value) : Prop where
  rd : Rd G k s cs
  tip : s.a = none ∨ ∃ b r, s.a = some ⟨b, 0, none⟩ ∧ G b = some r ∧ r.ty = E ∧ r.fz = (0, 0) ∧ r.size = s.cap * k ∧ r.pre = cs ∧ (w.heap.size ≤ b ∨ b ∈ B)
theorem Tip.nil (B : List Nat) (w : World) (G : Ghost) (E k : Nat) : Tip B w G E k Sl.nil [] := ⟨Rd.nil' G k, .inl rfl⟩
theorem Imm.rows {G : Ghost} {W : World} (hI : Imm G W) {k : Nat} {s : Sl} {cs : List Value} (h : Rd G k s cs) {b o : Nat} (ha : s.a = some ⟨b, o, none⟩) : ∀ j v, cs[j]? = some v → W.cell? ((⟨b, o, none⟩ : Addr).add j) = some v := by
  intro j v hj
  have hlt : j < cs.length := (List.getElem?_eq_some_iff.1 hj).1
  have h0 : 0 < s.len := by
    rcases Nat.eq_zero_or_pos s.len with h0 | h0
    · rw [h.len, h0] at hlt; omega
    · exact h0
  obtain ⟨b', o', r, h1, h2, h3⟩ := h.row h0
  rw [ha] at h1
  injection h1 with h1
  injection h1 with hb ho
  subst hb; subst ho
  obtain ⟨c, h4, h5, h6⟩ := hI _ r h2
  rw [addr_add, cell_of_row W _ _ c r.ty r.fz h4]
  simpa using (h3.pre h6).get hj

/-- What append asks of an element's type. -/
structure App (P : Program) (E k by_ : Nat) : Prop where
  info : (P.info? E).map (fun i => (i.size, i.bytes, i.zero.map (fun z => z.cells.size))) = some (k, by_, some k)
theorem App.ok {P : Program} {E k by_ : Nat} (h : App P E k by_) : ∃ i z, P.info? E = some i ∧ i.zero = some z ∧ i.size = k ∧ i.bytes = by_ ∧ z.cells.size = k := by
  have h := h.info
  cases hi : P.info? E with
  | none => rw [hi] at h; cases h
  | some i =>
    rw [hi] at h
    simp only [Option.map_some, Option.some.injEq, Prod.mk.injEq] at h
    obtain ⟨h1, h2, h3⟩ := h
    cases hz : i.zero with
    | none => rw [hz] at h3; cases h3
    | some z =>
      rw [hz] at h3
      simp only [Option.map_some, Option.some.injEq] at h3
      exact ⟨i, z, rfl, hz, h1, h2, h3⟩
section
variable {P : Program} {B : List Nat} {w W : World} {m : List Box} {G0 G : Ghost}
/-- An own row grows where it lies. -/
theorem St.grow (M : St B w G0 W m G) {b : Nat} {r : Row} {news : List Value} {cur : Array Value} (hr : G b = some r) (hb : w.heap.size ≤ b ∨ b ∈ B) (hcur : W.heap[b]? = some (.cells cur r.ty r.fz)) (hsz : cur.size = r.size) (_hpre : r.pre <+: cur.toList) (hfit : r.pre.length + news.length ≤ r.size) :
    St B w G0 (W.setRow b (r.pre ++ news ++ cur.toList.drop (r.pre.length + news.length)).toArray) m (G.put b { r with pre := r.pre ++ news }) ∧ Gle G (G.put b { r with pre := r.pre ++ news }) := by
  have hgl : Gle G (G.put b { r with pre := r.pre ++ news }) := Gle.put (fun r0 h0 => by rw [hr] at h0; injection h0 with h0; subst h0; exact ⟨rfl, rfl, rfl, List.prefix_append _ _⟩)
  have hset := fun k => setRow_block W b k cur (r.pre ++ news ++ cur.toList.drop (r.pre.length + news.length)).toArray r.ty r.fz hcur
  refine ⟨⟨⟨M.fr.os, M.fr.tape, M.fr.output, by simpa using M.fr.size, fun k hk hn => ?_⟩, M.gl.trans hgl, fun k hk hn => ?_, fun k r' hk => ?_, fun x hx => ?_, M.nd⟩, hgl⟩
  · rw [hset, if_neg]
    · exact M.fr.block k hk hn
    · rintro rfl
      rcases hb with hb | hb
      · omega
      · exact hn hb
  · unfold Ghost.put
    rw [if_neg]
    · exact M.go k hk hn
    · rintro rfl
      rcases hb with hb | hb
      · omega
      · exact hn hb
  · unfold Ghost.put at hk
    split at hk
    · rename_i he
      subst he
      injection hk with hk
      subst hk
      refine ⟨_, by rw [hset, if_pos rfl], ?_, ?_⟩
      · simp only [List.size_toArray, List.length_append, List.length_drop, Array.length_toList]; omega
      · exact List.prefix_append _ _
    · rename_i hne
      obtain ⟨c', h1, h2⟩ := M.imm k r' hk
      exact ⟨c', by rw [hset, if_neg hne]; exact h1, h2⟩
  · obtain ⟨h1, h2, h3⟩ := M.own x hx
    have hne : x.id ≠ b := by rintro he; rw [he, hr] at h3; cases h3
    exact ⟨by rw [hset, if_neg hne]; exact h1, h2, by unfold Ghost.put; rw [if_neg hne]; exact h3⟩
theorem run_append (M : St B w G0 W m G) {t E k by_ : Nat} {ty : TypeId} (hs : Slc P t E k) (ha : App P E k by_) {S X : Sl} {cs news : List Value} (T : Tip B w G E k S cs) (R : Rd G k X news) (h1 : ∀ u ∈ news, u.oneCell' = true)
    (hby : (S.len + X.len) * by_ ≤ 140737488355328) (hml : S.len + X.len ≤ 9223372036854775807) :
    ∃ S' W' G', (Builtin.append_ #[t, t] ty #[S.v, X.v]).run P W = .ok S'.v W' ∧ St B w G0 W' m G' ∧ Gle G G' ∧ Tip B w G' E k S' (cs ++ news) ∧ S'.len = S.len + X.len ∧ W.heap.size ≤ W'.heap.size ∧ (S.a ≠ none ∨ 0 < X.len → S'.a ≠ none) := by
  obtain ⟨i, z, hi, hz, hik, hib, hzc⟩ := ha.ok
  rcases Nat.eq_zero_or_pos X.len with h0 | h0
  · have hn : news = [] := List.eq_nil_of_length_eq_zero (by rw [R.len, h0]; omega)
    subst hn
    refine ⟨S, W, G, ?_, M, Gle.refl G, by simpa using T, by omega, Nat.le_refl _, fun h => h.resolve_right (by omega)⟩
    have hc := T.rd.cap
    obtain ⟨xa, xl, xc⟩ := X
    simp only at h0
    subst h0
    cases xa <;> cases hsa : S.a <;> simp [Builtin.append_, Sl.v, run_underlying hs.und, sizeOf, typeInfo, hi, Builtin.lenOf, Builtin.firstCells, loadCells, loadCellsFrom, hc, hsa, storeCells]
  · obtain ⟨xb, xo, xr, hxa, hxg, hxs⟩ := R.row h0
    have hrows := M.imm.rows R hxa
    have hXv : X.v = .slice (some ⟨xb, xo, none⟩) X.len X.cap := by simp [Sl.v, hxa]
    have hnl : news.length = X.len * i.size := by rw [hik]; exact R.len
    have hfit : ∀ old, old < S.len + X.len → Builtin.nextslicecap (S.len + X.len) old * i.bytes ≤ 281474976710656 := fun old ho => growslice_fits ho (by rw [hib]; exact hby)
    have fresh : ∀ (gc : Nat), S.len + X.len ≤ gc → gc ≤ 9223372036854775807 → ∀ (c : Array Value), c = (cs.toArray ++ news.toArray ++ Builtin.zeroCells z.cells (gc - (S.len + X.len))) →
        ∃ G', St B w G0 (W.drew.alloc (.cells c E)) m G' ∧ Gle G G' ∧ Tip B w G' E k ⟨some ⟨W.heap.size, 0, none⟩, S.len + X.len, gc⟩ (cs ++ news) := by
      intro gc hg1 hg2 c hc
      have hlen : (cs ++ news).length = (S.len + X.len) * k := by rw [List.length_append, T.rd.len, R.len, Nat.add_mul]
      have hcs : c.size = gc * k := by
        rw [hc]
        simp only [Array.size_append, List.size_toArray, size_zeroCells, hzc, T.rd.len, R.len, ← Nat.add_mul]
        congr 1; omega
      obtain ⟨h1', h2'⟩ := (M.drew).row c E (cs ++ news) (by rw [hc]; simp)
      refine ⟨_, h1', h2', ⟨hlen, hg1, hg2, (fun h => nomatch h), fun _ => ⟨W.heap.size, 0, ⟨E, (0, 0), c.size, cs ++ news⟩, rfl, by simp [Ghost.put], ⟨by simp only [List.drop_zero]; rw [List.take_of_length_le (by rw [hlen]; exact Nat.le_refl _)], hlen⟩⟩⟩, .inr ⟨W.heap.size, ⟨E, (0, 0), c.size, cs ++ news⟩, rfl, by simp [Ghost.put], rfl, rfl, hcs, rfl, .inl M.fr.size⟩⟩
    by_cases hroom : S.len + X.len ≤ S.cap
    · rcases T.tip with hn | ⟨b, r, hSa, hGb, hrt, hrf, hrs, hrp, hbb⟩
      · have := T.rd.nil hn; omega
      · obtain ⟨cur, hc1, hc2, hc3⟩ := M.imm b r hGb
        have hSv : S.v = .slice (some ⟨b, 0, none⟩) S.len S.cap := by simp [Sl.v, hSa]
        have hcl : r.pre.length = S.len * k := by rw [hrp]; exact T.rd.len
        have hrun := run_append_room (P := P) W t ty E i hs.und hi b S.len S.cap cur (by rw [hc1, hrt, hrf]) ⟨xb, xo, none⟩ X.len X.cap news hnl hrows h1 hroom (by rw [hnl, hik, hc2, hrs, ← Nat.add_mul]; exact Nat.mul_le_mul_right _ hroom)
        have hfit' : r.pre.length + news.length ≤ r.size := by rw [hcl, hnl, hik, hrs, ← Nat.add_mul]; exact Nat.mul_le_mul_right _ hroom
        obtain ⟨k1, k2⟩ := M.grow (news := news) hGb hbb hc1 hc2 hc3 hfit'
        have htake : cur.toList.take (S.len * i.size) = r.pre := by
          obtain ⟨q, hq⟩ := hc3
          rw [hik, ← hcl, ← hq, List.take_left]
        refine ⟨⟨some ⟨b, 0, none⟩, S.len + X.len, S.cap⟩, _, _, ?_, k1, k2, ⟨⟨?_, hroom, T.rd.max, (fun h => nomatch h), fun _ => ⟨b, 0, { r with pre := r.pre ++ news }, rfl, by simp [Ghost.put], ?_, ?_⟩⟩, .inr ⟨b, { r with pre := r.pre ++ news }, rfl, by simp [Ghost.put], hrt, hrf, hrs, by simp [hrp], hbb⟩⟩, rfl, by simp, fun _ => by simp⟩
        · rw [hSv, hXv, hrun, htake]
          simp only [Sl.v]
          rw [hik, ← hcl]
        · rw [List.length_append, T.rd.len, R.len, Nat.add_mul]
        · simp only [List.drop_zero, hrp]
          rw [List.take_of_length_le (by rw [List.length_append, T.rd.len, R.len, Nat.add_mul]; exact Nat.le_refl _)]
        · rw [List.length_append, T.rd.len, R.len, Nat.add_mul]
    · have hge := grownCap_ge W (S.len + X.len)
      have hle := fun old => grownCap_le_maxLen W (S.len + X.len) old E (by simp only [maxLen]; omega)
      rcases T.tip with hn | ⟨b, r, hSa, hGb, hrt, hrf, hrs, hrp, hbb⟩
      · have hcap := T.rd.nil hn
        have hsl : S.len = 0 := by have := T.rd.cap; omega
        have hcs : cs = [] := List.eq_nil_of_length_eq_zero (by rw [T.rd.len, hsl]; omega)
        have hSv : S.v = .slice none 0 0 := by simp [Sl.v, hn, hsl, hcap]
        have hrun := run_append_nil (P := P) W t ty E i z hs.und hi hz ⟨xb, xo, none⟩ X.len X.cap news hnl hrows h0 (by omega) (by rw [hib]; rw [hsl, Nat.zero_add] at hby; omega)
        obtain ⟨G', k1, k2, k3⟩ := fresh (grownCap W (S.len + X.len) 0 E) (hge 0 E) (by have := hle 0; simp only [maxLen] at this; omega) _ rfl
        refine ⟨_, _, G', ?_, k1, k2, k3, rfl, by simp, fun _ => by simp⟩
        rw [hSv, hXv, hrun]
        simp only [Sl.v, hsl, hcs, Nat.zero_add]
        simp
      · have hSv : S.v = .slice (some ⟨b, 0, none⟩) S.len S.cap := by simp [Sl.v, hSa]
        have hrun := run_append_grow (P := P) W t ty E i z hs.und hi hz ⟨b, 0, none⟩ S.len S.cap cs (by rw [hik]; exact T.rd.len) (M.imm.rows T.rd hSa) ⟨xb, xo, none⟩ X.len X.cap news hnl hrows (by omega) (by omega) (hfit S.cap (by omega))
        obtain ⟨G', k1, k2, k3⟩ := fresh (grownCap W (S.len + X.len) S.cap E) (hge S.cap E) (by have := hle S.cap; simp only [maxLen] at this; omega) _ rfl
        refine ⟨_, _, G', ?_, k1, k2, k3, rfl, by simp, fun _ => by simp⟩
        rw [hSv, hXv, hrun]
        rfl
end
end Go.Proofs.YtfkmaepcjognkaaDoor.Pad
