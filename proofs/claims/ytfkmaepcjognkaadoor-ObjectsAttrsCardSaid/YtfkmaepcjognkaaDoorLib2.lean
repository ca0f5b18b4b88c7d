/- The library's second part: slices made and grown, calls, code, results; regions that draw their order. No condition. -/
import Derived.Test.YtfkmaepcjognkaaDoorLib
namespace Go.Proofs.YtfkmaepcjognkaaDoor.Pad
open Go

/-! ### a slice literal; an append -/
section
variable {P : Program} {Q : Exit → Act → World → Prop} {K : Act → World → Prop} {B : List Nat} {w W : World} {m : List Box} {G0 G : Ghost} {n : Nat} {l : Env} {a : Act} {d : Nat} {ty : TypeId} {ps : String} {af : Array Edge} {g : Option (Nat × Bool)}
/-- What a walk learns of a new or grown slice. -/
structure Grew (B : List Nat) (w : World) (G0 : Ghost) (m : List Box) (W : World) (G : Ghost) (E k : Nat) (W' : World) (G' : Ghost) (s : Sl) (cs : List Value) : Prop where
  st : St B w G0 W' m G'
  le : Gle G G'
  tip : Tip B w G' E k s cs
  size : W.heap.size ≤ W'.heap.size
theorem o_append (M : St B w G0 W m G) (F : Frm n l a) {x y : Operand} {t E k by_ : Nat} {S X : Sl} {cs news : List Value} (hs : Slc P t E k) (ha : App P E k by_) (hx : ev l x = some S.v) (hy : ev l y = some X.v)
    (T : Tip B w G E k S cs) (R : Rd G k X news) (h1 : news.all (·.oneCell') = true) (hby : (S.len + X.len) * by_ ≤ 140737488355328) (hml : S.len + X.len ≤ 9223372036854775807) (hd : Nat.blt d n = true)
    (kk : ∀ a' W' S' G', Grew B w G0 m W G E k W' G' S' (cs ++ news) → S'.len = S.len + X.len → (S.a ≠ none ∨ 0 < X.len → S'.a ≠ none) → Frm n ((d, S'.v) :: l) a' → K a' W') :
    Oper.wp P ⟨some d, .call { callee := .builtin .append, args := #[x, y], argTypes := #[t, t] }, ty, ps, af, g⟩ a W K Q := by
  obtain ⟨S', W', G', h, h2, h3, h4, h5, h6, h7⟩ := run_append (ty := ty) M hs ha T R (fun u hu => List.all_eq_true.1 h1 u hu) hby hml
  refine o_val F (v := S'.v) (W' := W') ?_ hd (fun a' F' => kk a' W' S' G' ⟨h2, h3, h4, h6⟩ h5 h7 F')
  simp [Run, execOp, resolve, invoke, builtin, F.eval hx, F.eval hy, h]
theorem Tip.keep {B : List Nat} {w W : World} {G G' : Ghost} {E k : Nat} {S : Sl} {cs : List Value} (h : Tip B w G E k S cs) (hI : Imm G W) (hs : ∀ k, k < W.heap.size → G' k = G k) : Tip B w G' E k S cs := by
  have hg : Gle G G' := fun k r hk => ⟨r, by rw [hs k (hI.lt hk)]; exact hk, r.le_refl⟩
  refine ⟨h.rd.mono hg, h.tip.imp id ?_⟩
  rintro ⟨b, r, h1, h2, h3⟩
  exact ⟨b, r, h1, by rw [hs b (hI.lt h2)]; exact h2, h3⟩
theorem Tip.up {B : List Nat} {w W : World} {G : Ghost} {E k : Nat} {S : Sl} {cs : List Value} (h : Tip [] W G E k S cs) (hs : w.heap.size ≤ W.heap.size) : Tip B w G E k S cs :=
  ⟨h.rd, h.tip.imp id fun ⟨b, r, h1, h2, h3, h4, h5, h6, h7⟩ => ⟨b, r, h1, h2, h3, h4, h5, h6, .inl (by rcases h7 with h7 | h7; omega; cases h7)⟩⟩
theorem o_bslice (M : St B w G0 W m G) (F : Frm n l a) {t E k : Nat} {N : Nat} {xs : List (Nat × Operand)} {vs : List (Nat × Value)} {cs : List Value} {z : Value} (hs : Slc P t E k) (hz : Zer P E z) (hx : evp l xs = some vs)
    (hf : Instr.fill (fun i => some (i * k, k)) ((Array.range (N * k)).map (z.cells[· % z.cells.size]!)) vs = some cs.toArray) (hN : Nat.ble (N * k) 16777216 = true) (hc : cs.length = N * k) (hN0 : 0 < N) (hd : Nat.blt d n = true)
    (kk : ∀ a' W' S' G', Grew B w G0 m W G E k W' G' S' cs → S'.len = N → S'.a ≠ none → (∀ k, k < W.heap.size → G' k = G k) → Frm n ((d, S'.v) :: l) a' → K a' W') :
    Oper.wp P ⟨some d, .buildSlice t N xs.toArray, ty, ps, af, g⟩ a W K Q := by
  have h1 := F.evalp hx
  have h3 : (Array.map (fun (x : Nat × Operand) => match x with | (i, x) => (i, a.eval x)) xs.toArray) = vs.toArray := by
    rw [← h1]; simp
  obtain ⟨k1, k2⟩ := M.row cs.toArray E cs (List.prefix_refl _)
  have hN' : N * k ≤ 16777216 := Nat.le_of_ble_eq_true hN
  have hk := hs.pos
  have hNk : N * k ≠ 0 := by have := Nat.mul_pos hN0 hk; omega
  have hle : N ≤ N * k := Nat.le_mul_of_pos_right N hk
  refine o_val F (v := .slice (some ⟨W.heap.size, 0, none⟩) N N) (W' := W.alloc (.cells cs.toArray E (0, 0))) ?_ hd (fun a' F' => kk a' _ ⟨some ⟨W.heap.size, 0, none⟩, N, N⟩ _ ⟨k1, k2, ⟨⟨hc, Nat.le_refl _, by simp only; omega, (fun h => nomatch h), fun _ => ⟨W.heap.size, 0, ⟨E, (0, 0), cs.toArray.size, cs⟩, rfl, by simp only [Ghost.put, if_pos], ⟨by simp only [List.drop_zero]; rw [List.take_of_length_le (by rw [hc]; exact Nat.le_refl _)], hc⟩⟩⟩, .inr ⟨W.heap.size, ⟨E, (0, 0), cs.toArray.size, cs⟩, rfl, by simp only [Ghost.put, if_pos], rfl, rfl, by simp only [List.size_toArray]; exact hc, rfl, .inl M.fr.size⟩⟩, by simp⟩ rfl (by simp) (fun k hk => by simp only [Ghost.put]; rw [if_neg (by omega)]) F')
  have hz' := run_zero (W := W) hz
  have hzz : ¬ (16777216 < N * k) := by omega
  simp only [Run, execOp]
  rw [h3]
  simp [Instr.buildSlice, run_underlying hs.und, run_size hs.size, hzz, hz', hf, newRow]
  intro h0; exact absurd h0 hNk
end

/-! ### calls -/
structure Ends (B : List Nat) (w : World) (G0 : Ghost) (W : World) (G : Ghost) : Prop where
  gl : Gle G0 G
  imm : Imm G W
  fr : Fr B w W
  go : ∀ k, k < w.heap.size → k ∉ B → G k = G0 k
def Post (B : List Nat) (w : World) (G0 : Ghost) (post : Ghost → World → Value → Prop) (e : Ending) (W : World) : Prop :=
  ∃ v G, e = .returned v ∧ Ends B w G0 W G ∧ post G W v
structure Ret (P : Program) (f : FuncId) (vs : List Value) (B : List Nat) (w : World) (G0 : Ghost) (post : Ghost → World → Value → Prop) : Prop where
  ent : ∃ fn, P.funcs[f]? = some fn ∧ (fn.name == "runtime.NumGoroutine") = false ∧ fn.body.isNone = false
  calls : Calls P f vs.toArray w (Post B w G0 post)
theorem Ret.mono {P : Program} {f : FuncId} {vs : List Value} {B : List Nat} {w : World} {G0 : Ghost} {p q : Ghost → World → Value → Prop} (h : Ret P f vs B w G0 p) (hq : ∀ G W v, p G W v → q G W v) : Ret P f vs B w G0 q :=
  ⟨h.ent, h.calls.mono fun _ _ ⟨v, G, h1, h2, h3⟩ => ⟨v, G, h1, h2, hq _ _ _ h3⟩⟩
theorem St.ends {B : List Nat} {w W : World} {m : List Box} {G0 G : Ghost} (M : St B w G0 W m G) : Ends B w G0 W G := ⟨M.gl, M.imm, M.fr, M.go⟩
/-- The walk of a function begins. -/
theorem enter {P : Program} {f : FuncId} {fn : Func} {c : Code} {vs : List Value} {n : Nat} {w : World} {G0 : Ghost} {post : Ghost → World → Value → Prop} (hf : P.funcs[f]? = some fn) (hb : fn.body = some c) (hn : fn.ntmps = n) (hname : (fn.name == "runtime.NumGoroutine") = false) (hl : Nat.ble vs.length n = true) (hI : Imm G0 w)
    (h : ∀ a, Frm n (args 0 vs) a → St [] w G0 w [] G0 → c.wp P (bodyPost P fn (Post [] w G0 post)) a w) : Ret P f vs [] w G0 post :=
  ⟨⟨fn, hf, hname, by rw [hb]; rfl⟩, calls_of_wp hf hb (by rw [hn]; exact h _ (Frm.enter vs n hl) (St.start G0 w hI []))⟩
/-- With one borrowed block. -/
theorem enterB {P : Program} {f : FuncId} {fn : Func} {c : Code} {vs : List Value} {n : Nat} {w : World} {G0 : Ghost} {post : Ghost → World → Value → Prop} {b : Nat} {t : TypeId} {cs : List Value} (hf : P.funcs[f]? = some fn) (hb : fn.body = some c) (hn : fn.ntmps = n) (hname : (fn.name == "runtime.NumGoroutine") = false) (hl : Nat.ble vs.length n = true) (hI : Imm G0 w) (hg : G0 b = none) (hc : w.heap[b]? = some (.cells cs.toArray t (0, 0)))
    (h : ∀ a, Frm n (args 0 vs) a → St [b] w G0 w [⟨b, t, cs⟩] G0 → c.wp P (bodyPost P fn (Post [b] w G0 post)) a w) : Ret P f vs [b] w G0 post :=
  ⟨⟨fn, hf, hname, by rw [hb]; rfl⟩, calls_of_wp hf hb (by
    rw [hn]
    refine h _ (Frm.enter vs n hl) ⟨Fr.refl _ w, Gle.refl G0, fun _ _ _ => rfl, hI, fun x hx => ?_, by simp⟩
    rw [List.mem_singleton.1 hx]
    exact ⟨hc, .inr (by simp), hg⟩)⟩
theorem St.after {B : List Nat} {w W W' : World} {m : List Box} {G0 G G' : Ghost} (M : St B w G0 W m G) (h : Ends [] W G W' G') : St B w G0 W' m G' := by
  refine ⟨M.fr.trans ⟨h.fr.os, h.fr.tape, h.fr.output, h.fr.size, fun k hk _ => h.fr.block k hk (by simp)⟩, M.gl.trans h.gl, fun k hk hn => ?_, h.imm, fun x hx => ?_, M.nd⟩
  · rw [h.go k (Nat.lt_of_lt_of_le hk M.fr.size) (by simp)]; exact M.go k hk hn
  · obtain ⟨h1, h2, h3⟩ := M.own x hx
    have hlt := M.lt hx
    exact ⟨by rw [h.fr.block _ hlt (by simp)]; exact h1, h2, by rw [h.go _ hlt (by simp)]; exact h3⟩
/-- After a call that was lent the block b. -/
theorem St.afterB {B : List Nat} {w W W' : World} {m m' : List Box} {G0 G G' : Ghost} {b : Nat} {t : TypeId} {cs cs' : List Value} (M : St B w G0 W m G) (u : Upd m b t cs cs' m') (h : Ends [b] W G W' G') (hb : W'.heap[b]? = some (.cells cs'.toArray t (0, 0))) (hg : G' b = none) : St B w G0 W' m' G' := by
  obtain ⟨b1, b2, b3⟩ := M.own _ u.mem
  refine ⟨⟨h.fr.os.trans M.fr.os, h.fr.tape.trans M.fr.tape, h.fr.output.trans M.fr.output, Nat.le_trans M.fr.size h.fr.size, fun k hk hn => ?_⟩, M.gl.trans h.gl, fun k hk hn => ?_, h.imm, fun x hx => ?_, by rw [u.ids]; exact M.nd⟩
  · have hne : k ≠ b := by
      rintro rfl
      rcases b2 with b2 | b2
      · simp only at b2; omega
      · exact hn b2
    rw [h.fr.block k (Nat.lt_of_lt_of_le hk M.fr.size) (by simpa using hne)]
    exact M.fr.block k hk hn
  · have hne : k ≠ b := by
      rintro rfl
      rcases b2 with b2 | b2
      · simp only at b2; omega
      · exact hn b2
    rw [h.go k (Nat.lt_of_lt_of_le hk M.fr.size) (by simpa using hne)]; exact M.go k hk hn
  · rcases u.mem' M.nd hx with rfl | ⟨hm, hne⟩
    · exact ⟨hb, b2, hg⟩
    · obtain ⟨h1, h2, h3⟩ := M.own x hm
      have hlt := M.lt hm
      exact ⟨by rw [h.fr.block _ hlt (by simpa using hne)]; exact h1, h2, by rw [h.go _ hlt (by simpa using hne)]; exact h3⟩
section
variable {P : Program} {Q : Exit → Act → World → Prop} {K : Act → World → Prop} {B : List Nat} {w W : World} {m : List Box} {G0 G : Ghost} {n : Nat} {l : Env} {a : Act} {d : Nat} {dst : Option Nat} {ty : TypeId} {ps : String} {af : Array Edge} {g : Option (Nat × Bool)}
theorem wp_enter {xs : List Operand} {vs : List Value} {f : FuncId} {ts : Array TypeId} {R : Ending → World → Prop} (F : Frm n l a) (hx : evs l xs = some vs) (he : ∃ fn, P.funcs[f]? = some fn ∧ (fn.name == "runtime.NumGoroutine") = false ∧ fn.body.isNone = false) (hc : Calls P f vs.toArray W R)
    (hR : ∀ e W', R e W' → ∃ v, e = .returned v ∧ K (a.put dst v) W') : Oper.wp P ⟨dst, .call { callee := .value (.func f), args := xs.toArray, argTypes := ts }, ty, ps, af, g⟩ a W K Q := by
  obtain ⟨fn, h1, h2, h3⟩ := he
  have hv := F.evals hx
  have h2' : fn.name ≠ "runtime.NumGoroutine" := by simpa using h2
  have h3' : fn.body ≠ none := by intro h; rw [h] at h3; cases h3
  have hrun : (execOp a.eval ⟨dst, .call { callee := .value (.func f), args := xs.toArray, argTypes := ts }, ty, ps, af, g⟩).run P W = .ok (.enter f vs.toArray) W := by
    simp [execOp, resolve, Act.eval, Deferred.ofValue, invoke, callFunc, h1, h2', h3']
    rw [← hv]
  unfold Oper.wp
  rw [hrun]
  refine hc.mono fun e W' hr => ?_
  obtain ⟨v, rfl, hk⟩ := hR e W' hr
  exact hk
theorem o_call (M : St B w G0 W m G) (F : Frm n l a) {xs : List Operand} {vs : List Value} {f : FuncId} {ts : Array TypeId} {post : Ghost → World → Value → Prop} (hx : evs l xs = some vs) (h : Ret P f vs [] W G post) (hd : Nat.blt d n = true)
    (k : ∀ a' W' v G', post G' W' v → St B w G0 W' m G' → Ends [] W G W' G' → Frm n ((d, v) :: l) a' → K a' W') : Oper.wp P ⟨some d, .call { callee := .value (.func f), args := xs.toArray, argTypes := ts }, ty, ps, af, g⟩ a W K Q :=
  wp_enter F hx h.ent h.calls fun _ W' ⟨v, G', h1, h2, h3⟩ => ⟨v, h1, k _ W' v G' h3 (M.after h2) h2 (F.put hd v)⟩
/-- A call that is lent one block. -/
theorem o_callB (F : Frm n l a) {xs : List Operand} {vs : List Value} {f : FuncId} {ts : Array TypeId} {post : Ghost → World → Value → Prop} {b : Nat} (hx : evs l xs = some vs) (h : Ret P f vs [b] W G post) (hd : Nat.blt d n = true)
    (k : ∀ a' W' v G', post G' W' v → Ends [b] W G W' G' → Frm n ((d, v) :: l) a' → K a' W') : Oper.wp P ⟨some d, .call { callee := .value (.func f), args := xs.toArray, argTypes := ts }, ty, ps, af, g⟩ a W K Q :=
  wp_enter F hx h.ent h.calls fun _ W' ⟨v, G', h1, h2, h3⟩ => ⟨v, h1, k _ W' v G' h3 h2 (F.put hd v)⟩
end

/-! ### code -/
section
variable {P : Program} {Q : Exit → Act → World → Prop} {n : Nat} {l : Env} {a : Act} {W : World}
theorem c_seq {x y : Code} (h : ∀ K : Act → World → Prop, (∀ a w, y.wp P Q a w → K a w) → x.wp P (Exit.then K Q) a W) : (Code.seq x y).wp P Q a W := wp_seq_k h
theorem c_cond (F : Frm n l a) {c : Operand} {x y : Code} {b : Bool} (hc : ev l c = some (.bool b)) (ht : b = true → x.wp P Q a W) (hf : b = false → y.wp P Q a W) : (Code.cond c x y).wp P Q a W :=
  wp_cond_split (F.eval hc) ht hf
theorem c_split (F : Frm n l a) {i : Nat} {b : Bool} {X : Prop} (hl : look l i = some (.bool b)) (ht : b = true → X) (hf : b = false → X) : X := by
  have := F.size
  have := hl
  cases b
  · exact hf rfl
  · exact ht rfl
theorem c_loop {c : Code} (I : Nat → Act → World → Prop) (n0 : Nat) (h0 : I n0 a W) (round : ∀ n a w, I n a w → c.wp P (Exit.then (fun a' w' => ∃ n', n' < n ∧ I n' a' w') Q) a w) : (Code.loop c).wp P Q a W :=
  wp_loop_ghost I n0 h0 round
/-- Ways meet again. -/
theorem c_cut {x y : Code} (I : Act → World → Prop) (h : x.wp P (Exit.then I Q) a W) (k : ∀ a w, I a w → y.wp P Q a w) : (Code.seq x y).wp P Q a W :=
  wp_seq (wp_mono h (fun e a w hq => by cases e <;> first | exact k _ _ hq | exact hq))
end
theorem andThen_of {α β γ : Type} {X : Result α} {f : α → World → Result β} {k : β → World → Result γ} {v : β} {W : World} (h : X.andThen f = .ok v W) : (X.andThen fun a w => (f a w).andThen k) = k v W := by
  cases X with
  | ok a w => simp only [Result.andThen_ok] at h ⊢; rw [h]; rfl
  | halt x w => simp [Result.andThen] at h
def RV (P : Program) (a : Act) (W : World) (r : ResultVar) (v : Value) : Prop :=
  (match r with
    | .tmp t => (pure (a.tmps.getD t undef) : Sem Value)
    | .cell p t => do loadVar t (← asAddr (a.tmps.getD p undef))).run P W = .ok v W
section
variable {P : Program} {B : List Nat} {w W : World} {m : List Box} {G0 G : Ghost} {n : Nat} {l : Env} {a : Act} {fn : Func} {post : Ghost → World → Value → Prop}
theorem rv_tmp (F : Frm n l a) {t : Nat} {v : Value} (h : look l t = some v) : RV P a W (.tmp t) v := by
  simp only [RV, F.getD h]; rfl
theorem rv_cell (M : St B w G0 W m G) (F : Frm n l a) {p b : Nat} {t T : TypeId} {k : Nat} {cs : List Value} (h : look l p = some (.pointer (some ⟨b, 0, none⟩))) (hm : ⟨b, t, cs⟩ ∈ m) (ha : Agg P T k) (hk : cs.length = k) : RV P a W (.cell p T) (.agg cs.toArray) := by
  have := run_load_seg ha (M.own _ hm).1 (o := 0) (vs := cs) ⟨by simp [← hk], hk⟩
  simp only [RV, F.getD h]
  simp [asAddr, this]
theorem rets (hr : fn.results = #[]) {e : Exit} (he : e = .ret ∨ e = .normal) (M : St B w G0 W m G) (F : Frm n l a) (hp : post G W (.tuple #[])) : bodyPost P fn (Post B w G0 post) e a W := by
  have h : a.defers = [] ∧ ∃ v, (results fn a.tmps).run P W = .ok v W ∧ Post B w G0 post (.returned v) W := ⟨F.defers, _, by simp only [results, hr]; simp, _, _, rfl, M.ends, hp⟩
  rcases he with rfl | rfl <;> exact h
theorem ret1 {r : ResultVar} {v : Value} (hr : fn.results = #[r]) (M : St B w G0 W m G) (F : Frm n l a) (h1 : RV P a W r v) (hp : post G W v) : bodyPost P fn (Post B w G0 post) .ret a W := by
  refine ⟨F.defers, v, ?_, _, _, rfl, M.ends, hp⟩
  cases r with
  | tmp t => simp only [RV] at h1; simp only [results, hr]; simpa using h1
  | cell p t => simp only [RV] at h1; simp only [results, hr]; simp at h1 ⊢; simp [h1]
theorem ret2 {r s : ResultVar} {u v : Value} (hr : fn.results = #[r, s]) (M : St B w G0 W m G) (F : Frm n l a) (h1 : RV P a W r u) (h2 : RV P a W s v) (hp : post G W (.tuple #[u, v])) : bodyPost P fn (Post B w G0 post) .ret a W := by
  refine ⟨F.defers, .tuple #[u, v], ?_, _, _, rfl, M.ends, hp⟩
  cases r with
  | tmp t => cases s with
    | tmp q => simp only [RV] at h1 h2; simp only [results, hr]; simp at h1 h2 ⊢; exact ⟨h1, h2⟩
    | cell p q => simp only [RV] at h1 h2; simp only [results, hr]; simp at h1 h2 ⊢; rw [andThen_of h2, h1]
  | cell p t => cases s with
    | tmp q => simp only [RV] at h1 h2; simp only [results, hr]; simp at h1 h2 ⊢; rw [andThen_of h1, h2]
    | cell p' q => simp only [RV] at h1 h2; simp only [results, hr]; simp at h1 h2 ⊢; rw [andThen_of h1, andThen_of h2]
end
end Go.Proofs.YtfkmaepcjognkaaDoor.Pad
