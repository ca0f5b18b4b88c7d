/- Walks: a group's state: whether it is one, its head. No condition but on sizes. -/
import Derived.Test.YtfkmaepcjognkaaDoorDo
namespace Go.Proofs.YtfkmaepcjognkaaDoor.Pad
open Go Go.Proofs
set_option linter.unusedVariables false
set_option maxRecDepth 8000
set_option linter.unusedSimpArgs false
def pObject (x : PObj) : Bool := if x.there = false then decide (x = PObj.zero) else (List.range 3).all (fun j => decide (((x.attr j).size : Int) ≤ 16)) && decide ((x.data.size : Int) ≤ 16)
def pLast (l : PLast) : Bool := !(!decide (l.r.data = ⟨#[]⟩) || (decide (3 < l.r.code) || (decide (l.seq = 0) && !decide (l = ⟨0, PRes.zero⟩))))
def pBase (b : PBase) : Bool := (List.range 6).all (fun j => pObject (b.obj j)) && (List.range 3).all (fun j => pLast (b.last j))
theorem all_t {n : Nat} {p : Nat → Bool} (h : ∀ j, j < n → p j = true) : (List.range n).all p = true := List.all_eq_true.2 fun j hj => h j (List.mem_range.1 hj)
theorem all_f {n i : Nat} {p : Nat → Bool} (hi : i < n) (h : p i = false) : (List.range n).all p = false := by
  cases hb : (List.range n).all p with
  | false => rfl
  | true => rw [List.all_eq_true.1 hb i (List.mem_range.2 hi)] at h; cases h
theorem pBase_t {b : PBase} (h : ∀ j, j < 6 → pObject (b.obj j) = true) (k : ∀ j, j < 3 → pLast (b.last j) = true) : pBase b = true := by rw [pBase, all_t h, all_t k]; rfl
theorem pBase_f1 {b : PBase} {i : Nat} (hi : i < 6) (h : pObject (b.obj i) = false) : pBase b = false := by rw [pBase, all_f hi h]; rfl
theorem pBase_f2 {b : PBase} {i : Nat} (hi : i < 3) (h : pLast (b.last i) = false) : pBase b = false := by rw [pBase, all_f hi h, Bool.and_false]
def pNext (l e : PEntry) : Bool := writes e.op && (decide (e.n = l.n + 1) && (decide (l.n < e.n) && (decide (l.since ≤ e.since) && decide (e.since ≤ 60))))
def pChain : PEntry → List PEntry → Bool
  | _, [] => true
  | l, e :: r => pNext l e && pChain e r
def pIs (s : PState) : Bool :=
  if 60 < s.started ∨ 60 < s.tail.since ∨ ¬ s.tail.op = ⟨0, 0, 0, 0, 0, ⟨#[]⟩⟩ ∨ (6 : Int) < (s.log.length : Int) ∨ pBase s.base = false then false else pChain s.tail s.log
def lastE (s : PState) : PEntry := (s.log[s.log.length - 1]?).getD s.tail
def pHead (s : PState) : UInt32 × UInt32 := if pIs s = true then ((lastE s).since, (lastE s).n) else (0, 0)
abbrev PState.at (s : PState) (l : Sl) : GState := ⟨s.started, s.base, s.tail, l⟩
abbrev Ens (G : Ghost) (l : Sl) (xs : List PEntry) : Prop := RdL G 8 PEntry.enc l xs
theorem drop_of {α : Type} {l : List α} {i : Nat} {x : α} (h : l[i]? = some x) : l.drop i = x :: l.drop (i + 1) := by
  obtain ⟨h1, h2⟩ := List.getElem?_eq_some_iff.1 h
  rw [List.drop_eq_getElem_cons h1, h2]
theorem take_of {α : Type} {l : List α} {i : Nat} {x : α} (h : l[i]? = some x) : l.take (i + 1) = l.take i ++ [x] := by
  obtain ⟨h1, h2⟩ := List.getElem?_eq_some_iff.1 h
  rw [← List.take_append_getElem h1, h2]
theorem get_of {α : Type} {l : List α} {i : Nat} (h : i < l.length) : ∃ x, l[i]? = some x := ⟨_, List.getElem?_eq_getElem h⟩
theorem all_flat {α : Type} {enc : α → List Value} (h : ∀ x, (enc x).all (·.oneCell') = true) (xs : List α) : (xs.flatMap enc).all (·.oneCell') = true := by
  rw [List.all_flatMap]
  exact List.all_eq_true.2 fun x _ => h x
theorem Tip.ens {B : List Nat} {w : World} {G : Ghost} {E : Nat} {s : Sl} {xs : List PEntry} (h : Tip B w G E 8 s (xs.flatMap PEntry.enc)) : Ens G s xs :=
  ⟨h.rd, by have := h.rd.len; rw [flat_len (k := 8) (fun x => rfl)] at this; omega, fun x => rfl⟩
theorem Ens.nil (G : Ghost) : Ens G Sl.nil [] := ⟨Rd.nil' G 8, rfl, fun x => rfl⟩
theorem Ens.of_none {G : Ghost} {l : Sl} {xs : List PEntry} (h : Ens G l xs) (hn : l.a = none) : xs = [] := by
  have h1 := h.rd.nil hn
  have h2 := h.rd.cap
  have h3 := h.len
  exact List.eq_nil_of_length_eq_zero (by omega)
theorem c_slices_Clone_Entry {w : World} {G0 : Ghost} (hI : Imm G0 w) {l : Sl} {xs : List PEntry} (hl : Ens G0 l xs) (hx : xs.length ≤ 1000) : Ret P 49 [l.v] [] w G0 (fun G W v => ∃ l', v = l'.v ∧ Ens G l' xs ∧ Tip [] w G 59 8 l' (xs.flatMap PEntry.enc)) := by
  refine enter Tryd.func49 rfl Tryd.ntmps49 rfl rfl hI (fun a F M => ?_)
  have hlen := hl.len
  refine c_seq (fun K1 hK1 => ?_)
  refine wp_region_lit ?_
  refine l_step rfl (o_val F (r_assign F rfl) rfl ?_); clear F a; intro a F
  refine l_nil ?_
  refine hK1 _ _ ?_
  refine c_seq (fun K2 hK2 => ?_)
  refine c_seq (fun K3 hK3 => ?_)
  refine wp_region_lit ?_
  refine l_step rfl (o_val F (r_move F rfl) rfl ?_); clear F a; intro a F
  refine l_step rfl (o_val F (r_eql_slnil F slc_Entries rfl) rfl ?_); clear F a; intro a F
  refine l_nil ?_
  refine hK3 _ _ ?_
  refine c_cond F rfl (fun g4 => ?_) (fun g4 => ?_)
  · skip
    refine c_seq (fun K4 hK4 => ?_)
    refine wp_region_lit ?_
    refine l_step rfl (o_val F (r_assign F rfl) rfl ?_); clear F a; intro a F
    refine l_nil ?_
    refine hK4 _ _ ?_
    refine wp_ret ?_
    exact ret1 Tryd.results49 M F (rv_tmp F rfl) (⟨Sl.nil, rfl, by rw [hl.of_none (by simpa using g4)]; exact ⟨Ens.nil _, Tip.nil _ _ _ _ _⟩⟩)
  · skip
    refine wp_skip ?_
    refine hK2 _ _ ?_
    refine c_seq (fun K5 hK5 => ?_)
    refine wp_region_lit ?_
    refine l_step rfl (o_bslice0 M F slc_Entries rfl ?_); clear F a; intro a W1 S1 G1 hg1 hl1 hn1 hs1 F
    have M := hg1.st
    refine l_step rfl (o_val F (r_move F rfl) rfl ?_); clear F a; intro a F
    refine l_step rfl (o_append M F slc_Entries app_Entry rfl rfl hg1.tip (hl.mono M.gl).rd (all_flat (fun x => rfl) xs) (by omega) (by omega) rfl ?_); clear F a; intro a W2 S2 G2 hg2 hl2 hn2 F
    have M := hg2.st
    refine l_step rfl (o_val F (r_assign F rfl) rfl ?_); clear F a; intro a F
    refine l_nil ?_
    refine hK5 _ _ ?_
    refine wp_ret ?_
    exact ret1 Tryd.results49 M F (rv_tmp F rfl) (⟨S2, rfl, Tip.ens (by simpa using hg2.tip), by simpa using hg2.tip⟩)
theorem c_slices_Equal_Entry {w : World} {G0 : Ghost} (hI : Imm G0 w) {l l1 : Sl} {xs ys : List PEntry} (hl : Ens G0 l xs) (hl1 : Ens G0 l1 ys) : Ret P 62 [l.v, l1.v] [] w G0 (fun G W v => v = .bool (decide (xs = ys))) := by
  refine enter Tryd.func62 rfl Tryd.ntmps62 rfl rfl hI (fun a F M => ?_)
  have hlen := hl.len
  have hlen1 := hl1.len
  have hmax := hl.rd.max
  have hcap := hl.rd.cap
  refine c_seq (fun K1 hK1 => ?_)
  refine wp_region_lit ?_
  refine l_step rfl (o_val F (r_assign F rfl) rfl ?_); clear F a; intro a F
  refine l_nil ?_
  refine hK1 _ _ ?_
  refine c_seq (fun K2 hK2 => ?_)
  refine c_seq (fun K3 hK3 => ?_)
  refine wp_region_lit ?_
  refine l_step rfl (o_val F (r_move F rfl) rfl ?_); clear F a; intro a F
  refine l_step rfl (o_val F (r_len_slice F slc_Entries.und rfl) rfl ?_); clear F a; intro a F
  refine l_step rfl (o_val F (r_move F rfl) rfl ?_); clear F a; intro a F
  refine l_step rfl (o_val F (r_len_slice F slc_Entries.und rfl) rfl ?_); clear F a; intro a F
  refine l_step rfl (o_val F (r_neq_i64 F rfl rfl) rfl ?_); clear F a; intro a F
  refine l_nil ?_
  refine hK3 _ _ ?_
  refine c_cond F rfl (fun g10 => ?_) (fun g10 => ?_)
  · skip
    refine c_seq (fun K4 hK4 => ?_)
    refine wp_region_lit ?_
    refine l_step rfl (o_val F (r_assign F rfl) rfl ?_); clear F a; intro a F
    refine l_nil ?_
    refine hK4 _ _ ?_
    refine wp_ret ?_
    exact ret1 Tryd.results62 M F (rv_tmp F rfl) (by clear hI M F hK1 hK2 hK3 hK4; have : xs.length ≠ ys.length := by { have h := g10; simp at h; omega }; have h2 : xs ≠ ys := fun h => this (by rw [h]); simp [h2])
  · skip
    have heq : xs.length = ys.length := by have h := g10; simp at h; omega
    refine wp_skip ?_
    refine hK2 _ _ ?_
    refine c_seq (fun K5 hK5 => ?_)
    refine c_seq (fun K6 hK6 => ?_)
    refine wp_region_lit ?_
    refine l_step rfl (o_val F (r_move F rfl) rfl ?_); clear F a; intro a F
    refine l_step rfl (o_val F (r_len_slice F slc_Entries.und rfl) rfl ?_); clear F a; intro a F
    refine l_step rfl (o_val F (r_move F rfl) rfl ?_); clear F a; intro a F
    refine l_nil ?_
    refine hK6 _ _ ?_
    refine wp_block ?_
    refine c_loop (fun k a W => ∃ (i : Nat) (G : Ghost) , k = xs.length - i ∧ i ≤ xs.length ∧ Frm 26 [(13, .int .i64 (i : Int)), (12, .int .i64 (l.len : Int)), (0, l.v), (1, l1.v)] a ∧ St [] w G0 W [] G ∧ (xs.take i = ys.take i)) (xs.length) ?_ ?_
    · exact ⟨0, _, rfl, Nat.zero_le _, (F.cons (F.cons (F.cons (F.cons F.nil 1 rfl) 0 rfl) 12 rfl) 13 rfl), M, rfl⟩
    · clear F M a; intro k a W hI; obtain ⟨i, G, hk, hi, F, M, hf⟩ := hI
      refine c_seq (fun K7 hK7 => ?_)
      refine wp_region_lit ?_
      refine l_step rfl (o_val F (r_lss_i64 F rfl rfl) rfl ?_); clear F a; intro a F
      refine l_nil ?_
      refine hK7 _ _ ?_
      refine c_seq (fun K8 hK8 => ?_)
      refine c_cond F rfl (fun g14 => ?_) (fun g14 => ?_)
      · skip
        have hlt : i < xs.length := by have h := of_decide_eq_true g14; omega
        obtain ⟨x, hx⟩ := get_of hlt
        obtain ⟨y, hy⟩ := get_of (heq ▸ hlt)
        refine wp_skip ?_
        refine hK8 _ _ ?_
        refine c_seq (fun K9 hK9 => ?_)
        refine wp_block ?_
        refine c_seq (fun K10 hK10 => ?_)
        refine wp_region_lit ?_
        refine l_step rfl (o_val F (r_move F rfl) rfl ?_); clear F a; intro a F
        refine l_step rfl (o_val F (r_assign F rfl) rfl ?_); clear F a; intro a F
        refine l_nil ?_
        refine hK10 _ _ ?_
        refine c_seq (fun K11 hK11 => ?_)
        refine c_drawM M [] mixed (fun M => ?_)
        have hq1 := Keeps.here M
        have hle1 := M.gle
        refine t_take (i := 0) F rfl rfl hq1 (fun _ _ => r_move F rfl) (fun _ _ _ h => h) (by kernel_rfl) (by kernel_rfl) (by kernel_rfl) (by kernel_rfl) ?_; clear F a; intro a F
        refine t_take (i := 1) F rfl rfl hq1 (fun _ _ => r_move F rfl) (fun _ _ _ h => h) (by kernel_rfl) (by kernel_rfl) (by kernel_rfl) (by kernel_rfl) ?_; clear F a; intro a F
        obtain ⟨eb, eo, er, ha18, hG18, hS18⟩ := (hl.mono M.gl).elem hx
        refine t_take (i := 2) F rfl rfl hq1 (fun _ _ => r_indexSl F rfl rfl slc_Entries ha18 (by omega) (by omega)) (fun _ _ _ h => h) (by kernel_rfl) (by kernel_rfl) (by kernel_rfl) (by kernel_rfl) ?_; clear F a; intro a F
        refine t_take (i := 3) F rfl rfl hq1 (fun _ ⟨_, hg, M'⟩ => r_loadrG hg M' F rfl hG18 agg_Entry hS18) (fun _ _ _ h => h) (by kernel_rfl) (by kernel_rfl) (by kernel_rfl) (by kernel_rfl) ?_; clear F a; intro a F
        refine t_take (i := 4) F rfl rfl hq1 (fun _ _ => r_move F rfl) (fun _ _ _ h => h) (by kernel_rfl) (by kernel_rfl) (by kernel_rfl) (by kernel_rfl) ?_; clear F a; intro a F
        refine t_take (i := 5) F rfl rfl hq1 (fun _ _ => r_move F rfl) (fun _ _ _ h => h) (by kernel_rfl) (by kernel_rfl) (by kernel_rfl) (by kernel_rfl) ?_; clear F a; intro a F
        obtain ⟨eb1, eo1, er1, ha22, hG22, hS22⟩ := (hl1.mono M.gl).elem hy
        refine t_take (i := 6) F rfl rfl hq1 (fun _ _ => r_indexSl F rfl rfl slc_Entries ha22 (by omega) (by omega)) (fun _ _ _ h => h) (by kernel_rfl) (by kernel_rfl) (by kernel_rfl) (by kernel_rfl) ?_; clear F a; intro a F
        refine t_take (i := 7) F rfl rfl hq1 (fun _ ⟨_, hg, M'⟩ => r_loadrG hg M' F rfl hG22 agg_Entry hS22) (fun _ _ _ h => h) (by kernel_rfl) (by kernel_rfl) (by kernel_rfl) (by kernel_rfl) ?_; clear F a; intro a F
        refine t_take (i := 8) F rfl rfl hq1 (fun _ _ => r_neq_Entry F rfl rfl) (fun _ _ _ h => h) (by kernel_rfl) (by kernel_rfl) (by kernel_rfl) (by kernel_rfl) ?_; clear F a; intro a F
        refine t_done (by kernel_rfl) ?_ _
        refine hK11 _ _ ?_
        refine c_cond F rfl (fun g24 => ?_) (fun g24 => ?_)
        · skip
          refine c_seq (fun K12 hK12 => ?_)
          refine wp_region_lit ?_
          refine l_step rfl (o_val F (r_assign F rfl) rfl ?_); clear F a; intro a F
          refine l_nil ?_
          refine hK12 _ _ ?_
          refine wp_ret ?_
          exact ret1 Tryd.results62 M F (rv_tmp F rfl) (by have h2 : xs ≠ ys := fun h => by { subst h; rw [hx] at hy; injection hy with hy; simp [hy] at g24 }; simp [h2])
        · skip
          refine wp_skip ?_
          refine hK9 _ _ ?_
          refine wp_region_lit ?_
          refine l_step rfl (o_val F (r_add_i64 F rfl rfl (by omega)) rfl ?_); clear F a; intro a F
          refine l_step rfl (o_val F (r_move F rfl) rfl ?_); clear F a; intro a F
          refine l_nil ?_
          exact ⟨xs.length - (i + 1), by omega, i + 1, _, rfl, by omega, (F.cons (F.cons (F.cons (F.cons F.nil 1 rfl) 0 rfl) 12 rfl) 13 rfl), M.drop (by repeat (first | exact List.Sublist.refl _ | apply List.Sublist.cons_cons | apply List.Sublist.cons)), (by rw [take_of hx, take_of hy, hf, (by simpa using g24 : x = y)])⟩
      · skip
        have hge : i = xs.length := by have h := of_decide_eq_false g14; omega
        refine wp_exit ?_
        refine hK5 _ _ ?_
        refine c_seq (fun K13 hK13 => ?_)
        refine wp_region_lit ?_
        refine l_step rfl (o_val F (r_assign F rfl) rfl ?_); clear F a; intro a F
        refine l_nil ?_
        refine hK13 _ _ ?_
        refine wp_ret ?_
        exact ret1 Tryd.results62 M F (rv_tmp F rfl) (by have h2 : xs = ys := by { have h := hf; rwa [hge, List.take_length, heq, List.take_length] at h }; simp [h2])
theorem c_pglog_object {w : World} {G0 : Ghost} (hI : Imm G0 w) {x : PObj} : Ret P 67 [agg x.enc] [] w G0 (fun G W v => v = .bool (pObject x)) := by
  refine enter Tryd.func67 rfl Tryd.ntmps67 rfl rfl hI (fun a F M => ?_)
  refine c_seq (fun K1 hK1 => ?_)
  refine wp_region_lit ?_
  refine l_step rfl (o_box M F rfl rfl ?_); clear F a; intro a W1 b1 M F
  refine l_step rfl (o_val F (r_assign F rfl) rfl ?_); clear F a; intro a F
  refine l_nil ?_
  refine hK1 _ _ ?_
  refine c_seq (fun K2 hK2 => ?_)
  refine c_seq (fun K3 hK3 => ?_)
  refine wp_region_lit ?_
  refine l_step rfl (o_val F (r_fieldAddr F rfl fld_Obj_0) rfl ?_); clear F a; intro a F
  refine l_step rfl (o_val F (r_load1 M F rfl (by repeat (first | exact List.mem_cons_self | apply List.mem_cons_of_mem)) sca_bool rfl) rfl ?_); clear F a; intro a F
  refine l_step rfl (o_val F (r_not F rfl) rfl ?_); clear F a; intro a F
  refine l_nil ?_
  refine hK3 _ _ ?_
  refine c_cond F rfl (fun g7 => ?_) (fun g7 => ?_)
  · skip
    refine c_seq (fun K4 hK4 => ?_)
    refine wp_region_lit ?_
    refine l_step rfl (o_val F (r_load M F rfl (by repeat (first | exact List.mem_cons_self | apply List.mem_cons_of_mem)) agg_Obj (seg_all rfl)) rfl ?_); clear F a; intro a F
    refine l_step rfl (o_val F (r_build F rfl b_Obj) rfl ?_); clear F a; intro a F
    refine l_step rfl (o_val F (r_eql_Obj F rfl rfl) rfl ?_); clear F a; intro a F
    refine l_step rfl (o_val F (r_assign F rfl) rfl ?_); clear F a; intro a F
    refine l_nil ?_
    refine hK4 _ _ ?_
    refine wp_ret ?_
    exact ret1 Tryd.results67 M F (rv_tmp F rfl) (by simp [pObject, PObj.zero, (by simpa using g7 : x.there = false)])
  · skip
    refine wp_skip ?_
    refine hK2 _ _ ?_
    refine c_seq (fun K5 hK5 => ?_)
    refine c_seq (fun K6 hK6 => ?_)
    refine wp_region_lit ?_
    refine l_step rfl (o_val F (r_fieldAddr F rfl fld_Obj_2) rfl ?_); clear F a; intro a F
    refine l_step rfl (o_val F (r_load M F rfl (by repeat (first | exact List.mem_cons_self | apply List.mem_cons_of_mem)) agg_Attrs g_Obj_2) rfl ?_); clear F a; intro a F
    refine l_step rfl (o_val F (r_move F rfl) rfl ?_); clear F a; intro a F
    refine l_nil ?_
    refine hK6 _ _ ?_
    refine wp_block ?_
    refine c_loop (fun k a W => ∃ (i : Nat) (G : Ghost) , k = 3 - i ∧ i ≤ 3 ∧ Frm 24 [(13, .int .i64 (i : Int)), (12, agg x.encAttr), (1, .pointer (some ⟨b1, 0, none⟩))] a ∧ St [] w G0 W [⟨b1, 24, x.enc⟩] G ∧ (∀ j, j < i → ((x.attr j).size : Int) ≤ 16)) (3) ?_ ?_
    · exact ⟨0, _, rfl, Nat.zero_le _, (F.cons (F.cons (F.cons F.nil 1 rfl) 12 rfl) 13 rfl), M, (fun j h => absurd h (by omega))⟩
    · clear F M a; intro k a W hI; obtain ⟨i, G, hk, hi, F, M, hf⟩ := hI
      refine c_seq (fun K7 hK7 => ?_)
      refine wp_region_lit ?_
      refine l_step rfl (o_val F (r_lss_i64 F rfl rfl) rfl ?_); clear F a; intro a F
      refine l_nil ?_
      refine hK7 _ _ ?_
      refine c_seq (fun K8 hK8 => ?_)
      refine c_cond F rfl (fun g14 => ?_) (fun g14 => ?_)
      · skip
        have hlt : i < 3 := by have h := of_decide_eq_true g14; omega
        refine wp_skip ?_
        refine hK8 _ _ ?_
        refine c_seq (fun K9 hK9 => ?_)
        refine wp_block ?_
        refine c_seq (fun K10 hK10 => ?_)
        refine wp_region_lit ?_
        refine l_step rfl (o_val F (r_index1 F rfl rfl arr_Attrs sca_string (by omega) (by omega) (e_Attrs (by omega))) rfl ?_); clear F a; intro a F
        refine l_step rfl (o_val F (r_assign F rfl) rfl ?_); clear F a; intro a F
        refine l_nil ?_
        refine hK10 _ _ ?_
        refine c_seq (fun K11 hK11 => ?_)
        refine wp_region_lit ?_
        refine l_step rfl (o_val F (r_move F rfl) rfl ?_); clear F a; intro a F
        refine l_step rfl (o_val F (r_len_string F und_string rfl) rfl ?_); clear F a; intro a F
        refine l_step rfl (o_val F (r_gtr_i64 F rfl rfl) rfl ?_); clear F a; intro a F
        refine l_nil ?_
        refine hK11 _ _ ?_
        refine c_cond F rfl (fun g18 => ?_) (fun g18 => ?_)
        · skip
          refine c_seq (fun K12 hK12 => ?_)
          refine wp_region_lit ?_
          refine l_step rfl (o_val F (r_assign F rfl) rfl ?_); clear F a; intro a F
          refine l_nil ?_
          refine hK12 _ _ ?_
          refine wp_ret ?_
          exact ret1 Tryd.results67 M F (rv_tmp F rfl) (by rw [pObject, if_neg (by simpa using g7), all_f hlt (by simpa using g18)]; rfl)
        · skip
          refine wp_skip ?_
          refine hK9 _ _ ?_
          refine wp_region_lit ?_
          refine l_step rfl (o_val F (r_add_i64 F rfl rfl (by omega)) rfl ?_); clear F a; intro a F
          refine l_step rfl (o_val F (r_move F rfl) rfl ?_); clear F a; intro a F
          refine l_nil ?_
          exact ⟨3 - (i + 1), by omega, i + 1, _, rfl, by omega, (F.cons (F.cons (F.cons F.nil 1 rfl) 12 rfl) 13 rfl), M.drop (by repeat (first | exact List.Sublist.refl _ | apply List.Sublist.cons_cons | apply List.Sublist.cons)), (fun j h => by rcases Nat.lt_succ_iff_lt_or_eq.1 h with h | h; exact hf j h; subst h; simpa using g18)⟩
      · skip
        have hge : i = 3 := by have h := of_decide_eq_false g14; omega
        refine wp_exit ?_
        refine hK5 _ _ ?_
        refine c_seq (fun K13 hK13 => ?_)
        refine wp_region_lit ?_
        refine l_step rfl (o_val F (r_fieldAddr F rfl fld_Obj_1) rfl ?_); clear F a; intro a F
        refine l_step rfl (o_val F (r_load1 M F rfl (by repeat (first | exact List.mem_cons_self | apply List.mem_cons_of_mem)) sca_string rfl) rfl ?_); clear F a; intro a F
        refine l_step rfl (o_val F (r_len_string F und_string rfl) rfl ?_); clear F a; intro a F
        refine l_step rfl (o_val F (r_leq_i64 F rfl rfl) rfl ?_); clear F a; intro a F
        refine l_step rfl (o_val F (r_assign F rfl) rfl ?_); clear F a; intro a F
        refine l_nil ?_
        refine hK13 _ _ ?_
        refine wp_ret ?_
        exact ret1 Tryd.results67 M F (rv_tmp F rfl) (by subst hge; rw [pObject, if_neg (by simpa using g7), all_t (fun j h => by simpa using hf j h)]; rfl)
theorem c_pglog_base {w : World} {G0 : Ghost} (hI : Imm G0 w) {b : PBase} : Ret P 58 [agg b.enc] [] w G0 (fun G W v => v = .bool (pBase b)) := by
  refine enter Tryd.func58 rfl Tryd.ntmps58 rfl rfl hI (fun a F M => ?_)
  refine c_seq (fun K1 hK1 => ?_)
  refine wp_region_lit ?_
  refine l_step rfl (o_box M F rfl rfl ?_); clear F a; intro a W1 b1 M F
  refine l_step rfl (o_val F (r_assign F rfl) rfl ?_); clear F a; intro a F
  refine l_nil ?_
  refine hK1 _ _ ?_
  refine c_seq (fun K2 hK2 => ?_)
  refine c_seq (fun K3 hK3 => ?_)
  refine wp_region_lit ?_
  refine l_step rfl (o_val F (r_fieldAddr F rfl fld_Base_0) rfl ?_); clear F a; intro a F
  refine l_step rfl (o_val F (r_load M F rfl (by repeat (first | exact List.mem_cons_self | apply List.mem_cons_of_mem)) agg_Objs g_Base_0) rfl ?_); clear F a; intro a F
  refine l_step rfl (o_val F (r_move F rfl) rfl ?_); clear F a; intro a F
  refine l_nil ?_
  refine hK3 _ _ ?_
  refine wp_block ?_
  refine c_loop (fun k a W => ∃ (i : Nat) (G : Ghost) , k = 6 - i ∧ i ≤ 6 ∧ Frm 42 [(9, .int .i64 (i : Int)), (8, agg b.encObjs), (1, .pointer (some ⟨b1, 0, none⟩))] a ∧ St [] w G0 W [⟨b1, 33, b.enc⟩] G ∧ (∀ j, j < i → pObject (b.obj j) = true)) (6) ?_ ?_
  · exact ⟨0, _, rfl, Nat.zero_le _, (F.cons (F.cons (F.cons F.nil 1 rfl) 8 rfl) 9 rfl), M, (fun j h => absurd h (by omega))⟩
  · clear F M a; intro k a W hI; obtain ⟨i, G, hk, hi, F, M, hf⟩ := hI
    refine c_seq (fun K4 hK4 => ?_)
    refine wp_region_lit ?_
    refine l_step rfl (o_val F (r_lss_i64 F rfl rfl) rfl ?_); clear F a; intro a F
    refine l_nil ?_
    refine hK4 _ _ ?_
    refine c_seq (fun K5 hK5 => ?_)
    refine c_cond F rfl (fun g10 => ?_) (fun g10 => ?_)
    · skip
      have hlt : i < 6 := by have h := of_decide_eq_true g10; omega
      refine wp_skip ?_
      refine hK5 _ _ ?_
      refine c_seq (fun K6 hK6 => ?_)
      refine wp_block ?_
      refine c_seq (fun K7 hK7 => ?_)
      refine wp_region_lit ?_
      refine l_step rfl (o_val F (r_index F rfl rfl arr_Objs agg_Obj (by omega) (by omega) (e_Objs (by omega))) rfl ?_); clear F a; intro a F
      refine l_step rfl (o_alloc M F zer_Obj rfl ?_); clear F a; intro a W2 b2 M F
      refine l_step rfl (o_storeA M F rfl rfl agg_Obj.size (by repeat (first | exact Upd.here _ _ _ _ _ | apply Upd.there)) (by rfl) (by rfl) (by rfl) ?_); clear F a; intro a W3 M F
      refine l_nil ?_
      refine hK7 _ _ ?_
      refine c_seq (fun K8 hK8 => ?_)
      refine wp_region_lit ?_
      refine l_step rfl (o_val F (r_load M F rfl (by repeat (first | exact List.mem_cons_self | apply List.mem_cons_of_mem)) agg_Obj (seg_all rfl)) rfl ?_); clear F a; intro a F
      refine l_step rfl (o_call M F rfl (c_pglog_object M.imm) rfl ?_); clear F a; intro a W4 v4 G4 hp4 M E4 F
      subst hp4
      refine l_step rfl (o_val F (r_not F rfl) rfl ?_); clear F a; intro a F
      refine l_nil ?_
      refine hK8 _ _ ?_
      refine c_cond F rfl (fun g14 => ?_) (fun g14 => ?_)
      · skip
        refine c_seq (fun K9 hK9 => ?_)
        refine wp_region_lit ?_
        refine l_step rfl (o_val F (r_assign F rfl) rfl ?_); clear F a; intro a F
        refine l_nil ?_
        refine hK9 _ _ ?_
        refine wp_ret ?_
        exact ret1 Tryd.results58 M F (rv_tmp F rfl) (by first | (rw [pBase_f1 hlt (by simpa using g14)]; done) | (rw [pBase_f2 hlt (by clear hI M F hK1 hK2 hK3 hK4 hK5 hK6 hK7 hK8 hK9; simp_all [pLast])]; done) | (subst hge; rw [pBase_t hf0 hf]; done))
      · skip
        refine wp_skip ?_
        refine hK6 _ _ ?_
        refine wp_region_lit ?_
        refine l_step rfl (o_val F (r_add_i64 F rfl rfl (by omega)) rfl ?_); clear F a; intro a F
        refine l_step rfl (o_val F (r_move F rfl) rfl ?_); clear F a; intro a F
        refine l_nil ?_
        exact ⟨6 - (i + 1), by omega, i + 1, _, rfl, by omega, (F.cons (F.cons (F.cons F.nil 1 rfl) 8 rfl) 9 rfl), M.drop (by repeat (first | exact List.Sublist.refl _ | apply List.Sublist.cons_cons | apply List.Sublist.cons)), (fun j h => by rcases Nat.lt_succ_iff_lt_or_eq.1 h with h | h; exact hf j h; subst h; simpa using g14)⟩
    · skip
      have hge : i = 6 := by have h := of_decide_eq_false g10; omega
      subst hge
      have hf0 := hf
      refine wp_exit ?_
      refine hK2 _ _ ?_
      refine c_seq (fun K10 hK10 => ?_)
      refine c_seq (fun K11 hK11 => ?_)
      refine wp_region_lit ?_
      refine l_step rfl (o_val F (r_fieldAddr F rfl fld_Base_1) rfl ?_); clear F a; intro a F
      refine l_step rfl (o_val F (r_load M F rfl (by repeat (first | exact List.mem_cons_self | apply List.mem_cons_of_mem)) agg_Lasts g_Base_1) rfl ?_); clear F a; intro a F
      refine l_step rfl (o_val F (r_move F rfl) rfl ?_); clear F a; intro a F
      refine l_nil ?_
      refine hK11 _ _ ?_
      refine wp_block ?_
      refine c_loop (fun k a W => ∃ (i : Nat) (G : Ghost) , k = 3 - i ∧ i ≤ 3 ∧ Frm 42 [(18, .int .i64 (i : Int)), (17, agg b.encLasts), (1, .pointer (some ⟨b1, 0, none⟩))] a ∧ St [] w G0 W [⟨b1, 33, b.enc⟩] G ∧ (∀ j, j < i → pLast (b.last j) = true)) (3) ?_ ?_
      · exact ⟨0, _, rfl, Nat.zero_le _, (F.cons (F.cons (F.cons F.nil 1 rfl) 17 rfl) 18 rfl), M, (fun j h => absurd h (by omega))⟩
      · clear F M a; intro k a W hI; obtain ⟨i, G, hk, hi, F, M, hf⟩ := hI
        refine c_seq (fun K12 hK12 => ?_)
        refine wp_region_lit ?_
        refine l_step rfl (o_val F (r_lss_i64 F rfl rfl) rfl ?_); clear F a; intro a F
        refine l_nil ?_
        refine hK12 _ _ ?_
        refine c_seq (fun K13 hK13 => ?_)
        refine c_cond F rfl (fun g19 => ?_) (fun g19 => ?_)
        · skip
          have hlt : i < 3 := by have h := of_decide_eq_true g19; omega
          refine wp_skip ?_
          refine hK13 _ _ ?_
          refine c_seq (fun K14 hK14 => ?_)
          refine wp_block ?_
          refine c_seq (fun K15 hK15 => ?_)
          refine wp_region_lit ?_
          refine l_step rfl (o_val F (r_index F rfl rfl arr_Lasts agg_Last (by omega) (by omega) (e_Lasts (by omega))) rfl ?_); clear F a; intro a F
          refine l_step rfl (o_alloc M F zer_Last rfl ?_); clear F a; intro a W5 b3 M F
          refine l_step rfl (o_storeA M F rfl rfl agg_Last.size (by repeat (first | exact Upd.here _ _ _ _ _ | apply Upd.there)) (by rfl) (by rfl) (by rfl) ?_); clear F a; intro a W6 M F
          refine l_nil ?_
          refine hK15 _ _ ?_
          refine c_seq (fun K16 hK16 => ?_)
          refine wp_region_lit ?_
          refine l_step rfl (o_val F (r_fieldAddr F rfl fld_Last_1) rfl ?_); clear F a; intro a F
          refine l_step rfl (o_val F (r_fieldAddr F rfl fld_Res_1) rfl ?_); clear F a; intro a F
          refine l_step rfl (o_val F (r_load1 M F rfl (by repeat (first | exact List.mem_cons_self | apply List.mem_cons_of_mem)) sca_string rfl) rfl ?_); clear F a; intro a F
          refine l_step rfl (o_val F (r_neq_string F rfl rfl) rfl ?_); clear F a; intro a F
          refine l_step rfl (o_val F (r_move F rfl) rfl ?_); clear F a; intro a F
          refine c_split F (i := 25) rfl (fun g25 => ?_) (fun g25 => ?_)
          · skip
            iterate 4 (refine l_skip F rfl rfl rfl g25 rfl rfl ?_; clear F a; intro a F)
            refine l_step rfl (o_val F (r_pick_t F rfl g25 rfl) rfl ?_); clear F a; intro a F
            refine l_step rfl (o_val F (r_move F rfl) rfl ?_); clear F a; intro a F
            iterate 4 (refine l_skip F rfl rfl rfl rfl rfl rfl ?_; clear F a; intro a F)
            iterate 3 (refine l_skipu F rfl rfl rfl rfl rfl ?_; clear F a; intro a F)
            iterate 1 (refine l_skip F rfl rfl rfl rfl rfl rfl ?_; clear F a; intro a F)
            refine l_step rfl (o_val F (r_pick_t F rfl rfl rfl) rfl ?_); clear F a; intro a F
            refine l_nil ?_
            refine hK16 _ _ ?_
            refine c_true F rfl rfl ?_
            refine c_seq (fun K17 hK17 => ?_)
            refine wp_region_lit ?_
            refine l_step rfl (o_val F (r_assign F rfl) rfl ?_); clear F a; intro a F
            refine l_nil ?_
            refine hK17 _ _ ?_
            refine wp_ret ?_
            exact ret1 Tryd.results58 M F (rv_tmp F rfl) (by first | (rw [pBase_f1 hlt (by simpa using g14)]; done) | (rw [pBase_f2 hlt (by clear hI M F hK1 hK2 hK3 hK4 hK5 hK10 hK11 hK12 hK13 hK14 hK15 hK16 hK17; simp_all [pLast])]; done) | (subst hge; rw [pBase_t hf0 hf]; done))
          · skip
            refine l_guard F rfl rfl rfl g25 (o_val F (r_fieldAddr F rfl fld_Last_1) rfl ?_); clear F a; intro a F
            refine l_guard F rfl rfl rfl g25 (o_val F (r_fieldAddr F rfl fld_Res_0) rfl ?_); clear F a; intro a F
            refine l_guard F rfl rfl rfl g25 (o_val F (r_load1 M F rfl (by repeat (first | exact List.mem_cons_self | apply List.mem_cons_of_mem)) sca_u8 rfl) rfl ?_); clear F a; intro a F
            refine l_guard F rfl rfl rfl g25 (o_val F (r_gtr_u8 F (y := 3) rfl rfl) rfl ?_); clear F a; intro a F
            refine l_step rfl (o_val F (r_pick_f F rfl g25 rfl) rfl ?_); clear F a; intro a F
            refine l_step rfl (o_val F (r_move F rfl) rfl ?_); clear F a; intro a F
            refine c_split F (i := 31) rfl (fun g31 => ?_) (fun g31 => ?_)
            · skip
              iterate 4 (refine l_skip F rfl rfl rfl g31 rfl rfl ?_; clear F a; intro a F)
              iterate 3 (refine l_skipu F rfl rfl rfl rfl rfl ?_; clear F a; intro a F)
              iterate 1 (refine l_skip F rfl rfl rfl g31 rfl rfl ?_; clear F a; intro a F)
              refine l_step rfl (o_val F (r_pick_t F rfl g31 rfl) rfl ?_); clear F a; intro a F
              refine l_nil ?_
              refine hK16 _ _ ?_
              refine c_true F rfl rfl ?_
              refine c_seq (fun K18 hK18 => ?_)
              refine wp_region_lit ?_
              refine l_step rfl (o_val F (r_assign F rfl) rfl ?_); clear F a; intro a F
              refine l_nil ?_
              refine hK18 _ _ ?_
              refine wp_ret ?_
              exact ret1 Tryd.results58 M F (rv_tmp F rfl) (by first | (rw [pBase_f1 hlt (by simpa using g14)]; done) | (rw [pBase_f2 hlt (by clear hI M F hK1 hK2 hK3 hK4 hK5 hK10 hK11 hK12 hK13 hK14 hK15 hK16 hK18; simp_all [pLast])]; done) | (subst hge; rw [pBase_t hf0 hf]; done))
            · skip
              refine l_guard F rfl rfl rfl g31 (o_val F (r_fieldAddr F rfl fld_Last_0) rfl ?_); clear F a; intro a F
              refine l_guard F rfl rfl rfl g31 (o_val F (r_load1 M F rfl (by repeat (first | exact List.mem_cons_self | apply List.mem_cons_of_mem)) sca_u32 rfl) rfl ?_); clear F a; intro a F
              refine l_guard F rfl rfl rfl g31 (o_val F (r_eql_u32 F (y := 0) rfl rfl) rfl ?_); clear F a; intro a F
              refine l_guard F rfl rfl rfl g31 (o_val F (r_move F rfl) rfl ?_); clear F a; intro a F
              refine c_split F (i := 35) rfl (fun g35 => ?_) (fun g35 => ?_)
              · skip
                refine l_guard F rfl rfl rfl g35 (o_val F (r_load M F rfl (by repeat (first | exact List.mem_cons_self | apply List.mem_cons_of_mem)) agg_Last (seg_all rfl)) rfl ?_); clear F a; intro a F
                refine l_guard F rfl rfl rfl g35 (o_val F (r_build F rfl b_Last) rfl ?_); clear F a; intro a F
                refine l_guard F rfl rfl rfl g35 (o_val F (r_neq_Last F rfl rfl) rfl ?_); clear F a; intro a F
                refine l_guard F rfl rfl rfl g31 (o_val F (r_pick_t F rfl g35 rfl) rfl ?_); clear F a; intro a F
                refine l_step rfl (o_val F (r_pick_f F rfl g31 rfl) rfl ?_); clear F a; intro a F
                refine l_nil ?_
                refine hK16 _ _ ?_
                refine c_cond F rfl (fun g40 => ?_) (fun g40 => ?_)
                · skip
                  refine c_seq (fun K19 hK19 => ?_)
                  refine wp_region_lit ?_
                  refine l_step rfl (o_val F (r_assign F rfl) rfl ?_); clear F a; intro a F
                  refine l_nil ?_
                  refine hK19 _ _ ?_
                  refine wp_ret ?_
                  exact ret1 Tryd.results58 M F (rv_tmp F rfl) (by first | (rw [pBase_f1 hlt (by simpa using g14)]; done) | (rw [pBase_f2 hlt (by clear hI M F hK1 hK2 hK3 hK4 hK5 hK10 hK11 hK12 hK13 hK14 hK15 hK16 hK19; simp_all [pLast])]; done) | (subst hge; rw [pBase_t hf0 hf]; done))
                · skip
                  refine wp_skip ?_
                  refine hK14 _ _ ?_
                  refine wp_region_lit ?_
                  refine l_step rfl (o_val F (r_add_i64 F rfl rfl (by omega)) rfl ?_); clear F a; intro a F
                  refine l_step rfl (o_val F (r_move F rfl) rfl ?_); clear F a; intro a F
                  refine l_nil ?_
                  exact ⟨3 - (i + 1), by omega, i + 1, _, rfl, by omega, (F.cons (F.cons (F.cons F.nil 1 rfl) 17 rfl) 18 rfl), M.drop (by repeat (first | exact List.Sublist.refl _ | apply List.Sublist.cons_cons | apply List.Sublist.cons)), (fun j h => by rcases Nat.lt_succ_iff_lt_or_eq.1 h with h | h; exact hf j h; subst h; simp_all [pLast])⟩
              · skip
                iterate 3 (refine l_skip F rfl rfl rfl g35 rfl rfl ?_; clear F a; intro a F)
                refine l_guard F rfl rfl rfl g31 (o_val F (r_pick_f F rfl g35 rfl) rfl ?_); clear F a; intro a F
                refine l_step rfl (o_val F (r_pick_f F rfl g31 rfl) rfl ?_); clear F a; intro a F
                refine l_nil ?_
                refine hK16 _ _ ?_
                refine c_false F rfl rfl ?_
                refine wp_skip ?_
                refine hK14 _ _ ?_
                refine wp_region_lit ?_
                refine l_step rfl (o_val F (r_add_i64 F rfl rfl (by omega)) rfl ?_); clear F a; intro a F
                refine l_step rfl (o_val F (r_move F rfl) rfl ?_); clear F a; intro a F
                refine l_nil ?_
                exact ⟨3 - (i + 1), by omega, i + 1, _, rfl, by omega, (F.cons (F.cons (F.cons F.nil 1 rfl) 17 rfl) 18 rfl), M.drop (by repeat (first | exact List.Sublist.refl _ | apply List.Sublist.cons_cons | apply List.Sublist.cons)), (fun j h => by rcases Nat.lt_succ_iff_lt_or_eq.1 h with h | h; exact hf j h; subst h; simp_all [pLast])⟩
        · skip
          have hge : i = 3 := by have h := of_decide_eq_false g19; omega
          refine wp_exit ?_
          refine hK10 _ _ ?_
          refine c_seq (fun K20 hK20 => ?_)
          refine wp_region_lit ?_
          refine l_step rfl (o_val F (r_assign F rfl) rfl ?_); clear F a; intro a F
          refine l_nil ?_
          refine hK20 _ _ ?_
          refine wp_ret ?_
          exact ret1 Tryd.results58 M F (rv_tmp F rfl) (by first | (rw [pBase_f1 hlt (by simpa using g14)]; done) | (rw [pBase_f2 hlt (by clear hI M F hK1 hK2 hK3 hK4 hK5 hK10 hK11 hK12 hK13 hK20; simp_all [pLast])]; done) | (subst hge; rw [pBase_t hf0 hf]; done))
theorem c_pglog_next {w : World} {G0 : Ghost} (hI : Imm G0 w) {x e : PEntry} : Ret P 47 [agg x.enc, agg e.enc] [] w G0 (fun G W v => v = .bool (pNext x e)) := by
  refine enter Tryd.func47 rfl Tryd.ntmps47 rfl rfl hI (fun a F M => ?_)
  refine c_seq (fun K1 hK1 => ?_)
  refine wp_region_lit ?_
  refine l_step rfl (o_box M F rfl rfl ?_); clear F a; intro a W1 b1 M F
  refine l_step rfl (o_box M F rfl rfl ?_); clear F a; intro a W2 b2 M F
  refine l_step rfl (o_val F (r_assign F rfl) rfl ?_); clear F a; intro a F
  refine l_nil ?_
  refine hK1 _ _ ?_
  refine c_seq (fun K2 hK2 => ?_)
  refine wp_region_lit ?_
  refine l_step rfl (o_val F (r_fieldAddr F rfl fld_Entry_2) rfl ?_); clear F a; intro a F
  refine l_step rfl (o_val F (r_load M F rfl (by repeat (first | exact List.mem_cons_self | apply List.mem_cons_of_mem)) agg_Op g_Entry_2) rfl ?_); clear F a; intro a F
  refine l_step rfl (o_call M F rfl (c_objects_Writes M.imm) rfl ?_); clear F a; intro a W3 v3 G3 hp3 M E3 F
  subst hp3
  refine l_step rfl (o_val F (r_move F rfl) rfl ?_); clear F a; intro a F
  refine c_split F (i := 8) rfl (fun g8 => ?_) (fun g8 => ?_)
  · skip
    refine l_guard F rfl rfl rfl g8 (o_val F (r_fieldAddr F rfl fld_Entry_1) rfl ?_); clear F a; intro a F
    refine l_guard F rfl rfl rfl g8 (o_val F (r_load1 M F rfl (by repeat (first | exact List.mem_cons_self | apply List.mem_cons_of_mem)) sca_u32 rfl) rfl ?_); clear F a; intro a F
    refine l_guard F rfl rfl rfl g8 (o_val F (r_fieldAddr F rfl fld_Entry_1) rfl ?_); clear F a; intro a F
    refine l_guard F rfl rfl rfl g8 (o_val F (r_load1 M F rfl (by repeat (first | exact List.mem_cons_self | apply List.mem_cons_of_mem)) sca_u32 rfl) rfl ?_); clear F a; intro a F
    refine l_guard F rfl rfl rfl g8 (o_val F (r_add_u32 F (y := 1) rfl rfl) rfl ?_); clear F a; intro a F
    refine l_guard F rfl rfl rfl g8 (o_val F (r_eql_u32 F rfl rfl) rfl ?_); clear F a; intro a F
    refine l_step rfl (o_val F (r_pick_t F rfl g8 rfl) rfl ?_); clear F a; intro a F
    refine l_step rfl (o_val F (r_move F rfl) rfl ?_); clear F a; intro a F
    refine c_split F (i := 16) rfl (fun g16 => ?_) (fun g16 => ?_)
    · skip
      refine l_guard F rfl rfl rfl g16 (o_val F (r_fieldAddr F rfl fld_Entry_1) rfl ?_); clear F a; intro a F
      refine l_guard F rfl rfl rfl g16 (o_val F (r_load1 M F rfl (by repeat (first | exact List.mem_cons_self | apply List.mem_cons_of_mem)) sca_u32 rfl) rfl ?_); clear F a; intro a F
      refine l_guard F rfl rfl rfl g16 (o_val F (r_fieldAddr F rfl fld_Entry_1) rfl ?_); clear F a; intro a F
      refine l_guard F rfl rfl rfl g16 (o_val F (r_load1 M F rfl (by repeat (first | exact List.mem_cons_self | apply List.mem_cons_of_mem)) sca_u32 rfl) rfl ?_); clear F a; intro a F
      refine l_guard F rfl rfl rfl g16 (o_val F (r_gtr_u32 F rfl rfl) rfl ?_); clear F a; intro a F
      refine l_step rfl (o_val F (r_pick_t F rfl g16 rfl) rfl ?_); clear F a; intro a F
      refine l_step rfl (o_val F (r_move F rfl) rfl ?_); clear F a; intro a F
      refine c_split F (i := 23) rfl (fun g23 => ?_) (fun g23 => ?_)
      · skip
        refine l_guard F rfl rfl rfl g23 (o_val F (r_fieldAddr F rfl fld_Entry_0) rfl ?_); clear F a; intro a F
        refine l_guard F rfl rfl rfl g23 (o_val F (r_load1 M F rfl (by repeat (first | exact List.mem_cons_self | apply List.mem_cons_of_mem)) sca_u32 rfl) rfl ?_); clear F a; intro a F
        refine l_guard F rfl rfl rfl g23 (o_val F (r_fieldAddr F rfl fld_Entry_0) rfl ?_); clear F a; intro a F
        refine l_guard F rfl rfl rfl g23 (o_val F (r_load1 M F rfl (by repeat (first | exact List.mem_cons_self | apply List.mem_cons_of_mem)) sca_u32 rfl) rfl ?_); clear F a; intro a F
        refine l_guard F rfl rfl rfl g23 (o_val F (r_geq_u32 F rfl rfl) rfl ?_); clear F a; intro a F
        refine l_step rfl (o_val F (r_pick_t F rfl g23 rfl) rfl ?_); clear F a; intro a F
        refine l_step rfl (o_val F (r_move F rfl) rfl ?_); clear F a; intro a F
        refine c_split F (i := 30) rfl (fun g30 => ?_) (fun g30 => ?_)
        · skip
          refine l_guard F rfl rfl rfl g30 (o_val F (r_fieldAddr F rfl fld_Entry_0) rfl ?_); clear F a; intro a F
          refine l_guard F rfl rfl rfl g30 (o_val F (r_load1 M F rfl (by repeat (first | exact List.mem_cons_self | apply List.mem_cons_of_mem)) sca_u32 rfl) rfl ?_); clear F a; intro a F
          refine l_guard F rfl rfl rfl g30 (o_val F (r_leq_u32 F (y := 60) rfl rfl) rfl ?_); clear F a; intro a F
          refine l_step rfl (o_val F (r_pick_t F rfl g30 rfl) rfl ?_); clear F a; intro a F
          refine l_step rfl (o_val F (r_assign F rfl) rfl ?_); clear F a; intro a F
          refine l_nil ?_
          refine hK2 _ _ ?_
          refine wp_ret ?_
          exact ret1 Tryd.results47 M F (rv_tmp F rfl) (by clear hI M F hK1 hK2; simp_all [pNext, -UInt8.not_le, -UInt8.not_lt, -UInt32.not_le, -UInt32.not_lt, -Int.not_lt, -Int.not_le, -Nat.not_lt, -Nat.not_le])
        · skip
          iterate 3 (refine l_skip F rfl rfl rfl g30 rfl rfl ?_; clear F a; intro a F)
          refine l_step rfl (o_val F (r_pick_f F rfl g30 rfl) rfl ?_); clear F a; intro a F
          refine l_step rfl (o_val F (r_assign F rfl) rfl ?_); clear F a; intro a F
          refine l_nil ?_
          refine hK2 _ _ ?_
          refine wp_ret ?_
          exact ret1 Tryd.results47 M F (rv_tmp F rfl) (by clear hI M F hK1 hK2; simp_all [pNext, -UInt8.not_le, -UInt8.not_lt, -UInt32.not_le, -UInt32.not_lt, -Int.not_lt, -Int.not_le, -Nat.not_lt, -Nat.not_le])
      · skip
        iterate 5 (refine l_skip F rfl rfl rfl g23 rfl rfl ?_; clear F a; intro a F)
        refine l_step rfl (o_val F (r_pick_f F rfl g23 rfl) rfl ?_); clear F a; intro a F
        refine l_step rfl (o_val F (r_move F rfl) rfl ?_); clear F a; intro a F
        iterate 3 (refine l_skip F rfl rfl rfl rfl rfl rfl ?_; clear F a; intro a F)
        refine l_step rfl (o_val F (r_pick_f F rfl rfl rfl) rfl ?_); clear F a; intro a F
        refine l_step rfl (o_val F (r_assign F rfl) rfl ?_); clear F a; intro a F
        refine l_nil ?_
        refine hK2 _ _ ?_
        refine wp_ret ?_
        exact ret1 Tryd.results47 M F (rv_tmp F rfl) (by clear hI M F hK1 hK2; simp_all [pNext, -UInt8.not_le, -UInt8.not_lt, -UInt32.not_le, -UInt32.not_lt, -Int.not_lt, -Int.not_le, -Nat.not_lt, -Nat.not_le])
    · skip
      iterate 5 (refine l_skip F rfl rfl rfl g16 rfl rfl ?_; clear F a; intro a F)
      refine l_step rfl (o_val F (r_pick_f F rfl g16 rfl) rfl ?_); clear F a; intro a F
      refine l_step rfl (o_val F (r_move F rfl) rfl ?_); clear F a; intro a F
      iterate 5 (refine l_skip F rfl rfl rfl rfl rfl rfl ?_; clear F a; intro a F)
      refine l_step rfl (o_val F (r_pick_f F rfl rfl rfl) rfl ?_); clear F a; intro a F
      refine l_step rfl (o_val F (r_move F rfl) rfl ?_); clear F a; intro a F
      iterate 3 (refine l_skip F rfl rfl rfl rfl rfl rfl ?_; clear F a; intro a F)
      refine l_step rfl (o_val F (r_pick_f F rfl rfl rfl) rfl ?_); clear F a; intro a F
      refine l_step rfl (o_val F (r_assign F rfl) rfl ?_); clear F a; intro a F
      refine l_nil ?_
      refine hK2 _ _ ?_
      refine wp_ret ?_
      exact ret1 Tryd.results47 M F (rv_tmp F rfl) (by clear hI M F hK1 hK2; simp_all [pNext, -UInt8.not_le, -UInt8.not_lt, -UInt32.not_le, -UInt32.not_lt, -Int.not_lt, -Int.not_le, -Nat.not_lt, -Nat.not_le])
  · skip
    iterate 6 (refine l_skip F rfl rfl rfl g8 rfl rfl ?_; clear F a; intro a F)
    refine l_step rfl (o_val F (r_pick_f F rfl g8 rfl) rfl ?_); clear F a; intro a F
    refine l_step rfl (o_val F (r_move F rfl) rfl ?_); clear F a; intro a F
    iterate 5 (refine l_skip F rfl rfl rfl rfl rfl rfl ?_; clear F a; intro a F)
    refine l_step rfl (o_val F (r_pick_f F rfl rfl rfl) rfl ?_); clear F a; intro a F
    refine l_step rfl (o_val F (r_move F rfl) rfl ?_); clear F a; intro a F
    iterate 5 (refine l_skip F rfl rfl rfl rfl rfl rfl ?_; clear F a; intro a F)
    refine l_step rfl (o_val F (r_pick_f F rfl rfl rfl) rfl ?_); clear F a; intro a F
    refine l_step rfl (o_val F (r_move F rfl) rfl ?_); clear F a; intro a F
    iterate 3 (refine l_skip F rfl rfl rfl rfl rfl rfl ?_; clear F a; intro a F)
    refine l_step rfl (o_val F (r_pick_f F rfl rfl rfl) rfl ?_); clear F a; intro a F
    refine l_step rfl (o_val F (r_assign F rfl) rfl ?_); clear F a; intro a F
    refine l_nil ?_
    refine hK2 _ _ ?_
    refine wp_ret ?_
    exact ret1 Tryd.results47 M F (rv_tmp F rfl) (by clear hI M F hK1 hK2; simp_all [pNext, -UInt8.not_le, -UInt8.not_lt, -UInt32.not_le, -UInt32.not_lt, -Int.not_lt, -Int.not_le, -Nat.not_lt, -Nat.not_le])
theorem c_pglog_Is {w : World} {G0 : Ghost} (hI : Imm G0 w) {s : PState} {l : Sl} (hl : Ens G0 l s.log) : Ret P 38 [agg (GState.enc (s.at l))] [] w G0 (fun G W v => v = .bool (pIs s)) := by
  refine enter Tryd.func38 rfl Tryd.ntmps38 rfl rfl hI (fun a F M => ?_)
  have hlen := hl.len
  have hlen2 : (s.at l).log.len = s.log.length := hl.len
  have hmax := hl.rd.max
  have hcap := hl.rd.cap
  refine c_seq (fun K1 hK1 => ?_)
  refine wp_region_lit ?_
  refine l_step rfl (o_box M F rfl rfl ?_); clear F a; intro a W1 b1 M F
  refine l_step rfl (o_val F (r_assign F rfl) rfl ?_); clear F a; intro a F
  refine l_nil ?_
  refine hK1 _ _ ?_
  refine c_seq (fun K2 hK2 => ?_)
  refine c_seq (fun K3 hK3 => ?_)
  refine wp_region_lit ?_
  refine l_step rfl (o_val F (r_fieldAddr F rfl fld_State_0) rfl ?_); clear F a; intro a F
  refine l_step rfl (o_val F (r_load1 M F rfl (by repeat (first | exact List.mem_cons_self | apply List.mem_cons_of_mem)) sca_u32 rfl) rfl ?_); clear F a; intro a F
  refine l_step rfl (o_val F (r_gtr_u32 F (y := 60) rfl rfl) rfl ?_); clear F a; intro a F
  refine l_step rfl (o_val F (r_move F rfl) rfl ?_); clear F a; intro a F
  refine c_split F (i := 9) rfl (fun g9 => ?_) (fun g9 => ?_)
  · skip
    iterate 4 (refine l_skip F rfl rfl rfl g9 rfl rfl ?_; clear F a; intro a F)
    refine l_step rfl (o_val F (r_pick_t F rfl g9 rfl) rfl ?_); clear F a; intro a F
    refine l_step rfl (o_val F (r_move F rfl) rfl ?_); clear F a; intro a F
    iterate 5 (refine l_skip F rfl rfl rfl rfl rfl rfl ?_; clear F a; intro a F)
    refine l_step rfl (o_val F (r_pick_t F rfl rfl rfl) rfl ?_); clear F a; intro a F
    refine l_step rfl (o_val F (r_move F rfl) rfl ?_); clear F a; intro a F
    iterate 4 (refine l_skip F rfl rfl rfl rfl rfl rfl ?_; clear F a; intro a F)
    refine l_step rfl (o_val F (r_pick_t F rfl rfl rfl) rfl ?_); clear F a; intro a F
    refine l_step rfl (o_val F (r_move F rfl) rfl ?_); clear F a; intro a F
    iterate 4 (refine l_skip F rfl rfl rfl rfl rfl rfl ?_; clear F a; intro a F)
    refine l_step rfl (o_val F (r_pick_t F rfl rfl rfl) rfl ?_); clear F a; intro a F
    refine l_nil ?_
    refine hK3 _ _ ?_
    refine c_true F rfl rfl ?_
    refine c_seq (fun K4 hK4 => ?_)
    refine wp_region_lit ?_
    refine l_step rfl (o_val F (r_assign F rfl) rfl ?_); clear F a; intro a F
    refine l_nil ?_
    refine hK4 _ _ ?_
    refine wp_ret ?_
    exact ret1 Tryd.results38 M F (rv_tmp F rfl) (by clear hI M F hK1 hK2 hK3 hK4; simp_all [pIs, -UInt8.not_le, -UInt8.not_lt, -UInt32.not_le, -UInt32.not_lt, -Int.not_lt, -Int.not_le, -Nat.not_lt, -Nat.not_le])
  · skip
    refine l_guard F rfl rfl rfl g9 (o_val F (r_fieldAddr F rfl fld_State_2) rfl ?_); clear F a; intro a F
    refine l_guard F rfl rfl rfl g9 (o_val F (r_fieldAddr F rfl fld_Entry_0) rfl ?_); clear F a; intro a F
    refine l_guard F rfl rfl rfl g9 (o_val F (r_load1 M F rfl (by repeat (first | exact List.mem_cons_self | apply List.mem_cons_of_mem)) sca_u32 rfl) rfl ?_); clear F a; intro a F
    refine l_guard F rfl rfl rfl g9 (o_val F (r_gtr_u32 F (y := 60) rfl rfl) rfl ?_); clear F a; intro a F
    refine l_step rfl (o_val F (r_pick_f F rfl g9 rfl) rfl ?_); clear F a; intro a F
    refine l_step rfl (o_val F (r_move F rfl) rfl ?_); clear F a; intro a F
    refine c_split F (i := 15) rfl (fun g15 => ?_) (fun g15 => ?_)
    · skip
      iterate 5 (refine l_skip F rfl rfl rfl g15 rfl rfl ?_; clear F a; intro a F)
      refine l_step rfl (o_val F (r_pick_t F rfl g15 rfl) rfl ?_); clear F a; intro a F
      refine l_step rfl (o_val F (r_move F rfl) rfl ?_); clear F a; intro a F
      iterate 4 (refine l_skip F rfl rfl rfl rfl rfl rfl ?_; clear F a; intro a F)
      refine l_step rfl (o_val F (r_pick_t F rfl rfl rfl) rfl ?_); clear F a; intro a F
      refine l_step rfl (o_val F (r_move F rfl) rfl ?_); clear F a; intro a F
      iterate 4 (refine l_skip F rfl rfl rfl rfl rfl rfl ?_; clear F a; intro a F)
      refine l_step rfl (o_val F (r_pick_t F rfl rfl rfl) rfl ?_); clear F a; intro a F
      refine l_nil ?_
      refine hK3 _ _ ?_
      refine c_true F rfl rfl ?_
      refine c_seq (fun K5 hK5 => ?_)
      refine wp_region_lit ?_
      refine l_step rfl (o_val F (r_assign F rfl) rfl ?_); clear F a; intro a F
      refine l_nil ?_
      refine hK5 _ _ ?_
      refine wp_ret ?_
      exact ret1 Tryd.results38 M F (rv_tmp F rfl) (by clear hI M F hK1 hK2 hK3 hK5; simp_all [pIs, -UInt8.not_le, -UInt8.not_lt, -UInt32.not_le, -UInt32.not_lt, -Int.not_lt, -Int.not_le, -Nat.not_lt, -Nat.not_le])
    · skip
      refine l_guard F rfl rfl rfl g15 (o_val F (r_fieldAddr F rfl fld_State_2) rfl ?_); clear F a; intro a F
      refine l_guard F rfl rfl rfl g15 (o_val F (r_fieldAddr F rfl fld_Entry_2) rfl ?_); clear F a; intro a F
      refine l_guard F rfl rfl rfl g15 (o_val F (r_load M F rfl (by repeat (first | exact List.mem_cons_self | apply List.mem_cons_of_mem)) agg_Op g_State_2_2) rfl ?_); clear F a; intro a F
      refine l_guard F rfl rfl rfl g15 (o_val F (r_build F rfl b_Op) rfl ?_); clear F a; intro a F
      refine l_guard F rfl rfl rfl g15 (o_val F (r_neq_Op F rfl rfl) rfl ?_); clear F a; intro a F
      refine l_step rfl (o_val F (r_pick_f F rfl g15 rfl) rfl ?_); clear F a; intro a F
      refine l_step rfl (o_val F (r_move F rfl) rfl ?_); clear F a; intro a F
      refine c_split F (i := 22) rfl (fun g22 => ?_) (fun g22 => ?_)
      · skip
        iterate 4 (refine l_skip F rfl rfl rfl g22 rfl rfl ?_; clear F a; intro a F)
        refine l_step rfl (o_val F (r_pick_t F rfl g22 rfl) rfl ?_); clear F a; intro a F
        refine l_step rfl (o_val F (r_move F rfl) rfl ?_); clear F a; intro a F
        iterate 4 (refine l_skip F rfl rfl rfl rfl rfl rfl ?_; clear F a; intro a F)
        refine l_step rfl (o_val F (r_pick_t F rfl rfl rfl) rfl ?_); clear F a; intro a F
        refine l_nil ?_
        refine hK3 _ _ ?_
        refine c_true F rfl rfl ?_
        refine c_seq (fun K6 hK6 => ?_)
        refine wp_region_lit ?_
        refine l_step rfl (o_val F (r_assign F rfl) rfl ?_); clear F a; intro a F
        refine l_nil ?_
        refine hK6 _ _ ?_
        refine wp_ret ?_
        exact ret1 Tryd.results38 M F (rv_tmp F rfl) (by clear hI M F hK1 hK2 hK3 hK6; simp_all [pIs, -UInt8.not_le, -UInt8.not_lt, -UInt32.not_le, -UInt32.not_lt, -Int.not_lt, -Int.not_le, -Nat.not_lt, -Nat.not_le])
      · skip
        refine l_guard F rfl rfl rfl g22 (o_val F (r_fieldAddr F rfl fld_State_3) rfl ?_); clear F a; intro a F
        refine l_guard F rfl rfl rfl g22 (o_val F (r_load1 M F rfl (by repeat (first | exact List.mem_cons_self | apply List.mem_cons_of_mem)) sca_Entries rfl) rfl ?_); clear F a; intro a F
        refine l_guard F rfl rfl rfl g22 (o_val F (r_len_slice F slc_Entries.und rfl) rfl ?_); clear F a; intro a F
        refine l_guard F rfl rfl rfl g22 (o_val F (r_gtr_i64 F rfl rfl) rfl ?_); clear F a; intro a F
        refine l_step rfl (o_val F (r_pick_f F rfl g22 rfl) rfl ?_); clear F a; intro a F
        refine l_step rfl (o_val F (r_move F rfl) rfl ?_); clear F a; intro a F
        refine c_split F (i := 28) rfl (fun g28 => ?_) (fun g28 => ?_)
        · skip
          iterate 4 (refine l_skip F rfl rfl rfl g28 rfl rfl ?_; clear F a; intro a F)
          refine l_step rfl (o_val F (r_pick_t F rfl g28 rfl) rfl ?_); clear F a; intro a F
          refine l_nil ?_
          refine hK3 _ _ ?_
          refine c_true F rfl rfl ?_
          refine c_seq (fun K7 hK7 => ?_)
          refine wp_region_lit ?_
          refine l_step rfl (o_val F (r_assign F rfl) rfl ?_); clear F a; intro a F
          refine l_nil ?_
          refine hK7 _ _ ?_
          refine wp_ret ?_
          exact ret1 Tryd.results38 M F (rv_tmp F rfl) (by clear hI M F hK1 hK2 hK3 hK7; simp_all [pIs, -UInt8.not_le, -UInt8.not_lt, -UInt32.not_le, -UInt32.not_lt, -Int.not_lt, -Int.not_le, -Nat.not_lt, -Nat.not_le])
        · skip
          refine l_guard F rfl rfl rfl g28 (o_val F (r_fieldAddr F rfl fld_State_1) rfl ?_); clear F a; intro a F
          refine l_guard F rfl rfl rfl g28 (o_val F (r_load M F rfl (by repeat (first | exact List.mem_cons_self | apply List.mem_cons_of_mem)) agg_Base g_State_1) rfl ?_); clear F a; intro a F
          refine l_guard F rfl rfl rfl g28 (o_call M F rfl (c_pglog_base M.imm) rfl ?_); clear F a; intro a W2 v2 G2 hp2 M E2 F
          subst hp2
          refine l_guard F rfl rfl rfl g28 (o_val F (r_not F rfl) rfl ?_); clear F a; intro a F
          refine l_step rfl (o_val F (r_pick_f F rfl g28 rfl) rfl ?_); clear F a; intro a F
          refine l_nil ?_
          refine hK3 _ _ ?_
          refine c_cond F rfl (fun g33 => ?_) (fun g33 => ?_)
          · skip
            refine c_seq (fun K8 hK8 => ?_)
            refine wp_region_lit ?_
            refine l_step rfl (o_val F (r_assign F rfl) rfl ?_); clear F a; intro a F
            refine l_nil ?_
            refine hK8 _ _ ?_
            refine wp_ret ?_
            exact ret1 Tryd.results38 M F (rv_tmp F rfl) (by clear hI M F hK1 hK2 hK3 hK8; simp_all [pIs, -UInt8.not_le, -UInt8.not_lt, -UInt32.not_le, -UInt32.not_lt, -Int.not_lt, -Int.not_le, -Nat.not_lt, -Nat.not_le])
          · skip
            refine wp_skip ?_
            refine hK2 _ _ ?_
            refine c_seq (fun K9 hK9 => ?_)
            refine wp_region_lit ?_
            refine l_step rfl (o_val F (r_fieldAddr F rfl fld_State_2) rfl ?_); clear F a; intro a F
            refine l_step rfl (o_val F (r_load M F rfl (by repeat (first | exact List.mem_cons_self | apply List.mem_cons_of_mem)) agg_Entry g_State_2) rfl ?_); clear F a; intro a F
            refine l_step rfl (o_alloc M F zer_Entry rfl ?_); clear F a; intro a W3 b2 M F
            refine l_step rfl (o_storeA M F rfl rfl agg_Entry.size (by repeat (first | exact Upd.here _ _ _ _ _ | apply Upd.there)) (by rfl) (by rfl) (by rfl) ?_); clear F a; intro a W4 M F
            refine l_nil ?_
            refine hK9 _ _ ?_
            refine c_seq (fun K10 hK10 => ?_)
            refine c_seq (fun K11 hK11 => ?_)
            refine wp_region_lit ?_
            refine l_step rfl (o_val F (r_fieldAddr F rfl fld_State_3) rfl ?_); clear F a; intro a F
            refine l_step rfl (o_val F (r_load1 M F rfl (by repeat (first | exact List.mem_cons_self | apply List.mem_cons_of_mem)) sca_Entries rfl) rfl ?_); clear F a; intro a F
            refine l_step rfl (o_val F (r_len_slice F slc_Entries.und rfl) rfl ?_); clear F a; intro a F
            refine l_step rfl (o_val F (r_move F rfl) rfl ?_); clear F a; intro a F
            refine l_nil ?_
            refine hK11 _ _ ?_
            refine wp_block ?_
            refine c_loop (fun k a W => ∃ (i : Nat) (G : Ghost) (last : PEntry), k = s.log.length - i ∧ i ≤ s.log.length ∧ Frm 49 [(39, .int .i64 (i : Int)), (38, .int .i64 (l.len : Int)), (37, l.v), (3, .pointer (some ⟨b2, 0, none⟩)), (1, .pointer (some ⟨b1, 0, none⟩))] a ∧ St [] w G0 W [⟨b2, 59, last.enc⟩, ⟨b1, 61, (s.at l).enc⟩] G ∧ (pChain s.tail s.log = pChain last (s.log.drop i))) (s.log.length) ?_ ?_
            · exact ⟨0, _, s.tail, rfl, Nat.zero_le _, (F.cons (F.cons (F.cons (F.cons (F.cons F.nil 1 rfl) 3 rfl) 37 rfl) 38 rfl) 39 rfl), M, rfl⟩
            · clear F M a; intro k a W hI; obtain ⟨i, G, last, hk, hi, F, M, hf⟩ := hI
              refine c_seq (fun K12 hK12 => ?_)
              refine wp_region_lit ?_
              refine l_step rfl (o_val F (r_lss_i64 F rfl rfl) rfl ?_); clear F a; intro a F
              refine l_nil ?_
              refine hK12 _ _ ?_
              refine c_seq (fun K13 hK13 => ?_)
              refine c_cond F rfl (fun g40 => ?_) (fun g40 => ?_)
              · skip
                have hlt : i < s.log.length := by have h := of_decide_eq_true g40; omega
                obtain ⟨x, hx⟩ := get_of hlt
                rw [drop_of hx, pChain] at hf
                refine wp_skip ?_
                refine hK13 _ _ ?_
                refine c_seq (fun K14 hK14 => ?_)
                refine wp_block ?_
                refine c_seq (fun K15 hK15 => ?_)
                refine wp_region_lit ?_
                obtain ⟨eb, eo, er, ha41, hG41, hS41⟩ := (hl.mono M.gl).elem hx
                refine l_step rfl (o_val F (r_indexSl F rfl rfl slc_Entries ha41 (by omega) (by omega)) rfl ?_); clear F a; intro a F
                refine l_step rfl (o_val F (r_loadr M F rfl hG41 agg_Entry hS41) rfl ?_); clear F a; intro a F
                refine l_step rfl (o_alloc M F zer_Entry rfl ?_); clear F a; intro a W5 b3 M F
                refine l_step rfl (o_storeA M F rfl rfl agg_Entry.size (by repeat (first | exact Upd.here _ _ _ _ _ | apply Upd.there)) (by rfl) (by rfl) (by rfl) ?_); clear F a; intro a W6 M F
                refine l_nil ?_
                refine hK15 _ _ ?_
                refine c_seq (fun K16 hK16 => ?_)
                refine c_seq (fun K17 hK17 => ?_)
                refine wp_region_lit ?_
                refine l_step rfl (o_val F (r_load M F rfl (by repeat (first | exact List.mem_cons_self | apply List.mem_cons_of_mem)) agg_Entry (seg_all rfl)) rfl ?_); clear F a; intro a F
                refine l_step rfl (o_val F (r_load M F rfl (by repeat (first | exact List.mem_cons_self | apply List.mem_cons_of_mem)) agg_Entry (seg_all rfl)) rfl ?_); clear F a; intro a F
                refine l_step rfl (o_call M F rfl (c_pglog_next M.imm) rfl ?_); clear F a; intro a W7 v7 G7 hp7 M E7 F
                subst hp7
                refine l_step rfl (o_val F (r_not F rfl) rfl ?_); clear F a; intro a F
                refine l_nil ?_
                refine hK17 _ _ ?_
                refine c_cond F rfl (fun g46 => ?_) (fun g46 => ?_)
                · skip
                  refine c_seq (fun K18 hK18 => ?_)
                  refine wp_region_lit ?_
                  refine l_step rfl (o_val F (r_assign F rfl) rfl ?_); clear F a; intro a F
                  refine l_nil ?_
                  refine hK18 _ _ ?_
                  refine wp_ret ?_
                  exact ret1 Tryd.results38 M F (rv_tmp F rfl) (by clear hI M F hK1 hK2 hK3 hK9 hK10 hK11 hK12 hK13 hK14 hK15 hK16 hK17 hK18; simp_all [pIs, -UInt8.not_le, -UInt8.not_lt, -UInt32.not_le, -UInt32.not_lt, -Int.not_lt, -Int.not_le, -Nat.not_lt, -Nat.not_le])
                · skip
                  refine wp_skip ?_
                  refine hK16 _ _ ?_
                  refine wp_region_lit ?_
                  refine l_step rfl (o_val F (r_load M F rfl (by repeat (first | exact List.mem_cons_self | apply List.mem_cons_of_mem)) agg_Entry (seg_all rfl)) rfl ?_); clear F a; intro a F
                  refine l_step rfl (o_storeA M F rfl rfl agg_Entry.size (by repeat (first | exact Upd.here _ _ _ _ _ | apply Upd.there)) (by rfl) (by rfl) (by rfl) ?_); clear F a; intro a W8 M F
                  refine l_nil ?_
                  refine hK14 _ _ ?_
                  refine wp_region_lit ?_
                  refine l_step rfl (o_val F (r_add_i64 F rfl rfl (by omega)) rfl ?_); clear F a; intro a F
                  refine l_step rfl (o_val F (r_move F rfl) rfl ?_); clear F a; intro a F
                  refine l_nil ?_
                  exact ⟨s.log.length - (i + 1), by omega, i + 1, _, x, rfl, by omega, (F.cons (F.cons (F.cons (F.cons (F.cons F.nil 1 rfl) 3 rfl) 37 rfl) 38 rfl) 39 rfl), M.drop (by repeat (first | exact List.Sublist.refl _ | apply List.Sublist.cons_cons | apply List.Sublist.cons)), (by rw [hf, (by simpa using g46 : pNext last x = true)]; rfl)⟩
              · skip
                have hge : i = s.log.length := by have h := of_decide_eq_false g40; omega
                rw [hge, List.drop_length, pChain] at hf
                refine wp_exit ?_
                refine hK10 _ _ ?_
                refine c_seq (fun K19 hK19 => ?_)
                refine wp_region_lit ?_
                refine l_step rfl (o_val F (r_assign F rfl) rfl ?_); clear F a; intro a F
                refine l_nil ?_
                refine hK19 _ _ ?_
                refine wp_ret ?_
                exact ret1 Tryd.results38 M F (rv_tmp F rfl) (by clear hI M F hK1 hK2 hK3 hK9 hK10 hK11 hK12 hK13 hK19; simp_all [pIs, -UInt8.not_le, -UInt8.not_lt, -UInt32.not_le, -UInt32.not_lt, -Int.not_lt, -Int.not_le, -Nat.not_lt, -Nat.not_le])
theorem c_pglog_last {w : World} {G0 : Ghost} (hI : Imm G0 w) {s : PState} {l : Sl} (hl : Ens G0 l s.log) : Ret P 48 [agg (GState.enc (s.at l))] [] w G0 (fun G W v => v = agg (lastE s).enc) := by
  refine enter Tryd.func48 rfl Tryd.ntmps48 rfl rfl hI (fun a F M => ?_)
  have hlen := hl.len
  have hlen2 : (s.at l).log.len = s.log.length := hl.len
  have hmax := hl.rd.max
  have hcap := hl.rd.cap
  refine c_seq (fun K1 hK1 => ?_)
  refine wp_region_lit ?_
  refine l_step rfl (o_box M F rfl rfl ?_); clear F a; intro a W1 b1 M F
  refine l_step rfl (o_alloc M F zer_Entry rfl ?_); clear F a; intro a W2 b2 M F
  refine l_nil ?_
  refine hK1 _ _ ?_
  refine c_seq (fun K2 hK2 => ?_)
  refine c_seq (fun K3 hK3 => ?_)
  refine wp_region_lit ?_
  refine l_step rfl (o_val F (r_fieldAddr F rfl fld_State_3) rfl ?_); clear F a; intro a F
  refine l_step rfl (o_val F (r_load1 M F rfl (by repeat (first | exact List.mem_cons_self | apply List.mem_cons_of_mem)) sca_Entries rfl) rfl ?_); clear F a; intro a F
  refine l_step rfl (o_val F (r_len_slice F slc_Entries.und rfl) rfl ?_); clear F a; intro a F
  refine l_step rfl (o_val F (r_eql_i64 F rfl rfl) rfl ?_); clear F a; intro a F
  refine l_nil ?_
  refine hK3 _ _ ?_
  refine c_cond F rfl (fun g6 => ?_) (fun g6 => ?_)
  · skip
    refine c_seq (fun K4 hK4 => ?_)
    refine wp_region_lit ?_
    refine l_step rfl (o_val F (r_fieldAddr F rfl fld_State_2) rfl ?_); clear F a; intro a F
    refine l_step rfl (o_val F (r_load M F rfl (by repeat (first | exact List.mem_cons_self | apply List.mem_cons_of_mem)) agg_Entry g_State_2) rfl ?_); clear F a; intro a F
    refine l_step rfl (o_storeA M F rfl rfl agg_Entry.size (by repeat (first | exact Upd.here _ _ _ _ _ | apply Upd.there)) (by rfl) (by rfl) (by rfl) ?_); clear F a; intro a W3 M F
    refine l_nil ?_
    refine hK4 _ _ ?_
    refine wp_ret ?_
    exact ret1 Tryd.results48 M F (rv_cell M F rfl (by repeat (first | exact List.mem_cons_self | apply List.mem_cons_of_mem)) agg_Entry rfl) (by have h := g6; simp at h; have h2 : s.log = [] := List.eq_nil_of_length_eq_zero (by omega); simp [lastE, h2])
  · skip
    refine wp_skip ?_
    refine hK2 _ _ ?_
    refine c_seq (fun K5 hK5 => ?_)
    refine wp_region_lit ?_
    refine l_step rfl (o_val F (r_fieldAddr F rfl fld_State_3) rfl ?_); clear F a; intro a F
    refine l_step rfl (o_val F (r_load1 M F rfl (by repeat (first | exact List.mem_cons_self | apply List.mem_cons_of_mem)) sca_Entries rfl) rfl ?_); clear F a; intro a F
    refine l_step rfl (o_val F (r_fieldAddr F rfl fld_State_3) rfl ?_); clear F a; intro a F
    refine l_step rfl (o_val F (r_load1 M F rfl (by repeat (first | exact List.mem_cons_self | apply List.mem_cons_of_mem)) sca_Entries rfl) rfl ?_); clear F a; intro a F
    refine l_step rfl (o_val F (r_len_slice F slc_Entries.und rfl) rfl ?_); clear F a; intro a F
    refine l_step rfl (o_val F (r_sub_i64 F rfl rfl (by omega)) rfl ?_); clear F a; intro a F
    have hne : s.log.length ≠ 0 := by have h := g6; simp at h; omega
    obtain ⟨x, hx⟩ := get_of (l := s.log) (i := s.log.length - 1) (by omega)
    have hi15 : ((l.len : Int) - 1).toNat = s.log.length - 1 := by omega
    rw [← hi15] at hx
    obtain ⟨eb, eo, er, ha15, hG15, hS15⟩ := (hl.mono M.gl).elem hx
    refine l_step rfl (o_val F (r_indexSl F rfl rfl slc_Entries ha15 (by omega) (by omega)) rfl ?_); clear F a; intro a F
    refine l_step rfl (o_val F (r_loadr M F rfl hG15 agg_Entry hS15) rfl ?_); clear F a; intro a F
    refine l_step rfl (o_storeA M F rfl rfl agg_Entry.size (by repeat (first | exact Upd.here _ _ _ _ _ | apply Upd.there)) (by rfl) (by rfl) (by rfl) ?_); clear F a; intro a W4 M F
    refine l_nil ?_
    refine hK5 _ _ ?_
    refine wp_ret ?_
    exact ret1 Tryd.results48 M F (rv_cell M F rfl (by repeat (first | exact List.mem_cons_self | apply List.mem_cons_of_mem)) agg_Entry rfl) (by rw [hi15] at hx; simp [lastE, hx])
theorem c_pglog_Head {w : World} {G0 : Ghost} (hI : Imm G0 w) {s : PState} {l : Sl} (hl : Ens G0 l s.log) : Ret P 59 [agg (GState.enc (s.at l))] [] w G0 (fun G W v => v = .tuple #[.int .u32 ((pHead s).1.toNat : Int), .int .u32 ((pHead s).2.toNat : Int)]) := by
  refine enter Tryd.func59 rfl Tryd.ntmps59 rfl rfl hI (fun a F M => ?_)
  have hlen := hl.len
  have hlen2 : (s.at l).log.len = s.log.length := hl.len
  have hmax := hl.rd.max
  have hcap := hl.rd.cap
  refine c_seq (fun K1 hK1 => ?_)
  refine wp_region_lit ?_
  refine l_step rfl (o_box M F rfl rfl ?_); clear F a; intro a W1 b1 M F
  refine l_step rfl (o_val F (r_assign F rfl) rfl ?_); clear F a; intro a F
  refine l_step rfl (o_val F (r_assign F rfl) rfl ?_); clear F a; intro a F
  refine l_nil ?_
  refine hK1 _ _ ?_
  refine c_seq (fun K2 hK2 => ?_)
  refine c_seq (fun K3 hK3 => ?_)
  refine wp_region_lit ?_
  refine l_step rfl (o_val F (r_load M F rfl (by repeat (first | exact List.mem_cons_self | apply List.mem_cons_of_mem)) agg_State (seg_all rfl)) rfl ?_); clear F a; intro a F
  refine l_step rfl (o_call M F rfl (c_pglog_Is M.imm (hl.mono M.gl)) rfl ?_); clear F a; intro a W2 v2 G2 hp2 M E2 F
  subst hp2
  refine l_step rfl (o_val F (r_not F rfl) rfl ?_); clear F a; intro a F
  refine l_nil ?_
  refine hK3 _ _ ?_
  refine c_cond F rfl (fun g7 => ?_) (fun g7 => ?_)
  · skip
    refine c_seq (fun K4 hK4 => ?_)
    refine wp_region_lit ?_
    refine l_step rfl (o_val F (r_assign F rfl) rfl ?_); clear F a; intro a F
    refine l_step rfl (o_val F (r_assign F rfl) rfl ?_); clear F a; intro a F
    refine l_nil ?_
    refine hK4 _ _ ?_
    refine wp_ret ?_
    exact ret2 Tryd.results59 M F (rv_tmp F rfl) (rv_tmp F rfl) (by clear hI M F hK1 hK2 hK3 hK4; simp_all [pHead])
  · skip
    refine wp_skip ?_
    refine hK2 _ _ ?_
    refine c_seq (fun K5 hK5 => ?_)
    refine wp_region_lit ?_
    refine l_step rfl (o_val F (r_load M F rfl (by repeat (first | exact List.mem_cons_self | apply List.mem_cons_of_mem)) agg_State (seg_all rfl)) rfl ?_); clear F a; intro a F
    refine l_step rfl (o_call M F rfl (c_pglog_last M.imm (hl.mono M.gl)) rfl ?_); clear F a; intro a W3 v3 G3 hp3 M E3 F
    subst hp3
    refine l_step rfl (o_alloc M F zer_Entry rfl ?_); clear F a; intro a W4 b2 M F
    refine l_step rfl (o_storeA M F rfl rfl agg_Entry.size (by repeat (first | exact Upd.here _ _ _ _ _ | apply Upd.there)) (by rfl) (by rfl) (by rfl) ?_); clear F a; intro a W5 M F
    refine l_nil ?_
    refine hK5 _ _ ?_
    refine c_seq (fun K6 hK6 => ?_)
    refine c_drawM M [] mixed (fun M => ?_)
    have hq1 := Keeps.here M
    have hle1 := M.gle
    refine t_take (i := 0) F rfl rfl hq1 (fun _ _ => r_fieldAddr F rfl fld_Entry_0) (fun _ _ _ h => h) (by kernel_rfl) (by kernel_rfl) (by kernel_rfl) (by kernel_rfl) ?_; clear F a; intro a F
    refine t_take (i := 1) F rfl rfl hq1 (fun _ ⟨_, _, M'⟩ => r_load1 M' F rfl (by repeat (first | exact List.mem_cons_self | apply List.mem_cons_of_mem)) sca_u32 rfl) (fun _ _ _ h => h) (by kernel_rfl) (by kernel_rfl) (by kernel_rfl) (by kernel_rfl) ?_; clear F a; intro a F
    refine t_take (i := 2) F rfl rfl hq1 (fun _ _ => r_fieldAddr F rfl fld_Entry_1) (fun _ _ _ h => h) (by kernel_rfl) (by kernel_rfl) (by kernel_rfl) (by kernel_rfl) ?_; clear F a; intro a F
    refine t_take (i := 3) F rfl rfl hq1 (fun _ ⟨_, _, M'⟩ => r_load1 M' F rfl (by repeat (first | exact List.mem_cons_self | apply List.mem_cons_of_mem)) sca_u32 rfl) (fun _ _ _ h => h) (by kernel_rfl) (by kernel_rfl) (by kernel_rfl) (by kernel_rfl) ?_; clear F a; intro a F
    refine t_take (i := 4) F rfl rfl hq1 (fun _ _ => r_assign F rfl) (fun _ _ _ h => h) (by kernel_rfl) (by kernel_rfl) (by kernel_rfl) (by kernel_rfl) ?_; clear F a; intro a F
    refine t_take (i := 5) F rfl rfl hq1 (fun _ _ => r_assign F rfl) (fun _ _ _ h => h) (by kernel_rfl) (by kernel_rfl) (by kernel_rfl) (by kernel_rfl) ?_; clear F a; intro a F
    refine t_done (by kernel_rfl) ?_ _
    refine hK6 _ _ ?_
    refine wp_ret ?_
    exact ret2 Tryd.results59 M F (rv_tmp F rfl) (rv_tmp F rfl) (by clear hI M F hK1 hK2 hK3 hK5 hK6; simp_all [pHead])
end Go.Proofs.YtfkmaepcjognkaaDoor.Pad
