/- Walks: a group's state folded, grown, cut. The objects' bytes are few, the log is short. -/
import Derived.Test.YtfkmaepcjognkaaLog
namespace Go.Proofs.Ytfkmaepcjognkaa.Pad
open Go Go.Proofs
set_option linter.unusedVariables false
set_option maxRecDepth 8000
set_option linter.unusedSimpArgs false
def pStep (s : PState) (e : PEntry) : PState := { s with base := (pDo s.base e.op).1, tail := ⟨e.since, e.n, POp.zero⟩ }
def pFolded (s : PState) (n : Nat) : PState := { (s.log.take n).foldl pStep s with log := s.log.drop n }
def pPlace (s : PState) (n : UInt32) : Int := if n < s.tail.n ∨ (lastE s).n < n then -1 else ((n - s.tail.n).toNat : Int)
def pFold (s : PState) : PBase := if pIs s = true then (pFolded s s.log.length).base else PBase.zero
def pUpto (s : PState) (n : UInt32) : PBase × Bool := if pIs s = false ∨ pPlace s n < 0 then (PBase.zero, false) else ((pFolded s (pPlace s n).toNat).base, true)
def pCut (s : PState) (n : UInt32) : PState × Int := if pIs s = false then (PState.zero, 10) else if pPlace s n < 0 then (PState.zero, 141) else ({ s with log := s.log.take (pPlace s n).toNat }, 0)
def pTail (s : PState) (n : UInt32) : PState × Int := if pIs s = false then (PState.zero, 10) else if n < s.tail.n then (PState.zero, 80) else if pPlace s n < 0 then (PState.zero, 141) else (pFolded s (pPlace s n).toNat, 0)
def pFind (s : PState) (n : UInt32) : PEntry × Bool := if pIs s = false ∨ n ≤ s.tail.n ∨ pPlace s n < 1 then (PEntry.zero, false) else ((s.log[(pPlace s n).toNat - 1]?).getD PEntry.zero, true)
def pAdd (s : PState) (e : PEntry) : PState × Int := if pIs s = false ∨ pNext (lastE s) e = false then (PState.zero, 10) else (pFolded { s with log := s.log ++ [e] } (s.log.length + 1 - 6), 0)

theorem obj_setObj (b : PBase) (x : PObj) (k i : Nat) : (b.setObj x k).obj i = x ∨ (b.setObj x k).obj i = b.obj i := by
  match k, i with
  | 0, 0 => exact .inl rfl
  | 0, 1 | 0, 2 | 0, 3 | 0, 4 | 0, i + 5 => exact .inr rfl
  | 1, 1 => exact .inl rfl
  | 1, 0 | 1, 2 | 1, 3 | 1, 4 | 1, i + 5 => exact .inr rfl
  | 2, 2 => exact .inl rfl
  | 2, 0 | 2, 1 | 2, 3 | 2, 4 | 2, i + 5 => exact .inr rfl
  | 3, 3 => exact .inl rfl
  | 3, 0 | 3, 1 | 3, 2 | 3, 4 | 3, i + 5 => exact .inr rfl
  | 4, 4 => exact .inl rfl
  | 4, 0 | 4, 1 | 4, 2 | 4, 3 | 4, i + 5 => exact .inr rfl
  | k + 5, i + 5 => exact .inl rfl
  | k + 5, 0 | k + 5, 1 | k + 5, 2 | k + 5, 3 | k + 5, 4 => exact .inr rfl
theorem obj_setLast (b : PBase) (x : PLast) (k i : Nat) : (b.setLast x k).obj i = b.obj i := by
  match k with
  | 0 | 1 | k + 2 => cases i with | zero => rfl | succ i => match i with | 0 | 1 | 2 | 3 | i + 4 => rfl
theorem does_few {k : UInt8} {x : PObj} {o : POp} (hx : x.data.size ≤ 1000) (ho : o.data.size ≤ 16) : (pDoes k x o).1.data.size ≤ 1000 := by
  unfold pDoes
  split
  · unfold pWrite
    split
    · exact hx
    · rename_i h
      have := grown_size x.data ((o.at_.toNat : Int) + (o.data.size : Int))
      simp only [ByteArray.size_append, ByteArray.size_extract]
      omega
  · split
    · unfold pTrunc
      split
      · exact hx
      · split
        · exact hx
        · have := o.at_.toNat_lt
          have := grown_size x.data (o.at_.toNat : Int)
          simp only [ByteArray.size_extract]
          omega
    · split
      · unfold pAttr
        split
        · exact hx
        · split
          · exact hx
          · match h : o.at_.toNat with
            | 0 | 1 | i + 2 => exact hx
      · unfold pRemove
        split
        · exact hx
        · exact Nat.zero_le _
theorem few_do {b : PBase} {o : POp} (hb : Few b) : Few (pDo b o).1 := by
  unfold pDo
  split
  · exact hb
  · split
    · exact hb
    · rename_i h _
      intro i
      simp only [pDone, obj_setLast]
      rcases obj_setObj b (pDoes o.kind (b.obj o.obj.toNat) o).1 o.obj.toNat i with e | e
      · rw [e]; exact does_few (hb _) (writes_facts (by simpa using h)).2.2.2
      · rw [e]; exact hb i
theorem is_len {s : PState} (h : pIs s = true) : s.log.length ≤ 6 := by
  unfold pIs at h
  split at h
  · cases h
  · rename_i h1; simp only [not_or] at h1; omega
theorem is_base {s : PState} (h : pIs s = true) : pBase s.base = true := by
  unfold pIs at h
  split at h
  · cases h
  · rename_i h1; simp only [not_or] at h1; simpa using h1.2.2.2.2
theorem is_chain {s : PState} (h : pIs s = true) : pChain s.tail s.log = true := by
  unfold pIs at h
  split at h
  · cases h
  · exact h
theorem obj_big (b : PBase) (i : Nat) : b.obj i = b.obj (min i 5) := by
  match i with
  | 0 | 1 | 2 | 3 | 4 => rfl
  | i + 5 => rw [show min (i + 5) 5 = 5 by omega]; rfl
theorem base_few {b : PBase} (h : pBase b = true) : Few b := by
  intro i
  rw [obj_big]
  simp only [pBase, Bool.and_eq_true] at h
  have h1 := List.all_eq_true.1 h.1 (min i 5) (List.mem_range.2 (by omega))
  unfold pObject at h1
  split at h1
  · have h2 := of_decide_eq_true h1
    rw [h2]; exact Nat.zero_le _
  · simp only [Bool.and_eq_true] at h1
    have h2 := of_decide_eq_true h1.2
    omega
theorem is_few {s : PState} (h : pIs s = true) : Few s.base := base_few (is_base h)
theorem next_n {l e : PEntry} (h : pNext l e = true) : e.n.toNat = l.n.toNat + 1 := by
  simp only [pNext, Bool.and_eq_true, decide_eq_true_eq] at h
  obtain ⟨_, h1, h2, _⟩ := h
  rw [UInt32.lt_iff_toNat_lt] at h2
  have h3 := congrArg UInt32.toNat h1
  rw [UInt32.toNat_add] at h3
  have e1 : (1 : UInt32).toNat = 1 := rfl
  have := l.n.toNat_lt
  have := e.n.toNat_lt
  rw [e1] at h3
  omega
theorem chain_n : ∀ (l : PEntry) (xs : List PEntry), pChain l xs = true → ∀ i x, xs[i]? = some x → x.n.toNat = l.n.toNat + i + 1
  | _, [], _, i, x, h => by simp at h
  | l, e :: r, hc, 0, x, h => by
    simp only [List.getElem?_cons_zero, Option.some.injEq] at h
    subst h
    simp only [pChain, Bool.and_eq_true] at hc
    rw [next_n hc.1]
  | l, e :: r, hc, i + 1, x, h => by
    simp only [pChain, Bool.and_eq_true] at hc
    have := chain_n e r hc.2 i x (by simpa using h)
    rw [this, next_n hc.1]; omega
theorem last_n {s : PState} (h : pChain s.tail s.log = true) : (lastE s).n.toNat = s.tail.n.toNat + s.log.length := by
  unfold lastE
  cases hg : s.log[s.log.length - 1]? with
  | none =>
    have := List.getElem?_eq_none_iff.1 hg
    have h0 : s.log.length = 0 := by omega
    simp only [Option.getD_none, h0, Nat.add_zero]
  | some x =>
    have h1 := chain_n _ _ h _ _ hg
    have := (List.getElem?_eq_some_iff.1 hg).1
    simp only [Option.getD_some]; omega
theorem place_le {s : PState} {n : UInt32} (h : pIs s = true) : pPlace s n ≤ (s.log.length : Int) := by
  have h1 := last_n (is_chain h)
  unfold pPlace
  split
  · omega
  · rename_i h2
    simp only [not_or, UInt32.lt_iff_toNat_lt] at h2
    rw [UInt32.toNat_sub_of_le _ _ (by rw [UInt32.le_iff_toNat_le]; omega)]
    omega
theorem c_pglog_place {w : World} {G0 : Ghost} (hI : Imm G0 w) {s : PState} {l : Sl} (hl : Ens G0 l s.log) {n : UInt32} : Ret P 63 [agg (GState.enc (s.at l)), .int .u32 (n.toNat : Int)] [] w G0 (fun G W v => v = .int .i64 (pPlace s n)) := by
  refine enter Try.func63 rfl Try.ntmps63 rfl rfl hI (fun a F M => ?_)
  have hlen := hl.len
  have hlen2 : (s.at l).log.len = s.log.length := hl.len
  have hmax := hl.rd.max
  have hcap := hl.rd.cap
  have hcap2 : (s.at l).log.len ≤ (s.at l).log.cap := hl.rd.cap
  refine c_seq (fun K1 hK1 => ?_)
  refine wp_region_lit ?_
  refine l_step rfl (o_box M F rfl rfl ?_); clear F a; intro a W1 b1 M F
  refine l_step rfl (o_val F (r_assign F rfl) rfl ?_); clear F a; intro a F
  refine l_nil ?_
  refine hK1 _ _ ?_
  refine c_seq (fun K2 hK2 => ?_)
  refine c_seq (fun K3 hK3 => ?_)
  refine wp_region_lit ?_
  refine l_step rfl (o_val F (r_move F rfl) rfl ?_); clear F a; intro a F
  refine l_step rfl (o_val F (r_fieldAddr F rfl fld_State_2) rfl ?_); clear F a; intro a F
  refine l_step rfl (o_val F (r_fieldAddr F rfl fld_Entry_1) rfl ?_); clear F a; intro a F
  refine l_step rfl (o_val F (r_load1 M F rfl (by repeat (first | exact List.mem_cons_self | apply List.mem_cons_of_mem)) sca_u32 rfl) rfl ?_); clear F a; intro a F
  refine l_step rfl (o_val F (r_lss_u32 F rfl rfl) rfl ?_); clear F a; intro a F
  refine l_step rfl (o_val F (r_move F rfl) rfl ?_); clear F a; intro a F
  refine c_split F (i := 10) rfl (fun g10 => ?_) (fun g10 => ?_)
  · skip
    iterate 5 (refine l_skip F rfl rfl rfl g10 rfl rfl ?_; clear F a; intro a F)
    refine l_step rfl (o_val F (r_pick_t F rfl g10 rfl) rfl ?_); clear F a; intro a F
    refine l_nil ?_
    refine hK3 _ _ ?_
    refine c_true F rfl rfl ?_
    refine c_seq (fun K4 hK4 => ?_)
    refine wp_region_lit ?_
    refine l_step rfl (o_val F (r_assign F rfl) rfl ?_); clear F a; intro a F
    refine l_nil ?_
    refine hK4 _ _ ?_
    refine wp_ret ?_
    exact ret1 Try.results63 M F (rv_tmp F rfl) (by clear hI M F hK1 hK2 hK3 hK4; simp_all [pPlace, -UInt8.not_le, -UInt8.not_lt, -UInt32.not_le, -UInt32.not_lt, -Int.not_lt, -Int.not_le, -Nat.not_lt, -Nat.not_le])
  · skip
    refine l_guard F rfl rfl rfl g10 (o_val F (r_move F rfl) rfl ?_); clear F a; intro a F
    refine l_guard F rfl rfl rfl g10 (o_val F (r_load M F rfl (by repeat (first | exact List.mem_cons_self | apply List.mem_cons_of_mem)) agg_State (seg_all rfl)) rfl ?_); clear F a; intro a F
    refine l_guard F rfl rfl rfl g10 (o_call M F rfl (c_pglog_last M.imm (hl.mono M.gl)) rfl ?_); clear F a; intro a W2 v2 G2 hp2 M E2 F
    subst hp2
    refine l_guard F rfl rfl rfl g10 (o_val F (r_field1 F rfl fld_Entry_1 sca_u32 rfl) rfl ?_); clear F a; intro a F
    refine l_guard F rfl rfl rfl g10 (o_val F (r_gtr_u32 F rfl rfl) rfl ?_); clear F a; intro a F
    refine l_step rfl (o_val F (r_pick_f F rfl g10 rfl) rfl ?_); clear F a; intro a F
    refine l_nil ?_
    refine hK3 _ _ ?_
    refine c_cond F rfl (fun g16 => ?_) (fun g16 => ?_)
    · skip
      refine c_seq (fun K5 hK5 => ?_)
      refine wp_region_lit ?_
      refine l_step rfl (o_val F (r_assign F rfl) rfl ?_); clear F a; intro a F
      refine l_nil ?_
      refine hK5 _ _ ?_
      refine wp_ret ?_
      exact ret1 Try.results63 M F (rv_tmp F rfl) (by clear hI M F hK1 hK2 hK3 hK5; simp_all [pPlace, -UInt8.not_le, -UInt8.not_lt, -UInt32.not_le, -UInt32.not_lt, -Int.not_lt, -Int.not_le, -Nat.not_lt, -Nat.not_le])
    · skip
      refine wp_skip ?_
      refine hK2 _ _ ?_
      refine c_seq (fun K6 hK6 => ?_)
      refine wp_region_lit ?_
      refine l_step rfl (o_val F (r_move F rfl) rfl ?_); clear F a; intro a F
      refine l_step rfl (o_val F (r_fieldAddr F rfl fld_State_2) rfl ?_); clear F a; intro a F
      refine l_step rfl (o_val F (r_fieldAddr F rfl fld_Entry_1) rfl ?_); clear F a; intro a F
      refine l_step rfl (o_val F (r_load1 M F rfl (by repeat (first | exact List.mem_cons_self | apply List.mem_cons_of_mem)) sca_u32 rfl) rfl ?_); clear F a; intro a F
      refine l_step rfl (o_val F (r_sub_u32 F rfl rfl) rfl ?_); clear F a; intro a F
      refine l_step rfl (o_val F (r_conv_u32_i64 F und_u32 und_int rfl) rfl ?_); clear F a; intro a F
      refine l_step rfl (o_val F (r_assign F rfl) rfl ?_); clear F a; intro a F
      refine l_nil ?_
      refine hK6 _ _ ?_
      refine wp_ret ?_
      exact ret1 Try.results63 M F (rv_tmp F rfl) (by clear hI M F hK1 hK2 hK3 hK6; simp_all [pPlace, -UInt8.not_le, -UInt8.not_lt, -UInt32.not_le, -UInt32.not_lt, -Int.not_lt, -Int.not_le, -Nat.not_lt, -Nat.not_le])
theorem c_pglog_folded {w : World} {G0 : Ghost} (hI : Imm G0 w) {s : PState} {l : Sl} (hl : Ens G0 l s.log) {n : Int} (h0 : 0 ≤ n) (hn : n ≤ (s.log.length : Int)) (hb : Few s.base) (hx : s.log.length ≤ 1000) : Ret P 64 [agg (GState.enc (s.at l)), .int .i64 n] [] w G0 (fun G W v => ∃ l', v = agg (GState.enc ((pFolded s n.toNat).at l')) ∧ Ens G l' (pFolded s n.toNat).log) := by
  refine enter Try.func64 rfl Try.ntmps64 rfl rfl hI (fun a F M => ?_)
  have hlen := hl.len
  have hlen2 : (s.at l).log.len = s.log.length := hl.len
  have hmax := hl.rd.max
  have hcap := hl.rd.cap
  have hcap2 : (s.at l).log.len ≤ (s.at l).log.cap := hl.rd.cap
  have hc : Ens G0 (l.cut 8 0 n.toNat) (s.log.take n.toNat) := by have h := hl.cut (i := 0) (j := n.toNat) (by omega) (by omega); simpa using h
  have hlc : (l.cut 8 0 n.toNat).len = n.toNat := by rw [hc.len, List.length_take]; omega
  have hlc2 : ((s.at l).log.cut 8 0 n.toNat).len = n.toNat := hlc
  have hc2 : Ens G0 (l.cut 8 n.toNat l.len) (s.log.drop n.toNat) := by have h := hl.cut (i := n.toNat) (j := l.len) (by omega) (by omega); rw [hlen, ← List.length_drop, List.take_length] at h; rw [hlen]; exact h
  refine c_seq (fun K1 hK1 => ?_)
  refine wp_region_lit ?_
  refine l_step rfl (o_box M F rfl rfl ?_); clear F a; intro a W1 b1 M F
  refine l_step rfl (o_alloc M F zer_State rfl ?_); clear F a; intro a W2 b2 M F
  refine l_nil ?_
  refine hK1 _ _ ?_
  refine c_seq (fun K2 hK2 => ?_)
  refine c_seq (fun K3 hK3 => ?_)
  refine wp_region_lit ?_
  refine l_step rfl (o_val F (r_fieldAddr F rfl fld_State_3) rfl ?_); clear F a; intro a F
  refine l_step rfl (o_val F (r_load1 M F rfl (by repeat (first | exact List.mem_cons_self | apply List.mem_cons_of_mem)) sca_Entries rfl) rfl ?_); clear F a; intro a F
  refine l_step rfl (o_val F (r_move F rfl) rfl ?_); clear F a; intro a F
  refine l_step rfl (o_val F (r_slice_to F slc_Entries rfl rfl (by omega) (by omega)) rfl ?_); clear F a; intro a F
  refine l_step rfl (o_val F (r_len_slice F slc_Entries.und rfl) rfl ?_); clear F a; intro a F
  refine l_step rfl (o_val F (r_move F rfl) rfl ?_); clear F a; intro a F
  refine l_nil ?_
  refine hK3 _ _ ?_
  refine wp_block ?_
  refine c_loop (fun k a W => ∃ (i : Nat) (G : Ghost) (bs : PBase) (tl : PEntry), k = n.toNat - i ∧ i ≤ n.toNat ∧ Frm 39 [(12, .int .i64 (i : Int)), (11, .int .i64 ((l.cut 8 0 n.toNat).len : Int)), (10, (l.cut 8 0 n.toNat).v), (1, .int .i64 n), (4, .pointer (some ⟨b2, 0, none⟩)), (2, .pointer (some ⟨b1, 0, none⟩))] a ∧ St [] w G0 W [⟨b2, 42, GState.enc ⟨0, PBase.zero, PEntry.zero, Sl.nil⟩⟩, ⟨b1, 42, GState.enc ⟨s.started, bs, tl, l⟩⟩] G ∧ ((s.log.take i).foldl pStep s = ⟨s.started, bs, tl, s.log⟩ ∧ Few bs)) (n.toNat) ?_ ?_
  · exact ⟨0, _, s.base, s.tail, rfl, Nat.zero_le _, (F.cons (F.cons (F.cons (F.cons (F.cons (F.cons F.nil 2 rfl) 4 rfl) 1 rfl) 10 rfl) 11 rfl) 12 rfl), M, ⟨rfl, hb⟩⟩
  · clear F M a; intro k a W hI; obtain ⟨i, G, bs, tl, hk, hi, F, M, hf⟩ := hI
    refine c_seq (fun K4 hK4 => ?_)
    refine wp_region_lit ?_
    refine l_step rfl (o_val F (r_lss_i64 F rfl rfl) rfl ?_); clear F a; intro a F
    refine l_nil ?_
    refine hK4 _ _ ?_
    refine c_seq (fun K5 hK5 => ?_)
    refine c_cond F rfl (fun g13 => ?_) (fun g13 => ?_)
    · skip
      have hlt : i < n.toNat := by have h := of_decide_eq_true g13; omega
      obtain ⟨x, hx1⟩ := get_of (l := s.log) (i := i) (by omega)
      have hxc : (s.log.take n.toNat)[i]? = some x := by rw [List.getElem?_take_of_lt hlt]; exact hx1
      refine wp_skip ?_
      refine hK5 _ _ ?_
      refine c_seq (fun K6 hK6 => ?_)
      refine wp_block ?_
      refine c_seq (fun K7 hK7 => ?_)
      refine wp_region_lit ?_
      obtain ⟨eb, eo, er, ha14, hG14, hS14⟩ := (hc.mono M.gl).elem hxc
      refine l_step rfl (o_val F (r_indexSl F rfl rfl slc_Entries ha14 (by omega) (by omega)) rfl ?_); clear F a; intro a F
      refine l_step rfl (o_val F (r_loadr M F rfl hG14 agg_Entry hS14) rfl ?_); clear F a; intro a F
      refine l_step rfl (o_alloc M F zer_Entry rfl ?_); clear F a; intro a W3 b3 M F
      refine l_step rfl (o_storeA M F rfl rfl agg_Entry.size (by repeat (first | exact Upd.here _ _ _ _ _ | apply Upd.there)) (by rfl) (by rfl) (by rfl) ?_); clear F a; intro a W4 M F
      refine l_nil ?_
      refine hK7 _ _ ?_
      refine c_seq (fun K8 hK8 => ?_)
      refine wp_region_lit ?_
      refine l_step rfl (o_val F (r_fieldAddr F rfl fld_State_1) rfl ?_); clear F a; intro a F
      refine l_step rfl (o_val F (r_load M F rfl (by repeat (first | exact List.mem_cons_self | apply List.mem_cons_of_mem)) agg_Base g_State_1) rfl ?_); clear F a; intro a F
      refine l_step rfl (o_val F (r_fieldAddr F rfl fld_Entry_2) rfl ?_); clear F a; intro a F
      refine l_step rfl (o_val F (r_load M F rfl (by repeat (first | exact List.mem_cons_self | apply List.mem_cons_of_mem)) agg_Op g_Entry_2) rfl ?_); clear F a; intro a F
      refine l_step rfl (o_call M F rfl (c_objects_Do M.imm hf.2) rfl ?_); clear F a; intro a W5 v5 G5 hp5 M E5 F
      subst hp5
      refine l_step rfl (o_val F (r_move F rfl) rfl ?_); clear F a; intro a F
      refine l_step rfl (o_val F (r_extract F rfl rfl) rfl ?_); clear F a; intro a F
      refine l_step rfl (o_val F (r_extract F rfl rfl) rfl ?_); clear F a; intro a F
      refine l_step rfl (o_val F (r_fieldAddr F rfl fld_State_1) rfl ?_); clear F a; intro a F
      refine l_step rfl (o_store M F rfl rfl agg_Base.size rfl rfl rfl p_State_1 (by repeat (first | exact Upd.here _ _ _ _ _ | apply Upd.there)) ?_); clear F a; intro a W6 M F
      refine l_nil ?_
      refine hK8 _ _ ?_
      refine wp_region_lit ?_
      refine l_step rfl (o_val F (r_fieldAddr F rfl fld_Entry_0) rfl ?_); clear F a; intro a F
      refine l_step rfl (o_val F (r_load1 M F rfl (by repeat (first | exact List.mem_cons_self | apply List.mem_cons_of_mem)) sca_u32 rfl) rfl ?_); clear F a; intro a F
      refine l_step rfl (o_val F (r_fieldAddr F rfl fld_Entry_1) rfl ?_); clear F a; intro a F
      refine l_step rfl (o_val F (r_load1 M F rfl (by repeat (first | exact List.mem_cons_self | apply List.mem_cons_of_mem)) sca_u32 rfl) rfl ?_); clear F a; intro a F
      refine l_step rfl (o_val F (r_build F rfl (b_Entry_0_1 _ _)) rfl ?_); clear F a; intro a F
      refine l_step rfl (o_val F (r_fieldAddr F rfl fld_State_2) rfl ?_); clear F a; intro a F
      refine l_step rfl (o_store M F rfl rfl agg_Entry.size rfl rfl rfl p_State_2 (by repeat (first | exact Upd.here _ _ _ _ _ | apply Upd.there)) ?_); clear F a; intro a W7 M F
      refine l_nil ?_
      refine hK6 _ _ ?_
      refine wp_region_lit ?_
      refine l_step rfl (o_val F (r_add_i64 F rfl rfl (by omega)) rfl ?_); clear F a; intro a F
      refine l_step rfl (o_val F (r_move F rfl) rfl ?_); clear F a; intro a F
      refine l_nil ?_
      exact ⟨n.toNat - (i + 1), by omega, i + 1, _, _, _, rfl, by omega, (F.cons (F.cons (F.cons (F.cons (F.cons (F.cons F.nil 2 rfl) 4 rfl) 1 rfl) 10 rfl) 11 rfl) 12 rfl), M.drop (by repeat (first | exact List.Sublist.refl _ | apply List.Sublist.cons_cons | apply List.Sublist.cons)), ⟨(by rw [take_of hx1, List.foldl_append, hf.1]; rfl), few_do hf.2⟩⟩
    · skip
      have hge : i = n.toNat := by have h := of_decide_eq_false g13; omega
      refine wp_exit ?_
      refine hK2 _ _ ?_
      refine c_seq (fun K9 hK9 => ?_)
      refine wp_region_lit ?_
      refine l_step rfl (o_val F (r_fieldAddr F rfl fld_State_3) rfl ?_); clear F a; intro a F
      refine l_step rfl (o_val F (r_load1 M F rfl (by repeat (first | exact List.mem_cons_self | apply List.mem_cons_of_mem)) sca_Entries rfl) rfl ?_); clear F a; intro a F
      refine l_step rfl (o_val F (r_move F rfl) rfl ?_); clear F a; intro a F
      refine l_step rfl (o_val F (r_slice_from F slc_Entries rfl rfl (by omega) (by show n ≤ (l.len : Int); omega)) rfl ?_); clear F a; intro a F
      refine l_step rfl (o_call M F rfl (c_slices_Clone_Entry M.imm (hc2.mono M.gl) (by rw [List.length_drop]; omega)) rfl ?_); clear F a; intro a W8 v8 G8 hp8 M E8 F
      obtain ⟨l1, rfl, hl1, _⟩ := hp8
      refine l_step rfl (o_val F (r_fieldAddr F rfl fld_State_3) rfl ?_); clear F a; intro a F
      refine l_step rfl (o_store1 M F rfl rfl sca_Entries rfl rfl p_State_3 (by repeat (first | exact Upd.here _ _ _ _ _ | apply Upd.there)) ?_); clear F a; intro a W9 M F
      refine l_nil ?_
      refine hK9 _ _ ?_
      refine c_seq (fun K10 hK10 => ?_)
      refine wp_region_lit ?_
      refine l_step rfl (o_val F (r_load M F rfl (by repeat (first | exact List.mem_cons_self | apply List.mem_cons_of_mem)) agg_State (seg_all rfl)) rfl ?_); clear F a; intro a F
      refine l_step rfl (o_storeA M F rfl rfl agg_State.size (by repeat (first | exact Upd.here _ _ _ _ _ | apply Upd.there)) (by rfl) (by rfl) (by rfl) ?_); clear F a; intro a W10 M F
      refine l_nil ?_
      refine hK10 _ _ ?_
      refine wp_ret ?_
      exact ret1 Try.results64 M F (rv_cell M F rfl (by repeat (first | exact List.mem_cons_self | apply List.mem_cons_of_mem)) agg_State rfl) (by rw [hge] at hf; exact ⟨l1, by simp only [pFolded, hf.1], hl1⟩)
theorem c_pglog_Fold {w : World} {G0 : Ghost} (hI : Imm G0 w) {s : PState} {l : Sl} (hl : Ens G0 l s.log) : Ret P 23 [agg (GState.enc (s.at l))] [] w G0 (fun G W v => v = agg (pFold s).enc) := by
  refine enter Try.func23 rfl Try.ntmps23 rfl rfl hI (fun a F M => ?_)
  have hlen := hl.len
  have hlen2 : (s.at l).log.len = s.log.length := hl.len
  have hmax := hl.rd.max
  have hcap := hl.rd.cap
  have hcap2 : (s.at l).log.len ≤ (s.at l).log.cap := hl.rd.cap
  
  refine c_seq (fun K1 hK1 => ?_)
  refine wp_region_lit ?_
  refine l_step rfl (o_box M F rfl rfl ?_); clear F a; intro a W1 b1 M F
  refine l_step rfl (o_alloc M F zer_Base rfl ?_); clear F a; intro a W2 b2 M F
  refine l_nil ?_
  refine hK1 _ _ ?_
  refine c_seq (fun K2 hK2 => ?_)
  refine c_seq (fun K3 hK3 => ?_)
  refine wp_region_lit ?_
  refine l_step rfl (o_val F (r_load M F rfl (by repeat (first | exact List.mem_cons_self | apply List.mem_cons_of_mem)) agg_State (seg_all rfl)) rfl ?_); clear F a; intro a F
  refine l_step rfl (o_call M F rfl (c_pglog_Is M.imm (hl.mono M.gl)) rfl ?_); clear F a; intro a W3 v3 G3 hp3 M E3 F
  subst hp3
  refine l_step rfl (o_val F (r_not F rfl) rfl ?_); clear F a; intro a F
  refine l_nil ?_
  refine hK3 _ _ ?_
  refine c_cond F rfl (fun g5 => ?_) (fun g5 => ?_)
  · skip
    refine c_seq (fun K4 hK4 => ?_)
    refine wp_region_lit ?_
    refine l_step rfl (o_val F (r_build F rfl b_Base) rfl ?_); clear F a; intro a F
    refine l_step rfl (o_storeA M F rfl rfl agg_Base.size (by repeat (first | exact Upd.here _ _ _ _ _ | apply Upd.there)) (by rfl) (by rfl) (by rfl) ?_); clear F a; intro a W4 M F
    refine l_nil ?_
    refine hK4 _ _ ?_
    refine wp_ret ?_
    exact ret1 Try.results23 M F (rv_cell M F rfl (by repeat (first | exact List.mem_cons_self | apply List.mem_cons_of_mem)) agg_Base rfl) (by clear hI M F hK1 hK2 hK3 hK4; simp_all [pFold])
  · skip
    refine wp_skip ?_
    refine hK2 _ _ ?_
    refine c_seq (fun K5 hK5 => ?_)
    refine wp_region_lit ?_
    refine l_step rfl (o_val F (r_load M F rfl (by repeat (first | exact List.mem_cons_self | apply List.mem_cons_of_mem)) agg_State (seg_all rfl)) rfl ?_); clear F a; intro a F
    refine l_step rfl (o_val F (r_fieldAddr F rfl fld_State_3) rfl ?_); clear F a; intro a F
    refine l_step rfl (o_val F (r_load1 M F rfl (by repeat (first | exact List.mem_cons_self | apply List.mem_cons_of_mem)) sca_Entries rfl) rfl ?_); clear F a; intro a F
    refine l_step rfl (o_val F (r_len_slice F slc_Entries.und rfl) rfl ?_); clear F a; intro a F
    refine l_step rfl (o_call M F rfl (c_pglog_folded M.imm (hl.mono M.gl) (by omega) (by omega) (is_few (by simpa using g5)) (by have := is_len (s := s) (by simpa using g5); omega)) rfl ?_); clear F a; intro a W5 v5 G5 hp5 M E5 F
    obtain ⟨l1, rfl, hl1⟩ := hp5
    refine l_step rfl (o_val F (r_field F rfl fld_State_1 agg_Base g_State_1) rfl ?_); clear F a; intro a F
    refine l_step rfl (o_storeA M F rfl rfl agg_Base.size (by repeat (first | exact Upd.here _ _ _ _ _ | apply Upd.there)) (by rfl) (by rfl) (by rfl) ?_); clear F a; intro a W6 M F
    refine l_nil ?_
    refine hK5 _ _ ?_
    refine wp_ret ?_
    exact ret1 Try.results23 M F (rv_cell M F rfl (by repeat (first | exact List.mem_cons_self | apply List.mem_cons_of_mem)) agg_Base rfl) (by clear hI M F hK1 hK2 hK3 hK5; simp_all [pFold])
theorem c_pglog_Upto {w : World} {G0 : Ghost} (hI : Imm G0 w) {s : PState} {l : Sl} (hl : Ens G0 l s.log) {n : UInt32} : Ret P 25 [agg (GState.enc (s.at l)), .int .u32 (n.toNat : Int)] [] w G0 (fun G W v => v = .tuple #[agg (pUpto s n).1.enc, .bool (pUpto s n).2]) := by
  refine enter Try.func25 rfl Try.ntmps25 rfl rfl hI (fun a F M => ?_)
  have hlen := hl.len
  have hlen2 : (s.at l).log.len = s.log.length := hl.len
  have hmax := hl.rd.max
  have hcap := hl.rd.cap
  have hcap2 : (s.at l).log.len ≤ (s.at l).log.cap := hl.rd.cap
  refine c_seq (fun K1 hK1 => ?_)
  refine wp_region_lit ?_
  refine l_step rfl (o_box M F rfl rfl ?_); clear F a; intro a W1 b1 M F
  refine l_step rfl (o_alloc M F zer_Base rfl ?_); clear F a; intro a W2 b2 M F
  refine l_step rfl (o_val F (r_assign F rfl) rfl ?_); clear F a; intro a F
  refine l_nil ?_
  refine hK1 _ _ ?_
  refine c_seq (fun K2 hK2 => ?_)
  refine c_seq (fun K3 hK3 => ?_)
  refine wp_region_lit ?_
  refine l_step rfl (o_val F (r_load M F rfl (by repeat (first | exact List.mem_cons_self | apply List.mem_cons_of_mem)) agg_State (seg_all rfl)) rfl ?_); clear F a; intro a F
  refine l_step rfl (o_call M F rfl (c_pglog_Is M.imm (hl.mono M.gl)) rfl ?_); clear F a; intro a W3 v3 G3 hp3 M E3 F
  subst hp3
  refine l_step rfl (o_val F (r_not F rfl) rfl ?_); clear F a; intro a F
  refine l_step rfl (o_val F (r_move F rfl) rfl ?_); clear F a; intro a F
  refine c_split F (i := 9) rfl (fun g9 => ?_) (fun g9 => ?_)
  · skip
    iterate 4 (refine l_skip F rfl rfl rfl g9 rfl rfl ?_; clear F a; intro a F)
    refine l_step rfl (o_val F (r_pick_t F rfl g9 rfl) rfl ?_); clear F a; intro a F
    refine l_nil ?_
    refine hK3 _ _ ?_
    refine c_true F rfl rfl ?_
    refine c_seq (fun K4 hK4 => ?_)
    refine wp_region_lit ?_
    refine l_step rfl (o_val F (r_build F rfl b_Base) rfl ?_); clear F a; intro a F
    refine l_step rfl (o_storeA M F rfl rfl agg_Base.size (by repeat (first | exact Upd.here _ _ _ _ _ | apply Upd.there)) (by rfl) (by rfl) (by rfl) ?_); clear F a; intro a W4 M F
    refine l_step rfl (o_val F (r_assign F rfl) rfl ?_); clear F a; intro a F
    refine l_nil ?_
    refine hK4 _ _ ?_
    refine wp_ret ?_
    exact ret2 Try.results25 M F (rv_cell M F rfl (by repeat (first | exact List.mem_cons_self | apply List.mem_cons_of_mem)) agg_Base rfl) (rv_tmp F rfl) (by clear hI M F hK1 hK2 hK3 hK4; simp_all [pUpto, -UInt8.not_le, -UInt8.not_lt, -UInt32.not_le, -UInt32.not_lt, -Int.not_lt, -Int.not_le, -Nat.not_lt, -Nat.not_le])
  · skip
    refine l_guard F rfl rfl rfl g9 (o_val F (r_load M F rfl (by repeat (first | exact List.mem_cons_self | apply List.mem_cons_of_mem)) agg_State (seg_all rfl)) rfl ?_); clear F a; intro a F
    refine l_guard F rfl rfl rfl g9 (o_val F (r_move F rfl) rfl ?_); clear F a; intro a F
    refine l_guard F rfl rfl rfl g9 (o_call M F rfl (c_pglog_place M.imm (hl.mono M.gl)) rfl ?_); clear F a; intro a W5 v5 G5 hp5 M E5 F
    subst hp5
    refine l_guard F rfl rfl rfl g9 (o_val F (r_lss_i64 F rfl rfl) rfl ?_); clear F a; intro a F
    refine l_step rfl (o_val F (r_pick_f F rfl g9 rfl) rfl ?_); clear F a; intro a F
    refine l_nil ?_
    refine hK3 _ _ ?_
    refine c_cond F rfl (fun g14 => ?_) (fun g14 => ?_)
    · skip
      refine c_seq (fun K5 hK5 => ?_)
      refine wp_region_lit ?_
      refine l_step rfl (o_val F (r_build F rfl b_Base) rfl ?_); clear F a; intro a F
      refine l_step rfl (o_storeA M F rfl rfl agg_Base.size (by repeat (first | exact Upd.here _ _ _ _ _ | apply Upd.there)) (by rfl) (by rfl) (by rfl) ?_); clear F a; intro a W6 M F
      refine l_step rfl (o_val F (r_assign F rfl) rfl ?_); clear F a; intro a F
      refine l_nil ?_
      refine hK5 _ _ ?_
      refine wp_ret ?_
      exact ret2 Try.results25 M F (rv_cell M F rfl (by repeat (first | exact List.mem_cons_self | apply List.mem_cons_of_mem)) agg_Base rfl) (rv_tmp F rfl) (by clear hI M F hK1 hK2 hK3 hK5; simp_all [pUpto, -UInt8.not_le, -UInt8.not_lt, -UInt32.not_le, -UInt32.not_lt, -Int.not_lt, -Int.not_le, -Nat.not_lt, -Nat.not_le])
    · skip
      refine wp_skip ?_
      refine hK2 _ _ ?_
      refine c_seq (fun K6 hK6 => ?_)
      refine c_drawM (M.drop (List.Sublist.cons _ (List.Sublist.cons_cons _ (List.Sublist.refl _)))) [] mixed (fun Mk => ?_)
      have M := M.drew
      have Ms := Mk
      have hq1 := Keeps.here Mk
      have hle1 := M.gle
      refine t_take (i := 0) F rfl rfl hq1 (fun _ ⟨_, _, M'⟩ => r_load M' F rfl (by repeat (first | exact List.mem_cons_self | apply List.mem_cons_of_mem)) agg_State (seg_all rfl)) (fun _ _ _ h => h) (by kernel_rfl) (by kernel_rfl) (by kernel_rfl) (by kernel_rfl) ?_; clear F a; intro a F
      refine t_take (i := 1) F rfl rfl hq1 (fun _ ⟨_, _, M'⟩ => r_load M' F rfl (by repeat (first | exact List.mem_cons_self | apply List.mem_cons_of_mem)) agg_State (seg_all rfl)) (fun _ _ _ h => h) (by kernel_rfl) (by kernel_rfl) (by kernel_rfl) (by kernel_rfl) ?_; clear F a; intro a F
      refine t_take (i := 2) F rfl rfl hq1 (fun _ _ => r_move F rfl) (fun _ _ _ h => h) (by kernel_rfl) (by kernel_rfl) (by kernel_rfl) (by kernel_rfl) ?_; clear F a; intro a F
      refine t_one (i := 3) (by kernel_rfl) rfl rfl (o_call M F rfl (c_pglog_place M.imm (hl.mono M.gl)) rfl ?_); clear F a; intro a W7 v7 G7 hp7 M E7 F
      subst hp7
      have hle1 := hle1.trans E7.gl
      refine keepAnd (Keeps.mk hle1 M (by repeat (first | exact List.Sublist.refl _ | apply List.Sublist.cons_cons | apply List.Sublist.cons))) (fun hq1 => ?_)
      refine t_one (i := 4) (by kernel_rfl) rfl rfl (o_call M F rfl (c_pglog_folded M.imm (hl.mono M.gl) (by have h := of_decide_eq_false g14; omega) (place_le (by simpa using g9)) (is_few (by simpa using g9)) (by have := is_len (s := s) (by simpa using g9); omega)) rfl ?_); clear F a; intro a W8 v8 G8 hp8 M E8 F
      obtain ⟨l1, rfl, hl1⟩ := hp8
      have hle1 := hle1.trans E8.gl
      refine keepAnd (Keeps.mk hle1 M (by repeat (first | exact List.Sublist.refl _ | apply List.Sublist.cons_cons | apply List.Sublist.cons))) (fun hq1 => ?_)
      refine t_take (i := 5) F rfl rfl hq1 (fun _ _ => r_field F rfl fld_State_1 agg_Base g_State_1) (fun _ _ _ h => h) (by kernel_rfl) (by kernel_rfl) (by kernel_rfl) (by kernel_rfl) ?_; clear F a; intro a F
      refine t_one (i := 6) (by kernel_rfl) rfl rfl (o_storeA M F rfl rfl agg_Base.size (by repeat (first | exact Upd.here _ _ _ _ _ | apply Upd.there)) (by rfl) (by rfl) (by rfl) ?_); clear F a; intro a W9 M F
      refine keepAnd (Keeps.mk hle1 M (by repeat (first | exact List.Sublist.refl _ | apply List.Sublist.cons_cons | apply List.Sublist.cons))) (fun hq1 => ?_)
      refine t_take (i := 7) F rfl rfl hq1 (fun _ _ => r_assign F rfl) (fun _ _ _ h => h) (by kernel_rfl) (by kernel_rfl) (by kernel_rfl) (by kernel_rfl) ?_; clear F a; intro a F
      refine t_done (by kernel_rfl) ?_ _
      refine hK6 _ _ ?_
      refine wp_ret ?_
      exact ret2 Try.results25 M F (rv_cell M F rfl (by repeat (first | exact List.mem_cons_self | apply List.mem_cons_of_mem)) agg_Base rfl) (rv_tmp F rfl) (by clear hI M F hK1 hK2 hK3 hK6; simp_all [pUpto, -UInt8.not_le, -UInt8.not_lt, -UInt32.not_le, -UInt32.not_lt, -Int.not_lt, -Int.not_le, -Nat.not_lt, -Nat.not_le])
theorem c_pglog_Cut {w : World} {G0 : Ghost} (hI : Imm G0 w) {s : PState} {l : Sl} (hl : Ens G0 l s.log) {n : UInt32} : Ret P 24 [agg (GState.enc (s.at l)), .int .u32 (n.toNat : Int)] [] w G0 (fun G W v => ∃ l', v = .tuple #[agg (GState.enc ((pCut s n).1.at l')), .int .i64 (pCut s n).2] ∧ Ens G l' (pCut s n).1.log) := by
  refine enter Try.func24 rfl Try.ntmps24 rfl rfl hI (fun a F M => ?_)
  have hlen := hl.len
  have hlen2 : (s.at l).log.len = s.log.length := hl.len
  have hmax := hl.rd.max
  have hcap := hl.rd.cap
  have hcap2 : (s.at l).log.len ≤ (s.at l).log.cap := hl.rd.cap
  refine c_seq (fun K1 hK1 => ?_)
  refine wp_region_lit ?_
  refine l_step rfl (o_box M F rfl rfl ?_); clear F a; intro a W1 b1 M F
  refine l_step rfl (o_alloc M F zer_State rfl ?_); clear F a; intro a W2 b2 M F
  refine l_step rfl (o_val F (r_assign F rfl) rfl ?_); clear F a; intro a F
  refine l_nil ?_
  refine hK1 _ _ ?_
  refine c_seq (fun K2 hK2 => ?_)
  refine wp_block ?_
  refine c_seq (fun K3 hK3 => ?_)
  refine wp_region_lit ?_
  refine l_step rfl (o_val F (r_load M F rfl (by repeat (first | exact List.mem_cons_self | apply List.mem_cons_of_mem)) agg_State (seg_all rfl)) rfl ?_); clear F a; intro a F
  refine l_step rfl (o_call M F rfl (c_pglog_Is M.imm (hl.mono M.gl)) rfl ?_); clear F a; intro a W3 v3 G3 hp3 M E3 F
  subst hp3
  refine l_step rfl (o_val F (r_not F rfl) rfl ?_); clear F a; intro a F
  refine l_step rfl (o_val F (r_assign F rfl) rfl ?_); clear F a; intro a F
  refine l_nil ?_
  refine hK3 _ _ ?_
  refine c_cond F rfl (fun g6 => ?_) (fun g6 => ?_)
  · skip
    refine c_seq (fun K4 hK4 => ?_)
    refine wp_region_lit ?_
    refine l_step rfl (o_val F (r_build F rfl b_State) rfl ?_); clear F a; intro a F
    refine l_step rfl (o_storeA M F rfl rfl agg_State.size (by repeat (first | exact Upd.here _ _ _ _ _ | apply Upd.there)) (by rfl) (by rfl) (by rfl) ?_); clear F a; intro a W4 M F
    refine l_step rfl (o_val F (r_assign F rfl) rfl ?_); clear F a; intro a F
    refine l_nil ?_
    refine hK4 _ _ ?_
    refine wp_ret ?_
    exact ret2 Try.results24 M F (rv_cell M F rfl (by repeat (first | exact List.mem_cons_self | apply List.mem_cons_of_mem)) agg_State rfl) (rv_tmp F rfl) (⟨Sl.nil, by clear hI M F hK1 hK2 hK3 hK4; simp_all [pCut, PState.zero, -UInt8.not_le, -UInt8.not_lt, -UInt32.not_le, -UInt32.not_lt, -Int.not_lt, -Int.not_le, -Nat.not_lt, -Nat.not_le], by clear hI M F hK1 hK2 hK3 hK4; simp_all [pCut, PState.zero, -UInt8.not_le, -UInt8.not_lt, -UInt32.not_le, -UInt32.not_lt, -Int.not_lt, -Int.not_le, -Nat.not_lt, -Nat.not_le]; exact Ens.nil _⟩)
  · skip
    refine c_seq (fun K5 hK5 => ?_)
    refine wp_region_lit ?_
    refine l_step rfl (o_val F (r_load M F rfl (by repeat (first | exact List.mem_cons_self | apply List.mem_cons_of_mem)) agg_State (seg_all rfl)) rfl ?_); clear F a; intro a F
    refine l_step rfl (o_val F (r_move F rfl) rfl ?_); clear F a; intro a F
    refine l_step rfl (o_call M F rfl (c_pglog_place M.imm (hl.mono M.gl)) rfl ?_); clear F a; intro a W5 v5 G5 hp5 M E5 F
    subst hp5
    refine l_step rfl (o_val F (r_lss_i64 F rfl rfl) rfl ?_); clear F a; intro a F
    refine l_step rfl (o_val F (r_assign F rfl) rfl ?_); clear F a; intro a F
    refine l_nil ?_
    refine hK5 _ _ ?_
    refine c_cond F rfl (fun g11 => ?_) (fun g11 => ?_)
    · skip
      refine c_seq (fun K6 hK6 => ?_)
      refine wp_region_lit ?_
      refine l_step rfl (o_val F (r_build F rfl b_State) rfl ?_); clear F a; intro a F
      refine l_step rfl (o_storeA M F rfl rfl agg_State.size (by repeat (first | exact Upd.here _ _ _ _ _ | apply Upd.there)) (by rfl) (by rfl) (by rfl) ?_); clear F a; intro a W6 M F
      refine l_step rfl (o_val F (r_assign F rfl) rfl ?_); clear F a; intro a F
      refine l_nil ?_
      refine hK6 _ _ ?_
      refine wp_ret ?_
      exact ret2 Try.results24 M F (rv_cell M F rfl (by repeat (first | exact List.mem_cons_self | apply List.mem_cons_of_mem)) agg_State rfl) (rv_tmp F rfl) (⟨Sl.nil, by clear hI M F hK1 hK2 hK3 hK5 hK6; simp_all [pCut, PState.zero, -UInt8.not_le, -UInt8.not_lt, -UInt32.not_le, -UInt32.not_lt, -Int.not_lt, -Int.not_le, -Nat.not_lt, -Nat.not_le], by clear hI M F hK1 hK2 hK3 hK5 hK6; simp_all [pCut, PState.zero, -UInt8.not_le, -UInt8.not_lt, -UInt32.not_le, -UInt32.not_lt, -Int.not_lt, -Int.not_le, -Nat.not_lt, -Nat.not_le]; exact Ens.nil _⟩)
    · skip
      refine wp_skip ?_
      refine hK2 _ _ ?_
      refine c_seq (fun K7 hK7 => ?_)
      refine c_drawM M [8] mixed (fun M => ?_)
      have Ms := M
      have hq1 := Keeps.here M
      have hle1 := M.gle
      refine t_take (i := 0) F rfl rfl hq1 (fun _ _ => r_fieldAddr F rfl fld_State_3) (fun _ _ _ h => h) (by kernel_rfl) (by kernel_rfl) (by kernel_rfl) (by kernel_rfl) ?_; clear F a; intro a F
      refine t_take (i := 1) F rfl rfl hq1 (fun _ ⟨_, _, M'⟩ => r_load1 M' F rfl (by repeat (first | exact List.mem_cons_self | apply List.mem_cons_of_mem)) sca_Entries rfl) (fun _ _ _ h => h) (by kernel_rfl) (by kernel_rfl) (by kernel_rfl) (by kernel_rfl) ?_; clear F a; intro a F
      refine t_take (i := 2) F rfl rfl hq1 (fun _ ⟨_, _, M'⟩ => r_load M' F rfl (by repeat (first | exact List.mem_cons_self | apply List.mem_cons_of_mem)) agg_State (seg_all rfl)) (fun _ _ _ h => h) (by kernel_rfl) (by kernel_rfl) (by kernel_rfl) (by kernel_rfl) ?_; clear F a; intro a F
      refine t_take (i := 3) F rfl rfl hq1 (fun _ _ => r_move F rfl) (fun _ _ _ h => h) (by kernel_rfl) (by kernel_rfl) (by kernel_rfl) (by kernel_rfl) ?_; clear F a; intro a F
      refine t_one (i := 4) (by kernel_rfl) rfl rfl (o_call M F rfl (c_pglog_place M.imm (hl.mono M.gl)) rfl ?_); clear F a; intro a W7 v7 G7 hp7 M E7 F
      subst hp7
      have hle1 := hle1.trans E7.gl
      refine keepAnd (Keeps.mk hle1 M (by repeat (first | exact List.Sublist.refl _ | apply List.Sublist.cons_cons | apply List.Sublist.cons))) (fun hq1 => ?_)
      have hpl := place_le (n := n) (s := s) (by simpa using g6)
      have hpn : 0 ≤ pPlace s n := by have h := of_decide_eq_false g11; omega
      refine t_take (i := 5) F rfl rfl hq1 (fun _ _ => r_slice_to F slc_Entries rfl rfl (by omega) (by omega)) (fun _ _ _ h => h) (by kernel_rfl) (by kernel_rfl) (by kernel_rfl) (by kernel_rfl) ?_; clear F a; intro a F
      refine t_one (i := 6) (by kernel_rfl) rfl rfl (o_call M F rfl (c_slices_Clone_Entry M.imm (by have h := (hl.mono M.gl).cut (i := 0) (j := (pPlace s n).toNat) (by omega) (by omega); simp only [List.drop_zero, Nat.sub_zero] at h; exact h) (by have := is_len (s := s) (by simpa using g6); rw [List.length_take]; omega)) rfl ?_); clear F a; intro a W8 v8 G8 hp8 M E8 F
      obtain ⟨l1, rfl, hl1, _⟩ := hp8
      have hle1 := hle1.trans E8.gl
      refine keepAnd (Keeps.mk hle1 M (by repeat (first | exact List.Sublist.refl _ | apply List.Sublist.cons_cons | apply List.Sublist.cons))) (fun hq1 => ?_)
      refine t_take (i := 7) F rfl rfl hq1 (fun _ _ => r_fieldAddr F rfl fld_State_3) (fun _ _ _ h => h) (by kernel_rfl) (by kernel_rfl) (by kernel_rfl) (by kernel_rfl) ?_; clear F a; intro a F
      refine t_one (i := 8) (by kernel_rfl) rfl rfl (o_store1 M F rfl rfl sca_Entries rfl rfl p_State_3 (by repeat (first | exact Upd.here _ _ _ _ _ | apply Upd.there)) ?_); clear F a; intro a W9 M F
      refine ⟨(fun h => nomatch h), ?_⟩
      refine t_done (by kernel_rfl) ?_ _
      refine hK7 _ _ ?_
      refine c_seq (fun K8 hK8 => ?_)
      refine wp_region_lit ?_
      refine l_step rfl (o_val F (r_load M F rfl (by repeat (first | exact List.mem_cons_self | apply List.mem_cons_of_mem)) agg_State (seg_all rfl)) rfl ?_); clear F a; intro a F
      refine l_step rfl (o_storeA M F rfl rfl agg_State.size (by repeat (first | exact Upd.here _ _ _ _ _ | apply Upd.there)) (by rfl) (by rfl) (by rfl) ?_); clear F a; intro a W10 M F
      refine l_step rfl (o_val F (r_assign F rfl) rfl ?_); clear F a; intro a F
      refine l_nil ?_
      refine hK8 _ _ ?_
      refine wp_ret ?_
      exact ret2 Try.results24 M F (rv_cell M F rfl (by repeat (first | exact List.mem_cons_self | apply List.mem_cons_of_mem)) agg_State rfl) (rv_tmp F rfl) (⟨l1, by clear hI M F hK1 hK2 hK3 hK5 hK7 hK8; simp_all [pCut, -UInt8.not_le, -UInt8.not_lt, -UInt32.not_le, -UInt32.not_lt, -Int.not_lt, -Int.not_le, -Nat.not_lt, -Nat.not_le], by clear hI M F hK1 hK2 hK3 hK5 hK7 hK8; simp_all [pCut, -UInt8.not_le, -UInt8.not_lt, -UInt32.not_le, -UInt32.not_lt, -Int.not_lt, -Int.not_le, -Nat.not_lt, -Nat.not_le]⟩)
theorem c_pglog_Tail {w : World} {G0 : Ghost} (hI : Imm G0 w) {s : PState} {l : Sl} (hl : Ens G0 l s.log) {n : UInt32} : Ret P 20 [agg (GState.enc (s.at l)), .int .u32 (n.toNat : Int)] [] w G0 (fun G W v => ∃ l', v = .tuple #[agg (GState.enc ((pTail s n).1.at l')), .int .i64 (pTail s n).2] ∧ Ens G l' (pTail s n).1.log) := by
  refine enter Try.func20 rfl Try.ntmps20 rfl rfl hI (fun a F M => ?_)
  have hlen := hl.len
  have hlen2 : (s.at l).log.len = s.log.length := hl.len
  have hmax := hl.rd.max
  have hcap := hl.rd.cap
  have hcap2 : (s.at l).log.len ≤ (s.at l).log.cap := hl.rd.cap
  refine c_seq (fun K1 hK1 => ?_)
  refine wp_region_lit ?_
  refine l_step rfl (o_box M F rfl rfl ?_); clear F a; intro a W1 b1 M F
  refine l_step rfl (o_alloc M F zer_State rfl ?_); clear F a; intro a W2 b2 M F
  refine l_step rfl (o_val F (r_assign F rfl) rfl ?_); clear F a; intro a F
  refine l_nil ?_
  refine hK1 _ _ ?_
  refine c_seq (fun K2 hK2 => ?_)
  refine wp_block ?_
  refine c_seq (fun K3 hK3 => ?_)
  refine wp_region_lit ?_
  refine l_step rfl (o_val F (r_load M F rfl (by repeat (first | exact List.mem_cons_self | apply List.mem_cons_of_mem)) agg_State (seg_all rfl)) rfl ?_); clear F a; intro a F
  refine l_step rfl (o_call M F rfl (c_pglog_Is M.imm (hl.mono M.gl)) rfl ?_); clear F a; intro a W3 v3 G3 hp3 M E3 F
  subst hp3
  refine l_step rfl (o_val F (r_not F rfl) rfl ?_); clear F a; intro a F
  refine l_step rfl (o_val F (r_assign F rfl) rfl ?_); clear F a; intro a F
  refine l_nil ?_
  refine hK3 _ _ ?_
  refine c_cond F rfl (fun g6 => ?_) (fun g6 => ?_)
  · skip
    refine c_seq (fun K4 hK4 => ?_)
    refine wp_region_lit ?_
    refine l_step rfl (o_val F (r_build F rfl b_State) rfl ?_); clear F a; intro a F
    refine l_step rfl (o_storeA M F rfl rfl agg_State.size (by repeat (first | exact Upd.here _ _ _ _ _ | apply Upd.there)) (by rfl) (by rfl) (by rfl) ?_); clear F a; intro a W4 M F
    refine l_step rfl (o_val F (r_assign F rfl) rfl ?_); clear F a; intro a F
    refine l_nil ?_
    refine hK4 _ _ ?_
    refine wp_ret ?_
    exact ret2 Try.results20 M F (rv_cell M F rfl (by repeat (first | exact List.mem_cons_self | apply List.mem_cons_of_mem)) agg_State rfl) (rv_tmp F rfl) (⟨Sl.nil, by clear hI M F hK1 hK2 hK3 hK4; simp_all [pTail, PState.zero, -UInt8.not_le, -UInt8.not_lt, -UInt32.not_le, -UInt32.not_lt, -Int.not_lt, -Int.not_le, -Nat.not_lt, -Nat.not_le], by clear hI M F hK1 hK2 hK3 hK4; simp_all [pTail, PState.zero, -UInt8.not_le, -UInt8.not_lt, -UInt32.not_le, -UInt32.not_lt, -Int.not_lt, -Int.not_le, -Nat.not_lt, -Nat.not_le]; exact Ens.nil _⟩)
  · skip
    refine c_seq (fun K5 hK5 => ?_)
    refine wp_region_lit ?_
    refine l_step rfl (o_val F (r_move F rfl) rfl ?_); clear F a; intro a F
    refine l_step rfl (o_val F (r_fieldAddr F rfl fld_State_2) rfl ?_); clear F a; intro a F
    refine l_step rfl (o_val F (r_fieldAddr F rfl fld_Entry_1) rfl ?_); clear F a; intro a F
    refine l_step rfl (o_val F (r_load1 M F rfl (by repeat (first | exact List.mem_cons_self | apply List.mem_cons_of_mem)) sca_u32 rfl) rfl ?_); clear F a; intro a F
    refine l_step rfl (o_val F (r_lss_u32 F rfl rfl) rfl ?_); clear F a; intro a F
    refine l_step rfl (o_val F (r_assign F rfl) rfl ?_); clear F a; intro a F
    refine l_nil ?_
    refine hK5 _ _ ?_
    refine c_cond F rfl (fun g11 => ?_) (fun g11 => ?_)
    · skip
      refine c_seq (fun K6 hK6 => ?_)
      refine wp_region_lit ?_
      refine l_step rfl (o_val F (r_build F rfl b_State) rfl ?_); clear F a; intro a F
      refine l_step rfl (o_storeA M F rfl rfl agg_State.size (by repeat (first | exact Upd.here _ _ _ _ _ | apply Upd.there)) (by rfl) (by rfl) (by rfl) ?_); clear F a; intro a W5 M F
      refine l_step rfl (o_val F (r_assign F rfl) rfl ?_); clear F a; intro a F
      refine l_nil ?_
      refine hK6 _ _ ?_
      refine wp_ret ?_
      exact ret2 Try.results20 M F (rv_cell M F rfl (by repeat (first | exact List.mem_cons_self | apply List.mem_cons_of_mem)) agg_State rfl) (rv_tmp F rfl) (⟨Sl.nil, by clear hI M F hK1 hK2 hK3 hK5 hK6; simp_all [pTail, PState.zero, -UInt8.not_le, -UInt8.not_lt, -UInt32.not_le, -UInt32.not_lt, -Int.not_lt, -Int.not_le, -Nat.not_lt, -Nat.not_le], by clear hI M F hK1 hK2 hK3 hK5 hK6; simp_all [pTail, PState.zero, -UInt8.not_le, -UInt8.not_lt, -UInt32.not_le, -UInt32.not_lt, -Int.not_lt, -Int.not_le, -Nat.not_lt, -Nat.not_le]; exact Ens.nil _⟩)
    · skip
      refine c_seq (fun K7 hK7 => ?_)
      refine wp_region_lit ?_
      refine l_step rfl (o_val F (r_load M F rfl (by repeat (first | exact List.mem_cons_self | apply List.mem_cons_of_mem)) agg_State (seg_all rfl)) rfl ?_); clear F a; intro a F
      refine l_step rfl (o_val F (r_move F rfl) rfl ?_); clear F a; intro a F
      refine l_step rfl (o_call M F rfl (c_pglog_place M.imm (hl.mono M.gl)) rfl ?_); clear F a; intro a W6 v6 G6 hp6 M E6 F
      subst hp6
      refine l_step rfl (o_val F (r_lss_i64 F rfl rfl) rfl ?_); clear F a; intro a F
      refine l_step rfl (o_val F (r_assign F rfl) rfl ?_); clear F a; intro a F
      refine l_nil ?_
      refine hK7 _ _ ?_
      refine c_cond F rfl (fun g18 => ?_) (fun g18 => ?_)
      · skip
        refine c_seq (fun K8 hK8 => ?_)
        refine wp_region_lit ?_
        refine l_step rfl (o_val F (r_build F rfl b_State) rfl ?_); clear F a; intro a F
        refine l_step rfl (o_storeA M F rfl rfl agg_State.size (by repeat (first | exact Upd.here _ _ _ _ _ | apply Upd.there)) (by rfl) (by rfl) (by rfl) ?_); clear F a; intro a W7 M F
        refine l_step rfl (o_val F (r_assign F rfl) rfl ?_); clear F a; intro a F
        refine l_nil ?_
        refine hK8 _ _ ?_
        refine wp_ret ?_
        exact ret2 Try.results20 M F (rv_cell M F rfl (by repeat (first | exact List.mem_cons_self | apply List.mem_cons_of_mem)) agg_State rfl) (rv_tmp F rfl) (⟨Sl.nil, by clear hI M F hK1 hK2 hK3 hK5 hK7 hK8; simp_all [pTail, PState.zero, -UInt8.not_le, -UInt8.not_lt, -UInt32.not_le, -UInt32.not_lt, -Int.not_lt, -Int.not_le, -Nat.not_lt, -Nat.not_le], by clear hI M F hK1 hK2 hK3 hK5 hK7 hK8; simp_all [pTail, PState.zero, -UInt8.not_le, -UInt8.not_lt, -UInt32.not_le, -UInt32.not_lt, -Int.not_lt, -Int.not_le, -Nat.not_lt, -Nat.not_le]; exact Ens.nil _⟩)
      · skip
        refine wp_skip ?_
        refine hK2 _ _ ?_
        refine c_seq (fun K9 hK9 => ?_)
        refine c_drawM (M.drop (List.Sublist.cons _ (List.Sublist.cons_cons _ (List.Sublist.refl _)))) [] mixed (fun Mk => ?_)
        have M := M.drew
        have Ms := Mk
        have hq1 := Keeps.here Mk
        have hle1 := M.gle
        refine t_take (i := 0) F rfl rfl hq1 (fun _ ⟨_, _, M'⟩ => r_load M' F rfl (by repeat (first | exact List.mem_cons_self | apply List.mem_cons_of_mem)) agg_State (seg_all rfl)) (fun _ _ _ h => h) (by kernel_rfl) (by kernel_rfl) (by kernel_rfl) (by kernel_rfl) ?_; clear F a; intro a F
        refine t_take (i := 1) F rfl rfl hq1 (fun _ ⟨_, _, M'⟩ => r_load M' F rfl (by repeat (first | exact List.mem_cons_self | apply List.mem_cons_of_mem)) agg_State (seg_all rfl)) (fun _ _ _ h => h) (by kernel_rfl) (by kernel_rfl) (by kernel_rfl) (by kernel_rfl) ?_; clear F a; intro a F
        refine t_take (i := 2) F rfl rfl hq1 (fun _ _ => r_move F rfl) (fun _ _ _ h => h) (by kernel_rfl) (by kernel_rfl) (by kernel_rfl) (by kernel_rfl) ?_; clear F a; intro a F
        refine t_one (i := 3) (by kernel_rfl) rfl rfl (o_call M F rfl (c_pglog_place M.imm (hl.mono M.gl)) rfl ?_); clear F a; intro a W8 v8 G8 hp8 M E8 F
        subst hp8
        have hle1 := hle1.trans E8.gl
        refine keepAnd (Keeps.mk hle1 M (by repeat (first | exact List.Sublist.refl _ | apply List.Sublist.cons_cons | apply List.Sublist.cons))) (fun hq1 => ?_)
        refine t_one (i := 4) (by kernel_rfl) rfl rfl (o_call M F rfl (c_pglog_folded M.imm (hl.mono M.gl) (by have h := of_decide_eq_false g18; omega) (place_le (by simpa using g6)) (is_few (by simpa using g6)) (by have := is_len (s := s) (by simpa using g6); omega)) rfl ?_); clear F a; intro a W9 v9 G9 hp9 M E9 F
        obtain ⟨l1, rfl, hl1⟩ := hp9
        have hle1 := hle1.trans E9.gl
        refine keepAnd (Keeps.mk hle1 M (by repeat (first | exact List.Sublist.refl _ | apply List.Sublist.cons_cons | apply List.Sublist.cons))) (fun hq1 => ?_)
        refine t_one (i := 5) (by kernel_rfl) rfl rfl (o_storeA M F rfl rfl agg_State.size (by repeat (first | exact Upd.here _ _ _ _ _ | apply Upd.there)) (by rfl) (by rfl) (by rfl) ?_); clear F a; intro a W10 M F
        refine keepAnd (Keeps.mk hle1 M (by repeat (first | exact List.Sublist.refl _ | apply List.Sublist.cons_cons | apply List.Sublist.cons))) (fun hq1 => ?_)
        refine t_take (i := 6) F rfl rfl hq1 (fun _ _ => r_assign F rfl) (fun _ _ _ h => h) (by kernel_rfl) (by kernel_rfl) (by kernel_rfl) (by kernel_rfl) ?_; clear F a; intro a F
        refine t_done (by kernel_rfl) ?_ _
        refine hK9 _ _ ?_
        refine wp_ret ?_
        exact ret2 Try.results20 M F (rv_cell M F rfl (by repeat (first | exact List.mem_cons_self | apply List.mem_cons_of_mem)) agg_State rfl) (rv_tmp F rfl) (⟨l1, by clear hI M F hK1 hK2 hK3 hK5 hK7 hK9; simp_all [pTail, -UInt8.not_le, -UInt8.not_lt, -UInt32.not_le, -UInt32.not_lt, -Int.not_lt, -Int.not_le, -Nat.not_lt, -Nat.not_le], by clear hI M F hK1 hK2 hK3 hK5 hK7 hK9; simp_all [pTail, -UInt8.not_le, -UInt8.not_lt, -UInt32.not_le, -UInt32.not_lt, -Int.not_lt, -Int.not_le, -Nat.not_lt, -Nat.not_le]⟩)
theorem c_pglog_Same {w : World} {G0 : Ghost} (hI : Imm G0 w) {s t : PState} {l l1 : Sl} (hl : Ens G0 l s.log) (hl1 : Ens G0 l1 t.log) : Ret P 21 [agg (GState.enc (s.at l)), agg (GState.enc (t.at l1))] [] w G0 (fun G W v => v = .bool (decide (s = t))) := by
  refine enter Try.func21 rfl Try.ntmps21 rfl rfl hI (fun a F M => ?_)
  refine c_seq (fun K1 hK1 => ?_)
  refine wp_region_lit ?_
  refine l_step rfl (o_box M F rfl rfl ?_); clear F a; intro a W1 b1 M F
  refine l_step rfl (o_box M F rfl rfl ?_); clear F a; intro a W2 b2 M F
  refine l_step rfl (o_val F (r_assign F rfl) rfl ?_); clear F a; intro a F
  refine l_nil ?_
  refine hK1 _ _ ?_
  refine c_seq (fun K2 hK2 => ?_)
  refine wp_region_lit ?_
  refine l_step rfl (o_val F (r_fieldAddr F rfl fld_State_0) rfl ?_); clear F a; intro a F
  refine l_step rfl (o_val F (r_load1 M F rfl (by repeat (first | exact List.mem_cons_self | apply List.mem_cons_of_mem)) sca_u32 rfl) rfl ?_); clear F a; intro a F
  refine l_step rfl (o_val F (r_fieldAddr F rfl fld_State_0) rfl ?_); clear F a; intro a F
  refine l_step rfl (o_val F (r_load1 M F rfl (by repeat (first | exact List.mem_cons_self | apply List.mem_cons_of_mem)) sca_u32 rfl) rfl ?_); clear F a; intro a F
  refine l_step rfl (o_val F (r_eql_u32 F rfl rfl) rfl ?_); clear F a; intro a F
  refine l_step rfl (o_val F (r_move F rfl) rfl ?_); clear F a; intro a F
  refine c_split F (i := 10) rfl (fun g10 => ?_) (fun g10 => ?_)
  · skip
    refine l_guard F rfl rfl rfl g10 (o_val F (r_fieldAddr F rfl fld_State_1) rfl ?_); clear F a; intro a F
    refine l_guard F rfl rfl rfl g10 (o_val F (r_load M F rfl (by repeat (first | exact List.mem_cons_self | apply List.mem_cons_of_mem)) agg_Base g_State_1) rfl ?_); clear F a; intro a F
    refine l_guard F rfl rfl rfl g10 (o_val F (r_fieldAddr F rfl fld_State_1) rfl ?_); clear F a; intro a F
    refine l_guard F rfl rfl rfl g10 (o_val F (r_load M F rfl (by repeat (first | exact List.mem_cons_self | apply List.mem_cons_of_mem)) agg_Base g_State_1) rfl ?_); clear F a; intro a F
    refine l_guard F rfl rfl rfl g10 (o_val F (r_eql_Base F rfl rfl) rfl ?_); clear F a; intro a F
    refine l_step rfl (o_val F (r_pick_t F rfl g10 rfl) rfl ?_); clear F a; intro a F
    refine l_step rfl (o_val F (r_move F rfl) rfl ?_); clear F a; intro a F
    refine c_split F (i := 17) rfl (fun g17 => ?_) (fun g17 => ?_)
    · skip
      refine l_guard F rfl rfl rfl g17 (o_val F (r_fieldAddr F rfl fld_State_2) rfl ?_); clear F a; intro a F
      refine l_guard F rfl rfl rfl g17 (o_val F (r_load M F rfl (by repeat (first | exact List.mem_cons_self | apply List.mem_cons_of_mem)) agg_Entry g_State_2) rfl ?_); clear F a; intro a F
      refine l_guard F rfl rfl rfl g17 (o_val F (r_fieldAddr F rfl fld_State_2) rfl ?_); clear F a; intro a F
      refine l_guard F rfl rfl rfl g17 (o_val F (r_load M F rfl (by repeat (first | exact List.mem_cons_self | apply List.mem_cons_of_mem)) agg_Entry g_State_2) rfl ?_); clear F a; intro a F
      refine l_guard F rfl rfl rfl g17 (o_val F (r_eql_Entry F rfl rfl) rfl ?_); clear F a; intro a F
      refine l_step rfl (o_val F (r_pick_t F rfl g17 rfl) rfl ?_); clear F a; intro a F
      refine l_step rfl (o_val F (r_move F rfl) rfl ?_); clear F a; intro a F
      refine c_split F (i := 24) rfl (fun g24 => ?_) (fun g24 => ?_)
      · skip
        refine l_guard F rfl rfl rfl g24 (o_val F (r_fieldAddr F rfl fld_State_3) rfl ?_); clear F a; intro a F
        refine l_guard F rfl rfl rfl g24 (o_val F (r_load1 M F rfl (by repeat (first | exact List.mem_cons_self | apply List.mem_cons_of_mem)) sca_Entries rfl) rfl ?_); clear F a; intro a F
        refine l_guard F rfl rfl rfl g24 (o_val F (r_fieldAddr F rfl fld_State_3) rfl ?_); clear F a; intro a F
        refine l_guard F rfl rfl rfl g24 (o_val F (r_load1 M F rfl (by repeat (first | exact List.mem_cons_self | apply List.mem_cons_of_mem)) sca_Entries rfl) rfl ?_); clear F a; intro a F
        refine l_guard F rfl rfl rfl g24 (o_call M F rfl (c_slices_Equal_Entry M.imm (hl.mono M.gl) (hl1.mono M.gl)) rfl ?_); clear F a; intro a W3 v3 G3 hp3 M E3 F
        subst hp3
        refine l_step rfl (o_val F (r_pick_t F rfl g24 rfl) rfl ?_); clear F a; intro a F
        refine l_step rfl (o_val F (r_assign F rfl) rfl ?_); clear F a; intro a F
        refine l_nil ?_
        refine hK2 _ _ ?_
        refine wp_ret ?_
        exact ret1 Try.results21 M F (rv_tmp F rfl) (by clear hI M F hK1 hK2; cases s; cases t; simp_all [PState.mk.injEq])
      · skip
        iterate 5 (refine l_skip F rfl rfl rfl g24 rfl rfl ?_; clear F a; intro a F)
        refine l_step rfl (o_val F (r_pick_f F rfl g24 rfl) rfl ?_); clear F a; intro a F
        refine l_step rfl (o_val F (r_assign F rfl) rfl ?_); clear F a; intro a F
        refine l_nil ?_
        refine hK2 _ _ ?_
        refine wp_ret ?_
        exact ret1 Try.results21 M F (rv_tmp F rfl) (by clear hI M F hK1 hK2; cases s; cases t; simp_all [PState.mk.injEq])
    · skip
      iterate 5 (refine l_skip F rfl rfl rfl g17 rfl rfl ?_; clear F a; intro a F)
      refine l_step rfl (o_val F (r_pick_f F rfl g17 rfl) rfl ?_); clear F a; intro a F
      refine l_step rfl (o_val F (r_move F rfl) rfl ?_); clear F a; intro a F
      iterate 5 (refine l_skip F rfl rfl rfl rfl rfl rfl ?_; clear F a; intro a F)
      refine l_step rfl (o_val F (r_pick_f F rfl rfl rfl) rfl ?_); clear F a; intro a F
      refine l_step rfl (o_val F (r_assign F rfl) rfl ?_); clear F a; intro a F
      refine l_nil ?_
      refine hK2 _ _ ?_
      refine wp_ret ?_
      exact ret1 Try.results21 M F (rv_tmp F rfl) (by clear hI M F hK1 hK2; cases s; cases t; simp_all [PState.mk.injEq])
  · skip
    iterate 5 (refine l_skip F rfl rfl rfl g10 rfl rfl ?_; clear F a; intro a F)
    refine l_step rfl (o_val F (r_pick_f F rfl g10 rfl) rfl ?_); clear F a; intro a F
    refine l_step rfl (o_val F (r_move F rfl) rfl ?_); clear F a; intro a F
    iterate 5 (refine l_skip F rfl rfl rfl rfl rfl rfl ?_; clear F a; intro a F)
    refine l_step rfl (o_val F (r_pick_f F rfl rfl rfl) rfl ?_); clear F a; intro a F
    refine l_step rfl (o_val F (r_move F rfl) rfl ?_); clear F a; intro a F
    iterate 5 (refine l_skip F rfl rfl rfl rfl rfl rfl ?_; clear F a; intro a F)
    refine l_step rfl (o_val F (r_pick_f F rfl rfl rfl) rfl ?_); clear F a; intro a F
    refine l_step rfl (o_val F (r_assign F rfl) rfl ?_); clear F a; intro a F
    refine l_nil ?_
    refine hK2 _ _ ?_
    refine wp_ret ?_
    exact ret1 Try.results21 M F (rv_tmp F rfl) (by clear hI M F hK1 hK2; cases s; cases t; simp_all [PState.mk.injEq])
theorem c_pglog_Find {w : World} {G0 : Ghost} (hI : Imm G0 w) {s : PState} {l : Sl} (hl : Ens G0 l s.log) {n : UInt32} : Ret P 43 [agg (GState.enc (s.at l)), .int .u32 (n.toNat : Int)] [] w G0 (fun G W v => v = .tuple #[agg (pFind s n).1.enc, .bool (pFind s n).2]) := by
  refine enter Try.func43 rfl Try.ntmps43 rfl rfl hI (fun a F M => ?_)
  have hlen := hl.len
  have hlen2 : (s.at l).log.len = s.log.length := hl.len
  have hmax := hl.rd.max
  have hcap := hl.rd.cap
  have hcap2 : (s.at l).log.len ≤ (s.at l).log.cap := hl.rd.cap
  refine c_seq (fun K1 hK1 => ?_)
  refine wp_region_lit ?_
  refine l_step rfl (o_box M F rfl rfl ?_); clear F a; intro a W1 b1 M F
  refine l_step rfl (o_alloc M F zer_Entry rfl ?_); clear F a; intro a W2 b2 M F
  refine l_step rfl (o_val F (r_assign F rfl) rfl ?_); clear F a; intro a F
  refine l_nil ?_
  refine hK1 _ _ ?_
  refine c_seq (fun K2 hK2 => ?_)
  refine c_seq (fun K3 hK3 => ?_)
  refine wp_region_lit ?_
  refine l_step rfl (o_val F (r_load M F rfl (by repeat (first | exact List.mem_cons_self | apply List.mem_cons_of_mem)) agg_State (seg_all rfl)) rfl ?_); clear F a; intro a F
  refine l_step rfl (o_call M F rfl (c_pglog_Is M.imm (hl.mono M.gl)) rfl ?_); clear F a; intro a W3 v3 G3 hp3 M E3 F
  subst hp3
  refine l_step rfl (o_val F (r_not F rfl) rfl ?_); clear F a; intro a F
  refine l_step rfl (o_val F (r_move F rfl) rfl ?_); clear F a; intro a F
  refine c_split F (i := 9) rfl (fun g9 => ?_) (fun g9 => ?_)
  · skip
    iterate 5 (refine l_skip F rfl rfl rfl g9 rfl rfl ?_; clear F a; intro a F)
    refine l_step rfl (o_val F (r_pick_t F rfl g9 rfl) rfl ?_); clear F a; intro a F
    refine l_step rfl (o_val F (r_move F rfl) rfl ?_); clear F a; intro a F
    iterate 4 (refine l_skip F rfl rfl rfl rfl rfl rfl ?_; clear F a; intro a F)
    refine l_step rfl (o_val F (r_pick_t F rfl rfl rfl) rfl ?_); clear F a; intro a F
    refine l_nil ?_
    refine hK3 _ _ ?_
    refine c_true F rfl rfl ?_
    refine c_seq (fun K4 hK4 => ?_)
    refine wp_region_lit ?_
    refine l_step rfl (o_val F (r_build F rfl b_Entry) rfl ?_); clear F a; intro a F
    refine l_step rfl (o_storeA M F rfl rfl agg_Entry.size (by repeat (first | exact Upd.here _ _ _ _ _ | apply Upd.there)) (by rfl) (by rfl) (by rfl) ?_); clear F a; intro a W4 M F
    refine l_step rfl (o_val F (r_assign F rfl) rfl ?_); clear F a; intro a F
    refine l_nil ?_
    refine hK4 _ _ ?_
    refine wp_ret ?_
    exact ret2 Try.results43 M F (rv_cell M F rfl (by repeat (first | exact List.mem_cons_self | apply List.mem_cons_of_mem)) agg_Entry rfl) (rv_tmp F rfl) (by clear hI M F hK1 hK2 hK3 hK4; simp_all [pFind, PEntry.zero, -UInt8.not_le, -UInt8.not_lt, -UInt32.not_le, -UInt32.not_lt, -Int.not_lt, -Int.not_le, -Nat.not_lt, -Nat.not_le])
  · skip
    refine l_guard F rfl rfl rfl g9 (o_val F (r_move F rfl) rfl ?_); clear F a; intro a F
    refine l_guard F rfl rfl rfl g9 (o_val F (r_fieldAddr F rfl fld_State_2) rfl ?_); clear F a; intro a F
    refine l_guard F rfl rfl rfl g9 (o_val F (r_fieldAddr F rfl fld_Entry_1) rfl ?_); clear F a; intro a F
    refine l_guard F rfl rfl rfl g9 (o_val F (r_load1 M F rfl (by repeat (first | exact List.mem_cons_self | apply List.mem_cons_of_mem)) sca_u32 rfl) rfl ?_); clear F a; intro a F
    refine l_guard F rfl rfl rfl g9 (o_val F (r_leq_u32 F rfl rfl) rfl ?_); clear F a; intro a F
    refine l_step rfl (o_val F (r_pick_f F rfl g9 rfl) rfl ?_); clear F a; intro a F
    refine l_step rfl (o_val F (r_move F rfl) rfl ?_); clear F a; intro a F
    refine c_split F (i := 16) rfl (fun g16 => ?_) (fun g16 => ?_)
    · skip
      iterate 4 (refine l_skip F rfl rfl rfl g16 rfl rfl ?_; clear F a; intro a F)
      refine l_step rfl (o_val F (r_pick_t F rfl g16 rfl) rfl ?_); clear F a; intro a F
      refine l_nil ?_
      refine hK3 _ _ ?_
      refine c_true F rfl rfl ?_
      refine c_seq (fun K5 hK5 => ?_)
      refine wp_region_lit ?_
      refine l_step rfl (o_val F (r_build F rfl b_Entry) rfl ?_); clear F a; intro a F
      refine l_step rfl (o_storeA M F rfl rfl agg_Entry.size (by repeat (first | exact Upd.here _ _ _ _ _ | apply Upd.there)) (by rfl) (by rfl) (by rfl) ?_); clear F a; intro a W5 M F
      refine l_step rfl (o_val F (r_assign F rfl) rfl ?_); clear F a; intro a F
      refine l_nil ?_
      refine hK5 _ _ ?_
      refine wp_ret ?_
      exact ret2 Try.results43 M F (rv_cell M F rfl (by repeat (first | exact List.mem_cons_self | apply List.mem_cons_of_mem)) agg_Entry rfl) (rv_tmp F rfl) (by clear hI M F hK1 hK2 hK3 hK5; simp_all [pFind, PEntry.zero, -UInt8.not_le, -UInt8.not_lt, -UInt32.not_le, -UInt32.not_lt, -Int.not_lt, -Int.not_le, -Nat.not_lt, -Nat.not_le])
    · skip
      refine l_guard F rfl rfl rfl g16 (o_val F (r_load M F rfl (by repeat (first | exact List.mem_cons_self | apply List.mem_cons_of_mem)) agg_State (seg_all rfl)) rfl ?_); clear F a; intro a F
      refine l_guard F rfl rfl rfl g16 (o_val F (r_move F rfl) rfl ?_); clear F a; intro a F
      refine l_guard F rfl rfl rfl g16 (o_call M F rfl (c_pglog_place M.imm (hl.mono M.gl)) rfl ?_); clear F a; intro a W6 v6 G6 hp6 M E6 F
      subst hp6
      refine l_guard F rfl rfl rfl g16 (o_val F (r_lss_i64 F rfl rfl) rfl ?_); clear F a; intro a F
      refine l_step rfl (o_val F (r_pick_f F rfl g16 rfl) rfl ?_); clear F a; intro a F
      refine l_nil ?_
      refine hK3 _ _ ?_
      refine c_cond F rfl (fun g21 => ?_) (fun g21 => ?_)
      · skip
        refine c_seq (fun K6 hK6 => ?_)
        refine wp_region_lit ?_
        refine l_step rfl (o_val F (r_build F rfl b_Entry) rfl ?_); clear F a; intro a F
        refine l_step rfl (o_storeA M F rfl rfl agg_Entry.size (by repeat (first | exact Upd.here _ _ _ _ _ | apply Upd.there)) (by rfl) (by rfl) (by rfl) ?_); clear F a; intro a W7 M F
        refine l_step rfl (o_val F (r_assign F rfl) rfl ?_); clear F a; intro a F
        refine l_nil ?_
        refine hK6 _ _ ?_
        refine wp_ret ?_
        exact ret2 Try.results43 M F (rv_cell M F rfl (by repeat (first | exact List.mem_cons_self | apply List.mem_cons_of_mem)) agg_Entry rfl) (rv_tmp F rfl) (by clear hI M F hK1 hK2 hK3 hK6; simp_all [pFind, PEntry.zero, -UInt8.not_le, -UInt8.not_lt, -UInt32.not_le, -UInt32.not_lt, -Int.not_lt, -Int.not_le, -Nat.not_lt, -Nat.not_le])
      · skip
        refine wp_skip ?_
        refine hK2 _ _ ?_
        refine c_seq (fun K7 hK7 => ?_)
        refine c_drawM (M.drop (List.Sublist.cons _ (List.Sublist.cons_cons _ (List.Sublist.refl _)))) [] mixed (fun Mk => ?_)
        have M := M.drew
        have Ms := Mk
        have hq1 := Keeps.here Mk
        have hle1 := M.gle
        refine t_take (i := 0) F rfl rfl hq1 (fun _ _ => r_fieldAddr F rfl fld_State_3) (fun _ _ _ h => h) (by kernel_rfl) (by kernel_rfl) (by kernel_rfl) (by kernel_rfl) ?_; clear F a; intro a F
        refine t_take (i := 1) F rfl rfl hq1 (fun _ ⟨_, _, M'⟩ => r_load1 M' F rfl (by repeat (first | exact List.mem_cons_self | apply List.mem_cons_of_mem)) sca_Entries rfl) (fun _ _ _ h => h) (by kernel_rfl) (by kernel_rfl) (by kernel_rfl) (by kernel_rfl) ?_; clear F a; intro a F
        refine t_take (i := 2) F rfl rfl hq1 (fun _ ⟨_, _, M'⟩ => r_load M' F rfl (by repeat (first | exact List.mem_cons_self | apply List.mem_cons_of_mem)) agg_State (seg_all rfl)) (fun _ _ _ h => h) (by kernel_rfl) (by kernel_rfl) (by kernel_rfl) (by kernel_rfl) ?_; clear F a; intro a F
        refine t_take (i := 3) F rfl rfl hq1 (fun _ _ => r_move F rfl) (fun _ _ _ h => h) (by kernel_rfl) (by kernel_rfl) (by kernel_rfl) (by kernel_rfl) ?_; clear F a; intro a F
        refine t_one (i := 4) (by kernel_rfl) rfl rfl (o_call M F rfl (c_pglog_place M.imm (hl.mono M.gl)) rfl ?_); clear F a; intro a W8 v8 G8 hp8 M E8 F
        subst hp8
        have hle1 := hle1.trans E8.gl
        refine keepAnd (Keeps.mk hle1 M (by repeat (first | exact List.Sublist.refl _ | apply List.Sublist.cons_cons | apply List.Sublist.cons))) (fun hq1 => ?_)
        have hpl := place_le (n := n) (s := s) (by simpa using g9)
        have hpn : 1 ≤ pPlace s n := by have h := of_decide_eq_false g21; omega
        have hp6 := is_len (s := s) (by simpa using g9)
        refine t_take (i := 5) F rfl rfl hq1 (fun _ _ => r_sub_i64 F rfl rfl (by omega)) (fun _ _ _ h => h) (by kernel_rfl) (by kernel_rfl) (by kernel_rfl) (by kernel_rfl) ?_; clear F a; intro a F
        obtain ⟨x, hx⟩ := get_of (l := s.log) (i := (pPlace s n).toNat - 1) (by omega)
        have hi29 : (pPlace s n - 1).toNat = (pPlace s n).toNat - 1 := by omega
        rw [← hi29] at hx
        obtain ⟨eb, eo, er, ha29, hG29, hS29⟩ := (hl.mono Ms.gl).elem hx
        refine t_take (i := 6) F rfl rfl hq1 (fun _ _ => r_indexSl F rfl rfl slc_Entries ha29 (by omega) (by omega)) (fun _ _ _ h => h) (by kernel_rfl) (by kernel_rfl) (by kernel_rfl) (by kernel_rfl) ?_; clear F a; intro a F
        refine t_take (i := 7) F rfl rfl hq1 (fun _ ⟨_, hg, M'⟩ => r_loadrG hg M' F rfl hG29 agg_Entry hS29) (fun _ _ _ h => h) (by kernel_rfl) (by kernel_rfl) (by kernel_rfl) (by kernel_rfl) ?_; clear F a; intro a F
        refine t_one (i := 8) (by kernel_rfl) rfl rfl (o_storeA M F rfl rfl agg_Entry.size (by repeat (first | exact Upd.here _ _ _ _ _ | apply Upd.there)) (by rfl) (by rfl) (by rfl) ?_); clear F a; intro a W9 M F
        refine keepAnd (Keeps.mk hle1 M (by repeat (first | exact List.Sublist.refl _ | apply List.Sublist.cons_cons | apply List.Sublist.cons))) (fun hq1 => ?_)
        refine t_take (i := 9) F rfl rfl hq1 (fun _ _ => r_assign F rfl) (fun _ _ _ h => h) (by kernel_rfl) (by kernel_rfl) (by kernel_rfl) (by kernel_rfl) ?_; clear F a; intro a F
        refine t_done (by kernel_rfl) ?_ _
        refine hK7 _ _ ?_
        refine wp_ret ?_
        exact ret2 Try.results43 M F (rv_cell M F rfl (by repeat (first | exact List.mem_cons_self | apply List.mem_cons_of_mem)) agg_Entry rfl) (rv_tmp F rfl) (by clear hI M F hK1 hK2 hK3 hK7; simp_all [pFind, PEntry.zero, -UInt8.not_le, -UInt8.not_lt, -UInt32.not_le, -UInt32.not_lt, -Int.not_lt, -Int.not_le, -Nat.not_lt, -Nat.not_le])
theorem c_pglog_Add {w : World} {G0 : Ghost} (hI : Imm G0 w) {s : PState} {l : Sl} (hl : Ens G0 l s.log) {e : PEntry} : Ret P 22 [agg (GState.enc (s.at l)), agg e.enc] [] w G0 (fun G W v => ∃ l', v = .tuple #[agg (GState.enc ((pAdd s e).1.at l')), .int .i64 (pAdd s e).2] ∧ Ens G l' (pAdd s e).1.log) := by
  refine enter Try.func22 rfl Try.ntmps22 rfl rfl hI (fun a F M => ?_)
  have hlen := hl.len
  have hlen2 : (s.at l).log.len = s.log.length := hl.len
  have hmax := hl.rd.max
  have hcap := hl.rd.cap
  have hcap2 : (s.at l).log.len ≤ (s.at l).log.cap := hl.rd.cap
  refine c_seq (fun K1 hK1 => ?_)
  refine wp_region_lit ?_
  refine l_step rfl (o_box M F rfl rfl ?_); clear F a; intro a W1 b1 M F
  refine l_step rfl (o_box M F rfl rfl ?_); clear F a; intro a W2 b2 M F
  refine l_step rfl (o_alloc M F zer_State rfl ?_); clear F a; intro a W3 b3 M F
  refine l_step rfl (o_val F (r_assign F rfl) rfl ?_); clear F a; intro a F
  refine l_nil ?_
  refine hK1 _ _ ?_
  refine c_seq (fun K2 hK2 => ?_)
  refine c_seq (fun K3 hK3 => ?_)
  refine c_drawM M [] mixed (fun M => ?_)
  have Ms := M
  have hq1 := Keeps.here M
  have hle1 := M.gle
  refine t_take (i := 0) F rfl rfl hq1 (fun _ ⟨_, _, M'⟩ => r_load M' F rfl (by repeat (first | exact List.mem_cons_self | apply List.mem_cons_of_mem)) agg_State (seg_all rfl)) (fun _ _ _ h => h) (by kernel_rfl) (by kernel_rfl) (by kernel_rfl) (by kernel_rfl) ?_; clear F a; intro a F
  refine t_one (i := 1) (by kernel_rfl) rfl rfl (o_call M F rfl (c_pglog_Is M.imm (hl.mono M.gl)) rfl ?_); clear F a; intro a W4 v4 G4 hp4 M E4 F
  subst hp4
  have hle1 := hle1.trans E4.gl
  refine keepAnd (Keeps.mk hle1 M (by repeat (first | exact List.Sublist.refl _ | apply List.Sublist.cons_cons | apply List.Sublist.cons))) (fun hq1 => ?_)
  refine t_take (i := 2) F rfl rfl hq1 (fun _ _ => r_not F rfl) (fun _ _ _ h => h) (by kernel_rfl) (by kernel_rfl) (by kernel_rfl) (by kernel_rfl) ?_; clear F a; intro a F
  refine t_take (i := 3) F rfl rfl hq1 (fun _ _ => r_move F rfl) (fun _ _ _ h => h) (by kernel_rfl) (by kernel_rfl) (by kernel_rfl) (by kernel_rfl) ?_; clear F a; intro a F
  refine c_split F (i := 9) rfl (fun g9 => ?_) (fun g9 => ?_)
  · skip
    refine t_skip (i := 4) F rfl rfl rfl g9 rfl hq1 (fun _ _ _ h => h) (by kernel_rfl) (by kernel_rfl) (by kernel_rfl) (by kernel_rfl) ?_; clear F a; intro a F
    refine t_skip (i := 6) F rfl rfl rfl g9 rfl hq1 (fun _ _ _ h => h) (by kernel_rfl) (by kernel_rfl) (by kernel_rfl) (by kernel_rfl) ?_; clear F a; intro a F
    refine t_skip (i := 5) F rfl rfl rfl g9 rfl hq1 (fun _ _ _ h => h) (by kernel_rfl) (by kernel_rfl) (by kernel_rfl) (by kernel_rfl) ?_; clear F a; intro a F
    refine t_skip (i := 7) F rfl rfl rfl g9 rfl hq1 (fun _ _ _ h => h) (by kernel_rfl) (by kernel_rfl) (by kernel_rfl) (by kernel_rfl) ?_; clear F a; intro a F
    refine t_skip (i := 8) F rfl rfl rfl g9 rfl hq1 (fun _ _ _ h => h) (by kernel_rfl) (by kernel_rfl) (by kernel_rfl) (by kernel_rfl) ?_; clear F a; intro a F
    refine t_take (i := 9) F rfl rfl hq1 (fun _ _ => r_pick_t F rfl g9 rfl) (fun _ _ _ h => h) (by kernel_rfl) (by kernel_rfl) (by kernel_rfl) (by kernel_rfl) ?_; clear F a; intro a F
    refine t_done (by kernel_rfl) ?_ _
    refine hK3 _ _ ?_
    refine c_true F rfl rfl ?_
    refine c_seq (fun K4 hK4 => ?_)
    refine wp_region_lit ?_
    refine l_step rfl (o_val F (r_build F rfl b_State) rfl ?_); clear F a; intro a F
    refine l_step rfl (o_storeA M F rfl rfl agg_State.size (by repeat (first | exact Upd.here _ _ _ _ _ | apply Upd.there)) (by rfl) (by rfl) (by rfl) ?_); clear F a; intro a W5 M F
    refine l_step rfl (o_val F (r_assign F rfl) rfl ?_); clear F a; intro a F
    refine l_nil ?_
    refine hK4 _ _ ?_
    refine wp_ret ?_
    exact ret2 Try.results22 M F (rv_cell M F rfl (by repeat (first | exact List.mem_cons_self | apply List.mem_cons_of_mem)) agg_State rfl) (rv_tmp F rfl) (⟨Sl.nil, by clear hI M F hK1 hK2 hK3 hK4; simp_all [pAdd, PState.zero, -UInt8.not_le, -UInt8.not_lt, -UInt32.not_le, -UInt32.not_lt, -Int.not_lt, -Int.not_le, -Nat.not_lt, -Nat.not_le], by clear hI M F hK1 hK2 hK3 hK4; simp_all [pAdd, PState.zero, -UInt8.not_le, -UInt8.not_lt, -UInt32.not_le, -UInt32.not_lt, -Int.not_lt, -Int.not_le, -Nat.not_lt, -Nat.not_le]; exact Ens.nil _⟩)
  · skip
    refine t_takeg (i := 4) F rfl rfl rfl g9 rfl hq1 (fun _ ⟨_, _, M'⟩ => r_load M' F rfl (by repeat (first | exact List.mem_cons_self | apply List.mem_cons_of_mem)) agg_State (seg_all rfl)) (fun _ _ _ h => h) (by kernel_rfl) (by kernel_rfl) (by kernel_rfl) (by kernel_rfl) ?_; clear F a; intro a F
    refine t_takeg (i := 6) F rfl rfl rfl g9 rfl hq1 (fun _ ⟨_, _, M'⟩ => r_load M' F rfl (by repeat (first | exact List.mem_cons_self | apply List.mem_cons_of_mem)) agg_Entry (seg_all rfl)) (fun _ _ _ h => h) (by kernel_rfl) (by kernel_rfl) (by kernel_rfl) (by kernel_rfl) ?_; clear F a; intro a F
    refine t_oneg (i := 5) F (by kernel_rfl) rfl rfl rfl rfl g9 (o_call M F rfl (c_pglog_last M.imm (hl.mono M.gl)) rfl ?_); clear F a; intro a W6 v6 G6 hp6 M E6 F
    subst hp6
    have hle1 := hle1.trans E6.gl
    refine keepAnd (Keeps.mk hle1 M (by repeat (first | exact List.Sublist.refl _ | apply List.Sublist.cons_cons | apply List.Sublist.cons))) (fun hq1 => ?_)
    refine t_oneg (i := 7) F (by kernel_rfl) rfl rfl rfl rfl g9 (o_call M F rfl (c_pglog_next M.imm) rfl ?_); clear F a; intro a W7 v7 G7 hp7 M E7 F
    subst hp7
    have hle1 := hle1.trans E7.gl
    refine keepAnd (Keeps.mk hle1 M (by repeat (first | exact List.Sublist.refl _ | apply List.Sublist.cons_cons | apply List.Sublist.cons))) (fun hq1 => ?_)
    refine t_takeg (i := 8) F rfl rfl rfl g9 rfl hq1 (fun _ _ => r_not F rfl) (fun _ _ _ h => h) (by kernel_rfl) (by kernel_rfl) (by kernel_rfl) (by kernel_rfl) ?_; clear F a; intro a F
    refine t_take (i := 9) F rfl rfl hq1 (fun _ _ => r_pick_f F rfl g9 rfl) (fun _ _ _ h => h) (by kernel_rfl) (by kernel_rfl) (by kernel_rfl) (by kernel_rfl) ?_; clear F a; intro a F
    refine t_done (by kernel_rfl) ?_ _
    refine hK3 _ _ ?_
    refine c_cond F rfl (fun g15 => ?_) (fun g15 => ?_)
    · skip
      refine c_seq (fun K5 hK5 => ?_)
      refine wp_region_lit ?_
      refine l_step rfl (o_val F (r_build F rfl b_State) rfl ?_); clear F a; intro a F
      refine l_step rfl (o_storeA M F rfl rfl agg_State.size (by repeat (first | exact Upd.here _ _ _ _ _ | apply Upd.there)) (by rfl) (by rfl) (by rfl) ?_); clear F a; intro a W8 M F
      refine l_step rfl (o_val F (r_assign F rfl) rfl ?_); clear F a; intro a F
      refine l_nil ?_
      refine hK5 _ _ ?_
      refine wp_ret ?_
      exact ret2 Try.results22 M F (rv_cell M F rfl (by repeat (first | exact List.mem_cons_self | apply List.mem_cons_of_mem)) agg_State rfl) (rv_tmp F rfl) (⟨Sl.nil, by clear hI M F hK1 hK2 hK3 hK5; simp_all [pAdd, PState.zero, -UInt8.not_le, -UInt8.not_lt, -UInt32.not_le, -UInt32.not_lt, -Int.not_lt, -Int.not_le, -Nat.not_lt, -Nat.not_le], by clear hI M F hK1 hK2 hK3 hK5; simp_all [pAdd, PState.zero, -UInt8.not_le, -UInt8.not_lt, -UInt32.not_le, -UInt32.not_lt, -Int.not_lt, -Int.not_le, -Nat.not_lt, -Nat.not_le]; exact Ens.nil _⟩)
    · skip
      refine wp_skip ?_
      refine hK2 _ _ ?_
      refine c_seq (fun K6 hK6 => ?_)
      refine c_drawM M [7] mixed (fun M => ?_)
      have Ms := M
      have hq2 := Keeps.here M
      have hle2 := M.gle
      refine t_take (i := 0) F rfl rfl hq2 (fun _ _ => r_fieldAddr F rfl fld_State_3) (fun _ _ _ h => h) (by kernel_rfl) (by kernel_rfl) (by kernel_rfl) (by kernel_rfl) ?_; clear F a; intro a F
      refine t_take (i := 1) F rfl rfl hq2 (fun _ ⟨_, _, M'⟩ => r_load1 M' F rfl (by repeat (first | exact List.mem_cons_self | apply List.mem_cons_of_mem)) sca_Entries rfl) (fun _ _ _ h => h) (by kernel_rfl) (by kernel_rfl) (by kernel_rfl) (by kernel_rfl) ?_; clear F a; intro a F
      refine t_take (i := 3) F rfl rfl hq2 (fun _ ⟨_, _, M'⟩ => r_load M' F rfl (by repeat (first | exact List.mem_cons_self | apply List.mem_cons_of_mem)) agg_Entry (seg_all rfl)) (fun _ _ _ h => h) (by kernel_rfl) (by kernel_rfl) (by kernel_rfl) (by kernel_rfl) ?_; clear F a; intro a F
      refine t_two (i := 2) (i' := 4) (by kernel_rfl) rfl rfl rfl rfl ?_ ?_
      · skip
        have Mo := M
        refine id (o_call M F rfl (c_slices_Clone_Entry M.imm (hl.mono M.gl) (by have := is_len (s := s) (by simpa using g9); omega)) rfl ?_); clear F a; intro a W9 v9 G9 hp9 M E9 F
        obtain ⟨l1, rfl, hl1, ht1⟩ := hp9
        have ht1 := ht1.up (B := []) Mo.fr.size
        have hle2 := hle2.trans E9.gl
        refine keepAnd (Keeps.mk hle2 M (by repeat (first | exact List.Sublist.refl _ | apply List.Sublist.cons_cons | apply List.Sublist.cons))) (fun hq2 => ?_)
        refine t_one (i := 4) (by kernel_rfl) rfl rfl (o_bslice1 M F slc_Entries zer_Entry rfl rfl rfl rfl ?_); clear F a; intro a W10 S10 G10 hg10 hl10 hn10 hs10 F
        have ht1 := ht1.keep M.imm hs10
        have M := hg10.st
        have hl1 := hl1.mono hg10.le
        have hlit := hg10.tip.rd
        have hlitlen := hl10
        have hle2 := hle2.trans hg10.le
        refine keepAnd (Keeps.mk hle2 M (by repeat (first | exact List.Sublist.refl _ | apply List.Sublist.cons_cons | apply List.Sublist.cons))) (fun hq2 => ?_)
        have hp6 := is_len (s := s) (by simpa using g9)
        refine t_one (i := 5) (by kernel_rfl) rfl rfl (o_append M F slc_Entries app_Entry rfl rfl ht1 hlit rfl (by have := hl1.len; omega) (by have := hl1.len; omega) rfl ?_); clear F a; intro a W11 Sa Ga hga hla hna F
        have hl1 := hl1.mono hga.le
        have hlit := hlit.mono hga.le
        have M := hga.st
        have hl2 : Ens Ga Sa (s.log ++ [e]) := Tip.ens (by rw [List.flatMap_append]; exact hga.tip)
        have hSa : Sa.len = s.log.length + 1 := by have := hl1.len; omega
        have hle2 := hle2.trans hga.le
        refine keepAnd (Keeps.mk hle2 M (by repeat (first | exact List.Sublist.refl _ | apply List.Sublist.cons_cons | apply List.Sublist.cons))) (fun hq2 => ?_)
        refine t_take (i := 6) F rfl rfl hq2 (fun _ _ => r_fieldAddr F rfl fld_State_3) (fun _ _ _ h => h) (by kernel_rfl) (by kernel_rfl) (by kernel_rfl) (by kernel_rfl) ?_; clear F a; intro a F
        refine t_one (i := 7) (by kernel_rfl) rfl rfl (o_store1 M F rfl rfl sca_Entries rfl rfl p_State_3 (by repeat (first | exact Upd.here _ _ _ _ _ | apply Upd.there)) ?_); clear F a; intro a W12 M F
        refine ⟨(fun h => nomatch h), ?_⟩
        refine t_done (by kernel_rfl) ?_ _
        refine hK6 _ _ ?_
        refine c_seq (fun K7 hK7 => ?_)
        refine wp_region_lit ?_
        refine l_step rfl (o_val F (r_load M F rfl (by repeat (first | exact List.mem_cons_self | apply List.mem_cons_of_mem)) agg_State (seg_all rfl)) rfl ?_); clear F a; intro a F
        refine l_step rfl (o_val F (r_fieldAddr F rfl fld_State_3) rfl ?_); clear F a; intro a F
        refine l_step rfl (o_val F (r_load1 M F rfl (by repeat (first | exact List.mem_cons_self | apply List.mem_cons_of_mem)) sca_Entries (v := Sa.v) rfl) rfl ?_); clear F a; intro a F
        refine l_step rfl (o_val F (r_len_slice F slc_Entries.und rfl) rfl ?_); clear F a; intro a F
        refine l_step rfl (o_val F (r_sub_i64 F rfl rfl (by omega)) rfl ?_); clear F a; intro a F
        refine l_step rfl (o_val F (r_max_i64 F rfl rfl) rfl ?_); clear F a; intro a F
        refine l_step rfl (o_call M F rfl (c_pglog_folded M.imm (s := { s with log := s.log ++ [e] }) (l := Sa) hl2 (by split <;> omega) (by simp only [List.length_append, List.length_singleton]; split <;> omega) (is_few (s := s) (by simpa using g9)) (by simp; omega)) rfl ?_); clear F a; intro a W13 v13 G13 hp13 M E13 F
        have hl1 := hl1.mono E13.gl
        have hlit := hlit.mono E13.gl
        obtain ⟨l3, rfl, hl3⟩ := hp13
        have hk : (if (Sa.len : Int) - 6 < 0 then (0 : Int) else (Sa.len : Int) - 6).toNat = s.log.length + 1 - 6 := by split <;> omega
        rw [hk] at hl3
        simp only [hk] at F
        refine l_step rfl (o_storeA M F rfl rfl agg_State.size (by repeat (first | exact Upd.here _ _ _ _ _ | apply Upd.there)) (by rfl) (by rfl) (by rfl) ?_); clear F a; intro a W14 M F
        refine l_step rfl (o_val F (r_assign F rfl) rfl ?_); clear F a; intro a F
        refine l_nil ?_
        refine hK7 _ _ ?_
        refine wp_ret ?_
        exact ret2 Try.results22 M F (rv_cell M F rfl (by repeat (first | exact List.mem_cons_self | apply List.mem_cons_of_mem)) agg_State rfl) (rv_tmp F rfl) (⟨l3, by clear hI M F hK1 hK2 hK3 hK6 hK7; simp_all [pAdd, -UInt8.not_le, -UInt8.not_lt, -UInt32.not_le, -UInt32.not_lt, -Int.not_lt, -Int.not_le, -Nat.not_lt, -Nat.not_le], by clear hI M F hK1 hK2 hK3 hK6 hK7; simp_all [pAdd, -UInt8.not_le, -UInt8.not_lt, -UInt32.not_le, -UInt32.not_lt, -Int.not_lt, -Int.not_le, -Nat.not_lt, -Nat.not_le]⟩)
      · skip
        refine id (o_bslice1 M F slc_Entries zer_Entry rfl rfl rfl rfl ?_); clear F a; intro a W15 S15 G15 hg15 hl15 hn15 hs15 F
        have M := hg15.st
        have hlit := hg15.tip.rd
        have hlitlen := hl15
        have hle2 := hle2.trans hg15.le
        refine keepAnd (Keeps.mk hle2 M (by repeat (first | exact List.Sublist.refl _ | apply List.Sublist.cons_cons | apply List.Sublist.cons))) (fun hq2 => ?_)
        have hp6 := is_len (s := s) (by simpa using g9)
        have Mo := M
        refine t_one (i := 2) (by kernel_rfl) rfl rfl (o_call M F rfl (c_slices_Clone_Entry M.imm (hl.mono M.gl) (by have := is_len (s := s) (by simpa using g9); omega)) rfl ?_); clear F a; intro a W16 v16 G16 hp16 M E16 F
        have hlit := hlit.mono E16.gl
        obtain ⟨l1, rfl, hl1, ht1⟩ := hp16
        have ht1 := ht1.up (B := []) Mo.fr.size
        have hle2 := hle2.trans E16.gl
        refine keepAnd (Keeps.mk hle2 M (by repeat (first | exact List.Sublist.refl _ | apply List.Sublist.cons_cons | apply List.Sublist.cons))) (fun hq2 => ?_)
        have hp6 := is_len (s := s) (by simpa using g9)
        refine t_one (i := 5) (by kernel_rfl) rfl rfl (o_append M F slc_Entries app_Entry rfl rfl ht1 hlit rfl (by have := hl1.len; omega) (by have := hl1.len; omega) rfl ?_); clear F a; intro a W17 Sa Ga hga hla hna F
        have hlit := hlit.mono hga.le
        have hl1 := hl1.mono hga.le
        have M := hga.st
        have hl2 : Ens Ga Sa (s.log ++ [e]) := Tip.ens (by rw [List.flatMap_append]; exact hga.tip)
        have hSa : Sa.len = s.log.length + 1 := by have := hl1.len; omega
        have hle2 := hle2.trans hga.le
        refine keepAnd (Keeps.mk hle2 M (by repeat (first | exact List.Sublist.refl _ | apply List.Sublist.cons_cons | apply List.Sublist.cons))) (fun hq2 => ?_)
        refine t_take (i := 6) F rfl rfl hq2 (fun _ _ => r_fieldAddr F rfl fld_State_3) (fun _ _ _ h => h) (by kernel_rfl) (by kernel_rfl) (by kernel_rfl) (by kernel_rfl) ?_; clear F a; intro a F
        refine t_one (i := 7) (by kernel_rfl) rfl rfl (o_store1 M F rfl rfl sca_Entries rfl rfl p_State_3 (by repeat (first | exact Upd.here _ _ _ _ _ | apply Upd.there)) ?_); clear F a; intro a W18 M F
        refine ⟨(fun h => nomatch h), ?_⟩
        refine t_done (by kernel_rfl) ?_ _
        refine hK6 _ _ ?_
        refine c_seq (fun K8 hK8 => ?_)
        refine wp_region_lit ?_
        refine l_step rfl (o_val F (r_load M F rfl (by repeat (first | exact List.mem_cons_self | apply List.mem_cons_of_mem)) agg_State (seg_all rfl)) rfl ?_); clear F a; intro a F
        refine l_step rfl (o_val F (r_fieldAddr F rfl fld_State_3) rfl ?_); clear F a; intro a F
        refine l_step rfl (o_val F (r_load1 M F rfl (by repeat (first | exact List.mem_cons_self | apply List.mem_cons_of_mem)) sca_Entries (v := Sa.v) rfl) rfl ?_); clear F a; intro a F
        refine l_step rfl (o_val F (r_len_slice F slc_Entries.und rfl) rfl ?_); clear F a; intro a F
        refine l_step rfl (o_val F (r_sub_i64 F rfl rfl (by omega)) rfl ?_); clear F a; intro a F
        refine l_step rfl (o_val F (r_max_i64 F rfl rfl) rfl ?_); clear F a; intro a F
        refine l_step rfl (o_call M F rfl (c_pglog_folded M.imm (s := { s with log := s.log ++ [e] }) (l := Sa) hl2 (by split <;> omega) (by simp only [List.length_append, List.length_singleton]; split <;> omega) (is_few (s := s) (by simpa using g9)) (by simp; omega)) rfl ?_); clear F a; intro a W19 v19 G19 hp19 M E19 F
        have hlit := hlit.mono E19.gl
        have hl1 := hl1.mono E19.gl
        obtain ⟨l3, rfl, hl3⟩ := hp19
        have hk : (if (Sa.len : Int) - 6 < 0 then (0 : Int) else (Sa.len : Int) - 6).toNat = s.log.length + 1 - 6 := by split <;> omega
        rw [hk] at hl3
        simp only [hk] at F
        refine l_step rfl (o_storeA M F rfl rfl agg_State.size (by repeat (first | exact Upd.here _ _ _ _ _ | apply Upd.there)) (by rfl) (by rfl) (by rfl) ?_); clear F a; intro a W20 M F
        refine l_step rfl (o_val F (r_assign F rfl) rfl ?_); clear F a; intro a F
        refine l_nil ?_
        refine hK8 _ _ ?_
        refine wp_ret ?_
        exact ret2 Try.results22 M F (rv_cell M F rfl (by repeat (first | exact List.mem_cons_self | apply List.mem_cons_of_mem)) agg_State rfl) (rv_tmp F rfl) (⟨l3, by clear hI M F hK1 hK2 hK3 hK6 hK8; simp_all [pAdd, -UInt8.not_le, -UInt8.not_lt, -UInt32.not_le, -UInt32.not_lt, -Int.not_lt, -Int.not_le, -Nat.not_lt, -Nat.not_le], by clear hI M F hK1 hK2 hK3 hK6 hK8; simp_all [pAdd, -UInt8.not_le, -UInt8.not_lt, -UInt32.not_le, -UInt32.not_lt, -Int.not_lt, -Int.not_le, -Nat.not_lt, -Nat.not_le]⟩)
end Go.Proofs.Ytfkmaepcjognkaa.Pad
