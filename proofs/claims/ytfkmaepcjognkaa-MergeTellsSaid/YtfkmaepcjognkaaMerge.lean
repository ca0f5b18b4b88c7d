/- Walks: what one state lacks of another. The objects' bytes are few, the logs short. -/
import Derived.Test.YtfkmaepcjognkaaFacts
namespace Go.Proofs.Ytfkmaepcjognkaa.Pad
open Go Go.Proofs
set_option linter.unusedVariables false
set_option maxRecDepth 8000
set_option linter.unusedSimpArgs false
def pmHead (s : PState) : PState := ⟨s.started, PBase.zero, s.tail, []⟩
def pmTail (s : PState) (n : UInt32) : PEntry := if (pFind s n).2 = true then ⟨(pFind s n).1.since, (pFind s n).1.n, POp.zero⟩ else s.tail
def pStands (s t : PState) : Bool := (pUpto s t.tail.n).2 && (decide (pmTail s t.tail.n = t.tail) && decide ((pUpto s t.tail.n).1 = t.base))
def pCommon (s : PState) : UInt32 → List PEntry → UInt32
  | n, [] => n
  | n, e :: r => if (pFind s e.n).2 = false ∨ ¬ (pFind s e.n).1 = e then n else pCommon s e.n r
def pMake (s t : PState) : PDiff :=
  if pIs s = false ∨ pIs t = false then PDiff.zero
  else if ({ s with started := t.started } : PState) = t then ⟨0, 0, [], pmHead t⟩
  else if pStands s t = false then ⟨2, 0, [], t⟩
  else ⟨1, pCommon s t.tail.n t.log, t.log.drop (pCommon s t.tail.n t.log - t.tail.n).toNat, pmHead t⟩
def pAdded : PState → List PEntry → PState × Int
  | s, [] => (s, 0)
  | s, e :: r => if ¬ (pAdd s e).2 = 0 then (PState.zero, (pAdd s e).2) else pAdded (pAdd s e).1 r
def pEnd (s : PState) (d : PDiff) : PState × Int :=
  if ¬ (pTail s d.whole.tail.n).2 = 0 ∨ ¬ (pTail s d.whole.tail.n).1.tail.since = d.whole.tail.since ∨ pIs { (pTail s d.whole.tail.n).1 with started := d.whole.started } = false then (PState.zero, 80)
  else ({ (pTail s d.whole.tail.n).1 with started := d.whole.started }, 0)
def pApply (s : PState) (d : PDiff) : PState × Int :=
  if pIs s = false ∨ d.kind < 0 ∨ 2 < d.kind ∨ (¬ d.kind = 1 ∧ (0 < (d.log.length : Int) ∨ ¬ d.from_ = 0)) then (PState.zero, 80)
  else if d.kind = 2 then (if pIs d.whole = false then (PState.zero, 80) else (d.whole, 0))
  else if d.kind = 1 then (if ¬ (pCut s d.from_).2 = 0 then (PState.zero, 80) else if ¬ (pAdded (pCut s d.from_).1 d.log).2 = 0 then (PState.zero, 80) else pEnd (pAdded (pCut s d.from_).1 d.log).1 d)
  else pEnd s d
def pExtends (s t : PState) : Bool :=
  if pIs s = false ∨ pIs t = false then false
  else decide ((pHead s).2 ≤ (pHead t).2) && (decide ((pMake s t).kind = 0) || (decide ((pMake s t).kind = 1) && decide ((pMake s t).from_ = (pHead s).2)))
def pCount (b : PBase) : Nat → Int
  | 0 => 0
  | i + 1 => pCount b i + if (b.obj i).there = true then 1 else 0
def pBytes (d : PDiff) : Int := (d.log.length : Int) + (d.whole.log.length : Int) + pCount d.whole.base 6
theorem count_le (b : PBase) : ∀ i, 0 ≤ pCount b i ∧ pCount b i ≤ i
  | 0 => by simp [pCount]
  | i + 1 => by
    have := count_le b i
    simp only [pCount]; split <;> omega
abbrev PDiff.at (d : PDiff) (l l2 : Sl) : GDiff := ⟨d.kind, d.from_, l, d.whole.at l2⟩
theorem find_place {s : PState} {n : UInt32} (h : (pFind s n).2 = true) : pIs s = true ∧ 1 ≤ pPlace s n := by
  unfold pFind at h
  split at h
  · cases h
  · rename_i h1
    simp only [not_or, Bool.not_eq_false] at h1
    exact ⟨h1.1, by omega⟩
theorem common_le (s : PState) : ∀ (xs : List PEntry) (t : PEntry), pChain t xs = true → t.n.toNat ≤ (pCommon s t.n xs).toNat ∧ (pCommon s t.n xs).toNat ≤ t.n.toNat + xs.length
  | [], t, _ => by simp [pCommon]
  | e :: r, t, h => by
    simp only [pChain, Bool.and_eq_true] at h
    have h1 := next_n h.1
    have h2 := common_le s r e h.2
    simp only [pCommon, List.length_cons]
    split <;> omega
theorem common_cut {s t : PState} (h : Ok t) : ((pCommon s t.tail.n t.log - t.tail.n).toNat : Nat) ≤ t.log.length := by
  have h1 := common_le s t.log t.tail h.ch
  rw [UInt32.toNat_sub_of_le _ _ (by rw [UInt32.le_iff_toNat_le]; exact h1.1)]
  omega
theorem c_pglog_Copy {w : World} {G0 : Ghost} (hI : Imm G0 w) {s : PState} {l : Sl} (hl : Ens G0 l s.log) (hx : s.log.length ≤ 1000) : Ret P 92 [agg (GState.enc (s.at l))] [] w G0 (fun G W v => ∃ l', v = agg (GState.enc (s.at l')) ∧ Ens G l' s.log) := by
  refine enter Try.func92 rfl Try.ntmps92 rfl rfl hI (fun a F M => ?_)
  have hlen := hl.len
  have hlen2 : (s.at l).log.len = s.log.length := hl.len
  refine c_seq (fun K1 hK1 => ?_)
  refine wp_region_lit ?_
  refine l_step rfl (o_box M F rfl rfl ?_); clear F a; intro a W1 b1 M F
  refine l_step rfl (o_alloc M F zer_State rfl ?_); clear F a; intro a W2 b2 M F
  refine l_nil ?_
  refine hK1 _ _ ?_
  refine c_seq (fun K2 hK2 => ?_)
  refine wp_region_lit ?_
  refine l_step rfl (o_val F (r_fieldAddr F rfl fld_State_3) rfl ?_); clear F a; intro a F
  refine l_step rfl (o_val F (r_load1 M F rfl (by repeat (first | exact List.mem_cons_self | apply List.mem_cons_of_mem)) sca_Entries rfl) rfl ?_); clear F a; intro a F
  refine l_step rfl (o_val F (r_len_slice F slc_Entries.und rfl) rfl ?_); clear F a; intro a F
  refine l_step rfl (o_makeSlice (N := (s.at l).log.len) M F slc_Entries app_Entry zer_Entry rfl rfl (by omega) (by decide) rfl ?_); clear F a; intro a W3 G3 bk M hg3 hmk F
  refine l_step rfl (o_val F (r_assign F rfl) rfl ?_); clear F a; intro a F
  refine l_nil ?_
  refine hK2 _ _ ?_
  refine c_seq (fun K3 hK3 => ?_)
  refine wp_region_lit ?_
  refine l_step rfl (o_val F (r_move F rfl) rfl ?_); clear F a; intro a F
  refine l_step rfl (o_val F (r_fieldAddr F rfl fld_State_3) rfl ?_); clear F a; intro a F
  refine l_step rfl (o_val F (r_load1 M F rfl (by repeat (first | exact List.mem_cons_self | apply List.mem_cons_of_mem)) sca_Entries rfl) rfl ?_); clear F a; intro a F
  refine l_step rfl (o_copy M F slc_Entries rfl rfl hmk (hl.mono M.gl).rd rfl (all_flat (fun x => rfl) s.log) (by omega) rfl ?_); clear F a; intro a W4 G4 M hg4 hti F
  refine l_nil ?_
  refine hK3 _ _ ?_
  refine c_seq (fun K4 hK4 => ?_)
  refine wp_region_lit ?_
  refine l_step rfl (o_val F (r_move F (v := Sl.v ⟨some ⟨bk, 0, none⟩, (s.at l).log.len, (s.at l).log.len⟩) rfl) rfl ?_); clear F a; intro a F
  refine l_step rfl (o_val F (r_fieldAddr F rfl fld_State_3) rfl ?_); clear F a; intro a F
  refine l_step rfl (o_store1 M F rfl rfl sca_Entries rfl rfl p_State_3 (by repeat (first | exact Upd.here _ _ _ _ _ | apply Upd.there)) ?_); clear F a; intro a W5 M F
  refine l_nil ?_
  refine hK4 _ _ ?_
  refine c_seq (fun K5 hK5 => ?_)
  refine wp_region_lit ?_
  refine l_step rfl (o_val F (r_load M F rfl (by repeat (first | exact List.mem_cons_self | apply List.mem_cons_of_mem)) agg_State (seg_all rfl)) rfl ?_); clear F a; intro a F
  refine l_step rfl (o_storeA M F rfl rfl agg_State.size (by repeat (first | exact Upd.here _ _ _ _ _ | apply Upd.there)) (by rfl) (by rfl) (by rfl) ?_); clear F a; intro a W6 M F
  refine l_nil ?_
  refine hK5 _ _ ?_
  refine wp_ret ?_
  exact ret1 Try.results92 M F (rv_cell M F rfl (by repeat (first | exact List.mem_cons_self | apply List.mem_cons_of_mem)) agg_State rfl) (⟨⟨some ⟨bk, 0, none⟩, (s.at l).log.len, (s.at l).log.len⟩, rfl, Tip.ens hti⟩)
theorem c_merge_head {w : World} {G0 : Ghost} (hI : Imm G0 w) {s : PState} {l : Sl} (hl : Ens G0 l s.log) : Ret P 90 [agg (GState.enc (s.at l))] [] w G0 (fun G W v => v = agg (GState.enc ((pmHead s).at Sl.nil))) := by
  refine enter Try.func90 rfl Try.ntmps90 rfl rfl hI (fun a F M => ?_)
  have hlen := hl.len
  have hlen2 : (s.at l).log.len = s.log.length := hl.len
  refine c_seq (fun K1 hK1 => ?_)
  refine wp_region_lit ?_
  refine l_step rfl (o_box M F rfl rfl ?_); clear F a; intro a W1 b1 M F
  refine l_step rfl (o_alloc M F zer_State rfl ?_); clear F a; intro a W2 b2 M F
  refine l_nil ?_
  refine hK1 _ _ ?_
  refine c_seq (fun K2 hK2 => ?_)
  refine wp_region_lit ?_
  refine l_step rfl (o_val F (r_fieldAddr F rfl fld_State_0) rfl ?_); clear F a; intro a F
  refine l_step rfl (o_val F (r_load1 M F rfl (by repeat (first | exact List.mem_cons_self | apply List.mem_cons_of_mem)) sca_u32 rfl) rfl ?_); clear F a; intro a F
  refine l_step rfl (o_val F (r_fieldAddr F rfl fld_State_2) rfl ?_); clear F a; intro a F
  refine l_step rfl (o_val F (r_load M F rfl (by repeat (first | exact List.mem_cons_self | apply List.mem_cons_of_mem)) agg_Entry g_State_2) rfl ?_); clear F a; intro a F
  refine l_step rfl (o_val F (r_build F rfl (b_State_0_2 _ _)) rfl ?_); clear F a; intro a F
  refine l_step rfl (o_storeA M F rfl rfl agg_State.size (by repeat (first | exact Upd.here _ _ _ _ _ | apply Upd.there)) (by rfl) (by rfl) (by rfl) ?_); clear F a; intro a W3 M F
  refine l_nil ?_
  refine hK2 _ _ ?_
  refine wp_ret ?_
  exact ret1 Try.results90 M F (rv_cell M F rfl (by repeat (first | exact List.mem_cons_self | apply List.mem_cons_of_mem)) agg_State rfl) (rfl)
theorem c_merge_stands {w : World} {G0 : Ghost} (hI : Imm G0 w) {s t : PState} {l l1 : Sl} (hl : Ens G0 l s.log) (hl1 : Ens G0 l1 t.log) : Ret P 91 [agg (GState.enc (s.at l)), agg (GState.enc (t.at l1))] [] w G0 (fun G W v => v = .bool (pStands s t)) := by
  refine enter Try.func91 rfl Try.ntmps91 rfl rfl hI (fun a F M => ?_)
  refine c_seq (fun K1 hK1 => ?_)
  refine wp_region_lit ?_
  refine l_step rfl (o_box M F rfl rfl ?_); clear F a; intro a W1 b1 M F
  refine l_step rfl (o_box M F rfl rfl ?_); clear F a; intro a W2 b2 M F
  refine l_step rfl (o_val F (r_assign F rfl) rfl ?_); clear F a; intro a F
  refine l_nil ?_
  refine hK1 _ _ ?_
  refine c_seq (fun K2 hK2 => ?_)
  refine c_drawM M [] mixed (fun M => ?_)
  have Ms := M
  have hq1 := Keeps.here M
  have hle1 := M.gle
  refine t_take (i := 0) F rfl rfl hq1 (fun _ _ => r_fieldAddr F rfl fld_State_2) (fun _ _ _ h => h) (by kernel_rfl) (by kernel_rfl) (by kernel_rfl) (by kernel_rfl) ?_; clear F a; intro a F
  refine t_take (i := 1) F rfl rfl hq1 (fun _ ⟨_, _, M'⟩ => r_load M' F rfl (by repeat (first | exact List.mem_cons_self | apply List.mem_cons_of_mem)) agg_Entry g_State_2) (fun _ _ _ h => h) (by kernel_rfl) (by kernel_rfl) (by kernel_rfl) (by kernel_rfl) ?_; clear F a; intro a F
  refine t_take (i := 2) F rfl rfl hq1 (fun _ _ => r_fieldAddr F rfl fld_State_2) (fun _ _ _ h => h) (by kernel_rfl) (by kernel_rfl) (by kernel_rfl) (by kernel_rfl) ?_; clear F a; intro a F
  refine t_take (i := 3) F rfl rfl hq1 (fun _ _ => r_fieldAddr F rfl fld_Entry_1) (fun _ _ _ h => h) (by kernel_rfl) (by kernel_rfl) (by kernel_rfl) (by kernel_rfl) ?_; clear F a; intro a F
  refine t_take (i := 4) F rfl rfl hq1 (fun _ ⟨_, _, M'⟩ => r_load1 M' F rfl (by repeat (first | exact List.mem_cons_self | apply List.mem_cons_of_mem)) sca_u32 rfl) (fun _ _ _ h => h) (by kernel_rfl) (by kernel_rfl) (by kernel_rfl) (by kernel_rfl) ?_; clear F a; intro a F
  refine t_one (i := 5) (by kernel_rfl) rfl rfl (o_alloc M F zer_Entry rfl ?_); clear F a; intro a W3 b3 M F
  refine keepAnd (Keeps.mk hle1 M (by repeat (first | exact List.Sublist.refl _ | apply List.Sublist.cons_cons | apply List.Sublist.cons))) (fun hq1 => ?_)
  refine t_one (i := 6) (by kernel_rfl) rfl rfl (o_storeA M F rfl rfl agg_Entry.size (by repeat (first | exact Upd.here _ _ _ _ _ | apply Upd.there)) (by rfl) (by rfl) (by rfl) ?_); clear F a; intro a W4 M F
  refine keepAnd (Keeps.mk hle1 M (by repeat (first | exact List.Sublist.refl _ | apply List.Sublist.cons_cons | apply List.Sublist.cons))) (fun hq1 => ?_)
  refine t_take (i := 7) F rfl rfl hq1 (fun _ _ => r_assign F rfl) (fun _ _ _ h => h) (by kernel_rfl) (by kernel_rfl) (by kernel_rfl) (by kernel_rfl) ?_; clear F a; intro a F
  refine t_done (by kernel_rfl) ?_ _
  refine hK2 _ _ ?_
  refine c_seq (fun K3 hK3 => ?_)
  refine c_seq (fun K4 hK4 => ?_)
  refine wp_region_lit ?_
  refine l_step rfl (o_val F (r_load M F rfl (by repeat (first | exact List.mem_cons_self | apply List.mem_cons_of_mem)) agg_State (seg_all rfl)) rfl ?_); clear F a; intro a F
  refine l_step rfl (o_val F (r_move F rfl) rfl ?_); clear F a; intro a F
  refine l_step rfl (o_call M F rfl (c_pglog_Find M.imm (hl.mono M.gl)) rfl ?_); clear F a; intro a W5 v5 G5 hp5 M E5 F
  subst hp5
  refine l_step rfl (o_val F (r_move F rfl) rfl ?_); clear F a; intro a F
  refine l_step rfl (o_val F (r_extract F rfl rfl) rfl ?_); clear F a; intro a F
  refine l_step rfl (o_val F (r_extract F rfl rfl) rfl ?_); clear F a; intro a F
  refine l_step rfl (o_alloc M F zer_Entry rfl ?_); clear F a; intro a W6 b4 M F
  refine l_step rfl (o_storeA M F rfl rfl agg_Entry.size (by repeat (first | exact Upd.here _ _ _ _ _ | apply Upd.there)) (by rfl) (by rfl) (by rfl) ?_); clear F a; intro a W7 M F
  refine l_step rfl (o_val F (r_assign F rfl) rfl ?_); clear F a; intro a F
  refine l_nil ?_
  refine hK4 _ _ ?_
  refine c_seq (fun K5 hK5 => ?_)
  refine wp_region_lit ?_
  refine l_step rfl (o_val F (r_move F rfl) rfl ?_); clear F a; intro a F
  refine l_nil ?_
  refine hK5 _ _ ?_
  refine c_cond F rfl (fun g22 => ?_) (fun g22 => ?_)
  · skip
    refine wp_region_lit ?_
    refine l_step rfl (o_val F (r_fieldAddr F rfl fld_Entry_0) rfl ?_); clear F a; intro a F
    refine l_step rfl (o_val F (r_load1 M F rfl (by repeat (first | exact List.mem_cons_self | apply List.mem_cons_of_mem)) sca_u32 rfl) rfl ?_); clear F a; intro a F
    refine l_step rfl (o_val F (r_fieldAddr F rfl fld_Entry_1) rfl ?_); clear F a; intro a F
    refine l_step rfl (o_val F (r_load1 M F rfl (by repeat (first | exact List.mem_cons_self | apply List.mem_cons_of_mem)) sca_u32 rfl) rfl ?_); clear F a; intro a F
    refine l_step rfl (o_val F (r_build F rfl (b_Entry_0_1 _ _)) rfl ?_); clear F a; intro a F
    refine l_step rfl (o_storeA M F rfl rfl agg_Entry.size (by repeat (first | exact Upd.here _ _ _ _ _ | apply Upd.there)) (by rfl) (by rfl) (by rfl) ?_); clear F a; intro a W8 M F
    refine l_nil ?_
    refine hK3 _ _ ?_
    refine c_seq (fun K6 hK6 => ?_)
    refine wp_region_lit ?_
    refine l_step rfl (o_val F (r_load M F rfl (by repeat (first | exact List.mem_cons_self | apply List.mem_cons_of_mem)) agg_State (seg_all rfl)) rfl ?_); clear F a; intro a F
    refine l_step rfl (o_val F (r_move F rfl) rfl ?_); clear F a; intro a F
    refine l_step rfl (o_call M F rfl (c_pglog_Upto M.imm (hl.mono M.gl)) rfl ?_); clear F a; intro a W9 v9 G9 hp9 M E9 F
    subst hp9
    refine l_step rfl (o_val F (r_move F rfl) rfl ?_); clear F a; intro a F
    refine l_step rfl (o_val F (r_extract F rfl rfl) rfl ?_); clear F a; intro a F
    refine l_step rfl (o_val F (r_extract F rfl rfl) rfl ?_); clear F a; intro a F
    refine l_step rfl (o_alloc M F zer_Base rfl ?_); clear F a; intro a W10 b5 M F
    refine l_step rfl (o_storeA M F rfl rfl agg_Base.size (by repeat (first | exact Upd.here _ _ _ _ _ | apply Upd.there)) (by rfl) (by rfl) (by rfl) ?_); clear F a; intro a W11 M F
    refine l_step rfl (o_val F (r_assign F rfl) rfl ?_); clear F a; intro a F
    refine l_nil ?_
    refine hK6 _ _ ?_
    refine c_seq (fun K7 hK7 => ?_)
    refine wp_region_lit ?_
    refine l_step rfl (o_val F (r_move F rfl) rfl ?_); clear F a; intro a F
    refine l_step rfl (o_val F (r_move F rfl) rfl ?_); clear F a; intro a F
    refine c_split F (i := 35) rfl (fun g35 => ?_) (fun g35 => ?_)
    · skip
      refine l_guard F rfl rfl rfl g35 (o_val F (r_load M F rfl (by repeat (first | exact List.mem_cons_self | apply List.mem_cons_of_mem)) agg_Entry (seg_all rfl)) rfl ?_); clear F a; intro a F
      refine l_guard F rfl rfl rfl g35 (o_val F (r_fieldAddr F rfl fld_State_2) rfl ?_); clear F a; intro a F
      refine l_guard F rfl rfl rfl g35 (o_val F (r_load M F rfl (by repeat (first | exact List.mem_cons_self | apply List.mem_cons_of_mem)) agg_Entry g_State_2) rfl ?_); clear F a; intro a F
      refine l_guard F rfl rfl rfl g35 (o_val F (r_eql_Entry F rfl rfl) rfl ?_); clear F a; intro a F
      refine l_step rfl (o_val F (r_pick_t F rfl g35 rfl) rfl ?_); clear F a; intro a F
      refine l_step rfl (o_val F (r_move F rfl) rfl ?_); clear F a; intro a F
      refine c_split F (i := 41) rfl (fun g41 => ?_) (fun g41 => ?_)
      · skip
        refine l_guard F rfl rfl rfl g41 (o_val F (r_load M F rfl (by repeat (first | exact List.mem_cons_self | apply List.mem_cons_of_mem)) agg_Base (seg_all rfl)) rfl ?_); clear F a; intro a F
        refine l_guard F rfl rfl rfl g41 (o_val F (r_fieldAddr F rfl fld_State_1) rfl ?_); clear F a; intro a F
        refine l_guard F rfl rfl rfl g41 (o_val F (r_load M F rfl (by repeat (first | exact List.mem_cons_self | apply List.mem_cons_of_mem)) agg_Base g_State_1) rfl ?_); clear F a; intro a F
        refine l_guard F rfl rfl rfl g41 (o_val F (r_eql_Base F rfl rfl) rfl ?_); clear F a; intro a F
        refine l_step rfl (o_val F (r_pick_t F rfl g41 rfl) rfl ?_); clear F a; intro a F
        refine l_step rfl (o_val F (r_assign F rfl) rfl ?_); clear F a; intro a F
        refine l_nil ?_
        refine hK7 _ _ ?_
        refine wp_ret ?_
        exact ret1 Try.results91 M F (rv_tmp F rfl) (by clear hI M F hK1 hK2 hK3 hK4 hK5 hK6 hK7; simp_all [pStands, pmTail])
      · skip
        iterate 4 (refine l_skip F rfl rfl rfl g41 rfl rfl ?_; clear F a; intro a F)
        refine l_step rfl (o_val F (r_pick_f F rfl g41 rfl) rfl ?_); clear F a; intro a F
        refine l_step rfl (o_val F (r_assign F rfl) rfl ?_); clear F a; intro a F
        refine l_nil ?_
        refine hK7 _ _ ?_
        refine wp_ret ?_
        exact ret1 Try.results91 M F (rv_tmp F rfl) (by clear hI M F hK1 hK2 hK3 hK4 hK5 hK6 hK7; simp_all [pStands, pmTail])
    · skip
      iterate 4 (refine l_skip F rfl rfl rfl g35 rfl rfl ?_; clear F a; intro a F)
      refine l_step rfl (o_val F (r_pick_f F rfl g35 rfl) rfl ?_); clear F a; intro a F
      refine l_step rfl (o_val F (r_move F rfl) rfl ?_); clear F a; intro a F
      iterate 4 (refine l_skip F rfl rfl rfl rfl rfl rfl ?_; clear F a; intro a F)
      refine l_step rfl (o_val F (r_pick_f F rfl rfl rfl) rfl ?_); clear F a; intro a F
      refine l_step rfl (o_val F (r_assign F rfl) rfl ?_); clear F a; intro a F
      refine l_nil ?_
      refine hK7 _ _ ?_
      refine wp_ret ?_
      exact ret1 Try.results91 M F (rv_tmp F rfl) (by clear hI M F hK1 hK2 hK3 hK4 hK5 hK6 hK7; simp_all [pStands, pmTail])
  · skip
    refine wp_skip ?_
    refine hK3 _ _ ?_
    refine c_seq (fun K8 hK8 => ?_)
    refine wp_region_lit ?_
    refine l_step rfl (o_val F (r_load M F rfl (by repeat (first | exact List.mem_cons_self | apply List.mem_cons_of_mem)) agg_State (seg_all rfl)) rfl ?_); clear F a; intro a F
    refine l_step rfl (o_val F (r_move F rfl) rfl ?_); clear F a; intro a F
    refine l_step rfl (o_call M F rfl (c_pglog_Upto M.imm (hl.mono M.gl)) rfl ?_); clear F a; intro a W12 v12 G12 hp12 M E12 F
    subst hp12
    refine l_step rfl (o_val F (r_move F rfl) rfl ?_); clear F a; intro a F
    refine l_step rfl (o_val F (r_extract F rfl rfl) rfl ?_); clear F a; intro a F
    refine l_step rfl (o_val F (r_extract F rfl rfl) rfl ?_); clear F a; intro a F
    refine l_step rfl (o_alloc M F zer_Base rfl ?_); clear F a; intro a W13 b6 M F
    refine l_step rfl (o_storeA M F rfl rfl agg_Base.size (by repeat (first | exact Upd.here _ _ _ _ _ | apply Upd.there)) (by rfl) (by rfl) (by rfl) ?_); clear F a; intro a W14 M F
    refine l_step rfl (o_val F (r_assign F rfl) rfl ?_); clear F a; intro a F
    refine l_nil ?_
    refine hK8 _ _ ?_
    refine c_seq (fun K9 hK9 => ?_)
    refine wp_region_lit ?_
    refine l_step rfl (o_val F (r_move F rfl) rfl ?_); clear F a; intro a F
    refine l_step rfl (o_val F (r_move F rfl) rfl ?_); clear F a; intro a F
    refine c_split F (i := 35) rfl (fun g35 => ?_) (fun g35 => ?_)
    · skip
      refine l_guard F rfl rfl rfl g35 (o_val F (r_load M F rfl (by repeat (first | exact List.mem_cons_self | apply List.mem_cons_of_mem)) agg_Entry (seg_all rfl)) rfl ?_); clear F a; intro a F
      refine l_guard F rfl rfl rfl g35 (o_val F (r_fieldAddr F rfl fld_State_2) rfl ?_); clear F a; intro a F
      refine l_guard F rfl rfl rfl g35 (o_val F (r_load M F rfl (by repeat (first | exact List.mem_cons_self | apply List.mem_cons_of_mem)) agg_Entry g_State_2) rfl ?_); clear F a; intro a F
      refine l_guard F rfl rfl rfl g35 (o_val F (r_eql_Entry F rfl rfl) rfl ?_); clear F a; intro a F
      refine l_step rfl (o_val F (r_pick_t F rfl g35 rfl) rfl ?_); clear F a; intro a F
      refine l_step rfl (o_val F (r_move F rfl) rfl ?_); clear F a; intro a F
      refine c_split F (i := 41) rfl (fun g41 => ?_) (fun g41 => ?_)
      · skip
        refine l_guard F rfl rfl rfl g41 (o_val F (r_load M F rfl (by repeat (first | exact List.mem_cons_self | apply List.mem_cons_of_mem)) agg_Base (seg_all rfl)) rfl ?_); clear F a; intro a F
        refine l_guard F rfl rfl rfl g41 (o_val F (r_fieldAddr F rfl fld_State_1) rfl ?_); clear F a; intro a F
        refine l_guard F rfl rfl rfl g41 (o_val F (r_load M F rfl (by repeat (first | exact List.mem_cons_self | apply List.mem_cons_of_mem)) agg_Base g_State_1) rfl ?_); clear F a; intro a F
        refine l_guard F rfl rfl rfl g41 (o_val F (r_eql_Base F rfl rfl) rfl ?_); clear F a; intro a F
        refine l_step rfl (o_val F (r_pick_t F rfl g41 rfl) rfl ?_); clear F a; intro a F
        refine l_step rfl (o_val F (r_assign F rfl) rfl ?_); clear F a; intro a F
        refine l_nil ?_
        refine hK9 _ _ ?_
        refine wp_ret ?_
        exact ret1 Try.results91 M F (rv_tmp F rfl) (by clear hI M F hK1 hK2 hK3 hK4 hK5 hK8 hK9; simp_all [pStands, pmTail])
      · skip
        iterate 4 (refine l_skip F rfl rfl rfl g41 rfl rfl ?_; clear F a; intro a F)
        refine l_step rfl (o_val F (r_pick_f F rfl g41 rfl) rfl ?_); clear F a; intro a F
        refine l_step rfl (o_val F (r_assign F rfl) rfl ?_); clear F a; intro a F
        refine l_nil ?_
        refine hK9 _ _ ?_
        refine wp_ret ?_
        exact ret1 Try.results91 M F (rv_tmp F rfl) (by clear hI M F hK1 hK2 hK3 hK4 hK5 hK8 hK9; simp_all [pStands, pmTail])
    · skip
      iterate 4 (refine l_skip F rfl rfl rfl g35 rfl rfl ?_; clear F a; intro a F)
      refine l_step rfl (o_val F (r_pick_f F rfl g35 rfl) rfl ?_); clear F a; intro a F
      refine l_step rfl (o_val F (r_move F rfl) rfl ?_); clear F a; intro a F
      iterate 4 (refine l_skip F rfl rfl rfl rfl rfl rfl ?_; clear F a; intro a F)
      refine l_step rfl (o_val F (r_pick_f F rfl rfl rfl) rfl ?_); clear F a; intro a F
      refine l_step rfl (o_val F (r_assign F rfl) rfl ?_); clear F a; intro a F
      refine l_nil ?_
      refine hK9 _ _ ?_
      refine wp_ret ?_
      exact ret1 Try.results91 M F (rv_tmp F rfl) (by clear hI M F hK1 hK2 hK3 hK4 hK5 hK8 hK9; simp_all [pStands, pmTail])
theorem c_merge_common {w : World} {G0 : Ghost} (hI : Imm G0 w) {s t : PState} {l l1 : Sl} (hl : Ens G0 l s.log) (hl1 : Ens G0 l1 t.log) : Ret P 93 [agg (GState.enc (s.at l)), agg (GState.enc (t.at l1))] [] w G0 (fun G W v => v = .int .u32 ((pCommon s t.tail.n t.log).toNat : Int)) := by
  refine enter Try.func93 rfl Try.ntmps93 rfl rfl hI (fun a F M => ?_)
  have hlen := hl1.len
  have hmax := hl1.rd.max
  have hcap := hl1.rd.cap
  refine c_seq (fun K1 hK1 => ?_)
  refine wp_region_lit ?_
  refine l_step rfl (o_box M F rfl rfl ?_); clear F a; intro a W1 b1 M F
  refine l_step rfl (o_box M F rfl rfl ?_); clear F a; intro a W2 b2 M F
  refine l_step rfl (o_val F (r_assign F rfl) rfl ?_); clear F a; intro a F
  refine l_nil ?_
  refine hK1 _ _ ?_
  refine c_seq (fun K2 hK2 => ?_)
  refine wp_region_lit ?_
  refine l_step rfl (o_val F (r_fieldAddr F rfl fld_State_2) rfl ?_); clear F a; intro a F
  refine l_step rfl (o_val F (r_fieldAddr F rfl fld_Entry_1) rfl ?_); clear F a; intro a F
  refine l_step rfl (o_val F (r_load1 M F rfl (by repeat (first | exact List.mem_cons_self | apply List.mem_cons_of_mem)) sca_u32 rfl) rfl ?_); clear F a; intro a F
  refine l_step rfl (o_val F (r_assign F rfl) rfl ?_); clear F a; intro a F
  refine l_nil ?_
  refine hK2 _ _ ?_
  refine c_seq (fun K3 hK3 => ?_)
  refine c_seq (fun K4 hK4 => ?_)
  refine wp_region_lit ?_
  refine l_step rfl (o_val F (r_fieldAddr F rfl fld_State_3) rfl ?_); clear F a; intro a F
  refine l_step rfl (o_val F (r_load1 M F rfl (by repeat (first | exact List.mem_cons_self | apply List.mem_cons_of_mem)) sca_Entries rfl) rfl ?_); clear F a; intro a F
  refine l_step rfl (o_val F (r_len_slice F slc_Entries.und rfl) rfl ?_); clear F a; intro a F
  refine l_step rfl (o_val F (r_move F rfl) rfl ?_); clear F a; intro a F
  refine l_nil ?_
  refine hK4 _ _ ?_
  refine wp_block ?_
  refine c_loop (fun k a W => ∃ (i : Nat) (G : Ghost) (n : UInt32), k = t.log.length - i ∧ i ≤ t.log.length ∧ Frm 39 [(16, .int .i64 (i : Int)), (15, .int .i64 (l1.len : Int)), (14, l1.v), (5, .int .u32 (n.toNat : Int)), (3, .pointer (some ⟨b2, 0, none⟩)), (2, .pointer (some ⟨b1, 0, none⟩))] a ∧ St [] w G0 W [⟨b2, 42, (t.at l1).enc⟩, ⟨b1, 42, (s.at l).enc⟩] G ∧ (pCommon s t.tail.n t.log = pCommon s n (t.log.drop i))) (t.log.length) ?_ ?_
  · exact ⟨0, _, t.tail.n, rfl, Nat.zero_le _, (F.cons (F.cons (F.cons (F.cons (F.cons (F.cons F.nil 2 rfl) 3 rfl) 5 rfl) 14 rfl) 15 rfl) 16 rfl), M, rfl⟩
  · clear F M a; intro k a W hI; obtain ⟨i, G, n, hk, hi, F, M, hf⟩ := hI
    refine c_seq (fun K5 hK5 => ?_)
    refine wp_region_lit ?_
    refine l_step rfl (o_val F (r_lss_i64 F rfl rfl) rfl ?_); clear F a; intro a F
    refine l_nil ?_
    refine hK5 _ _ ?_
    refine c_seq (fun K6 hK6 => ?_)
    refine c_cond F rfl (fun g17 => ?_) (fun g17 => ?_)
    · skip
      have hlt : i < t.log.length := by have h := of_decide_eq_true g17; omega
      obtain ⟨x, hx⟩ := get_of hlt
      rw [drop_of hx, pCommon] at hf
      refine wp_skip ?_
      refine hK6 _ _ ?_
      refine c_seq (fun K7 hK7 => ?_)
      refine wp_block ?_
      refine c_seq (fun K8 hK8 => ?_)
      refine wp_region_lit ?_
      obtain ⟨eb, eo, er, ha18, hG18, hS18⟩ := (hl1.mono M.gl).elem hx
      refine l_step rfl (o_val F (r_indexSl F rfl rfl slc_Entries ha18 (by omega) (by omega)) rfl ?_); clear F a; intro a F
      refine l_step rfl (o_val F (r_loadr M F rfl hG18 agg_Entry hS18) rfl ?_); clear F a; intro a F
      refine l_step rfl (o_alloc M F zer_Entry rfl ?_); clear F a; intro a W3 b3 M F
      refine l_step rfl (o_storeA M F rfl rfl agg_Entry.size (by repeat (first | exact Upd.here _ _ _ _ _ | apply Upd.there)) (by rfl) (by rfl) (by rfl) ?_); clear F a; intro a W4 M F
      refine l_nil ?_
      refine hK8 _ _ ?_
      refine c_seq (fun K9 hK9 => ?_)
      refine wp_region_lit ?_
      refine l_step rfl (o_val F (r_load M F rfl (by repeat (first | exact List.mem_cons_self | apply List.mem_cons_of_mem)) agg_State (seg_all rfl)) rfl ?_); clear F a; intro a F
      refine l_step rfl (o_val F (r_fieldAddr F rfl fld_Entry_1) rfl ?_); clear F a; intro a F
      refine l_step rfl (o_val F (r_load1 M F rfl (by repeat (first | exact List.mem_cons_self | apply List.mem_cons_of_mem)) sca_u32 rfl) rfl ?_); clear F a; intro a F
      refine l_step rfl (o_call M F rfl (c_pglog_Find M.imm (hl.mono M.gl)) rfl ?_); clear F a; intro a W5 v5 G5 hp5 M E5 F
      subst hp5
      refine l_step rfl (o_val F (r_move F rfl) rfl ?_); clear F a; intro a F
      refine l_step rfl (o_val F (r_extract F rfl rfl) rfl ?_); clear F a; intro a F
      refine l_step rfl (o_val F (r_extract F rfl rfl) rfl ?_); clear F a; intro a F
      refine l_step rfl (o_alloc M F zer_Entry rfl ?_); clear F a; intro a W6 b4 M F
      refine l_step rfl (o_storeA M F rfl rfl agg_Entry.size (by repeat (first | exact Upd.here _ _ _ _ _ | apply Upd.there)) (by rfl) (by rfl) (by rfl) ?_); clear F a; intro a W7 M F
      refine l_step rfl (o_val F (r_assign F rfl) rfl ?_); clear F a; intro a F
      refine l_nil ?_
      refine hK9 _ _ ?_
      refine c_seq (fun K10 hK10 => ?_)
      refine c_seq (fun K11 hK11 => ?_)
      refine wp_region_lit ?_
      refine l_step rfl (o_val F (r_move F rfl) rfl ?_); clear F a; intro a F
      refine l_step rfl (o_val F (r_not F rfl) rfl ?_); clear F a; intro a F
      refine l_step rfl (o_val F (r_move F rfl) rfl ?_); clear F a; intro a F
      refine c_split F (i := 29) rfl (fun g29 => ?_) (fun g29 => ?_)
      · skip
        iterate 3 (refine l_skip F rfl rfl rfl g29 rfl rfl ?_; clear F a; intro a F)
        refine l_step rfl (o_val F (r_pick_t F rfl g29 rfl) rfl ?_); clear F a; intro a F
        refine l_nil ?_
        refine hK11 _ _ ?_
        refine c_true F rfl rfl ?_
        refine c_seq (fun K12 hK12 => ?_)
        refine wp_region_lit ?_
        refine l_step rfl (o_val F (r_move F rfl) rfl ?_); clear F a; intro a F
        refine l_step rfl (o_val F (r_assign F rfl) rfl ?_); clear F a; intro a F
        refine l_nil ?_
        refine hK12 _ _ ?_
        refine wp_ret ?_
        exact ret1 Try.results93 M F (rv_tmp F rfl) (by clear hI M F hK1 hK2 hK3 hK4 hK5 hK6 hK7 hK8 hK9 hK10 hK11 hK12; simp_all)
      · skip
        refine l_guard F rfl rfl rfl g29 (o_val F (r_load M F rfl (by repeat (first | exact List.mem_cons_self | apply List.mem_cons_of_mem)) agg_Entry (seg_all rfl)) rfl ?_); clear F a; intro a F
        refine l_guard F rfl rfl rfl g29 (o_val F (r_load M F rfl (by repeat (first | exact List.mem_cons_self | apply List.mem_cons_of_mem)) agg_Entry (seg_all rfl)) rfl ?_); clear F a; intro a F
        refine l_guard F rfl rfl rfl g29 (o_val F (r_neq_Entry F rfl rfl) rfl ?_); clear F a; intro a F
        refine l_step rfl (o_val F (r_pick_f F rfl g29 rfl) rfl ?_); clear F a; intro a F
        refine l_nil ?_
        refine hK11 _ _ ?_
        refine c_cond F rfl (fun g33 => ?_) (fun g33 => ?_)
        · skip
          refine c_seq (fun K13 hK13 => ?_)
          refine wp_region_lit ?_
          refine l_step rfl (o_val F (r_move F rfl) rfl ?_); clear F a; intro a F
          refine l_step rfl (o_val F (r_assign F rfl) rfl ?_); clear F a; intro a F
          refine l_nil ?_
          refine hK13 _ _ ?_
          refine wp_ret ?_
          exact ret1 Try.results93 M F (rv_tmp F rfl) (by clear hI M F hK1 hK2 hK3 hK4 hK5 hK6 hK7 hK8 hK9 hK10 hK11 hK13; simp_all)
        · skip
          refine wp_skip ?_
          refine hK10 _ _ ?_
          refine wp_region_lit ?_
          refine l_step rfl (o_val F (r_fieldAddr F rfl fld_Entry_1) rfl ?_); clear F a; intro a F
          refine l_step rfl (o_val F (r_load1 M F rfl (by repeat (first | exact List.mem_cons_self | apply List.mem_cons_of_mem)) sca_u32 rfl) rfl ?_); clear F a; intro a F
          refine l_step rfl (o_val F (r_assign F rfl) rfl ?_); clear F a; intro a F
          refine l_nil ?_
          refine hK7 _ _ ?_
          refine wp_region_lit ?_
          refine l_step rfl (o_val F (r_add_i64 F rfl rfl (by omega)) rfl ?_); clear F a; intro a F
          refine l_step rfl (o_val F (r_move F rfl) rfl ?_); clear F a; intro a F
          refine l_nil ?_
          exact ⟨t.log.length - (i + 1), by omega, i + 1, _, x.n, rfl, by omega, (F.cons (F.cons (F.cons (F.cons (F.cons (F.cons F.nil 2 rfl) 3 rfl) 5 rfl) 14 rfl) 15 rfl) 16 rfl), M.drop (by repeat (first | exact List.Sublist.refl _ | apply List.Sublist.cons_cons | apply List.Sublist.cons)), (by rw [hf, if_neg]; simp_all)⟩
    · skip
      have hge : i = t.log.length := by have h := of_decide_eq_false g17; omega
      rw [hge, List.drop_length, pCommon] at hf
      refine wp_exit ?_
      refine hK3 _ _ ?_
      refine c_seq (fun K14 hK14 => ?_)
      refine wp_region_lit ?_
      refine l_step rfl (o_val F (r_move F rfl) rfl ?_); clear F a; intro a F
      refine l_step rfl (o_val F (r_assign F rfl) rfl ?_); clear F a; intro a F
      refine l_nil ?_
      refine hK14 _ _ ?_
      refine wp_ret ?_
      exact ret1 Try.results93 M F (rv_tmp F rfl) (by clear hI M F hK1 hK2 hK3 hK4 hK5 hK6 hK14; simp_all)
end Go.Proofs.Ytfkmaepcjognkaa.Pad
