/- Walks: the document's own states (layer 7), folded, grown, cut, come to the program's. The objects' bytes are few. -/
import Derived.Test.YtfkmaepcjognkaaR6
namespace Go.Proofs.Ytfkmaepcjognkaa.Pad
open Go Go.Proofs
set_option linter.unusedVariables false
set_option maxRecDepth 8000
set_option linter.unusedSimpArgs false
theorem c_paddockref6_pop {w : World} {G0 : Ghost} (hI : Imm G0 w) {s : PState} {l : Sl} (hl : Ens G0 l s.log) {e : PEntry} (he : s.log[0]? = some e) (hb : Few s.base) (hx : s.log.length ≤ 1000) : Ret P 82 [agg (GState.enc (s.at l))] [] w G0 (fun G W v => ∃ l', v = agg (GState.enc ((pFolded s 1).at l')) ∧ Ens G l' (pFolded s 1).log) := by
  refine enter Try.func82 rfl Try.ntmps82 rfl rfl hI (fun a F M => ?_)
  have hlen := hl.len
  have hlen2 : (s.at l).log.len = s.log.length := hl.len
  have hmax := hl.rd.max
  have hcap := hl.rd.cap
  have hcap2 : (s.at l).log.len ≤ (s.at l).log.cap := hl.rd.cap
  have hlt := (List.getElem?_eq_some_iff.1 he).1
  have he0 : s.log[(0 : Int).toNat]? = some e := he
  have hc2 : Ens G0 (l.cut 8 1 l.len) (s.log.drop 1) := by have h := hl.cut (i := 1) (j := l.len) (by omega) (by omega); rw [hlen, ← List.length_drop, List.take_length] at h; rw [hlen]; exact h
  refine c_seq (fun K1 hK1 => ?_)
  refine wp_region_lit ?_
  refine l_step rfl (o_box M F rfl rfl ?_); clear F a; intro a W1 b1 M F
  refine l_step rfl (o_alloc M F zer_State rfl ?_); clear F a; intro a W2 b2 M F
  refine l_nil ?_
  refine hK1 _ _ ?_
  refine c_seq (fun K2 hK2 => ?_)
  refine wp_region_lit ?_
  refine l_step rfl (o_val F (r_fieldAddr F rfl fld_State_3) rfl ?_); clear F a; intro a F
  refine l_step rfl (o_val F (r_load1 M F rfl (by repeat (first | exact List.mem_cons_self | apply List.mem_cons_of_mem)) sca_Entries rfl) rfl ?_); clear F a; intro a F
  obtain ⟨eb, eo, er, ha6, hG6, hS6⟩ := (hl.mono M.gl).elem he0
  refine l_step rfl (o_val F (r_indexSl F rfl rfl slc_Entries ha6 (by omega) (by omega)) rfl ?_); clear F a; intro a F
  refine l_step rfl (o_val F (r_loadr M F rfl hG6 agg_Entry hS6) rfl ?_); clear F a; intro a F
  refine l_step rfl (o_alloc M F zer_Entry rfl ?_); clear F a; intro a W3 b3 M F
  refine l_step rfl (o_storeA M F rfl rfl agg_Entry.size (by repeat (first | exact Upd.here _ _ _ _ _ | apply Upd.there)) (by rfl) (by rfl) (by rfl) ?_); clear F a; intro a W4 M F
  refine l_nil ?_
  refine hK2 _ _ ?_
  refine c_seq (fun K3 hK3 => ?_)
  refine wp_region_lit ?_
  refine l_step rfl (o_val F (r_fieldAddr F rfl fld_State_1) rfl ?_); clear F a; intro a F
  refine l_step rfl (o_val F (r_load M F rfl (by repeat (first | exact List.mem_cons_self | apply List.mem_cons_of_mem)) agg_Base g_State_1) rfl ?_); clear F a; intro a F
  refine l_step rfl (o_val F (r_fieldAddr F rfl fld_Entry_2) rfl ?_); clear F a; intro a F
  refine l_step rfl (o_val F (r_load M F rfl (by repeat (first | exact List.mem_cons_self | apply List.mem_cons_of_mem)) agg_Op g_Entry_2) rfl ?_); clear F a; intro a F
  refine l_step rfl (o_call M F rfl (c_paddockref6_Do M.imm hb) rfl ?_); clear F a; intro a W5 v5 G5 hp5 M E5 F
  subst hp5
  refine l_step rfl (o_val F (r_move F rfl) rfl ?_); clear F a; intro a F
  refine l_step rfl (o_val F (r_extract F rfl rfl) rfl ?_); clear F a; intro a F
  refine l_step rfl (o_val F (r_extract F rfl rfl) rfl ?_); clear F a; intro a F
  refine l_step rfl (o_val F (r_fieldAddr F rfl fld_State_1) rfl ?_); clear F a; intro a F
  refine l_step rfl (o_store M F rfl rfl agg_Base.size rfl rfl rfl p_State_1 (by repeat (first | exact Upd.here _ _ _ _ _ | apply Upd.there)) ?_); clear F a; intro a W6 M F
  refine l_nil ?_
  refine hK3 _ _ ?_
  refine c_seq (fun K4 hK4 => ?_)
  refine wp_region_lit ?_
  refine l_step rfl (o_val F (r_fieldAddr F rfl fld_Entry_0) rfl ?_); clear F a; intro a F
  refine l_step rfl (o_val F (r_load1 M F rfl (by repeat (first | exact List.mem_cons_self | apply List.mem_cons_of_mem)) sca_u32 rfl) rfl ?_); clear F a; intro a F
  refine l_step rfl (o_val F (r_fieldAddr F rfl fld_Entry_1) rfl ?_); clear F a; intro a F
  refine l_step rfl (o_val F (r_load1 M F rfl (by repeat (first | exact List.mem_cons_self | apply List.mem_cons_of_mem)) sca_u32 rfl) rfl ?_); clear F a; intro a F
  refine l_step rfl (o_val F (r_build F rfl (b_Entry_0_1 _ _)) rfl ?_); clear F a; intro a F
  refine l_step rfl (o_val F (r_fieldAddr F rfl fld_State_2) rfl ?_); clear F a; intro a F
  refine l_step rfl (o_store M F rfl rfl agg_Entry.size rfl rfl rfl p_State_2 (by repeat (first | exact Upd.here _ _ _ _ _ | apply Upd.there)) ?_); clear F a; intro a W7 M F
  refine l_nil ?_
  refine hK4 _ _ ?_
  refine c_seq (fun K5 hK5 => ?_)
  refine wp_region_lit ?_
  refine l_step rfl (o_val F (r_fieldAddr F rfl fld_State_3) rfl ?_); clear F a; intro a F
  refine l_step rfl (o_val F (r_load1 M F rfl (by repeat (first | exact List.mem_cons_self | apply List.mem_cons_of_mem)) sca_Entries rfl) rfl ?_); clear F a; intro a F
  refine l_step rfl (o_val F (r_slice_from F slc_Entries rfl rfl (by omega) (by show (1 : Int) ≤ (l.len : Int); omega)) rfl ?_); clear F a; intro a F
  refine l_step rfl (o_append (S := Sl.nil) M F slc_Entries app_Entry rfl rfl (Tip.nil _ _ _ _ _) (hc2.mono M.gl).rd (all_flat (fun x => rfl) _) (by show (0 + (l.len - 1)) * 40 ≤ _; omega) (by show 0 + (l.len - 1) ≤ _; omega) rfl ?_); clear F a; intro a W8 Sa Ga hga hla hna F
  have M := hga.st
  have hl2 : Ens Ga Sa (s.log.drop 1) := Tip.ens (by simpa using hga.tip)
  refine l_step rfl (o_val F (r_fieldAddr F rfl fld_State_3) rfl ?_); clear F a; intro a F
  refine l_step rfl (o_store1 M F rfl rfl sca_Entries rfl rfl p_State_3 (by repeat (first | exact Upd.here _ _ _ _ _ | apply Upd.there)) ?_); clear F a; intro a W9 M F
  refine l_nil ?_
  refine hK5 _ _ ?_
  refine c_seq (fun K6 hK6 => ?_)
  refine wp_region_lit ?_
  refine l_step rfl (o_val F (r_load M F rfl (by repeat (first | exact List.mem_cons_self | apply List.mem_cons_of_mem)) agg_State (seg_all rfl)) rfl ?_); clear F a; intro a F
  refine l_step rfl (o_storeA M F rfl rfl agg_State.size (by repeat (first | exact Upd.here _ _ _ _ _ | apply Upd.there)) (by rfl) (by rfl) (by rfl) ?_); clear F a; intro a W10 M F
  refine l_nil ?_
  refine hK6 _ _ ?_
  refine wp_ret ?_
  exact ret1 Try.results82 M F (rv_cell M F rfl (by repeat (first | exact List.mem_cons_self | apply List.mem_cons_of_mem)) agg_State rfl) (⟨Sa, by rw [pop_eq he], by rw [pop_eq he]; exact hl2⟩)
theorem c_paddockref6_Add {w : World} {G0 : Ghost} (hI : Imm G0 w) {s : PState} {l : Sl} (hl : Ens G0 l s.log) {e : PEntry} : Ret P 36 [agg (GState.enc (s.at l)), agg e.enc] [] w G0 (fun G W v => ∃ l', v = .tuple #[agg (GState.enc ((pAdd s e).1.at l')), .bool (decide ((pAdd s e).2 = 0))] ∧ Ens G l' (pAdd s e).1.log) := by
  refine enter Try.func36 rfl Try.ntmps36 rfl rfl hI (fun a F M => ?_)
  have hlen := hl.len
  have hlen2 : (s.at l).log.len = s.log.length := hl.len
  have hmax := hl.rd.max
  have hcap := hl.rd.cap
  have hcap2 : (s.at l).log.len ≤ (s.at l).log.cap := hl.rd.cap
  refine c_seq (fun K1 hK1 => ?_)
  refine wp_region_lit ?_
  refine l_step rfl (o_box M F rfl rfl ?_); clear F a; intro a W1 b1 M F
  refine l_step rfl (o_box M F rfl rfl ?_); clear F a; intro a W2 b2 M F
  refine l_step rfl (o_alloc M F zer_State rfl ?_); clear F a; intro a W3 b3 M F
  refine l_step rfl (o_val F (r_assign F rfl) rfl ?_); clear F a; intro a F
  refine l_nil ?_
  refine hK1 _ _ ?_
  refine c_seq (fun K2 hK2 => ?_)
  refine wp_region_lit ?_
  refine l_step rfl (o_val F (r_load M F rfl (by repeat (first | exact List.mem_cons_self | apply List.mem_cons_of_mem)) agg_State (seg_all rfl)) rfl ?_); clear F a; intro a F
  refine l_step rfl (o_call M F rfl (c_paddockref6_Head M.imm (hl.mono M.gl)) rfl ?_); clear F a; intro a W4 v4 G4 hp4 M E4 F
  subst hp4
  refine l_step rfl (o_val F (r_move F rfl) rfl ?_); clear F a; intro a F
  refine l_step rfl (o_val F (r_extract F rfl rfl) rfl ?_); clear F a; intro a F
  refine l_step rfl (o_val F (r_extract F rfl rfl) rfl ?_); clear F a; intro a F
  refine l_step rfl (o_val F (r_assign F rfl) rfl ?_); clear F a; intro a F
  refine l_step rfl (o_val F (r_assign F rfl) rfl ?_); clear F a; intro a F
  refine l_nil ?_
  refine hK2 _ _ ?_
  refine c_seq (fun K3 hK3 => ?_)
  refine c_seq (fun K4 hK4 => ?_)
  refine wp_region_lit ?_
  refine l_step rfl (o_val F (r_load M F rfl (by repeat (first | exact List.mem_cons_self | apply List.mem_cons_of_mem)) agg_State (seg_all rfl)) rfl ?_); clear F a; intro a F
  refine l_step rfl (o_call M F rfl (c_paddockref6_Is M.imm (hl.mono M.gl)) rfl ?_); clear F a; intro a W5 v5 G5 hp5 M E5 F
  subst hp5
  refine l_step rfl (o_val F (r_not F rfl) rfl ?_); clear F a; intro a F
  refine l_step rfl (o_val F (r_move F rfl) rfl ?_); clear F a; intro a F
  refine c_split F (i := 16) rfl (fun g16 => ?_) (fun g16 => ?_)
  · skip
    iterate 4 (refine l_skip F rfl rfl rfl g16 rfl rfl ?_; clear F a; intro a F)
    refine l_step rfl (o_val F (r_pick_t F rfl g16 rfl) rfl ?_); clear F a; intro a F
    refine l_step rfl (o_val F (r_move F rfl) rfl ?_); clear F a; intro a F
    iterate 3 (refine l_skip F rfl rfl rfl rfl rfl rfl ?_; clear F a; intro a F)
    refine l_step rfl (o_val F (r_pick_t F rfl rfl rfl) rfl ?_); clear F a; intro a F
    refine l_step rfl (o_val F (r_move F rfl) rfl ?_); clear F a; intro a F
    iterate 5 (refine l_skip F rfl rfl rfl rfl rfl rfl ?_; clear F a; intro a F)
    refine l_step rfl (o_val F (r_pick_t F rfl rfl rfl) rfl ?_); clear F a; intro a F
    refine l_step rfl (o_val F (r_move F rfl) rfl ?_); clear F a; intro a F
    iterate 4 (refine l_skip F rfl rfl rfl rfl rfl rfl ?_; clear F a; intro a F)
    refine l_step rfl (o_val F (r_pick_t F rfl rfl rfl) rfl ?_); clear F a; intro a F
    refine l_step rfl (o_val F (r_move F rfl) rfl ?_); clear F a; intro a F
    iterate 3 (refine l_skip F rfl rfl rfl rfl rfl rfl ?_; clear F a; intro a F)
    refine l_step rfl (o_val F (r_pick_t F rfl rfl rfl) rfl ?_); clear F a; intro a F
    refine l_nil ?_
    refine hK4 _ _ ?_
    refine c_true F rfl rfl ?_
    refine c_seq (fun K5 hK5 => ?_)
    refine wp_region_lit ?_
    refine l_step rfl (o_val F (r_build F rfl b_State) rfl ?_); clear F a; intro a F
    refine l_step rfl (o_storeA M F rfl rfl agg_State.size (by repeat (first | exact Upd.here _ _ _ _ _ | apply Upd.there)) (by rfl) (by rfl) (by rfl) ?_); clear F a; intro a W6 M F
    refine l_step rfl (o_val F (r_assign F rfl) rfl ?_); clear F a; intro a F
    refine l_nil ?_
    refine hK5 _ _ ?_
    refine wp_ret ?_
    have hno : pIs s = false ∨ pNext (lastE s) e = false := by clear hI M F hK1 hK2 hK3 hK4 hK5; rw [rnext_eq]; by_cases hi : pIs s = true; (right; simp_all [pHead]); (left; simpa using hi)
    exact ret2 Try.results36 M F (rv_cell M F rfl (by repeat (first | exact List.mem_cons_self | apply List.mem_cons_of_mem)) agg_State rfl) (rv_tmp F rfl) (⟨Sl.nil, by rw [add_no hno]; rfl, by rw [add_no hno]; exact Ens.nil _⟩)
  · skip
    refine l_guard F rfl rfl rfl g16 (o_val F (r_fieldAddr F rfl fld_Entry_2) rfl ?_); clear F a; intro a F
    refine l_guard F rfl rfl rfl g16 (o_val F (r_load M F rfl (by repeat (first | exact List.mem_cons_self | apply List.mem_cons_of_mem)) agg_Op g_Entry_2) rfl ?_); clear F a; intro a F
    refine l_guard F rfl rfl rfl g16 (o_call M F rfl (c_paddockref6_Writes M.imm) rfl ?_); clear F a; intro a W7 v7 G7 hp7 M E7 F
    subst hp7
    refine l_guard F rfl rfl rfl g16 (o_val F (r_not F rfl) rfl ?_); clear F a; intro a F
    refine l_step rfl (o_val F (r_pick_f F rfl g16 rfl) rfl ?_); clear F a; intro a F
    refine l_step rfl (o_val F (r_move F rfl) rfl ?_); clear F a; intro a F
    refine c_split F (i := 22) rfl (fun g22 => ?_) (fun g22 => ?_)
    · skip
      iterate 3 (refine l_skip F rfl rfl rfl g22 rfl rfl ?_; clear F a; intro a F)
      refine l_step rfl (o_val F (r_pick_t F rfl g22 rfl) rfl ?_); clear F a; intro a F
      refine l_step rfl (o_val F (r_move F rfl) rfl ?_); clear F a; intro a F
      iterate 5 (refine l_skip F rfl rfl rfl rfl rfl rfl ?_; clear F a; intro a F)
      refine l_step rfl (o_val F (r_pick_t F rfl rfl rfl) rfl ?_); clear F a; intro a F
      refine l_step rfl (o_val F (r_move F rfl) rfl ?_); clear F a; intro a F
      iterate 4 (refine l_skip F rfl rfl rfl rfl rfl rfl ?_; clear F a; intro a F)
      refine l_step rfl (o_val F (r_pick_t F rfl rfl rfl) rfl ?_); clear F a; intro a F
      refine l_step rfl (o_val F (r_move F rfl) rfl ?_); clear F a; intro a F
      iterate 3 (refine l_skip F rfl rfl rfl rfl rfl rfl ?_; clear F a; intro a F)
      refine l_step rfl (o_val F (r_pick_t F rfl rfl rfl) rfl ?_); clear F a; intro a F
      refine l_nil ?_
      refine hK4 _ _ ?_
      refine c_true F rfl rfl ?_
      refine c_seq (fun K6 hK6 => ?_)
      refine wp_region_lit ?_
      refine l_step rfl (o_val F (r_build F rfl b_State) rfl ?_); clear F a; intro a F
      refine l_step rfl (o_storeA M F rfl rfl agg_State.size (by repeat (first | exact Upd.here _ _ _ _ _ | apply Upd.there)) (by rfl) (by rfl) (by rfl) ?_); clear F a; intro a W8 M F
      refine l_step rfl (o_val F (r_assign F rfl) rfl ?_); clear F a; intro a F
      refine l_nil ?_
      refine hK6 _ _ ?_
      refine wp_ret ?_
      have hno : pIs s = false ∨ pNext (lastE s) e = false := by clear hI M F hK1 hK2 hK3 hK4 hK6; rw [rnext_eq]; by_cases hi : pIs s = true; (right; simp_all [pHead]); (left; simpa using hi)
      exact ret2 Try.results36 M F (rv_cell M F rfl (by repeat (first | exact List.mem_cons_self | apply List.mem_cons_of_mem)) agg_State rfl) (rv_tmp F rfl) (⟨Sl.nil, by rw [add_no hno]; rfl, by rw [add_no hno]; exact Ens.nil _⟩)
    · skip
      refine l_guard F rfl rfl rfl g22 (o_val F (r_fieldAddr F rfl fld_Entry_1) rfl ?_); clear F a; intro a F
      refine l_guard F rfl rfl rfl g22 (o_val F (r_load1 M F rfl (by repeat (first | exact List.mem_cons_self | apply List.mem_cons_of_mem)) sca_u32 rfl) rfl ?_); clear F a; intro a F
      refine l_guard F rfl rfl rfl g22 (o_val F (r_eql_u32 F (y := 0) rfl rfl) rfl ?_); clear F a; intro a F
      refine l_step rfl (o_val F (r_pick_f F rfl g22 rfl) rfl ?_); clear F a; intro a F
      refine l_step rfl (o_val F (r_move F rfl) rfl ?_); clear F a; intro a F
      refine c_split F (i := 27) rfl (fun g27 => ?_) (fun g27 => ?_)
      · skip
        iterate 5 (refine l_skip F rfl rfl rfl g27 rfl rfl ?_; clear F a; intro a F)
        refine l_step rfl (o_val F (r_pick_t F rfl g27 rfl) rfl ?_); clear F a; intro a F
        refine l_step rfl (o_val F (r_move F rfl) rfl ?_); clear F a; intro a F
        iterate 4 (refine l_skip F rfl rfl rfl rfl rfl rfl ?_; clear F a; intro a F)
        refine l_step rfl (o_val F (r_pick_t F rfl rfl rfl) rfl ?_); clear F a; intro a F
        refine l_step rfl (o_val F (r_move F rfl) rfl ?_); clear F a; intro a F
        iterate 3 (refine l_skip F rfl rfl rfl rfl rfl rfl ?_; clear F a; intro a F)
        refine l_step rfl (o_val F (r_pick_t F rfl rfl rfl) rfl ?_); clear F a; intro a F
        refine l_nil ?_
        refine hK4 _ _ ?_
        refine c_true F rfl rfl ?_
        refine c_seq (fun K7 hK7 => ?_)
        refine wp_region_lit ?_
        refine l_step rfl (o_val F (r_build F rfl b_State) rfl ?_); clear F a; intro a F
        refine l_step rfl (o_storeA M F rfl rfl agg_State.size (by repeat (first | exact Upd.here _ _ _ _ _ | apply Upd.there)) (by rfl) (by rfl) (by rfl) ?_); clear F a; intro a W9 M F
        refine l_step rfl (o_val F (r_assign F rfl) rfl ?_); clear F a; intro a F
        refine l_nil ?_
        refine hK7 _ _ ?_
        refine wp_ret ?_
        have hno : pIs s = false ∨ pNext (lastE s) e = false := by clear hI M F hK1 hK2 hK3 hK4 hK7; rw [rnext_eq]; by_cases hi : pIs s = true; (right; simp_all [pHead]); (left; simpa using hi)
        exact ret2 Try.results36 M F (rv_cell M F rfl (by repeat (first | exact List.mem_cons_self | apply List.mem_cons_of_mem)) agg_State rfl) (rv_tmp F rfl) (⟨Sl.nil, by rw [add_no hno]; rfl, by rw [add_no hno]; exact Ens.nil _⟩)
      · skip
        refine l_guard F rfl rfl rfl g27 (o_val F (r_fieldAddr F rfl fld_Entry_1) rfl ?_); clear F a; intro a F
        refine l_guard F rfl rfl rfl g27 (o_val F (r_load1 M F rfl (by repeat (first | exact List.mem_cons_self | apply List.mem_cons_of_mem)) sca_u32 rfl) rfl ?_); clear F a; intro a F
        refine l_guard F rfl rfl rfl g27 (o_val F (r_sub_u32 F (y := 1) rfl rfl) rfl ?_); clear F a; intro a F
        refine l_guard F rfl rfl rfl g27 (o_val F (r_move F rfl) rfl ?_); clear F a; intro a F
        refine l_guard F rfl rfl rfl g27 (o_val F (r_neq_u32 F rfl rfl) rfl ?_); clear F a; intro a F
        refine l_step rfl (o_val F (r_pick_f F rfl g27 rfl) rfl ?_); clear F a; intro a F
        refine l_step rfl (o_val F (r_move F rfl) rfl ?_); clear F a; intro a F
        refine c_split F (i := 34) rfl (fun g34 => ?_) (fun g34 => ?_)
        · skip
          iterate 4 (refine l_skip F rfl rfl rfl g34 rfl rfl ?_; clear F a; intro a F)
          refine l_step rfl (o_val F (r_pick_t F rfl g34 rfl) rfl ?_); clear F a; intro a F
          refine l_step rfl (o_val F (r_move F rfl) rfl ?_); clear F a; intro a F
          iterate 3 (refine l_skip F rfl rfl rfl rfl rfl rfl ?_; clear F a; intro a F)
          refine l_step rfl (o_val F (r_pick_t F rfl rfl rfl) rfl ?_); clear F a; intro a F
          refine l_nil ?_
          refine hK4 _ _ ?_
          refine c_true F rfl rfl ?_
          refine c_seq (fun K8 hK8 => ?_)
          refine wp_region_lit ?_
          refine l_step rfl (o_val F (r_build F rfl b_State) rfl ?_); clear F a; intro a F
          refine l_step rfl (o_storeA M F rfl rfl agg_State.size (by repeat (first | exact Upd.here _ _ _ _ _ | apply Upd.there)) (by rfl) (by rfl) (by rfl) ?_); clear F a; intro a W10 M F
          refine l_step rfl (o_val F (r_assign F rfl) rfl ?_); clear F a; intro a F
          refine l_nil ?_
          refine hK8 _ _ ?_
          refine wp_ret ?_
          have hno : pIs s = false ∨ pNext (lastE s) e = false := by clear hI M F hK1 hK2 hK3 hK4 hK8; rw [rnext_eq]; by_cases hi : pIs s = true; (right; simp_all [pHead]); (left; simpa using hi)
          exact ret2 Try.results36 M F (rv_cell M F rfl (by repeat (first | exact List.mem_cons_self | apply List.mem_cons_of_mem)) agg_State rfl) (rv_tmp F rfl) (⟨Sl.nil, by rw [add_no hno]; rfl, by rw [add_no hno]; exact Ens.nil _⟩)
        · skip
          refine l_guard F rfl rfl rfl g34 (o_val F (r_fieldAddr F rfl fld_Entry_0) rfl ?_); clear F a; intro a F
          refine l_guard F rfl rfl rfl g34 (o_val F (r_load1 M F rfl (by repeat (first | exact List.mem_cons_self | apply List.mem_cons_of_mem)) sca_u32 rfl) rfl ?_); clear F a; intro a F
          refine l_guard F rfl rfl rfl g34 (o_val F (r_move F rfl) rfl ?_); clear F a; intro a F
          refine l_guard F rfl rfl rfl g34 (o_val F (r_lss_u32 F rfl rfl) rfl ?_); clear F a; intro a F
          refine l_step rfl (o_val F (r_pick_f F rfl g34 rfl) rfl ?_); clear F a; intro a F
          refine l_step rfl (o_val F (r_move F rfl) rfl ?_); clear F a; intro a F
          refine c_split F (i := 40) rfl (fun g40 => ?_) (fun g40 => ?_)
          · skip
            iterate 3 (refine l_skip F rfl rfl rfl g40 rfl rfl ?_; clear F a; intro a F)
            refine l_step rfl (o_val F (r_pick_t F rfl g40 rfl) rfl ?_); clear F a; intro a F
            refine l_nil ?_
            refine hK4 _ _ ?_
            refine c_true F rfl rfl ?_
            refine c_seq (fun K9 hK9 => ?_)
            refine wp_region_lit ?_
            refine l_step rfl (o_val F (r_build F rfl b_State) rfl ?_); clear F a; intro a F
            refine l_step rfl (o_storeA M F rfl rfl agg_State.size (by repeat (first | exact Upd.here _ _ _ _ _ | apply Upd.there)) (by rfl) (by rfl) (by rfl) ?_); clear F a; intro a W11 M F
            refine l_step rfl (o_val F (r_assign F rfl) rfl ?_); clear F a; intro a F
            refine l_nil ?_
            refine hK9 _ _ ?_
            refine wp_ret ?_
            have hno : pIs s = false ∨ pNext (lastE s) e = false := by clear hI M F hK1 hK2 hK3 hK4 hK9; rw [rnext_eq]; by_cases hi : pIs s = true; (right; simp_all [pHead]); (left; simpa using hi)
            exact ret2 Try.results36 M F (rv_cell M F rfl (by repeat (first | exact List.mem_cons_self | apply List.mem_cons_of_mem)) agg_State rfl) (rv_tmp F rfl) (⟨Sl.nil, by rw [add_no hno]; rfl, by rw [add_no hno]; exact Ens.nil _⟩)
          · skip
            refine l_guard F rfl rfl rfl g40 (o_val F (r_fieldAddr F rfl fld_Entry_0) rfl ?_); clear F a; intro a F
            refine l_guard F rfl rfl rfl g40 (o_val F (r_load1 M F rfl (by repeat (first | exact List.mem_cons_self | apply List.mem_cons_of_mem)) sca_u32 rfl) rfl ?_); clear F a; intro a F
            refine l_guard F rfl rfl rfl g40 (o_val F (r_gtr_u32 F (y := 60) rfl rfl) rfl ?_); clear F a; intro a F
            refine l_step rfl (o_val F (r_pick_f F rfl g40 rfl) rfl ?_); clear F a; intro a F
            refine l_nil ?_
            refine hK4 _ _ ?_
            refine c_cond F rfl (fun g44 => ?_) (fun g44 => ?_)
            · skip
              refine c_seq (fun K10 hK10 => ?_)
              refine wp_region_lit ?_
              refine l_step rfl (o_val F (r_build F rfl b_State) rfl ?_); clear F a; intro a F
              refine l_step rfl (o_storeA M F rfl rfl agg_State.size (by repeat (first | exact Upd.here _ _ _ _ _ | apply Upd.there)) (by rfl) (by rfl) (by rfl) ?_); clear F a; intro a W12 M F
              refine l_step rfl (o_val F (r_assign F rfl) rfl ?_); clear F a; intro a F
              refine l_nil ?_
              refine hK10 _ _ ?_
              refine wp_ret ?_
              have hno : pIs s = false ∨ pNext (lastE s) e = false := by clear hI M F hK1 hK2 hK3 hK4 hK10; rw [rnext_eq]; by_cases hi : pIs s = true; (right; simp_all [pHead]); (left; simpa using hi)
              exact ret2 Try.results36 M F (rv_cell M F rfl (by repeat (first | exact List.mem_cons_self | apply List.mem_cons_of_mem)) agg_State rfl) (rv_tmp F rfl) (⟨Sl.nil, by rw [add_no hno]; rfl, by rw [add_no hno]; exact Ens.nil _⟩)
            · skip
              refine wp_skip ?_
              refine hK3 _ _ ?_
              refine c_seq (fun K11 hK11 => ?_)
              refine c_drawM M [7] mixed (fun M => ?_)
              have Ms := M
              have hq1 := Keeps.here M
              have hle1 := M.gle
              have his : pIs s = true := by simpa using g16
              have hok := is_ok his
              simp only [head_ok hok] at g34 g40
              have hnx : pNext (lastE s) e = true := by rw [rnext_eq, g27, g40, g44, (by simpa using g22 : writes e.op = true), (by simpa using g34 : decide (e.n - 1 = (lastE s).n) = true)]; rfl
              have hp6 := hok.len
              refine t_take (i := 0) F rfl rfl hq1 (fun _ _ => r_fieldAddr F rfl fld_State_3) (fun _ _ _ h => h) (by kernel_rfl) (by kernel_rfl) (by kernel_rfl) (by kernel_rfl) ?_; clear F a; intro a F
              refine t_take (i := 1) F rfl rfl hq1 (fun _ ⟨_, _, M'⟩ => r_load1 M' F rfl (by repeat (first | exact List.mem_cons_self | apply List.mem_cons_of_mem)) sca_Entries rfl) (fun _ _ _ h => h) (by kernel_rfl) (by kernel_rfl) (by kernel_rfl) (by kernel_rfl) ?_; clear F a; intro a F
              refine t_take (i := 3) F rfl rfl hq1 (fun _ ⟨_, _, M'⟩ => r_load M' F rfl (by repeat (first | exact List.mem_cons_self | apply List.mem_cons_of_mem)) agg_Entry (seg_all rfl)) (fun _ _ _ h => h) (by kernel_rfl) (by kernel_rfl) (by kernel_rfl) (by kernel_rfl) ?_; clear F a; intro a F
              refine t_rdy2 (i := 2) (j := 4) (by kernel_rfl) (w_plain rfl rfl ?_) (w_plain rfl rfl ?_)
              · skip
                refine id (o_append (S := Sl.nil) M F slc_Entries app_Entry rfl rfl (Tip.nil _ _ _ _ _) (hl.mono M.gl).rd (all_flat (fun x => rfl) _) (by show (0 + l.len) * 40 ≤ _; omega) (by show 0 + l.len ≤ _; omega) rfl ?_); clear F a; intro a W13 Sb G13 hg13 hlb hnb F
                have M := hg13.st
                have ht1 : Tip [] w G13 39 8 Sb (s.log.flatMap PEntry.enc) := by simpa using hg13.tip
                have hlb2 : Sb.len = l.len := by rw [hlb]; exact Nat.zero_add _
                have hle1 := hle1.trans hg13.le
                refine keepAnd (Keeps.mk hle1 M (by repeat (first | exact List.Sublist.refl _ | apply List.Sublist.cons_cons | apply List.Sublist.cons))) (fun hq1 => ?_)
                refine t_one (i := 4) (by kernel_rfl) rfl rfl (o_bslice1 M F slc_Entries zer_Entry rfl rfl rfl rfl ?_); clear F a; intro a W14 S14 G14 hg14 hl14 hn14 hs14 F
                have ht1 := ht1.keep M.imm hs14
                have M := hg14.st
                have hlit := hg14.tip.rd
                have hlitlen := hl14
                have hle1 := hle1.trans hg14.le
                refine keepAnd (Keeps.mk hle1 M (by repeat (first | exact List.Sublist.refl _ | apply List.Sublist.cons_cons | apply List.Sublist.cons))) (fun hq1 => ?_)
                refine t_one (i := 5) (by kernel_rfl) rfl rfl (o_append M F slc_Entries app_Entry rfl rfl ht1 hlit rfl (by omega) (by omega) rfl ?_); clear F a; intro a W15 Sa Ga hga hla hna F
                have hlit := hlit.mono hga.le
                have M := hga.st
                have hl2 : Ens Ga Sa (s.log ++ [e]) := Tip.ens (by rw [List.flatMap_append]; exact hga.tip)
                have hSa : Sa.len = s.log.length + 1 := by omega
                have hle1 := hle1.trans hga.le
                refine keepAnd (Keeps.mk hle1 M (by repeat (first | exact List.Sublist.refl _ | apply List.Sublist.cons_cons | apply List.Sublist.cons))) (fun hq1 => ?_)
                refine t_take (i := 6) F rfl rfl hq1 (fun _ _ => r_fieldAddr F rfl fld_State_3) (fun _ _ _ h => h) (by kernel_rfl) (by kernel_rfl) (by kernel_rfl) (by kernel_rfl) ?_; clear F a; intro a F
                refine t_one (i := 7) (by kernel_rfl) rfl rfl (o_store1 M F rfl rfl sca_Entries rfl rfl p_State_3 (by repeat (first | exact Upd.here _ _ _ _ _ | apply Upd.there)) ?_); clear F a; intro a W16 M F
                refine ⟨(fun h => nomatch h), ?_⟩
                refine t_done (by kernel_rfl) ?_ _
                refine hK11 _ _ ?_
                refine c_seq (fun K12 hK12 => ?_)
                refine c_seq (fun K13 hK13 => ?_)
                refine wp_region_lit ?_
                refine l_step rfl (o_val F (r_fieldAddr F rfl fld_State_3) rfl ?_); clear F a; intro a F
                refine l_step rfl (o_val F (r_load1 M F rfl (by repeat (first | exact List.mem_cons_self | apply List.mem_cons_of_mem)) sca_Entries (v := Sa.v) rfl) rfl ?_); clear F a; intro a F
                refine l_step rfl (o_val F (r_len_slice F slc_Entries.und rfl) rfl ?_); clear F a; intro a F
                refine l_step rfl (o_val F (r_gtr_i64 F rfl rfl) rfl ?_); clear F a; intro a F
                refine l_nil ?_
                refine hK13 _ _ ?_
                refine c_cond F rfl (fun g56 => ?_) (fun g56 => ?_)
                · skip
                  refine wp_region_lit ?_
                  refine l_step rfl (o_val F (r_load M F rfl (by repeat (first | exact List.mem_cons_self | apply List.mem_cons_of_mem)) agg_State (seg_all rfl)) rfl ?_); clear F a; intro a F
                  refine l_step rfl (o_call M F rfl (c_paddockref6_pop (s := { s with log := s.log ++ [e] }) (l := Sa) (e := ((s.log ++ [e])[0]?).getD e) M.imm hl2 (by show (s.log ++ [e])[0]? = some (((s.log ++ [e])[0]?).getD e); cases s.log <;> rfl) (is_few (s := s) his) (by simp; omega)) rfl ?_); clear F a; intro a W17 v17 G17 hp17 M E17 F
                  have hlit := hlit.mono E17.gl
                  obtain ⟨l3, rfl, hl3⟩ := hp17
                  refine l_step rfl (o_storeA M F rfl rfl agg_State.size (by repeat (first | exact Upd.here _ _ _ _ _ | apply Upd.there)) (by rfl) (by rfl) (by rfl) ?_); clear F a; intro a W18 M F
                  refine l_nil ?_
                  refine hK12 _ _ ?_
                  refine c_seq (fun K14 hK14 => ?_)
                  refine wp_region_lit ?_
                  refine l_step rfl (o_val F (r_load M F rfl (by repeat (first | exact List.mem_cons_self | apply List.mem_cons_of_mem)) agg_State (seg_all rfl)) rfl ?_); clear F a; intro a F
                  refine l_step rfl (o_storeA M F rfl rfl agg_State.size (by repeat (first | exact Upd.here _ _ _ _ _ | apply Upd.there)) (by rfl) (by rfl) (by rfl) ?_); clear F a; intro a W19 M F
                  refine l_step rfl (o_val F (r_assign F rfl) rfl ?_); clear F a; intro a F
                  refine l_nil ?_
                  refine hK14 _ _ ?_
                  refine wp_ret ?_
                  exact ret2 Try.results36 M F (rv_cell M F rfl (by repeat (first | exact List.mem_cons_self | apply List.mem_cons_of_mem)) agg_State rfl) (rv_tmp F rfl) (⟨l3, by rw [add_one_eq hok hnx, if_pos (by have h := of_decide_eq_true g56; omega)]; rfl, by rw [add_one_eq hok hnx, if_pos (by have h := of_decide_eq_true g56; omega)]; exact hl3⟩)
                · skip
                  refine wp_skip ?_
                  refine hK12 _ _ ?_
                  refine c_seq (fun K15 hK15 => ?_)
                  refine wp_region_lit ?_
                  refine l_step rfl (o_val F (r_load M F rfl (by repeat (first | exact List.mem_cons_self | apply List.mem_cons_of_mem)) agg_State (seg_all rfl)) rfl ?_); clear F a; intro a F
                  refine l_step rfl (o_storeA M F rfl rfl agg_State.size (by repeat (first | exact Upd.here _ _ _ _ _ | apply Upd.there)) (by rfl) (by rfl) (by rfl) ?_); clear F a; intro a W20 M F
                  refine l_step rfl (o_val F (r_assign F rfl) rfl ?_); clear F a; intro a F
                  refine l_nil ?_
                  refine hK15 _ _ ?_
                  refine wp_ret ?_
                  exact ret2 Try.results36 M F (rv_cell M F rfl (by repeat (first | exact List.mem_cons_self | apply List.mem_cons_of_mem)) agg_State rfl) (rv_tmp F rfl) (⟨Sa, by rw [add_one_eq hok hnx, if_neg (by have h := of_decide_eq_false g56; omega)]; rfl, by rw [add_one_eq hok hnx, if_neg (by have h := of_decide_eq_false g56; omega)]; exact hl2⟩)
              · skip
                refine id (o_bslice1 M F slc_Entries zer_Entry rfl rfl rfl rfl ?_); clear F a; intro a W21 S21 G21 hg21 hl21 hn21 hs21 F
                have M := hg21.st
                have hlit := hg21.tip.rd
                have hlitlen := hl21
                have hle1 := hle1.trans hg21.le
                refine keepAnd (Keeps.mk hle1 M (by repeat (first | exact List.Sublist.refl _ | apply List.Sublist.cons_cons | apply List.Sublist.cons))) (fun hq1 => ?_)
                refine t_one (i := 2) (by kernel_rfl) rfl rfl (o_append (S := Sl.nil) M F slc_Entries app_Entry rfl rfl (Tip.nil _ _ _ _ _) (hl.mono M.gl).rd (all_flat (fun x => rfl) _) (by show (0 + l.len) * 40 ≤ _; omega) (by show 0 + l.len ≤ _; omega) rfl ?_); clear F a; intro a W22 Sb G22 hg22 hlb hnb F
                have hlit := hlit.mono hg22.le
                have M := hg22.st
                have ht1 : Tip [] w G22 39 8 Sb (s.log.flatMap PEntry.enc) := by simpa using hg22.tip
                have hlb2 : Sb.len = l.len := by rw [hlb]; exact Nat.zero_add _
                have hle1 := hle1.trans hg22.le
                refine keepAnd (Keeps.mk hle1 M (by repeat (first | exact List.Sublist.refl _ | apply List.Sublist.cons_cons | apply List.Sublist.cons))) (fun hq1 => ?_)
                refine t_one (i := 5) (by kernel_rfl) rfl rfl (o_append M F slc_Entries app_Entry rfl rfl ht1 hlit rfl (by omega) (by omega) rfl ?_); clear F a; intro a W23 Sa Ga hga hla hna F
                have hlit := hlit.mono hga.le
                have M := hga.st
                have hl2 : Ens Ga Sa (s.log ++ [e]) := Tip.ens (by rw [List.flatMap_append]; exact hga.tip)
                have hSa : Sa.len = s.log.length + 1 := by omega
                have hle1 := hle1.trans hga.le
                refine keepAnd (Keeps.mk hle1 M (by repeat (first | exact List.Sublist.refl _ | apply List.Sublist.cons_cons | apply List.Sublist.cons))) (fun hq1 => ?_)
                refine t_take (i := 6) F rfl rfl hq1 (fun _ _ => r_fieldAddr F rfl fld_State_3) (fun _ _ _ h => h) (by kernel_rfl) (by kernel_rfl) (by kernel_rfl) (by kernel_rfl) ?_; clear F a; intro a F
                refine t_one (i := 7) (by kernel_rfl) rfl rfl (o_store1 M F rfl rfl sca_Entries rfl rfl p_State_3 (by repeat (first | exact Upd.here _ _ _ _ _ | apply Upd.there)) ?_); clear F a; intro a W24 M F
                refine ⟨(fun h => nomatch h), ?_⟩
                refine t_done (by kernel_rfl) ?_ _
                refine hK11 _ _ ?_
                refine c_seq (fun K16 hK16 => ?_)
                refine c_seq (fun K17 hK17 => ?_)
                refine wp_region_lit ?_
                refine l_step rfl (o_val F (r_fieldAddr F rfl fld_State_3) rfl ?_); clear F a; intro a F
                refine l_step rfl (o_val F (r_load1 M F rfl (by repeat (first | exact List.mem_cons_self | apply List.mem_cons_of_mem)) sca_Entries (v := Sa.v) rfl) rfl ?_); clear F a; intro a F
                refine l_step rfl (o_val F (r_len_slice F slc_Entries.und rfl) rfl ?_); clear F a; intro a F
                refine l_step rfl (o_val F (r_gtr_i64 F rfl rfl) rfl ?_); clear F a; intro a F
                refine l_nil ?_
                refine hK17 _ _ ?_
                refine c_cond F rfl (fun g56 => ?_) (fun g56 => ?_)
                · skip
                  refine wp_region_lit ?_
                  refine l_step rfl (o_val F (r_load M F rfl (by repeat (first | exact List.mem_cons_self | apply List.mem_cons_of_mem)) agg_State (seg_all rfl)) rfl ?_); clear F a; intro a F
                  refine l_step rfl (o_call M F rfl (c_paddockref6_pop (s := { s with log := s.log ++ [e] }) (l := Sa) (e := ((s.log ++ [e])[0]?).getD e) M.imm hl2 (by show (s.log ++ [e])[0]? = some (((s.log ++ [e])[0]?).getD e); cases s.log <;> rfl) (is_few (s := s) his) (by simp; omega)) rfl ?_); clear F a; intro a W25 v25 G25 hp25 M E25 F
                  have hlit := hlit.mono E25.gl
                  obtain ⟨l3, rfl, hl3⟩ := hp25
                  refine l_step rfl (o_storeA M F rfl rfl agg_State.size (by repeat (first | exact Upd.here _ _ _ _ _ | apply Upd.there)) (by rfl) (by rfl) (by rfl) ?_); clear F a; intro a W26 M F
                  refine l_nil ?_
                  refine hK16 _ _ ?_
                  refine c_seq (fun K18 hK18 => ?_)
                  refine wp_region_lit ?_
                  refine l_step rfl (o_val F (r_load M F rfl (by repeat (first | exact List.mem_cons_self | apply List.mem_cons_of_mem)) agg_State (seg_all rfl)) rfl ?_); clear F a; intro a F
                  refine l_step rfl (o_storeA M F rfl rfl agg_State.size (by repeat (first | exact Upd.here _ _ _ _ _ | apply Upd.there)) (by rfl) (by rfl) (by rfl) ?_); clear F a; intro a W27 M F
                  refine l_step rfl (o_val F (r_assign F rfl) rfl ?_); clear F a; intro a F
                  refine l_nil ?_
                  refine hK18 _ _ ?_
                  refine wp_ret ?_
                  exact ret2 Try.results36 M F (rv_cell M F rfl (by repeat (first | exact List.mem_cons_self | apply List.mem_cons_of_mem)) agg_State rfl) (rv_tmp F rfl) (⟨l3, by rw [add_one_eq hok hnx, if_pos (by have h := of_decide_eq_true g56; omega)]; rfl, by rw [add_one_eq hok hnx, if_pos (by have h := of_decide_eq_true g56; omega)]; exact hl3⟩)
                · skip
                  refine wp_skip ?_
                  refine hK16 _ _ ?_
                  refine c_seq (fun K19 hK19 => ?_)
                  refine wp_region_lit ?_
                  refine l_step rfl (o_val F (r_load M F rfl (by repeat (first | exact List.mem_cons_self | apply List.mem_cons_of_mem)) agg_State (seg_all rfl)) rfl ?_); clear F a; intro a F
                  refine l_step rfl (o_storeA M F rfl rfl agg_State.size (by repeat (first | exact Upd.here _ _ _ _ _ | apply Upd.there)) (by rfl) (by rfl) (by rfl) ?_); clear F a; intro a W28 M F
                  refine l_step rfl (o_val F (r_assign F rfl) rfl ?_); clear F a; intro a F
                  refine l_nil ?_
                  refine hK19 _ _ ?_
                  refine wp_ret ?_
                  exact ret2 Try.results36 M F (rv_cell M F rfl (by repeat (first | exact List.mem_cons_self | apply List.mem_cons_of_mem)) agg_State rfl) (rv_tmp F rfl) (⟨Sa, by rw [add_one_eq hok hnx, if_neg (by have h := of_decide_eq_false g56; omega)]; rfl, by rw [add_one_eq hok hnx, if_neg (by have h := of_decide_eq_false g56; omega)]; exact hl2⟩)
theorem c_paddockref6_Upto {w : World} {G0 : Ghost} (hI : Imm G0 w) {s : PState} {l : Sl} (hl : Ens G0 l s.log) {n : UInt32} : Ret P 40 [agg (GState.enc (s.at l)), .int .u32 (n.toNat : Int)] [] w G0 (fun G W v => v = .tuple #[agg (pUpto s n).1.enc, .bool (pUpto s n).2]) := by
  refine enter Try.func40 rfl Try.ntmps40 rfl rfl hI (fun a F M => ?_)
  have hlen := hl.len
  have hlen2 : (s.at l).log.len = s.log.length := hl.len
  have hmax := hl.rd.max
  have hcap := hl.rd.cap
  have hcap2 : (s.at l).log.len ≤ (s.at l).log.cap := hl.rd.cap
  refine c_seq (fun K1 hK1 => ?_)
  refine wp_region_lit ?_
  refine l_step rfl (o_box M F rfl rfl ?_); clear F a; intro a W1 b1 M F
  refine l_step rfl (o_alloc M F zer_Base rfl ?_); clear F a; intro a W2 b2 M F
  refine l_step rfl (o_val F (r_assign F rfl) rfl ?_); clear F a; intro a F
  refine l_nil ?_
  refine hK1 _ _ ?_
  refine c_seq (fun K2 hK2 => ?_)
  refine wp_region_lit ?_
  refine l_step rfl (o_val F (r_load M F rfl (by repeat (first | exact List.mem_cons_self | apply List.mem_cons_of_mem)) agg_State (seg_all rfl)) rfl ?_); clear F a; intro a F
  refine l_step rfl (o_call M F rfl (c_paddockref6_Head M.imm (hl.mono M.gl)) rfl ?_); clear F a; intro a W3 v3 G3 hp3 M E3 F
  subst hp3
  refine l_step rfl (o_val F (r_move F rfl) rfl ?_); clear F a; intro a F
  refine l_step rfl (o_val F (r_extract F rfl rfl) rfl ?_); clear F a; intro a F
  refine l_step rfl (o_val F (r_extract F rfl rfl) rfl ?_); clear F a; intro a F
  refine l_step rfl (o_val F (r_assign F rfl) rfl ?_); clear F a; intro a F
  refine l_step rfl (o_val F (r_assign F rfl) rfl ?_); clear F a; intro a F
  refine l_nil ?_
  refine hK2 _ _ ?_
  refine c_seq (fun K3 hK3 => ?_)
  refine c_seq (fun K4 hK4 => ?_)
  refine wp_region_lit ?_
  refine l_step rfl (o_val F (r_load M F rfl (by repeat (first | exact List.mem_cons_self | apply List.mem_cons_of_mem)) agg_State (seg_all rfl)) rfl ?_); clear F a; intro a F
  refine l_step rfl (o_call M F rfl (c_paddockref6_Is M.imm (hl.mono M.gl)) rfl ?_); clear F a; intro a W4 v4 G4 hp4 M E4 F
  subst hp4
  refine l_step rfl (o_val F (r_not F rfl) rfl ?_); clear F a; intro a F
  refine l_step rfl (o_val F (r_move F rfl) rfl ?_); clear F a; intro a F
  refine c_split F (i := 18) rfl (fun g18 => ?_) (fun g18 => ?_)
  · skip
    iterate 5 (refine l_skip F rfl rfl rfl g18 rfl rfl ?_; clear F a; intro a F)
    refine l_step rfl (o_val F (r_pick_t F rfl g18 rfl) rfl ?_); clear F a; intro a F
    refine l_step rfl (o_val F (r_move F rfl) rfl ?_); clear F a; intro a F
    iterate 3 (refine l_skip F rfl rfl rfl rfl rfl rfl ?_; clear F a; intro a F)
    refine l_step rfl (o_val F (r_pick_t F rfl rfl rfl) rfl ?_); clear F a; intro a F
    refine l_nil ?_
    refine hK4 _ _ ?_
    refine c_true F rfl rfl ?_
    refine c_seq (fun K5 hK5 => ?_)
    refine wp_region_lit ?_
    refine l_step rfl (o_val F (r_build F rfl b_Base) rfl ?_); clear F a; intro a F
    refine l_step rfl (o_storeA M F rfl rfl agg_Base.size (by repeat (first | exact Upd.here _ _ _ _ _ | apply Upd.there)) (by rfl) (by rfl) (by rfl) ?_); clear F a; intro a W5 M F
    refine l_step rfl (o_val F (r_assign F rfl) rfl ?_); clear F a; intro a F
    refine l_nil ?_
    refine hK5 _ _ ?_
    refine wp_ret ?_
    have hno : pIs s = false ∨ n < s.tail.n ∨ (lastE s).n < n := by clear hI M F hK1 hK2 hK3 hK4 hK5; by_cases hi : pIs s = true; (right; simp_all [pHead]); (left; simpa using hi)
    exact ret2 Try.results40 M F (rv_cell M F rfl (by repeat (first | exact List.mem_cons_self | apply List.mem_cons_of_mem)) agg_Base rfl) (rv_tmp F rfl) (by rw [upto_no hno])
  · skip
    refine l_guard F rfl rfl rfl g18 (o_val F (r_move F rfl) rfl ?_); clear F a; intro a F
    refine l_guard F rfl rfl rfl g18 (o_val F (r_fieldAddr F rfl fld_State_2) rfl ?_); clear F a; intro a F
    refine l_guard F rfl rfl rfl g18 (o_val F (r_fieldAddr F rfl fld_Entry_1) rfl ?_); clear F a; intro a F
    refine l_guard F rfl rfl rfl g18 (o_val F (r_load1 M F rfl (by repeat (first | exact List.mem_cons_self | apply List.mem_cons_of_mem)) sca_u32 rfl) rfl ?_); clear F a; intro a F
    refine l_guard F rfl rfl rfl g18 (o_val F (r_lss_u32 F rfl rfl) rfl ?_); clear F a; intro a F
    refine l_step rfl (o_val F (r_pick_f F rfl g18 rfl) rfl ?_); clear F a; intro a F
    refine l_step rfl (o_val F (r_move F rfl) rfl ?_); clear F a; intro a F
    refine c_split F (i := 25) rfl (fun g25 => ?_) (fun g25 => ?_)
    · skip
      iterate 3 (refine l_skip F rfl rfl rfl g25 rfl rfl ?_; clear F a; intro a F)
      refine l_step rfl (o_val F (r_pick_t F rfl g25 rfl) rfl ?_); clear F a; intro a F
      refine l_nil ?_
      refine hK4 _ _ ?_
      refine c_true F rfl rfl ?_
      refine c_seq (fun K6 hK6 => ?_)
      refine wp_region_lit ?_
      refine l_step rfl (o_val F (r_build F rfl b_Base) rfl ?_); clear F a; intro a F
      refine l_step rfl (o_storeA M F rfl rfl agg_Base.size (by repeat (first | exact Upd.here _ _ _ _ _ | apply Upd.there)) (by rfl) (by rfl) (by rfl) ?_); clear F a; intro a W6 M F
      refine l_step rfl (o_val F (r_assign F rfl) rfl ?_); clear F a; intro a F
      refine l_nil ?_
      refine hK6 _ _ ?_
      refine wp_ret ?_
      have hno : pIs s = false ∨ n < s.tail.n ∨ (lastE s).n < n := by clear hI M F hK1 hK2 hK3 hK4 hK6; by_cases hi : pIs s = true; (right; simp_all [pHead]); (left; simpa using hi)
      exact ret2 Try.results40 M F (rv_cell M F rfl (by repeat (first | exact List.mem_cons_self | apply List.mem_cons_of_mem)) agg_Base rfl) (rv_tmp F rfl) (by rw [upto_no hno])
    · skip
      refine l_guard F rfl rfl rfl g25 (o_val F (r_move F rfl) rfl ?_); clear F a; intro a F
      refine l_guard F rfl rfl rfl g25 (o_val F (r_move F rfl) rfl ?_); clear F a; intro a F
      refine l_guard F rfl rfl rfl g25 (o_val F (r_gtr_u32 F rfl rfl) rfl ?_); clear F a; intro a F
      refine l_step rfl (o_val F (r_pick_f F rfl g25 rfl) rfl ?_); clear F a; intro a F
      refine l_nil ?_
      refine hK4 _ _ ?_
      refine c_cond F rfl (fun g29 => ?_) (fun g29 => ?_)
      · skip
        refine c_seq (fun K7 hK7 => ?_)
        refine wp_region_lit ?_
        refine l_step rfl (o_val F (r_build F rfl b_Base) rfl ?_); clear F a; intro a F
        refine l_step rfl (o_storeA M F rfl rfl agg_Base.size (by repeat (first | exact Upd.here _ _ _ _ _ | apply Upd.there)) (by rfl) (by rfl) (by rfl) ?_); clear F a; intro a W7 M F
        refine l_step rfl (o_val F (r_assign F rfl) rfl ?_); clear F a; intro a F
        refine l_nil ?_
        refine hK7 _ _ ?_
        refine wp_ret ?_
        have hno : pIs s = false ∨ n < s.tail.n ∨ (lastE s).n < n := by clear hI M F hK1 hK2 hK3 hK4 hK7; by_cases hi : pIs s = true; (right; simp_all [pHead]); (left; simpa using hi)
        exact ret2 Try.results40 M F (rv_cell M F rfl (by repeat (first | exact List.mem_cons_self | apply List.mem_cons_of_mem)) agg_Base rfl) (rv_tmp F rfl) (by rw [upto_no hno])
      · skip
        refine wp_skip ?_
        refine hK3 _ _ ?_
        refine c_seq (fun K8 hK8 => ?_)
        refine wp_region_lit ?_
        have his : pIs s = true := by simpa using g18
        have hok := is_ok his
        have hch := hok.ch
        have hll := last_n hch
        simp only [head_ok hok] at g29
        have h23 : ¬ n < s.tail.n := of_decide_eq_false g25
        have h28 : ¬ (lastE s).n < n := of_decide_eq_false g29
        rw [UInt32.lt_iff_toNat_lt] at h23 h28
        obtain ⟨kk, hkk⟩ : ∃ kk, kk = n.toNat - s.tail.n.toNat := ⟨_, rfl⟩
        refine l_step rfl (o_val F (r_fieldAddr F rfl fld_State_1) rfl ?_); clear F a; intro a F
        refine l_step rfl (o_val F (r_load M F rfl (by repeat (first | exact List.mem_cons_self | apply List.mem_cons_of_mem)) agg_Base g_State_1) rfl ?_); clear F a; intro a F
        refine l_step rfl (o_alloc M F zer_Base rfl ?_); clear F a; intro a W8 b3 M F
        refine l_step rfl (o_storeA M F rfl rfl agg_Base.size (by repeat (first | exact Upd.here _ _ _ _ _ | apply Upd.there)) (by rfl) (by rfl) (by rfl) ?_); clear F a; intro a W9 M F
        refine l_nil ?_
        refine hK8 _ _ ?_
        refine c_seq (fun K9 hK9 => ?_)
        refine c_seq (fun K10 hK10 => ?_)
        refine wp_region_lit ?_
        refine l_step rfl (o_val F (r_assign F rfl) rfl ?_); clear F a; intro a F
        refine l_nil ?_
        refine hK10 _ _ ?_
        refine wp_block ?_
        refine c_loop (fun k a W => ∃ (i : Nat) (G : Ghost) (b : PBase), k = kk - i ∧ i ≤ kk ∧ Frm 62 [(9, .int .i64 (i : Int)), (1, .int .u32 (n.toNat : Int)), (8, .pointer (some ⟨b3, 0, none⟩)), (4, .pointer (some ⟨b2, 0, none⟩)), (2, .pointer (some ⟨b1, 0, none⟩))] a ∧ St [] w G0 W [⟨b3, 37, b.enc⟩, ⟨b2, 37, PBase.zero.enc⟩, ⟨b1, 42, (s.at l).enc⟩] G ∧ (b = foldB s.base (s.log.take i) ∧ Few b)) (kk) ?_ ?_
        · exact ⟨0, _, s.base, rfl, Nat.zero_le _, (F.cons (F.cons (F.cons (F.cons (F.cons F.nil 2 rfl) 4 rfl) 8 rfl) 1 rfl) 9 rfl), M, ⟨rfl, is_few his⟩⟩
        · clear F M a; intro k a W hI; obtain ⟨i, G, b, hk, hi, F, M, hf⟩ := hI
          refine c_seq (fun K11 hK11 => ?_)
          refine c_seq (fun K12 hK12 => ?_)
          refine wp_region_lit ?_
          refine l_step rfl (o_val F (r_move F rfl) rfl ?_); clear F a; intro a F
          refine l_step rfl (o_val F (r_fieldAddr F rfl fld_State_3) rfl ?_); clear F a; intro a F
          refine l_step rfl (o_val F (r_load1 M F rfl (by repeat (first | exact List.mem_cons_self | apply List.mem_cons_of_mem)) sca_Entries rfl) rfl ?_); clear F a; intro a F
          refine l_step rfl (o_val F (r_len_slice F slc_Entries.und rfl) rfl ?_); clear F a; intro a F
          refine l_step rfl (o_val F (r_lss_i64 F rfl rfl) rfl ?_); clear F a; intro a F
          refine l_step rfl (o_val F (r_move F rfl) rfl ?_); clear F a; intro a F
          refine c_split F (i := 38) rfl (fun g38 => ?_) (fun g38 => ?_)
          · skip
            have hlt0 : i < s.log.length := by have h := of_decide_eq_true g38; omega
            obtain ⟨x, hx⟩ := get_of hlt0
            have hxn := chain_n _ _ hch i x hx
            obtain ⟨eb, eo, er, ha42, hG42, hS42⟩ := (hl.mono M.gl).elem hx
            have ha55 := ha42
            have hG55 := hG42
            have hS55 := hS42
            refine l_guard F rfl rfl rfl g38 (o_val F (r_fieldAddr F rfl fld_State_3) rfl ?_); clear F a; intro a F
            refine l_guard F rfl rfl rfl g38 (o_val F (r_load1 M F rfl (by repeat (first | exact List.mem_cons_self | apply List.mem_cons_of_mem)) sca_Entries rfl) rfl ?_); clear F a; intro a F
            refine l_guard F rfl rfl rfl g38 (o_val F (r_move F rfl) rfl ?_); clear F a; intro a F
            refine l_guard F rfl rfl rfl g38 (o_val F (r_indexSl F rfl rfl slc_Entries ha42 (by omega) (by omega)) rfl ?_); clear F a; intro a F
            refine l_guard F rfl rfl rfl g38 (o_val F (r_fieldAddr F rfl fld_Entry_1) rfl ?_); clear F a; intro a F
            refine l_guard F rfl rfl rfl g38 (o_val F (r_loadr1 M F rfl hG42 sca_u32 (hS42.get rfl)) rfl ?_); clear F a; intro a F
            refine l_guard F rfl rfl rfl g38 (o_val F (r_move F rfl) rfl ?_); clear F a; intro a F
            refine l_guard F rfl rfl rfl g38 (o_val F (r_leq_u32 F rfl rfl) rfl ?_); clear F a; intro a F
            refine l_step rfl (o_val F (r_pick_t F rfl g38 rfl) rfl ?_); clear F a; intro a F
            refine l_nil ?_
            refine hK12 _ _ ?_
            refine c_cond F rfl (fun g47 => ?_) (fun g47 => ?_)
            · skip
              refine wp_skip ?_
              refine hK11 _ _ ?_
              refine c_seq (fun K13 hK13 => ?_)
              refine wp_block ?_
              refine c_drawM (M.drop (List.Sublist.cons _ (List.Sublist.cons_cons _ (List.Sublist.cons_cons _ (List.Sublist.refl _))))) [] mixed (fun Mk => ?_)
              have M := M.drew
              have Ms := Mk
              have hq1 := Keeps.here Mk
              have hle1 := M.gle
              refine t_take (i := 1) F rfl rfl hq1 (fun _ _ => r_fieldAddr F rfl fld_State_3) (fun _ _ _ h => h) (by kernel_rfl) (by kernel_rfl) (by kernel_rfl) (by kernel_rfl) ?_; clear F a; intro a F
              refine t_take (i := 2) F rfl rfl hq1 (fun _ ⟨_, _, M'⟩ => r_load1 M' F rfl (by repeat (first | exact List.mem_cons_self | apply List.mem_cons_of_mem)) sca_Entries rfl) (fun _ _ _ h => h) (by kernel_rfl) (by kernel_rfl) (by kernel_rfl) (by kernel_rfl) ?_; clear F a; intro a F
              refine t_take (i := 3) F rfl rfl hq1 (fun _ _ => r_move F rfl) (fun _ _ _ h => h) (by kernel_rfl) (by kernel_rfl) (by kernel_rfl) (by kernel_rfl) ?_; clear F a; intro a F
              refine t_take (i := 4) F rfl rfl hq1 (fun _ _ => r_indexSl F rfl rfl slc_Entries ha55 (by omega) (by omega)) (fun _ _ _ h => h) (by kernel_rfl) (by kernel_rfl) (by kernel_rfl) (by kernel_rfl) ?_; clear F a; intro a F
              refine t_take (i := 5) F rfl rfl hq1 (fun _ _ => r_fieldAddr F rfl fld_Entry_2) (fun _ _ _ h => h) (by kernel_rfl) (by kernel_rfl) (by kernel_rfl) (by kernel_rfl) ?_; clear F a; intro a F
              refine t_take (i := 6) F rfl rfl hq1 (fun _ ⟨_, hg, M'⟩ => r_loadrG hg M' F rfl hG55 agg_Op (hS55.sub g_Entry_2 (by decide))) (fun _ _ _ h => h) (by kernel_rfl) (by kernel_rfl) (by kernel_rfl) (by kernel_rfl) ?_; clear F a; intro a F
              have hlt : i < kk := by have h := of_decide_eq_true g47; rw [UInt32.le_iff_toNat_le] at h; omega
              refine t_one (i := 0) (by kernel_rfl) rfl rfl (o_val F (r_load M F rfl (by repeat (first | exact List.mem_cons_self | apply List.mem_cons_of_mem)) agg_Base (seg_all rfl)) rfl ?_); clear F a; intro a F
              refine keepAnd (Keeps.mk hle1 M (by repeat (first | exact List.Sublist.refl _ | apply List.Sublist.cons_cons | apply List.Sublist.cons))) (fun hq1 => ?_)
              refine t_one (i := 7) (by kernel_rfl) rfl rfl (o_call M F rfl (c_paddockref6_Do M.imm hf.2) rfl ?_); clear F a; intro a W10 v10 G10 hp10 M E10 F
              subst hp10
              have hle1 := hle1.trans E10.gl
              refine keepAnd (Keeps.mk hle1 M (by repeat (first | exact List.Sublist.refl _ | apply List.Sublist.cons_cons | apply List.Sublist.cons))) (fun hq1 => ?_)
              refine t_take (i := 8) F rfl rfl hq1 (fun _ _ => r_move F rfl) (fun _ _ _ h => h) (by kernel_rfl) (by kernel_rfl) (by kernel_rfl) (by kernel_rfl) ?_; clear F a; intro a F
              refine t_take (i := 9) F rfl rfl hq1 (fun _ _ => r_extract F rfl rfl) (fun _ _ _ h => h) (by kernel_rfl) (by kernel_rfl) (by kernel_rfl) (by kernel_rfl) ?_; clear F a; intro a F
              refine t_take (i := 10) F rfl rfl hq1 (fun _ _ => r_extract F rfl rfl) (fun _ _ _ h => h) (by kernel_rfl) (by kernel_rfl) (by kernel_rfl) (by kernel_rfl) ?_; clear F a; intro a F
              refine t_one (i := 11) (by kernel_rfl) rfl rfl (o_storeA M F rfl rfl agg_Base.size (by repeat (first | exact Upd.here _ _ _ _ _ | apply Upd.there)) (by rfl) (by rfl) (by rfl) ?_); clear F a; intro a W11 M F
              refine keepAnd (Keeps.mk hle1 M (by repeat (first | exact List.Sublist.refl _ | apply List.Sublist.cons_cons | apply List.Sublist.cons))) (fun hq1 => ?_)
              refine t_done (by kernel_rfl) ?_ _
              refine hK13 _ _ ?_
              refine wp_region_lit ?_
              refine l_step rfl (o_val F (r_move F rfl) rfl ?_); clear F a; intro a F
              refine l_step rfl (o_val F (r_add_i64 F rfl rfl (by omega)) rfl ?_); clear F a; intro a F
              refine l_step rfl (o_val F (r_assign F rfl) rfl ?_); clear F a; intro a F
              refine l_nil ?_
              exact ⟨kk - (i + 1), by omega, i + 1, _, _, rfl, by omega, (F.cons (F.cons (F.cons (F.cons (F.cons F.nil 2 rfl) 4 rfl) 8 rfl) 1 rfl) 9 rfl), M.drop (by repeat (first | exact List.Sublist.refl _ | apply List.Sublist.cons_cons | apply List.Sublist.cons)), ⟨by rw [take_of hx, foldB_append, ← hf.1]; rfl, few_do hf.2⟩⟩
            · skip
              refine wp_exit ?_
              refine hK9 _ _ ?_
              refine c_seq (fun K14 hK14 => ?_)
              refine wp_region_lit ?_
              have hge : i = kk := by first | (have h := of_decide_eq_false g38; omega) | (have h := of_decide_eq_false g47; rw [UInt32.le_iff_toNat_le] at h; omega)
              refine l_step rfl (o_val F (r_load M F rfl (by repeat (first | exact List.mem_cons_self | apply List.mem_cons_of_mem)) agg_Base (seg_all rfl)) rfl ?_); clear F a; intro a F
              refine l_step rfl (o_storeA M F rfl rfl agg_Base.size (by repeat (first | exact Upd.here _ _ _ _ _ | apply Upd.there)) (by rfl) (by rfl) (by rfl) ?_); clear F a; intro a W12 M F
              refine l_step rfl (o_val F (r_assign F rfl) rfl ?_); clear F a; intro a F
              refine l_nil ?_
              refine hK14 _ _ ?_
              refine wp_ret ?_
              exact ret2 Try.results40 M F (rv_cell M F rfl (by repeat (first | exact List.mem_cons_self | apply List.mem_cons_of_mem)) agg_Base rfl) (rv_tmp F rfl) (by rw [upto_eq hok (by omega) (by omega), hf.1, hge, hkk])
          · skip
            iterate 8 (refine l_skip F rfl rfl rfl g38 rfl rfl ?_; clear F a; intro a F)
            refine l_step rfl (o_val F (r_pick_f F rfl g38 rfl) rfl ?_); clear F a; intro a F
            refine l_nil ?_
            refine hK12 _ _ ?_
            refine c_false F rfl rfl ?_
            refine wp_exit ?_
            refine hK9 _ _ ?_
            refine c_seq (fun K15 hK15 => ?_)
            refine wp_region_lit ?_
            have hge : i = kk := by first | (have h := of_decide_eq_false g38; omega) | (have h := of_decide_eq_false g47; rw [UInt32.le_iff_toNat_le] at h; omega)
            refine l_step rfl (o_val F (r_load M F rfl (by repeat (first | exact List.mem_cons_self | apply List.mem_cons_of_mem)) agg_Base (seg_all rfl)) rfl ?_); clear F a; intro a F
            refine l_step rfl (o_storeA M F rfl rfl agg_Base.size (by repeat (first | exact Upd.here _ _ _ _ _ | apply Upd.there)) (by rfl) (by rfl) (by rfl) ?_); clear F a; intro a W13 M F
            refine l_step rfl (o_val F (r_assign F rfl) rfl ?_); clear F a; intro a F
            refine l_nil ?_
            refine hK15 _ _ ?_
            refine wp_ret ?_
            exact ret2 Try.results40 M F (rv_cell M F rfl (by repeat (first | exact List.mem_cons_self | apply List.mem_cons_of_mem)) agg_Base rfl) (rv_tmp F rfl) (by rw [upto_eq hok (by omega) (by omega), hf.1, hge, hkk])
theorem c_paddockref6_Fold {w : World} {G0 : Ghost} (hI : Imm G0 w) {s : PState} {l : Sl} (hl : Ens G0 l s.log) : Ret P 39 [agg (GState.enc (s.at l))] [] w G0 (fun G W v => v = agg (pFold s).enc) := by
  refine enter Try.func39 rfl Try.ntmps39 rfl rfl hI (fun a F M => ?_)
  have hlen := hl.len
  have hlen2 : (s.at l).log.len = s.log.length := hl.len
  have hmax := hl.rd.max
  have hcap := hl.rd.cap
  have hcap2 : (s.at l).log.len ≤ (s.at l).log.cap := hl.rd.cap
  refine c_seq (fun K1 hK1 => ?_)
  refine wp_region_lit ?_
  refine l_step rfl (o_box M F rfl rfl ?_); clear F a; intro a W1 b1 M F
  refine l_step rfl (o_alloc M F zer_Base rfl ?_); clear F a; intro a W2 b2 M F
  refine l_nil ?_
  refine hK1 _ _ ?_
  refine c_seq (fun K2 hK2 => ?_)
  refine wp_region_lit ?_
  refine l_step rfl (o_val F (r_load M F rfl (by repeat (first | exact List.mem_cons_self | apply List.mem_cons_of_mem)) agg_State (seg_all rfl)) rfl ?_); clear F a; intro a F
  refine l_step rfl (o_call M F rfl (c_paddockref6_Head M.imm (hl.mono M.gl)) rfl ?_); clear F a; intro a W3 v3 G3 hp3 M E3 F
  subst hp3
  refine l_step rfl (o_val F (r_move F rfl) rfl ?_); clear F a; intro a F
  refine l_step rfl (o_val F (r_extract F rfl rfl) rfl ?_); clear F a; intro a F
  refine l_step rfl (o_val F (r_extract F rfl rfl) rfl ?_); clear F a; intro a F
  refine l_step rfl (o_val F (r_assign F rfl) rfl ?_); clear F a; intro a F
  refine l_step rfl (o_val F (r_assign F rfl) rfl ?_); clear F a; intro a F
  refine l_nil ?_
  refine hK2 _ _ ?_
  refine c_seq (fun K3 hK3 => ?_)
  refine wp_region_lit ?_
  refine l_step rfl (o_val F (r_load M F rfl (by repeat (first | exact List.mem_cons_self | apply List.mem_cons_of_mem)) agg_State (seg_all rfl)) rfl ?_); clear F a; intro a F
  refine l_step rfl (o_val F (r_move F rfl) rfl ?_); clear F a; intro a F
  refine l_step rfl (o_call M F rfl (c_paddockref6_Upto M.imm (hl.mono M.gl)) rfl ?_); clear F a; intro a W4 v4 G4 hp4 M E4 F
  subst hp4
  simp only [fold_upto] at F
  refine l_step rfl (o_val F (r_move F rfl) rfl ?_); clear F a; intro a F
  refine l_step rfl (o_val F (r_extract F rfl rfl) rfl ?_); clear F a; intro a F
  refine l_step rfl (o_val F (r_extract F rfl rfl) rfl ?_); clear F a; intro a F
  refine l_step rfl (o_alloc M F zer_Base rfl ?_); clear F a; intro a W5 b3 M F
  refine l_step rfl (o_storeA M F rfl rfl agg_Base.size (by repeat (first | exact Upd.here _ _ _ _ _ | apply Upd.there)) (by rfl) (by rfl) (by rfl) ?_); clear F a; intro a W6 M F
  refine l_step rfl (o_val F (r_assign F rfl) rfl ?_); clear F a; intro a F
  refine l_nil ?_
  refine hK3 _ _ ?_
  refine c_seq (fun K4 hK4 => ?_)
  refine wp_region_lit ?_
  refine l_step rfl (o_val F (r_load M F rfl (by repeat (first | exact List.mem_cons_self | apply List.mem_cons_of_mem)) agg_Base (seg_all rfl)) rfl ?_); clear F a; intro a F
  refine l_step rfl (o_storeA M F rfl rfl agg_Base.size (by repeat (first | exact Upd.here _ _ _ _ _ | apply Upd.there)) (by rfl) (by rfl) (by rfl) ?_); clear F a; intro a W7 M F
  refine l_nil ?_
  refine hK4 _ _ ?_
  refine wp_ret ?_
  exact ret1 Try.results39 M F (rv_cell M F rfl (by repeat (first | exact List.mem_cons_self | apply List.mem_cons_of_mem)) agg_Base rfl) (rfl)
theorem c_paddockref6_Cut {w : World} {G0 : Ghost} (hI : Imm G0 w) {s : PState} {l : Sl} (hl : Ens G0 l s.log) {n : UInt32} : Ret P 41 [agg (GState.enc (s.at l)), .int .u32 (n.toNat : Int)] [] w G0 (fun G W v => ∃ l', v = .tuple #[agg (GState.enc ((pCut s n).1.at l')), .int .i64 (pCut s n).2] ∧ Ens G l' (pCut s n).1.log) := by
  refine enter Try.func41 rfl Try.ntmps41 rfl rfl hI (fun a F M => ?_)
  have hlen := hl.len
  have hlen2 : (s.at l).log.len = s.log.length := hl.len
  have hmax := hl.rd.max
  have hcap := hl.rd.cap
  have hcap2 : (s.at l).log.len ≤ (s.at l).log.cap := hl.rd.cap
  refine c_seq (fun K1 hK1 => ?_)
  refine wp_region_lit ?_
  refine l_step rfl (o_box M F rfl rfl ?_); clear F a; intro a W1 b1 M F
  refine l_step rfl (o_alloc M F zer_State rfl ?_); clear F a; intro a W2 b2 M F
  refine l_step rfl (o_val F (r_assign F rfl) rfl ?_); clear F a; intro a F
  refine l_nil ?_
  refine hK1 _ _ ?_
  refine c_seq (fun K2 hK2 => ?_)
  refine wp_region_lit ?_
  refine l_step rfl (o_val F (r_load M F rfl (by repeat (first | exact List.mem_cons_self | apply List.mem_cons_of_mem)) agg_State (seg_all rfl)) rfl ?_); clear F a; intro a F
  refine l_step rfl (o_call M F rfl (c_paddockref6_Head M.imm (hl.mono M.gl)) rfl ?_); clear F a; intro a W3 v3 G3 hp3 M E3 F
  subst hp3
  refine l_step rfl (o_val F (r_move F rfl) rfl ?_); clear F a; intro a F
  refine l_step rfl (o_val F (r_extract F rfl rfl) rfl ?_); clear F a; intro a F
  refine l_step rfl (o_val F (r_extract F rfl rfl) rfl ?_); clear F a; intro a F
  refine l_step rfl (o_val F (r_assign F rfl) rfl ?_); clear F a; intro a F
  refine l_step rfl (o_val F (r_assign F rfl) rfl ?_); clear F a; intro a F
  refine l_nil ?_
  refine hK2 _ _ ?_
  refine c_seq (fun K3 hK3 => ?_)
  refine c_seq (fun K4 hK4 => ?_)
  refine wp_region_lit ?_
  refine l_step rfl (o_val F (r_load M F rfl (by repeat (first | exact List.mem_cons_self | apply List.mem_cons_of_mem)) agg_State (seg_all rfl)) rfl ?_); clear F a; intro a F
  refine l_step rfl (o_call M F rfl (c_paddockref6_Is M.imm (hl.mono M.gl)) rfl ?_); clear F a; intro a W4 v4 G4 hp4 M E4 F
  subst hp4
  refine l_step rfl (o_val F (r_not F rfl) rfl ?_); clear F a; intro a F
  refine l_nil ?_
  refine hK4 _ _ ?_
  refine c_cond F rfl (fun g15 => ?_) (fun g15 => ?_)
  · skip
    refine c_seq (fun K5 hK5 => ?_)
    refine wp_region_lit ?_
    refine l_step rfl (o_val F (r_build F rfl b_State) rfl ?_); clear F a; intro a F
    refine l_step rfl (o_storeA M F rfl rfl agg_State.size (by repeat (first | exact Upd.here _ _ _ _ _ | apply Upd.there)) (by rfl) (by rfl) (by rfl) ?_); clear F a; intro a W5 M F
    refine l_step rfl (o_val F (r_assign F rfl) rfl ?_); clear F a; intro a F
    refine l_nil ?_
    refine hK5 _ _ ?_
    refine wp_ret ?_
    exact ret2 Try.results41 M F (rv_cell M F rfl (by repeat (first | exact List.mem_cons_self | apply List.mem_cons_of_mem)) agg_State rfl) (rv_tmp F rfl) (⟨Sl.nil, by rw [pCut, if_pos (by simpa using g15)]; rfl, by rw [pCut, if_pos (by simpa using g15)]; exact Ens.nil _⟩)
  · skip
    refine wp_skip ?_
    refine hK3 _ _ ?_
    refine c_seq (fun K6 hK6 => ?_)
    refine c_seq (fun K7 hK7 => ?_)
    refine wp_region_lit ?_
    refine l_step rfl (o_val F (r_move F rfl) rfl ?_); clear F a; intro a F
    refine l_step rfl (o_val F (r_fieldAddr F rfl fld_State_2) rfl ?_); clear F a; intro a F
    refine l_step rfl (o_val F (r_fieldAddr F rfl fld_Entry_1) rfl ?_); clear F a; intro a F
    refine l_step rfl (o_val F (r_load1 M F rfl (by repeat (first | exact List.mem_cons_self | apply List.mem_cons_of_mem)) sca_u32 rfl) rfl ?_); clear F a; intro a F
    refine l_step rfl (o_val F (r_lss_u32 F rfl rfl) rfl ?_); clear F a; intro a F
    refine l_step rfl (o_val F (r_move F rfl) rfl ?_); clear F a; intro a F
    refine c_split F (i := 22) rfl (fun g22 => ?_) (fun g22 => ?_)
    · skip
      iterate 3 (refine l_skip F rfl rfl rfl g22 rfl rfl ?_; clear F a; intro a F)
      refine l_step rfl (o_val F (r_pick_t F rfl g22 rfl) rfl ?_); clear F a; intro a F
      refine l_nil ?_
      refine hK7 _ _ ?_
      refine c_true F rfl rfl ?_
      refine c_seq (fun K8 hK8 => ?_)
      refine wp_region_lit ?_
      refine l_step rfl (o_val F (r_build F rfl b_State) rfl ?_); clear F a; intro a F
      refine l_step rfl (o_storeA M F rfl rfl agg_State.size (by repeat (first | exact Upd.here _ _ _ _ _ | apply Upd.there)) (by rfl) (by rfl) (by rfl) ?_); clear F a; intro a W6 M F
      refine l_step rfl (o_val F (r_assign F rfl) rfl ?_); clear F a; intro a F
      refine l_nil ?_
      refine hK8 _ _ ?_
      refine wp_ret ?_
      exact ret2 Try.results41 M F (rv_cell M F rfl (by repeat (first | exact List.mem_cons_self | apply List.mem_cons_of_mem)) agg_State rfl) (rv_tmp F rfl) (⟨Sl.nil, by rw [cut_no (by simpa using g15) (.inl (of_decide_eq_true g22))]; rfl, by rw [cut_no (by simpa using g15) (.inl (of_decide_eq_true g22))]; exact Ens.nil _⟩)
    · skip
      refine l_guard F rfl rfl rfl g22 (o_val F (r_move F rfl) rfl ?_); clear F a; intro a F
      refine l_guard F rfl rfl rfl g22 (o_val F (r_move F rfl) rfl ?_); clear F a; intro a F
      refine l_guard F rfl rfl rfl g22 (o_val F (r_gtr_u32 F rfl rfl) rfl ?_); clear F a; intro a F
      refine l_step rfl (o_val F (r_pick_f F rfl g22 rfl) rfl ?_); clear F a; intro a F
      refine l_nil ?_
      refine hK7 _ _ ?_
      refine c_cond F rfl (fun g26 => ?_) (fun g26 => ?_)
      · skip
        refine c_seq (fun K9 hK9 => ?_)
        refine wp_region_lit ?_
        refine l_step rfl (o_val F (r_build F rfl b_State) rfl ?_); clear F a; intro a F
        refine l_step rfl (o_storeA M F rfl rfl agg_State.size (by repeat (first | exact Upd.here _ _ _ _ _ | apply Upd.there)) (by rfl) (by rfl) (by rfl) ?_); clear F a; intro a W7 M F
        refine l_step rfl (o_val F (r_assign F rfl) rfl ?_); clear F a; intro a F
        refine l_nil ?_
        refine hK9 _ _ ?_
        refine wp_ret ?_
        exact ret2 Try.results41 M F (rv_cell M F rfl (by repeat (first | exact List.mem_cons_self | apply List.mem_cons_of_mem)) agg_State rfl) (rv_tmp F rfl) (⟨Sl.nil, by rw [cut_no (by simpa using g15) (.inr (by have his : pIs s = true := (by simpa using g15); simp only [head_ok (is_ok his)] at g26; exact of_decide_eq_true g26))]; rfl, by rw [cut_no (by simpa using g15) (.inr (by have his : pIs s = true := (by simpa using g15); simp only [head_ok (is_ok his)] at g26; exact of_decide_eq_true g26))]; exact Ens.nil _⟩)
      · skip
        refine wp_skip ?_
        refine hK6 _ _ ?_
        refine c_seq (fun K10 hK10 => ?_)
        refine wp_region_lit ?_
        have his : pIs s = true := by simpa using g15
        have hok := is_ok his
        have hll := last_n hok.ch
        have hp6 := hok.len
        simp only [head_ok hok] at g26
        have h21 : ¬ n < s.tail.n := of_decide_eq_false g22
        have h25 : ¬ (lastE s).n < n := of_decide_eq_false g26
        rw [UInt32.lt_iff_toNat_lt] at h21 h25
        have hsub : (n - s.tail.n).toNat = n.toNat - s.tail.n.toNat := UInt32.toNat_sub_of_le _ _ (by rw [UInt32.le_iff_toNat_le]; omega)
        have hc2 : Ens G0 (l.cut 8 0 (n - s.tail.n).toNat) (s.log.take (n - s.tail.n).toNat) := by have h := hl.cut (i := 0) (j := (n - s.tail.n).toNat) (by omega) (by omega); simpa using h
        refine l_step rfl (o_val F (r_fieldAddr F rfl fld_State_3) rfl ?_); clear F a; intro a F
        refine l_step rfl (o_val F (r_load1 M F rfl (by repeat (first | exact List.mem_cons_self | apply List.mem_cons_of_mem)) sca_Entries rfl) rfl ?_); clear F a; intro a F
        refine l_step rfl (o_val F (r_move F rfl) rfl ?_); clear F a; intro a F
        refine l_step rfl (o_val F (r_fieldAddr F rfl fld_State_2) rfl ?_); clear F a; intro a F
        refine l_step rfl (o_val F (r_fieldAddr F rfl fld_Entry_1) rfl ?_); clear F a; intro a F
        refine l_step rfl (o_val F (r_load1 M F rfl (by repeat (first | exact List.mem_cons_self | apply List.mem_cons_of_mem)) sca_u32 rfl) rfl ?_); clear F a; intro a F
        refine l_step rfl (o_val F (r_sub_u32 F rfl rfl) rfl ?_); clear F a; intro a F
        refine l_step rfl (o_val F (r_slice_to F slc_Entries rfl rfl (by omega) (by show ((n - s.tail.n).toNat : Int) ≤ (l.cap : Int); omega)) rfl ?_); clear F a; intro a F
        refine l_step rfl (o_append (S := Sl.nil) M F slc_Entries app_Entry rfl rfl (Tip.nil _ _ _ _ _) (hc2.mono M.gl).rd (all_flat (fun x => rfl) _) (by show (0 + ((n - s.tail.n).toNat - 0)) * 40 ≤ _; omega) (by show 0 + ((n - s.tail.n).toNat - 0) ≤ _; omega) rfl ?_); clear F a; intro a W8 Sa Ga hga hla hna F
        have M := hga.st
        have hl2 : Ens Ga Sa (s.log.take (n - s.tail.n).toNat) := Tip.ens (by simpa using hga.tip)
        refine l_step rfl (o_val F (r_fieldAddr F rfl fld_State_3) rfl ?_); clear F a; intro a F
        refine l_step rfl (o_store1 M F rfl rfl sca_Entries rfl rfl p_State_3 (by repeat (first | exact Upd.here _ _ _ _ _ | apply Upd.there)) ?_); clear F a; intro a W9 M F
        refine l_nil ?_
        refine hK10 _ _ ?_
        refine c_seq (fun K11 hK11 => ?_)
        refine wp_region_lit ?_
        refine l_step rfl (o_val F (r_load M F rfl (by repeat (first | exact List.mem_cons_self | apply List.mem_cons_of_mem)) agg_State (seg_all rfl)) rfl ?_); clear F a; intro a F
        refine l_step rfl (o_storeA M F rfl rfl agg_State.size (by repeat (first | exact Upd.here _ _ _ _ _ | apply Upd.there)) (by rfl) (by rfl) (by rfl) ?_); clear F a; intro a W10 M F
        refine l_step rfl (o_val F (r_assign F rfl) rfl ?_); clear F a; intro a F
        refine l_nil ?_
        refine hK11 _ _ ?_
        refine wp_ret ?_
        exact ret2 Try.results41 M F (rv_cell M F rfl (by repeat (first | exact List.mem_cons_self | apply List.mem_cons_of_mem)) agg_State rfl) (rv_tmp F rfl) (⟨Sa, by rw [cut_eq hok (by omega) (by omega), ← hsub], by rw [cut_eq hok (by omega) (by omega), ← hsub]; exact hl2⟩)
theorem c_paddockref6_Tail {w : World} {G0 : Ghost} (hI : Imm G0 w) {s : PState} {l : Sl} (hl : Ens G0 l s.log) {n : UInt32} : Ret P 42 [agg (GState.enc (s.at l)), .int .u32 (n.toNat : Int)] [] w G0 (fun G W v => ∃ l', v = .tuple #[agg (GState.enc ((pTail s n).1.at l')), .int .i64 (pTail s n).2] ∧ Ens G l' (pTail s n).1.log) := by
  refine enter Try.func42 rfl Try.ntmps42 rfl rfl hI (fun a F M => ?_)
  have hlen := hl.len
  have hlen2 : (s.at l).log.len = s.log.length := hl.len
  have hmax := hl.rd.max
  have hcap := hl.rd.cap
  have hcap2 : (s.at l).log.len ≤ (s.at l).log.cap := hl.rd.cap
  refine c_seq (fun K1 hK1 => ?_)
  refine wp_region_lit ?_
  refine l_step rfl (o_box M F rfl rfl ?_); clear F a; intro a W1 b1 M F
  refine l_step rfl (o_alloc M F zer_State rfl ?_); clear F a; intro a W2 b2 M F
  refine l_step rfl (o_val F (r_assign F rfl) rfl ?_); clear F a; intro a F
  refine l_nil ?_
  refine hK1 _ _ ?_
  refine c_seq (fun K2 hK2 => ?_)
  refine wp_region_lit ?_
  refine l_step rfl (o_val F (r_load M F rfl (by repeat (first | exact List.mem_cons_self | apply List.mem_cons_of_mem)) agg_State (seg_all rfl)) rfl ?_); clear F a; intro a F
  refine l_step rfl (o_call M F rfl (c_paddockref6_Head M.imm (hl.mono M.gl)) rfl ?_); clear F a; intro a W3 v3 G3 hp3 M E3 F
  subst hp3
  refine l_step rfl (o_val F (r_move F rfl) rfl ?_); clear F a; intro a F
  refine l_step rfl (o_val F (r_extract F rfl rfl) rfl ?_); clear F a; intro a F
  refine l_step rfl (o_val F (r_extract F rfl rfl) rfl ?_); clear F a; intro a F
  refine l_step rfl (o_val F (r_assign F rfl) rfl ?_); clear F a; intro a F
  refine l_step rfl (o_val F (r_assign F rfl) rfl ?_); clear F a; intro a F
  refine l_nil ?_
  refine hK2 _ _ ?_
  refine c_seq (fun K3 hK3 => ?_)
  refine wp_block ?_
  refine c_seq (fun K4 hK4 => ?_)
  refine wp_region_lit ?_
  refine l_step rfl (o_val F (r_load M F rfl (by repeat (first | exact List.mem_cons_self | apply List.mem_cons_of_mem)) agg_State (seg_all rfl)) rfl ?_); clear F a; intro a F
  refine l_step rfl (o_call M F rfl (c_paddockref6_Is M.imm (hl.mono M.gl)) rfl ?_); clear F a; intro a W4 v4 G4 hp4 M E4 F
  subst hp4
  refine l_step rfl (o_val F (r_not F rfl) rfl ?_); clear F a; intro a F
  refine l_step rfl (o_val F (r_assign F rfl) rfl ?_); clear F a; intro a F
  refine l_nil ?_
  refine hK4 _ _ ?_
  refine c_cond F rfl (fun g13 => ?_) (fun g13 => ?_)
  · skip
    refine c_seq (fun K5 hK5 => ?_)
    refine wp_region_lit ?_
    refine l_step rfl (o_val F (r_build F rfl b_State) rfl ?_); clear F a; intro a F
    refine l_step rfl (o_storeA M F rfl rfl agg_State.size (by repeat (first | exact Upd.here _ _ _ _ _ | apply Upd.there)) (by rfl) (by rfl) (by rfl) ?_); clear F a; intro a W5 M F
    refine l_step rfl (o_val F (r_assign F rfl) rfl ?_); clear F a; intro a F
    refine l_nil ?_
    refine hK5 _ _ ?_
    refine wp_ret ?_
    exact ret2 Try.results42 M F (rv_cell M F rfl (by repeat (first | exact List.mem_cons_self | apply List.mem_cons_of_mem)) agg_State rfl) (rv_tmp F rfl) (⟨Sl.nil, by rw [pTail, if_pos (by simpa using g13)]; rfl, by rw [pTail, if_pos (by simpa using g13)]; exact Ens.nil _⟩)
  · skip
    refine c_seq (fun K6 hK6 => ?_)
    refine wp_region_lit ?_
    refine l_step rfl (o_val F (r_move F rfl) rfl ?_); clear F a; intro a F
    refine l_step rfl (o_val F (r_fieldAddr F rfl fld_State_2) rfl ?_); clear F a; intro a F
    refine l_step rfl (o_val F (r_fieldAddr F rfl fld_Entry_1) rfl ?_); clear F a; intro a F
    refine l_step rfl (o_val F (r_load1 M F rfl (by repeat (first | exact List.mem_cons_self | apply List.mem_cons_of_mem)) sca_u32 rfl) rfl ?_); clear F a; intro a F
    refine l_step rfl (o_val F (r_lss_u32 F rfl rfl) rfl ?_); clear F a; intro a F
    refine l_step rfl (o_val F (r_assign F rfl) rfl ?_); clear F a; intro a F
    refine l_nil ?_
    refine hK6 _ _ ?_
    refine c_cond F rfl (fun g18 => ?_) (fun g18 => ?_)
    · skip
      refine c_seq (fun K7 hK7 => ?_)
      refine wp_region_lit ?_
      refine l_step rfl (o_val F (r_build F rfl b_State) rfl ?_); clear F a; intro a F
      refine l_step rfl (o_storeA M F rfl rfl agg_State.size (by repeat (first | exact Upd.here _ _ _ _ _ | apply Upd.there)) (by rfl) (by rfl) (by rfl) ?_); clear F a; intro a W6 M F
      refine l_step rfl (o_val F (r_assign F rfl) rfl ?_); clear F a; intro a F
      refine l_nil ?_
      refine hK7 _ _ ?_
      refine wp_ret ?_
      exact ret2 Try.results42 M F (rv_cell M F rfl (by repeat (first | exact List.mem_cons_self | apply List.mem_cons_of_mem)) agg_State rfl) (rv_tmp F rfl) (⟨Sl.nil, by rw [pTail, if_neg (by simpa using g13), if_pos (of_decide_eq_true g18)]; rfl, by rw [pTail, if_neg (by simpa using g13), if_pos (of_decide_eq_true g18)]; exact Ens.nil _⟩)
    · skip
      refine c_seq (fun K8 hK8 => ?_)
      refine wp_region_lit ?_
      refine l_step rfl (o_val F (r_move F rfl) rfl ?_); clear F a; intro a F
      refine l_step rfl (o_val F (r_move F rfl) rfl ?_); clear F a; intro a F
      refine l_step rfl (o_val F (r_gtr_u32 F rfl rfl) rfl ?_); clear F a; intro a F
      refine l_step rfl (o_val F (r_assign F rfl) rfl ?_); clear F a; intro a F
      refine l_nil ?_
      refine hK8 _ _ ?_
      refine c_cond F rfl (fun g25 => ?_) (fun g25 => ?_)
      · skip
        refine c_seq (fun K9 hK9 => ?_)
        refine wp_region_lit ?_
        refine l_step rfl (o_val F (r_build F rfl b_State) rfl ?_); clear F a; intro a F
        refine l_step rfl (o_storeA M F rfl rfl agg_State.size (by repeat (first | exact Upd.here _ _ _ _ _ | apply Upd.there)) (by rfl) (by rfl) (by rfl) ?_); clear F a; intro a W7 M F
        refine l_step rfl (o_val F (r_assign F rfl) rfl ?_); clear F a; intro a F
        refine l_nil ?_
        refine hK9 _ _ ?_
        refine wp_ret ?_
        exact ret2 Try.results42 M F (rv_cell M F rfl (by repeat (first | exact List.mem_cons_self | apply List.mem_cons_of_mem)) agg_State rfl) (rv_tmp F rfl) (⟨Sl.nil, by rw [tail_no (by simpa using g13) (of_decide_eq_false g18) (by have his : pIs s = true := (by simpa using g13); simp only [head_ok (is_ok his)] at g25; exact of_decide_eq_true g25)]; rfl, by rw [tail_no (by simpa using g13) (of_decide_eq_false g18) (by have his : pIs s = true := (by simpa using g13); simp only [head_ok (is_ok his)] at g25; exact of_decide_eq_true g25)]; exact Ens.nil _⟩)
      · skip
        have his : pIs s = true := by simpa using g13
        have hok := is_ok his
        have hch := hok.ch
        have hll := last_n hch
        have hp6 := hok.len
        simp only [head_ok hok] at g25
        have h23 : ¬ n < s.tail.n := of_decide_eq_false g18
        have h28 : ¬ (lastE s).n < n := of_decide_eq_false g25
        rw [UInt32.lt_iff_toNat_lt] at h23 h28
        obtain ⟨kk, hkk⟩ : ∃ kk, kk = n.toNat - s.tail.n.toNat := ⟨_, rfl⟩
        refine wp_skip ?_
        refine hK3 _ _ ?_
        refine c_seq (fun K10 hK10 => ?_)
        refine wp_block ?_
        refine c_loop (fun k a W => ∃ (i : Nat) (G : Ghost) (l2 : Sl), k = kk - i ∧ i ≤ kk ∧ Frm 38 [(1, .int .u32 (n.toNat : Int)), (4, .pointer (some ⟨b2, 0, none⟩)), (2, .pointer (some ⟨b1, 0, none⟩))] a ∧ St [] w G0 W [⟨b2, 42, GState.enc ⟨0, PBase.zero, PEntry.zero, Sl.nil⟩⟩, ⟨b1, 42, ((pFolded s i).at l2).enc⟩] G ∧ (Ens G l2 (pFolded s i).log)) (kk) ?_ ?_
        · exact ⟨0, _, l, rfl, Nat.zero_le _, (F.cons (F.cons (F.cons F.nil 2 rfl) 4 rfl) 1 rfl), (by rw [folded_zero]; exact M), (by rw [folded_zero]; exact hl.mono M.gl)⟩
        · clear F M a; intro k a W hI; obtain ⟨i, G, l2, hk, hi, F, M, hf⟩ := hI
          have hl2 := hf
          have hun := folded_n hok (i := i) (by omega)
          have hfl : (pFolded s i).log.length = s.log.length - i := by rw [folded_eq]; exact List.length_drop
          refine c_seq (fun K11 hK11 => ?_)
          refine c_seq (fun K12 hK12 => ?_)
          refine wp_region_lit ?_
          refine l_step rfl (o_val F (r_fieldAddr F rfl fld_State_2) rfl ?_); clear F a; intro a F
          refine l_step rfl (o_val F (r_fieldAddr F rfl fld_Entry_1) rfl ?_); clear F a; intro a F
          refine l_step rfl (o_val F (r_load1 M F rfl (by repeat (first | exact List.mem_cons_self | apply List.mem_cons_of_mem)) sca_u32 rfl) rfl ?_); clear F a; intro a F
          refine l_step rfl (o_val F (r_move F rfl) rfl ?_); clear F a; intro a F
          refine l_step rfl (o_val F (r_lss_u32 F rfl rfl) rfl ?_); clear F a; intro a F
          refine l_nil ?_
          refine hK12 _ _ ?_
          refine c_cond F rfl (fun g34 => ?_) (fun g34 => ?_)
          · skip
            have hlt : i < kk := by have h := of_decide_eq_true g34; rw [UInt32.lt_iff_toNat_lt] at h; have h2 : (pFolded s i).tail.n.toNat < n.toNat := h; omega
            obtain ⟨x, hx⟩ := get_of (l := (pFolded s i).log) (i := 0) (by omega)
            refine wp_skip ?_
            refine hK11 _ _ ?_
            refine wp_block ?_
            refine wp_region_lit ?_
            refine l_step rfl (o_val F (r_load M F rfl (by repeat (first | exact List.mem_cons_self | apply List.mem_cons_of_mem)) agg_State (seg_all rfl)) rfl ?_); clear F a; intro a F
            refine l_step rfl (o_call M F rfl (c_paddockref6_pop M.imm hl2 hx (is_few (ok_is (ok_folded hok i))) (by omega)) rfl ?_); clear F a; intro a W8 v8 G8 hp8 M E8 F
            have hl2 := hl2.mono E8.gl
            obtain ⟨l3, rfl, hl3⟩ := hp8
            simp only [folded_folded] at F hl3
            refine l_step rfl (o_storeA M F rfl rfl agg_State.size (by repeat (first | exact Upd.here _ _ _ _ _ | apply Upd.there)) (by rfl) (by rfl) (by rfl) ?_); clear F a; intro a W9 M F
            refine l_nil ?_
            exact ⟨kk - (i + 1), by omega, i + 1, _, l3, rfl, by omega, (F.cons (F.cons (F.cons F.nil 2 rfl) 4 rfl) 1 rfl), M.drop (by repeat (first | exact List.Sublist.refl _ | apply List.Sublist.cons_cons | apply List.Sublist.cons)), hl3⟩
          · skip
            have hge : i = kk := by have h := of_decide_eq_false g34; rw [UInt32.lt_iff_toNat_lt] at h; have h2 : ¬ (pFolded s i).tail.n.toNat < n.toNat := h; omega
            refine wp_exit ?_
            refine hK10 _ _ ?_
            refine c_seq (fun K13 hK13 => ?_)
            refine wp_region_lit ?_
            refine l_step rfl (o_val F (r_load M F rfl (by repeat (first | exact List.mem_cons_self | apply List.mem_cons_of_mem)) agg_State (seg_all rfl)) rfl ?_); clear F a; intro a F
            refine l_step rfl (o_storeA M F rfl rfl agg_State.size (by repeat (first | exact Upd.here _ _ _ _ _ | apply Upd.there)) (by rfl) (by rfl) (by rfl) ?_); clear F a; intro a W10 M F
            refine l_step rfl (o_val F (r_assign F rfl) rfl ?_); clear F a; intro a F
            refine l_nil ?_
            refine hK13 _ _ ?_
            refine wp_ret ?_
            exact ret2 Try.results42 M F (rv_cell M F rfl (by repeat (first | exact List.mem_cons_self | apply List.mem_cons_of_mem)) agg_State rfl) (rv_tmp F rfl) (⟨l2, by rw [tail_eq hok (by omega) (by omega), ← hkk, ← hge], by rw [tail_eq hok (by omega) (by omega), ← hkk, ← hge]; exact hl2⟩)
theorem c_paddockref6_Same {w : World} {G0 : Ghost} (hI : Imm G0 w) {s t : PState} {l l1 : Sl} (hl : Ens G0 l s.log) (hl1 : Ens G0 l1 t.log) : Ret P 38 [agg (GState.enc (s.at l)), agg (GState.enc (t.at l1))] [] w G0 (fun G W v => v = .bool (decide (s = t))) := by
  refine enter Try.func38 rfl Try.ntmps38 rfl rfl hI (fun a F M => ?_)
  have hlen : (s.at l).log.len = s.log.length := hl.len
  have hlen1 : (t.at l1).log.len = t.log.length := hl1.len
  have hlen0 := hl.len
  have hmax := hl.rd.max
  have hcap := hl.rd.cap
  refine c_seq (fun K1 hK1 => ?_)
  refine wp_region_lit ?_
  refine l_step rfl (o_box M F rfl rfl ?_); clear F a; intro a W1 b1 M F
  refine l_step rfl (o_box M F rfl rfl ?_); clear F a; intro a W2 b2 M F
  refine l_step rfl (o_val F (r_assign F rfl) rfl ?_); clear F a; intro a F
  refine l_nil ?_
  refine hK1 _ _ ?_
  refine c_seq (fun K2 hK2 => ?_)
  refine c_seq (fun K3 hK3 => ?_)
  refine wp_region_lit ?_
  refine l_step rfl (o_val F (r_fieldAddr F rfl fld_State_0) rfl ?_); clear F a; intro a F
  refine l_step rfl (o_val F (r_load1 M F rfl (by repeat (first | exact List.mem_cons_self | apply List.mem_cons_of_mem)) sca_u32 rfl) rfl ?_); clear F a; intro a F
  refine l_step rfl (o_val F (r_fieldAddr F rfl fld_State_0) rfl ?_); clear F a; intro a F
  refine l_step rfl (o_val F (r_load1 M F rfl (by repeat (first | exact List.mem_cons_self | apply List.mem_cons_of_mem)) sca_u32 rfl) rfl ?_); clear F a; intro a F
  refine l_step rfl (o_val F (r_neq_u32 F rfl rfl) rfl ?_); clear F a; intro a F
  refine l_step rfl (o_val F (r_move F rfl) rfl ?_); clear F a; intro a F
  refine c_split F (i := 11) rfl (fun g11 => ?_) (fun g11 => ?_)
  · skip
    iterate 5 (refine l_skip F rfl rfl rfl g11 rfl rfl ?_; clear F a; intro a F)
    refine l_step rfl (o_val F (r_pick_t F rfl g11 rfl) rfl ?_); clear F a; intro a F
    refine l_step rfl (o_val F (r_move F rfl) rfl ?_); clear F a; intro a F
    iterate 5 (refine l_skip F rfl rfl rfl rfl rfl rfl ?_; clear F a; intro a F)
    refine l_step rfl (o_val F (r_pick_t F rfl rfl rfl) rfl ?_); clear F a; intro a F
    refine l_step rfl (o_val F (r_move F rfl) rfl ?_); clear F a; intro a F
    iterate 7 (refine l_skip F rfl rfl rfl rfl rfl rfl ?_; clear F a; intro a F)
    refine l_step rfl (o_val F (r_pick_t F rfl rfl rfl) rfl ?_); clear F a; intro a F
    refine l_nil ?_
    refine hK3 _ _ ?_
    refine c_true F rfl rfl ?_
    refine c_seq (fun K4 hK4 => ?_)
    refine wp_region_lit ?_
    refine l_step rfl (o_val F (r_assign F rfl) rfl ?_); clear F a; intro a F
    refine l_nil ?_
    refine hK4 _ _ ?_
    refine wp_ret ?_
    exact ret1 Try.results38 M F (rv_tmp F rfl) (by have hst : ¬ s = t := (fun h => by { subst h; first | (simp at g11; done) | (simp at g18; done) | (simp at g25; done) | (have h3 := g33; rw [hlen, hlen1] at h3; simp at h3; done) | (rw [hx] at hy; injection hy with hy; simp [hy] at g51) }); simp [hst])
  · skip
    refine l_guard F rfl rfl rfl g11 (o_val F (r_fieldAddr F rfl fld_State_1) rfl ?_); clear F a; intro a F
    refine l_guard F rfl rfl rfl g11 (o_val F (r_load M F rfl (by repeat (first | exact List.mem_cons_self | apply List.mem_cons_of_mem)) agg_Base g_State_1) rfl ?_); clear F a; intro a F
    refine l_guard F rfl rfl rfl g11 (o_val F (r_fieldAddr F rfl fld_State_1) rfl ?_); clear F a; intro a F
    refine l_guard F rfl rfl rfl g11 (o_val F (r_load M F rfl (by repeat (first | exact List.mem_cons_self | apply List.mem_cons_of_mem)) agg_Base g_State_1) rfl ?_); clear F a; intro a F
    refine l_guard F rfl rfl rfl g11 (o_val F (r_neq_Base F rfl rfl) rfl ?_); clear F a; intro a F
    refine l_step rfl (o_val F (r_pick_f F rfl g11 rfl) rfl ?_); clear F a; intro a F
    refine l_step rfl (o_val F (r_move F rfl) rfl ?_); clear F a; intro a F
    refine c_split F (i := 18) rfl (fun g18 => ?_) (fun g18 => ?_)
    · skip
      iterate 5 (refine l_skip F rfl rfl rfl g18 rfl rfl ?_; clear F a; intro a F)
      refine l_step rfl (o_val F (r_pick_t F rfl g18 rfl) rfl ?_); clear F a; intro a F
      refine l_step rfl (o_val F (r_move F rfl) rfl ?_); clear F a; intro a F
      iterate 7 (refine l_skip F rfl rfl rfl rfl rfl rfl ?_; clear F a; intro a F)
      refine l_step rfl (o_val F (r_pick_t F rfl rfl rfl) rfl ?_); clear F a; intro a F
      refine l_nil ?_
      refine hK3 _ _ ?_
      refine c_true F rfl rfl ?_
      refine c_seq (fun K5 hK5 => ?_)
      refine wp_region_lit ?_
      refine l_step rfl (o_val F (r_assign F rfl) rfl ?_); clear F a; intro a F
      refine l_nil ?_
      refine hK5 _ _ ?_
      refine wp_ret ?_
      exact ret1 Try.results38 M F (rv_tmp F rfl) (by have hst : ¬ s = t := (fun h => by { subst h; first | (simp at g11; done) | (simp at g18; done) | (simp at g25; done) | (have h3 := g33; rw [hlen, hlen1] at h3; simp at h3; done) | (rw [hx] at hy; injection hy with hy; simp [hy] at g51) }); simp [hst])
    · skip
      refine l_guard F rfl rfl rfl g18 (o_val F (r_fieldAddr F rfl fld_State_2) rfl ?_); clear F a; intro a F
      refine l_guard F rfl rfl rfl g18 (o_val F (r_load M F rfl (by repeat (first | exact List.mem_cons_self | apply List.mem_cons_of_mem)) agg_Entry g_State_2) rfl ?_); clear F a; intro a F
      refine l_guard F rfl rfl rfl g18 (o_val F (r_fieldAddr F rfl fld_State_2) rfl ?_); clear F a; intro a F
      refine l_guard F rfl rfl rfl g18 (o_val F (r_load M F rfl (by repeat (first | exact List.mem_cons_self | apply List.mem_cons_of_mem)) agg_Entry g_State_2) rfl ?_); clear F a; intro a F
      refine l_guard F rfl rfl rfl g18 (o_val F (r_neq_Entry F rfl rfl) rfl ?_); clear F a; intro a F
      refine l_step rfl (o_val F (r_pick_f F rfl g18 rfl) rfl ?_); clear F a; intro a F
      refine l_step rfl (o_val F (r_move F rfl) rfl ?_); clear F a; intro a F
      refine c_split F (i := 25) rfl (fun g25 => ?_) (fun g25 => ?_)
      · skip
        iterate 7 (refine l_skip F rfl rfl rfl g25 rfl rfl ?_; clear F a; intro a F)
        refine l_step rfl (o_val F (r_pick_t F rfl g25 rfl) rfl ?_); clear F a; intro a F
        refine l_nil ?_
        refine hK3 _ _ ?_
        refine c_true F rfl rfl ?_
        refine c_seq (fun K6 hK6 => ?_)
        refine wp_region_lit ?_
        refine l_step rfl (o_val F (r_assign F rfl) rfl ?_); clear F a; intro a F
        refine l_nil ?_
        refine hK6 _ _ ?_
        refine wp_ret ?_
        exact ret1 Try.results38 M F (rv_tmp F rfl) (by have hst : ¬ s = t := (fun h => by { subst h; first | (simp at g11; done) | (simp at g18; done) | (simp at g25; done) | (have h3 := g33; rw [hlen, hlen1] at h3; simp at h3; done) | (rw [hx] at hy; injection hy with hy; simp [hy] at g51) }); simp [hst])
      · skip
        refine l_guard F rfl rfl rfl g25 (o_val F (r_fieldAddr F rfl fld_State_3) rfl ?_); clear F a; intro a F
        refine l_guard F rfl rfl rfl g25 (o_val F (r_load1 M F rfl (by repeat (first | exact List.mem_cons_self | apply List.mem_cons_of_mem)) sca_Entries rfl) rfl ?_); clear F a; intro a F
        refine l_guard F rfl rfl rfl g25 (o_val F (r_len_slice F slc_Entries.und rfl) rfl ?_); clear F a; intro a F
        refine l_guard F rfl rfl rfl g25 (o_val F (r_fieldAddr F rfl fld_State_3) rfl ?_); clear F a; intro a F
        refine l_guard F rfl rfl rfl g25 (o_val F (r_load1 M F rfl (by repeat (first | exact List.mem_cons_self | apply List.mem_cons_of_mem)) sca_Entries rfl) rfl ?_); clear F a; intro a F
        refine l_guard F rfl rfl rfl g25 (o_val F (r_len_slice F slc_Entries.und rfl) rfl ?_); clear F a; intro a F
        refine l_guard F rfl rfl rfl g25 (o_val F (r_neq_i64 F rfl rfl) rfl ?_); clear F a; intro a F
        refine l_step rfl (o_val F (r_pick_f F rfl g25 rfl) rfl ?_); clear F a; intro a F
        refine l_nil ?_
        refine hK3 _ _ ?_
        refine c_cond F rfl (fun g33 => ?_) (fun g33 => ?_)
        · skip
          refine c_seq (fun K7 hK7 => ?_)
          refine wp_region_lit ?_
          refine l_step rfl (o_val F (r_assign F rfl) rfl ?_); clear F a; intro a F
          refine l_nil ?_
          refine hK7 _ _ ?_
          refine wp_ret ?_
          exact ret1 Try.results38 M F (rv_tmp F rfl) (by have hst : ¬ s = t := (fun h => by { subst h; first | (simp at g11; done) | (simp at g18; done) | (simp at g25; done) | (have h3 := g33; rw [hlen, hlen1] at h3; simp at h3; done) | (rw [hx] at hy; injection hy with hy; simp [hy] at g51) }); simp [hst])
        · skip
          refine wp_skip ?_
          refine hK2 _ _ ?_
          refine c_seq (fun K8 hK8 => ?_)
          refine c_seq (fun K9 hK9 => ?_)
          refine wp_region_lit ?_
          refine l_step rfl (o_val F (r_assign F rfl) rfl ?_); clear F a; intro a F
          refine l_nil ?_
          refine hK9 _ _ ?_
          refine wp_block ?_
          have heq : s.log.length = t.log.length := by have h := g33; rw [hlen, hlen1] at h; have h2 : (s.log.length : Int) = t.log.length := (by simpa using h); omega
          refine c_loop (fun k a W => ∃ (i : Nat) (G : Ghost) , k = s.log.length - i ∧ i ≤ s.log.length ∧ Frm 52 [(5, .int .i64 (i : Int)), (3, .pointer (some ⟨b2, 0, none⟩)), (2, .pointer (some ⟨b1, 0, none⟩))] a ∧ St [] w G0 W [⟨b2, 42, (t.at l1).enc⟩, ⟨b1, 42, (s.at l).enc⟩] G ∧ (s.log.take i = t.log.take i)) (s.log.length) ?_ ?_
          · exact ⟨0, _, rfl, Nat.zero_le _, (F.cons (F.cons (F.cons F.nil 2 rfl) 3 rfl) 5 rfl), M, rfl⟩
          · clear F M a; intro k a W hI; obtain ⟨i, G, hk, hi, F, M, hf⟩ := hI
            refine c_seq (fun K10 hK10 => ?_)
            refine c_seq (fun K11 hK11 => ?_)
            refine wp_region_lit ?_
            skip
            refine l_step rfl (o_val F (r_move F rfl) rfl ?_); clear F a; intro a F
            refine l_step rfl (o_val F (r_fieldAddr F rfl fld_State_3) rfl ?_); clear F a; intro a F
            refine l_step rfl (o_val F (r_load1 M F rfl (by repeat (first | exact List.mem_cons_self | apply List.mem_cons_of_mem)) sca_Entries rfl) rfl ?_); clear F a; intro a F
            refine l_step rfl (o_val F (r_len_slice F slc_Entries.und rfl) rfl ?_); clear F a; intro a F
            refine l_step rfl (o_val F (r_lss_i64 F rfl rfl) rfl ?_); clear F a; intro a F
            refine l_nil ?_
            refine hK11 _ _ ?_
            refine c_cond F rfl (fun g38 => ?_) (fun g38 => ?_)
            · skip
              have hlt : i < s.log.length := by have h := of_decide_eq_true g38; omega
              obtain ⟨x, hx⟩ := get_of hlt
              obtain ⟨y, hy⟩ := get_of (heq ▸ hlt)
              refine wp_skip ?_
              refine hK10 _ _ ?_
              refine c_seq (fun K12 hK12 => ?_)
              refine wp_block ?_
              refine c_seq (fun K13 hK13 => ?_)
              refine c_drawM M [] mixed (fun M => ?_)
              have Ms := M
              have hq1 := Keeps.here M
              have hle1 := M.gle
              obtain ⟨eb, eo, er, ha44, hG44, hS44⟩ := (hl.mono Ms.gl).elem hx
              obtain ⟨eb1, eo1, er1, ha49, hG49, hS49⟩ := (hl1.mono Ms.gl).elem hy
              refine t_take (i := 0) F rfl rfl hq1 (fun _ _ => r_fieldAddr F rfl fld_State_3) (fun _ _ _ h => h) (by kernel_rfl) (by kernel_rfl) (by kernel_rfl) (by kernel_rfl) ?_; clear F a; intro a F
              refine t_take (i := 1) F rfl rfl hq1 (fun _ ⟨_, _, M'⟩ => r_load1 M' F rfl (by repeat (first | exact List.mem_cons_self | apply List.mem_cons_of_mem)) sca_Entries rfl) (fun _ _ _ h => h) (by kernel_rfl) (by kernel_rfl) (by kernel_rfl) (by kernel_rfl) ?_; clear F a; intro a F
              refine t_take (i := 2) F rfl rfl hq1 (fun _ _ => r_move F rfl) (fun _ _ _ h => h) (by kernel_rfl) (by kernel_rfl) (by kernel_rfl) (by kernel_rfl) ?_; clear F a; intro a F
              refine t_take (i := 3) F rfl rfl hq1 (fun _ _ => r_indexSl F rfl rfl slc_Entries ha44 (by omega) (by omega)) (fun _ _ _ h => h) (by kernel_rfl) (by kernel_rfl) (by kernel_rfl) (by kernel_rfl) ?_; clear F a; intro a F
              refine t_take (i := 4) F rfl rfl hq1 (fun _ ⟨_, hg, M'⟩ => r_loadrG hg M' F rfl hG44 agg_Entry hS44) (fun _ _ _ h => h) (by kernel_rfl) (by kernel_rfl) (by kernel_rfl) (by kernel_rfl) ?_; clear F a; intro a F
              refine t_take (i := 5) F rfl rfl hq1 (fun _ _ => r_fieldAddr F rfl fld_State_3) (fun _ _ _ h => h) (by kernel_rfl) (by kernel_rfl) (by kernel_rfl) (by kernel_rfl) ?_; clear F a; intro a F
              refine t_take (i := 6) F rfl rfl hq1 (fun _ ⟨_, _, M'⟩ => r_load1 M' F rfl (by repeat (first | exact List.mem_cons_self | apply List.mem_cons_of_mem)) sca_Entries rfl) (fun _ _ _ h => h) (by kernel_rfl) (by kernel_rfl) (by kernel_rfl) (by kernel_rfl) ?_; clear F a; intro a F
              refine t_take (i := 7) F rfl rfl hq1 (fun _ _ => r_move F rfl) (fun _ _ _ h => h) (by kernel_rfl) (by kernel_rfl) (by kernel_rfl) (by kernel_rfl) ?_; clear F a; intro a F
              refine t_take (i := 8) F rfl rfl hq1 (fun _ _ => r_indexSl F rfl rfl slc_Entries ha49 (by omega) (by omega)) (fun _ _ _ h => h) (by kernel_rfl) (by kernel_rfl) (by kernel_rfl) (by kernel_rfl) ?_; clear F a; intro a F
              refine t_take (i := 9) F rfl rfl hq1 (fun _ ⟨_, hg, M'⟩ => r_loadrG hg M' F rfl hG49 agg_Entry hS49) (fun _ _ _ h => h) (by kernel_rfl) (by kernel_rfl) (by kernel_rfl) (by kernel_rfl) ?_; clear F a; intro a F
              refine t_take (i := 10) F rfl rfl hq1 (fun _ _ => r_neq_Entry F rfl rfl) (fun _ _ _ h => h) (by kernel_rfl) (by kernel_rfl) (by kernel_rfl) (by kernel_rfl) ?_; clear F a; intro a F
              refine t_done (by kernel_rfl) ?_ _
              refine hK13 _ _ ?_
              refine c_cond F rfl (fun g51 => ?_) (fun g51 => ?_)
              · skip
                refine c_seq (fun K14 hK14 => ?_)
                refine wp_region_lit ?_
                refine l_step rfl (o_val F (r_assign F rfl) rfl ?_); clear F a; intro a F
                refine l_nil ?_
                refine hK14 _ _ ?_
                refine wp_ret ?_
                exact ret1 Try.results38 M F (rv_tmp F rfl) (by have hst : ¬ s = t := (fun h => by { subst h; first | (simp at g11; done) | (simp at g18; done) | (simp at g25; done) | (have h3 := g33; rw [hlen, hlen1] at h3; simp at h3; done) | (rw [hx] at hy; injection hy with hy; simp [hy] at g51) }); simp [hst])
              · skip
                refine wp_skip ?_
                refine hK12 _ _ ?_
                refine wp_region_lit ?_
                refine l_step rfl (o_val F (r_move F rfl) rfl ?_); clear F a; intro a F
                refine l_step rfl (o_val F (r_add_i64 F rfl rfl (by omega)) rfl ?_); clear F a; intro a F
                refine l_step rfl (o_val F (r_assign F rfl) rfl ?_); clear F a; intro a F
                refine l_nil ?_
                exact ⟨s.log.length - (i + 1), by omega, i + 1, _, rfl, by omega, (F.cons (F.cons (F.cons F.nil 2 rfl) 3 rfl) 5 rfl), M.drop (by repeat (first | exact List.Sublist.refl _ | apply List.Sublist.cons_cons | apply List.Sublist.cons)), (by rw [take_of hx, take_of hy, hf, (by simpa using g51 : x = y)])⟩
            · skip
              have hge : i = s.log.length := by have h := of_decide_eq_false g38; omega
              rw [hge, List.take_length, heq, List.take_length] at hf
              refine wp_exit ?_
              refine hK8 _ _ ?_
              refine c_seq (fun K15 hK15 => ?_)
              refine wp_region_lit ?_
              refine l_step rfl (o_val F (r_assign F rfl) rfl ?_); clear F a; intro a F
              refine l_nil ?_
              refine hK15 _ _ ?_
              refine wp_ret ?_
              exact ret1 Try.results38 M F (rv_tmp F rfl) (by have hst : s = t := (by { obtain ⟨a, b, c, d⟩ := s; obtain ⟨a1, b1, c1, d1⟩ := t; simp only [PState.mk.injEq]; exact ⟨by simpa using g11, by simpa using g18, by simpa using g25, hf⟩ }); simp [hst])
theorem c_paddockref6_Find {w : World} {G0 : Ghost} (hI : Imm G0 w) {s : PState} {l : Sl} (hl : Ens G0 l s.log) {n : UInt32} : Ret P 44 [agg (GState.enc (s.at l)), .int .u32 (n.toNat : Int)] [] w G0 (fun G W v => v = .tuple #[agg (pFind s n).1.enc, .bool (pFind s n).2]) := by
  refine enter Try.func44 rfl Try.ntmps44 rfl rfl hI (fun a F M => ?_)
  have hlen := hl.len
  have hlen2 : (s.at l).log.len = s.log.length := hl.len
  have hmax := hl.rd.max
  have hcap := hl.rd.cap
  have hcap2 : (s.at l).log.len ≤ (s.at l).log.cap := hl.rd.cap
  refine c_seq (fun K1 hK1 => ?_)
  refine wp_region_lit ?_
  refine l_step rfl (o_box M F rfl rfl ?_); clear F a; intro a W1 b1 M F
  refine l_step rfl (o_alloc M F zer_Entry rfl ?_); clear F a; intro a W2 b2 M F
  refine l_step rfl (o_val F (r_assign F rfl) rfl ?_); clear F a; intro a F
  refine l_nil ?_
  refine hK1 _ _ ?_
  refine c_seq (fun K2 hK2 => ?_)
  refine c_seq (fun K3 hK3 => ?_)
  refine wp_region_lit ?_
  refine l_step rfl (o_val F (r_assign F rfl) rfl ?_); clear F a; intro a F
  refine l_nil ?_
  refine hK3 _ _ ?_
  refine wp_block ?_
  refine c_loop (fun k a W => ∃ (i : Nat) (G : Ghost) , k = s.log.length - i ∧ i ≤ s.log.length ∧ Frm 32 [(6, .int .i64 (i : Int)), (1, .int .u32 (n.toNat : Int)), (4, .pointer (some ⟨b2, 0, none⟩)), (2, .pointer (some ⟨b1, 0, none⟩))] a ∧ St [] w G0 W [⟨b2, 39, PEntry.zero.enc⟩, ⟨b1, 42, (s.at l).enc⟩] G ∧ (∀ j e, j < i → s.log[j]? = some e → ¬ e.n = n)) (s.log.length) ?_ ?_
  · exact ⟨0, _, rfl, Nat.zero_le _, (F.cons (F.cons (F.cons (F.cons F.nil 2 rfl) 4 rfl) 1 rfl) 6 rfl), M, (fun j e h => absurd h (by omega))⟩
  · clear F M a; intro k a W hI; obtain ⟨i, G, hk, hi, F, M, hf⟩ := hI
    refine c_seq (fun K4 hK4 => ?_)
    refine c_seq (fun K5 hK5 => ?_)
    refine wp_region_lit ?_
    refine l_step rfl (o_val F (r_move F rfl) rfl ?_); clear F a; intro a F
    refine l_step rfl (o_val F (r_fieldAddr F rfl fld_State_3) rfl ?_); clear F a; intro a F
    refine l_step rfl (o_val F (r_load1 M F rfl (by repeat (first | exact List.mem_cons_self | apply List.mem_cons_of_mem)) sca_Entries rfl) rfl ?_); clear F a; intro a F
    refine l_step rfl (o_val F (r_len_slice F slc_Entries.und rfl) rfl ?_); clear F a; intro a F
    refine l_step rfl (o_val F (r_lss_i64 F rfl rfl) rfl ?_); clear F a; intro a F
    refine l_step rfl (o_val F (r_move F rfl) rfl ?_); clear F a; intro a F
    refine c_split F (i := 12) rfl (fun g12 => ?_) (fun g12 => ?_)
    · skip
      refine l_guard F rfl rfl rfl g12 (o_val F (r_load M F rfl (by repeat (first | exact List.mem_cons_self | apply List.mem_cons_of_mem)) agg_State (seg_all rfl)) rfl ?_); clear F a; intro a F
      refine l_guard F rfl rfl rfl g12 (o_call M F rfl (c_paddockref6_Is M.imm (hl.mono M.gl)) rfl ?_); clear F a; intro a W3 v3 G3 hp3 M E3 F
      subst hp3
      refine l_step rfl (o_val F (r_pick_t F rfl g12 rfl) rfl ?_); clear F a; intro a F
      refine l_nil ?_
      refine hK5 _ _ ?_
      refine c_cond F rfl (fun g15 => ?_) (fun g15 => ?_)
      · skip
        refine wp_skip ?_
        refine hK4 _ _ ?_
        refine c_seq (fun K6 hK6 => ?_)
        refine wp_block ?_
        refine c_seq (fun K7 hK7 => ?_)
        refine wp_region_lit ?_
        refine l_step rfl (o_val F (r_fieldAddr F rfl fld_State_3) rfl ?_); clear F a; intro a F
        refine l_step rfl (o_val F (r_load1 M F rfl (by repeat (first | exact List.mem_cons_self | apply List.mem_cons_of_mem)) sca_Entries rfl) rfl ?_); clear F a; intro a F
        refine l_step rfl (o_val F (r_move F rfl) rfl ?_); clear F a; intro a F
        have his : pIs s = true := g15
        have hok := is_ok his
        have hlt : i < s.log.length := by have h := of_decide_eq_true g12; omega
        obtain ⟨x, hx⟩ := get_of hlt
        obtain ⟨eb, eo, er, ha21, hG21, hS21⟩ := (hl.mono M.gl).elem hx
        have ha29 := ha21
        have hG29 := hG21
        have hS29 := hS21
        refine l_step rfl (o_val F (r_indexSl F rfl rfl slc_Entries ha21 (by omega) (by omega)) rfl ?_); clear F a; intro a F
        refine l_step rfl (o_val F (r_fieldAddr F rfl fld_Entry_1) rfl ?_); clear F a; intro a F
        refine l_step rfl (o_val F (r_loadr1 M F rfl hG21 sca_u32 (hS21.get rfl)) rfl ?_); clear F a; intro a F
        refine l_step rfl (o_val F (r_move F rfl) rfl ?_); clear F a; intro a F
        refine l_step rfl (o_val F (r_eql_u32 F rfl rfl) rfl ?_); clear F a; intro a F
        refine l_nil ?_
        refine hK7 _ _ ?_
        refine c_cond F rfl (fun g25 => ?_) (fun g25 => ?_)
        · skip
          refine c_seq (fun K8 hK8 => ?_)
          refine wp_region_lit ?_
          refine l_step rfl (o_val F (r_fieldAddr F rfl fld_State_3) rfl ?_); clear F a; intro a F
          refine l_step rfl (o_val F (r_load1 M F rfl (by repeat (first | exact List.mem_cons_self | apply List.mem_cons_of_mem)) sca_Entries rfl) rfl ?_); clear F a; intro a F
          refine l_step rfl (o_val F (r_move F rfl) rfl ?_); clear F a; intro a F
          refine l_step rfl (o_val F (r_indexSl F rfl rfl slc_Entries ha29 (by omega) (by omega)) rfl ?_); clear F a; intro a F
          refine l_step rfl (o_val F (r_loadr M F rfl hG29 agg_Entry hS29) rfl ?_); clear F a; intro a F
          refine l_step rfl (o_storeA M F rfl rfl agg_Entry.size (by repeat (first | exact Upd.here _ _ _ _ _ | apply Upd.there)) (by rfl) (by rfl) (by rfl) ?_); clear F a; intro a W4 M F
          refine l_step rfl (o_val F (r_assign F rfl) rfl ?_); clear F a; intro a F
          refine l_nil ?_
          refine hK8 _ _ ?_
          refine wp_ret ?_
          exact ret2 Try.results44 M F (rv_cell M F rfl (by repeat (first | exact List.mem_cons_self | apply List.mem_cons_of_mem)) agg_Entry rfl) (rv_tmp F rfl) (by have h25 : x.n = n := (by simpa using g25); rw [← h25, find_at hok hx])
        · skip
          refine wp_skip ?_
          refine hK6 _ _ ?_
          refine wp_region_lit ?_
          refine l_step rfl (o_val F (r_move F rfl) rfl ?_); clear F a; intro a F
          refine l_step rfl (o_val F (r_add_i64 F rfl rfl (by omega)) rfl ?_); clear F a; intro a F
          refine l_step rfl (o_val F (r_assign F rfl) rfl ?_); clear F a; intro a F
          refine l_nil ?_
          exact ⟨s.log.length - (i + 1), by omega, i + 1, _, rfl, by omega, (F.cons (F.cons (F.cons (F.cons F.nil 2 rfl) 4 rfl) 1 rfl) 6 rfl), M.drop (by repeat (first | exact List.Sublist.refl _ | apply List.Sublist.cons_cons | apply List.Sublist.cons)), (fun j e h hj => by rcases Nat.lt_succ_iff_lt_or_eq.1 h with h | h; exact hf j e h hj; subst h; rw [hx] at hj; injection hj with hj; subst hj; simpa using g25)⟩
      · skip
        refine wp_exit ?_
        refine hK2 _ _ ?_
        refine c_seq (fun K9 hK9 => ?_)
        refine wp_region_lit ?_
        refine l_step rfl (o_val F (r_build F rfl b_Entry) rfl ?_); clear F a; intro a F
        refine l_step rfl (o_storeA M F rfl rfl agg_Entry.size (by repeat (first | exact Upd.here _ _ _ _ _ | apply Upd.there)) (by rfl) (by rfl) (by rfl) ?_); clear F a; intro a W5 M F
        refine l_step rfl (o_val F (r_assign F rfl) rfl ?_); clear F a; intro a F
        refine l_nil ?_
        refine hK9 _ _ ?_
        refine wp_ret ?_
        exact ret2 Try.results44 M F (rv_cell M F rfl (by repeat (first | exact List.mem_cons_self | apply List.mem_cons_of_mem)) agg_Entry rfl) (rv_tmp F rfl) (by first | (rw [find_none g15]; rfl) | (have hge : ¬ i < s.log.length := (by have h := of_decide_eq_false g12; omega); by_cases hi : pIs s = true; (rw [find_no (is_ok hi) (fun j e hj => hf j e (by have := (List.getElem?_eq_some_iff.1 hj).1; omega) hj)]; rfl); (rw [find_none (by simpa using hi)]; rfl)))
    · skip
      iterate 2 (refine l_skip F rfl rfl rfl g12 rfl rfl ?_; clear F a; intro a F)
      refine l_step rfl (o_val F (r_pick_f F rfl g12 rfl) rfl ?_); clear F a; intro a F
      refine l_nil ?_
      refine hK5 _ _ ?_
      refine c_false F rfl rfl ?_
      refine wp_exit ?_
      refine hK2 _ _ ?_
      refine c_seq (fun K10 hK10 => ?_)
      refine wp_region_lit ?_
      refine l_step rfl (o_val F (r_build F rfl b_Entry) rfl ?_); clear F a; intro a F
      refine l_step rfl (o_storeA M F rfl rfl agg_Entry.size (by repeat (first | exact Upd.here _ _ _ _ _ | apply Upd.there)) (by rfl) (by rfl) (by rfl) ?_); clear F a; intro a W6 M F
      refine l_step rfl (o_val F (r_assign F rfl) rfl ?_); clear F a; intro a F
      refine l_nil ?_
      refine hK10 _ _ ?_
      refine wp_ret ?_
      exact ret2 Try.results44 M F (rv_cell M F rfl (by repeat (first | exact List.mem_cons_self | apply List.mem_cons_of_mem)) agg_Entry rfl) (rv_tmp F rfl) (by first | (rw [find_none g15]; rfl) | (have hge : ¬ i < s.log.length := (by have h := of_decide_eq_false g12; omega); by_cases hi : pIs s = true; (rw [find_no (is_ok hi) (fun j e hj => hf j e (by have := (List.getElem?_eq_some_iff.1 hj).1; omega) hj)]; rfl); (rw [find_none (by simpa using hi)]; rfl)))
end Go.Proofs.Ytfkmaepcjognkaa.Pad
