/- Walks: what makes one state of another; what a state becomes. The objects' bytes are few, the logs short. -/
import Derived.Test.YtfkmaepcjognkaaMerge
namespace Go.Proofs.Ytfkmaepcjognkaa.Pad
open Go Go.Proofs
set_option linter.unusedVariables false
set_option maxRecDepth 8000
set_option linter.unusedSimpArgs false
theorem c_merge_Make {w : World} {G0 : Ghost} (hI : Imm G0 w) {s t : PState} {l l1 : Sl} (hl : Ens G0 l s.log) (hl1 : Ens G0 l1 t.log) : Ret P 51 [agg (GState.enc (s.at l)), agg (GState.enc (t.at l1))] [] w G0 (fun G W v => ∃ l l2, v = agg (GDiff.enc ((pMake s t).at l l2)) ∧ Ens G l (pMake s t).log ∧ Ens G l2 (pMake s t).whole.log) := by
  refine enter Try.func51 rfl Try.ntmps51 rfl rfl hI (fun a F M => ?_)
  refine c_seq (fun K1 hK1 => ?_)
  refine wp_region_lit ?_
  refine l_step rfl (o_box M F rfl rfl ?_); clear F a; intro a W1 b1 M F
  refine l_step rfl (o_box M F rfl rfl ?_); clear F a; intro a W2 b2 M F
  refine l_step rfl (o_alloc M F zer_Diff rfl ?_); clear F a; intro a W3 b3 M F
  refine l_nil ?_
  refine hK1 _ _ ?_
  refine c_seq (fun K2 hK2 => ?_)
  refine c_seq (fun K3 hK3 => ?_)
  refine wp_region_lit ?_
  refine l_step rfl (o_val F (r_load M F rfl (by repeat (first | exact List.mem_cons_self | apply List.mem_cons_of_mem)) agg_State (seg_all rfl)) rfl ?_); clear F a; intro a F
  refine l_step rfl (o_call M F rfl (c_pglog_Is M.imm (hl.mono M.gl)) rfl ?_); clear F a; intro a W4 v4 G4 hp4 M E4 F
  subst hp4
  refine l_step rfl (o_val F (r_not F rfl) rfl ?_); clear F a; intro a F
  refine l_step rfl (o_val F (r_move F rfl) rfl ?_); clear F a; intro a F
  refine c_split F (i := 10) rfl (fun g10 => ?_) (fun g10 => ?_)
  · skip
    iterate 3 (refine l_skip F rfl rfl rfl g10 rfl rfl ?_; clear F a; intro a F)
    refine l_step rfl (o_val F (r_pick_t F rfl g10 rfl) rfl ?_); clear F a; intro a F
    refine l_nil ?_
    refine hK3 _ _ ?_
    refine c_true F rfl rfl ?_
    refine c_seq (fun K4 hK4 => ?_)
    refine wp_region_lit ?_
    refine l_step rfl (o_val F (r_build F rfl b_Diff) rfl ?_); clear F a; intro a F
    refine l_step rfl (o_storeA M F rfl rfl agg_Diff.size (by repeat (first | exact Upd.here _ _ _ _ _ | apply Upd.there)) (by rfl) (by rfl) (by rfl) ?_); clear F a; intro a W5 M F
    refine l_nil ?_
    refine hK4 _ _ ?_
    refine wp_ret ?_
    exact ret1 Try.results51 M F (rv_cell M F rfl (by repeat (first | exact List.mem_cons_self | apply List.mem_cons_of_mem)) agg_Diff rfl) (⟨Sl.nil, Sl.nil, by clear hI M F hK1 hK2 hK3 hK4; simp_all [pMake, PDiff.zero, PState.zero], by clear hI M F hK1 hK2 hK3 hK4; simp_all [pMake, PDiff.zero, PState.zero]; exact Ens.nil _, by clear hI M F hK1 hK2 hK3 hK4; simp_all [pMake, PDiff.zero, PState.zero]; exact Ens.nil _⟩)
  · skip
    refine l_guard F rfl rfl rfl g10 (o_val F (r_load M F rfl (by repeat (first | exact List.mem_cons_self | apply List.mem_cons_of_mem)) agg_State (seg_all rfl)) rfl ?_); clear F a; intro a F
    refine l_guard F rfl rfl rfl g10 (o_call M F rfl (c_pglog_Is M.imm (hl1.mono M.gl)) rfl ?_); clear F a; intro a W6 v6 G6 hp6 M E6 F
    subst hp6
    refine l_guard F rfl rfl rfl g10 (o_val F (r_not F rfl) rfl ?_); clear F a; intro a F
    refine l_step rfl (o_val F (r_pick_f F rfl g10 rfl) rfl ?_); clear F a; intro a F
    refine l_nil ?_
    refine hK3 _ _ ?_
    refine c_cond F rfl (fun g14 => ?_) (fun g14 => ?_)
    · skip
      refine c_seq (fun K5 hK5 => ?_)
      refine wp_region_lit ?_
      refine l_step rfl (o_val F (r_build F rfl b_Diff) rfl ?_); clear F a; intro a F
      refine l_step rfl (o_storeA M F rfl rfl agg_Diff.size (by repeat (first | exact Upd.here _ _ _ _ _ | apply Upd.there)) (by rfl) (by rfl) (by rfl) ?_); clear F a; intro a W7 M F
      refine l_nil ?_
      refine hK5 _ _ ?_
      refine wp_ret ?_
      exact ret1 Try.results51 M F (rv_cell M F rfl (by repeat (first | exact List.mem_cons_self | apply List.mem_cons_of_mem)) agg_Diff rfl) (⟨Sl.nil, Sl.nil, by clear hI M F hK1 hK2 hK3 hK5; simp_all [pMake, PDiff.zero, PState.zero], by clear hI M F hK1 hK2 hK3 hK5; simp_all [pMake, PDiff.zero, PState.zero]; exact Ens.nil _, by clear hI M F hK1 hK2 hK3 hK5; simp_all [pMake, PDiff.zero, PState.zero]; exact Ens.nil _⟩)
    · skip
      refine wp_skip ?_
      refine hK2 _ _ ?_
      refine c_seq (fun K6 hK6 => ?_)
      refine wp_region_lit ?_
      refine l_step rfl (o_val F (r_load M F rfl (by repeat (first | exact List.mem_cons_self | apply List.mem_cons_of_mem)) agg_State (seg_all rfl)) rfl ?_); clear F a; intro a F
      refine l_step rfl (o_alloc M F zer_State rfl ?_); clear F a; intro a W8 b4 M F
      refine l_step rfl (o_storeA M F rfl rfl agg_State.size (by repeat (first | exact Upd.here _ _ _ _ _ | apply Upd.there)) (by rfl) (by rfl) (by rfl) ?_); clear F a; intro a W9 M F
      refine l_nil ?_
      refine hK6 _ _ ?_
      refine c_seq (fun K7 hK7 => ?_)
      refine wp_region_lit ?_
      refine l_step rfl (o_val F (r_fieldAddr F rfl fld_State_0) rfl ?_); clear F a; intro a F
      refine l_step rfl (o_val F (r_load1 M F rfl (by repeat (first | exact List.mem_cons_self | apply List.mem_cons_of_mem)) sca_u32 rfl) rfl ?_); clear F a; intro a F
      refine l_step rfl (o_val F (r_fieldAddr F rfl fld_State_0) rfl ?_); clear F a; intro a F
      refine l_step rfl (o_store1 M F rfl rfl sca_u32 rfl rfl p_State_0 (by repeat (first | exact Upd.here _ _ _ _ _ | apply Upd.there)) ?_); clear F a; intro a W10 M F
      refine l_nil ?_
      refine hK7 _ _ ?_
      refine c_seq (fun K8 hK8 => ?_)
      refine wp_block ?_
      refine c_seq (fun K9 hK9 => ?_)
      refine wp_region_lit ?_
      refine l_step rfl (o_val F (r_load M F rfl (by repeat (first | exact List.mem_cons_self | apply List.mem_cons_of_mem)) agg_State (seg_all rfl)) rfl ?_); clear F a; intro a F
      refine l_step rfl (o_val F (r_load M F rfl (by repeat (first | exact List.mem_cons_self | apply List.mem_cons_of_mem)) agg_State (seg_all rfl)) rfl ?_); clear F a; intro a F
      refine l_step rfl (o_call M F rfl (c_pglog_Same M.imm (s := { s with started := t.started }) (hl.mono M.gl) (hl1.mono M.gl)) rfl ?_); clear F a; intro a W11 v11 G11 hp11 M E11 F
      subst hp11
      refine l_step rfl (o_val F (r_assign F rfl) rfl ?_); clear F a; intro a F
      refine l_nil ?_
      refine hK9 _ _ ?_
      refine c_cond F rfl (fun g20 => ?_) (fun g20 => ?_)
      · skip
        refine c_seq (fun K10 hK10 => ?_)
        refine wp_region_lit ?_
        refine l_step rfl (o_val F (r_load M F rfl (by repeat (first | exact List.mem_cons_self | apply List.mem_cons_of_mem)) agg_State (seg_all rfl)) rfl ?_); clear F a; intro a F
        refine l_step rfl (o_call M F rfl (c_merge_head M.imm (hl1.mono M.gl)) rfl ?_); clear F a; intro a W12 v12 G12 hp12 M E12 F
        subst hp12
        refine l_step rfl (o_val F (r_build F rfl (b_Diff_0_3 0 _)) rfl ?_); clear F a; intro a F
        refine l_step rfl (o_storeA M F rfl rfl agg_Diff.size (by repeat (first | exact Upd.here _ _ _ _ _ | apply Upd.there)) (by rfl) (by rfl) (by rfl) ?_); clear F a; intro a W13 M F
        refine l_nil ?_
        refine hK10 _ _ ?_
        refine wp_ret ?_
        exact ret1 Try.results51 M F (rv_cell M F rfl (by repeat (first | exact List.mem_cons_self | apply List.mem_cons_of_mem)) agg_Diff rfl) (⟨Sl.nil, Sl.nil, by clear hI M F hK1 hK2 hK3 hK6 hK7 hK8 hK9 hK10; simp_all [pMake], by clear hI M F hK1 hK2 hK3 hK6 hK7 hK8 hK9 hK10; simp_all [pMake]; exact Ens.nil _, by clear hI M F hK1 hK2 hK3 hK6 hK7 hK8 hK9 hK10; simp_all [pMake, pmHead]; exact Ens.nil _⟩)
      · skip
        refine c_seq (fun K11 hK11 => ?_)
        refine wp_region_lit ?_
        refine l_step rfl (o_val F (r_load M F rfl (by repeat (first | exact List.mem_cons_self | apply List.mem_cons_of_mem)) agg_State (seg_all rfl)) rfl ?_); clear F a; intro a F
        refine l_step rfl (o_val F (r_load M F rfl (by repeat (first | exact List.mem_cons_self | apply List.mem_cons_of_mem)) agg_State (seg_all rfl)) rfl ?_); clear F a; intro a F
        refine l_step rfl (o_call M F rfl (c_merge_stands M.imm (hl.mono M.gl) (hl1.mono M.gl)) rfl ?_); clear F a; intro a W14 v14 G14 hp14 M E14 F
        subst hp14
        refine l_step rfl (o_val F (r_not F rfl) rfl ?_); clear F a; intro a F
        refine l_step rfl (o_val F (r_assign F rfl) rfl ?_); clear F a; intro a F
        refine l_nil ?_
        refine hK11 _ _ ?_
        refine c_cond F rfl (fun g27 => ?_) (fun g27 => ?_)
        · skip
          refine c_seq (fun K12 hK12 => ?_)
          refine wp_region_lit ?_
          refine l_step rfl (o_val F (r_load M F rfl (by repeat (first | exact List.mem_cons_self | apply List.mem_cons_of_mem)) agg_State (seg_all rfl)) rfl ?_); clear F a; intro a F
          refine l_step rfl (o_call M F rfl (c_pglog_Copy M.imm (hl1.mono M.gl) (by have := is_len (s := t) (by simpa using g14); omega)) rfl ?_); clear F a; intro a W15 v15 G15 hp15 M E15 F
          obtain ⟨l3, rfl, hl3⟩ := hp15
          refine l_step rfl (o_val F (r_build F rfl (b_Diff_0_3 2 _)) rfl ?_); clear F a; intro a F
          refine l_step rfl (o_storeA M F rfl rfl agg_Diff.size (by repeat (first | exact Upd.here _ _ _ _ _ | apply Upd.there)) (by rfl) (by rfl) (by rfl) ?_); clear F a; intro a W16 M F
          refine l_nil ?_
          refine hK12 _ _ ?_
          refine wp_ret ?_
          exact ret1 Try.results51 M F (rv_cell M F rfl (by repeat (first | exact List.mem_cons_self | apply List.mem_cons_of_mem)) agg_Diff rfl) (⟨Sl.nil, l3, by clear hI M F hK1 hK2 hK3 hK6 hK7 hK8 hK9 hK11 hK12; simp_all [pMake], by clear hI M F hK1 hK2 hK3 hK6 hK7 hK8 hK9 hK11 hK12; simp_all [pMake]; exact Ens.nil _, by clear hI M F hK1 hK2 hK3 hK6 hK7 hK8 hK9 hK11 hK12; simp_all [pMake]⟩)
        · skip
          refine wp_skip ?_
          refine hK8 _ _ ?_
          refine c_seq (fun K13 hK13 => ?_)
          refine wp_region_lit ?_
          refine l_step rfl (o_val F (r_load M F rfl (by repeat (first | exact List.mem_cons_self | apply List.mem_cons_of_mem)) agg_State (seg_all rfl)) rfl ?_); clear F a; intro a F
          refine l_step rfl (o_val F (r_load M F rfl (by repeat (first | exact List.mem_cons_self | apply List.mem_cons_of_mem)) agg_State (seg_all rfl)) rfl ?_); clear F a; intro a F
          refine l_step rfl (o_call M F rfl (c_merge_common M.imm (hl.mono M.gl) (hl1.mono M.gl)) rfl ?_); clear F a; intro a W17 v17 G17 hp17 M E17 F
          subst hp17
          have hcut := common_cut (s := s) (is_ok (s := t) (by simpa using g14))
          have hlen1 := hl1.len
          have hlen2 : (t.at l1).log.len = t.log.length := hl1.len
          have hcut2 : (pCommon s t.tail.n t.log - (t.at l1).tail.n).toNat ≤ (t.at l1).log.len := by rw [hlen2]; exact hcut
          refine l_step rfl (o_val F (r_assign F rfl) rfl ?_); clear F a; intro a F
          refine l_nil ?_
          refine hK13 _ _ ?_
          refine c_seq (fun K14 hK14 => ?_)
          refine c_drawM (M.drop (List.Sublist.cons_cons _ (List.Sublist.cons _ (List.Sublist.cons_cons _ (List.Sublist.cons_cons _ (List.Sublist.refl _)))))) [] mixed (fun Mk => ?_)
          have M := M.drew
          have Ms := Mk
          have hq1 := Keeps.here Mk
          have hle1 := M.gle
          refine t_take (i := 0) F rfl rfl hq1 (fun _ _ => r_move F rfl) (fun _ _ _ h => h) (by kernel_rfl) (by kernel_rfl) (by kernel_rfl) (by kernel_rfl) ?_; clear F a; intro a F
          refine t_take (i := 1) F rfl rfl hq1 (fun _ _ => r_fieldAddr F rfl fld_State_3) (fun _ _ _ h => h) (by kernel_rfl) (by kernel_rfl) (by kernel_rfl) (by kernel_rfl) ?_; clear F a; intro a F
          refine t_take (i := 2) F rfl rfl hq1 (fun _ ⟨_, _, M'⟩ => r_load1 M' F rfl (by repeat (first | exact List.mem_cons_self | apply List.mem_cons_of_mem)) sca_Entries rfl) (fun _ _ _ h => h) (by kernel_rfl) (by kernel_rfl) (by kernel_rfl) (by kernel_rfl) ?_; clear F a; intro a F
          refine t_take (i := 3) F rfl rfl hq1 (fun _ _ => r_move F rfl) (fun _ _ _ h => h) (by kernel_rfl) (by kernel_rfl) (by kernel_rfl) (by kernel_rfl) ?_; clear F a; intro a F
          refine t_take (i := 4) F rfl rfl hq1 (fun _ _ => r_fieldAddr F rfl fld_State_2) (fun _ _ _ h => h) (by kernel_rfl) (by kernel_rfl) (by kernel_rfl) (by kernel_rfl) ?_; clear F a; intro a F
          refine t_take (i := 5) F rfl rfl hq1 (fun _ _ => r_fieldAddr F rfl fld_Entry_1) (fun _ _ _ h => h) (by kernel_rfl) (by kernel_rfl) (by kernel_rfl) (by kernel_rfl) ?_; clear F a; intro a F
          refine t_take (i := 6) F rfl rfl hq1 (fun _ ⟨_, _, M'⟩ => r_load1 M' F rfl (by repeat (first | exact List.mem_cons_self | apply List.mem_cons_of_mem)) sca_u32 rfl) (fun _ _ _ h => h) (by kernel_rfl) (by kernel_rfl) (by kernel_rfl) (by kernel_rfl) ?_; clear F a; intro a F
          refine t_take (i := 7) F rfl rfl hq1 (fun _ _ => r_sub_u32 F rfl rfl) (fun _ _ _ h => h) (by kernel_rfl) (by kernel_rfl) (by kernel_rfl) (by kernel_rfl) ?_; clear F a; intro a F
          refine t_take (i := 8) F rfl rfl hq1 (fun _ _ => r_slice_from F slc_Entries rfl rfl (by omega) (by omega)) (fun _ _ _ h => h) (by kernel_rfl) (by kernel_rfl) (by kernel_rfl) (by kernel_rfl) ?_; clear F a; intro a F
          refine t_take (i := 10) F rfl rfl hq1 (fun _ ⟨_, _, M'⟩ => r_load M' F rfl (by repeat (first | exact List.mem_cons_self | apply List.mem_cons_of_mem)) agg_State (seg_all rfl)) (fun _ _ _ h => h) (by kernel_rfl) (by kernel_rfl) (by kernel_rfl) (by kernel_rfl) ?_; clear F a; intro a F
          refine t_one (i := 9) (by kernel_rfl) rfl rfl (o_call M F rfl (c_slices_Clone_Entry M.imm (xs := t.log.drop (pCommon s t.tail.n t.log - t.tail.n).toNat) (by have h := (hl1.mono M.gl).cut (i := (pCommon s t.tail.n t.log - t.tail.n).toNat) (j := t.log.length) hcut (Nat.le_refl _); rw [List.take_of_length_le (by rw [List.length_drop]; omega)] at h; rw [← hlen2] at h; exact h) (by have := is_len (s := t) (by simpa using g14); rw [List.length_drop]; omega)) rfl ?_); clear F a; intro a W18 v18 G18 hp18 M E18 F
          obtain ⟨l4, rfl, hl4, _⟩ := hp18
          have hle1 := hle1.trans E18.gl
          refine keepAnd (Keeps.mk hle1 M (by repeat (first | exact List.Sublist.refl _ | apply List.Sublist.cons_cons | apply List.Sublist.cons))) (fun hq1 => ?_)
          refine t_one (i := 11) (by kernel_rfl) rfl rfl (o_call M F rfl (c_merge_head M.imm (hl1.mono M.gl)) rfl ?_); clear F a; intro a W19 v19 G19 hp19 M E19 F
          have hl4 := hl4.mono E19.gl
          subst hp19
          have hle1 := hle1.trans E19.gl
          refine keepAnd (Keeps.mk hle1 M (by repeat (first | exact List.Sublist.refl _ | apply List.Sublist.cons_cons | apply List.Sublist.cons))) (fun hq1 => ?_)
          refine t_take (i := 12) F rfl rfl hq1 (fun _ _ => r_build F rfl (b_Diff_0_1_2_3 1 _ _ _)) (fun _ _ _ h => h) (by kernel_rfl) (by kernel_rfl) (by kernel_rfl) (by kernel_rfl) ?_; clear F a; intro a F
          refine t_one (i := 13) (by kernel_rfl) rfl rfl (o_storeA M F rfl rfl agg_Diff.size (by repeat (first | exact Upd.here _ _ _ _ _ | apply Upd.there)) (by rfl) (by rfl) (by rfl) ?_); clear F a; intro a W20 M F
          refine keepAnd (Keeps.mk hle1 M (by repeat (first | exact List.Sublist.refl _ | apply List.Sublist.cons_cons | apply List.Sublist.cons))) (fun hq1 => ?_)
          refine t_done (by kernel_rfl) ?_ _
          refine hK14 _ _ ?_
          refine wp_ret ?_
          exact ret1 Try.results51 M F (rv_cell M F rfl (by repeat (first | exact List.mem_cons_self | apply List.mem_cons_of_mem)) agg_Diff rfl) (⟨l4, Sl.nil, by clear hI M F hK1 hK2 hK3 hK6 hK7 hK8 hK9 hK11 hK13 hK14; simp_all [pMake], by clear hI M F hK1 hK2 hK3 hK6 hK7 hK8 hK9 hK11 hK13 hK14; simp_all [pMake], by clear hI M F hK1 hK2 hK3 hK6 hK7 hK8 hK9 hK11 hK13 hK14; simp_all [pMake, pmHead]; exact Ens.nil _⟩)
theorem c_merge_added {w : World} {G0 : Ghost} (hI : Imm G0 w) {s : PState} {l : Sl} (hl : Ens G0 l s.log) {es : List PEntry} {l1 : Sl} (hl1 : Ens G0 l1 es) : Ret P 95 [agg (GState.enc (s.at l)), l1.v] [] w G0 (fun G W v => ∃ l', v = .tuple #[agg (GState.enc ((pAdded s es).1.at l')), .int .i64 (pAdded s es).2] ∧ Ens G l' (pAdded s es).1.log) := by
  refine enter Try.func95 rfl Try.ntmps95 rfl rfl hI (fun a F M => ?_)
  have hlen := hl1.len
  have hmax := hl1.rd.max
  have hcap := hl1.rd.cap
  refine c_seq (fun K1 hK1 => ?_)
  refine wp_region_lit ?_
  refine l_step rfl (o_box M F rfl rfl ?_); clear F a; intro a W1 b1 M F
  refine l_step rfl (o_alloc M F zer_State rfl ?_); clear F a; intro a W2 b2 M F
  refine l_step rfl (o_val F (r_assign F rfl) rfl ?_); clear F a; intro a F
  refine l_nil ?_
  refine hK1 _ _ ?_
  refine c_seq (fun K2 hK2 => ?_)
  refine c_seq (fun K3 hK3 => ?_)
  refine wp_region_lit ?_
  refine l_step rfl (o_val F (r_move F rfl) rfl ?_); clear F a; intro a F
  refine l_step rfl (o_val F (r_len_slice F slc_Entries.und rfl) rfl ?_); clear F a; intro a F
  refine l_step rfl (o_val F (r_move F rfl) rfl ?_); clear F a; intro a F
  refine l_nil ?_
  refine hK3 _ _ ?_
  refine wp_block ?_
  refine c_loop (fun k a W => ∃ (i : Nat) (G : Ghost) (u : PState) (l2 : Sl), k = es.length - i ∧ i ≤ es.length ∧ Frm 29 [(12, .int .i64 (i : Int)), (11, .int .i64 (l1.len : Int)), (10, l1.v), (4, .pointer (some ⟨b2, 0, none⟩)), (2, .pointer (some ⟨b1, 0, none⟩))] a ∧ St [] w G0 W [⟨b2, 42, GState.enc ⟨0, PBase.zero, PEntry.zero, Sl.nil⟩⟩, ⟨b1, 42, (u.at l2).enc⟩] G ∧ (pAdded s es = pAdded u (es.drop i) ∧ Ens G l2 u.log)) (es.length) ?_ ?_
  · exact ⟨0, _, s, l, rfl, Nat.zero_le _, (F.cons (F.cons (F.cons (F.cons (F.cons F.nil 2 rfl) 4 rfl) 10 rfl) 11 rfl) 12 rfl), M, ⟨rfl, hl.mono M.gl⟩⟩
  · clear F M a; intro k a W hI; obtain ⟨i, G, u, l2, hk, hi, F, M, hf⟩ := hI
    obtain ⟨hf, hl2⟩ := hf
    refine c_seq (fun K4 hK4 => ?_)
    refine wp_region_lit ?_
    refine l_step rfl (o_val F (r_lss_i64 F rfl rfl) rfl ?_); clear F a; intro a F
    refine l_nil ?_
    refine hK4 _ _ ?_
    refine c_seq (fun K5 hK5 => ?_)
    refine c_cond F rfl (fun g13 => ?_) (fun g13 => ?_)
    · skip
      have hlt : i < es.length := by have h := of_decide_eq_true g13; omega
      obtain ⟨x, hx⟩ := get_of hlt
      rw [drop_of hx, pAdded] at hf
      refine wp_skip ?_
      refine hK5 _ _ ?_
      refine c_seq (fun K6 hK6 => ?_)
      refine wp_block ?_
      refine c_seq (fun K7 hK7 => ?_)
      refine wp_region_lit ?_
      obtain ⟨eb, eo, er, ha14, hG14, hS14⟩ := (hl1.mono M.gl).elem hx
      refine l_step rfl (o_val F (r_indexSl F rfl rfl slc_Entries ha14 (by omega) (by omega)) rfl ?_); clear F a; intro a F
      refine l_step rfl (o_val F (r_loadr M F rfl hG14 agg_Entry hS14) rfl ?_); clear F a; intro a F
      refine l_step rfl (o_alloc M F zer_Entry rfl ?_); clear F a; intro a W3 b3 M F
      refine l_step rfl (o_storeA M F rfl rfl agg_Entry.size (by repeat (first | exact Upd.here _ _ _ _ _ | apply Upd.there)) (by rfl) (by rfl) (by rfl) ?_); clear F a; intro a W4 M F
      refine l_nil ?_
      refine hK7 _ _ ?_
      refine c_seq (fun K8 hK8 => ?_)
      refine wp_region_lit ?_
      refine l_step rfl (o_val F (r_load M F rfl (by repeat (first | exact List.mem_cons_self | apply List.mem_cons_of_mem)) agg_State (seg_all rfl)) rfl ?_); clear F a; intro a F
      refine l_step rfl (o_val F (r_load M F rfl (by repeat (first | exact List.mem_cons_self | apply List.mem_cons_of_mem)) agg_Entry (seg_all rfl)) rfl ?_); clear F a; intro a F
      refine l_step rfl (o_call M F rfl (c_pglog_Add M.imm hl2) rfl ?_); clear F a; intro a W5 v5 G5 hp5 M E5 F
      have hl2 := hl2.mono E5.gl
      obtain ⟨l3, rfl, hl3⟩ := hp5
      refine l_step rfl (o_val F (r_move F rfl) rfl ?_); clear F a; intro a F
      refine l_step rfl (o_val F (r_extract F rfl rfl) rfl ?_); clear F a; intro a F
      refine l_step rfl (o_val F (r_extract F rfl rfl) rfl ?_); clear F a; intro a F
      refine l_step rfl (o_alloc M F zer_State rfl ?_); clear F a; intro a W6 b4 M F
      refine l_step rfl (o_storeA M F rfl rfl agg_State.size (by repeat (first | exact Upd.here _ _ _ _ _ | apply Upd.there)) (by rfl) (by rfl) (by rfl) ?_); clear F a; intro a W7 M F
      refine l_step rfl (o_val F (r_assign F rfl) rfl ?_); clear F a; intro a F
      refine l_nil ?_
      refine hK8 _ _ ?_
      refine c_seq (fun K9 hK9 => ?_)
      refine c_seq (fun K10 hK10 => ?_)
      refine wp_region_lit ?_
      refine l_step rfl (o_val F (r_move F rfl) rfl ?_); clear F a; intro a F
      refine l_step rfl (o_val F (r_neq_i64 F rfl rfl) rfl ?_); clear F a; intro a F
      refine l_nil ?_
      refine hK10 _ _ ?_
      refine c_cond F rfl (fun g23 => ?_) (fun g23 => ?_)
      · skip
        refine c_seq (fun K11 hK11 => ?_)
        refine wp_region_lit ?_
        refine l_step rfl (o_val F (r_build F rfl b_State) rfl ?_); clear F a; intro a F
        refine l_step rfl (o_val F (r_move F rfl) rfl ?_); clear F a; intro a F
        refine l_step rfl (o_storeA M F rfl rfl agg_State.size (by repeat (first | exact Upd.here _ _ _ _ _ | apply Upd.there)) (by rfl) (by rfl) (by rfl) ?_); clear F a; intro a W8 M F
        refine l_step rfl (o_val F (r_assign F rfl) rfl ?_); clear F a; intro a F
        refine l_nil ?_
        refine hK11 _ _ ?_
        refine wp_ret ?_
        exact ret2 Try.results95 M F (rv_cell M F rfl (by repeat (first | exact List.mem_cons_self | apply List.mem_cons_of_mem)) agg_State rfl) (rv_tmp F rfl) (⟨Sl.nil, by rw [hf, if_pos (by simpa using g23)]; rfl, by rw [hf, if_pos (by simpa using g23)]; exact Ens.nil _⟩)
      · skip
        refine wp_skip ?_
        refine hK9 _ _ ?_
        refine wp_region_lit ?_
        refine l_step rfl (o_val F (r_load M F rfl (by repeat (first | exact List.mem_cons_self | apply List.mem_cons_of_mem)) agg_State (seg_all rfl)) rfl ?_); clear F a; intro a F
        refine l_step rfl (o_storeA M F rfl rfl agg_State.size (by repeat (first | exact Upd.here _ _ _ _ _ | apply Upd.there)) (by rfl) (by rfl) (by rfl) ?_); clear F a; intro a W9 M F
        refine l_nil ?_
        refine hK6 _ _ ?_
        refine wp_region_lit ?_
        refine l_step rfl (o_val F (r_add_i64 F rfl rfl (by omega)) rfl ?_); clear F a; intro a F
        refine l_step rfl (o_val F (r_move F rfl) rfl ?_); clear F a; intro a F
        refine l_nil ?_
        exact ⟨es.length - (i + 1), by omega, i + 1, _, _, l3, rfl, by omega, (F.cons (F.cons (F.cons (F.cons (F.cons F.nil 2 rfl) 4 rfl) 10 rfl) 11 rfl) 12 rfl), M.drop (by repeat (first | exact List.Sublist.refl _ | apply List.Sublist.cons_cons | apply List.Sublist.cons)), ⟨(by rw [hf, if_neg]; simpa using g23), hl3⟩⟩
    · skip
      have hge : i = es.length := by have h := of_decide_eq_false g13; omega
      rw [hge, List.drop_length, pAdded] at hf
      refine wp_exit ?_
      refine hK2 _ _ ?_
      refine c_seq (fun K12 hK12 => ?_)
      refine wp_region_lit ?_
      refine l_step rfl (o_val F (r_load M F rfl (by repeat (first | exact List.mem_cons_self | apply List.mem_cons_of_mem)) agg_State (seg_all rfl)) rfl ?_); clear F a; intro a F
      refine l_step rfl (o_storeA M F rfl rfl agg_State.size (by repeat (first | exact Upd.here _ _ _ _ _ | apply Upd.there)) (by rfl) (by rfl) (by rfl) ?_); clear F a; intro a W10 M F
      refine l_step rfl (o_val F (r_assign F rfl) rfl ?_); clear F a; intro a F
      refine l_nil ?_
      refine hK12 _ _ ?_
      refine wp_ret ?_
      exact ret2 Try.results95 M F (rv_cell M F rfl (by repeat (first | exact List.mem_cons_self | apply List.mem_cons_of_mem)) agg_State rfl) (rv_tmp F rfl) (⟨l2, by rw [hf], by rw [hf]; exact hl2⟩)
theorem c_merge_Apply_1 {w : World} {G0 : Ghost} (hI : Imm G0 w)  : Ret P 94 [] [] w G0 (fun G W v => v = .tuple #[agg (GState.enc (PState.zero.at Sl.nil)), .int .i64 80]) := by
  refine enter Try.func94 rfl Try.ntmps94 rfl rfl hI (fun a F M => ?_)
  refine c_seq (fun K1 hK1 => ?_)
  refine wp_region_lit ?_
  refine l_step rfl (o_alloc M F zer_State rfl ?_); clear F a; intro a W1 b1 M F
  refine l_step rfl (o_val F (r_assign F rfl) rfl ?_); clear F a; intro a F
  refine l_nil ?_
  refine hK1 _ _ ?_
  refine c_seq (fun K2 hK2 => ?_)
  refine wp_region_lit ?_
  refine l_step rfl (o_val F (r_build F rfl b_State) rfl ?_); clear F a; intro a F
  refine l_step rfl (o_storeA M F rfl rfl agg_State.size (by repeat (first | exact Upd.here _ _ _ _ _ | apply Upd.there)) (by rfl) (by rfl) (by rfl) ?_); clear F a; intro a W2 M F
  refine l_step rfl (o_val F (r_assign F rfl) rfl ?_); clear F a; intro a F
  refine l_nil ?_
  refine hK2 _ _ ?_
  refine wp_ret ?_
  exact ret2 Try.results94 M F (rv_cell M F rfl (by repeat (first | exact List.mem_cons_self | apply List.mem_cons_of_mem)) agg_State rfl) (rv_tmp F rfl) (rfl)
set_option maxHeartbeats 8000000 in
theorem c_merge_Apply {w : World} {G0 : Ghost} (hI : Imm G0 w) {s : PState} {l : Sl} (hl : Ens G0 l s.log) {d : PDiff} {l1 l2 : Sl} (hl1 : Ens G0 l1 d.log) (hl2 : Ens G0 l2 d.whole.log) : Ret P 52 [agg (GState.enc (s.at l)), agg (GDiff.enc (d.at l1 l2))] [] w G0 (fun G W v => ∃ l', v = .tuple #[agg (GState.enc ((pApply s d).1.at l')), .int .i64 (pApply s d).2] ∧ Ens G l' (pApply s d).1.log) := by
  refine enter Try.func52 rfl Try.ntmps52 rfl rfl hI (fun a F M => ?_)
  have hlen1 : (d.at l1 l2).log.len = d.log.length := hl1.len
  refine c_seq (fun K1 hK1 => ?_)
  refine wp_region_lit ?_
  refine l_step rfl (o_box M F rfl rfl ?_); clear F a; intro a W1 b1 M F
  refine l_step rfl (o_box M F rfl rfl ?_); clear F a; intro a W2 b2 M F
  refine l_step rfl (o_alloc M F zer_State rfl ?_); clear F a; intro a W3 b3 M F
  refine l_step rfl (o_val F (r_assign F rfl) rfl ?_); clear F a; intro a F
  refine l_nil ?_
  refine hK1 _ _ ?_
  refine c_seq (fun K2 hK2 => ?_)
  refine wp_region_lit ?_
  refine l_step rfl (o_val F (r_assign F rfl) rfl ?_); clear F a; intro a F
  refine l_nil ?_
  refine hK2 _ _ ?_
  refine c_seq (fun K3 hK3 => ?_)
  refine c_seq (fun K4 hK4 => ?_)
  refine wp_region_lit ?_
  refine l_step rfl (o_val F (r_load M F rfl (by repeat (first | exact List.mem_cons_self | apply List.mem_cons_of_mem)) agg_State (seg_all rfl)) rfl ?_); clear F a; intro a F
  refine l_step rfl (o_call M F rfl (c_pglog_Is M.imm (hl.mono M.gl)) rfl ?_); clear F a; intro a W4 v4 G4 hp4 M E4 F
  subst hp4
  refine l_step rfl (o_val F (r_not F rfl) rfl ?_); clear F a; intro a F
  refine l_step rfl (o_val F (r_move F rfl) rfl ?_); clear F a; intro a F
  refine c_split F (i := 14) rfl (fun g14 => ?_) (fun g14 => ?_)
  · skip
    iterate 3 (refine l_skip F rfl rfl rfl g14 rfl rfl ?_; clear F a; intro a F)
    refine l_step rfl (o_val F (r_pick_t F rfl g14 rfl) rfl ?_); clear F a; intro a F
    refine l_step rfl (o_val F (r_move F rfl) rfl ?_); clear F a; intro a F
    iterate 3 (refine l_skip F rfl rfl rfl rfl rfl rfl ?_; clear F a; intro a F)
    refine l_step rfl (o_val F (r_pick_t F rfl rfl rfl) rfl ?_); clear F a; intro a F
    refine l_step rfl (o_val F (r_move F rfl) rfl ?_); clear F a; intro a F
    iterate 4 (refine l_skip F rfl rfl rfl rfl rfl rfl ?_; clear F a; intro a F)
    iterate 9 (refine l_skipu F rfl rfl rfl rfl rfl ?_; clear F a; intro a F)
    iterate 1 (refine l_skip F rfl rfl rfl rfl rfl rfl ?_; clear F a; intro a F)
    refine l_step rfl (o_val F (r_pick_t F rfl rfl rfl) rfl ?_); clear F a; intro a F
    refine l_nil ?_
    refine hK4 _ _ ?_
    refine c_true F rfl rfl ?_
    refine c_seq (fun K5 hK5 => ?_)
    refine wp_region_lit ?_
    refine l_step rfl (o_val F (r_move F rfl) rfl ?_); clear F a; intro a F
    refine l_step rfl (o_callV M F (us := []) (cs := []) rfl rfl (c_merge_Apply_1 M.imm) rfl ?_); clear F a; intro a W5 v5 G5 hp5 M E5 F
    subst hp5
    refine l_step rfl (o_val F (r_extract F rfl rfl) rfl ?_); clear F a; intro a F
    refine l_step rfl (o_val F (r_extract F rfl rfl) rfl ?_); clear F a; intro a F
    refine l_step rfl (o_storeA M F rfl rfl agg_State.size (by repeat (first | exact Upd.here _ _ _ _ _ | apply Upd.there)) (by rfl) (by rfl) (by rfl) ?_); clear F a; intro a W6 M F
    refine l_step rfl (o_val F (r_assign F rfl) rfl ?_); clear F a; intro a F
    refine l_nil ?_
    refine hK5 _ _ ?_
    refine wp_ret ?_
    exact ret2 Try.results52 M F (rv_cell M F rfl (by repeat (first | exact List.mem_cons_self | apply List.mem_cons_of_mem)) agg_State rfl) (rv_tmp F rfl) (⟨Sl.nil, by clear hI M F hK1 hK2 hK3 hK4 hK5; simp_all [pApply, pEnd, PState.zero, -UInt8.not_le, -UInt8.not_lt, -UInt32.not_le, -UInt32.not_lt, -Int.not_lt, -Int.not_le, -Nat.not_lt, -Nat.not_le], by clear hI M F hK1 hK2 hK3 hK4 hK5; simp_all [pApply, pEnd, PState.zero, -UInt8.not_le, -UInt8.not_lt, -UInt32.not_le, -UInt32.not_lt, -Int.not_lt, -Int.not_le, -Nat.not_lt, -Nat.not_le] <;> exact Ens.nil _⟩)
  · skip
    refine l_guard F rfl rfl rfl g14 (o_val F (r_fieldAddr F rfl fld_Diff_0) rfl ?_); clear F a; intro a F
    refine l_guard F rfl rfl rfl g14 (o_val F (r_load1 M F rfl (by repeat (first | exact List.mem_cons_self | apply List.mem_cons_of_mem)) sca_int rfl) rfl ?_); clear F a; intro a F
    refine l_guard F rfl rfl rfl g14 (o_val F (r_lss_i64 F rfl rfl) rfl ?_); clear F a; intro a F
    refine l_step rfl (o_val F (r_pick_f F rfl g14 rfl) rfl ?_); clear F a; intro a F
    refine l_step rfl (o_val F (r_move F rfl) rfl ?_); clear F a; intro a F
    refine c_split F (i := 19) rfl (fun g19 => ?_) (fun g19 => ?_)
    · skip
      iterate 3 (refine l_skip F rfl rfl rfl g19 rfl rfl ?_; clear F a; intro a F)
      refine l_step rfl (o_val F (r_pick_t F rfl g19 rfl) rfl ?_); clear F a; intro a F
      refine l_step rfl (o_val F (r_move F rfl) rfl ?_); clear F a; intro a F
      iterate 4 (refine l_skip F rfl rfl rfl rfl rfl rfl ?_; clear F a; intro a F)
      iterate 9 (refine l_skipu F rfl rfl rfl rfl rfl ?_; clear F a; intro a F)
      iterate 1 (refine l_skip F rfl rfl rfl rfl rfl rfl ?_; clear F a; intro a F)
      refine l_step rfl (o_val F (r_pick_t F rfl rfl rfl) rfl ?_); clear F a; intro a F
      refine l_nil ?_
      refine hK4 _ _ ?_
      refine c_true F rfl rfl ?_
      refine c_seq (fun K6 hK6 => ?_)
      refine wp_region_lit ?_
      refine l_step rfl (o_val F (r_move F rfl) rfl ?_); clear F a; intro a F
      refine l_step rfl (o_callV M F (us := []) (cs := []) rfl rfl (c_merge_Apply_1 M.imm) rfl ?_); clear F a; intro a W7 v7 G7 hp7 M E7 F
      subst hp7
      refine l_step rfl (o_val F (r_extract F rfl rfl) rfl ?_); clear F a; intro a F
      refine l_step rfl (o_val F (r_extract F rfl rfl) rfl ?_); clear F a; intro a F
      refine l_step rfl (o_storeA M F rfl rfl agg_State.size (by repeat (first | exact Upd.here _ _ _ _ _ | apply Upd.there)) (by rfl) (by rfl) (by rfl) ?_); clear F a; intro a W8 M F
      refine l_step rfl (o_val F (r_assign F rfl) rfl ?_); clear F a; intro a F
      refine l_nil ?_
      refine hK6 _ _ ?_
      refine wp_ret ?_
      exact ret2 Try.results52 M F (rv_cell M F rfl (by repeat (first | exact List.mem_cons_self | apply List.mem_cons_of_mem)) agg_State rfl) (rv_tmp F rfl) (⟨Sl.nil, by clear hI M F hK1 hK2 hK3 hK4 hK6; simp_all [pApply, pEnd, PState.zero, -UInt8.not_le, -UInt8.not_lt, -UInt32.not_le, -UInt32.not_lt, -Int.not_lt, -Int.not_le, -Nat.not_lt, -Nat.not_le], by clear hI M F hK1 hK2 hK3 hK4 hK6; simp_all [pApply, pEnd, PState.zero, -UInt8.not_le, -UInt8.not_lt, -UInt32.not_le, -UInt32.not_lt, -Int.not_lt, -Int.not_le, -Nat.not_lt, -Nat.not_le] <;> exact Ens.nil _⟩)
    · skip
      refine l_guard F rfl rfl rfl g19 (o_val F (r_fieldAddr F rfl fld_Diff_0) rfl ?_); clear F a; intro a F
      refine l_guard F rfl rfl rfl g19 (o_val F (r_load1 M F rfl (by repeat (first | exact List.mem_cons_self | apply List.mem_cons_of_mem)) sca_int rfl) rfl ?_); clear F a; intro a F
      refine l_guard F rfl rfl rfl g19 (o_val F (r_gtr_i64 F rfl rfl) rfl ?_); clear F a; intro a F
      refine l_step rfl (o_val F (r_pick_f F rfl g19 rfl) rfl ?_); clear F a; intro a F
      refine l_step rfl (o_val F (r_move F rfl) rfl ?_); clear F a; intro a F
      refine c_split F (i := 24) rfl (fun g24 => ?_) (fun g24 => ?_)
      · skip
        iterate 4 (refine l_skip F rfl rfl rfl g24 rfl rfl ?_; clear F a; intro a F)
        iterate 9 (refine l_skipu F rfl rfl rfl rfl rfl ?_; clear F a; intro a F)
        iterate 1 (refine l_skip F rfl rfl rfl g24 rfl rfl ?_; clear F a; intro a F)
        refine l_step rfl (o_val F (r_pick_t F rfl g24 rfl) rfl ?_); clear F a; intro a F
        refine l_nil ?_
        refine hK4 _ _ ?_
        refine c_true F rfl rfl ?_
        refine c_seq (fun K7 hK7 => ?_)
        refine wp_region_lit ?_
        refine l_step rfl (o_val F (r_move F rfl) rfl ?_); clear F a; intro a F
        refine l_step rfl (o_callV M F (us := []) (cs := []) rfl rfl (c_merge_Apply_1 M.imm) rfl ?_); clear F a; intro a W9 v9 G9 hp9 M E9 F
        subst hp9
        refine l_step rfl (o_val F (r_extract F rfl rfl) rfl ?_); clear F a; intro a F
        refine l_step rfl (o_val F (r_extract F rfl rfl) rfl ?_); clear F a; intro a F
        refine l_step rfl (o_storeA M F rfl rfl agg_State.size (by repeat (first | exact Upd.here _ _ _ _ _ | apply Upd.there)) (by rfl) (by rfl) (by rfl) ?_); clear F a; intro a W10 M F
        refine l_step rfl (o_val F (r_assign F rfl) rfl ?_); clear F a; intro a F
        refine l_nil ?_
        refine hK7 _ _ ?_
        refine wp_ret ?_
        exact ret2 Try.results52 M F (rv_cell M F rfl (by repeat (first | exact List.mem_cons_self | apply List.mem_cons_of_mem)) agg_State rfl) (rv_tmp F rfl) (⟨Sl.nil, by clear hI M F hK1 hK2 hK3 hK4 hK7; simp_all [pApply, pEnd, PState.zero, -UInt8.not_le, -UInt8.not_lt, -UInt32.not_le, -UInt32.not_lt, -Int.not_lt, -Int.not_le, -Nat.not_lt, -Nat.not_le], by clear hI M F hK1 hK2 hK3 hK4 hK7; simp_all [pApply, pEnd, PState.zero, -UInt8.not_le, -UInt8.not_lt, -UInt32.not_le, -UInt32.not_lt, -Int.not_lt, -Int.not_le, -Nat.not_lt, -Nat.not_le] <;> exact Ens.nil _⟩)
      · skip
        refine l_guard F rfl rfl rfl g24 (o_val F (r_fieldAddr F rfl fld_Diff_0) rfl ?_); clear F a; intro a F
        refine l_guard F rfl rfl rfl g24 (o_val F (r_load1 M F rfl (by repeat (first | exact List.mem_cons_self | apply List.mem_cons_of_mem)) sca_int rfl) rfl ?_); clear F a; intro a F
        refine l_guard F rfl rfl rfl g24 (o_val F (r_neq_i64 F rfl rfl) rfl ?_); clear F a; intro a F
        refine l_guard F rfl rfl rfl g24 (o_val F (r_move F rfl) rfl ?_); clear F a; intro a F
        refine c_split F (i := 28) rfl (fun g28 => ?_) (fun g28 => ?_)
        · skip
          refine l_guard F rfl rfl rfl g28 (o_val F (r_fieldAddr F rfl fld_Diff_2) rfl ?_); clear F a; intro a F
          refine l_guard F rfl rfl rfl g28 (o_val F (r_load1 M F rfl (by repeat (first | exact List.mem_cons_self | apply List.mem_cons_of_mem)) sca_Entries rfl) rfl ?_); clear F a; intro a F
          refine l_guard F rfl rfl rfl g28 (o_val F (r_len_slice F slc_Entries.und rfl) rfl ?_); clear F a; intro a F
          refine l_guard F rfl rfl rfl g28 (o_val F (r_gtr_i64 F rfl rfl) rfl ?_); clear F a; intro a F
          refine l_guard F rfl rfl rfl g28 (o_val F (r_move F rfl) rfl ?_); clear F a; intro a F
          refine c_split F (i := 33) rfl (fun g33 => ?_) (fun g33 => ?_)
          · skip
            iterate 3 (refine l_skip F rfl rfl rfl g33 rfl rfl ?_; clear F a; intro a F)
            refine l_guard F rfl rfl rfl g28 (o_val F (r_pick_t F rfl g33 rfl) rfl ?_); clear F a; intro a F
            refine l_guard F rfl rfl rfl g24 (o_val F (r_pick_t F rfl g28 rfl) rfl ?_); clear F a; intro a F
            refine l_step rfl (o_val F (r_pick_f F rfl g24 rfl) rfl ?_); clear F a; intro a F
            refine l_nil ?_
            refine hK4 _ _ ?_
            refine c_true F rfl rfl ?_
            refine c_seq (fun K8 hK8 => ?_)
            refine wp_region_lit ?_
            refine l_step rfl (o_val F (r_move F rfl) rfl ?_); clear F a; intro a F
            refine l_step rfl (o_callV M F (us := []) (cs := []) rfl rfl (c_merge_Apply_1 M.imm) rfl ?_); clear F a; intro a W11 v11 G11 hp11 M E11 F
            subst hp11
            refine l_step rfl (o_val F (r_extract F rfl rfl) rfl ?_); clear F a; intro a F
            refine l_step rfl (o_val F (r_extract F rfl rfl) rfl ?_); clear F a; intro a F
            refine l_step rfl (o_storeA M F rfl rfl agg_State.size (by repeat (first | exact Upd.here _ _ _ _ _ | apply Upd.there)) (by rfl) (by rfl) (by rfl) ?_); clear F a; intro a W12 M F
            refine l_step rfl (o_val F (r_assign F rfl) rfl ?_); clear F a; intro a F
            refine l_nil ?_
            refine hK8 _ _ ?_
            refine wp_ret ?_
            exact ret2 Try.results52 M F (rv_cell M F rfl (by repeat (first | exact List.mem_cons_self | apply List.mem_cons_of_mem)) agg_State rfl) (rv_tmp F rfl) (⟨Sl.nil, by clear hI M F hK1 hK2 hK3 hK4 hK8; simp_all [pApply, pEnd, PState.zero, -UInt8.not_le, -UInt8.not_lt, -UInt32.not_le, -UInt32.not_lt, -Int.not_lt, -Int.not_le, -Nat.not_lt, -Nat.not_le], by clear hI M F hK1 hK2 hK3 hK4 hK8; simp_all [pApply, pEnd, PState.zero, -UInt8.not_le, -UInt8.not_lt, -UInt32.not_le, -UInt32.not_lt, -Int.not_lt, -Int.not_le, -Nat.not_lt, -Nat.not_le] <;> exact Ens.nil _⟩)
          · skip
            refine l_guard F rfl rfl rfl g33 (o_val F (r_fieldAddr F rfl fld_Diff_1) rfl ?_); clear F a; intro a F
            refine l_guard F rfl rfl rfl g33 (o_val F (r_load1 M F rfl (by repeat (first | exact List.mem_cons_self | apply List.mem_cons_of_mem)) sca_u32 rfl) rfl ?_); clear F a; intro a F
            refine l_guard F rfl rfl rfl g33 (o_val F (r_neq_u32 F (y := 0) rfl rfl) rfl ?_); clear F a; intro a F
            refine l_guard F rfl rfl rfl g28 (o_val F (r_pick_f F rfl g33 rfl) rfl ?_); clear F a; intro a F
            refine l_guard F rfl rfl rfl g24 (o_val F (r_pick_t F rfl g28 rfl) rfl ?_); clear F a; intro a F
            refine l_step rfl (o_val F (r_pick_f F rfl g24 rfl) rfl ?_); clear F a; intro a F
            refine l_nil ?_
            refine hK4 _ _ ?_
            refine c_cond F rfl (fun g39 => ?_) (fun g39 => ?_)
            · skip
              refine c_seq (fun K9 hK9 => ?_)
              refine wp_region_lit ?_
              refine l_step rfl (o_val F (r_move F rfl) rfl ?_); clear F a; intro a F
              refine l_step rfl (o_callV M F (us := []) (cs := []) rfl rfl (c_merge_Apply_1 M.imm) rfl ?_); clear F a; intro a W13 v13 G13 hp13 M E13 F
              subst hp13
              refine l_step rfl (o_val F (r_extract F rfl rfl) rfl ?_); clear F a; intro a F
              refine l_step rfl (o_val F (r_extract F rfl rfl) rfl ?_); clear F a; intro a F
              refine l_step rfl (o_storeA M F rfl rfl agg_State.size (by repeat (first | exact Upd.here _ _ _ _ _ | apply Upd.there)) (by rfl) (by rfl) (by rfl) ?_); clear F a; intro a W14 M F
              refine l_step rfl (o_val F (r_assign F rfl) rfl ?_); clear F a; intro a F
              refine l_nil ?_
              refine hK9 _ _ ?_
              refine wp_ret ?_
              exact ret2 Try.results52 M F (rv_cell M F rfl (by repeat (first | exact List.mem_cons_self | apply List.mem_cons_of_mem)) agg_State rfl) (rv_tmp F rfl) (⟨Sl.nil, by clear hI M F hK1 hK2 hK3 hK4 hK9; simp_all [pApply, pEnd, PState.zero, -UInt8.not_le, -UInt8.not_lt, -UInt32.not_le, -UInt32.not_lt, -Int.not_lt, -Int.not_le, -Nat.not_lt, -Nat.not_le], by clear hI M F hK1 hK2 hK3 hK4 hK9; simp_all [pApply, pEnd, PState.zero, -UInt8.not_le, -UInt8.not_lt, -UInt32.not_le, -UInt32.not_lt, -Int.not_lt, -Int.not_le, -Nat.not_lt, -Nat.not_le] <;> exact Ens.nil _⟩)
            · skip
              refine wp_skip ?_
              refine hK3 _ _ ?_
              refine c_seq (fun K10 hK10 => ?_)
              refine c_seq (fun K11 hK11 => ?_)
              refine wp_region_lit ?_
              refine l_step rfl (o_val F (r_fieldAddr F rfl fld_Diff_0) rfl ?_); clear F a; intro a F
              refine l_step rfl (o_val F (r_load1 M F rfl (by repeat (first | exact List.mem_cons_self | apply List.mem_cons_of_mem)) sca_int rfl) rfl ?_); clear F a; intro a F
              refine l_step rfl (o_val F (r_eql_i64 F rfl rfl) rfl ?_); clear F a; intro a F
              refine l_nil ?_
              refine hK11 _ _ ?_
              refine c_cond F rfl (fun g46 => ?_) (fun g46 => ?_)
              · skip
                refine c_seq (fun K12 hK12 => ?_)
                refine c_seq (fun K13 hK13 => ?_)
                refine wp_region_lit ?_
                refine l_step rfl (o_val F (r_fieldAddr F rfl fld_Diff_3) rfl ?_); clear F a; intro a F
                refine l_step rfl (o_val F (r_load M F rfl (by repeat (first | exact List.mem_cons_self | apply List.mem_cons_of_mem)) agg_State g_Diff_3) rfl ?_); clear F a; intro a F
                refine l_step rfl (o_call M F rfl (c_pglog_Is M.imm (hl2.mono M.gl)) rfl ?_); clear F a; intro a W15 v15 G15 hp15 M E15 F
                subst hp15
                refine l_step rfl (o_val F (r_not F rfl) rfl ?_); clear F a; intro a F
                refine l_nil ?_
                refine hK13 _ _ ?_
                refine c_cond F rfl (fun g50 => ?_) (fun g50 => ?_)
                · skip
                  refine c_seq (fun K14 hK14 => ?_)
                  refine wp_region_lit ?_
                  refine l_step rfl (o_val F (r_move F rfl) rfl ?_); clear F a; intro a F
                  refine l_step rfl (o_callV M F (us := []) (cs := []) rfl rfl (c_merge_Apply_1 M.imm) rfl ?_); clear F a; intro a W16 v16 G16 hp16 M E16 F
                  subst hp16
                  refine l_step rfl (o_val F (r_extract F rfl rfl) rfl ?_); clear F a; intro a F
                  refine l_step rfl (o_val F (r_extract F rfl rfl) rfl ?_); clear F a; intro a F
                  refine l_step rfl (o_storeA M F rfl rfl agg_State.size (by repeat (first | exact Upd.here _ _ _ _ _ | apply Upd.there)) (by rfl) (by rfl) (by rfl) ?_); clear F a; intro a W17 M F
                  refine l_step rfl (o_val F (r_assign F rfl) rfl ?_); clear F a; intro a F
                  refine l_nil ?_
                  refine hK14 _ _ ?_
                  refine wp_ret ?_
                  exact ret2 Try.results52 M F (rv_cell M F rfl (by repeat (first | exact List.mem_cons_self | apply List.mem_cons_of_mem)) agg_State rfl) (rv_tmp F rfl) (⟨Sl.nil, by clear hI M F hK1 hK2 hK3 hK4 hK10 hK11 hK12 hK13 hK14; simp_all [pApply, pEnd, PState.zero, -UInt8.not_le, -UInt8.not_lt, -UInt32.not_le, -UInt32.not_lt, -Int.not_lt, -Int.not_le, -Nat.not_lt, -Nat.not_le], by clear hI M F hK1 hK2 hK3 hK4 hK10 hK11 hK12 hK13 hK14; simp_all [pApply, pEnd, PState.zero, -UInt8.not_le, -UInt8.not_lt, -UInt32.not_le, -UInt32.not_lt, -Int.not_lt, -Int.not_le, -Nat.not_lt, -Nat.not_le] <;> exact Ens.nil _⟩)
                · skip
                  refine wp_skip ?_
                  refine hK12 _ _ ?_
                  refine c_seq (fun K15 hK15 => ?_)
                  refine wp_region_lit ?_
                  refine l_step rfl (o_val F (r_fieldAddr F rfl fld_Diff_3) rfl ?_); clear F a; intro a F
                  refine l_step rfl (o_val F (r_load M F rfl (by repeat (first | exact List.mem_cons_self | apply List.mem_cons_of_mem)) agg_State g_Diff_3) rfl ?_); clear F a; intro a F
                  refine l_step rfl (o_call M F rfl (c_pglog_Copy M.imm (hl2.mono M.gl) (by have := is_len (s := d.whole) (by simpa using g50); omega)) rfl ?_); clear F a; intro a W18 v18 G18 hp18 M E18 F
                  obtain ⟨l3, rfl, hl3⟩ := hp18
                  refine l_step rfl (o_storeA M F rfl rfl agg_State.size (by repeat (first | exact Upd.here _ _ _ _ _ | apply Upd.there)) (by rfl) (by rfl) (by rfl) ?_); clear F a; intro a W19 M F
                  refine l_step rfl (o_val F (r_assign F rfl) rfl ?_); clear F a; intro a F
                  refine l_nil ?_
                  refine hK15 _ _ ?_
                  refine wp_ret ?_
                  exact ret2 Try.results52 M F (rv_cell M F rfl (by repeat (first | exact List.mem_cons_self | apply List.mem_cons_of_mem)) agg_State rfl) (rv_tmp F rfl) (⟨l3, by clear hI M F hK1 hK2 hK3 hK4 hK10 hK11 hK12 hK13 hK15; simp_all [pApply, pEnd, PState.zero, -UInt8.not_le, -UInt8.not_lt, -UInt32.not_le, -UInt32.not_lt, -Int.not_lt, -Int.not_le, -Nat.not_lt, -Nat.not_le], by clear hI M F hK1 hK2 hK3 hK4 hK10 hK11 hK12 hK13 hK15; simp_all [pApply, pEnd, PState.zero, -UInt8.not_le, -UInt8.not_lt, -UInt32.not_le, -UInt32.not_lt, -Int.not_lt, -Int.not_le, -Nat.not_lt, -Nat.not_le]⟩)
              · skip
                refine wp_skip ?_
                refine hK10 _ _ ?_
                refine c_seq (fun K16 hK16 => ?_)
                refine wp_region_lit ?_
                refine l_step rfl (o_val F (r_load M F rfl (by repeat (first | exact List.mem_cons_self | apply List.mem_cons_of_mem)) agg_State (seg_all rfl)) rfl ?_); clear F a; intro a F
                refine l_step rfl (o_alloc M F zer_State rfl ?_); clear F a; intro a W20 b4 M F
                refine l_step rfl (o_storeA M F rfl rfl agg_State.size (by repeat (first | exact Upd.here _ _ _ _ _ | apply Upd.there)) (by rfl) (by rfl) (by rfl) ?_); clear F a; intro a W21 M F
                refine l_nil ?_
                refine hK16 _ _ ?_
                refine c_seq (fun K17 hK17 => ?_)
                refine c_seq (fun K18 hK18 => ?_)
                refine wp_region_lit ?_
                refine l_step rfl (o_val F (r_fieldAddr F rfl fld_Diff_0) rfl ?_); clear F a; intro a F
                refine l_step rfl (o_val F (r_load1 M F rfl (by repeat (first | exact List.mem_cons_self | apply List.mem_cons_of_mem)) sca_int rfl) rfl ?_); clear F a; intro a F
                refine l_step rfl (o_val F (r_eql_i64 F rfl rfl) rfl ?_); clear F a; intro a F
                refine l_nil ?_
                refine hK18 _ _ ?_
                refine c_cond F rfl (fun g61 => ?_) (fun g61 => ?_)
                · skip
                  refine c_seq (fun K19 hK19 => ?_)
                  refine wp_region_lit ?_
                  refine l_step rfl (o_val F (r_load M F rfl (by repeat (first | exact List.mem_cons_self | apply List.mem_cons_of_mem)) agg_State (seg_all rfl)) rfl ?_); clear F a; intro a F
                  refine l_step rfl (o_val F (r_fieldAddr F rfl fld_Diff_1) rfl ?_); clear F a; intro a F
                  refine l_step rfl (o_val F (r_load1 M F rfl (by repeat (first | exact List.mem_cons_self | apply List.mem_cons_of_mem)) sca_u32 rfl) rfl ?_); clear F a; intro a F
                  refine l_step rfl (o_call M F rfl (c_pglog_Cut M.imm (hl.mono M.gl)) rfl ?_); clear F a; intro a W22 v22 G22 hp22 M E22 F
                  obtain ⟨l4, rfl, hl4⟩ := hp22
                  refine l_step rfl (o_val F (r_move F rfl) rfl ?_); clear F a; intro a F
                  refine l_step rfl (o_val F (r_extract F rfl rfl) rfl ?_); clear F a; intro a F
                  refine l_step rfl (o_val F (r_extract F rfl rfl) rfl ?_); clear F a; intro a F
                  refine l_step rfl (o_alloc M F zer_State rfl ?_); clear F a; intro a W23 b5 M F
                  refine l_step rfl (o_storeA M F rfl rfl agg_State.size (by repeat (first | exact Upd.here _ _ _ _ _ | apply Upd.there)) (by rfl) (by rfl) (by rfl) ?_); clear F a; intro a W24 M F
                  refine l_step rfl (o_val F (r_assign F rfl) rfl ?_); clear F a; intro a F
                  refine l_nil ?_
                  refine hK19 _ _ ?_
                  refine c_seq (fun K20 hK20 => ?_)
                  refine c_seq (fun K21 hK21 => ?_)
                  refine wp_region_lit ?_
                  refine l_step rfl (o_val F (r_move F rfl) rfl ?_); clear F a; intro a F
                  refine l_step rfl (o_val F (r_neq_i64 F rfl rfl) rfl ?_); clear F a; intro a F
                  refine l_nil ?_
                  refine hK21 _ _ ?_
                  refine c_cond F rfl (fun g70 => ?_) (fun g70 => ?_)
                  · skip
                    refine c_seq (fun K22 hK22 => ?_)
                    refine wp_region_lit ?_
                    refine l_step rfl (o_val F (r_move F rfl) rfl ?_); clear F a; intro a F
                    refine l_step rfl (o_callV M F (us := []) (cs := []) rfl rfl (c_merge_Apply_1 M.imm) rfl ?_); clear F a; intro a W25 v25 G25 hp25 M E25 F
                    have hl4 := hl4.mono E25.gl
                    subst hp25
                    refine l_step rfl (o_val F (r_extract F rfl rfl) rfl ?_); clear F a; intro a F
                    refine l_step rfl (o_val F (r_extract F rfl rfl) rfl ?_); clear F a; intro a F
                    refine l_step rfl (o_storeA M F rfl rfl agg_State.size (by repeat (first | exact Upd.here _ _ _ _ _ | apply Upd.there)) (by rfl) (by rfl) (by rfl) ?_); clear F a; intro a W26 M F
                    refine l_step rfl (o_val F (r_assign F rfl) rfl ?_); clear F a; intro a F
                    refine l_nil ?_
                    refine hK22 _ _ ?_
                    refine wp_ret ?_
                    exact ret2 Try.results52 M F (rv_cell M F rfl (by repeat (first | exact List.mem_cons_self | apply List.mem_cons_of_mem)) agg_State rfl) (rv_tmp F rfl) (⟨Sl.nil, by clear hI M F hK1 hK2 hK3 hK4 hK10 hK11 hK16 hK17 hK18 hK19 hK20 hK21 hK22; simp_all [pApply, pEnd, PState.zero, -UInt8.not_le, -UInt8.not_lt, -UInt32.not_le, -UInt32.not_lt, -Int.not_lt, -Int.not_le, -Nat.not_lt, -Nat.not_le], by clear hI M F hK1 hK2 hK3 hK4 hK10 hK11 hK16 hK17 hK18 hK19 hK20 hK21 hK22; simp_all [pApply, pEnd, PState.zero, -UInt8.not_le, -UInt8.not_lt, -UInt32.not_le, -UInt32.not_lt, -Int.not_lt, -Int.not_le, -Nat.not_lt, -Nat.not_le] <;> exact Ens.nil _⟩)
                  · skip
                    refine wp_skip ?_
                    refine hK20 _ _ ?_
                    refine c_seq (fun K23 hK23 => ?_)
                    refine wp_region_lit ?_
                    refine l_step rfl (o_val F (r_load M F rfl (by repeat (first | exact List.mem_cons_self | apply List.mem_cons_of_mem)) agg_State (seg_all rfl)) rfl ?_); clear F a; intro a F
                    refine l_step rfl (o_val F (r_fieldAddr F rfl fld_Diff_2) rfl ?_); clear F a; intro a F
                    refine l_step rfl (o_val F (r_load1 M F rfl (by repeat (first | exact List.mem_cons_self | apply List.mem_cons_of_mem)) sca_Entries rfl) rfl ?_); clear F a; intro a F
                    refine l_step rfl (o_call M F rfl (c_merge_added M.imm hl4 (hl1.mono M.gl)) rfl ?_); clear F a; intro a W27 v27 G27 hp27 M E27 F
                    have hl4 := hl4.mono E27.gl
                    obtain ⟨l5, rfl, hl5⟩ := hp27
                    refine l_step rfl (o_val F (r_move F rfl) rfl ?_); clear F a; intro a F
                    refine l_step rfl (o_val F (r_extract F rfl rfl) rfl ?_); clear F a; intro a F
                    refine l_step rfl (o_val F (r_extract F rfl rfl) rfl ?_); clear F a; intro a F
                    refine l_step rfl (o_storeA M F rfl rfl agg_State.size (by repeat (first | exact Upd.here _ _ _ _ _ | apply Upd.there)) (by rfl) (by rfl) (by rfl) ?_); clear F a; intro a W28 M F
                    refine l_step rfl (o_val F (r_assign F rfl) rfl ?_); clear F a; intro a F
                    refine l_nil ?_
                    refine hK23 _ _ ?_
                    refine c_seq (fun K24 hK24 => ?_)
                    refine wp_region_lit ?_
                    refine l_step rfl (o_val F (r_move F rfl) rfl ?_); clear F a; intro a F
                    refine l_step rfl (o_val F (r_neq_i64 F rfl rfl) rfl ?_); clear F a; intro a F
                    refine l_nil ?_
                    refine hK24 _ _ ?_
                    refine c_cond F rfl (fun g83 => ?_) (fun g83 => ?_)
                    · skip
                      refine c_seq (fun K25 hK25 => ?_)
                      refine wp_region_lit ?_
                      refine l_step rfl (o_val F (r_move F rfl) rfl ?_); clear F a; intro a F
                      refine l_step rfl (o_callV M F (us := []) (cs := []) rfl rfl (c_merge_Apply_1 M.imm) rfl ?_); clear F a; intro a W29 v29 G29 hp29 M E29 F
                      have hl4 := hl4.mono E29.gl
                      have hl5 := hl5.mono E29.gl
                      subst hp29
                      refine l_step rfl (o_val F (r_extract F rfl rfl) rfl ?_); clear F a; intro a F
                      refine l_step rfl (o_val F (r_extract F rfl rfl) rfl ?_); clear F a; intro a F
                      refine l_step rfl (o_storeA M F rfl rfl agg_State.size (by repeat (first | exact Upd.here _ _ _ _ _ | apply Upd.there)) (by rfl) (by rfl) (by rfl) ?_); clear F a; intro a W30 M F
                      refine l_step rfl (o_val F (r_assign F rfl) rfl ?_); clear F a; intro a F
                      refine l_nil ?_
                      refine hK25 _ _ ?_
                      refine wp_ret ?_
                      exact ret2 Try.results52 M F (rv_cell M F rfl (by repeat (first | exact List.mem_cons_self | apply List.mem_cons_of_mem)) agg_State rfl) (rv_tmp F rfl) (⟨Sl.nil, by clear hI M F hK1 hK2 hK3 hK4 hK10 hK11 hK16 hK17 hK18 hK19 hK20 hK21 hK23 hK24 hK25; simp_all [pApply, pEnd, PState.zero, -UInt8.not_le, -UInt8.not_lt, -UInt32.not_le, -UInt32.not_lt, -Int.not_lt, -Int.not_le, -Nat.not_lt, -Nat.not_le], by clear hI M F hK1 hK2 hK3 hK4 hK10 hK11 hK16 hK17 hK18 hK19 hK20 hK21 hK23 hK24 hK25; simp_all [pApply, pEnd, PState.zero, -UInt8.not_le, -UInt8.not_lt, -UInt32.not_le, -UInt32.not_lt, -Int.not_lt, -Int.not_le, -Nat.not_lt, -Nat.not_le] <;> exact Ens.nil _⟩)
                    · skip
                      refine wp_skip ?_
                      refine hK17 _ _ ?_
                      refine c_seq (fun K26 hK26 => ?_)
                      refine wp_region_lit ?_
                      refine l_step rfl (o_val F (r_load M F rfl (by repeat (first | exact List.mem_cons_self | apply List.mem_cons_of_mem)) agg_State (seg_all rfl)) rfl ?_); clear F a; intro a F
                      refine l_step rfl (o_val F (r_fieldAddr F rfl fld_Diff_3) rfl ?_); clear F a; intro a F
                      refine l_step rfl (o_val F (r_fieldAddr F rfl fld_State_2) rfl ?_); clear F a; intro a F
                      refine l_step rfl (o_val F (r_fieldAddr F rfl fld_Entry_1) rfl ?_); clear F a; intro a F
                      refine l_step rfl (o_val F (r_load1 M F rfl (by repeat (first | exact List.mem_cons_self | apply List.mem_cons_of_mem)) sca_u32 rfl) rfl ?_); clear F a; intro a F
                      refine l_step rfl (o_call M F rfl ((by first | exact c_pglog_Tail M.imm hl5 | exact c_pglog_Tail M.imm (hl.mono M.gl))) rfl ?_); clear F a; intro a W31 v31 G31 hp31 M E31 F
                      have hl4 := hl4.mono E31.gl
                      have hl5 := hl5.mono E31.gl
                      obtain ⟨l6, rfl, hl6⟩ := hp31
                      refine l_step rfl (o_val F (r_move F rfl) rfl ?_); clear F a; intro a F
                      refine l_step rfl (o_val F (r_extract F rfl rfl) rfl ?_); clear F a; intro a F
                      refine l_step rfl (o_val F (r_extract F rfl rfl) rfl ?_); clear F a; intro a F
                      refine l_step rfl (o_storeA M F rfl rfl agg_State.size (by repeat (first | exact Upd.here _ _ _ _ _ | apply Upd.there)) (by rfl) (by rfl) (by rfl) ?_); clear F a; intro a W32 M F
                      refine l_step rfl (o_val F (r_assign F rfl) rfl ?_); clear F a; intro a F
                      refine l_nil ?_
                      refine hK26 _ _ ?_
                      refine c_seq (fun K27 hK27 => ?_)
                      refine wp_region_lit ?_
                      refine l_step rfl (o_val F (r_fieldAddr F rfl fld_Diff_3) rfl ?_); clear F a; intro a F
                      refine l_step rfl (o_val F (r_fieldAddr F rfl fld_State_0) rfl ?_); clear F a; intro a F
                      refine l_step rfl (o_val F (r_load1 M F rfl (by repeat (first | exact List.mem_cons_self | apply List.mem_cons_of_mem)) sca_u32 rfl) rfl ?_); clear F a; intro a F
                      refine l_step rfl (o_val F (r_fieldAddr F rfl fld_State_0) rfl ?_); clear F a; intro a F
                      refine l_step rfl (o_store1 M F rfl rfl sca_u32 rfl rfl p_State_0 (by repeat (first | exact Upd.here _ _ _ _ _ | apply Upd.there)) ?_); clear F a; intro a W33 M F
                      refine l_nil ?_
                      refine hK27 _ _ ?_
                      refine c_seq (fun K28 hK28 => ?_)
                      refine c_seq (fun K29 hK29 => ?_)
                      refine wp_region_lit ?_
                      refine l_step rfl (o_val F (r_move F rfl) rfl ?_); clear F a; intro a F
                      refine l_step rfl (o_val F (r_neq_i64 F rfl rfl) rfl ?_); clear F a; intro a F
                      refine l_step rfl (o_val F (r_move F rfl) rfl ?_); clear F a; intro a F
                      refine c_split F (i := 103) rfl (fun g103 => ?_) (fun g103 => ?_)
                      · skip
                        iterate 8 (refine l_skip F rfl rfl rfl g103 rfl rfl ?_; clear F a; intro a F)
                        refine l_step rfl (o_val F (r_pick_t F rfl g103 rfl) rfl ?_); clear F a; intro a F
                        refine l_step rfl (o_val F (r_move F rfl) rfl ?_); clear F a; intro a F
                        iterate 3 (refine l_skip F rfl rfl rfl rfl rfl rfl ?_; clear F a; intro a F)
                        refine l_step rfl (o_val F (r_pick_t F rfl rfl rfl) rfl ?_); clear F a; intro a F
                        refine l_nil ?_
                        refine hK29 _ _ ?_
                        refine c_true F rfl rfl ?_
                        refine c_seq (fun K30 hK30 => ?_)
                        refine wp_region_lit ?_
                        refine l_step rfl (o_val F (r_move F rfl) rfl ?_); clear F a; intro a F
                        refine l_step rfl (o_callV M F (us := []) (cs := []) rfl rfl (c_merge_Apply_1 M.imm) rfl ?_); clear F a; intro a W34 v34 G34 hp34 M E34 F
                        have hl4 := hl4.mono E34.gl
                        have hl5 := hl5.mono E34.gl
                        have hl6 := hl6.mono E34.gl
                        subst hp34
                        refine l_step rfl (o_val F (r_extract F rfl rfl) rfl ?_); clear F a; intro a F
                        refine l_step rfl (o_val F (r_extract F rfl rfl) rfl ?_); clear F a; intro a F
                        refine l_step rfl (o_storeA M F rfl rfl agg_State.size (by repeat (first | exact Upd.here _ _ _ _ _ | apply Upd.there)) (by rfl) (by rfl) (by rfl) ?_); clear F a; intro a W35 M F
                        refine l_step rfl (o_val F (r_assign F rfl) rfl ?_); clear F a; intro a F
                        refine l_nil ?_
                        refine hK30 _ _ ?_
                        refine wp_ret ?_
                        exact ret2 Try.results52 M F (rv_cell M F rfl (by repeat (first | exact List.mem_cons_self | apply List.mem_cons_of_mem)) agg_State rfl) (rv_tmp F rfl) (⟨Sl.nil, by clear hI M F hK1 hK2 hK3 hK4 hK10 hK11 hK16 hK17 hK18 hK19 hK20 hK21 hK23 hK24 hK26 hK27 hK28 hK29 hK30; simp_all [pApply, pEnd, PState.zero, -UInt8.not_le, -UInt8.not_lt, -UInt32.not_le, -UInt32.not_lt, -Int.not_lt, -Int.not_le, -Nat.not_lt, -Nat.not_le], by clear hI M F hK1 hK2 hK3 hK4 hK10 hK11 hK16 hK17 hK18 hK19 hK20 hK21 hK23 hK24 hK26 hK27 hK28 hK29 hK30; simp_all [pApply, pEnd, PState.zero, -UInt8.not_le, -UInt8.not_lt, -UInt32.not_le, -UInt32.not_lt, -Int.not_lt, -Int.not_le, -Nat.not_lt, -Nat.not_le] <;> exact Ens.nil _⟩)
                      · skip
                        refine l_guard F rfl rfl rfl g103 (o_val F (r_fieldAddr F rfl fld_State_2) rfl ?_); clear F a; intro a F
                        refine l_guard F rfl rfl rfl g103 (o_val F (r_fieldAddr F rfl fld_Entry_0) rfl ?_); clear F a; intro a F
                        refine l_guard F rfl rfl rfl g103 (o_val F (r_load1 M F rfl (by repeat (first | exact List.mem_cons_self | apply List.mem_cons_of_mem)) sca_u32 rfl) rfl ?_); clear F a; intro a F
                        refine l_guard F rfl rfl rfl g103 (o_val F (r_fieldAddr F rfl fld_Diff_3) rfl ?_); clear F a; intro a F
                        refine l_guard F rfl rfl rfl g103 (o_val F (r_fieldAddr F rfl fld_State_2) rfl ?_); clear F a; intro a F
                        refine l_guard F rfl rfl rfl g103 (o_val F (r_fieldAddr F rfl fld_Entry_0) rfl ?_); clear F a; intro a F
                        refine l_guard F rfl rfl rfl g103 (o_val F (r_load1 M F rfl (by repeat (first | exact List.mem_cons_self | apply List.mem_cons_of_mem)) sca_u32 rfl) rfl ?_); clear F a; intro a F
                        refine l_guard F rfl rfl rfl g103 (o_val F (r_neq_u32 F rfl rfl) rfl ?_); clear F a; intro a F
                        refine l_step rfl (o_val F (r_pick_f F rfl g103 rfl) rfl ?_); clear F a; intro a F
                        refine l_step rfl (o_val F (r_move F rfl) rfl ?_); clear F a; intro a F
                        refine c_split F (i := 113) rfl (fun g113 => ?_) (fun g113 => ?_)
                        · skip
                          iterate 3 (refine l_skip F rfl rfl rfl g113 rfl rfl ?_; clear F a; intro a F)
                          refine l_step rfl (o_val F (r_pick_t F rfl g113 rfl) rfl ?_); clear F a; intro a F
                          refine l_nil ?_
                          refine hK29 _ _ ?_
                          refine c_true F rfl rfl ?_
                          refine c_seq (fun K31 hK31 => ?_)
                          refine wp_region_lit ?_
                          refine l_step rfl (o_val F (r_move F rfl) rfl ?_); clear F a; intro a F
                          refine l_step rfl (o_callV M F (us := []) (cs := []) rfl rfl (c_merge_Apply_1 M.imm) rfl ?_); clear F a; intro a W36 v36 G36 hp36 M E36 F
                          have hl4 := hl4.mono E36.gl
                          have hl5 := hl5.mono E36.gl
                          have hl6 := hl6.mono E36.gl
                          subst hp36
                          refine l_step rfl (o_val F (r_extract F rfl rfl) rfl ?_); clear F a; intro a F
                          refine l_step rfl (o_val F (r_extract F rfl rfl) rfl ?_); clear F a; intro a F
                          refine l_step rfl (o_storeA M F rfl rfl agg_State.size (by repeat (first | exact Upd.here _ _ _ _ _ | apply Upd.there)) (by rfl) (by rfl) (by rfl) ?_); clear F a; intro a W37 M F
                          refine l_step rfl (o_val F (r_assign F rfl) rfl ?_); clear F a; intro a F
                          refine l_nil ?_
                          refine hK31 _ _ ?_
                          refine wp_ret ?_
                          exact ret2 Try.results52 M F (rv_cell M F rfl (by repeat (first | exact List.mem_cons_self | apply List.mem_cons_of_mem)) agg_State rfl) (rv_tmp F rfl) (⟨Sl.nil, by clear hI M F hK1 hK2 hK3 hK4 hK10 hK11 hK16 hK17 hK18 hK19 hK20 hK21 hK23 hK24 hK26 hK27 hK28 hK29 hK31; simp_all [pApply, pEnd, PState.zero, -UInt8.not_le, -UInt8.not_lt, -UInt32.not_le, -UInt32.not_lt, -Int.not_lt, -Int.not_le, -Nat.not_lt, -Nat.not_le], by clear hI M F hK1 hK2 hK3 hK4 hK10 hK11 hK16 hK17 hK18 hK19 hK20 hK21 hK23 hK24 hK26 hK27 hK28 hK29 hK31; simp_all [pApply, pEnd, PState.zero, -UInt8.not_le, -UInt8.not_lt, -UInt32.not_le, -UInt32.not_lt, -Int.not_lt, -Int.not_le, -Nat.not_lt, -Nat.not_le] <;> exact Ens.nil _⟩)
                        · skip
                          refine l_guard F rfl rfl rfl g113 (o_val F (r_load M F rfl (by repeat (first | exact List.mem_cons_self | apply List.mem_cons_of_mem)) agg_State (seg_all rfl)) rfl ?_); clear F a; intro a F
                          refine l_guard F rfl rfl rfl g113 (o_call M F rfl (c_pglog_Is (s := { (pTail _ d.whole.tail.n).1 with started := d.whole.started }) M.imm hl6) rfl ?_); clear F a; intro a W38 v38 G38 hp38 M E38 F
                          have hl4 := hl4.mono E38.gl
                          have hl5 := hl5.mono E38.gl
                          have hl6 := hl6.mono E38.gl
                          subst hp38
                          refine l_guard F rfl rfl rfl g113 (o_val F (r_not F rfl) rfl ?_); clear F a; intro a F
                          refine l_step rfl (o_val F (r_pick_f F rfl g113 rfl) rfl ?_); clear F a; intro a F
                          refine l_nil ?_
                          refine hK29 _ _ ?_
                          refine c_cond F rfl (fun g117 => ?_) (fun g117 => ?_)
                          · skip
                            refine c_seq (fun K32 hK32 => ?_)
                            refine wp_region_lit ?_
                            refine l_step rfl (o_val F (r_move F rfl) rfl ?_); clear F a; intro a F
                            refine l_step rfl (o_callV M F (us := []) (cs := []) rfl rfl (c_merge_Apply_1 M.imm) rfl ?_); clear F a; intro a W39 v39 G39 hp39 M E39 F
                            have hl4 := hl4.mono E39.gl
                            have hl5 := hl5.mono E39.gl
                            have hl6 := hl6.mono E39.gl
                            subst hp39
                            refine l_step rfl (o_val F (r_extract F rfl rfl) rfl ?_); clear F a; intro a F
                            refine l_step rfl (o_val F (r_extract F rfl rfl) rfl ?_); clear F a; intro a F
                            refine l_step rfl (o_storeA M F rfl rfl agg_State.size (by repeat (first | exact Upd.here _ _ _ _ _ | apply Upd.there)) (by rfl) (by rfl) (by rfl) ?_); clear F a; intro a W40 M F
                            refine l_step rfl (o_val F (r_assign F rfl) rfl ?_); clear F a; intro a F
                            refine l_nil ?_
                            refine hK32 _ _ ?_
                            refine wp_ret ?_
                            exact ret2 Try.results52 M F (rv_cell M F rfl (by repeat (first | exact List.mem_cons_self | apply List.mem_cons_of_mem)) agg_State rfl) (rv_tmp F rfl) (⟨Sl.nil, by clear hI M F hK1 hK2 hK3 hK4 hK10 hK11 hK16 hK17 hK18 hK19 hK20 hK21 hK23 hK24 hK26 hK27 hK28 hK29 hK32; simp_all [pApply, pEnd, PState.zero, -UInt8.not_le, -UInt8.not_lt, -UInt32.not_le, -UInt32.not_lt, -Int.not_lt, -Int.not_le, -Nat.not_lt, -Nat.not_le], by clear hI M F hK1 hK2 hK3 hK4 hK10 hK11 hK16 hK17 hK18 hK19 hK20 hK21 hK23 hK24 hK26 hK27 hK28 hK29 hK32; simp_all [pApply, pEnd, PState.zero, -UInt8.not_le, -UInt8.not_lt, -UInt32.not_le, -UInt32.not_lt, -Int.not_lt, -Int.not_le, -Nat.not_lt, -Nat.not_le] <;> exact Ens.nil _⟩)
                          · skip
                            refine wp_skip ?_
                            refine hK28 _ _ ?_
                            refine c_seq (fun K33 hK33 => ?_)
                            refine wp_region_lit ?_
                            refine l_step rfl (o_val F (r_load M F rfl (by repeat (first | exact List.mem_cons_self | apply List.mem_cons_of_mem)) agg_State (seg_all rfl)) rfl ?_); clear F a; intro a F
                            refine l_step rfl (o_storeA M F rfl rfl agg_State.size (by repeat (first | exact Upd.here _ _ _ _ _ | apply Upd.there)) (by rfl) (by rfl) (by rfl) ?_); clear F a; intro a W41 M F
                            refine l_step rfl (o_val F (r_assign F rfl) rfl ?_); clear F a; intro a F
                            refine l_nil ?_
                            refine hK33 _ _ ?_
                            refine wp_ret ?_
                            exact ret2 Try.results52 M F (rv_cell M F rfl (by repeat (first | exact List.mem_cons_self | apply List.mem_cons_of_mem)) agg_State rfl) (rv_tmp F rfl) (⟨l6, by clear hI M F hK1 hK2 hK3 hK4 hK10 hK11 hK16 hK17 hK18 hK19 hK20 hK21 hK23 hK24 hK26 hK27 hK28 hK29 hK33; simp_all [pApply, pEnd, PState.zero, -UInt8.not_le, -UInt8.not_lt, -UInt32.not_le, -UInt32.not_lt, -Int.not_lt, -Int.not_le, -Nat.not_lt, -Nat.not_le], by clear hI M F hK1 hK2 hK3 hK4 hK10 hK11 hK16 hK17 hK18 hK19 hK20 hK21 hK23 hK24 hK26 hK27 hK28 hK29 hK33; simp_all [pApply, pEnd, PState.zero, -UInt8.not_le, -UInt8.not_lt, -UInt32.not_le, -UInt32.not_lt, -Int.not_lt, -Int.not_le, -Nat.not_lt, -Nat.not_le]⟩)
                · skip
                  refine wp_skip ?_
                  refine hK17 _ _ ?_
                  refine c_seq (fun K34 hK34 => ?_)
                  refine wp_region_lit ?_
                  refine l_step rfl (o_val F (r_load M F rfl (by repeat (first | exact List.mem_cons_self | apply List.mem_cons_of_mem)) agg_State (seg_all rfl)) rfl ?_); clear F a; intro a F
                  refine l_step rfl (o_val F (r_fieldAddr F rfl fld_Diff_3) rfl ?_); clear F a; intro a F
                  refine l_step rfl (o_val F (r_fieldAddr F rfl fld_State_2) rfl ?_); clear F a; intro a F
                  refine l_step rfl (o_val F (r_fieldAddr F rfl fld_Entry_1) rfl ?_); clear F a; intro a F
                  refine l_step rfl (o_val F (r_load1 M F rfl (by repeat (first | exact List.mem_cons_self | apply List.mem_cons_of_mem)) sca_u32 rfl) rfl ?_); clear F a; intro a F
                  refine l_step rfl (o_call M F rfl ((by first | exact c_pglog_Tail M.imm hl5 | exact c_pglog_Tail M.imm (hl.mono M.gl))) rfl ?_); clear F a; intro a W42 v42 G42 hp42 M E42 F
                  obtain ⟨l6, rfl, hl6⟩ := hp42
                  refine l_step rfl (o_val F (r_move F rfl) rfl ?_); clear F a; intro a F
                  refine l_step rfl (o_val F (r_extract F rfl rfl) rfl ?_); clear F a; intro a F
                  refine l_step rfl (o_val F (r_extract F rfl rfl) rfl ?_); clear F a; intro a F
                  refine l_step rfl (o_storeA M F rfl rfl agg_State.size (by repeat (first | exact Upd.here _ _ _ _ _ | apply Upd.there)) (by rfl) (by rfl) (by rfl) ?_); clear F a; intro a W43 M F
                  refine l_step rfl (o_val F (r_assign F rfl) rfl ?_); clear F a; intro a F
                  refine l_nil ?_
                  refine hK34 _ _ ?_
                  refine c_seq (fun K35 hK35 => ?_)
                  refine wp_region_lit ?_
                  refine l_step rfl (o_val F (r_fieldAddr F rfl fld_Diff_3) rfl ?_); clear F a; intro a F
                  refine l_step rfl (o_val F (r_fieldAddr F rfl fld_State_0) rfl ?_); clear F a; intro a F
                  refine l_step rfl (o_val F (r_load1 M F rfl (by repeat (first | exact List.mem_cons_self | apply List.mem_cons_of_mem)) sca_u32 rfl) rfl ?_); clear F a; intro a F
                  refine l_step rfl (o_val F (r_fieldAddr F rfl fld_State_0) rfl ?_); clear F a; intro a F
                  refine l_step rfl (o_store1 M F rfl rfl sca_u32 rfl rfl p_State_0 (by repeat (first | exact Upd.here _ _ _ _ _ | apply Upd.there)) ?_); clear F a; intro a W44 M F
                  refine l_nil ?_
                  refine hK35 _ _ ?_
                  refine c_seq (fun K36 hK36 => ?_)
                  refine c_seq (fun K37 hK37 => ?_)
                  refine wp_region_lit ?_
                  refine l_step rfl (o_val F (r_move F rfl) rfl ?_); clear F a; intro a F
                  refine l_step rfl (o_val F (r_neq_i64 F rfl rfl) rfl ?_); clear F a; intro a F
                  refine l_step rfl (o_val F (r_move F rfl) rfl ?_); clear F a; intro a F
                  refine c_split F (i := 103) rfl (fun g103 => ?_) (fun g103 => ?_)
                  · skip
                    iterate 8 (refine l_skip F rfl rfl rfl g103 rfl rfl ?_; clear F a; intro a F)
                    refine l_step rfl (o_val F (r_pick_t F rfl g103 rfl) rfl ?_); clear F a; intro a F
                    refine l_step rfl (o_val F (r_move F rfl) rfl ?_); clear F a; intro a F
                    iterate 3 (refine l_skip F rfl rfl rfl rfl rfl rfl ?_; clear F a; intro a F)
                    refine l_step rfl (o_val F (r_pick_t F rfl rfl rfl) rfl ?_); clear F a; intro a F
                    refine l_nil ?_
                    refine hK37 _ _ ?_
                    refine c_true F rfl rfl ?_
                    refine c_seq (fun K38 hK38 => ?_)
                    refine wp_region_lit ?_
                    refine l_step rfl (o_val F (r_move F rfl) rfl ?_); clear F a; intro a F
                    refine l_step rfl (o_callV M F (us := []) (cs := []) rfl rfl (c_merge_Apply_1 M.imm) rfl ?_); clear F a; intro a W45 v45 G45 hp45 M E45 F
                    have hl6 := hl6.mono E45.gl
                    subst hp45
                    refine l_step rfl (o_val F (r_extract F rfl rfl) rfl ?_); clear F a; intro a F
                    refine l_step rfl (o_val F (r_extract F rfl rfl) rfl ?_); clear F a; intro a F
                    refine l_step rfl (o_storeA M F rfl rfl agg_State.size (by repeat (first | exact Upd.here _ _ _ _ _ | apply Upd.there)) (by rfl) (by rfl) (by rfl) ?_); clear F a; intro a W46 M F
                    refine l_step rfl (o_val F (r_assign F rfl) rfl ?_); clear F a; intro a F
                    refine l_nil ?_
                    refine hK38 _ _ ?_
                    refine wp_ret ?_
                    exact ret2 Try.results52 M F (rv_cell M F rfl (by repeat (first | exact List.mem_cons_self | apply List.mem_cons_of_mem)) agg_State rfl) (rv_tmp F rfl) (⟨Sl.nil, by clear hI M F hK1 hK2 hK3 hK4 hK10 hK11 hK16 hK17 hK18 hK34 hK35 hK36 hK37 hK38; simp_all [pApply, pEnd, PState.zero, -UInt8.not_le, -UInt8.not_lt, -UInt32.not_le, -UInt32.not_lt, -Int.not_lt, -Int.not_le, -Nat.not_lt, -Nat.not_le], by clear hI M F hK1 hK2 hK3 hK4 hK10 hK11 hK16 hK17 hK18 hK34 hK35 hK36 hK37 hK38; simp_all [pApply, pEnd, PState.zero, -UInt8.not_le, -UInt8.not_lt, -UInt32.not_le, -UInt32.not_lt, -Int.not_lt, -Int.not_le, -Nat.not_lt, -Nat.not_le] <;> exact Ens.nil _⟩)
                  · skip
                    refine l_guard F rfl rfl rfl g103 (o_val F (r_fieldAddr F rfl fld_State_2) rfl ?_); clear F a; intro a F
                    refine l_guard F rfl rfl rfl g103 (o_val F (r_fieldAddr F rfl fld_Entry_0) rfl ?_); clear F a; intro a F
                    refine l_guard F rfl rfl rfl g103 (o_val F (r_load1 M F rfl (by repeat (first | exact List.mem_cons_self | apply List.mem_cons_of_mem)) sca_u32 rfl) rfl ?_); clear F a; intro a F
                    refine l_guard F rfl rfl rfl g103 (o_val F (r_fieldAddr F rfl fld_Diff_3) rfl ?_); clear F a; intro a F
                    refine l_guard F rfl rfl rfl g103 (o_val F (r_fieldAddr F rfl fld_State_2) rfl ?_); clear F a; intro a F
                    refine l_guard F rfl rfl rfl g103 (o_val F (r_fieldAddr F rfl fld_Entry_0) rfl ?_); clear F a; intro a F
                    refine l_guard F rfl rfl rfl g103 (o_val F (r_load1 M F rfl (by repeat (first | exact List.mem_cons_self | apply List.mem_cons_of_mem)) sca_u32 rfl) rfl ?_); clear F a; intro a F
                    refine l_guard F rfl rfl rfl g103 (o_val F (r_neq_u32 F rfl rfl) rfl ?_); clear F a; intro a F
                    refine l_step rfl (o_val F (r_pick_f F rfl g103 rfl) rfl ?_); clear F a; intro a F
                    refine l_step rfl (o_val F (r_move F rfl) rfl ?_); clear F a; intro a F
                    refine c_split F (i := 113) rfl (fun g113 => ?_) (fun g113 => ?_)
                    · skip
                      iterate 3 (refine l_skip F rfl rfl rfl g113 rfl rfl ?_; clear F a; intro a F)
                      refine l_step rfl (o_val F (r_pick_t F rfl g113 rfl) rfl ?_); clear F a; intro a F
                      refine l_nil ?_
                      refine hK37 _ _ ?_
                      refine c_true F rfl rfl ?_
                      refine c_seq (fun K39 hK39 => ?_)
                      refine wp_region_lit ?_
                      refine l_step rfl (o_val F (r_move F rfl) rfl ?_); clear F a; intro a F
                      refine l_step rfl (o_callV M F (us := []) (cs := []) rfl rfl (c_merge_Apply_1 M.imm) rfl ?_); clear F a; intro a W47 v47 G47 hp47 M E47 F
                      have hl6 := hl6.mono E47.gl
                      subst hp47
                      refine l_step rfl (o_val F (r_extract F rfl rfl) rfl ?_); clear F a; intro a F
                      refine l_step rfl (o_val F (r_extract F rfl rfl) rfl ?_); clear F a; intro a F
                      refine l_step rfl (o_storeA M F rfl rfl agg_State.size (by repeat (first | exact Upd.here _ _ _ _ _ | apply Upd.there)) (by rfl) (by rfl) (by rfl) ?_); clear F a; intro a W48 M F
                      refine l_step rfl (o_val F (r_assign F rfl) rfl ?_); clear F a; intro a F
                      refine l_nil ?_
                      refine hK39 _ _ ?_
                      refine wp_ret ?_
                      exact ret2 Try.results52 M F (rv_cell M F rfl (by repeat (first | exact List.mem_cons_self | apply List.mem_cons_of_mem)) agg_State rfl) (rv_tmp F rfl) (⟨Sl.nil, by clear hI M F hK1 hK2 hK3 hK4 hK10 hK11 hK16 hK17 hK18 hK34 hK35 hK36 hK37 hK39; simp_all [pApply, pEnd, PState.zero, -UInt8.not_le, -UInt8.not_lt, -UInt32.not_le, -UInt32.not_lt, -Int.not_lt, -Int.not_le, -Nat.not_lt, -Nat.not_le], by clear hI M F hK1 hK2 hK3 hK4 hK10 hK11 hK16 hK17 hK18 hK34 hK35 hK36 hK37 hK39; simp_all [pApply, pEnd, PState.zero, -UInt8.not_le, -UInt8.not_lt, -UInt32.not_le, -UInt32.not_lt, -Int.not_lt, -Int.not_le, -Nat.not_lt, -Nat.not_le] <;> exact Ens.nil _⟩)
                    · skip
                      refine l_guard F rfl rfl rfl g113 (o_val F (r_load M F rfl (by repeat (first | exact List.mem_cons_self | apply List.mem_cons_of_mem)) agg_State (seg_all rfl)) rfl ?_); clear F a; intro a F
                      refine l_guard F rfl rfl rfl g113 (o_call M F rfl (c_pglog_Is (s := { (pTail _ d.whole.tail.n).1 with started := d.whole.started }) M.imm hl6) rfl ?_); clear F a; intro a W49 v49 G49 hp49 M E49 F
                      have hl6 := hl6.mono E49.gl
                      subst hp49
                      refine l_guard F rfl rfl rfl g113 (o_val F (r_not F rfl) rfl ?_); clear F a; intro a F
                      refine l_step rfl (o_val F (r_pick_f F rfl g113 rfl) rfl ?_); clear F a; intro a F
                      refine l_nil ?_
                      refine hK37 _ _ ?_
                      refine c_cond F rfl (fun g117 => ?_) (fun g117 => ?_)
                      · skip
                        refine c_seq (fun K40 hK40 => ?_)
                        refine wp_region_lit ?_
                        refine l_step rfl (o_val F (r_move F rfl) rfl ?_); clear F a; intro a F
                        refine l_step rfl (o_callV M F (us := []) (cs := []) rfl rfl (c_merge_Apply_1 M.imm) rfl ?_); clear F a; intro a W50 v50 G50 hp50 M E50 F
                        have hl6 := hl6.mono E50.gl
                        subst hp50
                        refine l_step rfl (o_val F (r_extract F rfl rfl) rfl ?_); clear F a; intro a F
                        refine l_step rfl (o_val F (r_extract F rfl rfl) rfl ?_); clear F a; intro a F
                        refine l_step rfl (o_storeA M F rfl rfl agg_State.size (by repeat (first | exact Upd.here _ _ _ _ _ | apply Upd.there)) (by rfl) (by rfl) (by rfl) ?_); clear F a; intro a W51 M F
                        refine l_step rfl (o_val F (r_assign F rfl) rfl ?_); clear F a; intro a F
                        refine l_nil ?_
                        refine hK40 _ _ ?_
                        refine wp_ret ?_
                        exact ret2 Try.results52 M F (rv_cell M F rfl (by repeat (first | exact List.mem_cons_self | apply List.mem_cons_of_mem)) agg_State rfl) (rv_tmp F rfl) (⟨Sl.nil, by clear hI M F hK1 hK2 hK3 hK4 hK10 hK11 hK16 hK17 hK18 hK34 hK35 hK36 hK37 hK40; simp_all [pApply, pEnd, PState.zero, -UInt8.not_le, -UInt8.not_lt, -UInt32.not_le, -UInt32.not_lt, -Int.not_lt, -Int.not_le, -Nat.not_lt, -Nat.not_le], by clear hI M F hK1 hK2 hK3 hK4 hK10 hK11 hK16 hK17 hK18 hK34 hK35 hK36 hK37 hK40; simp_all [pApply, pEnd, PState.zero, -UInt8.not_le, -UInt8.not_lt, -UInt32.not_le, -UInt32.not_lt, -Int.not_lt, -Int.not_le, -Nat.not_lt, -Nat.not_le] <;> exact Ens.nil _⟩)
                      · skip
                        refine wp_skip ?_
                        refine hK36 _ _ ?_
                        refine c_seq (fun K41 hK41 => ?_)
                        refine wp_region_lit ?_
                        refine l_step rfl (o_val F (r_load M F rfl (by repeat (first | exact List.mem_cons_self | apply List.mem_cons_of_mem)) agg_State (seg_all rfl)) rfl ?_); clear F a; intro a F
                        refine l_step rfl (o_storeA M F rfl rfl agg_State.size (by repeat (first | exact Upd.here _ _ _ _ _ | apply Upd.there)) (by rfl) (by rfl) (by rfl) ?_); clear F a; intro a W52 M F
                        refine l_step rfl (o_val F (r_assign F rfl) rfl ?_); clear F a; intro a F
                        refine l_nil ?_
                        refine hK41 _ _ ?_
                        refine wp_ret ?_
                        exact ret2 Try.results52 M F (rv_cell M F rfl (by repeat (first | exact List.mem_cons_self | apply List.mem_cons_of_mem)) agg_State rfl) (rv_tmp F rfl) (⟨l6, by clear hI M F hK1 hK2 hK3 hK4 hK10 hK11 hK16 hK17 hK18 hK34 hK35 hK36 hK37 hK41; simp_all [pApply, pEnd, PState.zero, -UInt8.not_le, -UInt8.not_lt, -UInt32.not_le, -UInt32.not_lt, -Int.not_lt, -Int.not_le, -Nat.not_lt, -Nat.not_le], by clear hI M F hK1 hK2 hK3 hK4 hK10 hK11 hK16 hK17 hK18 hK34 hK35 hK36 hK37 hK41; simp_all [pApply, pEnd, PState.zero, -UInt8.not_le, -UInt8.not_lt, -UInt32.not_le, -UInt32.not_lt, -Int.not_lt, -Int.not_le, -Nat.not_lt, -Nat.not_le]⟩)
        · skip
          iterate 5 (refine l_skip F rfl rfl rfl g28 rfl rfl ?_; clear F a; intro a F)
          iterate 3 (refine l_skipu F rfl rfl rfl rfl rfl ?_; clear F a; intro a F)
          iterate 1 (refine l_skip F rfl rfl rfl g28 rfl rfl ?_; clear F a; intro a F)
          refine l_guard F rfl rfl rfl g24 (o_val F (r_pick_f F rfl g28 rfl) rfl ?_); clear F a; intro a F
          refine l_step rfl (o_val F (r_pick_f F rfl g24 rfl) rfl ?_); clear F a; intro a F
          refine l_nil ?_
          refine hK4 _ _ ?_
          refine c_false F rfl rfl ?_
          refine wp_skip ?_
          refine hK3 _ _ ?_
          refine c_seq (fun K42 hK42 => ?_)
          refine c_seq (fun K43 hK43 => ?_)
          refine wp_region_lit ?_
          refine l_step rfl (o_val F (r_fieldAddr F rfl fld_Diff_0) rfl ?_); clear F a; intro a F
          refine l_step rfl (o_val F (r_load1 M F rfl (by repeat (first | exact List.mem_cons_self | apply List.mem_cons_of_mem)) sca_int rfl) rfl ?_); clear F a; intro a F
          refine l_step rfl (o_val F (r_eql_i64 F rfl rfl) rfl ?_); clear F a; intro a F
          refine l_nil ?_
          refine hK43 _ _ ?_
          refine c_cond F rfl (fun g46 => ?_) (fun g46 => ?_)
          · skip
            refine c_seq (fun K44 hK44 => ?_)
            refine c_seq (fun K45 hK45 => ?_)
            refine wp_region_lit ?_
            refine l_step rfl (o_val F (r_fieldAddr F rfl fld_Diff_3) rfl ?_); clear F a; intro a F
            refine l_step rfl (o_val F (r_load M F rfl (by repeat (first | exact List.mem_cons_self | apply List.mem_cons_of_mem)) agg_State g_Diff_3) rfl ?_); clear F a; intro a F
            refine l_step rfl (o_call M F rfl (c_pglog_Is M.imm (hl2.mono M.gl)) rfl ?_); clear F a; intro a W53 v53 G53 hp53 M E53 F
            subst hp53
            refine l_step rfl (o_val F (r_not F rfl) rfl ?_); clear F a; intro a F
            refine l_nil ?_
            refine hK45 _ _ ?_
            refine c_cond F rfl (fun g50 => ?_) (fun g50 => ?_)
            · skip
              refine c_seq (fun K46 hK46 => ?_)
              refine wp_region_lit ?_
              refine l_step rfl (o_val F (r_move F rfl) rfl ?_); clear F a; intro a F
              refine l_step rfl (o_callV M F (us := []) (cs := []) rfl rfl (c_merge_Apply_1 M.imm) rfl ?_); clear F a; intro a W54 v54 G54 hp54 M E54 F
              subst hp54
              refine l_step rfl (o_val F (r_extract F rfl rfl) rfl ?_); clear F a; intro a F
              refine l_step rfl (o_val F (r_extract F rfl rfl) rfl ?_); clear F a; intro a F
              refine l_step rfl (o_storeA M F rfl rfl agg_State.size (by repeat (first | exact Upd.here _ _ _ _ _ | apply Upd.there)) (by rfl) (by rfl) (by rfl) ?_); clear F a; intro a W55 M F
              refine l_step rfl (o_val F (r_assign F rfl) rfl ?_); clear F a; intro a F
              refine l_nil ?_
              refine hK46 _ _ ?_
              refine wp_ret ?_
              exact ret2 Try.results52 M F (rv_cell M F rfl (by repeat (first | exact List.mem_cons_self | apply List.mem_cons_of_mem)) agg_State rfl) (rv_tmp F rfl) (⟨Sl.nil, by clear hI M F hK1 hK2 hK3 hK4 hK42 hK43 hK44 hK45 hK46; simp_all [pApply, pEnd, PState.zero, -UInt8.not_le, -UInt8.not_lt, -UInt32.not_le, -UInt32.not_lt, -Int.not_lt, -Int.not_le, -Nat.not_lt, -Nat.not_le], by clear hI M F hK1 hK2 hK3 hK4 hK42 hK43 hK44 hK45 hK46; simp_all [pApply, pEnd, PState.zero, -UInt8.not_le, -UInt8.not_lt, -UInt32.not_le, -UInt32.not_lt, -Int.not_lt, -Int.not_le, -Nat.not_lt, -Nat.not_le] <;> exact Ens.nil _⟩)
            · skip
              refine wp_skip ?_
              refine hK44 _ _ ?_
              refine c_seq (fun K47 hK47 => ?_)
              refine wp_region_lit ?_
              refine l_step rfl (o_val F (r_fieldAddr F rfl fld_Diff_3) rfl ?_); clear F a; intro a F
              refine l_step rfl (o_val F (r_load M F rfl (by repeat (first | exact List.mem_cons_self | apply List.mem_cons_of_mem)) agg_State g_Diff_3) rfl ?_); clear F a; intro a F
              refine l_step rfl (o_call M F rfl (c_pglog_Copy M.imm (hl2.mono M.gl) (by have := is_len (s := d.whole) (by simpa using g50); omega)) rfl ?_); clear F a; intro a W56 v56 G56 hp56 M E56 F
              obtain ⟨l3, rfl, hl3⟩ := hp56
              refine l_step rfl (o_storeA M F rfl rfl agg_State.size (by repeat (first | exact Upd.here _ _ _ _ _ | apply Upd.there)) (by rfl) (by rfl) (by rfl) ?_); clear F a; intro a W57 M F
              refine l_step rfl (o_val F (r_assign F rfl) rfl ?_); clear F a; intro a F
              refine l_nil ?_
              refine hK47 _ _ ?_
              refine wp_ret ?_
              exact ret2 Try.results52 M F (rv_cell M F rfl (by repeat (first | exact List.mem_cons_self | apply List.mem_cons_of_mem)) agg_State rfl) (rv_tmp F rfl) (⟨l3, by clear hI M F hK1 hK2 hK3 hK4 hK42 hK43 hK44 hK45 hK47; simp_all [pApply, pEnd, PState.zero, -UInt8.not_le, -UInt8.not_lt, -UInt32.not_le, -UInt32.not_lt, -Int.not_lt, -Int.not_le, -Nat.not_lt, -Nat.not_le], by clear hI M F hK1 hK2 hK3 hK4 hK42 hK43 hK44 hK45 hK47; simp_all [pApply, pEnd, PState.zero, -UInt8.not_le, -UInt8.not_lt, -UInt32.not_le, -UInt32.not_lt, -Int.not_lt, -Int.not_le, -Nat.not_lt, -Nat.not_le]⟩)
          · skip
            refine wp_skip ?_
            refine hK42 _ _ ?_
            refine c_seq (fun K48 hK48 => ?_)
            refine wp_region_lit ?_
            refine l_step rfl (o_val F (r_load M F rfl (by repeat (first | exact List.mem_cons_self | apply List.mem_cons_of_mem)) agg_State (seg_all rfl)) rfl ?_); clear F a; intro a F
            refine l_step rfl (o_alloc M F zer_State rfl ?_); clear F a; intro a W58 b6 M F
            refine l_step rfl (o_storeA M F rfl rfl agg_State.size (by repeat (first | exact Upd.here _ _ _ _ _ | apply Upd.there)) (by rfl) (by rfl) (by rfl) ?_); clear F a; intro a W59 M F
            refine l_nil ?_
            refine hK48 _ _ ?_
            refine c_seq (fun K49 hK49 => ?_)
            refine c_seq (fun K50 hK50 => ?_)
            refine wp_region_lit ?_
            refine l_step rfl (o_val F (r_fieldAddr F rfl fld_Diff_0) rfl ?_); clear F a; intro a F
            refine l_step rfl (o_val F (r_load1 M F rfl (by repeat (first | exact List.mem_cons_self | apply List.mem_cons_of_mem)) sca_int rfl) rfl ?_); clear F a; intro a F
            refine l_step rfl (o_val F (r_eql_i64 F rfl rfl) rfl ?_); clear F a; intro a F
            refine l_nil ?_
            refine hK50 _ _ ?_
            refine c_cond F rfl (fun g61 => ?_) (fun g61 => ?_)
            · skip
              refine c_seq (fun K51 hK51 => ?_)
              refine wp_region_lit ?_
              refine l_step rfl (o_val F (r_load M F rfl (by repeat (first | exact List.mem_cons_self | apply List.mem_cons_of_mem)) agg_State (seg_all rfl)) rfl ?_); clear F a; intro a F
              refine l_step rfl (o_val F (r_fieldAddr F rfl fld_Diff_1) rfl ?_); clear F a; intro a F
              refine l_step rfl (o_val F (r_load1 M F rfl (by repeat (first | exact List.mem_cons_self | apply List.mem_cons_of_mem)) sca_u32 rfl) rfl ?_); clear F a; intro a F
              refine l_step rfl (o_call M F rfl (c_pglog_Cut M.imm (hl.mono M.gl)) rfl ?_); clear F a; intro a W60 v60 G60 hp60 M E60 F
              obtain ⟨l4, rfl, hl4⟩ := hp60
              refine l_step rfl (o_val F (r_move F rfl) rfl ?_); clear F a; intro a F
              refine l_step rfl (o_val F (r_extract F rfl rfl) rfl ?_); clear F a; intro a F
              refine l_step rfl (o_val F (r_extract F rfl rfl) rfl ?_); clear F a; intro a F
              refine l_step rfl (o_alloc M F zer_State rfl ?_); clear F a; intro a W61 b7 M F
              refine l_step rfl (o_storeA M F rfl rfl agg_State.size (by repeat (first | exact Upd.here _ _ _ _ _ | apply Upd.there)) (by rfl) (by rfl) (by rfl) ?_); clear F a; intro a W62 M F
              refine l_step rfl (o_val F (r_assign F rfl) rfl ?_); clear F a; intro a F
              refine l_nil ?_
              refine hK51 _ _ ?_
              refine c_seq (fun K52 hK52 => ?_)
              refine c_seq (fun K53 hK53 => ?_)
              refine wp_region_lit ?_
              refine l_step rfl (o_val F (r_move F rfl) rfl ?_); clear F a; intro a F
              refine l_step rfl (o_val F (r_neq_i64 F rfl rfl) rfl ?_); clear F a; intro a F
              refine l_nil ?_
              refine hK53 _ _ ?_
              refine c_cond F rfl (fun g70 => ?_) (fun g70 => ?_)
              · skip
                refine c_seq (fun K54 hK54 => ?_)
                refine wp_region_lit ?_
                refine l_step rfl (o_val F (r_move F rfl) rfl ?_); clear F a; intro a F
                refine l_step rfl (o_callV M F (us := []) (cs := []) rfl rfl (c_merge_Apply_1 M.imm) rfl ?_); clear F a; intro a W63 v63 G63 hp63 M E63 F
                have hl4 := hl4.mono E63.gl
                subst hp63
                refine l_step rfl (o_val F (r_extract F rfl rfl) rfl ?_); clear F a; intro a F
                refine l_step rfl (o_val F (r_extract F rfl rfl) rfl ?_); clear F a; intro a F
                refine l_step rfl (o_storeA M F rfl rfl agg_State.size (by repeat (first | exact Upd.here _ _ _ _ _ | apply Upd.there)) (by rfl) (by rfl) (by rfl) ?_); clear F a; intro a W64 M F
                refine l_step rfl (o_val F (r_assign F rfl) rfl ?_); clear F a; intro a F
                refine l_nil ?_
                refine hK54 _ _ ?_
                refine wp_ret ?_
                exact ret2 Try.results52 M F (rv_cell M F rfl (by repeat (first | exact List.mem_cons_self | apply List.mem_cons_of_mem)) agg_State rfl) (rv_tmp F rfl) (⟨Sl.nil, by clear hI M F hK1 hK2 hK3 hK4 hK42 hK43 hK48 hK49 hK50 hK51 hK52 hK53 hK54; simp_all [pApply, pEnd, PState.zero, -UInt8.not_le, -UInt8.not_lt, -UInt32.not_le, -UInt32.not_lt, -Int.not_lt, -Int.not_le, -Nat.not_lt, -Nat.not_le], by clear hI M F hK1 hK2 hK3 hK4 hK42 hK43 hK48 hK49 hK50 hK51 hK52 hK53 hK54; simp_all [pApply, pEnd, PState.zero, -UInt8.not_le, -UInt8.not_lt, -UInt32.not_le, -UInt32.not_lt, -Int.not_lt, -Int.not_le, -Nat.not_lt, -Nat.not_le] <;> exact Ens.nil _⟩)
              · skip
                refine wp_skip ?_
                refine hK52 _ _ ?_
                refine c_seq (fun K55 hK55 => ?_)
                refine wp_region_lit ?_
                refine l_step rfl (o_val F (r_load M F rfl (by repeat (first | exact List.mem_cons_self | apply List.mem_cons_of_mem)) agg_State (seg_all rfl)) rfl ?_); clear F a; intro a F
                refine l_step rfl (o_val F (r_fieldAddr F rfl fld_Diff_2) rfl ?_); clear F a; intro a F
                refine l_step rfl (o_val F (r_load1 M F rfl (by repeat (first | exact List.mem_cons_self | apply List.mem_cons_of_mem)) sca_Entries rfl) rfl ?_); clear F a; intro a F
                refine l_step rfl (o_call M F rfl (c_merge_added M.imm hl4 (hl1.mono M.gl)) rfl ?_); clear F a; intro a W65 v65 G65 hp65 M E65 F
                have hl4 := hl4.mono E65.gl
                obtain ⟨l5, rfl, hl5⟩ := hp65
                refine l_step rfl (o_val F (r_move F rfl) rfl ?_); clear F a; intro a F
                refine l_step rfl (o_val F (r_extract F rfl rfl) rfl ?_); clear F a; intro a F
                refine l_step rfl (o_val F (r_extract F rfl rfl) rfl ?_); clear F a; intro a F
                refine l_step rfl (o_storeA M F rfl rfl agg_State.size (by repeat (first | exact Upd.here _ _ _ _ _ | apply Upd.there)) (by rfl) (by rfl) (by rfl) ?_); clear F a; intro a W66 M F
                refine l_step rfl (o_val F (r_assign F rfl) rfl ?_); clear F a; intro a F
                refine l_nil ?_
                refine hK55 _ _ ?_
                refine c_seq (fun K56 hK56 => ?_)
                refine wp_region_lit ?_
                refine l_step rfl (o_val F (r_move F rfl) rfl ?_); clear F a; intro a F
                refine l_step rfl (o_val F (r_neq_i64 F rfl rfl) rfl ?_); clear F a; intro a F
                refine l_nil ?_
                refine hK56 _ _ ?_
                refine c_cond F rfl (fun g83 => ?_) (fun g83 => ?_)
                · skip
                  refine c_seq (fun K57 hK57 => ?_)
                  refine wp_region_lit ?_
                  refine l_step rfl (o_val F (r_move F rfl) rfl ?_); clear F a; intro a F
                  refine l_step rfl (o_callV M F (us := []) (cs := []) rfl rfl (c_merge_Apply_1 M.imm) rfl ?_); clear F a; intro a W67 v67 G67 hp67 M E67 F
                  have hl4 := hl4.mono E67.gl
                  have hl5 := hl5.mono E67.gl
                  subst hp67
                  refine l_step rfl (o_val F (r_extract F rfl rfl) rfl ?_); clear F a; intro a F
                  refine l_step rfl (o_val F (r_extract F rfl rfl) rfl ?_); clear F a; intro a F
                  refine l_step rfl (o_storeA M F rfl rfl agg_State.size (by repeat (first | exact Upd.here _ _ _ _ _ | apply Upd.there)) (by rfl) (by rfl) (by rfl) ?_); clear F a; intro a W68 M F
                  refine l_step rfl (o_val F (r_assign F rfl) rfl ?_); clear F a; intro a F
                  refine l_nil ?_
                  refine hK57 _ _ ?_
                  refine wp_ret ?_
                  exact ret2 Try.results52 M F (rv_cell M F rfl (by repeat (first | exact List.mem_cons_self | apply List.mem_cons_of_mem)) agg_State rfl) (rv_tmp F rfl) (⟨Sl.nil, by clear hI M F hK1 hK2 hK3 hK4 hK42 hK43 hK48 hK49 hK50 hK51 hK52 hK53 hK55 hK56 hK57; simp_all [pApply, pEnd, PState.zero, -UInt8.not_le, -UInt8.not_lt, -UInt32.not_le, -UInt32.not_lt, -Int.not_lt, -Int.not_le, -Nat.not_lt, -Nat.not_le], by clear hI M F hK1 hK2 hK3 hK4 hK42 hK43 hK48 hK49 hK50 hK51 hK52 hK53 hK55 hK56 hK57; simp_all [pApply, pEnd, PState.zero, -UInt8.not_le, -UInt8.not_lt, -UInt32.not_le, -UInt32.not_lt, -Int.not_lt, -Int.not_le, -Nat.not_lt, -Nat.not_le] <;> exact Ens.nil _⟩)
                · skip
                  refine wp_skip ?_
                  refine hK49 _ _ ?_
                  refine c_seq (fun K58 hK58 => ?_)
                  refine wp_region_lit ?_
                  refine l_step rfl (o_val F (r_load M F rfl (by repeat (first | exact List.mem_cons_self | apply List.mem_cons_of_mem)) agg_State (seg_all rfl)) rfl ?_); clear F a; intro a F
                  refine l_step rfl (o_val F (r_fieldAddr F rfl fld_Diff_3) rfl ?_); clear F a; intro a F
                  refine l_step rfl (o_val F (r_fieldAddr F rfl fld_State_2) rfl ?_); clear F a; intro a F
                  refine l_step rfl (o_val F (r_fieldAddr F rfl fld_Entry_1) rfl ?_); clear F a; intro a F
                  refine l_step rfl (o_val F (r_load1 M F rfl (by repeat (first | exact List.mem_cons_self | apply List.mem_cons_of_mem)) sca_u32 rfl) rfl ?_); clear F a; intro a F
                  refine l_step rfl (o_call M F rfl ((by first | exact c_pglog_Tail M.imm hl5 | exact c_pglog_Tail M.imm (hl.mono M.gl))) rfl ?_); clear F a; intro a W69 v69 G69 hp69 M E69 F
                  have hl4 := hl4.mono E69.gl
                  have hl5 := hl5.mono E69.gl
                  obtain ⟨l6, rfl, hl6⟩ := hp69
                  refine l_step rfl (o_val F (r_move F rfl) rfl ?_); clear F a; intro a F
                  refine l_step rfl (o_val F (r_extract F rfl rfl) rfl ?_); clear F a; intro a F
                  refine l_step rfl (o_val F (r_extract F rfl rfl) rfl ?_); clear F a; intro a F
                  refine l_step rfl (o_storeA M F rfl rfl agg_State.size (by repeat (first | exact Upd.here _ _ _ _ _ | apply Upd.there)) (by rfl) (by rfl) (by rfl) ?_); clear F a; intro a W70 M F
                  refine l_step rfl (o_val F (r_assign F rfl) rfl ?_); clear F a; intro a F
                  refine l_nil ?_
                  refine hK58 _ _ ?_
                  refine c_seq (fun K59 hK59 => ?_)
                  refine wp_region_lit ?_
                  refine l_step rfl (o_val F (r_fieldAddr F rfl fld_Diff_3) rfl ?_); clear F a; intro a F
                  refine l_step rfl (o_val F (r_fieldAddr F rfl fld_State_0) rfl ?_); clear F a; intro a F
                  refine l_step rfl (o_val F (r_load1 M F rfl (by repeat (first | exact List.mem_cons_self | apply List.mem_cons_of_mem)) sca_u32 rfl) rfl ?_); clear F a; intro a F
                  refine l_step rfl (o_val F (r_fieldAddr F rfl fld_State_0) rfl ?_); clear F a; intro a F
                  refine l_step rfl (o_store1 M F rfl rfl sca_u32 rfl rfl p_State_0 (by repeat (first | exact Upd.here _ _ _ _ _ | apply Upd.there)) ?_); clear F a; intro a W71 M F
                  refine l_nil ?_
                  refine hK59 _ _ ?_
                  refine c_seq (fun K60 hK60 => ?_)
                  refine c_seq (fun K61 hK61 => ?_)
                  refine wp_region_lit ?_
                  refine l_step rfl (o_val F (r_move F rfl) rfl ?_); clear F a; intro a F
                  refine l_step rfl (o_val F (r_neq_i64 F rfl rfl) rfl ?_); clear F a; intro a F
                  refine l_step rfl (o_val F (r_move F rfl) rfl ?_); clear F a; intro a F
                  refine c_split F (i := 103) rfl (fun g103 => ?_) (fun g103 => ?_)
                  · skip
                    iterate 8 (refine l_skip F rfl rfl rfl g103 rfl rfl ?_; clear F a; intro a F)
                    refine l_step rfl (o_val F (r_pick_t F rfl g103 rfl) rfl ?_); clear F a; intro a F
                    refine l_step rfl (o_val F (r_move F rfl) rfl ?_); clear F a; intro a F
                    iterate 3 (refine l_skip F rfl rfl rfl rfl rfl rfl ?_; clear F a; intro a F)
                    refine l_step rfl (o_val F (r_pick_t F rfl rfl rfl) rfl ?_); clear F a; intro a F
                    refine l_nil ?_
                    refine hK61 _ _ ?_
                    refine c_true F rfl rfl ?_
                    refine c_seq (fun K62 hK62 => ?_)
                    refine wp_region_lit ?_
                    refine l_step rfl (o_val F (r_move F rfl) rfl ?_); clear F a; intro a F
                    refine l_step rfl (o_callV M F (us := []) (cs := []) rfl rfl (c_merge_Apply_1 M.imm) rfl ?_); clear F a; intro a W72 v72 G72 hp72 M E72 F
                    have hl4 := hl4.mono E72.gl
                    have hl5 := hl5.mono E72.gl
                    have hl6 := hl6.mono E72.gl
                    subst hp72
                    refine l_step rfl (o_val F (r_extract F rfl rfl) rfl ?_); clear F a; intro a F
                    refine l_step rfl (o_val F (r_extract F rfl rfl) rfl ?_); clear F a; intro a F
                    refine l_step rfl (o_storeA M F rfl rfl agg_State.size (by repeat (first | exact Upd.here _ _ _ _ _ | apply Upd.there)) (by rfl) (by rfl) (by rfl) ?_); clear F a; intro a W73 M F
                    refine l_step rfl (o_val F (r_assign F rfl) rfl ?_); clear F a; intro a F
                    refine l_nil ?_
                    refine hK62 _ _ ?_
                    refine wp_ret ?_
                    exact ret2 Try.results52 M F (rv_cell M F rfl (by repeat (first | exact List.mem_cons_self | apply List.mem_cons_of_mem)) agg_State rfl) (rv_tmp F rfl) (⟨Sl.nil, by clear hI M F hK1 hK2 hK3 hK4 hK42 hK43 hK48 hK49 hK50 hK51 hK52 hK53 hK55 hK56 hK58 hK59 hK60 hK61 hK62; simp_all [pApply, pEnd, PState.zero, -UInt8.not_le, -UInt8.not_lt, -UInt32.not_le, -UInt32.not_lt, -Int.not_lt, -Int.not_le, -Nat.not_lt, -Nat.not_le], by clear hI M F hK1 hK2 hK3 hK4 hK42 hK43 hK48 hK49 hK50 hK51 hK52 hK53 hK55 hK56 hK58 hK59 hK60 hK61 hK62; simp_all [pApply, pEnd, PState.zero, -UInt8.not_le, -UInt8.not_lt, -UInt32.not_le, -UInt32.not_lt, -Int.not_lt, -Int.not_le, -Nat.not_lt, -Nat.not_le] <;> exact Ens.nil _⟩)
                  · skip
                    refine l_guard F rfl rfl rfl g103 (o_val F (r_fieldAddr F rfl fld_State_2) rfl ?_); clear F a; intro a F
                    refine l_guard F rfl rfl rfl g103 (o_val F (r_fieldAddr F rfl fld_Entry_0) rfl ?_); clear F a; intro a F
                    refine l_guard F rfl rfl rfl g103 (o_val F (r_load1 M F rfl (by repeat (first | exact List.mem_cons_self | apply List.mem_cons_of_mem)) sca_u32 rfl) rfl ?_); clear F a; intro a F
                    refine l_guard F rfl rfl rfl g103 (o_val F (r_fieldAddr F rfl fld_Diff_3) rfl ?_); clear F a; intro a F
                    refine l_guard F rfl rfl rfl g103 (o_val F (r_fieldAddr F rfl fld_State_2) rfl ?_); clear F a; intro a F
                    refine l_guard F rfl rfl rfl g103 (o_val F (r_fieldAddr F rfl fld_Entry_0) rfl ?_); clear F a; intro a F
                    refine l_guard F rfl rfl rfl g103 (o_val F (r_load1 M F rfl (by repeat (first | exact List.mem_cons_self | apply List.mem_cons_of_mem)) sca_u32 rfl) rfl ?_); clear F a; intro a F
                    refine l_guard F rfl rfl rfl g103 (o_val F (r_neq_u32 F rfl rfl) rfl ?_); clear F a; intro a F
                    refine l_step rfl (o_val F (r_pick_f F rfl g103 rfl) rfl ?_); clear F a; intro a F
                    refine l_step rfl (o_val F (r_move F rfl) rfl ?_); clear F a; intro a F
                    refine c_split F (i := 113) rfl (fun g113 => ?_) (fun g113 => ?_)
                    · skip
                      iterate 3 (refine l_skip F rfl rfl rfl g113 rfl rfl ?_; clear F a; intro a F)
                      refine l_step rfl (o_val F (r_pick_t F rfl g113 rfl) rfl ?_); clear F a; intro a F
                      refine l_nil ?_
                      refine hK61 _ _ ?_
                      refine c_true F rfl rfl ?_
                      refine c_seq (fun K63 hK63 => ?_)
                      refine wp_region_lit ?_
                      refine l_step rfl (o_val F (r_move F rfl) rfl ?_); clear F a; intro a F
                      refine l_step rfl (o_callV M F (us := []) (cs := []) rfl rfl (c_merge_Apply_1 M.imm) rfl ?_); clear F a; intro a W74 v74 G74 hp74 M E74 F
                      have hl4 := hl4.mono E74.gl
                      have hl5 := hl5.mono E74.gl
                      have hl6 := hl6.mono E74.gl
                      subst hp74
                      refine l_step rfl (o_val F (r_extract F rfl rfl) rfl ?_); clear F a; intro a F
                      refine l_step rfl (o_val F (r_extract F rfl rfl) rfl ?_); clear F a; intro a F
                      refine l_step rfl (o_storeA M F rfl rfl agg_State.size (by repeat (first | exact Upd.here _ _ _ _ _ | apply Upd.there)) (by rfl) (by rfl) (by rfl) ?_); clear F a; intro a W75 M F
                      refine l_step rfl (o_val F (r_assign F rfl) rfl ?_); clear F a; intro a F
                      refine l_nil ?_
                      refine hK63 _ _ ?_
                      refine wp_ret ?_
                      exact ret2 Try.results52 M F (rv_cell M F rfl (by repeat (first | exact List.mem_cons_self | apply List.mem_cons_of_mem)) agg_State rfl) (rv_tmp F rfl) (⟨Sl.nil, by clear hI M F hK1 hK2 hK3 hK4 hK42 hK43 hK48 hK49 hK50 hK51 hK52 hK53 hK55 hK56 hK58 hK59 hK60 hK61 hK63; simp_all [pApply, pEnd, PState.zero, -UInt8.not_le, -UInt8.not_lt, -UInt32.not_le, -UInt32.not_lt, -Int.not_lt, -Int.not_le, -Nat.not_lt, -Nat.not_le], by clear hI M F hK1 hK2 hK3 hK4 hK42 hK43 hK48 hK49 hK50 hK51 hK52 hK53 hK55 hK56 hK58 hK59 hK60 hK61 hK63; simp_all [pApply, pEnd, PState.zero, -UInt8.not_le, -UInt8.not_lt, -UInt32.not_le, -UInt32.not_lt, -Int.not_lt, -Int.not_le, -Nat.not_lt, -Nat.not_le] <;> exact Ens.nil _⟩)
                    · skip
                      refine l_guard F rfl rfl rfl g113 (o_val F (r_load M F rfl (by repeat (first | exact List.mem_cons_self | apply List.mem_cons_of_mem)) agg_State (seg_all rfl)) rfl ?_); clear F a; intro a F
                      refine l_guard F rfl rfl rfl g113 (o_call M F rfl (c_pglog_Is (s := { (pTail _ d.whole.tail.n).1 with started := d.whole.started }) M.imm hl6) rfl ?_); clear F a; intro a W76 v76 G76 hp76 M E76 F
                      have hl4 := hl4.mono E76.gl
                      have hl5 := hl5.mono E76.gl
                      have hl6 := hl6.mono E76.gl
                      subst hp76
                      refine l_guard F rfl rfl rfl g113 (o_val F (r_not F rfl) rfl ?_); clear F a; intro a F
                      refine l_step rfl (o_val F (r_pick_f F rfl g113 rfl) rfl ?_); clear F a; intro a F
                      refine l_nil ?_
                      refine hK61 _ _ ?_
                      refine c_cond F rfl (fun g117 => ?_) (fun g117 => ?_)
                      · skip
                        refine c_seq (fun K64 hK64 => ?_)
                        refine wp_region_lit ?_
                        refine l_step rfl (o_val F (r_move F rfl) rfl ?_); clear F a; intro a F
                        refine l_step rfl (o_callV M F (us := []) (cs := []) rfl rfl (c_merge_Apply_1 M.imm) rfl ?_); clear F a; intro a W77 v77 G77 hp77 M E77 F
                        have hl4 := hl4.mono E77.gl
                        have hl5 := hl5.mono E77.gl
                        have hl6 := hl6.mono E77.gl
                        subst hp77
                        refine l_step rfl (o_val F (r_extract F rfl rfl) rfl ?_); clear F a; intro a F
                        refine l_step rfl (o_val F (r_extract F rfl rfl) rfl ?_); clear F a; intro a F
                        refine l_step rfl (o_storeA M F rfl rfl agg_State.size (by repeat (first | exact Upd.here _ _ _ _ _ | apply Upd.there)) (by rfl) (by rfl) (by rfl) ?_); clear F a; intro a W78 M F
                        refine l_step rfl (o_val F (r_assign F rfl) rfl ?_); clear F a; intro a F
                        refine l_nil ?_
                        refine hK64 _ _ ?_
                        refine wp_ret ?_
                        exact ret2 Try.results52 M F (rv_cell M F rfl (by repeat (first | exact List.mem_cons_self | apply List.mem_cons_of_mem)) agg_State rfl) (rv_tmp F rfl) (⟨Sl.nil, by clear hI M F hK1 hK2 hK3 hK4 hK42 hK43 hK48 hK49 hK50 hK51 hK52 hK53 hK55 hK56 hK58 hK59 hK60 hK61 hK64; simp_all [pApply, pEnd, PState.zero, -UInt8.not_le, -UInt8.not_lt, -UInt32.not_le, -UInt32.not_lt, -Int.not_lt, -Int.not_le, -Nat.not_lt, -Nat.not_le], by clear hI M F hK1 hK2 hK3 hK4 hK42 hK43 hK48 hK49 hK50 hK51 hK52 hK53 hK55 hK56 hK58 hK59 hK60 hK61 hK64; simp_all [pApply, pEnd, PState.zero, -UInt8.not_le, -UInt8.not_lt, -UInt32.not_le, -UInt32.not_lt, -Int.not_lt, -Int.not_le, -Nat.not_lt, -Nat.not_le] <;> exact Ens.nil _⟩)
                      · skip
                        refine wp_skip ?_
                        refine hK60 _ _ ?_
                        refine c_seq (fun K65 hK65 => ?_)
                        refine wp_region_lit ?_
                        refine l_step rfl (o_val F (r_load M F rfl (by repeat (first | exact List.mem_cons_self | apply List.mem_cons_of_mem)) agg_State (seg_all rfl)) rfl ?_); clear F a; intro a F
                        refine l_step rfl (o_storeA M F rfl rfl agg_State.size (by repeat (first | exact Upd.here _ _ _ _ _ | apply Upd.there)) (by rfl) (by rfl) (by rfl) ?_); clear F a; intro a W79 M F
                        refine l_step rfl (o_val F (r_assign F rfl) rfl ?_); clear F a; intro a F
                        refine l_nil ?_
                        refine hK65 _ _ ?_
                        refine wp_ret ?_
                        exact ret2 Try.results52 M F (rv_cell M F rfl (by repeat (first | exact List.mem_cons_self | apply List.mem_cons_of_mem)) agg_State rfl) (rv_tmp F rfl) (⟨l6, by clear hI M F hK1 hK2 hK3 hK4 hK42 hK43 hK48 hK49 hK50 hK51 hK52 hK53 hK55 hK56 hK58 hK59 hK60 hK61 hK65; simp_all [pApply, pEnd, PState.zero, -UInt8.not_le, -UInt8.not_lt, -UInt32.not_le, -UInt32.not_lt, -Int.not_lt, -Int.not_le, -Nat.not_lt, -Nat.not_le], by clear hI M F hK1 hK2 hK3 hK4 hK42 hK43 hK48 hK49 hK50 hK51 hK52 hK53 hK55 hK56 hK58 hK59 hK60 hK61 hK65; simp_all [pApply, pEnd, PState.zero, -UInt8.not_le, -UInt8.not_lt, -UInt32.not_le, -UInt32.not_lt, -Int.not_lt, -Int.not_le, -Nat.not_lt, -Nat.not_le]⟩)
            · skip
              refine wp_skip ?_
              refine hK49 _ _ ?_
              refine c_seq (fun K66 hK66 => ?_)
              refine wp_region_lit ?_
              refine l_step rfl (o_val F (r_load M F rfl (by repeat (first | exact List.mem_cons_self | apply List.mem_cons_of_mem)) agg_State (seg_all rfl)) rfl ?_); clear F a; intro a F
              refine l_step rfl (o_val F (r_fieldAddr F rfl fld_Diff_3) rfl ?_); clear F a; intro a F
              refine l_step rfl (o_val F (r_fieldAddr F rfl fld_State_2) rfl ?_); clear F a; intro a F
              refine l_step rfl (o_val F (r_fieldAddr F rfl fld_Entry_1) rfl ?_); clear F a; intro a F
              refine l_step rfl (o_val F (r_load1 M F rfl (by repeat (first | exact List.mem_cons_self | apply List.mem_cons_of_mem)) sca_u32 rfl) rfl ?_); clear F a; intro a F
              refine l_step rfl (o_call M F rfl ((by first | exact c_pglog_Tail M.imm hl5 | exact c_pglog_Tail M.imm (hl.mono M.gl))) rfl ?_); clear F a; intro a W80 v80 G80 hp80 M E80 F
              obtain ⟨l6, rfl, hl6⟩ := hp80
              refine l_step rfl (o_val F (r_move F rfl) rfl ?_); clear F a; intro a F
              refine l_step rfl (o_val F (r_extract F rfl rfl) rfl ?_); clear F a; intro a F
              refine l_step rfl (o_val F (r_extract F rfl rfl) rfl ?_); clear F a; intro a F
              refine l_step rfl (o_storeA M F rfl rfl agg_State.size (by repeat (first | exact Upd.here _ _ _ _ _ | apply Upd.there)) (by rfl) (by rfl) (by rfl) ?_); clear F a; intro a W81 M F
              refine l_step rfl (o_val F (r_assign F rfl) rfl ?_); clear F a; intro a F
              refine l_nil ?_
              refine hK66 _ _ ?_
              refine c_seq (fun K67 hK67 => ?_)
              refine wp_region_lit ?_
              refine l_step rfl (o_val F (r_fieldAddr F rfl fld_Diff_3) rfl ?_); clear F a; intro a F
              refine l_step rfl (o_val F (r_fieldAddr F rfl fld_State_0) rfl ?_); clear F a; intro a F
              refine l_step rfl (o_val F (r_load1 M F rfl (by repeat (first | exact List.mem_cons_self | apply List.mem_cons_of_mem)) sca_u32 rfl) rfl ?_); clear F a; intro a F
              refine l_step rfl (o_val F (r_fieldAddr F rfl fld_State_0) rfl ?_); clear F a; intro a F
              refine l_step rfl (o_store1 M F rfl rfl sca_u32 rfl rfl p_State_0 (by repeat (first | exact Upd.here _ _ _ _ _ | apply Upd.there)) ?_); clear F a; intro a W82 M F
              refine l_nil ?_
              refine hK67 _ _ ?_
              refine c_seq (fun K68 hK68 => ?_)
              refine c_seq (fun K69 hK69 => ?_)
              refine wp_region_lit ?_
              refine l_step rfl (o_val F (r_move F rfl) rfl ?_); clear F a; intro a F
              refine l_step rfl (o_val F (r_neq_i64 F rfl rfl) rfl ?_); clear F a; intro a F
              refine l_step rfl (o_val F (r_move F rfl) rfl ?_); clear F a; intro a F
              refine c_split F (i := 103) rfl (fun g103 => ?_) (fun g103 => ?_)
              · skip
                iterate 8 (refine l_skip F rfl rfl rfl g103 rfl rfl ?_; clear F a; intro a F)
                refine l_step rfl (o_val F (r_pick_t F rfl g103 rfl) rfl ?_); clear F a; intro a F
                refine l_step rfl (o_val F (r_move F rfl) rfl ?_); clear F a; intro a F
                iterate 3 (refine l_skip F rfl rfl rfl rfl rfl rfl ?_; clear F a; intro a F)
                refine l_step rfl (o_val F (r_pick_t F rfl rfl rfl) rfl ?_); clear F a; intro a F
                refine l_nil ?_
                refine hK69 _ _ ?_
                refine c_true F rfl rfl ?_
                refine c_seq (fun K70 hK70 => ?_)
                refine wp_region_lit ?_
                refine l_step rfl (o_val F (r_move F rfl) rfl ?_); clear F a; intro a F
                refine l_step rfl (o_callV M F (us := []) (cs := []) rfl rfl (c_merge_Apply_1 M.imm) rfl ?_); clear F a; intro a W83 v83 G83 hp83 M E83 F
                have hl6 := hl6.mono E83.gl
                subst hp83
                refine l_step rfl (o_val F (r_extract F rfl rfl) rfl ?_); clear F a; intro a F
                refine l_step rfl (o_val F (r_extract F rfl rfl) rfl ?_); clear F a; intro a F
                refine l_step rfl (o_storeA M F rfl rfl agg_State.size (by repeat (first | exact Upd.here _ _ _ _ _ | apply Upd.there)) (by rfl) (by rfl) (by rfl) ?_); clear F a; intro a W84 M F
                refine l_step rfl (o_val F (r_assign F rfl) rfl ?_); clear F a; intro a F
                refine l_nil ?_
                refine hK70 _ _ ?_
                refine wp_ret ?_
                exact ret2 Try.results52 M F (rv_cell M F rfl (by repeat (first | exact List.mem_cons_self | apply List.mem_cons_of_mem)) agg_State rfl) (rv_tmp F rfl) (⟨Sl.nil, by clear hI M F hK1 hK2 hK3 hK4 hK42 hK43 hK48 hK49 hK50 hK66 hK67 hK68 hK69 hK70; simp_all [pApply, pEnd, PState.zero, -UInt8.not_le, -UInt8.not_lt, -UInt32.not_le, -UInt32.not_lt, -Int.not_lt, -Int.not_le, -Nat.not_lt, -Nat.not_le], by clear hI M F hK1 hK2 hK3 hK4 hK42 hK43 hK48 hK49 hK50 hK66 hK67 hK68 hK69 hK70; simp_all [pApply, pEnd, PState.zero, -UInt8.not_le, -UInt8.not_lt, -UInt32.not_le, -UInt32.not_lt, -Int.not_lt, -Int.not_le, -Nat.not_lt, -Nat.not_le] <;> exact Ens.nil _⟩)
              · skip
                refine l_guard F rfl rfl rfl g103 (o_val F (r_fieldAddr F rfl fld_State_2) rfl ?_); clear F a; intro a F
                refine l_guard F rfl rfl rfl g103 (o_val F (r_fieldAddr F rfl fld_Entry_0) rfl ?_); clear F a; intro a F
                refine l_guard F rfl rfl rfl g103 (o_val F (r_load1 M F rfl (by repeat (first | exact List.mem_cons_self | apply List.mem_cons_of_mem)) sca_u32 rfl) rfl ?_); clear F a; intro a F
                refine l_guard F rfl rfl rfl g103 (o_val F (r_fieldAddr F rfl fld_Diff_3) rfl ?_); clear F a; intro a F
                refine l_guard F rfl rfl rfl g103 (o_val F (r_fieldAddr F rfl fld_State_2) rfl ?_); clear F a; intro a F
                refine l_guard F rfl rfl rfl g103 (o_val F (r_fieldAddr F rfl fld_Entry_0) rfl ?_); clear F a; intro a F
                refine l_guard F rfl rfl rfl g103 (o_val F (r_load1 M F rfl (by repeat (first | exact List.mem_cons_self | apply List.mem_cons_of_mem)) sca_u32 rfl) rfl ?_); clear F a; intro a F
                refine l_guard F rfl rfl rfl g103 (o_val F (r_neq_u32 F rfl rfl) rfl ?_); clear F a; intro a F
                refine l_step rfl (o_val F (r_pick_f F rfl g103 rfl) rfl ?_); clear F a; intro a F
                refine l_step rfl (o_val F (r_move F rfl) rfl ?_); clear F a; intro a F
                refine c_split F (i := 113) rfl (fun g113 => ?_) (fun g113 => ?_)
                · skip
                  iterate 3 (refine l_skip F rfl rfl rfl g113 rfl rfl ?_; clear F a; intro a F)
                  refine l_step rfl (o_val F (r_pick_t F rfl g113 rfl) rfl ?_); clear F a; intro a F
                  refine l_nil ?_
                  refine hK69 _ _ ?_
                  refine c_true F rfl rfl ?_
                  refine c_seq (fun K71 hK71 => ?_)
                  refine wp_region_lit ?_
                  refine l_step rfl (o_val F (r_move F rfl) rfl ?_); clear F a; intro a F
                  refine l_step rfl (o_callV M F (us := []) (cs := []) rfl rfl (c_merge_Apply_1 M.imm) rfl ?_); clear F a; intro a W85 v85 G85 hp85 M E85 F
                  have hl6 := hl6.mono E85.gl
                  subst hp85
                  refine l_step rfl (o_val F (r_extract F rfl rfl) rfl ?_); clear F a; intro a F
                  refine l_step rfl (o_val F (r_extract F rfl rfl) rfl ?_); clear F a; intro a F
                  refine l_step rfl (o_storeA M F rfl rfl agg_State.size (by repeat (first | exact Upd.here _ _ _ _ _ | apply Upd.there)) (by rfl) (by rfl) (by rfl) ?_); clear F a; intro a W86 M F
                  refine l_step rfl (o_val F (r_assign F rfl) rfl ?_); clear F a; intro a F
                  refine l_nil ?_
                  refine hK71 _ _ ?_
                  refine wp_ret ?_
                  exact ret2 Try.results52 M F (rv_cell M F rfl (by repeat (first | exact List.mem_cons_self | apply List.mem_cons_of_mem)) agg_State rfl) (rv_tmp F rfl) (⟨Sl.nil, by clear hI M F hK1 hK2 hK3 hK4 hK42 hK43 hK48 hK49 hK50 hK66 hK67 hK68 hK69 hK71; simp_all [pApply, pEnd, PState.zero, -UInt8.not_le, -UInt8.not_lt, -UInt32.not_le, -UInt32.not_lt, -Int.not_lt, -Int.not_le, -Nat.not_lt, -Nat.not_le], by clear hI M F hK1 hK2 hK3 hK4 hK42 hK43 hK48 hK49 hK50 hK66 hK67 hK68 hK69 hK71; simp_all [pApply, pEnd, PState.zero, -UInt8.not_le, -UInt8.not_lt, -UInt32.not_le, -UInt32.not_lt, -Int.not_lt, -Int.not_le, -Nat.not_lt, -Nat.not_le] <;> exact Ens.nil _⟩)
                · skip
                  refine l_guard F rfl rfl rfl g113 (o_val F (r_load M F rfl (by repeat (first | exact List.mem_cons_self | apply List.mem_cons_of_mem)) agg_State (seg_all rfl)) rfl ?_); clear F a; intro a F
                  refine l_guard F rfl rfl rfl g113 (o_call M F rfl (c_pglog_Is (s := { (pTail _ d.whole.tail.n).1 with started := d.whole.started }) M.imm hl6) rfl ?_); clear F a; intro a W87 v87 G87 hp87 M E87 F
                  have hl6 := hl6.mono E87.gl
                  subst hp87
                  refine l_guard F rfl rfl rfl g113 (o_val F (r_not F rfl) rfl ?_); clear F a; intro a F
                  refine l_step rfl (o_val F (r_pick_f F rfl g113 rfl) rfl ?_); clear F a; intro a F
                  refine l_nil ?_
                  refine hK69 _ _ ?_
                  refine c_cond F rfl (fun g117 => ?_) (fun g117 => ?_)
                  · skip
                    refine c_seq (fun K72 hK72 => ?_)
                    refine wp_region_lit ?_
                    refine l_step rfl (o_val F (r_move F rfl) rfl ?_); clear F a; intro a F
                    refine l_step rfl (o_callV M F (us := []) (cs := []) rfl rfl (c_merge_Apply_1 M.imm) rfl ?_); clear F a; intro a W88 v88 G88 hp88 M E88 F
                    have hl6 := hl6.mono E88.gl
                    subst hp88
                    refine l_step rfl (o_val F (r_extract F rfl rfl) rfl ?_); clear F a; intro a F
                    refine l_step rfl (o_val F (r_extract F rfl rfl) rfl ?_); clear F a; intro a F
                    refine l_step rfl (o_storeA M F rfl rfl agg_State.size (by repeat (first | exact Upd.here _ _ _ _ _ | apply Upd.there)) (by rfl) (by rfl) (by rfl) ?_); clear F a; intro a W89 M F
                    refine l_step rfl (o_val F (r_assign F rfl) rfl ?_); clear F a; intro a F
                    refine l_nil ?_
                    refine hK72 _ _ ?_
                    refine wp_ret ?_
                    exact ret2 Try.results52 M F (rv_cell M F rfl (by repeat (first | exact List.mem_cons_self | apply List.mem_cons_of_mem)) agg_State rfl) (rv_tmp F rfl) (⟨Sl.nil, by clear hI M F hK1 hK2 hK3 hK4 hK42 hK43 hK48 hK49 hK50 hK66 hK67 hK68 hK69 hK72; simp_all [pApply, pEnd, PState.zero, -UInt8.not_le, -UInt8.not_lt, -UInt32.not_le, -UInt32.not_lt, -Int.not_lt, -Int.not_le, -Nat.not_lt, -Nat.not_le], by clear hI M F hK1 hK2 hK3 hK4 hK42 hK43 hK48 hK49 hK50 hK66 hK67 hK68 hK69 hK72; simp_all [pApply, pEnd, PState.zero, -UInt8.not_le, -UInt8.not_lt, -UInt32.not_le, -UInt32.not_lt, -Int.not_lt, -Int.not_le, -Nat.not_lt, -Nat.not_le] <;> exact Ens.nil _⟩)
                  · skip
                    refine wp_skip ?_
                    refine hK68 _ _ ?_
                    refine c_seq (fun K73 hK73 => ?_)
                    refine wp_region_lit ?_
                    refine l_step rfl (o_val F (r_load M F rfl (by repeat (first | exact List.mem_cons_self | apply List.mem_cons_of_mem)) agg_State (seg_all rfl)) rfl ?_); clear F a; intro a F
                    refine l_step rfl (o_storeA M F rfl rfl agg_State.size (by repeat (first | exact Upd.here _ _ _ _ _ | apply Upd.there)) (by rfl) (by rfl) (by rfl) ?_); clear F a; intro a W90 M F
                    refine l_step rfl (o_val F (r_assign F rfl) rfl ?_); clear F a; intro a F
                    refine l_nil ?_
                    refine hK73 _ _ ?_
                    refine wp_ret ?_
                    exact ret2 Try.results52 M F (rv_cell M F rfl (by repeat (first | exact List.mem_cons_self | apply List.mem_cons_of_mem)) agg_State rfl) (rv_tmp F rfl) (⟨l6, by clear hI M F hK1 hK2 hK3 hK4 hK42 hK43 hK48 hK49 hK50 hK66 hK67 hK68 hK69 hK73; simp_all [pApply, pEnd, PState.zero, -UInt8.not_le, -UInt8.not_lt, -UInt32.not_le, -UInt32.not_lt, -Int.not_lt, -Int.not_le, -Nat.not_lt, -Nat.not_le], by clear hI M F hK1 hK2 hK3 hK4 hK42 hK43 hK48 hK49 hK50 hK66 hK67 hK68 hK69 hK73; simp_all [pApply, pEnd, PState.zero, -UInt8.not_le, -UInt8.not_lt, -UInt32.not_le, -UInt32.not_lt, -Int.not_lt, -Int.not_le, -Nat.not_lt, -Nat.not_le]⟩)
theorem c_merge_Extends {w : World} {G0 : Ghost} (hI : Imm G0 w) {s t : PState} {l l1 : Sl} (hl : Ens G0 l s.log) (hl1 : Ens G0 l1 t.log) : Ret P 53 [agg (GState.enc (s.at l)), agg (GState.enc (t.at l1))] [] w G0 (fun G W v => v = .bool (pExtends s t)) := by
  refine enter Try.func53 rfl Try.ntmps53 rfl rfl hI (fun a F M => ?_)
  refine c_seq (fun K1 hK1 => ?_)
  refine wp_region_lit ?_
  refine l_step rfl (o_box M F rfl rfl ?_); clear F a; intro a W1 b1 M F
  refine l_step rfl (o_box M F rfl rfl ?_); clear F a; intro a W2 b2 M F
  refine l_step rfl (o_val F (r_assign F rfl) rfl ?_); clear F a; intro a F
  refine l_nil ?_
  refine hK1 _ _ ?_
  refine c_seq (fun K2 hK2 => ?_)
  refine c_seq (fun K3 hK3 => ?_)
  refine wp_region_lit ?_
  refine l_step rfl (o_val F (r_load M F rfl (by repeat (first | exact List.mem_cons_self | apply List.mem_cons_of_mem)) agg_State (seg_all rfl)) rfl ?_); clear F a; intro a F
  refine l_step rfl (o_call M F rfl (c_pglog_Is M.imm (hl.mono M.gl)) rfl ?_); clear F a; intro a W3 v3 G3 hp3 M E3 F
  subst hp3
  refine l_step rfl (o_val F (r_not F rfl) rfl ?_); clear F a; intro a F
  refine l_step rfl (o_val F (r_move F rfl) rfl ?_); clear F a; intro a F
  refine c_split F (i := 13) rfl (fun g13 => ?_) (fun g13 => ?_)
  · skip
    iterate 3 (refine l_skip F rfl rfl rfl g13 rfl rfl ?_; clear F a; intro a F)
    refine l_step rfl (o_val F (r_pick_t F rfl g13 rfl) rfl ?_); clear F a; intro a F
    refine l_nil ?_
    refine hK3 _ _ ?_
    refine c_true F rfl rfl ?_
    refine c_seq (fun K4 hK4 => ?_)
    refine wp_region_lit ?_
    refine l_step rfl (o_val F (r_assign F rfl) rfl ?_); clear F a; intro a F
    refine l_nil ?_
    refine hK4 _ _ ?_
    refine wp_ret ?_
    exact ret1 Try.results53 M F (rv_tmp F rfl) (by clear hI M F hK1 hK2 hK3 hK4; simp_all [pExtends, -UInt8.not_le, -UInt8.not_lt, -UInt32.not_le, -UInt32.not_lt, -Int.not_lt, -Int.not_le, -Nat.not_lt, -Nat.not_le])
  · skip
    refine l_guard F rfl rfl rfl g13 (o_val F (r_load M F rfl (by repeat (first | exact List.mem_cons_self | apply List.mem_cons_of_mem)) agg_State (seg_all rfl)) rfl ?_); clear F a; intro a F
    refine l_guard F rfl rfl rfl g13 (o_call M F rfl (c_pglog_Is M.imm (hl1.mono M.gl)) rfl ?_); clear F a; intro a W4 v4 G4 hp4 M E4 F
    subst hp4
    refine l_guard F rfl rfl rfl g13 (o_val F (r_not F rfl) rfl ?_); clear F a; intro a F
    refine l_step rfl (o_val F (r_pick_f F rfl g13 rfl) rfl ?_); clear F a; intro a F
    refine l_nil ?_
    refine hK3 _ _ ?_
    refine c_cond F rfl (fun g17 => ?_) (fun g17 => ?_)
    · skip
      refine c_seq (fun K5 hK5 => ?_)
      refine wp_region_lit ?_
      refine l_step rfl (o_val F (r_assign F rfl) rfl ?_); clear F a; intro a F
      refine l_nil ?_
      refine hK5 _ _ ?_
      refine wp_ret ?_
      exact ret1 Try.results53 M F (rv_tmp F rfl) (by clear hI M F hK1 hK2 hK3 hK5; simp_all [pExtends, -UInt8.not_le, -UInt8.not_lt, -UInt32.not_le, -UInt32.not_lt, -Int.not_lt, -Int.not_le, -Nat.not_lt, -Nat.not_le])
    · skip
      refine wp_skip ?_
      refine hK2 _ _ ?_
      refine c_seq (fun K6 hK6 => ?_)
      refine wp_region_lit ?_
      refine l_step rfl (o_val F (r_load M F rfl (by repeat (first | exact List.mem_cons_self | apply List.mem_cons_of_mem)) agg_State (seg_all rfl)) rfl ?_); clear F a; intro a F
      refine l_step rfl (o_call M F rfl (c_pglog_Head M.imm (hl.mono M.gl)) rfl ?_); clear F a; intro a W5 v5 G5 hp5 M E5 F
      subst hp5
      refine l_step rfl (o_val F (r_move F rfl) rfl ?_); clear F a; intro a F
      refine l_step rfl (o_val F (r_extract F rfl rfl) rfl ?_); clear F a; intro a F
      refine l_step rfl (o_val F (r_extract F rfl rfl) rfl ?_); clear F a; intro a F
      refine l_step rfl (o_val F (r_assign F rfl) rfl ?_); clear F a; intro a F
      refine l_step rfl (o_val F (r_assign F rfl) rfl ?_); clear F a; intro a F
      refine l_nil ?_
      refine hK6 _ _ ?_
      refine c_seq (fun K7 hK7 => ?_)
      refine wp_region_lit ?_
      refine l_step rfl (o_val F (r_load M F rfl (by repeat (first | exact List.mem_cons_self | apply List.mem_cons_of_mem)) agg_State (seg_all rfl)) rfl ?_); clear F a; intro a F
      refine l_step rfl (o_call M F rfl (c_pglog_Head M.imm (hl1.mono M.gl)) rfl ?_); clear F a; intro a W6 v6 G6 hp6 M E6 F
      subst hp6
      refine l_step rfl (o_val F (r_move F rfl) rfl ?_); clear F a; intro a F
      refine l_step rfl (o_val F (r_extract F rfl rfl) rfl ?_); clear F a; intro a F
      refine l_step rfl (o_val F (r_extract F rfl rfl) rfl ?_); clear F a; intro a F
      refine l_step rfl (o_val F (r_assign F rfl) rfl ?_); clear F a; intro a F
      refine l_step rfl (o_val F (r_assign F rfl) rfl ?_); clear F a; intro a F
      refine l_nil ?_
      refine hK7 _ _ ?_
      refine c_seq (fun K8 hK8 => ?_)
      refine wp_region_lit ?_
      refine l_step rfl (o_val F (r_load M F rfl (by repeat (first | exact List.mem_cons_self | apply List.mem_cons_of_mem)) agg_State (seg_all rfl)) rfl ?_); clear F a; intro a F
      refine l_step rfl (o_val F (r_load M F rfl (by repeat (first | exact List.mem_cons_self | apply List.mem_cons_of_mem)) agg_State (seg_all rfl)) rfl ?_); clear F a; intro a F
      refine l_step rfl (o_call M F rfl (c_merge_Make M.imm (hl.mono M.gl) (hl1.mono M.gl)) rfl ?_); clear F a; intro a W7 v7 G7 hp7 M E7 F
      obtain ⟨l3, l4, rfl, _, _⟩ := hp7
      refine l_step rfl (o_alloc M F zer_Diff rfl ?_); clear F a; intro a W8 b3 M F
      refine l_step rfl (o_storeA M F rfl rfl agg_Diff.size (by repeat (first | exact Upd.here _ _ _ _ _ | apply Upd.there)) (by rfl) (by rfl) (by rfl) ?_); clear F a; intro a W9 M F
      refine l_nil ?_
      refine hK8 _ _ ?_
      refine c_seq (fun K9 hK9 => ?_)
      refine wp_region_lit ?_
      refine l_step rfl (o_val F (r_move F rfl) rfl ?_); clear F a; intro a F
      refine l_step rfl (o_val F (r_move F rfl) rfl ?_); clear F a; intro a F
      refine l_step rfl (o_val F (r_geq_u32 F rfl rfl) rfl ?_); clear F a; intro a F
      refine l_step rfl (o_val F (r_move F rfl) rfl ?_); clear F a; intro a F
      refine c_split F (i := 34) rfl (fun g34 => ?_) (fun g34 => ?_)
      · skip
        refine l_guard F rfl rfl rfl g34 (o_val F (r_fieldAddr F rfl fld_Diff_0) rfl ?_); clear F a; intro a F
        refine l_guard F rfl rfl rfl g34 (o_val F (r_load1 M F rfl (by repeat (first | exact List.mem_cons_self | apply List.mem_cons_of_mem)) sca_int rfl) rfl ?_); clear F a; intro a F
        refine l_guard F rfl rfl rfl g34 (o_val F (r_eql_i64 F rfl rfl) rfl ?_); clear F a; intro a F
        refine l_guard F rfl rfl rfl g34 (o_val F (r_move F rfl) rfl ?_); clear F a; intro a F
        refine c_split F (i := 38) rfl (fun g38 => ?_) (fun g38 => ?_)
        · skip
          iterate 4 (refine l_skip F rfl rfl rfl g38 rfl rfl ?_; clear F a; intro a F)
          iterate 4 (refine l_skipu F rfl rfl rfl rfl rfl ?_; clear F a; intro a F)
          iterate 1 (refine l_skip F rfl rfl rfl g38 rfl rfl ?_; clear F a; intro a F)
          refine l_guard F rfl rfl rfl g34 (o_val F (r_pick_t F rfl g38 rfl) rfl ?_); clear F a; intro a F
          refine l_step rfl (o_val F (r_pick_t F rfl g34 rfl) rfl ?_); clear F a; intro a F
          refine l_step rfl (o_val F (r_assign F rfl) rfl ?_); clear F a; intro a F
          refine l_nil ?_
          refine hK9 _ _ ?_
          refine wp_ret ?_
          exact ret1 Try.results53 M F (rv_tmp F rfl) (by clear hI M F hK1 hK2 hK3 hK6 hK7 hK8 hK9; simp_all [pExtends, -UInt8.not_le, -UInt8.not_lt, -UInt32.not_le, -UInt32.not_lt, -Int.not_lt, -Int.not_le, -Nat.not_lt, -Nat.not_le])
        · skip
          refine l_guard F rfl rfl rfl g38 (o_val F (r_fieldAddr F rfl fld_Diff_0) rfl ?_); clear F a; intro a F
          refine l_guard F rfl rfl rfl g38 (o_val F (r_load1 M F rfl (by repeat (first | exact List.mem_cons_self | apply List.mem_cons_of_mem)) sca_int rfl) rfl ?_); clear F a; intro a F
          refine l_guard F rfl rfl rfl g38 (o_val F (r_eql_i64 F rfl rfl) rfl ?_); clear F a; intro a F
          refine l_guard F rfl rfl rfl g38 (o_val F (r_move F rfl) rfl ?_); clear F a; intro a F
          refine c_split F (i := 42) rfl (fun g42 => ?_) (fun g42 => ?_)
          · skip
            refine l_guard F rfl rfl rfl g42 (o_val F (r_fieldAddr F rfl fld_Diff_1) rfl ?_); clear F a; intro a F
            refine l_guard F rfl rfl rfl g42 (o_val F (r_load1 M F rfl (by repeat (first | exact List.mem_cons_self | apply List.mem_cons_of_mem)) sca_u32 rfl) rfl ?_); clear F a; intro a F
            refine l_guard F rfl rfl rfl g42 (o_val F (r_move F rfl) rfl ?_); clear F a; intro a F
            refine l_guard F rfl rfl rfl g42 (o_val F (r_eql_u32 F rfl rfl) rfl ?_); clear F a; intro a F
            refine l_guard F rfl rfl rfl g38 (o_val F (r_pick_t F rfl g42 rfl) rfl ?_); clear F a; intro a F
            refine l_guard F rfl rfl rfl g34 (o_val F (r_pick_f F rfl g38 rfl) rfl ?_); clear F a; intro a F
            refine l_step rfl (o_val F (r_pick_t F rfl g34 rfl) rfl ?_); clear F a; intro a F
            refine l_step rfl (o_val F (r_assign F rfl) rfl ?_); clear F a; intro a F
            refine l_nil ?_
            refine hK9 _ _ ?_
            refine wp_ret ?_
            exact ret1 Try.results53 M F (rv_tmp F rfl) (by clear hI M F hK1 hK2 hK3 hK6 hK7 hK8 hK9; simp_all [pExtends, -UInt8.not_le, -UInt8.not_lt, -UInt32.not_le, -UInt32.not_lt, -Int.not_lt, -Int.not_le, -Nat.not_lt, -Nat.not_le])
          · skip
            iterate 4 (refine l_skip F rfl rfl rfl g42 rfl rfl ?_; clear F a; intro a F)
            refine l_guard F rfl rfl rfl g38 (o_val F (r_pick_f F rfl g42 rfl) rfl ?_); clear F a; intro a F
            refine l_guard F rfl rfl rfl g34 (o_val F (r_pick_f F rfl g38 rfl) rfl ?_); clear F a; intro a F
            refine l_step rfl (o_val F (r_pick_t F rfl g34 rfl) rfl ?_); clear F a; intro a F
            refine l_step rfl (o_val F (r_assign F rfl) rfl ?_); clear F a; intro a F
            refine l_nil ?_
            refine hK9 _ _ ?_
            refine wp_ret ?_
            exact ret1 Try.results53 M F (rv_tmp F rfl) (by clear hI M F hK1 hK2 hK3 hK6 hK7 hK8 hK9; simp_all [pExtends, -UInt8.not_le, -UInt8.not_lt, -UInt32.not_le, -UInt32.not_lt, -Int.not_lt, -Int.not_le, -Nat.not_lt, -Nat.not_le])
      · skip
        iterate 4 (refine l_skip F rfl rfl rfl g34 rfl rfl ?_; clear F a; intro a F)
        iterate 9 (refine l_skipu F rfl rfl rfl rfl rfl ?_; clear F a; intro a F)
        iterate 1 (refine l_skip F rfl rfl rfl g34 rfl rfl ?_; clear F a; intro a F)
        refine l_step rfl (o_val F (r_pick_f F rfl g34 rfl) rfl ?_); clear F a; intro a F
        refine l_step rfl (o_val F (r_assign F rfl) rfl ?_); clear F a; intro a F
        refine l_nil ?_
        refine hK9 _ _ ?_
        refine wp_ret ?_
        exact ret1 Try.results53 M F (rv_tmp F rfl) (by clear hI M F hK1 hK2 hK3 hK6 hK7 hK8 hK9; simp_all [pExtends, -UInt8.not_le, -UInt8.not_lt, -UInt32.not_le, -UInt32.not_lt, -Int.not_lt, -Int.not_le, -Nat.not_lt, -Nat.not_le])
theorem c_merge_Bytes {w : World} {G0 : Ghost} (hI : Imm G0 w) {d : PDiff} {l1 l2 : Sl} (hl1 : Ens G0 l1 d.log) (hl2 : Ens G0 l2 d.whole.log) (hx : d.log.length ≤ 1000) (hx2 : d.whole.log.length ≤ 1000) : Ret P 60 [agg (GDiff.enc (d.at l1 l2))] [] w G0 (fun G W v => v = .int .i64 (pBytes d)) := by
  refine enter Try.func60 rfl Try.ntmps60 rfl rfl hI (fun a F M => ?_)
  have hlen1 : (d.at l1 l2).log.len = d.log.length := hl1.len
  have hlen2 : (d.at l1 l2).whole.log.len = d.whole.log.length := hl2.len
  refine c_seq (fun K1 hK1 => ?_)
  refine wp_region_lit ?_
  refine l_step rfl (o_box M F rfl rfl ?_); clear F a; intro a W1 b1 M F
  refine l_step rfl (o_val F (r_assign F rfl) rfl ?_); clear F a; intro a F
  refine l_nil ?_
  refine hK1 _ _ ?_
  refine c_seq (fun K2 hK2 => ?_)
  refine wp_region_lit ?_
  refine l_step rfl (o_val F (r_fieldAddr F rfl fld_Diff_2) rfl ?_); clear F a; intro a F
  refine l_step rfl (o_val F (r_load1 M F rfl (by repeat (first | exact List.mem_cons_self | apply List.mem_cons_of_mem)) sca_Entries rfl) rfl ?_); clear F a; intro a F
  refine l_step rfl (o_val F (r_len_slice F slc_Entries.und rfl) rfl ?_); clear F a; intro a F
  refine l_step rfl (o_val F (r_fieldAddr F rfl fld_Diff_3) rfl ?_); clear F a; intro a F
  refine l_step rfl (o_val F (r_fieldAddr F rfl fld_State_3) rfl ?_); clear F a; intro a F
  refine l_step rfl (o_val F (r_load1 M F rfl (by repeat (first | exact List.mem_cons_self | apply List.mem_cons_of_mem)) sca_Entries rfl) rfl ?_); clear F a; intro a F
  refine l_step rfl (o_val F (r_len_slice F slc_Entries.und rfl) rfl ?_); clear F a; intro a F
  refine l_step rfl (o_val F (r_add_i64 F rfl rfl (by omega)) rfl ?_); clear F a; intro a F
  refine l_step rfl (o_val F (r_assign F rfl) rfl ?_); clear F a; intro a F
  refine l_nil ?_
  refine hK2 _ _ ?_
  refine c_seq (fun K3 hK3 => ?_)
  refine c_seq (fun K4 hK4 => ?_)
  refine wp_region_lit ?_
  refine l_step rfl (o_val F (r_fieldAddr F rfl fld_Diff_3) rfl ?_); clear F a; intro a F
  refine l_step rfl (o_val F (r_fieldAddr F rfl fld_State_1) rfl ?_); clear F a; intro a F
  refine l_step rfl (o_val F (r_fieldAddr F rfl fld_Base_0) rfl ?_); clear F a; intro a F
  refine l_step rfl (o_val F (r_load M F rfl (by repeat (first | exact List.mem_cons_self | apply List.mem_cons_of_mem)) agg_Objs g_Diff_3_1_0) rfl ?_); clear F a; intro a F
  refine l_step rfl (o_val F (r_move F rfl) rfl ?_); clear F a; intro a F
  refine l_nil ?_
  refine hK4 _ _ ?_
  refine wp_block ?_
  refine c_loop (fun k a W => ∃ (i : Nat) (G : Ghost) (c : Int), k = 6 - i ∧ i ≤ 6 ∧ Frm 27 [(18, .int .i64 (i : Int)), (17, agg d.whole.base.encObjs), (3, .int .i64 c), (1, .pointer (some ⟨b1, 0, none⟩))] a ∧ St [] w G0 W [⟨b1, 94, (d.at l1 l2).enc⟩] G ∧ (c = (d.log.length : Int) + (d.whole.log.length : Int) + pCount d.whole.base i)) (6) ?_ ?_
  · exact ⟨0, _, _, rfl, Nat.zero_le _, (F.cons (F.cons (F.cons (F.cons F.nil 1 rfl) 3 rfl) 17 rfl) 18 rfl), M, (by rw [hlen1, hlen2]; simp [pCount])⟩
  · clear F M a; intro k a W hI; obtain ⟨i, G, c, hk, hi, F, M, hf⟩ := hI
    refine c_seq (fun K5 hK5 => ?_)
    refine wp_region_lit ?_
    refine l_step rfl (o_val F (r_lss_i64 F rfl rfl) rfl ?_); clear F a; intro a F
    refine l_nil ?_
    refine hK5 _ _ ?_
    refine c_seq (fun K6 hK6 => ?_)
    refine c_cond F rfl (fun g19 => ?_) (fun g19 => ?_)
    · skip
      have hlt : i < 6 := by have h := of_decide_eq_true g19; omega
      have hcl := count_le d.whole.base i
      have hcs : pCount d.whole.base (i + 1) = pCount d.whole.base i + if (d.whole.base.obj i).there = true then 1 else 0 := rfl
      refine wp_skip ?_
      refine hK6 _ _ ?_
      refine c_seq (fun K7 hK7 => ?_)
      refine wp_block ?_
      refine c_seq (fun K8 hK8 => ?_)
      refine wp_region_lit ?_
      refine l_step rfl (o_val F (r_index F rfl rfl arr_Objs agg_Obj (by omega) (by omega) (e_Objs (by omega))) rfl ?_); clear F a; intro a F
      refine l_step rfl (o_alloc M F zer_Obj rfl ?_); clear F a; intro a W2 b2 M F
      refine l_step rfl (o_storeA M F rfl rfl agg_Obj.size (by repeat (first | exact Upd.here _ _ _ _ _ | apply Upd.there)) (by rfl) (by rfl) (by rfl) ?_); clear F a; intro a W3 M F
      refine l_nil ?_
      refine hK8 _ _ ?_
      refine c_seq (fun K9 hK9 => ?_)
      refine wp_region_lit ?_
      refine l_step rfl (o_val F (r_fieldAddr F rfl fld_Obj_0) rfl ?_); clear F a; intro a F
      refine l_step rfl (o_val F (r_load1 M F rfl (by repeat (first | exact List.mem_cons_self | apply List.mem_cons_of_mem)) sca_bool rfl) rfl ?_); clear F a; intro a F
      refine l_nil ?_
      refine hK9 _ _ ?_
      refine c_cond F rfl (fun g22 => ?_) (fun g22 => ?_)
      · skip
        refine wp_region_lit ?_
        refine l_step rfl (o_val F (r_move F rfl) rfl ?_); clear F a; intro a F
        refine l_step rfl (o_val F (r_add_i64 F rfl rfl (by omega)) rfl ?_); clear F a; intro a F
        refine l_step rfl (o_val F (r_assign F rfl) rfl ?_); clear F a; intro a F
        refine l_nil ?_
        refine hK7 _ _ ?_
        refine wp_region_lit ?_
        refine l_step rfl (o_val F (r_add_i64 F rfl rfl (by omega)) rfl ?_); clear F a; intro a F
        refine l_step rfl (o_val F (r_move F rfl) rfl ?_); clear F a; intro a F
        refine l_nil ?_
        exact ⟨6 - (i + 1), by omega, i + 1, _, _, rfl, by omega, (F.cons (F.cons (F.cons (F.cons F.nil 1 rfl) 3 rfl) 17 rfl) 18 rfl), M.drop (by repeat (first | exact List.Sublist.refl _ | apply List.Sublist.cons_cons | apply List.Sublist.cons)), (by rw [hcs, hf]; simp_all; try omega)⟩
      · skip
        refine wp_skip ?_
        refine hK7 _ _ ?_
        refine wp_region_lit ?_
        refine l_step rfl (o_val F (r_add_i64 F rfl rfl (by omega)) rfl ?_); clear F a; intro a F
        refine l_step rfl (o_val F (r_move F rfl) rfl ?_); clear F a; intro a F
        refine l_nil ?_
        exact ⟨6 - (i + 1), by omega, i + 1, _, _, rfl, by omega, (F.cons (F.cons (F.cons (F.cons F.nil 1 rfl) 3 rfl) 17 rfl) 18 rfl), M.drop (by repeat (first | exact List.Sublist.refl _ | apply List.Sublist.cons_cons | apply List.Sublist.cons)), (by rw [hcs, hf]; simp_all; try omega)⟩
    · skip
      have hge : i = 6 := by have h := of_decide_eq_false g19; omega
      refine wp_exit ?_
      refine hK3 _ _ ?_
      refine c_seq (fun K10 hK10 => ?_)
      refine wp_region_lit ?_
      refine l_step rfl (o_val F (r_move F rfl) rfl ?_); clear F a; intro a F
      refine l_step rfl (o_val F (r_assign F rfl) rfl ?_); clear F a; intro a F
      refine l_nil ?_
      refine hK10 _ _ ?_
      refine wp_ret ?_
      exact ret1 Try.results60 M F (rv_tmp F rfl) (by subst hge; rw [hf]; rfl)
end Go.Proofs.Ytfkmaepcjognkaa.Pad
