/- The walk of LogTells: it answers true. The states' logs are slices, whatever they are. -/
import Derived.Test.YtfkmaepcjognkaaR6b
namespace Go.Proofs.Ytfkmaepcjognkaa.Pad
open Go Go.Proofs
set_option linter.unusedVariables false
set_option maxRecDepth 8000
set_option maxHeartbeats 4000000
set_option linter.unusedSimpArgs false
theorem c_paddocklaw7_few {w : World} {G0 : Ghost} (hI : Imm G0 w) {s : PState} {l : Sl} (hl : Ens G0 l s.log) : Ret P 34 [agg (GState.enc (s.at l))] [] w G0 (fun G W v => ∃ c : Bool, v = .bool c ∧ (c = true → s.log.length ≤ 20)) := by
  refine enter Try.func34 rfl Try.ntmps34 rfl rfl hI (fun a F M => ?_)
  have hlen : (s.at l).log.len = s.log.length := hl.len
  refine c_seq (fun K1 hK1 => ?_)
  refine wp_region_lit ?_
  refine l_step rfl (o_box M F rfl rfl ?_); clear F a; intro a W1 b1 M F
  refine l_step rfl (o_val F (r_assign F rfl) rfl ?_); clear F a; intro a F
  refine l_nil ?_
  refine hK1 _ _ ?_
  refine c_seq (fun K2 hK2 => ?_)
  refine c_seq (fun K3 hK3 => ?_)
  refine wp_region_lit ?_
  refine l_step rfl (o_val F (r_assign F rfl) rfl ?_); clear F a; intro a F
  refine l_nil ?_
  refine hK3 _ _ ?_
  refine wp_block ?_
  refine c_loop (fun k a W => ∃ (i : Nat) (G : Ghost) , k = 6 - i ∧ i ≤ 6 ∧ Frm 20 [(3, .int .i64 (i : Int)), (1, .pointer (some ⟨b1, 0, none⟩))] a ∧ St [] w G0 W [⟨b1, 42, (s.at l).enc⟩] G ∧ (True)) (6) ?_ ?_
  · exact ⟨0, _, rfl, Nat.zero_le _, (F.cons (F.cons F.nil 1 rfl) 3 rfl), M, trivial⟩
  · clear F M a; intro k a W hI; obtain ⟨i, G, hk, hi, F, M, hf⟩ := hI
    refine c_seq (fun K4 hK4 => ?_)
    refine c_seq (fun K5 hK5 => ?_)
    refine wp_region_lit ?_
    refine l_step rfl (o_val F (r_move F rfl) rfl ?_); clear F a; intro a F
    refine l_step rfl (o_val F (r_lss_i64 F rfl rfl) rfl ?_); clear F a; intro a F
    refine l_nil ?_
    refine hK5 _ _ ?_
    refine c_cond F rfl (fun g5 => ?_) (fun g5 => ?_)
    · skip
      have hlt : i < 6 := by have h := of_decide_eq_true g5; omega
      have hk11 : (i : Int).toNat < 6 := by omega
      refine wp_skip ?_
      refine hK4 _ _ ?_
      refine c_seq (fun K6 hK6 => ?_)
      refine wp_block ?_
      refine c_seq (fun K7 hK7 => ?_)
      refine wp_region_lit ?_
      refine l_step rfl (o_val F (r_move F rfl) rfl ?_); clear F a; intro a F
      refine l_step rfl (o_val F (r_fieldAddr F rfl fld_State_1) rfl ?_); clear F a; intro a F
      refine l_step rfl (o_val F (r_fieldAddr F rfl fld_Base_0) rfl ?_); clear F a; intro a F
      refine l_step rfl (o_val F (r_indexArr F rfl rfl arr_Objs (by omega) (by omega)) rfl ?_); clear F a; intro a F
      refine l_step rfl (o_val F (r_fieldAddr F rfl fld_Obj_1) rfl ?_); clear F a; intro a F
      refine l_step rfl (o_val F (r_load1 M F rfl (by repeat (first | exact List.mem_cons_self | apply List.mem_cons_of_mem)) sca_string (g_State_1_0_i_1 hk11)) rfl ?_); clear F a; intro a F
      refine l_step rfl (o_val F (r_len_string F und_string rfl) rfl ?_); clear F a; intro a F
      refine l_step rfl (o_val F (r_gtr_i64 F rfl rfl) rfl ?_); clear F a; intro a F
      refine l_nil ?_
      refine hK7 _ _ ?_
      refine c_cond F rfl (fun g15 => ?_) (fun g15 => ?_)
      · skip
        refine c_seq (fun K8 hK8 => ?_)
        refine wp_region_lit ?_
        refine l_step rfl (o_val F (r_assign F rfl) rfl ?_); clear F a; intro a F
        refine l_nil ?_
        refine hK8 _ _ ?_
        refine wp_ret ?_
        exact ret1 Try.results34 M F (rv_tmp F rfl) (⟨_, rfl, fun h => by cases h⟩)
      · skip
        refine wp_skip ?_
        refine hK6 _ _ ?_
        refine wp_region_lit ?_
        refine l_step rfl (o_val F (r_move F rfl) rfl ?_); clear F a; intro a F
        refine l_step rfl (o_val F (r_add_i64 F rfl rfl (by omega)) rfl ?_); clear F a; intro a F
        refine l_step rfl (o_val F (r_assign F rfl) rfl ?_); clear F a; intro a F
        refine l_nil ?_
        exact ⟨6 - (i + 1), by omega, i + 1, _, rfl, by omega, (F.cons (F.cons F.nil 1 rfl) 3 rfl), M.drop (by repeat (first | exact List.Sublist.refl _ | apply List.Sublist.cons_cons | apply List.Sublist.cons)), trivial⟩
    · skip
      have hge : i = 6 := by have h := of_decide_eq_false g5; omega
      refine wp_exit ?_
      refine hK2 _ _ ?_
      refine c_seq (fun K9 hK9 => ?_)
      refine wp_region_lit ?_
      refine l_step rfl (o_val F (r_fieldAddr F rfl fld_State_3) rfl ?_); clear F a; intro a F
      refine l_step rfl (o_val F (r_load1 M F rfl (by repeat (first | exact List.mem_cons_self | apply List.mem_cons_of_mem)) sca_Entries rfl) rfl ?_); clear F a; intro a F
      refine l_step rfl (o_val F (r_len_slice F slc_Entries.und rfl) rfl ?_); clear F a; intro a F
      refine l_step rfl (o_val F (r_leq_i64 F rfl rfl) rfl ?_); clear F a; intro a F
      refine l_step rfl (o_val F (r_assign F rfl) rfl ?_); clear F a; intro a F
      refine l_nil ?_
      refine hK9 _ _ ?_
      refine wp_ret ?_
      exact ret1 Try.results34 M F (rv_tmp F rfl) (⟨_, rfl, fun h => by have h := of_decide_eq_true h; omega⟩)
theorem c_paddocklaw7_LogTells {w : World} {G0 : Ghost} (hI : Imm G0 w) {s t : PState} {l l1 : Sl} {e : PEntry} {n : UInt32} (hl : Ens G0 l s.log) (hl1 : Ens G0 l1 t.log) : Ret P 7 [agg (GState.enc (s.at l)), agg (GState.enc (t.at l1)), agg e.enc, .int .u32 (n.toNat : Int)] [] w G0 (fun G W v => v = .bool true) := by
  refine enter Try.func7 rfl Try.ntmps7 rfl rfl hI (fun a F M => ?_)
  refine c_seq (fun K1 hK1 => ?_)
  refine wp_region_lit ?_
  refine l_step rfl (o_box M F rfl rfl ?_); clear F a; intro a W1 b1 M F
  refine l_step rfl (o_box M F rfl rfl ?_); clear F a; intro a W2 b2 M F
  refine l_step rfl (o_box M F rfl rfl ?_); clear F a; intro a W3 b3 M F
  refine l_step rfl (o_val F (r_assign F rfl) rfl ?_); clear F a; intro a F
  refine l_nil ?_
  refine hK1 _ _ ?_
  refine c_seq (fun K2 hK2 => ?_)
  refine c_seq (fun K3 hK3 => ?_)
  refine wp_region_lit ?_
  refine l_step rfl (o_call M F rfl (c_paddocklaw7_known M.imm) rfl ?_); clear F a; intro a W4 v4 G4 hp4 M E4 F
  have hl := hl.mono E4.gl
  have hl1 := hl1.mono E4.gl
  subst hp4
  refine l_step rfl (o_val F (r_not F rfl) rfl ?_); clear F a; intro a F
  refine l_nil ?_
  refine hK3 _ _ ?_
  refine c_false F rfl rfl ?_
  refine wp_skip ?_
  refine hK2 _ _ ?_
  refine c_seq (fun K4 hK4 => ?_)
  refine c_seq (fun K5 hK5 => ?_)
  refine wp_region_lit ?_
  refine l_step rfl (o_val F (r_load M F rfl (by repeat (first | exact List.mem_cons_self | apply List.mem_cons_of_mem)) agg_State (seg_all rfl)) rfl ?_); clear F a; intro a F
  refine l_step rfl (o_call M F rfl (c_paddocklaw7_few M.imm hl) rfl ?_); clear F a; intro a W5 v5 G5 hp5 M E5 F
  have hl := hl.mono E5.gl
  have hl1 := hl1.mono E5.gl
  obtain ⟨c1, rfl, hc1⟩ := hp5
  refine l_step rfl (o_val F (r_not F rfl) rfl ?_); clear F a; intro a F
  refine l_step rfl (o_val F (r_move F rfl) rfl ?_); clear F a; intro a F
  refine c_split F (i := 31) rfl (fun g31 => ?_) (fun g31 => ?_)
  · skip
    iterate 3 (refine l_skip F rfl rfl rfl g31 rfl rfl ?_; clear F a; intro a F)
    refine l_step rfl (o_val F (r_pick_t F rfl g31 rfl) rfl ?_); clear F a; intro a F
    refine l_nil ?_
    refine hK5 _ _ ?_
    refine c_true F rfl rfl ?_
    refine c_seq (fun K6 hK6 => ?_)
    refine wp_region_lit ?_
    refine l_step rfl (o_val F (r_assign F rfl) rfl ?_); clear F a; intro a F
    refine l_nil ?_
    refine hK6 _ _ ?_
    refine wp_ret ?_
    exact ret1 Try.results7 M F (rv_tmp F rfl) (rfl)
  · skip
    refine l_guard F rfl rfl rfl g31 (o_val F (r_load M F rfl (by repeat (first | exact List.mem_cons_self | apply List.mem_cons_of_mem)) agg_State (seg_all rfl)) rfl ?_); clear F a; intro a F
    refine l_guard F rfl rfl rfl g31 (o_call M F rfl (c_paddocklaw7_few M.imm hl1) rfl ?_); clear F a; intro a W6 v6 G6 hp6 M E6 F
    have hl := hl.mono E6.gl
    have hl1 := hl1.mono E6.gl
    obtain ⟨c2, rfl, hc2⟩ := hp6
    refine l_guard F rfl rfl rfl g31 (o_val F (r_not F rfl) rfl ?_); clear F a; intro a F
    refine l_step rfl (o_val F (r_pick_f F rfl g31 rfl) rfl ?_); clear F a; intro a F
    refine l_nil ?_
    refine hK5 _ _ ?_
    refine c_cond F rfl (fun g35 => ?_) (fun g35 => ?_)
    · skip
      refine c_seq (fun K7 hK7 => ?_)
      refine wp_region_lit ?_
      refine l_step rfl (o_val F (r_assign F rfl) rfl ?_); clear F a; intro a F
      refine l_nil ?_
      refine hK7 _ _ ?_
      refine wp_ret ?_
      exact ret1 Try.results7 M F (rv_tmp F rfl) (rfl)
    · skip
      refine wp_skip ?_
      refine hK4 _ _ ?_
      refine c_seq (fun K8 hK8 => ?_)
      refine wp_region_lit ?_
      refine l_step rfl (o_val F (r_load M F rfl (by repeat (first | exact List.mem_cons_self | apply List.mem_cons_of_mem)) agg_State (seg_all rfl)) rfl ?_); clear F a; intro a F
      refine l_step rfl (o_call M F rfl (c_pglog_Head M.imm hl) rfl ?_); clear F a; intro a W7 v7 G7 hp7 M E7 F
      have hl := hl.mono E7.gl
      have hl1 := hl1.mono E7.gl
      subst hp7
      refine l_step rfl (o_val F (r_move F rfl) rfl ?_); clear F a; intro a F
      refine l_step rfl (o_val F (r_extract F rfl rfl) rfl ?_); clear F a; intro a F
      refine l_step rfl (o_val F (r_extract F rfl rfl) rfl ?_); clear F a; intro a F
      refine l_step rfl (o_val F (r_assign F rfl) rfl ?_); clear F a; intro a F
      refine l_step rfl (o_val F (r_assign F rfl) rfl ?_); clear F a; intro a F
      refine l_nil ?_
      refine hK8 _ _ ?_
      refine c_seq (fun K9 hK9 => ?_)
      refine wp_region_lit ?_
      refine l_step rfl (o_val F (r_load M F rfl (by repeat (first | exact List.mem_cons_self | apply List.mem_cons_of_mem)) agg_State (seg_all rfl)) rfl ?_); clear F a; intro a F
      refine l_step rfl (o_call M F rfl (c_paddockref6_Head M.imm hl) rfl ?_); clear F a; intro a W8 v8 G8 hp8 M E8 F
      have hl := hl.mono E8.gl
      have hl1 := hl1.mono E8.gl
      subst hp8
      refine l_step rfl (o_val F (r_move F rfl) rfl ?_); clear F a; intro a F
      refine l_step rfl (o_val F (r_extract F rfl rfl) rfl ?_); clear F a; intro a F
      refine l_step rfl (o_val F (r_extract F rfl rfl) rfl ?_); clear F a; intro a F
      refine l_step rfl (o_val F (r_assign F rfl) rfl ?_); clear F a; intro a F
      refine l_step rfl (o_val F (r_assign F rfl) rfl ?_); clear F a; intro a F
      refine l_nil ?_
      refine hK9 _ _ ?_
      refine c_seq (fun K10 hK10 => ?_)
      refine wp_region_lit ?_
      refine l_step rfl (o_val F (r_load M F rfl (by repeat (first | exact List.mem_cons_self | apply List.mem_cons_of_mem)) agg_State (seg_all rfl)) rfl ?_); clear F a; intro a F
      refine l_step rfl (o_val F (r_load M F rfl (by repeat (first | exact List.mem_cons_self | apply List.mem_cons_of_mem)) agg_Entry (seg_all rfl)) rfl ?_); clear F a; intro a F
      refine l_step rfl (o_call M F rfl (c_pglog_Add M.imm hl) rfl ?_); clear F a; intro a W9 v9 G9 hp9 M E9 F
      have hl := hl.mono E9.gl
      have hl1 := hl1.mono E9.gl
      obtain ⟨l2, rfl, hl2⟩ := hp9
      refine l_step rfl (o_val F (r_move F rfl) rfl ?_); clear F a; intro a F
      refine l_step rfl (o_val F (r_extract F rfl rfl) rfl ?_); clear F a; intro a F
      refine l_step rfl (o_val F (r_extract F rfl rfl) rfl ?_); clear F a; intro a F
      refine l_step rfl (o_alloc M F zer_State rfl ?_); clear F a; intro a W10 b4 M F
      refine l_step rfl (o_storeA M F rfl rfl agg_State.size (by repeat (first | exact Upd.here _ _ _ _ _ | apply Upd.there)) (by rfl) (by rfl) (by rfl) ?_); clear F a; intro a W11 M F
      refine l_step rfl (o_val F (r_assign F rfl) rfl ?_); clear F a; intro a F
      refine l_nil ?_
      refine hK10 _ _ ?_
      refine c_seq (fun K11 hK11 => ?_)
      refine wp_region_lit ?_
      refine l_step rfl (o_val F (r_load M F rfl (by repeat (first | exact List.mem_cons_self | apply List.mem_cons_of_mem)) agg_State (seg_all rfl)) rfl ?_); clear F a; intro a F
      refine l_step rfl (o_val F (r_load M F rfl (by repeat (first | exact List.mem_cons_self | apply List.mem_cons_of_mem)) agg_Entry (seg_all rfl)) rfl ?_); clear F a; intro a F
      refine l_step rfl (o_call M F rfl (c_paddockref6_Add M.imm hl) rfl ?_); clear F a; intro a W12 v12 G12 hp12 M E12 F
      have hl := hl.mono E12.gl
      have hl1 := hl1.mono E12.gl
      have hl2 := hl2.mono E12.gl
      obtain ⟨l3, rfl, hl3⟩ := hp12
      refine l_step rfl (o_val F (r_move F rfl) rfl ?_); clear F a; intro a F
      refine l_step rfl (o_val F (r_extract F rfl rfl) rfl ?_); clear F a; intro a F
      refine l_step rfl (o_val F (r_extract F rfl rfl) rfl ?_); clear F a; intro a F
      refine l_step rfl (o_alloc M F zer_State rfl ?_); clear F a; intro a W13 b5 M F
      refine l_step rfl (o_storeA M F rfl rfl agg_State.size (by repeat (first | exact Upd.here _ _ _ _ _ | apply Upd.there)) (by rfl) (by rfl) (by rfl) ?_); clear F a; intro a W14 M F
      refine l_step rfl (o_val F (r_assign F rfl) rfl ?_); clear F a; intro a F
      refine l_nil ?_
      refine hK11 _ _ ?_
      refine c_seq (fun K12 hK12 => ?_)
      refine c_seq (fun K13 hK13 => ?_)
      refine c_drawM M [] mixed (fun M => ?_)
      have Ms := M
      have hq1 := Keeps.here M
      have hle1 := M.gle
      refine t_take (i := 0) F rfl rfl hq1 (fun _ ⟨_, _, M'⟩ => r_load M' F rfl (by repeat (first | exact List.mem_cons_self | apply List.mem_cons_of_mem)) agg_State (seg_all rfl)) (fun _ _ _ h => h) (by kernel_rfl) (by kernel_rfl) (by kernel_rfl) (by kernel_rfl) ?_; clear F a; intro a F
      refine t_take (i := 2) F rfl rfl hq1 (fun _ ⟨_, _, M'⟩ => r_load M' F rfl (by repeat (first | exact List.mem_cons_self | apply List.mem_cons_of_mem)) agg_State (seg_all rfl)) (fun _ _ _ h => h) (by kernel_rfl) (by kernel_rfl) (by kernel_rfl) (by kernel_rfl) ?_; clear F a; intro a F
      refine t_one (i := 1) (by kernel_rfl) rfl rfl (o_call M F rfl (c_pglog_Is M.imm hl) rfl ?_); clear F a; intro a W15 v15 G15 hp15 M E15 F
      have hl := hl.mono E15.gl
      have hl1 := hl1.mono E15.gl
      have hl2 := hl2.mono E15.gl
      have hl3 := hl3.mono E15.gl
      subst hp15
      have hle1 := hle1.trans E15.gl
      refine keepAnd (Keeps.mk hle1 M (by repeat (first | exact List.Sublist.refl _ | apply List.Sublist.cons_cons | apply List.Sublist.cons))) (fun hq1 => ?_)
      refine t_one (i := 3) (by kernel_rfl) rfl rfl (o_call M F rfl (c_paddockref6_Is M.imm hl) rfl ?_); clear F a; intro a W16 v16 G16 hp16 M E16 F
      have hl := hl.mono E16.gl
      have hl1 := hl1.mono E16.gl
      have hl2 := hl2.mono E16.gl
      have hl3 := hl3.mono E16.gl
      subst hp16
      have hle1 := hle1.trans E16.gl
      refine keepAnd (Keeps.mk hle1 M (by repeat (first | exact List.Sublist.refl _ | apply List.Sublist.cons_cons | apply List.Sublist.cons))) (fun hq1 => ?_)
      refine t_take (i := 4) F rfl rfl hq1 (fun _ _ => r_neq_bool F und_bool rfl rfl) (fun _ _ _ h => h) (by kernel_rfl) (by kernel_rfl) (by kernel_rfl) (by kernel_rfl) ?_; clear F a; intro a F
      refine t_take (i := 5) F rfl rfl hq1 (fun _ _ => r_move F rfl) (fun _ _ _ h => h) (by kernel_rfl) (by kernel_rfl) (by kernel_rfl) (by kernel_rfl) ?_; clear F a; intro a F
      refine t_takeg (i := 6) F rfl rfl rfl (by simp) rfl hq1 (fun _ _ => r_move F rfl) (fun _ _ _ h => h) (by kernel_rfl) (by kernel_rfl) (by kernel_rfl) (by kernel_rfl) ?_; clear F a; intro a F
      refine t_takeg (i := 7) F rfl rfl rfl (by simp) rfl hq1 (fun _ _ => r_move F rfl) (fun _ _ _ h => h) (by kernel_rfl) (by kernel_rfl) (by kernel_rfl) (by kernel_rfl) ?_; clear F a; intro a F
      refine t_takeg (i := 8) F rfl rfl rfl (by simp) rfl hq1 (fun _ _ => r_neq_u32 F rfl rfl) (fun _ _ _ h => h) (by kernel_rfl) (by kernel_rfl) (by kernel_rfl) (by kernel_rfl) ?_; clear F a; intro a F
      refine t_take (i := 9) F rfl rfl hq1 (fun _ _ => r_pick_f F rfl (by simp) rfl) (fun _ _ _ h => h) (by kernel_rfl) (by kernel_rfl) (by kernel_rfl) (by kernel_rfl) ?_; clear F a; intro a F
      refine t_take (i := 10) F rfl rfl hq1 (fun _ _ => r_move F rfl) (fun _ _ _ h => h) (by kernel_rfl) (by kernel_rfl) (by kernel_rfl) (by kernel_rfl) ?_; clear F a; intro a F
      refine t_takeg (i := 11) F rfl rfl rfl (by simp) rfl hq1 (fun _ _ => r_move F rfl) (fun _ _ _ h => h) (by kernel_rfl) (by kernel_rfl) (by kernel_rfl) (by kernel_rfl) ?_; clear F a; intro a F
      refine t_takeg (i := 12) F rfl rfl rfl (by simp) rfl hq1 (fun _ _ => r_move F rfl) (fun _ _ _ h => h) (by kernel_rfl) (by kernel_rfl) (by kernel_rfl) (by kernel_rfl) ?_; clear F a; intro a F
      refine t_takeg (i := 13) F rfl rfl rfl (by simp) rfl hq1 (fun _ _ => r_neq_u32 F rfl rfl) (fun _ _ _ h => h) (by kernel_rfl) (by kernel_rfl) (by kernel_rfl) (by kernel_rfl) ?_; clear F a; intro a F
      refine t_take (i := 14) F rfl rfl hq1 (fun _ _ => r_pick_f F rfl (by simp) rfl) (fun _ _ _ h => h) (by kernel_rfl) (by kernel_rfl) (by kernel_rfl) (by kernel_rfl) ?_; clear F a; intro a F
      refine t_take (i := 15) F rfl rfl hq1 (fun _ _ => r_move F rfl) (fun _ _ _ h => h) (by kernel_rfl) (by kernel_rfl) (by kernel_rfl) (by kernel_rfl) ?_; clear F a; intro a F
      refine t_takeg (i := 16) F rfl rfl rfl (by simp) rfl hq1 (fun _ _ => r_move F rfl) (fun _ _ _ h => h) (by kernel_rfl) (by kernel_rfl) (by kernel_rfl) (by kernel_rfl) ?_; clear F a; intro a F
      refine t_takeg (i := 17) F rfl rfl rfl (by simp) rfl hq1 (fun _ _ => r_eql_i64 F rfl rfl) (fun _ _ _ h => h) (by kernel_rfl) (by kernel_rfl) (by kernel_rfl) (by kernel_rfl) ?_; clear F a; intro a F
      refine t_takeg (i := 18) F rfl rfl rfl (by simp) rfl hq1 (fun _ _ => r_move F rfl) (fun _ _ _ h => h) (by kernel_rfl) (by kernel_rfl) (by kernel_rfl) (by kernel_rfl) ?_; clear F a; intro a F
      refine t_takeg (i := 19) F rfl rfl rfl (by simp) rfl hq1 (fun _ _ => r_neq_bool F und_bool rfl rfl) (fun _ _ _ h => h) (by kernel_rfl) (by kernel_rfl) (by kernel_rfl) (by kernel_rfl) ?_; clear F a; intro a F
      refine t_take (i := 20) F rfl rfl hq1 (fun _ _ => r_pick_f F rfl (by simp) rfl) (fun _ _ _ h => h) (by kernel_rfl) (by kernel_rfl) (by kernel_rfl) (by kernel_rfl) ?_; clear F a; intro a F
      refine t_take (i := 21) F rfl rfl hq1 (fun _ _ => r_move F rfl) (fun _ _ _ h => h) (by kernel_rfl) (by kernel_rfl) (by kernel_rfl) (by kernel_rfl) ?_; clear F a; intro a F
      refine t_takeg (i := 22) F rfl rfl rfl (by simp) rfl hq1 (fun _ _ => r_move F rfl) (fun _ _ _ h => h) (by kernel_rfl) (by kernel_rfl) (by kernel_rfl) (by kernel_rfl) ?_; clear F a; intro a F
      refine t_takeg (i := 23) F rfl rfl rfl (by simp) rfl hq1 (fun _ _ => r_neq_i64 F rfl rfl) (fun _ _ _ h => h) (by kernel_rfl) (by kernel_rfl) (by kernel_rfl) (by kernel_rfl) ?_; clear F a; intro a F
      refine t_takeg (i := 24) F rfl rfl rfl (by simp) rfl hq1 (fun _ _ => r_move F rfl) (fun _ _ _ h => h) (by kernel_rfl) (by kernel_rfl) (by kernel_rfl) (by kernel_rfl) ?_; clear F a; intro a F
      refine c_split F (i := 82) rfl (fun g82 => ?_) (fun g82 => ?_)
      · skip
        refine t_takeg (i := 25) F rfl rfl rfl g82 rfl hq1 (fun _ _ => r_move F rfl) (fun _ _ _ h => h) (by kernel_rfl) (by kernel_rfl) (by kernel_rfl) (by kernel_rfl) ?_; clear F a; intro a F
        refine t_takeg (i := 26) F rfl rfl rfl g82 rfl hq1 (fun _ _ => r_neq_i64 F rfl rfl) (fun _ _ _ h => h) (by kernel_rfl) (by kernel_rfl) (by kernel_rfl) (by kernel_rfl) ?_; clear F a; intro a F
        refine t_takeg (i := 27) F rfl rfl rfl (by simp) rfl hq1 (fun _ _ => r_pick_t F rfl g82 rfl) (fun _ _ _ h => h) (by kernel_rfl) (by kernel_rfl) (by kernel_rfl) (by kernel_rfl) ?_; clear F a; intro a F
        refine t_take (i := 28) F rfl rfl hq1 (fun _ _ => r_pick_f F rfl (by simp) rfl) (fun _ _ _ h => h) (by kernel_rfl) (by kernel_rfl) (by kernel_rfl) (by kernel_rfl) ?_; clear F a; intro a F
        refine t_take (i := 29) F rfl rfl hq1 (fun _ _ => r_move F rfl) (fun _ _ _ h => h) (by kernel_rfl) (by kernel_rfl) (by kernel_rfl) (by kernel_rfl) ?_; clear F a; intro a F
        refine t_takeg (i := 30) F rfl rfl rfl (by first | rfl | (rcases add_err s e with h | ⟨h, _⟩ <;> simp [h] at g82 ⊢)) rfl hq1 (fun _ ⟨_, _, M'⟩ => r_load M' F rfl (by repeat (first | exact List.mem_cons_self | apply List.mem_cons_of_mem)) agg_State (seg_all rfl)) (fun _ _ _ h => h) (by kernel_rfl) (by kernel_rfl) (by kernel_rfl) (by kernel_rfl) ?_; clear F a; intro a F
        refine t_takeg (i := 31) F rfl rfl rfl (by first | rfl | (rcases add_err s e with h | ⟨h, _⟩ <;> simp [h] at g82 ⊢)) rfl hq1 (fun _ ⟨_, _, M'⟩ => r_load M' F rfl (by repeat (first | exact List.mem_cons_self | apply List.mem_cons_of_mem)) agg_State (seg_all rfl)) (fun _ _ _ h => h) (by kernel_rfl) (by kernel_rfl) (by kernel_rfl) (by kernel_rfl) ?_; clear F a; intro a F
        refine t_oneg (i := 32) F (by kernel_rfl) rfl rfl rfl rfl (by first | rfl | (rcases add_err s e with h | ⟨h, _⟩ <;> simp [h] at g82 ⊢)) (o_call M F rfl (c_paddockref6_Same M.imm hl2 hl3) rfl ?_); clear F a; intro a W17 v17 G17 hp17 M E17 F
        have hl := hl.mono E17.gl
        have hl1 := hl1.mono E17.gl
        have hl2 := hl2.mono E17.gl
        have hl3 := hl3.mono E17.gl
        subst hp17
        have hle1 := hle1.trans E17.gl
        refine keepAnd (Keeps.mk hle1 M (by repeat (first | exact List.Sublist.refl _ | apply List.Sublist.cons_cons | apply List.Sublist.cons))) (fun hq1 => ?_)
        refine t_takeg (i := 33) F rfl rfl rfl (by first | rfl | (rcases add_err s e with h | ⟨h, _⟩ <;> simp [h] at g82 ⊢)) rfl hq1 (fun _ _ => r_not F rfl) (fun _ _ _ h => h) (by kernel_rfl) (by kernel_rfl) (by kernel_rfl) (by kernel_rfl) ?_; clear F a; intro a F
        refine t_take (i := 34) F rfl rfl hq1 (fun _ _ => r_pick_f F rfl (by first | rfl | (rcases add_err s e with h | ⟨h, _⟩ <;> simp [h] at g82 ⊢)) rfl) (fun _ _ _ h => h) (by kernel_rfl) (by kernel_rfl) (by kernel_rfl) (by kernel_rfl) ?_; clear F a; intro a F
        refine t_take (i := 35) F rfl rfl hq1 (fun _ _ => r_move F rfl) (fun _ _ _ h => h) (by kernel_rfl) (by kernel_rfl) (by kernel_rfl) (by kernel_rfl) ?_; clear F a; intro a F
        refine t_takeg (i := 36) F rfl rfl rfl (by simp) rfl hq1 (fun _ ⟨_, _, M'⟩ => r_load M' F rfl (by repeat (first | exact List.mem_cons_self | apply List.mem_cons_of_mem)) agg_State (seg_all rfl)) (fun _ _ _ h => h) (by kernel_rfl) (by kernel_rfl) (by kernel_rfl) (by kernel_rfl) ?_; clear F a; intro a F
        refine t_takeg (i := 38) F rfl rfl rfl (by simp) rfl hq1 (fun _ ⟨_, _, M'⟩ => r_load M' F rfl (by repeat (first | exact List.mem_cons_self | apply List.mem_cons_of_mem)) agg_State (seg_all rfl)) (fun _ _ _ h => h) (by kernel_rfl) (by kernel_rfl) (by kernel_rfl) (by kernel_rfl) ?_; clear F a; intro a F
        refine t_oneg (i := 37) F (by kernel_rfl) rfl rfl rfl rfl (by simp) (o_call M F rfl (c_pglog_Fold M.imm hl) rfl ?_); clear F a; intro a W18 v18 G18 hp18 M E18 F
        have hl := hl.mono E18.gl
        have hl1 := hl1.mono E18.gl
        have hl2 := hl2.mono E18.gl
        have hl3 := hl3.mono E18.gl
        subst hp18
        have hle1 := hle1.trans E18.gl
        refine keepAnd (Keeps.mk hle1 M (by repeat (first | exact List.Sublist.refl _ | apply List.Sublist.cons_cons | apply List.Sublist.cons))) (fun hq1 => ?_)
        refine t_oneg (i := 39) F (by kernel_rfl) rfl rfl rfl rfl (by simp) (o_call M F rfl (c_paddockref6_Fold M.imm hl) rfl ?_); clear F a; intro a W19 v19 G19 hp19 M E19 F
        have hl := hl.mono E19.gl
        have hl1 := hl1.mono E19.gl
        have hl2 := hl2.mono E19.gl
        have hl3 := hl3.mono E19.gl
        subst hp19
        have hle1 := hle1.trans E19.gl
        refine keepAnd (Keeps.mk hle1 M (by repeat (first | exact List.Sublist.refl _ | apply List.Sublist.cons_cons | apply List.Sublist.cons))) (fun hq1 => ?_)
        refine t_takeg (i := 40) F rfl rfl rfl (by simp) rfl hq1 (fun _ _ => r_neq_Base F rfl rfl) (fun _ _ _ h => h) (by kernel_rfl) (by kernel_rfl) (by kernel_rfl) (by kernel_rfl) ?_; clear F a; intro a F
        refine t_take (i := 41) F rfl rfl hq1 (fun _ _ => r_pick_f F rfl (by simp) rfl) (fun _ _ _ h => h) (by kernel_rfl) (by kernel_rfl) (by kernel_rfl) (by kernel_rfl) ?_; clear F a; intro a F
        refine t_take (i := 42) F rfl rfl hq1 (fun _ _ => r_move F rfl) (fun _ _ _ h => h) (by kernel_rfl) (by kernel_rfl) (by kernel_rfl) (by kernel_rfl) ?_; clear F a; intro a F
        refine t_takeg (i := 43) F rfl rfl rfl (by simp) rfl hq1 (fun _ ⟨_, _, M'⟩ => r_load M' F rfl (by repeat (first | exact List.mem_cons_self | apply List.mem_cons_of_mem)) agg_State (seg_all rfl)) (fun _ _ _ h => h) (by kernel_rfl) (by kernel_rfl) (by kernel_rfl) (by kernel_rfl) ?_; clear F a; intro a F
        refine t_takeg (i := 44) F rfl rfl rfl (by simp) rfl hq1 (fun _ ⟨_, _, M'⟩ => r_load M' F rfl (by repeat (first | exact List.mem_cons_self | apply List.mem_cons_of_mem)) agg_State (seg_all rfl)) (fun _ _ _ h => h) (by kernel_rfl) (by kernel_rfl) (by kernel_rfl) (by kernel_rfl) ?_; clear F a; intro a F
        refine t_takeg (i := 46) F rfl rfl rfl (by simp) rfl hq1 (fun _ ⟨_, _, M'⟩ => r_load M' F rfl (by repeat (first | exact List.mem_cons_self | apply List.mem_cons_of_mem)) agg_State (seg_all rfl)) (fun _ _ _ h => h) (by kernel_rfl) (by kernel_rfl) (by kernel_rfl) (by kernel_rfl) ?_; clear F a; intro a F
        refine t_takeg (i := 47) F rfl rfl rfl (by simp) rfl hq1 (fun _ ⟨_, _, M'⟩ => r_load M' F rfl (by repeat (first | exact List.mem_cons_self | apply List.mem_cons_of_mem)) agg_State (seg_all rfl)) (fun _ _ _ h => h) (by kernel_rfl) (by kernel_rfl) (by kernel_rfl) (by kernel_rfl) ?_; clear F a; intro a F
        refine t_oneg (i := 45) F (by kernel_rfl) rfl rfl rfl rfl (by simp) (o_call M F rfl (c_pglog_Same M.imm hl hl1) rfl ?_); clear F a; intro a W20 v20 G20 hp20 M E20 F
        have hl := hl.mono E20.gl
        have hl1 := hl1.mono E20.gl
        have hl2 := hl2.mono E20.gl
        have hl3 := hl3.mono E20.gl
        subst hp20
        have hle1 := hle1.trans E20.gl
        refine keepAnd (Keeps.mk hle1 M (by repeat (first | exact List.Sublist.refl _ | apply List.Sublist.cons_cons | apply List.Sublist.cons))) (fun hq1 => ?_)
        refine t_oneg (i := 48) F (by kernel_rfl) rfl rfl rfl rfl (by simp) (o_call M F rfl (c_paddockref6_Same M.imm hl hl1) rfl ?_); clear F a; intro a W21 v21 G21 hp21 M E21 F
        have hl := hl.mono E21.gl
        have hl1 := hl1.mono E21.gl
        have hl2 := hl2.mono E21.gl
        have hl3 := hl3.mono E21.gl
        subst hp21
        have hle1 := hle1.trans E21.gl
        refine keepAnd (Keeps.mk hle1 M (by repeat (first | exact List.Sublist.refl _ | apply List.Sublist.cons_cons | apply List.Sublist.cons))) (fun hq1 => ?_)
        refine t_takeg (i := 49) F rfl rfl rfl (by simp) rfl hq1 (fun _ _ => r_neq_bool F und_bool rfl rfl) (fun _ _ _ h => h) (by kernel_rfl) (by kernel_rfl) (by kernel_rfl) (by kernel_rfl) ?_; clear F a; intro a F
        refine t_take (i := 50) F rfl rfl hq1 (fun _ _ => r_pick_f F rfl (by simp) rfl) (fun _ _ _ h => h) (by kernel_rfl) (by kernel_rfl) (by kernel_rfl) (by kernel_rfl) ?_; clear F a; intro a F
        refine t_take (i := 51) F rfl rfl hq1 (fun _ _ => r_move F rfl) (fun _ _ _ h => h) (by kernel_rfl) (by kernel_rfl) (by kernel_rfl) (by kernel_rfl) ?_; clear F a; intro a F
        refine t_takeg (i := 52) F rfl rfl rfl (by simp) rfl hq1 (fun _ ⟨_, _, M'⟩ => r_load M' F rfl (by repeat (first | exact List.mem_cons_self | apply List.mem_cons_of_mem)) agg_State (seg_all rfl)) (fun _ _ _ h => h) (by kernel_rfl) (by kernel_rfl) (by kernel_rfl) (by kernel_rfl) ?_; clear F a; intro a F
        refine t_takeg (i := 53) F rfl rfl rfl (by simp) rfl hq1 (fun _ ⟨_, _, M'⟩ => r_load M' F rfl (by repeat (first | exact List.mem_cons_self | apply List.mem_cons_of_mem)) agg_State (seg_all rfl)) (fun _ _ _ h => h) (by kernel_rfl) (by kernel_rfl) (by kernel_rfl) (by kernel_rfl) ?_; clear F a; intro a F
        refine t_oneg (i := 54) F (by kernel_rfl) rfl rfl rfl rfl (by simp) (o_call M F rfl (c_pglog_Same M.imm hl hl) rfl ?_); clear F a; intro a W22 v22 G22 hp22 M E22 F
        have hl := hl.mono E22.gl
        have hl1 := hl1.mono E22.gl
        have hl2 := hl2.mono E22.gl
        have hl3 := hl3.mono E22.gl
        subst hp22
        have hle1 := hle1.trans E22.gl
        refine keepAnd (Keeps.mk hle1 M (by repeat (first | exact List.Sublist.refl _ | apply List.Sublist.cons_cons | apply List.Sublist.cons))) (fun hq1 => ?_)
        refine t_takeg (i := 55) F rfl rfl rfl (by simp) rfl hq1 (fun _ _ => r_not F rfl) (fun _ _ _ h => h) (by kernel_rfl) (by kernel_rfl) (by kernel_rfl) (by kernel_rfl) ?_; clear F a; intro a F
        refine t_take (i := 56) F rfl rfl hq1 (fun _ _ => r_pick_f F rfl (by simp) rfl) (fun _ _ _ h => h) (by kernel_rfl) (by kernel_rfl) (by kernel_rfl) (by kernel_rfl) ?_; clear F a; intro a F
        refine t_done (by kernel_rfl) ?_ _
        refine hK13 _ _ ?_
        refine c_false F rfl (by simp) ?_
        refine wp_skip ?_
        refine hK12 _ _ ?_
        refine c_seq (fun K14 hK14 => ?_)
        refine wp_region_lit ?_
        refine l_step rfl (o_val F (r_load M F rfl (by repeat (first | exact List.mem_cons_self | apply List.mem_cons_of_mem)) agg_State (seg_all rfl)) rfl ?_); clear F a; intro a F
        refine l_step rfl (o_val F (r_move F rfl) rfl ?_); clear F a; intro a F
        refine l_step rfl (o_call M F rfl (c_pglog_Upto M.imm hl) rfl ?_); clear F a; intro a W23 v23 G23 hp23 M E23 F
        have hl := hl.mono E23.gl
        have hl1 := hl1.mono E23.gl
        have hl2 := hl2.mono E23.gl
        have hl3 := hl3.mono E23.gl
        subst hp23
        refine l_step rfl (o_val F (r_move F rfl) rfl ?_); clear F a; intro a F
        refine l_step rfl (o_val F (r_extract F rfl rfl) rfl ?_); clear F a; intro a F
        refine l_step rfl (o_val F (r_extract F rfl rfl) rfl ?_); clear F a; intro a F
        refine l_step rfl (o_alloc M F zer_Base rfl ?_); clear F a; intro a W24 b6 M F
        refine l_step rfl (o_storeA M F rfl rfl agg_Base.size (by repeat (first | exact Upd.here _ _ _ _ _ | apply Upd.there)) (by rfl) (by rfl) (by rfl) ?_); clear F a; intro a W25 M F
        refine l_step rfl (o_val F (r_assign F rfl) rfl ?_); clear F a; intro a F
        refine l_nil ?_
        refine hK14 _ _ ?_
        refine c_seq (fun K15 hK15 => ?_)
        refine wp_region_lit ?_
        refine l_step rfl (o_val F (r_load M F rfl (by repeat (first | exact List.mem_cons_self | apply List.mem_cons_of_mem)) agg_State (seg_all rfl)) rfl ?_); clear F a; intro a F
        refine l_step rfl (o_val F (r_move F rfl) rfl ?_); clear F a; intro a F
        refine l_step rfl (o_call M F rfl (c_paddockref6_Upto M.imm hl) rfl ?_); clear F a; intro a W26 v26 G26 hp26 M E26 F
        have hl := hl.mono E26.gl
        have hl1 := hl1.mono E26.gl
        have hl2 := hl2.mono E26.gl
        have hl3 := hl3.mono E26.gl
        subst hp26
        refine l_step rfl (o_val F (r_move F rfl) rfl ?_); clear F a; intro a F
        refine l_step rfl (o_val F (r_extract F rfl rfl) rfl ?_); clear F a; intro a F
        refine l_step rfl (o_val F (r_extract F rfl rfl) rfl ?_); clear F a; intro a F
        refine l_step rfl (o_alloc M F zer_Base rfl ?_); clear F a; intro a W27 b7 M F
        refine l_step rfl (o_storeA M F rfl rfl agg_Base.size (by repeat (first | exact Upd.here _ _ _ _ _ | apply Upd.there)) (by rfl) (by rfl) (by rfl) ?_); clear F a; intro a W28 M F
        refine l_step rfl (o_val F (r_assign F rfl) rfl ?_); clear F a; intro a F
        refine l_nil ?_
        refine hK15 _ _ ?_
        refine c_seq (fun K16 hK16 => ?_)
        refine wp_region_lit ?_
        refine l_step rfl (o_val F (r_load M F rfl (by repeat (first | exact List.mem_cons_self | apply List.mem_cons_of_mem)) agg_State (seg_all rfl)) rfl ?_); clear F a; intro a F
        refine l_step rfl (o_val F (r_move F rfl) rfl ?_); clear F a; intro a F
        refine l_step rfl (o_call M F rfl (c_pglog_Cut M.imm hl) rfl ?_); clear F a; intro a W29 v29 G29 hp29 M E29 F
        have hl := hl.mono E29.gl
        have hl1 := hl1.mono E29.gl
        have hl2 := hl2.mono E29.gl
        have hl3 := hl3.mono E29.gl
        obtain ⟨l4, rfl, hl4⟩ := hp29
        refine l_step rfl (o_val F (r_move F rfl) rfl ?_); clear F a; intro a F
        refine l_step rfl (o_val F (r_extract F rfl rfl) rfl ?_); clear F a; intro a F
        refine l_step rfl (o_val F (r_extract F rfl rfl) rfl ?_); clear F a; intro a F
        refine l_step rfl (o_alloc M F zer_State rfl ?_); clear F a; intro a W30 b8 M F
        refine l_step rfl (o_storeA M F rfl rfl agg_State.size (by repeat (first | exact Upd.here _ _ _ _ _ | apply Upd.there)) (by rfl) (by rfl) (by rfl) ?_); clear F a; intro a W31 M F
        refine l_step rfl (o_val F (r_assign F rfl) rfl ?_); clear F a; intro a F
        refine l_nil ?_
        refine hK16 _ _ ?_
        refine c_seq (fun K17 hK17 => ?_)
        refine wp_region_lit ?_
        refine l_step rfl (o_val F (r_load M F rfl (by repeat (first | exact List.mem_cons_self | apply List.mem_cons_of_mem)) agg_State (seg_all rfl)) rfl ?_); clear F a; intro a F
        refine l_step rfl (o_val F (r_move F rfl) rfl ?_); clear F a; intro a F
        refine l_step rfl (o_call M F rfl (c_paddockref6_Cut M.imm hl) rfl ?_); clear F a; intro a W32 v32 G32 hp32 M E32 F
        have hl := hl.mono E32.gl
        have hl1 := hl1.mono E32.gl
        have hl2 := hl2.mono E32.gl
        have hl3 := hl3.mono E32.gl
        have hl4 := hl4.mono E32.gl
        obtain ⟨l5, rfl, hl5⟩ := hp32
        refine l_step rfl (o_val F (r_move F rfl) rfl ?_); clear F a; intro a F
        refine l_step rfl (o_val F (r_extract F rfl rfl) rfl ?_); clear F a; intro a F
        refine l_step rfl (o_val F (r_extract F rfl rfl) rfl ?_); clear F a; intro a F
        refine l_step rfl (o_alloc M F zer_State rfl ?_); clear F a; intro a W33 b9 M F
        refine l_step rfl (o_storeA M F rfl rfl agg_State.size (by repeat (first | exact Upd.here _ _ _ _ _ | apply Upd.there)) (by rfl) (by rfl) (by rfl) ?_); clear F a; intro a W34 M F
        refine l_step rfl (o_val F (r_assign F rfl) rfl ?_); clear F a; intro a F
        refine l_nil ?_
        refine hK17 _ _ ?_
        refine c_seq (fun K18 hK18 => ?_)
        refine c_seq (fun K19 hK19 => ?_)
        refine wp_region_lit ?_
        refine l_step rfl (o_val F (r_load M F rfl (by repeat (first | exact List.mem_cons_self | apply List.mem_cons_of_mem)) agg_Base (seg_all rfl)) rfl ?_); clear F a; intro a F
        refine l_step rfl (o_val F (r_load M F rfl (by repeat (first | exact List.mem_cons_self | apply List.mem_cons_of_mem)) agg_Base (seg_all rfl)) rfl ?_); clear F a; intro a F
        refine l_step rfl (o_val F (r_neq_Base F rfl rfl) rfl ?_); clear F a; intro a F
        refine l_step rfl (o_val F (r_move F rfl) rfl ?_); clear F a; intro a F
        refine l_guard F rfl rfl rfl (by simp) (o_val F (r_move F rfl) rfl ?_); clear F a; intro a F
        refine l_guard F rfl rfl rfl (by simp) (o_val F (r_move F rfl) rfl ?_); clear F a; intro a F
        refine l_guard F rfl rfl rfl (by simp) (o_val F (r_neq_bool F und_bool rfl rfl) rfl ?_); clear F a; intro a F
        refine l_step rfl (o_val F (r_pick_f F rfl (by simp) rfl) rfl ?_); clear F a; intro a F
        refine l_step rfl (o_val F (r_move F rfl) rfl ?_); clear F a; intro a F
        refine l_guard F rfl rfl rfl (by simp) (o_val F (r_move F rfl) rfl ?_); clear F a; intro a F
        refine l_guard F rfl rfl rfl (by simp) (o_val F (r_move F rfl) rfl ?_); clear F a; intro a F
        refine l_guard F rfl rfl rfl (by simp) (o_val F (r_neq_i64 F rfl rfl) rfl ?_); clear F a; intro a F
        refine l_step rfl (o_val F (r_pick_f F rfl (by simp) rfl) rfl ?_); clear F a; intro a F
        refine l_step rfl (o_val F (r_move F rfl) rfl ?_); clear F a; intro a F
        refine l_guard F rfl rfl rfl (by simp) (o_val F (r_load M F rfl (by repeat (first | exact List.mem_cons_self | apply List.mem_cons_of_mem)) agg_State (seg_all rfl)) rfl ?_); clear F a; intro a F
        refine l_guard F rfl rfl rfl (by simp) (o_val F (r_load M F rfl (by repeat (first | exact List.mem_cons_self | apply List.mem_cons_of_mem)) agg_State (seg_all rfl)) rfl ?_); clear F a; intro a F
        refine l_guard F rfl rfl rfl (by simp) (o_call M F rfl (c_paddockref6_Same M.imm hl4 hl5) rfl ?_); clear F a; intro a W35 v35 G35 hp35 M E35 F
        have hl := hl.mono E35.gl
        have hl1 := hl1.mono E35.gl
        have hl2 := hl2.mono E35.gl
        have hl3 := hl3.mono E35.gl
        have hl4 := hl4.mono E35.gl
        have hl5 := hl5.mono E35.gl
        subst hp35
        refine l_guard F rfl rfl rfl (by simp) (o_val F (r_not F rfl) rfl ?_); clear F a; intro a F
        refine l_step rfl (o_val F (r_pick_f F rfl (by simp) rfl) rfl ?_); clear F a; intro a F
        refine l_nil ?_
        refine hK19 _ _ ?_
        refine c_false F rfl (by simp) ?_
        refine wp_skip ?_
        refine hK18 _ _ ?_
        refine c_seq (fun K20 hK20 => ?_)
        refine wp_region_lit ?_
        refine l_step rfl (o_val F (r_load M F rfl (by repeat (first | exact List.mem_cons_self | apply List.mem_cons_of_mem)) agg_State (seg_all rfl)) rfl ?_); clear F a; intro a F
        refine l_step rfl (o_val F (r_move F rfl) rfl ?_); clear F a; intro a F
        refine l_step rfl (o_call M F rfl (c_pglog_Tail M.imm hl) rfl ?_); clear F a; intro a W36 v36 G36 hp36 M E36 F
        have hl := hl.mono E36.gl
        have hl1 := hl1.mono E36.gl
        have hl2 := hl2.mono E36.gl
        have hl3 := hl3.mono E36.gl
        have hl4 := hl4.mono E36.gl
        have hl5 := hl5.mono E36.gl
        obtain ⟨l6, rfl, hl6⟩ := hp36
        refine l_step rfl (o_val F (r_move F rfl) rfl ?_); clear F a; intro a F
        refine l_step rfl (o_val F (r_extract F rfl rfl) rfl ?_); clear F a; intro a F
        refine l_step rfl (o_val F (r_extract F rfl rfl) rfl ?_); clear F a; intro a F
        refine l_step rfl (o_storeA M F rfl rfl agg_State.size (by repeat (first | exact Upd.here _ _ _ _ _ | apply Upd.there)) (by rfl) (by rfl) (by rfl) ?_); clear F a; intro a W37 M F
        refine l_step rfl (o_val F (r_assign F rfl) rfl ?_); clear F a; intro a F
        refine l_nil ?_
        refine hK20 _ _ ?_
        refine c_seq (fun K21 hK21 => ?_)
        refine wp_region_lit ?_
        refine l_step rfl (o_val F (r_load M F rfl (by repeat (first | exact List.mem_cons_self | apply List.mem_cons_of_mem)) agg_State (seg_all rfl)) rfl ?_); clear F a; intro a F
        refine l_step rfl (o_val F (r_move F rfl) rfl ?_); clear F a; intro a F
        refine l_step rfl (o_call M F rfl (c_paddockref6_Tail M.imm hl) rfl ?_); clear F a; intro a W38 v38 G38 hp38 M E38 F
        have hl := hl.mono E38.gl
        have hl1 := hl1.mono E38.gl
        have hl2 := hl2.mono E38.gl
        have hl3 := hl3.mono E38.gl
        have hl4 := hl4.mono E38.gl
        have hl5 := hl5.mono E38.gl
        have hl6 := hl6.mono E38.gl
        obtain ⟨l7, rfl, hl7⟩ := hp38
        refine l_step rfl (o_val F (r_move F rfl) rfl ?_); clear F a; intro a F
        refine l_step rfl (o_val F (r_extract F rfl rfl) rfl ?_); clear F a; intro a F
        refine l_step rfl (o_val F (r_extract F rfl rfl) rfl ?_); clear F a; intro a F
        refine l_step rfl (o_storeA M F rfl rfl agg_State.size (by repeat (first | exact Upd.here _ _ _ _ _ | apply Upd.there)) (by rfl) (by rfl) (by rfl) ?_); clear F a; intro a W39 M F
        refine l_step rfl (o_val F (r_assign F rfl) rfl ?_); clear F a; intro a F
        refine l_nil ?_
        refine hK21 _ _ ?_
        refine c_seq (fun K22 hK22 => ?_)
        refine wp_region_lit ?_
        refine l_step rfl (o_val F (r_load M F rfl (by repeat (first | exact List.mem_cons_self | apply List.mem_cons_of_mem)) agg_State (seg_all rfl)) rfl ?_); clear F a; intro a F
        refine l_step rfl (o_val F (r_move F rfl) rfl ?_); clear F a; intro a F
        refine l_step rfl (o_call M F rfl (c_pglog_Find M.imm hl) rfl ?_); clear F a; intro a W40 v40 G40 hp40 M E40 F
        have hl := hl.mono E40.gl
        have hl1 := hl1.mono E40.gl
        have hl2 := hl2.mono E40.gl
        have hl3 := hl3.mono E40.gl
        have hl4 := hl4.mono E40.gl
        have hl5 := hl5.mono E40.gl
        have hl6 := hl6.mono E40.gl
        have hl7 := hl7.mono E40.gl
        subst hp40
        refine l_step rfl (o_val F (r_move F rfl) rfl ?_); clear F a; intro a F
        refine l_step rfl (o_val F (r_extract F rfl rfl) rfl ?_); clear F a; intro a F
        refine l_step rfl (o_val F (r_extract F rfl rfl) rfl ?_); clear F a; intro a F
        refine l_step rfl (o_alloc M F zer_Entry rfl ?_); clear F a; intro a W41 b10 M F
        refine l_step rfl (o_storeA M F rfl rfl agg_Entry.size (by repeat (first | exact Upd.here _ _ _ _ _ | apply Upd.there)) (by rfl) (by rfl) (by rfl) ?_); clear F a; intro a W42 M F
        refine l_step rfl (o_val F (r_assign F rfl) rfl ?_); clear F a; intro a F
        refine l_nil ?_
        refine hK22 _ _ ?_
        refine c_seq (fun K23 hK23 => ?_)
        refine wp_region_lit ?_
        refine l_step rfl (o_val F (r_load M F rfl (by repeat (first | exact List.mem_cons_self | apply List.mem_cons_of_mem)) agg_State (seg_all rfl)) rfl ?_); clear F a; intro a F
        refine l_step rfl (o_val F (r_move F rfl) rfl ?_); clear F a; intro a F
        refine l_step rfl (o_call M F rfl (c_paddockref6_Find M.imm hl) rfl ?_); clear F a; intro a W43 v43 G43 hp43 M E43 F
        have hl := hl.mono E43.gl
        have hl1 := hl1.mono E43.gl
        have hl2 := hl2.mono E43.gl
        have hl3 := hl3.mono E43.gl
        have hl4 := hl4.mono E43.gl
        have hl5 := hl5.mono E43.gl
        have hl6 := hl6.mono E43.gl
        have hl7 := hl7.mono E43.gl
        subst hp43
        refine l_step rfl (o_val F (r_move F rfl) rfl ?_); clear F a; intro a F
        refine l_step rfl (o_val F (r_extract F rfl rfl) rfl ?_); clear F a; intro a F
        refine l_step rfl (o_val F (r_extract F rfl rfl) rfl ?_); clear F a; intro a F
        refine l_step rfl (o_alloc M F zer_Entry rfl ?_); clear F a; intro a W44 b11 M F
        refine l_step rfl (o_storeA M F rfl rfl agg_Entry.size (by repeat (first | exact Upd.here _ _ _ _ _ | apply Upd.there)) (by rfl) (by rfl) (by rfl) ?_); clear F a; intro a W45 M F
        refine l_step rfl (o_val F (r_assign F rfl) rfl ?_); clear F a; intro a F
        refine l_nil ?_
        refine hK23 _ _ ?_
        refine c_seq (fun K24 hK24 => ?_)
        refine wp_region_lit ?_
        refine l_step rfl (o_val F (r_move F rfl) rfl ?_); clear F a; intro a F
        refine l_step rfl (o_val F (r_move F rfl) rfl ?_); clear F a; intro a F
        refine l_step rfl (o_val F (r_eql_i64 F rfl rfl) rfl ?_); clear F a; intro a F
        refine l_step rfl (o_val F (r_move F rfl) rfl ?_); clear F a; intro a F
        refine l_guard F rfl rfl rfl (by simp) (o_val F (r_load M F rfl (by repeat (first | exact List.mem_cons_self | apply List.mem_cons_of_mem)) agg_State (seg_all rfl)) rfl ?_); clear F a; intro a F
        refine l_guard F rfl rfl rfl (by simp) (o_val F (r_load M F rfl (by repeat (first | exact List.mem_cons_self | apply List.mem_cons_of_mem)) agg_State (seg_all rfl)) rfl ?_); clear F a; intro a F
        refine l_guard F rfl rfl rfl (by simp) (o_call M F rfl (c_paddockref6_Same M.imm hl6 hl7) rfl ?_); clear F a; intro a W46 v46 G46 hp46 M E46 F
        have hl := hl.mono E46.gl
        have hl1 := hl1.mono E46.gl
        have hl2 := hl2.mono E46.gl
        have hl3 := hl3.mono E46.gl
        have hl4 := hl4.mono E46.gl
        have hl5 := hl5.mono E46.gl
        have hl6 := hl6.mono E46.gl
        have hl7 := hl7.mono E46.gl
        subst hp46
        refine l_step rfl (o_val F (r_pick_t F rfl (by simp) rfl) rfl ?_); clear F a; intro a F
        refine l_step rfl (o_val F (r_move F rfl) rfl ?_); clear F a; intro a F
        refine l_guard F rfl rfl rfl (by simp) (o_val F (r_load M F rfl (by repeat (first | exact List.mem_cons_self | apply List.mem_cons_of_mem)) agg_Entry (seg_all rfl)) rfl ?_); clear F a; intro a F
        refine l_guard F rfl rfl rfl (by simp) (o_val F (r_load M F rfl (by repeat (first | exact List.mem_cons_self | apply List.mem_cons_of_mem)) agg_Entry (seg_all rfl)) rfl ?_); clear F a; intro a F
        refine l_guard F rfl rfl rfl (by simp) (o_val F (r_eql_Entry F rfl rfl) rfl ?_); clear F a; intro a F
        refine l_step rfl (o_val F (r_pick_t F rfl (by simp) rfl) rfl ?_); clear F a; intro a F
        refine l_step rfl (o_val F (r_move F rfl) rfl ?_); clear F a; intro a F
        refine l_guard F rfl rfl rfl (by simp) (o_val F (r_move F rfl) rfl ?_); clear F a; intro a F
        refine l_guard F rfl rfl rfl (by simp) (o_val F (r_move F rfl) rfl ?_); clear F a; intro a F
        refine l_guard F rfl rfl rfl (by simp) (o_val F (r_eql_bool F und_bool rfl rfl) rfl ?_); clear F a; intro a F
        refine l_step rfl (o_val F (r_pick_t F rfl (by simp) rfl) rfl ?_); clear F a; intro a F
        refine l_step rfl (o_val F (r_assign F rfl) rfl ?_); clear F a; intro a F
        refine l_nil ?_
        refine hK24 _ _ ?_
        refine wp_ret ?_
        exact ret1 Try.results7 M F (rv_tmp F rfl) (by simp)
      · skip
        refine t_skip (i := 25) F rfl rfl rfl g82 rfl hq1 (fun _ _ _ h => h) (by kernel_rfl) (by kernel_rfl) (by kernel_rfl) (by kernel_rfl) ?_; clear F a; intro a F
        refine t_skip (i := 26) F rfl rfl rfl g82 rfl hq1 (fun _ _ _ h => h) (by kernel_rfl) (by kernel_rfl) (by kernel_rfl) (by kernel_rfl) ?_; clear F a; intro a F
        refine t_takeg (i := 27) F rfl rfl rfl (by simp) rfl hq1 (fun _ _ => r_pick_f F rfl g82 rfl) (fun _ _ _ h => h) (by kernel_rfl) (by kernel_rfl) (by kernel_rfl) (by kernel_rfl) ?_; clear F a; intro a F
        refine t_take (i := 28) F rfl rfl hq1 (fun _ _ => r_pick_f F rfl (by simp) rfl) (fun _ _ _ h => h) (by kernel_rfl) (by kernel_rfl) (by kernel_rfl) (by kernel_rfl) ?_; clear F a; intro a F
        refine t_take (i := 29) F rfl rfl hq1 (fun _ _ => r_move F rfl) (fun _ _ _ h => h) (by kernel_rfl) (by kernel_rfl) (by kernel_rfl) (by kernel_rfl) ?_; clear F a; intro a F
        refine t_takeg (i := 30) F rfl rfl rfl (by first | rfl | (rcases add_err s e with h | ⟨h, _⟩ <;> simp [h] at g82 ⊢)) rfl hq1 (fun _ ⟨_, _, M'⟩ => r_load M' F rfl (by repeat (first | exact List.mem_cons_self | apply List.mem_cons_of_mem)) agg_State (seg_all rfl)) (fun _ _ _ h => h) (by kernel_rfl) (by kernel_rfl) (by kernel_rfl) (by kernel_rfl) ?_; clear F a; intro a F
        refine t_takeg (i := 31) F rfl rfl rfl (by first | rfl | (rcases add_err s e with h | ⟨h, _⟩ <;> simp [h] at g82 ⊢)) rfl hq1 (fun _ ⟨_, _, M'⟩ => r_load M' F rfl (by repeat (first | exact List.mem_cons_self | apply List.mem_cons_of_mem)) agg_State (seg_all rfl)) (fun _ _ _ h => h) (by kernel_rfl) (by kernel_rfl) (by kernel_rfl) (by kernel_rfl) ?_; clear F a; intro a F
        refine t_oneg (i := 32) F (by kernel_rfl) rfl rfl rfl rfl (by first | rfl | (rcases add_err s e with h | ⟨h, _⟩ <;> simp [h] at g82 ⊢)) (o_call M F rfl (c_paddockref6_Same M.imm hl2 hl3) rfl ?_); clear F a; intro a W47 v47 G47 hp47 M E47 F
        have hl := hl.mono E47.gl
        have hl1 := hl1.mono E47.gl
        have hl2 := hl2.mono E47.gl
        have hl3 := hl3.mono E47.gl
        subst hp47
        have hle1 := hle1.trans E47.gl
        refine keepAnd (Keeps.mk hle1 M (by repeat (first | exact List.Sublist.refl _ | apply List.Sublist.cons_cons | apply List.Sublist.cons))) (fun hq1 => ?_)
        refine t_takeg (i := 33) F rfl rfl rfl (by first | rfl | (rcases add_err s e with h | ⟨h, _⟩ <;> simp [h] at g82 ⊢)) rfl hq1 (fun _ _ => r_not F rfl) (fun _ _ _ h => h) (by kernel_rfl) (by kernel_rfl) (by kernel_rfl) (by kernel_rfl) ?_; clear F a; intro a F
        refine t_take (i := 34) F rfl rfl hq1 (fun _ _ => r_pick_f F rfl (by first | rfl | (rcases add_err s e with h | ⟨h, _⟩ <;> simp [h] at g82 ⊢)) rfl) (fun _ _ _ h => h) (by kernel_rfl) (by kernel_rfl) (by kernel_rfl) (by kernel_rfl) ?_; clear F a; intro a F
        refine t_take (i := 35) F rfl rfl hq1 (fun _ _ => r_move F rfl) (fun _ _ _ h => h) (by kernel_rfl) (by kernel_rfl) (by kernel_rfl) (by kernel_rfl) ?_; clear F a; intro a F
        refine t_takeg (i := 36) F rfl rfl rfl (by simp) rfl hq1 (fun _ ⟨_, _, M'⟩ => r_load M' F rfl (by repeat (first | exact List.mem_cons_self | apply List.mem_cons_of_mem)) agg_State (seg_all rfl)) (fun _ _ _ h => h) (by kernel_rfl) (by kernel_rfl) (by kernel_rfl) (by kernel_rfl) ?_; clear F a; intro a F
        refine t_takeg (i := 38) F rfl rfl rfl (by simp) rfl hq1 (fun _ ⟨_, _, M'⟩ => r_load M' F rfl (by repeat (first | exact List.mem_cons_self | apply List.mem_cons_of_mem)) agg_State (seg_all rfl)) (fun _ _ _ h => h) (by kernel_rfl) (by kernel_rfl) (by kernel_rfl) (by kernel_rfl) ?_; clear F a; intro a F
        refine t_oneg (i := 37) F (by kernel_rfl) rfl rfl rfl rfl (by simp) (o_call M F rfl (c_pglog_Fold M.imm hl) rfl ?_); clear F a; intro a W48 v48 G48 hp48 M E48 F
        have hl := hl.mono E48.gl
        have hl1 := hl1.mono E48.gl
        have hl2 := hl2.mono E48.gl
        have hl3 := hl3.mono E48.gl
        subst hp48
        have hle1 := hle1.trans E48.gl
        refine keepAnd (Keeps.mk hle1 M (by repeat (first | exact List.Sublist.refl _ | apply List.Sublist.cons_cons | apply List.Sublist.cons))) (fun hq1 => ?_)
        refine t_oneg (i := 39) F (by kernel_rfl) rfl rfl rfl rfl (by simp) (o_call M F rfl (c_paddockref6_Fold M.imm hl) rfl ?_); clear F a; intro a W49 v49 G49 hp49 M E49 F
        have hl := hl.mono E49.gl
        have hl1 := hl1.mono E49.gl
        have hl2 := hl2.mono E49.gl
        have hl3 := hl3.mono E49.gl
        subst hp49
        have hle1 := hle1.trans E49.gl
        refine keepAnd (Keeps.mk hle1 M (by repeat (first | exact List.Sublist.refl _ | apply List.Sublist.cons_cons | apply List.Sublist.cons))) (fun hq1 => ?_)
        refine t_takeg (i := 40) F rfl rfl rfl (by simp) rfl hq1 (fun _ _ => r_neq_Base F rfl rfl) (fun _ _ _ h => h) (by kernel_rfl) (by kernel_rfl) (by kernel_rfl) (by kernel_rfl) ?_; clear F a; intro a F
        refine t_take (i := 41) F rfl rfl hq1 (fun _ _ => r_pick_f F rfl (by simp) rfl) (fun _ _ _ h => h) (by kernel_rfl) (by kernel_rfl) (by kernel_rfl) (by kernel_rfl) ?_; clear F a; intro a F
        refine t_take (i := 42) F rfl rfl hq1 (fun _ _ => r_move F rfl) (fun _ _ _ h => h) (by kernel_rfl) (by kernel_rfl) (by kernel_rfl) (by kernel_rfl) ?_; clear F a; intro a F
        refine t_takeg (i := 43) F rfl rfl rfl (by simp) rfl hq1 (fun _ ⟨_, _, M'⟩ => r_load M' F rfl (by repeat (first | exact List.mem_cons_self | apply List.mem_cons_of_mem)) agg_State (seg_all rfl)) (fun _ _ _ h => h) (by kernel_rfl) (by kernel_rfl) (by kernel_rfl) (by kernel_rfl) ?_; clear F a; intro a F
        refine t_takeg (i := 44) F rfl rfl rfl (by simp) rfl hq1 (fun _ ⟨_, _, M'⟩ => r_load M' F rfl (by repeat (first | exact List.mem_cons_self | apply List.mem_cons_of_mem)) agg_State (seg_all rfl)) (fun _ _ _ h => h) (by kernel_rfl) (by kernel_rfl) (by kernel_rfl) (by kernel_rfl) ?_; clear F a; intro a F
        refine t_takeg (i := 46) F rfl rfl rfl (by simp) rfl hq1 (fun _ ⟨_, _, M'⟩ => r_load M' F rfl (by repeat (first | exact List.mem_cons_self | apply List.mem_cons_of_mem)) agg_State (seg_all rfl)) (fun _ _ _ h => h) (by kernel_rfl) (by kernel_rfl) (by kernel_rfl) (by kernel_rfl) ?_; clear F a; intro a F
        refine t_takeg (i := 47) F rfl rfl rfl (by simp) rfl hq1 (fun _ ⟨_, _, M'⟩ => r_load M' F rfl (by repeat (first | exact List.mem_cons_self | apply List.mem_cons_of_mem)) agg_State (seg_all rfl)) (fun _ _ _ h => h) (by kernel_rfl) (by kernel_rfl) (by kernel_rfl) (by kernel_rfl) ?_; clear F a; intro a F
        refine t_oneg (i := 45) F (by kernel_rfl) rfl rfl rfl rfl (by simp) (o_call M F rfl (c_pglog_Same M.imm hl hl1) rfl ?_); clear F a; intro a W50 v50 G50 hp50 M E50 F
        have hl := hl.mono E50.gl
        have hl1 := hl1.mono E50.gl
        have hl2 := hl2.mono E50.gl
        have hl3 := hl3.mono E50.gl
        subst hp50
        have hle1 := hle1.trans E50.gl
        refine keepAnd (Keeps.mk hle1 M (by repeat (first | exact List.Sublist.refl _ | apply List.Sublist.cons_cons | apply List.Sublist.cons))) (fun hq1 => ?_)
        refine t_oneg (i := 48) F (by kernel_rfl) rfl rfl rfl rfl (by simp) (o_call M F rfl (c_paddockref6_Same M.imm hl hl1) rfl ?_); clear F a; intro a W51 v51 G51 hp51 M E51 F
        have hl := hl.mono E51.gl
        have hl1 := hl1.mono E51.gl
        have hl2 := hl2.mono E51.gl
        have hl3 := hl3.mono E51.gl
        subst hp51
        have hle1 := hle1.trans E51.gl
        refine keepAnd (Keeps.mk hle1 M (by repeat (first | exact List.Sublist.refl _ | apply List.Sublist.cons_cons | apply List.Sublist.cons))) (fun hq1 => ?_)
        refine t_takeg (i := 49) F rfl rfl rfl (by simp) rfl hq1 (fun _ _ => r_neq_bool F und_bool rfl rfl) (fun _ _ _ h => h) (by kernel_rfl) (by kernel_rfl) (by kernel_rfl) (by kernel_rfl) ?_; clear F a; intro a F
        refine t_take (i := 50) F rfl rfl hq1 (fun _ _ => r_pick_f F rfl (by simp) rfl) (fun _ _ _ h => h) (by kernel_rfl) (by kernel_rfl) (by kernel_rfl) (by kernel_rfl) ?_; clear F a; intro a F
        refine t_take (i := 51) F rfl rfl hq1 (fun _ _ => r_move F rfl) (fun _ _ _ h => h) (by kernel_rfl) (by kernel_rfl) (by kernel_rfl) (by kernel_rfl) ?_; clear F a; intro a F
        refine t_takeg (i := 52) F rfl rfl rfl (by simp) rfl hq1 (fun _ ⟨_, _, M'⟩ => r_load M' F rfl (by repeat (first | exact List.mem_cons_self | apply List.mem_cons_of_mem)) agg_State (seg_all rfl)) (fun _ _ _ h => h) (by kernel_rfl) (by kernel_rfl) (by kernel_rfl) (by kernel_rfl) ?_; clear F a; intro a F
        refine t_takeg (i := 53) F rfl rfl rfl (by simp) rfl hq1 (fun _ ⟨_, _, M'⟩ => r_load M' F rfl (by repeat (first | exact List.mem_cons_self | apply List.mem_cons_of_mem)) agg_State (seg_all rfl)) (fun _ _ _ h => h) (by kernel_rfl) (by kernel_rfl) (by kernel_rfl) (by kernel_rfl) ?_; clear F a; intro a F
        refine t_oneg (i := 54) F (by kernel_rfl) rfl rfl rfl rfl (by simp) (o_call M F rfl (c_pglog_Same M.imm hl hl) rfl ?_); clear F a; intro a W52 v52 G52 hp52 M E52 F
        have hl := hl.mono E52.gl
        have hl1 := hl1.mono E52.gl
        have hl2 := hl2.mono E52.gl
        have hl3 := hl3.mono E52.gl
        subst hp52
        have hle1 := hle1.trans E52.gl
        refine keepAnd (Keeps.mk hle1 M (by repeat (first | exact List.Sublist.refl _ | apply List.Sublist.cons_cons | apply List.Sublist.cons))) (fun hq1 => ?_)
        refine t_takeg (i := 55) F rfl rfl rfl (by simp) rfl hq1 (fun _ _ => r_not F rfl) (fun _ _ _ h => h) (by kernel_rfl) (by kernel_rfl) (by kernel_rfl) (by kernel_rfl) ?_; clear F a; intro a F
        refine t_take (i := 56) F rfl rfl hq1 (fun _ _ => r_pick_f F rfl (by simp) rfl) (fun _ _ _ h => h) (by kernel_rfl) (by kernel_rfl) (by kernel_rfl) (by kernel_rfl) ?_; clear F a; intro a F
        refine t_done (by kernel_rfl) ?_ _
        refine hK13 _ _ ?_
        refine c_false F rfl (by simp) ?_
        refine wp_skip ?_
        refine hK12 _ _ ?_
        refine c_seq (fun K25 hK25 => ?_)
        refine wp_region_lit ?_
        refine l_step rfl (o_val F (r_load M F rfl (by repeat (first | exact List.mem_cons_self | apply List.mem_cons_of_mem)) agg_State (seg_all rfl)) rfl ?_); clear F a; intro a F
        refine l_step rfl (o_val F (r_move F rfl) rfl ?_); clear F a; intro a F
        refine l_step rfl (o_call M F rfl (c_pglog_Upto M.imm hl) rfl ?_); clear F a; intro a W53 v53 G53 hp53 M E53 F
        have hl := hl.mono E53.gl
        have hl1 := hl1.mono E53.gl
        have hl2 := hl2.mono E53.gl
        have hl3 := hl3.mono E53.gl
        subst hp53
        refine l_step rfl (o_val F (r_move F rfl) rfl ?_); clear F a; intro a F
        refine l_step rfl (o_val F (r_extract F rfl rfl) rfl ?_); clear F a; intro a F
        refine l_step rfl (o_val F (r_extract F rfl rfl) rfl ?_); clear F a; intro a F
        refine l_step rfl (o_alloc M F zer_Base rfl ?_); clear F a; intro a W54 b12 M F
        refine l_step rfl (o_storeA M F rfl rfl agg_Base.size (by repeat (first | exact Upd.here _ _ _ _ _ | apply Upd.there)) (by rfl) (by rfl) (by rfl) ?_); clear F a; intro a W55 M F
        refine l_step rfl (o_val F (r_assign F rfl) rfl ?_); clear F a; intro a F
        refine l_nil ?_
        refine hK25 _ _ ?_
        refine c_seq (fun K26 hK26 => ?_)
        refine wp_region_lit ?_
        refine l_step rfl (o_val F (r_load M F rfl (by repeat (first | exact List.mem_cons_self | apply List.mem_cons_of_mem)) agg_State (seg_all rfl)) rfl ?_); clear F a; intro a F
        refine l_step rfl (o_val F (r_move F rfl) rfl ?_); clear F a; intro a F
        refine l_step rfl (o_call M F rfl (c_paddockref6_Upto M.imm hl) rfl ?_); clear F a; intro a W56 v56 G56 hp56 M E56 F
        have hl := hl.mono E56.gl
        have hl1 := hl1.mono E56.gl
        have hl2 := hl2.mono E56.gl
        have hl3 := hl3.mono E56.gl
        subst hp56
        refine l_step rfl (o_val F (r_move F rfl) rfl ?_); clear F a; intro a F
        refine l_step rfl (o_val F (r_extract F rfl rfl) rfl ?_); clear F a; intro a F
        refine l_step rfl (o_val F (r_extract F rfl rfl) rfl ?_); clear F a; intro a F
        refine l_step rfl (o_alloc M F zer_Base rfl ?_); clear F a; intro a W57 b13 M F
        refine l_step rfl (o_storeA M F rfl rfl agg_Base.size (by repeat (first | exact Upd.here _ _ _ _ _ | apply Upd.there)) (by rfl) (by rfl) (by rfl) ?_); clear F a; intro a W58 M F
        refine l_step rfl (o_val F (r_assign F rfl) rfl ?_); clear F a; intro a F
        refine l_nil ?_
        refine hK26 _ _ ?_
        refine c_seq (fun K27 hK27 => ?_)
        refine wp_region_lit ?_
        refine l_step rfl (o_val F (r_load M F rfl (by repeat (first | exact List.mem_cons_self | apply List.mem_cons_of_mem)) agg_State (seg_all rfl)) rfl ?_); clear F a; intro a F
        refine l_step rfl (o_val F (r_move F rfl) rfl ?_); clear F a; intro a F
        refine l_step rfl (o_call M F rfl (c_pglog_Cut M.imm hl) rfl ?_); clear F a; intro a W59 v59 G59 hp59 M E59 F
        have hl := hl.mono E59.gl
        have hl1 := hl1.mono E59.gl
        have hl2 := hl2.mono E59.gl
        have hl3 := hl3.mono E59.gl
        obtain ⟨l4, rfl, hl4⟩ := hp59
        refine l_step rfl (o_val F (r_move F rfl) rfl ?_); clear F a; intro a F
        refine l_step rfl (o_val F (r_extract F rfl rfl) rfl ?_); clear F a; intro a F
        refine l_step rfl (o_val F (r_extract F rfl rfl) rfl ?_); clear F a; intro a F
        refine l_step rfl (o_alloc M F zer_State rfl ?_); clear F a; intro a W60 b14 M F
        refine l_step rfl (o_storeA M F rfl rfl agg_State.size (by repeat (first | exact Upd.here _ _ _ _ _ | apply Upd.there)) (by rfl) (by rfl) (by rfl) ?_); clear F a; intro a W61 M F
        refine l_step rfl (o_val F (r_assign F rfl) rfl ?_); clear F a; intro a F
        refine l_nil ?_
        refine hK27 _ _ ?_
        refine c_seq (fun K28 hK28 => ?_)
        refine wp_region_lit ?_
        refine l_step rfl (o_val F (r_load M F rfl (by repeat (first | exact List.mem_cons_self | apply List.mem_cons_of_mem)) agg_State (seg_all rfl)) rfl ?_); clear F a; intro a F
        refine l_step rfl (o_val F (r_move F rfl) rfl ?_); clear F a; intro a F
        refine l_step rfl (o_call M F rfl (c_paddockref6_Cut M.imm hl) rfl ?_); clear F a; intro a W62 v62 G62 hp62 M E62 F
        have hl := hl.mono E62.gl
        have hl1 := hl1.mono E62.gl
        have hl2 := hl2.mono E62.gl
        have hl3 := hl3.mono E62.gl
        have hl4 := hl4.mono E62.gl
        obtain ⟨l5, rfl, hl5⟩ := hp62
        refine l_step rfl (o_val F (r_move F rfl) rfl ?_); clear F a; intro a F
        refine l_step rfl (o_val F (r_extract F rfl rfl) rfl ?_); clear F a; intro a F
        refine l_step rfl (o_val F (r_extract F rfl rfl) rfl ?_); clear F a; intro a F
        refine l_step rfl (o_alloc M F zer_State rfl ?_); clear F a; intro a W63 b15 M F
        refine l_step rfl (o_storeA M F rfl rfl agg_State.size (by repeat (first | exact Upd.here _ _ _ _ _ | apply Upd.there)) (by rfl) (by rfl) (by rfl) ?_); clear F a; intro a W64 M F
        refine l_step rfl (o_val F (r_assign F rfl) rfl ?_); clear F a; intro a F
        refine l_nil ?_
        refine hK28 _ _ ?_
        refine c_seq (fun K29 hK29 => ?_)
        refine c_seq (fun K30 hK30 => ?_)
        refine wp_region_lit ?_
        refine l_step rfl (o_val F (r_load M F rfl (by repeat (first | exact List.mem_cons_self | apply List.mem_cons_of_mem)) agg_Base (seg_all rfl)) rfl ?_); clear F a; intro a F
        refine l_step rfl (o_val F (r_load M F rfl (by repeat (first | exact List.mem_cons_self | apply List.mem_cons_of_mem)) agg_Base (seg_all rfl)) rfl ?_); clear F a; intro a F
        refine l_step rfl (o_val F (r_neq_Base F rfl rfl) rfl ?_); clear F a; intro a F
        refine l_step rfl (o_val F (r_move F rfl) rfl ?_); clear F a; intro a F
        refine l_guard F rfl rfl rfl (by simp) (o_val F (r_move F rfl) rfl ?_); clear F a; intro a F
        refine l_guard F rfl rfl rfl (by simp) (o_val F (r_move F rfl) rfl ?_); clear F a; intro a F
        refine l_guard F rfl rfl rfl (by simp) (o_val F (r_neq_bool F und_bool rfl rfl) rfl ?_); clear F a; intro a F
        refine l_step rfl (o_val F (r_pick_f F rfl (by simp) rfl) rfl ?_); clear F a; intro a F
        refine l_step rfl (o_val F (r_move F rfl) rfl ?_); clear F a; intro a F
        refine l_guard F rfl rfl rfl (by simp) (o_val F (r_move F rfl) rfl ?_); clear F a; intro a F
        refine l_guard F rfl rfl rfl (by simp) (o_val F (r_move F rfl) rfl ?_); clear F a; intro a F
        refine l_guard F rfl rfl rfl (by simp) (o_val F (r_neq_i64 F rfl rfl) rfl ?_); clear F a; intro a F
        refine l_step rfl (o_val F (r_pick_f F rfl (by simp) rfl) rfl ?_); clear F a; intro a F
        refine l_step rfl (o_val F (r_move F rfl) rfl ?_); clear F a; intro a F
        refine l_guard F rfl rfl rfl (by simp) (o_val F (r_load M F rfl (by repeat (first | exact List.mem_cons_self | apply List.mem_cons_of_mem)) agg_State (seg_all rfl)) rfl ?_); clear F a; intro a F
        refine l_guard F rfl rfl rfl (by simp) (o_val F (r_load M F rfl (by repeat (first | exact List.mem_cons_self | apply List.mem_cons_of_mem)) agg_State (seg_all rfl)) rfl ?_); clear F a; intro a F
        refine l_guard F rfl rfl rfl (by simp) (o_call M F rfl (c_paddockref6_Same M.imm hl4 hl5) rfl ?_); clear F a; intro a W65 v65 G65 hp65 M E65 F
        have hl := hl.mono E65.gl
        have hl1 := hl1.mono E65.gl
        have hl2 := hl2.mono E65.gl
        have hl3 := hl3.mono E65.gl
        have hl4 := hl4.mono E65.gl
        have hl5 := hl5.mono E65.gl
        subst hp65
        refine l_guard F rfl rfl rfl (by simp) (o_val F (r_not F rfl) rfl ?_); clear F a; intro a F
        refine l_step rfl (o_val F (r_pick_f F rfl (by simp) rfl) rfl ?_); clear F a; intro a F
        refine l_nil ?_
        refine hK30 _ _ ?_
        refine c_false F rfl (by simp) ?_
        refine wp_skip ?_
        refine hK29 _ _ ?_
        refine c_seq (fun K31 hK31 => ?_)
        refine wp_region_lit ?_
        refine l_step rfl (o_val F (r_load M F rfl (by repeat (first | exact List.mem_cons_self | apply List.mem_cons_of_mem)) agg_State (seg_all rfl)) rfl ?_); clear F a; intro a F
        refine l_step rfl (o_val F (r_move F rfl) rfl ?_); clear F a; intro a F
        refine l_step rfl (o_call M F rfl (c_pglog_Tail M.imm hl) rfl ?_); clear F a; intro a W66 v66 G66 hp66 M E66 F
        have hl := hl.mono E66.gl
        have hl1 := hl1.mono E66.gl
        have hl2 := hl2.mono E66.gl
        have hl3 := hl3.mono E66.gl
        have hl4 := hl4.mono E66.gl
        have hl5 := hl5.mono E66.gl
        obtain ⟨l6, rfl, hl6⟩ := hp66
        refine l_step rfl (o_val F (r_move F rfl) rfl ?_); clear F a; intro a F
        refine l_step rfl (o_val F (r_extract F rfl rfl) rfl ?_); clear F a; intro a F
        refine l_step rfl (o_val F (r_extract F rfl rfl) rfl ?_); clear F a; intro a F
        refine l_step rfl (o_storeA M F rfl rfl agg_State.size (by repeat (first | exact Upd.here _ _ _ _ _ | apply Upd.there)) (by rfl) (by rfl) (by rfl) ?_); clear F a; intro a W67 M F
        refine l_step rfl (o_val F (r_assign F rfl) rfl ?_); clear F a; intro a F
        refine l_nil ?_
        refine hK31 _ _ ?_
        refine c_seq (fun K32 hK32 => ?_)
        refine wp_region_lit ?_
        refine l_step rfl (o_val F (r_load M F rfl (by repeat (first | exact List.mem_cons_self | apply List.mem_cons_of_mem)) agg_State (seg_all rfl)) rfl ?_); clear F a; intro a F
        refine l_step rfl (o_val F (r_move F rfl) rfl ?_); clear F a; intro a F
        refine l_step rfl (o_call M F rfl (c_paddockref6_Tail M.imm hl) rfl ?_); clear F a; intro a W68 v68 G68 hp68 M E68 F
        have hl := hl.mono E68.gl
        have hl1 := hl1.mono E68.gl
        have hl2 := hl2.mono E68.gl
        have hl3 := hl3.mono E68.gl
        have hl4 := hl4.mono E68.gl
        have hl5 := hl5.mono E68.gl
        have hl6 := hl6.mono E68.gl
        obtain ⟨l7, rfl, hl7⟩ := hp68
        refine l_step rfl (o_val F (r_move F rfl) rfl ?_); clear F a; intro a F
        refine l_step rfl (o_val F (r_extract F rfl rfl) rfl ?_); clear F a; intro a F
        refine l_step rfl (o_val F (r_extract F rfl rfl) rfl ?_); clear F a; intro a F
        refine l_step rfl (o_storeA M F rfl rfl agg_State.size (by repeat (first | exact Upd.here _ _ _ _ _ | apply Upd.there)) (by rfl) (by rfl) (by rfl) ?_); clear F a; intro a W69 M F
        refine l_step rfl (o_val F (r_assign F rfl) rfl ?_); clear F a; intro a F
        refine l_nil ?_
        refine hK32 _ _ ?_
        refine c_seq (fun K33 hK33 => ?_)
        refine wp_region_lit ?_
        refine l_step rfl (o_val F (r_load M F rfl (by repeat (first | exact List.mem_cons_self | apply List.mem_cons_of_mem)) agg_State (seg_all rfl)) rfl ?_); clear F a; intro a F
        refine l_step rfl (o_val F (r_move F rfl) rfl ?_); clear F a; intro a F
        refine l_step rfl (o_call M F rfl (c_pglog_Find M.imm hl) rfl ?_); clear F a; intro a W70 v70 G70 hp70 M E70 F
        have hl := hl.mono E70.gl
        have hl1 := hl1.mono E70.gl
        have hl2 := hl2.mono E70.gl
        have hl3 := hl3.mono E70.gl
        have hl4 := hl4.mono E70.gl
        have hl5 := hl5.mono E70.gl
        have hl6 := hl6.mono E70.gl
        have hl7 := hl7.mono E70.gl
        subst hp70
        refine l_step rfl (o_val F (r_move F rfl) rfl ?_); clear F a; intro a F
        refine l_step rfl (o_val F (r_extract F rfl rfl) rfl ?_); clear F a; intro a F
        refine l_step rfl (o_val F (r_extract F rfl rfl) rfl ?_); clear F a; intro a F
        refine l_step rfl (o_alloc M F zer_Entry rfl ?_); clear F a; intro a W71 b16 M F
        refine l_step rfl (o_storeA M F rfl rfl agg_Entry.size (by repeat (first | exact Upd.here _ _ _ _ _ | apply Upd.there)) (by rfl) (by rfl) (by rfl) ?_); clear F a; intro a W72 M F
        refine l_step rfl (o_val F (r_assign F rfl) rfl ?_); clear F a; intro a F
        refine l_nil ?_
        refine hK33 _ _ ?_
        refine c_seq (fun K34 hK34 => ?_)
        refine wp_region_lit ?_
        refine l_step rfl (o_val F (r_load M F rfl (by repeat (first | exact List.mem_cons_self | apply List.mem_cons_of_mem)) agg_State (seg_all rfl)) rfl ?_); clear F a; intro a F
        refine l_step rfl (o_val F (r_move F rfl) rfl ?_); clear F a; intro a F
        refine l_step rfl (o_call M F rfl (c_paddockref6_Find M.imm hl) rfl ?_); clear F a; intro a W73 v73 G73 hp73 M E73 F
        have hl := hl.mono E73.gl
        have hl1 := hl1.mono E73.gl
        have hl2 := hl2.mono E73.gl
        have hl3 := hl3.mono E73.gl
        have hl4 := hl4.mono E73.gl
        have hl5 := hl5.mono E73.gl
        have hl6 := hl6.mono E73.gl
        have hl7 := hl7.mono E73.gl
        subst hp73
        refine l_step rfl (o_val F (r_move F rfl) rfl ?_); clear F a; intro a F
        refine l_step rfl (o_val F (r_extract F rfl rfl) rfl ?_); clear F a; intro a F
        refine l_step rfl (o_val F (r_extract F rfl rfl) rfl ?_); clear F a; intro a F
        refine l_step rfl (o_alloc M F zer_Entry rfl ?_); clear F a; intro a W74 b17 M F
        refine l_step rfl (o_storeA M F rfl rfl agg_Entry.size (by repeat (first | exact Upd.here _ _ _ _ _ | apply Upd.there)) (by rfl) (by rfl) (by rfl) ?_); clear F a; intro a W75 M F
        refine l_step rfl (o_val F (r_assign F rfl) rfl ?_); clear F a; intro a F
        refine l_nil ?_
        refine hK34 _ _ ?_
        refine c_seq (fun K35 hK35 => ?_)
        refine wp_region_lit ?_
        refine l_step rfl (o_val F (r_move F rfl) rfl ?_); clear F a; intro a F
        refine l_step rfl (o_val F (r_move F rfl) rfl ?_); clear F a; intro a F
        refine l_step rfl (o_val F (r_eql_i64 F rfl rfl) rfl ?_); clear F a; intro a F
        refine l_step rfl (o_val F (r_move F rfl) rfl ?_); clear F a; intro a F
        refine l_guard F rfl rfl rfl (by simp) (o_val F (r_load M F rfl (by repeat (first | exact List.mem_cons_self | apply List.mem_cons_of_mem)) agg_State (seg_all rfl)) rfl ?_); clear F a; intro a F
        refine l_guard F rfl rfl rfl (by simp) (o_val F (r_load M F rfl (by repeat (first | exact List.mem_cons_self | apply List.mem_cons_of_mem)) agg_State (seg_all rfl)) rfl ?_); clear F a; intro a F
        refine l_guard F rfl rfl rfl (by simp) (o_call M F rfl (c_paddockref6_Same M.imm hl6 hl7) rfl ?_); clear F a; intro a W76 v76 G76 hp76 M E76 F
        have hl := hl.mono E76.gl
        have hl1 := hl1.mono E76.gl
        have hl2 := hl2.mono E76.gl
        have hl3 := hl3.mono E76.gl
        have hl4 := hl4.mono E76.gl
        have hl5 := hl5.mono E76.gl
        have hl6 := hl6.mono E76.gl
        have hl7 := hl7.mono E76.gl
        subst hp76
        refine l_step rfl (o_val F (r_pick_t F rfl (by simp) rfl) rfl ?_); clear F a; intro a F
        refine l_step rfl (o_val F (r_move F rfl) rfl ?_); clear F a; intro a F
        refine l_guard F rfl rfl rfl (by simp) (o_val F (r_load M F rfl (by repeat (first | exact List.mem_cons_self | apply List.mem_cons_of_mem)) agg_Entry (seg_all rfl)) rfl ?_); clear F a; intro a F
        refine l_guard F rfl rfl rfl (by simp) (o_val F (r_load M F rfl (by repeat (first | exact List.mem_cons_self | apply List.mem_cons_of_mem)) agg_Entry (seg_all rfl)) rfl ?_); clear F a; intro a F
        refine l_guard F rfl rfl rfl (by simp) (o_val F (r_eql_Entry F rfl rfl) rfl ?_); clear F a; intro a F
        refine l_step rfl (o_val F (r_pick_t F rfl (by simp) rfl) rfl ?_); clear F a; intro a F
        refine l_step rfl (o_val F (r_move F rfl) rfl ?_); clear F a; intro a F
        refine l_guard F rfl rfl rfl (by simp) (o_val F (r_move F rfl) rfl ?_); clear F a; intro a F
        refine l_guard F rfl rfl rfl (by simp) (o_val F (r_move F rfl) rfl ?_); clear F a; intro a F
        refine l_guard F rfl rfl rfl (by simp) (o_val F (r_eql_bool F und_bool rfl rfl) rfl ?_); clear F a; intro a F
        refine l_step rfl (o_val F (r_pick_t F rfl (by simp) rfl) rfl ?_); clear F a; intro a F
        refine l_step rfl (o_val F (r_assign F rfl) rfl ?_); clear F a; intro a F
        refine l_nil ?_
        refine hK35 _ _ ?_
        refine wp_ret ?_
        exact ret1 Try.results7 M F (rv_tmp F rfl) (by simp)
end Go.Proofs.Ytfkmaepcjognkaa.Pad
