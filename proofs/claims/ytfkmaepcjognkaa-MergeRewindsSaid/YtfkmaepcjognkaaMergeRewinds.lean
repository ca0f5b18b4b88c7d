/- The walk of MergeRewinds: it answers true. The rows are slices of operations, whatever they are. -/
import Derived.Test.YtfkmaepcjognkaaT8c
namespace Go.Proofs.Ytfkmaepcjognkaa.Pad
open Go Go.Proofs
set_option linter.unusedVariables false
set_option maxRecDepth 8000
set_option maxHeartbeats 4000000
set_option linter.unusedSimpArgs false
theorem c_paddocklaw8_MergeRewinds {w : World} {G0 : Ghost} (hI : Imm G0 w) {la lb lc : Sl} {xa xb xc : List POp} (ha : Opl G0 la xa) (hb : Opl G0 lb xb) (hc : Opl G0 lc xc) : Ret P 11 [la.v, lb.v, lc.v] [] w G0 (fun G W v => v = .bool true) := by
  refine enter Try.func11 rfl Try.ntmps11 rfl rfl hI (fun a F M => ?_)
  have hla := ha.len
  have hlb := hb.len
  have hlc := hc.len
  refine c_seq (fun K1 hK1 => ?_)
  refine wp_region_lit ?_
  refine l_step rfl (o_val F (r_assign F rfl) rfl ?_); clear F a; intro a F
  refine l_nil ?_
  refine hK1 _ _ ?_
  refine c_seq (fun K2 hK2 => ?_)
  refine c_seq (fun K3 hK3 => ?_)
  refine wp_region_lit ?_
  refine l_step rfl (o_call M F rfl (c_paddocklaw8_known M.imm) rfl ?_); clear F a; intro a W1 v1 G1 hp1 M E1 F
  subst hp1
  refine l_step rfl (o_val F (r_not F rfl) rfl ?_); clear F a; intro a F
  refine l_nil ?_
  refine hK3 _ _ ?_
  refine c_false F rfl rfl ?_
  refine wp_skip ?_
  refine hK2 _ _ ?_
  refine c_seq (fun K4 hK4 => ?_)
  refine c_seq (fun K5 hK5 => ?_)
  refine wp_region_lit ?_
  refine l_step rfl (o_val F (r_move F rfl) rfl ?_); clear F a; intro a F
  refine l_step rfl (o_val F (r_len_slice F slc_Ops.und rfl) rfl ?_); clear F a; intro a F
  refine l_step rfl (o_val F (r_gtr_i64 F rfl rfl) rfl ?_); clear F a; intro a F
  refine l_step rfl (o_val F (r_move F rfl) rfl ?_); clear F a; intro a F
  refine c_split F (i := 20) rfl (fun g20 => ?_) (fun g20 => ?_)
  · skip
    iterate 3 (refine l_skip F rfl rfl rfl g20 rfl rfl ?_; clear F a; intro a F)
    refine l_step rfl (o_val F (r_pick_t F rfl g20 rfl) rfl ?_); clear F a; intro a F
    refine l_step rfl (o_val F (r_move F rfl) rfl ?_); clear F a; intro a F
    iterate 3 (refine l_skip F rfl rfl rfl rfl rfl rfl ?_; clear F a; intro a F)
    refine l_step rfl (o_val F (r_pick_t F rfl rfl rfl) rfl ?_); clear F a; intro a F
    refine l_nil ?_
    refine hK5 _ _ ?_
    refine c_true F rfl rfl ?_
    refine c_seq (fun K6 hK6 => ?_)
    refine wp_region_lit ?_
    refine l_step rfl (o_val F (r_assign F rfl) rfl ?_); clear F a; intro a F
    refine l_nil ?_
    refine hK6 _ _ ?_
    refine wp_ret ?_
    exact ret1 Try.results11 M F (rv_tmp F rfl) (rfl)
  · skip
    refine l_guard F rfl rfl rfl g20 (o_val F (r_move F rfl) rfl ?_); clear F a; intro a F
    refine l_guard F rfl rfl rfl g20 (o_val F (r_len_slice F slc_Ops.und rfl) rfl ?_); clear F a; intro a F
    refine l_guard F rfl rfl rfl g20 (o_val F (r_gtr_i64 F rfl rfl) rfl ?_); clear F a; intro a F
    refine l_step rfl (o_val F (r_pick_f F rfl g20 rfl) rfl ?_); clear F a; intro a F
    refine l_step rfl (o_val F (r_move F rfl) rfl ?_); clear F a; intro a F
    refine c_split F (i := 25) rfl (fun g25 => ?_) (fun g25 => ?_)
    · skip
      iterate 3 (refine l_skip F rfl rfl rfl g25 rfl rfl ?_; clear F a; intro a F)
      refine l_step rfl (o_val F (r_pick_t F rfl g25 rfl) rfl ?_); clear F a; intro a F
      refine l_nil ?_
      refine hK5 _ _ ?_
      refine c_true F rfl rfl ?_
      refine c_seq (fun K7 hK7 => ?_)
      refine wp_region_lit ?_
      refine l_step rfl (o_val F (r_assign F rfl) rfl ?_); clear F a; intro a F
      refine l_nil ?_
      refine hK7 _ _ ?_
      refine wp_ret ?_
      exact ret1 Try.results11 M F (rv_tmp F rfl) (rfl)
    · skip
      refine l_guard F rfl rfl rfl g25 (o_val F (r_move F rfl) rfl ?_); clear F a; intro a F
      refine l_guard F rfl rfl rfl g25 (o_val F (r_len_slice F slc_Ops.und rfl) rfl ?_); clear F a; intro a F
      refine l_guard F rfl rfl rfl g25 (o_val F (r_gtr_i64 F rfl rfl) rfl ?_); clear F a; intro a F
      refine l_step rfl (o_val F (r_pick_f F rfl g25 rfl) rfl ?_); clear F a; intro a F
      refine l_nil ?_
      refine hK5 _ _ ?_
      refine c_cond F rfl (fun g29 => ?_) (fun g29 => ?_)
      · skip
        refine c_seq (fun K8 hK8 => ?_)
        refine wp_region_lit ?_
        refine l_step rfl (o_val F (r_assign F rfl) rfl ?_); clear F a; intro a F
        refine l_nil ?_
        refine hK8 _ _ ?_
        refine wp_ret ?_
        exact ret1 Try.results11 M F (rv_tmp F rfl) (rfl)
      · skip
        refine wp_skip ?_
        refine hK4 _ _ ?_
        refine c_seq (fun K9 hK9 => ?_)
        refine wp_region_lit ?_
        refine l_step rfl (o_val F (r_move F rfl) rfl ?_); clear F a; intro a F
        refine l_step rfl (o_val F (r_move F rfl) rfl ?_); clear F a; intro a F
        refine l_step rfl (o_call M F rfl (c_paddocklaw8_state (since := 5) (f := 0) (started := 1) M.imm (ha.mono M.gl) (hb.mono M.gl) (by have h := of_decide_eq_false g20; omega) (by have h := of_decide_eq_false g25; omega)) rfl ?_); clear F a; intro a W2 v2 G2 hp2 M E2 F
        obtain ⟨l1, rfl, hl1⟩ := hp2
        have hok1 := st_ok xa xb 5 0 1
        have hrw := rewinds (xs := xa) (ya := xb) (yb := xc) (by have h := of_decide_eq_false g29; omega)
        generalize pSt xa xb 5 0 1 = s at F hl1 hok1 hrw
        refine l_step rfl (o_val F (r_move F rfl) rfl ?_); clear F a; intro a F
        refine l_step rfl (o_val F (r_move F rfl) rfl ?_); clear F a; intro a F
        refine l_step rfl (o_call M F rfl (c_paddocklaw8_state (since := 6) (f := 0) (started := 9) M.imm (ha.mono M.gl) (hc.mono M.gl) (by have h := of_decide_eq_false g20; omega) (by have h := of_decide_eq_false g29; omega)) rfl ?_); clear F a; intro a W3 v3 G3 hp3 M E3 F
        have hl1 := hl1.mono E3.gl
        obtain ⟨l2, rfl, hl2⟩ := hp3
        have hok2 := st_ok xa xc 6 0 9
        generalize pSt xa xc 6 0 9 = t at F hl2 hok2 hrw
        refine l_step rfl (o_alloc M F zer_State rfl ?_); clear F a; intro a W4 b1 M F
        refine l_step rfl (o_alloc M F zer_State rfl ?_); clear F a; intro a W5 b2 M F
        refine l_step rfl (o_storeA M F rfl rfl agg_State.size (by repeat (first | exact Upd.here _ _ _ _ _ | apply Upd.there)) (by rfl) (by rfl) (by rfl) ?_); clear F a; intro a W6 M F
        refine l_step rfl (o_storeA M F rfl rfl agg_State.size (by repeat (first | exact Upd.here _ _ _ _ _ | apply Upd.there)) (by rfl) (by rfl) (by rfl) ?_); clear F a; intro a W7 M F
        refine l_nil ?_
        refine hK9 _ _ ?_
        refine c_seq (fun K10 hK10 => ?_)
        refine wp_region_lit ?_
        refine l_step rfl (o_val F (r_move F rfl) rfl ?_); clear F a; intro a F
        refine l_step rfl (o_call M F rfl (c_paddocklaw8_state (lb := Sl.nil) (ys := []) (since := 0) (f := 0) (started := 1) M.imm (ha.mono M.gl) (Opl.nil _) (by have h := of_decide_eq_false g20; omega) (by decide)) rfl ?_); clear F a; intro a W8 v8 G8 hp8 M E8 F
        have hl1 := hl1.mono E8.gl
        have hl2 := hl2.mono E8.gl
        obtain ⟨l3, rfl, hl3⟩ := hp8
        have hok3 := st_ok xa [] 0 0 1
        generalize pSt xa [] 0 0 1 = u at F hl3 hok3 hrw
        have a1 := apply_make hok1 hok2
        refine l_step rfl (o_alloc M F zer_State rfl ?_); clear F a; intro a W9 b3 M F
        refine l_step rfl (o_storeA M F rfl rfl agg_State.size (by repeat (first | exact Upd.here _ _ _ _ _ | apply Upd.there)) (by rfl) (by rfl) (by rfl) ?_); clear F a; intro a W10 M F
        refine l_nil ?_
        refine hK10 _ _ ?_
        refine c_seq (fun K11 hK11 => ?_)
        refine wp_region_lit ?_
        refine l_step rfl (o_val F (r_load M F rfl (by repeat (first | exact List.mem_cons_self | apply List.mem_cons_of_mem)) agg_State (seg_all rfl)) rfl ?_); clear F a; intro a F
        refine l_step rfl (o_call M F rfl (c_pglog_Head M.imm hl3) rfl ?_); clear F a; intro a W11 v11 G11 hp11 M E11 F
        have hl1 := hl1.mono E11.gl
        have hl2 := hl2.mono E11.gl
        have hl3 := hl3.mono E11.gl
        subst hp11
        simp only [head_ok hok3] at F
        refine l_step rfl (o_val F (r_move F rfl) rfl ?_); clear F a; intro a F
        refine l_step rfl (o_val F (r_extract F rfl rfl) rfl ?_); clear F a; intro a F
        refine l_step rfl (o_val F (r_extract F rfl rfl) rfl ?_); clear F a; intro a F
        refine l_step rfl (o_val F (r_assign F rfl) rfl ?_); clear F a; intro a F
        refine l_step rfl (o_val F (r_assign F rfl) rfl ?_); clear F a; intro a F
        refine l_nil ?_
        refine hK11 _ _ ?_
        refine c_seq (fun K12 hK12 => ?_)
        refine wp_region_lit ?_
        refine l_step rfl (o_val F (r_load M F rfl (by repeat (first | exact List.mem_cons_self | apply List.mem_cons_of_mem)) agg_State (seg_all rfl)) rfl ?_); clear F a; intro a F
        refine l_step rfl (o_val F (r_load M F rfl (by repeat (first | exact List.mem_cons_self | apply List.mem_cons_of_mem)) agg_State (seg_all rfl)) rfl ?_); clear F a; intro a F
        refine l_step rfl (o_call M F rfl (c_merge_Make M.imm hl1 hl2) rfl ?_); clear F a; intro a W12 v12 G12 hp12 M E12 F
        have hl1 := hl1.mono E12.gl
        have hl2 := hl2.mono E12.gl
        have hl3 := hl3.mono E12.gl
        obtain ⟨l4, l5, rfl, hl4, hl5⟩ := hp12
        refine l_step rfl (o_alloc M F zer_Diff rfl ?_); clear F a; intro a W13 b4 M F
        refine l_step rfl (o_storeA M F rfl rfl agg_Diff.size (by repeat (first | exact Upd.here _ _ _ _ _ | apply Upd.there)) (by rfl) (by rfl) (by rfl) ?_); clear F a; intro a W14 M F
        refine l_nil ?_
        refine hK12 _ _ ?_
        refine c_seq (fun K13 hK13 => ?_)
        refine wp_region_lit ?_
        refine l_step rfl (o_val F (r_load M F rfl (by repeat (first | exact List.mem_cons_self | apply List.mem_cons_of_mem)) agg_State (seg_all rfl)) rfl ?_); clear F a; intro a F
        refine l_step rfl (o_val F (r_load M F rfl (by repeat (first | exact List.mem_cons_self | apply List.mem_cons_of_mem)) agg_Diff (seg_all rfl)) rfl ?_); clear F a; intro a F
        refine l_step rfl (o_call M F rfl (c_merge_Apply M.imm hl1 hl4 hl5) rfl ?_); clear F a; intro a W15 v15 G15 hp15 M E15 F
        have hl1 := hl1.mono E15.gl
        have hl2 := hl2.mono E15.gl
        have hl3 := hl3.mono E15.gl
        have hl4 := hl4.mono E15.gl
        have hl5 := hl5.mono E15.gl
        obtain ⟨l6, rfl, hl6⟩ := hp15
        simp only [a1] at F hl6
        refine l_step rfl (o_val F (r_move F rfl) rfl ?_); clear F a; intro a F
        refine l_step rfl (o_val F (r_extract F rfl rfl) rfl ?_); clear F a; intro a F
        refine l_step rfl (o_val F (r_extract F rfl rfl) rfl ?_); clear F a; intro a F
        refine l_step rfl (o_alloc M F zer_State rfl ?_); clear F a; intro a W16 b5 M F
        refine l_step rfl (o_storeA M F rfl rfl agg_State.size (by repeat (first | exact Upd.here _ _ _ _ _ | apply Upd.there)) (by rfl) (by rfl) (by rfl) ?_); clear F a; intro a W17 M F
        refine l_step rfl (o_val F (r_assign F rfl) rfl ?_); clear F a; intro a F
        refine l_nil ?_
        refine hK13 _ _ ?_
        refine c_seq (fun K14 hK14 => ?_)
        refine c_seq (fun K15 hK15 => ?_)
        refine wp_region_lit ?_
        refine l_step rfl (o_val F (r_move F rfl) rfl ?_); clear F a; intro a F
        refine l_step rfl (o_val F (r_neq_i64 F rfl rfl) rfl ?_); clear F a; intro a F
        refine l_step rfl (o_val F (r_move F rfl) rfl ?_); clear F a; intro a F
        refine l_guard F rfl rfl rfl rfl (o_val F (r_load M F rfl (by repeat (first | exact List.mem_cons_self | apply List.mem_cons_of_mem)) agg_State (seg_all rfl)) rfl ?_); clear F a; intro a F
        refine l_guard F rfl rfl rfl rfl (o_val F (r_load M F rfl (by repeat (first | exact List.mem_cons_self | apply List.mem_cons_of_mem)) agg_State (seg_all rfl)) rfl ?_); clear F a; intro a F
        refine l_guard F rfl rfl rfl rfl (o_call M F rfl (c_pglog_Same M.imm hl6 hl2) rfl ?_); clear F a; intro a W18 v18 G18 hp18 M E18 F
        have hl1 := hl1.mono E18.gl
        have hl2 := hl2.mono E18.gl
        have hl3 := hl3.mono E18.gl
        have hl4 := hl4.mono E18.gl
        have hl5 := hl5.mono E18.gl
        have hl6 := hl6.mono E18.gl
        subst hp18
        refine l_guard F rfl rfl rfl rfl (o_val F (r_not F rfl) rfl ?_); clear F a; intro a F
        refine l_step rfl (o_val F (r_pick_f F rfl rfl rfl) rfl ?_); clear F a; intro a F
        refine l_nil ?_
        refine hK15 _ _ ?_
        refine c_false F rfl (by simp) ?_
        refine wp_skip ?_
        refine hK14 _ _ ?_
        refine c_seq (fun K16 hK16 => ?_)
        refine c_drawM M [] mixed (fun M => ?_)
        have Ms := M
        have hq1 := Keeps.here M
        have hle1 := M.gle
        refine t_take (i := 0) F rfl rfl hq1 (fun _ _ => r_fieldAddr F rfl fld_Diff_0) (fun _ _ _ h => h) (by kernel_rfl) (by kernel_rfl) (by kernel_rfl) (by kernel_rfl) ?_; clear F a; intro a F
        refine t_take (i := 1) F rfl rfl hq1 (fun _ ⟨_, _, M'⟩ => r_load1 M' F rfl (by repeat (first | exact List.mem_cons_self | apply List.mem_cons_of_mem)) sca_int rfl) (fun _ _ _ h => h) (by kernel_rfl) (by kernel_rfl) (by kernel_rfl) (by kernel_rfl) ?_; clear F a; intro a F
        refine t_take (i := 2) F rfl rfl hq1 (fun _ _ => r_neq_i64 F rfl rfl) (fun _ _ _ h => h) (by kernel_rfl) (by kernel_rfl) (by kernel_rfl) (by kernel_rfl) ?_; clear F a; intro a F
        refine t_take (i := 3) F rfl rfl hq1 (fun _ _ => r_move F rfl) (fun _ _ _ h => h) (by kernel_rfl) (by kernel_rfl) (by kernel_rfl) (by kernel_rfl) ?_; clear F a; intro a F
        refine c_split F (i := 63) rfl (fun g63 => ?_) (fun g63 => ?_)
        · skip
          refine t_skip (i := 4) F rfl rfl rfl g63 rfl hq1 (fun _ _ _ h => h) (by kernel_rfl) (by kernel_rfl) (by kernel_rfl) (by kernel_rfl) ?_; clear F a; intro a F
          refine t_skip (i := 5) F rfl rfl rfl g63 rfl hq1 (fun _ _ _ h => h) (by kernel_rfl) (by kernel_rfl) (by kernel_rfl) (by kernel_rfl) ?_; clear F a; intro a F
          refine t_skip (i := 6) F rfl rfl rfl g63 rfl hq1 (fun _ _ _ h => h) (by kernel_rfl) (by kernel_rfl) (by kernel_rfl) (by kernel_rfl) ?_; clear F a; intro a F
          refine t_skip (i := 7) F rfl rfl rfl g63 rfl hq1 (fun _ _ _ h => h) (by kernel_rfl) (by kernel_rfl) (by kernel_rfl) (by kernel_rfl) ?_; clear F a; intro a F
          refine t_skip (i := 8) F rfl rfl rfl g63 rfl hq1 (fun _ _ _ h => h) (by kernel_rfl) (by kernel_rfl) (by kernel_rfl) (by kernel_rfl) ?_; clear F a; intro a F
          refine t_skipu (i := 9) F rfl rfl rfl rfl hq1 (fun _ _ _ h => h) (by kernel_rfl) (by kernel_rfl) (by kernel_rfl) (by kernel_rfl) ?_; clear F a; intro a F
          refine t_skipu (i := 10) F rfl rfl rfl rfl hq1 (fun _ _ _ h => h) (by kernel_rfl) (by kernel_rfl) (by kernel_rfl) (by kernel_rfl) ?_; clear F a; intro a F
          refine t_skipu (i := 11) F rfl rfl rfl rfl hq1 (fun _ _ _ h => h) (by kernel_rfl) (by kernel_rfl) (by kernel_rfl) (by kernel_rfl) ?_; clear F a; intro a F
          refine t_skipu (i := 12) F rfl rfl rfl rfl hq1 (fun _ _ _ h => h) (by kernel_rfl) (by kernel_rfl) (by kernel_rfl) (by kernel_rfl) ?_; clear F a; intro a F
          refine t_skipu (i := 13) F rfl rfl rfl rfl hq1 (fun _ _ _ h => h) (by kernel_rfl) (by kernel_rfl) (by kernel_rfl) (by kernel_rfl) ?_; clear F a; intro a F
          refine t_skipu (i := 14) F rfl rfl rfl rfl hq1 (fun _ _ _ h => h) (by kernel_rfl) (by kernel_rfl) (by kernel_rfl) (by kernel_rfl) ?_; clear F a; intro a F
          refine t_skipu (i := 15) F rfl rfl rfl rfl hq1 (fun _ _ _ h => h) (by kernel_rfl) (by kernel_rfl) (by kernel_rfl) (by kernel_rfl) ?_; clear F a; intro a F
          refine t_skipu (i := 16) F rfl rfl rfl rfl hq1 (fun _ _ _ h => h) (by kernel_rfl) (by kernel_rfl) (by kernel_rfl) (by kernel_rfl) ?_; clear F a; intro a F
          refine t_skip (i := 17) F rfl rfl rfl g63 rfl hq1 (fun _ _ _ h => h) (by kernel_rfl) (by kernel_rfl) (by kernel_rfl) (by kernel_rfl) ?_; clear F a; intro a F
          refine t_take (i := 18) F rfl rfl hq1 (fun _ _ => r_pick_t F rfl g63 rfl) (fun _ _ _ h => h) (by kernel_rfl) (by kernel_rfl) (by kernel_rfl) (by kernel_rfl) ?_; clear F a; intro a F
          refine t_take (i := 19) F rfl rfl hq1 (fun _ _ => r_assign F rfl) (fun _ _ _ h => h) (by kernel_rfl) (by kernel_rfl) (by kernel_rfl) (by kernel_rfl) ?_; clear F a; intro a F
          refine t_done (by kernel_rfl) ?_ _
          refine hK16 _ _ ?_
          refine wp_ret ?_
          exact ret1 Try.results11 M F (rv_tmp F rfl) (rfl)
        · skip
          refine t_takeg (i := 4) F rfl rfl rfl g63 rfl hq1 (fun _ _ => r_fieldAddr F rfl fld_Diff_1) (fun _ _ _ h => h) (by kernel_rfl) (by kernel_rfl) (by kernel_rfl) (by kernel_rfl) ?_; clear F a; intro a F
          refine t_takeg (i := 5) F rfl rfl rfl g63 rfl hq1 (fun _ ⟨_, _, M'⟩ => r_load1 M' F rfl (by repeat (first | exact List.mem_cons_self | apply List.mem_cons_of_mem)) sca_u32 rfl) (fun _ _ _ h => h) (by kernel_rfl) (by kernel_rfl) (by kernel_rfl) (by kernel_rfl) ?_; clear F a; intro a F
          refine t_takeg (i := 6) F rfl rfl rfl g63 rfl hq1 (fun _ _ => r_move F rfl) (fun _ _ _ h => h) (by kernel_rfl) (by kernel_rfl) (by kernel_rfl) (by kernel_rfl) ?_; clear F a; intro a F
          refine t_takeg (i := 7) F rfl rfl rfl g63 rfl hq1 (fun _ _ => r_eql_u32 F rfl rfl) (fun _ _ _ h => h) (by kernel_rfl) (by kernel_rfl) (by kernel_rfl) (by kernel_rfl) ?_; clear F a; intro a F
          refine t_takeg (i := 8) F rfl rfl rfl g63 rfl hq1 (fun _ _ => r_move F rfl) (fun _ _ _ h => h) (by kernel_rfl) (by kernel_rfl) (by kernel_rfl) (by kernel_rfl) ?_; clear F a; intro a F
          refine t_takeg (i := 9) F rfl rfl rfl (decide_eq_true (hrw (by simpa using g63)).1) rfl hq1 (fun _ ⟨_, _, M'⟩ => r_load M' F rfl (by repeat (first | exact List.mem_cons_self | apply List.mem_cons_of_mem)) agg_State (seg_all rfl)) (fun _ _ _ h => h) (by kernel_rfl) (by kernel_rfl) (by kernel_rfl) (by kernel_rfl) ?_; clear F a; intro a F
          refine t_takeg (i := 10) F rfl rfl rfl (decide_eq_true (hrw (by simpa using g63)).1) rfl hq1 (fun _ ⟨_, _, M'⟩ => r_load M' F rfl (by repeat (first | exact List.mem_cons_self | apply List.mem_cons_of_mem)) agg_State (seg_all rfl)) (fun _ _ _ h => h) (by kernel_rfl) (by kernel_rfl) (by kernel_rfl) (by kernel_rfl) ?_; clear F a; intro a F
          refine t_takeg (i := 12) F rfl rfl rfl (decide_eq_true (hrw (by simpa using g63)).1) rfl hq1 (fun _ ⟨_, _, M'⟩ => r_load M' F rfl (by repeat (first | exact List.mem_cons_self | apply List.mem_cons_of_mem)) agg_State (seg_all rfl)) (fun _ _ _ h => h) (by kernel_rfl) (by kernel_rfl) (by kernel_rfl) (by kernel_rfl) ?_; clear F a; intro a F
          refine t_takeg (i := 14) F rfl rfl rfl (decide_eq_true (hrw (by simpa using g63)).1) rfl hq1 (fun _ _ => r_move F rfl) (fun _ _ _ h => h) (by kernel_rfl) (by kernel_rfl) (by kernel_rfl) (by kernel_rfl) ?_; clear F a; intro a F
          refine t_oneg (i := 11) F (by kernel_rfl) rfl rfl rfl rfl (decide_eq_true (hrw (by simpa using g63)).1) (o_call M F rfl (c_merge_Extends M.imm hl1 hl2) rfl ?_); clear F a; intro a W19 v19 G19 hp19 M E19 F
          have hl1 := hl1.mono E19.gl
          have hl2 := hl2.mono E19.gl
          have hl3 := hl3.mono E19.gl
          have hl4 := hl4.mono E19.gl
          have hl5 := hl5.mono E19.gl
          have hl6 := hl6.mono E19.gl
          subst hp19
          have hle1 := hle1.trans E19.gl
          refine keepAnd (Keeps.mk hle1 M (by repeat (first | exact List.Sublist.refl _ | apply List.Sublist.cons_cons | apply List.Sublist.cons))) (fun hq1 => ?_)
          refine t_oneg (i := 13) F (by kernel_rfl) rfl rfl rfl rfl (decide_eq_true (hrw (by simpa using g63)).1) (o_call M F rfl (c_paddocklaw8_tops M.imm hl1) rfl ?_); clear F a; intro a W20 v20 G20 hp20 M E20 F
          have hl1 := hl1.mono E20.gl
          have hl2 := hl2.mono E20.gl
          have hl3 := hl3.mono E20.gl
          have hl4 := hl4.mono E20.gl
          have hl5 := hl5.mono E20.gl
          have hl6 := hl6.mono E20.gl
          subst hp20
          simp only [head_ok hok1] at F
          have hle1 := hle1.trans E20.gl
          refine keepAnd (Keeps.mk hle1 M (by repeat (first | exact List.Sublist.refl _ | apply List.Sublist.cons_cons | apply List.Sublist.cons))) (fun hq1 => ?_)
          refine t_takeg (i := 15) F rfl rfl rfl (decide_eq_true (hrw (by simpa using g63)).1) rfl hq1 (fun _ _ => r_eql_u32 F rfl rfl) (fun _ _ _ h => h) (by kernel_rfl) (by kernel_rfl) (by kernel_rfl) (by kernel_rfl) ?_; clear F a; intro a F
          refine t_takeg (i := 16) F rfl rfl rfl (decide_eq_true (hrw (by simpa using g63)).1) rfl hq1 (fun _ _ => r_eql_bool F und_bool rfl rfl) (fun _ _ _ h => h) (by kernel_rfl) (by kernel_rfl) (by kernel_rfl) (by kernel_rfl) ?_; clear F a; intro a F
          refine t_takeg (i := 17) F rfl rfl rfl g63 rfl hq1 (fun _ _ => r_pick_t F rfl (decide_eq_true (hrw (by simpa using g63)).1) rfl) (fun _ _ _ h => h) (by kernel_rfl) (by kernel_rfl) (by kernel_rfl) (by kernel_rfl) ?_; clear F a; intro a F
          refine t_take (i := 18) F rfl rfl hq1 (fun _ _ => r_pick_f F rfl g63 rfl) (fun _ _ _ h => h) (by kernel_rfl) (by kernel_rfl) (by kernel_rfl) (by kernel_rfl) ?_; clear F a; intro a F
          refine t_take (i := 19) F rfl rfl hq1 (fun _ _ => r_assign F rfl) (fun _ _ _ h => h) (by kernel_rfl) (by kernel_rfl) (by kernel_rfl) (by kernel_rfl) ?_; clear F a; intro a F
          refine t_done (by kernel_rfl) ?_ _
          refine hK16 _ _ ?_
          refine wp_ret ?_
          exact ret1 Try.results11 M F (rv_tmp F rfl) (by rw [(hrw (by simpa using g63)).2]; simp)
end Go.Proofs.Ytfkmaepcjognkaa.Pad
