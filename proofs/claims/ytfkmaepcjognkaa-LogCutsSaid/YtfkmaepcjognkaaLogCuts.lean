/- The walk of LogCuts: it answers true. The row is a slice of operations, whatever they are. -/
import Derived.Test.YtfkmaepcjognkaaT7b
namespace Go.Proofs.Ytfkmaepcjognkaa.Pad
open Go Go.Proofs
set_option linter.unusedVariables false
set_option maxRecDepth 8000
set_option maxHeartbeats 2000000
set_option linter.unusedSimpArgs false
theorem c_paddocklaw7_LogCuts {w : World} {G0 : Ghost} (hI : Imm G0 w) {lo : Sl} {ops : List POp} {c : UInt8} (ho : Opl G0 lo ops) : Ret P 4 [lo.v, .int .u8 (c.toNat : Int)] [] w G0 (fun G W v => v = .bool true) := by
  refine enter Try.func4 rfl Try.ntmps4 rfl rfl hI (fun a F M => ?_)
  have hlen := ho.len
  refine c_seq (fun K1 hK1 => ?_)
  refine wp_region_lit ?_
  refine l_step rfl (o_val F (r_assign F rfl) rfl ?_); clear F a; intro a F
  refine l_nil ?_
  refine hK1 _ _ ?_
  refine c_seq (fun K2 hK2 => ?_)
  refine c_seq (fun K3 hK3 => ?_)
  refine wp_region_lit ?_
  refine l_step rfl (o_call M F rfl (c_paddocklaw7_known M.imm) rfl ?_); clear F a; intro a W1 v1 G1 hp1 M E1 F
  subst hp1
  refine l_step rfl (o_val F (r_not F rfl) rfl ?_); clear F a; intro a F
  refine l_nil ?_
  refine hK3 _ _ ?_
  refine c_false F rfl rfl ?_
  refine wp_skip ?_
  refine hK2 _ _ ?_
  refine c_seq (fun K4 hK4 => ?_)
  refine c_seq (fun K5 hK5 => ?_)
  refine wp_region_lit ?_
  refine l_step rfl (o_val F (r_move F rfl) rfl ?_); clear F a; intro a F
  refine l_step rfl (o_val F (r_len_slice F slc_Ops.und rfl) rfl ?_); clear F a; intro a F
  refine l_step rfl (o_val F (r_gtr_i64 F rfl rfl) rfl ?_); clear F a; intro a F
  refine l_nil ?_
  refine hK5 _ _ ?_
  refine c_cond F rfl (fun g30 => ?_) (fun g30 => ?_)
  · skip
    refine c_seq (fun K6 hK6 => ?_)
    refine wp_region_lit ?_
    refine l_step rfl (o_val F (r_assign F rfl) rfl ?_); clear F a; intro a F
    refine l_nil ?_
    refine hK6 _ _ ?_
    refine wp_ret ?_
    exact ret1 Try.results4 M F (rv_tmp F rfl) (rfl)
  · skip
    refine wp_skip ?_
    refine hK4 _ _ ?_
    refine c_seq (fun K7 hK7 => ?_)
    refine wp_region_lit ?_
    refine l_step rfl (o_val F (r_move F rfl) rfl ?_); clear F a; intro a F
    refine l_step rfl (o_call M F rfl (c_paddocklaw7_row (since := 1) M.imm (ho.mono M.gl) (by have h := of_decide_eq_false g30; omega)) rfl ?_); clear F a; intro a W2 v2 G2 hp2 M E2 F
    obtain ⟨l, dn, rfl, hl, hd⟩ := hp2
    have hok := row_ok ops 1
    have hbd := row_small (ops := ops) (since := 1) (by have h := of_decide_eq_false g30; omega)
    obtain ⟨es, hes⟩ := row_is ops 1
    have hdl : (pRow ops 1).2.length ≤ 0 + ops.length := row_len 1 ops (PState.zero, [])
    generalize pRow ops 1 = r at F hl hd hok hbd hes hdl
    have hesl := hes.1
    have hdle : r.2.length = es.length := by rw [← hesl, List.length_map]
    have hlast : (lastE r.1).n.toNat = es.length := by rw [hes.2.2]; exact (zero_grow hes.2.1).2.2.2
    refine l_step rfl (o_val F (r_move F rfl) rfl ?_); clear F a; intro a F
    refine l_step rfl (o_val F (r_extract F rfl rfl) rfl ?_); clear F a; intro a F
    refine l_step rfl (o_val F (r_extract F rfl rfl) rfl ?_); clear F a; intro a F
    refine l_step rfl (o_alloc M F zer_State rfl ?_); clear F a; intro a W3 b1 M F
    refine l_step rfl (o_storeA M F rfl rfl agg_State.size (by repeat (first | exact Upd.here _ _ _ _ _ | apply Upd.there)) (by rfl) (by rfl) (by rfl) ?_); clear F a; intro a W4 M F
    refine l_step rfl (o_val F (r_assign F rfl) rfl ?_); clear F a; intro a F
    refine l_nil ?_
    refine hK7 _ _ ?_
    refine c_seq (fun K8 hK8 => ?_)
    refine wp_region_lit ?_
    refine l_step rfl (o_val F (r_load M F rfl (by repeat (first | exact List.mem_cons_self | apply List.mem_cons_of_mem)) agg_State (seg_all rfl)) rfl ?_); clear F a; intro a F
    refine l_step rfl (o_call M F rfl (c_pglog_Head M.imm hl) rfl ?_); clear F a; intro a W5 v5 G5 hp5 M E5 F
    have hl := hl.mono E5.gl
    have hd := hd.mono E5.gl
    subst hp5
    simp only [head_ok hok] at F
    refine l_step rfl (o_val F (r_move F rfl) rfl ?_); clear F a; intro a F
    refine l_step rfl (o_val F (r_extract F rfl rfl) rfl ?_); clear F a; intro a F
    refine l_step rfl (o_val F (r_extract F rfl rfl) rfl ?_); clear F a; intro a F
    refine l_step rfl (o_val F (r_assign F rfl) rfl ?_); clear F a; intro a F
    refine l_step rfl (o_val F (r_assign F rfl) rfl ?_); clear F a; intro a F
    refine l_nil ?_
    refine hK8 _ _ ?_
    refine c_seq (fun K9 hK9 => ?_)
    refine c_drawM M [] mixed (fun M => ?_)
    have Ms := M
    have hq1 := Keeps.here M
    have hle1 := M.gle
    refine t_take (i := 0) F rfl rfl hq1 (fun _ _ => r_fieldAddr F rfl fld_State_2) (fun _ _ _ h => h) (by kernel_rfl) (by kernel_rfl) (by kernel_rfl) (by kernel_rfl) ?_; clear F a; intro a F
    refine t_take (i := 1) F rfl rfl hq1 (fun _ _ => r_fieldAddr F rfl fld_Entry_1) (fun _ _ _ h => h) (by kernel_rfl) (by kernel_rfl) (by kernel_rfl) (by kernel_rfl) ?_; clear F a; intro a F
    refine t_take (i := 2) F rfl rfl hq1 (fun _ ⟨_, _, M'⟩ => r_load1 M' F rfl (by repeat (first | exact List.mem_cons_self | apply List.mem_cons_of_mem)) sca_u32 rfl) (fun _ _ _ h => h) (by kernel_rfl) (by kernel_rfl) (by kernel_rfl) (by kernel_rfl) ?_; clear F a; intro a F
    refine t_take (i := 3) F rfl rfl hq1 (fun _ _ => r_move F rfl) (fun _ _ _ h => h) (by kernel_rfl) (by kernel_rfl) (by kernel_rfl) (by kernel_rfl) ?_; clear F a; intro a F
    refine t_take (i := 4) F rfl rfl hq1 (fun _ _ => r_conv_u8_u32 F und_u8 und_u32 rfl) (fun _ _ _ h => h) (by kernel_rfl) (by kernel_rfl) (by kernel_rfl) (by kernel_rfl) ?_; clear F a; intro a F
    refine t_take (i := 5) F rfl rfl hq1 (fun _ _ => r_move F rfl) (fun _ _ _ h => h) (by kernel_rfl) (by kernel_rfl) (by kernel_rfl) (by kernel_rfl) ?_; clear F a; intro a F
    refine t_take (i := 6) F rfl rfl hq1 (fun _ _ => r_fieldAddr F rfl fld_State_2) (fun _ _ _ h => h) (by kernel_rfl) (by kernel_rfl) (by kernel_rfl) (by kernel_rfl) ?_; clear F a; intro a F
    refine t_take (i := 7) F rfl rfl hq1 (fun _ _ => r_fieldAddr F rfl fld_Entry_1) (fun _ _ _ h => h) (by kernel_rfl) (by kernel_rfl) (by kernel_rfl) (by kernel_rfl) ?_; clear F a; intro a F
    refine t_take (i := 8) F rfl rfl hq1 (fun _ ⟨_, _, M'⟩ => r_load1 M' F rfl (by repeat (first | exact List.mem_cons_self | apply List.mem_cons_of_mem)) sca_u32 rfl) (fun _ _ _ h => h) (by kernel_rfl) (by kernel_rfl) (by kernel_rfl) (by kernel_rfl) ?_; clear F a; intro a F
    refine t_take (i := 9) F rfl rfl hq1 (fun _ _ => r_sub_u32 F rfl rfl) (fun _ _ _ h => h) (by kernel_rfl) (by kernel_rfl) (by kernel_rfl) (by kernel_rfl) ?_; clear F a; intro a F
    refine t_take (i := 10) F rfl rfl hq1 (fun _ _ => r_add_u32 F (y := 1) rfl rfl) (fun _ _ _ h => h) (by kernel_rfl) (by kernel_rfl) (by kernel_rfl) (by kernel_rfl) ?_; clear F a; intro a F
    refine t_take (i := 11) F rfl rfl hq1 (fun _ _ => r_rem_u32 F rfl rfl (span_ne hok)) (fun _ _ _ h => h) (by kernel_rfl) (by kernel_rfl) (by kernel_rfl) (by kernel_rfl) ?_; clear F a; intro a F
    refine t_take (i := 12) F rfl rfl hq1 (fun _ _ => r_add_u32 F rfl rfl) (fun _ _ _ h => h) (by kernel_rfl) (by kernel_rfl) (by kernel_rfl) (by kernel_rfl) ?_; clear F a; intro a F
    generalize hx : (r.1.at l).tail.n + c.toUInt32 % ((lastE r.1).n - (r.1.at l).tail.n + 1) = x at F
    have hx1 := span_x hok hx
    have C1 := cut_eq hok hx1.1 hx1.2
    have T1 := tail_eq hok hx1.1 hx1.2
    have U1 := upto_eq hok hx1.1 hx1.2
    have hcb := cuts_base hes hx1.1
    have hoa := ok_cut hok (x.toNat - r.1.tail.n.toNat)
    have hot := ok_folded hok (x.toNat - r.1.tail.n.toNat)
    have hth := tail_head hok hx1.1 hx1.2
    refine t_take (i := 13) F rfl rfl hq1 (fun _ _ => r_assign F rfl) (fun _ _ _ h => h) (by kernel_rfl) (by kernel_rfl) (by kernel_rfl) (by kernel_rfl) ?_; clear F a; intro a F
    refine t_done (by kernel_rfl) ?_ _
    refine hK9 _ _ ?_
    refine c_seq (fun K10 hK10 => ?_)
    refine wp_region_lit ?_
    refine l_step rfl (o_val F (r_load M F rfl (by repeat (first | exact List.mem_cons_self | apply List.mem_cons_of_mem)) agg_State (seg_all rfl)) rfl ?_); clear F a; intro a F
    refine l_step rfl (o_val F (r_move F rfl) rfl ?_); clear F a; intro a F
    refine l_step rfl (o_call M F rfl (c_pglog_Cut M.imm hl) rfl ?_); clear F a; intro a W6 v6 G6 hp6 M E6 F
    have hl := hl.mono E6.gl
    have hd := hd.mono E6.gl
    obtain ⟨l1, rfl, hl1⟩ := hp6
    simp only [C1] at F hl1
    refine l_step rfl (o_val F (r_move F rfl) rfl ?_); clear F a; intro a F
    refine l_step rfl (o_val F (r_extract F rfl rfl) rfl ?_); clear F a; intro a F
    refine l_step rfl (o_val F (r_extract F rfl rfl) rfl ?_); clear F a; intro a F
    refine l_step rfl (o_alloc M F zer_State rfl ?_); clear F a; intro a W7 b2 M F
    refine l_step rfl (o_storeA M F rfl rfl agg_State.size (by repeat (first | exact Upd.here _ _ _ _ _ | apply Upd.there)) (by rfl) (by rfl) (by rfl) ?_); clear F a; intro a W8 M F
    refine l_step rfl (o_val F (r_assign F rfl) rfl ?_); clear F a; intro a F
    refine l_nil ?_
    refine hK10 _ _ ?_
    refine c_seq (fun K11 hK11 => ?_)
    refine wp_region_lit ?_
    refine l_step rfl (o_val F (r_load M F rfl (by repeat (first | exact List.mem_cons_self | apply List.mem_cons_of_mem)) agg_State (seg_all rfl)) rfl ?_); clear F a; intro a F
    refine l_step rfl (o_val F (r_move F rfl) rfl ?_); clear F a; intro a F
    refine l_step rfl (o_call M F rfl (c_pglog_Tail M.imm hl) rfl ?_); clear F a; intro a W9 v9 G9 hp9 M E9 F
    have hl := hl.mono E9.gl
    have hd := hd.mono E9.gl
    have hl1 := hl1.mono E9.gl
    obtain ⟨l2, rfl, hl2⟩ := hp9
    simp only [T1] at F hl2
    refine l_step rfl (o_val F (r_move F rfl) rfl ?_); clear F a; intro a F
    refine l_step rfl (o_val F (r_extract F rfl rfl) rfl ?_); clear F a; intro a F
    refine l_step rfl (o_val F (r_extract F rfl rfl) rfl ?_); clear F a; intro a F
    refine l_step rfl (o_alloc M F zer_State rfl ?_); clear F a; intro a W10 b3 M F
    refine l_step rfl (o_storeA M F rfl rfl agg_State.size (by repeat (first | exact Upd.here _ _ _ _ _ | apply Upd.there)) (by rfl) (by rfl) (by rfl) ?_); clear F a; intro a W11 M F
    refine l_step rfl (o_val F (r_assign F rfl) rfl ?_); clear F a; intro a F
    refine l_nil ?_
    refine hK11 _ _ ?_
    refine c_seq (fun K12 hK12 => ?_)
    refine wp_region_lit ?_
    refine l_step rfl (o_val F (r_load M F rfl (by repeat (first | exact List.mem_cons_self | apply List.mem_cons_of_mem)) agg_State (seg_all rfl)) rfl ?_); clear F a; intro a F
    refine l_step rfl (o_val F (r_move F rfl) rfl ?_); clear F a; intro a F
    refine l_step rfl (o_call M F rfl (c_pglog_Upto M.imm hl) rfl ?_); clear F a; intro a W12 v12 G12 hp12 M E12 F
    have hl := hl.mono E12.gl
    have hd := hd.mono E12.gl
    have hl1 := hl1.mono E12.gl
    have hl2 := hl2.mono E12.gl
    subst hp12
    simp only [U1] at F
    refine l_step rfl (o_val F (r_move F rfl) rfl ?_); clear F a; intro a F
    refine l_step rfl (o_val F (r_extract F rfl rfl) rfl ?_); clear F a; intro a F
    refine l_step rfl (o_val F (r_extract F rfl rfl) rfl ?_); clear F a; intro a F
    refine l_step rfl (o_alloc M F zer_Base rfl ?_); clear F a; intro a W13 b4 M F
    refine l_step rfl (o_storeA M F rfl rfl agg_Base.size (by repeat (first | exact Upd.here _ _ _ _ _ | apply Upd.there)) (by rfl) (by rfl) (by rfl) ?_); clear F a; intro a W14 M F
    refine l_step rfl (o_val F (r_assign F rfl) rfl ?_); clear F a; intro a F
    refine l_nil ?_
    refine hK12 _ _ ?_
    refine c_seq (fun K13 hK13 => ?_)
    refine wp_region_lit ?_
    refine l_step rfl (o_val F (r_build F rfl b_Base) rfl ?_); clear F a; intro a F
    refine l_step rfl (o_val F (r_move F rfl) rfl ?_); clear F a; intro a F
    refine l_step rfl (o_val F (r_move F rfl) rfl ?_); clear F a; intro a F
    refine l_step rfl (o_val F (r_slice_to F slc_Ops rfl rfl (by omega) (by have h := hd.len; have h2 := hd.rd.cap; omega)) rfl ?_); clear F a; intro a F
    refine l_step rfl (o_call M F rfl (c_objects_All (b := PBase.zero) (ops := r.2.take x.toNat) M.imm (base_few (by decide)) (by have h := hd.cut (i := 0) (j := x.toNat) (by omega) (by omega); simp only [List.drop_zero, Nat.sub_zero] at h; exact h) (by rw [List.length_take]; have h := of_decide_eq_false g30; omega)) rfl ?_); clear F a; intro a W15 v15 G15 hp15 M E15 F
    have hl := hl.mono E15.gl
    have hd := hd.mono E15.gl
    have hl1 := hl1.mono E15.gl
    have hl2 := hl2.mono E15.gl
    obtain ⟨dr, rfl, hdr⟩ := hp15
    simp only [← hcb] at F
    refine l_step rfl (o_val F (r_move F rfl) rfl ?_); clear F a; intro a F
    refine l_step rfl (o_val F (r_extract F rfl rfl) rfl ?_); clear F a; intro a F
    refine l_step rfl (o_val F (r_extract F rfl rfl) rfl ?_); clear F a; intro a F
    refine l_step rfl (o_alloc M F zer_Base rfl ?_); clear F a; intro a W16 b5 M F
    refine l_step rfl (o_storeA M F rfl rfl agg_Base.size (by repeat (first | exact Upd.here _ _ _ _ _ | apply Upd.there)) (by rfl) (by rfl) (by rfl) ?_); clear F a; intro a W17 M F
    refine l_step rfl (o_val F (r_assign F rfl) rfl ?_); clear F a; intro a F
    refine l_nil ?_
    refine hK13 _ _ ?_
    refine c_seq (fun K14 hK14 => ?_)
    refine wp_region_lit ?_
    refine l_step rfl (o_val F (r_load M F rfl (by repeat (first | exact List.mem_cons_self | apply List.mem_cons_of_mem)) agg_State (seg_all rfl)) rfl ?_); clear F a; intro a F
    refine l_step rfl (o_call M F rfl (c_pglog_Head M.imm hl1) rfl ?_); clear F a; intro a W18 v18 G18 hp18 M E18 F
    have hl := hl.mono E18.gl
    have hd := hd.mono E18.gl
    have hl1 := hl1.mono E18.gl
    have hl2 := hl2.mono E18.gl
    subst hp18
    simp only [head_ok hoa, cut_head hok hx1.1 hx1.2] at F
    refine l_step rfl (o_val F (r_move F rfl) rfl ?_); clear F a; intro a F
    refine l_step rfl (o_val F (r_extract F rfl rfl) rfl ?_); clear F a; intro a F
    refine l_step rfl (o_val F (r_extract F rfl rfl) rfl ?_); clear F a; intro a F
    refine l_step rfl (o_val F (r_assign F rfl) rfl ?_); clear F a; intro a F
    refine l_step rfl (o_val F (r_assign F rfl) rfl ?_); clear F a; intro a F
    refine l_nil ?_
    refine hK14 _ _ ?_
    refine c_seq (fun K15 hK15 => ?_)
    refine wp_region_lit ?_
    refine l_step rfl (o_val F (r_load M F rfl (by repeat (first | exact List.mem_cons_self | apply List.mem_cons_of_mem)) agg_State (seg_all rfl)) rfl ?_); clear F a; intro a F
    refine l_step rfl (o_call M F rfl (c_pglog_Head M.imm hl2) rfl ?_); clear F a; intro a W19 v19 G19 hp19 M E19 F
    have hl := hl.mono E19.gl
    have hd := hd.mono E19.gl
    have hl1 := hl1.mono E19.gl
    have hl2 := hl2.mono E19.gl
    subst hp19
    simp only [head_ok hot, (last_folded _).1] at F
    refine l_step rfl (o_val F (r_move F rfl) rfl ?_); clear F a; intro a F
    refine l_step rfl (o_val F (r_extract F rfl rfl) rfl ?_); clear F a; intro a F
    refine l_step rfl (o_val F (r_extract F rfl rfl) rfl ?_); clear F a; intro a F
    refine l_step rfl (o_val F (r_assign F rfl) rfl ?_); clear F a; intro a F
    refine l_step rfl (o_val F (r_assign F rfl) rfl ?_); clear F a; intro a F
    refine l_nil ?_
    refine hK15 _ _ ?_
    refine c_seq (fun K16 hK16 => ?_)
    refine c_seq (fun K17 hK17 => ?_)
    refine c_drawM M [] mixed (fun M => ?_)
    have Ms := M
    have hq2 := Keeps.here M
    have hle2 := M.gle
    refine t_take (i := 0) F rfl rfl hq2 (fun _ _ => r_move F rfl) (fun _ _ _ h => h) (by kernel_rfl) (by kernel_rfl) (by kernel_rfl) (by kernel_rfl) ?_; clear F a; intro a F
    refine t_take (i := 1) F rfl rfl hq2 (fun _ _ => r_neq_i64 F rfl rfl) (fun _ _ _ h => h) (by kernel_rfl) (by kernel_rfl) (by kernel_rfl) (by kernel_rfl) ?_; clear F a; intro a F
    refine t_take (i := 2) F rfl rfl hq2 (fun _ _ => r_move F rfl) (fun _ _ _ h => h) (by kernel_rfl) (by kernel_rfl) (by kernel_rfl) (by kernel_rfl) ?_; clear F a; intro a F
    refine t_takeg (i := 3) F rfl rfl rfl rfl rfl hq2 (fun _ _ => r_move F rfl) (fun _ _ _ h => h) (by kernel_rfl) (by kernel_rfl) (by kernel_rfl) (by kernel_rfl) ?_; clear F a; intro a F
    refine t_takeg (i := 4) F rfl rfl rfl rfl rfl hq2 (fun _ _ => r_neq_i64 F rfl rfl) (fun _ _ _ h => h) (by kernel_rfl) (by kernel_rfl) (by kernel_rfl) (by kernel_rfl) ?_; clear F a; intro a F
    refine t_take (i := 5) F rfl rfl hq2 (fun _ _ => r_pick_f F rfl rfl rfl) (fun _ _ _ h => h) (by kernel_rfl) (by kernel_rfl) (by kernel_rfl) (by kernel_rfl) ?_; clear F a; intro a F
    refine t_take (i := 6) F rfl rfl hq2 (fun _ _ => r_move F rfl) (fun _ _ _ h => h) (by kernel_rfl) (by kernel_rfl) (by kernel_rfl) (by kernel_rfl) ?_; clear F a; intro a F
    refine t_takeg (i := 7) F rfl rfl rfl rfl rfl hq2 (fun _ _ => r_move F rfl) (fun _ _ _ h => h) (by kernel_rfl) (by kernel_rfl) (by kernel_rfl) (by kernel_rfl) ?_; clear F a; intro a F
    refine t_takeg (i := 8) F rfl rfl rfl rfl rfl hq2 (fun _ _ => r_not F rfl) (fun _ _ _ h => h) (by kernel_rfl) (by kernel_rfl) (by kernel_rfl) (by kernel_rfl) ?_; clear F a; intro a F
    refine t_take (i := 9) F rfl rfl hq2 (fun _ _ => r_pick_f F rfl rfl rfl) (fun _ _ _ h => h) (by kernel_rfl) (by kernel_rfl) (by kernel_rfl) (by kernel_rfl) ?_; clear F a; intro a F
    refine t_take (i := 10) F rfl rfl hq2 (fun _ _ => r_move F rfl) (fun _ _ _ h => h) (by kernel_rfl) (by kernel_rfl) (by kernel_rfl) (by kernel_rfl) ?_; clear F a; intro a F
    refine t_takeg (i := 11) F rfl rfl rfl rfl rfl hq2 (fun _ _ => r_move F rfl) (fun _ _ _ h => h) (by kernel_rfl) (by kernel_rfl) (by kernel_rfl) (by kernel_rfl) ?_; clear F a; intro a F
    refine t_takeg (i := 12) F rfl rfl rfl rfl rfl hq2 (fun _ _ => r_move F rfl) (fun _ _ _ h => h) (by kernel_rfl) (by kernel_rfl) (by kernel_rfl) (by kernel_rfl) ?_; clear F a; intro a F
    refine t_takeg (i := 13) F rfl rfl rfl rfl rfl hq2 (fun _ _ => r_neq_u32 F rfl rfl) (fun _ _ _ h => h) (by kernel_rfl) (by kernel_rfl) (by kernel_rfl) (by kernel_rfl) ?_; clear F a; intro a F
    refine t_take (i := 14) F rfl rfl hq2 (fun _ _ => r_pick_f F rfl rfl rfl) (fun _ _ _ h => h) (by kernel_rfl) (by kernel_rfl) (by kernel_rfl) (by kernel_rfl) ?_; clear F a; intro a F
    refine t_take (i := 15) F rfl rfl hq2 (fun _ _ => r_move F rfl) (fun _ _ _ h => h) (by kernel_rfl) (by kernel_rfl) (by kernel_rfl) (by kernel_rfl) ?_; clear F a; intro a F
    refine t_takeg (i := 16) F rfl rfl rfl (by simp) rfl hq2 (fun _ _ => r_move F rfl) (fun _ _ _ h => h) (by kernel_rfl) (by kernel_rfl) (by kernel_rfl) (by kernel_rfl) ?_; clear F a; intro a F
    refine t_takeg (i := 17) F rfl rfl rfl (by simp) rfl hq2 (fun _ _ => r_move F rfl) (fun _ _ _ h => h) (by kernel_rfl) (by kernel_rfl) (by kernel_rfl) (by kernel_rfl) ?_; clear F a; intro a F
    refine t_takeg (i := 18) F rfl rfl rfl (by simp) rfl hq2 (fun _ _ => r_neq_u32 F rfl rfl) (fun _ _ _ h => h) (by kernel_rfl) (by kernel_rfl) (by kernel_rfl) (by kernel_rfl) ?_; clear F a; intro a F
    refine t_take (i := 19) F rfl rfl hq2 (fun _ _ => r_pick_f F rfl (by simp) rfl) (fun _ _ _ h => h) (by kernel_rfl) (by kernel_rfl) (by kernel_rfl) (by kernel_rfl) ?_; clear F a; intro a F
    refine t_take (i := 20) F rfl rfl hq2 (fun _ _ => r_move F rfl) (fun _ _ _ h => h) (by kernel_rfl) (by kernel_rfl) (by kernel_rfl) (by kernel_rfl) ?_; clear F a; intro a F
    refine t_takeg (i := 21) F rfl rfl rfl (by simp) rfl hq2 (fun _ ⟨_, _, M'⟩ => r_load M' F rfl (by repeat (first | exact List.mem_cons_self | apply List.mem_cons_of_mem)) agg_Base (seg_all rfl)) (fun _ _ _ h => h) (by kernel_rfl) (by kernel_rfl) (by kernel_rfl) (by kernel_rfl) ?_; clear F a; intro a F
    refine t_takeg (i := 22) F rfl rfl rfl (by simp) rfl hq2 (fun _ ⟨_, _, M'⟩ => r_load M' F rfl (by repeat (first | exact List.mem_cons_self | apply List.mem_cons_of_mem)) agg_Base (seg_all rfl)) (fun _ _ _ h => h) (by kernel_rfl) (by kernel_rfl) (by kernel_rfl) (by kernel_rfl) ?_; clear F a; intro a F
    refine t_takeg (i := 23) F rfl rfl rfl (by simp) rfl hq2 (fun _ _ => r_neq_Base F rfl rfl) (fun _ _ _ h => h) (by kernel_rfl) (by kernel_rfl) (by kernel_rfl) (by kernel_rfl) ?_; clear F a; intro a F
    refine t_take (i := 24) F rfl rfl hq2 (fun _ _ => r_pick_f F rfl (by simp) rfl) (fun _ _ _ h => h) (by kernel_rfl) (by kernel_rfl) (by kernel_rfl) (by kernel_rfl) ?_; clear F a; intro a F
    refine t_take (i := 25) F rfl rfl hq2 (fun _ _ => r_move F rfl) (fun _ _ _ h => h) (by kernel_rfl) (by kernel_rfl) (by kernel_rfl) (by kernel_rfl) ?_; clear F a; intro a F
    refine t_takeg (i := 26) F rfl rfl rfl (by simp) rfl hq2 (fun _ ⟨_, _, M'⟩ => r_load M' F rfl (by repeat (first | exact List.mem_cons_self | apply List.mem_cons_of_mem)) agg_State (seg_all rfl)) (fun _ _ _ h => h) (by kernel_rfl) (by kernel_rfl) (by kernel_rfl) (by kernel_rfl) ?_; clear F a; intro a F
    refine t_takeg (i := 28) F rfl rfl rfl (by simp) rfl hq2 (fun _ ⟨_, _, M'⟩ => r_load M' F rfl (by repeat (first | exact List.mem_cons_self | apply List.mem_cons_of_mem)) agg_Base (seg_all rfl)) (fun _ _ _ h => h) (by kernel_rfl) (by kernel_rfl) (by kernel_rfl) (by kernel_rfl) ?_; clear F a; intro a F
    refine t_oneg (i := 27) F (by kernel_rfl) rfl rfl rfl rfl (by simp) (o_call M F rfl (c_pglog_Fold M.imm hl1) rfl ?_); clear F a; intro a W20 v20 G20 hp20 M E20 F
    have hl := hl.mono E20.gl
    have hd := hd.mono E20.gl
    have hl1 := hl1.mono E20.gl
    have hl2 := hl2.mono E20.gl
    subst hp20
    simp only [fold_ok hoa] at F
    have hle2 := hle2.trans E20.gl
    refine keepAnd (Keeps.mk hle2 M (by repeat (first | exact List.Sublist.refl _ | apply List.Sublist.cons_cons | apply List.Sublist.cons))) (fun hq2 => ?_)
    refine t_takeg (i := 29) F rfl rfl rfl (by simp) rfl hq2 (fun _ _ => r_neq_Base F rfl rfl) (fun _ _ _ h => h) (by kernel_rfl) (by kernel_rfl) (by kernel_rfl) (by kernel_rfl) ?_; clear F a; intro a F
    refine t_take (i := 30) F rfl rfl hq2 (fun _ _ => r_pick_f F rfl (by simp) rfl) (fun _ _ _ h => h) (by kernel_rfl) (by kernel_rfl) (by kernel_rfl) (by kernel_rfl) ?_; clear F a; intro a F
    refine t_take (i := 31) F rfl rfl hq2 (fun _ _ => r_move F rfl) (fun _ _ _ h => h) (by kernel_rfl) (by kernel_rfl) (by kernel_rfl) (by kernel_rfl) ?_; clear F a; intro a F
    refine t_takeg (i := 32) F rfl rfl rfl (by simp [pAll]) rfl hq2 (fun _ ⟨_, _, M'⟩ => r_load M' F rfl (by repeat (first | exact List.mem_cons_self | apply List.mem_cons_of_mem)) agg_State (seg_all rfl)) (fun _ _ _ h => h) (by kernel_rfl) (by kernel_rfl) (by kernel_rfl) (by kernel_rfl) ?_; clear F a; intro a F
    refine t_takeg (i := 34) F rfl rfl rfl (by simp [pAll]) rfl hq2 (fun _ ⟨_, _, M'⟩ => r_load M' F rfl (by repeat (first | exact List.mem_cons_self | apply List.mem_cons_of_mem)) agg_State (seg_all rfl)) (fun _ _ _ h => h) (by kernel_rfl) (by kernel_rfl) (by kernel_rfl) (by kernel_rfl) ?_; clear F a; intro a F
    refine t_oneg (i := 33) F (by kernel_rfl) rfl rfl rfl rfl (by simp [pAll]) (o_call M F rfl (c_pglog_Fold M.imm hl2) rfl ?_); clear F a; intro a W21 v21 G21 hp21 M E21 F
    have hl := hl.mono E21.gl
    have hd := hd.mono E21.gl
    have hl1 := hl1.mono E21.gl
    have hl2 := hl2.mono E21.gl
    subst hp21
    simp only [fold_ok hot, all_folded] at F
    have hle2 := hle2.trans E21.gl
    refine keepAnd (Keeps.mk hle2 M (by repeat (first | exact List.Sublist.refl _ | apply List.Sublist.cons_cons | apply List.Sublist.cons))) (fun hq2 => ?_)
    refine t_oneg (i := 35) F (by kernel_rfl) rfl rfl rfl rfl (by simp [pAll]) (o_call M F rfl (c_pglog_Fold M.imm hl) rfl ?_); clear F a; intro a W22 v22 G22 hp22 M E22 F
    have hl := hl.mono E22.gl
    have hd := hd.mono E22.gl
    have hl1 := hl1.mono E22.gl
    have hl2 := hl2.mono E22.gl
    subst hp22
    simp only [fold_ok hok] at F
    have hle2 := hle2.trans E22.gl
    refine keepAnd (Keeps.mk hle2 M (by repeat (first | exact List.Sublist.refl _ | apply List.Sublist.cons_cons | apply List.Sublist.cons))) (fun hq2 => ?_)
    refine t_takeg (i := 36) F rfl rfl rfl (by simp [pAll]) rfl hq2 (fun _ _ => r_neq_Base F rfl rfl) (fun _ _ _ h => h) (by kernel_rfl) (by kernel_rfl) (by kernel_rfl) (by kernel_rfl) ?_; clear F a; intro a F
    refine t_take (i := 37) F rfl rfl hq2 (fun _ _ => r_pick_f F rfl (by simp [pAll]) rfl) (fun _ _ _ h => h) (by kernel_rfl) (by kernel_rfl) (by kernel_rfl) (by kernel_rfl) ?_; clear F a; intro a F
    refine t_take (i := 38) F rfl rfl hq2 (fun _ _ => r_move F rfl) (fun _ _ _ h => h) (by kernel_rfl) (by kernel_rfl) (by kernel_rfl) (by kernel_rfl) ?_; clear F a; intro a F
    refine t_takeg (i := 39) F rfl rfl rfl (by simp) rfl hq2 (fun _ _ => r_fieldAddr F rfl fld_State_2) (fun _ _ _ h => h) (by kernel_rfl) (by kernel_rfl) (by kernel_rfl) (by kernel_rfl) ?_; clear F a; intro a F
    refine t_takeg (i := 40) F rfl rfl rfl (by simp) rfl hq2 (fun _ _ => r_fieldAddr F rfl fld_Entry_1) (fun _ _ _ h => h) (by kernel_rfl) (by kernel_rfl) (by kernel_rfl) (by kernel_rfl) ?_; clear F a; intro a F
    refine t_takeg (i := 41) F rfl rfl rfl (by simp) rfl hq2 (fun _ ⟨_, _, M'⟩ => r_load1 M' F rfl (by repeat (first | exact List.mem_cons_self | apply List.mem_cons_of_mem)) sca_u32 rfl) (fun _ _ _ h => h) (by kernel_rfl) (by kernel_rfl) (by kernel_rfl) (by kernel_rfl) ?_; clear F a; intro a F
    refine t_takeg (i := 42) F rfl rfl rfl (by simp) rfl hq2 (fun _ _ => r_move F rfl) (fun _ _ _ h => h) (by kernel_rfl) (by kernel_rfl) (by kernel_rfl) (by kernel_rfl) ?_; clear F a; intro a F
    refine t_takeg (i := 43) F rfl rfl rfl (by simp) rfl hq2 (fun _ _ => r_neq_u32 F rfl rfl) (fun _ _ _ h => h) (by kernel_rfl) (by kernel_rfl) (by kernel_rfl) (by kernel_rfl) ?_; clear F a; intro a F
    refine t_take (i := 44) F rfl rfl hq2 (fun _ _ => r_pick_f F rfl (by simp) rfl) (fun _ _ _ h => h) (by kernel_rfl) (by kernel_rfl) (by kernel_rfl) (by kernel_rfl) ?_; clear F a; intro a F
    refine t_take (i := 45) F rfl rfl hq2 (fun _ _ => r_move F rfl) (fun _ _ _ h => h) (by kernel_rfl) (by kernel_rfl) (by kernel_rfl) (by kernel_rfl) ?_; clear F a; intro a F
    refine t_takeg (i := 46) F rfl rfl rfl (by have h := hth; simp [h]) rfl hq2 (fun _ _ => r_fieldAddr F rfl fld_State_1) (fun _ _ _ h => h) (by kernel_rfl) (by kernel_rfl) (by kernel_rfl) (by kernel_rfl) ?_; clear F a; intro a F
    refine t_takeg (i := 47) F rfl rfl rfl (by have h := hth; simp [h]) rfl hq2 (fun _ ⟨_, _, M'⟩ => r_load M' F rfl (by repeat (first | exact List.mem_cons_self | apply List.mem_cons_of_mem)) agg_Base g_State_1) (fun _ _ _ h => h) (by kernel_rfl) (by kernel_rfl) (by kernel_rfl) (by kernel_rfl) ?_; clear F a; intro a F
    refine t_takeg (i := 48) F rfl rfl rfl (by have h := hth; simp [h]) rfl hq2 (fun _ ⟨_, _, M'⟩ => r_load M' F rfl (by repeat (first | exact List.mem_cons_self | apply List.mem_cons_of_mem)) agg_Base (seg_all rfl)) (fun _ _ _ h => h) (by kernel_rfl) (by kernel_rfl) (by kernel_rfl) (by kernel_rfl) ?_; clear F a; intro a F
    refine t_takeg (i := 49) F rfl rfl rfl (by have h := hth; simp [h]) rfl hq2 (fun _ _ => r_neq_Base F rfl rfl) (fun _ _ _ h => h) (by kernel_rfl) (by kernel_rfl) (by kernel_rfl) (by kernel_rfl) ?_; clear F a; intro a F
    refine t_take (i := 50) F rfl rfl hq2 (fun _ _ => r_pick_f F rfl (by have h := hth; simp [h]) rfl) (fun _ _ _ h => h) (by kernel_rfl) (by kernel_rfl) (by kernel_rfl) (by kernel_rfl) ?_; clear F a; intro a F
    refine t_done (by kernel_rfl) ?_ _
    refine hK17 _ _ ?_
    refine c_false F rfl (by rw [folded_eq]; simp) ?_
    refine wp_skip ?_
    refine hK16 _ _ ?_
    refine c_seq (fun K18 hK18 => ?_)
    refine wp_region_lit ?_
    refine l_step rfl (o_val F (r_load M F rfl (by repeat (first | exact List.mem_cons_self | apply List.mem_cons_of_mem)) agg_State (seg_all rfl)) rfl ?_); clear F a; intro a F
    refine l_step rfl (o_val F (r_move F rfl) rfl ?_); clear F a; intro a F
    refine l_step rfl (o_val F (r_add_u32 F (y := 1) rfl rfl) rfl ?_); clear F a; intro a F
    refine l_step rfl (o_call M F rfl (c_pglog_Cut M.imm hl) rfl ?_); clear F a; intro a W23 v23 G23 hp23 M E23 F
    have hl := hl.mono E23.gl
    have hd := hd.mono E23.gl
    have hl1 := hl1.mono E23.gl
    have hl2 := hl2.mono E23.gl
    obtain ⟨l3, rfl, hl3⟩ := hp23
    simp only [past_cut hok hbd] at F
    refine l_step rfl (o_val F (r_move F rfl) rfl ?_); clear F a; intro a F
    refine l_step rfl (o_val F (r_extract F rfl rfl) rfl ?_); clear F a; intro a F
    refine l_step rfl (o_val F (r_extract F rfl rfl) rfl ?_); clear F a; intro a F
    refine l_step rfl (o_alloc M F zer_State rfl ?_); clear F a; intro a W24 b6 M F
    refine l_step rfl (o_storeA M F rfl rfl agg_State.size (by repeat (first | exact Upd.here _ _ _ _ _ | apply Upd.there)) (by rfl) (by rfl) (by rfl) ?_); clear F a; intro a W25 M F
    refine l_step rfl (o_val F (r_assign F rfl) rfl ?_); clear F a; intro a F
    refine l_nil ?_
    refine hK18 _ _ ?_
    refine c_seq (fun K19 hK19 => ?_)
    refine wp_region_lit ?_
    refine l_step rfl (o_val F (r_load M F rfl (by repeat (first | exact List.mem_cons_self | apply List.mem_cons_of_mem)) agg_State (seg_all rfl)) rfl ?_); clear F a; intro a F
    refine l_step rfl (o_val F (r_move F rfl) rfl ?_); clear F a; intro a F
    refine l_step rfl (o_val F (r_add_u32 F (y := 1) rfl rfl) rfl ?_); clear F a; intro a F
    refine l_step rfl (o_call M F rfl (c_pglog_Tail M.imm hl) rfl ?_); clear F a; intro a W26 v26 G26 hp26 M E26 F
    have hl := hl.mono E26.gl
    have hd := hd.mono E26.gl
    have hl1 := hl1.mono E26.gl
    have hl2 := hl2.mono E26.gl
    obtain ⟨l4, rfl, hl4⟩ := hp26
    simp only [past_tail hok hbd] at F
    refine l_step rfl (o_val F (r_move F rfl) rfl ?_); clear F a; intro a F
    refine l_step rfl (o_val F (r_extract F rfl rfl) rfl ?_); clear F a; intro a F
    refine l_step rfl (o_val F (r_extract F rfl rfl) rfl ?_); clear F a; intro a F
    refine l_step rfl (o_alloc M F zer_State rfl ?_); clear F a; intro a W27 b7 M F
    refine l_step rfl (o_storeA M F rfl rfl agg_State.size (by repeat (first | exact Upd.here _ _ _ _ _ | apply Upd.there)) (by rfl) (by rfl) (by rfl) ?_); clear F a; intro a W28 M F
    refine l_step rfl (o_val F (r_assign F rfl) rfl ?_); clear F a; intro a F
    refine l_nil ?_
    refine hK19 _ _ ?_
    refine c_seq (fun K20 hK20 => ?_)
    refine wp_region_lit ?_
    refine l_step rfl (o_val F (r_move F rfl) rfl ?_); clear F a; intro a F
    refine l_step rfl (o_val F (r_eql_i64 F rfl rfl) rfl ?_); clear F a; intro a F
    refine l_step rfl (o_val F (r_move F rfl) rfl ?_); clear F a; intro a F
    refine l_guard F rfl rfl rfl rfl (o_val F (r_move F rfl) rfl ?_); clear F a; intro a F
    refine l_guard F rfl rfl rfl rfl (o_val F (r_eql_i64 F rfl rfl) rfl ?_); clear F a; intro a F
    refine l_step rfl (o_val F (r_pick_t F rfl rfl rfl) rfl ?_); clear F a; intro a F
    refine l_step rfl (o_val F (r_move F rfl) rfl ?_); clear F a; intro a F
    refine l_guard F rfl rfl rfl rfl (o_val F (r_load M F rfl (by repeat (first | exact List.mem_cons_self | apply List.mem_cons_of_mem)) agg_State (seg_all rfl)) rfl ?_); clear F a; intro a F
    refine l_guard F rfl rfl rfl rfl (o_call M F rfl (c_pglog_Is M.imm hl1) rfl ?_); clear F a; intro a W29 v29 G29 hp29 M E29 F
    have hl := hl.mono E29.gl
    have hd := hd.mono E29.gl
    have hl1 := hl1.mono E29.gl
    have hl2 := hl2.mono E29.gl
    subst hp29
    refine l_step rfl (o_val F (r_pick_t F rfl rfl rfl) rfl ?_); clear F a; intro a F
    refine l_step rfl (o_val F (r_move F rfl) rfl ?_); clear F a; intro a F
    refine l_guard F rfl rfl rfl (ok_is hoa) (o_val F (r_load M F rfl (by repeat (first | exact List.mem_cons_self | apply List.mem_cons_of_mem)) agg_State (seg_all rfl)) rfl ?_); clear F a; intro a F
    refine l_guard F rfl rfl rfl (ok_is hoa) (o_call M F rfl (c_pglog_Is M.imm hl2) rfl ?_); clear F a; intro a W30 v30 G30 hp30 M E30 F
    have hl := hl.mono E30.gl
    have hd := hd.mono E30.gl
    have hl1 := hl1.mono E30.gl
    have hl2 := hl2.mono E30.gl
    subst hp30
    refine l_step rfl (o_val F (r_pick_t F rfl (ok_is hoa) rfl) rfl ?_); clear F a; intro a F
    refine l_step rfl (o_val F (r_assign F rfl) rfl ?_); clear F a; intro a F
    refine l_nil ?_
    refine hK20 _ _ ?_
    refine wp_ret ?_
    exact ret1 Try.results4 M F (rv_tmp F rfl) (congrArg Value.bool (ok_is hot))
end Go.Proofs.Ytfkmaepcjognkaa.Pad
