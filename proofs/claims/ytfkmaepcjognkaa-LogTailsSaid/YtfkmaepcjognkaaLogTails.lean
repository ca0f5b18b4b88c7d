/- The walk of LogTails: it answers true. The row is a slice of operations, whatever they are. -/
import Derived.Test.YtfkmaepcjognkaaT7
namespace Go.Proofs.Ytfkmaepcjognkaa.Pad
open Go Go.Proofs
set_option linter.unusedVariables false
set_option maxRecDepth 8000
set_option linter.unusedSimpArgs false
theorem c_paddocklaw7_LogTails {w : World} {G0 : Ghost} (hI : Imm G0 w) {lo : Sl} {ops : List POp} {c d : UInt8} {o : POp} (ho : Opl G0 lo ops) : Ret P 3 [lo.v, .int .u8 (c.toNat : Int), .int .u8 (d.toNat : Int), agg o.enc] [] w G0 (fun G W v => v = .bool true) := by
  refine enter Try.func3 rfl Try.ntmps3 rfl rfl hI (fun a F M => ?_)
  have hlen := ho.len
  refine c_seq (fun K1 hK1 => ?_)
  refine wp_region_lit ?_
  refine l_step rfl (o_box M F rfl rfl ?_); clear F a; intro a W1 b1 M F
  refine l_step rfl (o_val F (r_assign F rfl) rfl ?_); clear F a; intro a F
  refine l_nil ?_
  refine hK1 _ _ ?_
  refine c_seq (fun K2 hK2 => ?_)
  refine c_seq (fun K3 hK3 => ?_)
  refine wp_region_lit ?_
  refine l_step rfl (o_call M F rfl (c_paddocklaw7_known M.imm) rfl ?_); clear F a; intro a W2 v2 G2 hp2 M E2 F
  subst hp2
  refine l_step rfl (o_val F (r_not F rfl) rfl ?_); clear F a; intro a F
  refine l_nil ?_
  refine hK3 _ _ ?_
  refine c_false F rfl rfl ?_
  refine wp_skip ?_
  refine hK2 _ _ ?_
  refine c_seq (fun K4 hK4 => ?_)
  refine c_seq (fun K5 hK5 => ?_)
  refine wp_region_lit ?_
  refine l_step rfl (o_val F (r_move F rfl) rfl ?_); clear F a; intro a F
  refine l_step rfl (o_val F (r_len_slice F slc_Ops.und rfl) rfl ?_); clear F a; intro a F
  refine l_step rfl (o_val F (r_gtr_i64 F rfl rfl) rfl ?_); clear F a; intro a F
  refine l_nil ?_
  refine hK5 _ _ ?_
  refine c_cond F rfl (fun g32 => ?_) (fun g32 => ?_)
  · skip
    refine c_seq (fun K6 hK6 => ?_)
    refine wp_region_lit ?_
    refine l_step rfl (o_val F (r_assign F rfl) rfl ?_); clear F a; intro a F
    refine l_nil ?_
    refine hK6 _ _ ?_
    refine wp_ret ?_
    exact ret1 Try.results3 M F (rv_tmp F rfl) (rfl)
  · skip
    refine wp_skip ?_
    refine hK4 _ _ ?_
    refine c_seq (fun K7 hK7 => ?_)
    refine wp_region_lit ?_
    refine l_step rfl (o_val F (r_move F rfl) rfl ?_); clear F a; intro a F
    refine l_step rfl (o_call M F rfl (c_paddocklaw7_row (since := 1) M.imm (ho.mono M.gl) (by have h := of_decide_eq_false g32; omega)) rfl ?_); clear F a; intro a W3 v3 G3 hp3 M E3 F
    obtain ⟨l, dn, rfl, hl, hd⟩ := hp3
    have hok := row_ok ops 1
    generalize (pRow ops 1).1 = s at F hl hok
    refine l_step rfl (o_val F (r_move F rfl) rfl ?_); clear F a; intro a F
    refine l_step rfl (o_val F (r_extract F rfl rfl) rfl ?_); clear F a; intro a F
    refine l_step rfl (o_val F (r_extract F rfl rfl) rfl ?_); clear F a; intro a F
    refine l_step rfl (o_alloc M F zer_State rfl ?_); clear F a; intro a W4 b2 M F
    refine l_step rfl (o_storeA M F rfl rfl agg_State.size (by repeat (first | exact Upd.here _ _ _ _ _ | apply Upd.there)) (by rfl) (by rfl) (by rfl) ?_); clear F a; intro a W5 M F
    refine l_step rfl (o_val F (r_assign F rfl) rfl ?_); clear F a; intro a F
    refine l_nil ?_
    refine hK7 _ _ ?_
    refine c_seq (fun K8 hK8 => ?_)
    refine wp_region_lit ?_
    refine l_step rfl (o_val F (r_load M F rfl (by repeat (first | exact List.mem_cons_self | apply List.mem_cons_of_mem)) agg_State (seg_all rfl)) rfl ?_); clear F a; intro a F
    refine l_step rfl (o_call M F rfl (c_pglog_Head M.imm hl) rfl ?_); clear F a; intro a W6 v6 G6 hp6 M E6 F
    have hl := hl.mono E6.gl
    subst hp6
    simp only [head_ok hok] at F
    refine l_step rfl (o_val F (r_move F rfl) rfl ?_); clear F a; intro a F
    refine l_step rfl (o_val F (r_extract F rfl rfl) rfl ?_); clear F a; intro a F
    refine l_step rfl (o_val F (r_extract F rfl rfl) rfl ?_); clear F a; intro a F
    refine l_step rfl (o_val F (r_assign F rfl) rfl ?_); clear F a; intro a F
    refine l_step rfl (o_val F (r_assign F rfl) rfl ?_); clear F a; intro a F
    refine l_nil ?_
    refine hK8 _ _ ?_
    refine c_seq (fun K9 hK9 => ?_)
    refine wp_region_lit ?_
    refine l_step rfl (o_val F (r_move F rfl) rfl ?_); clear F a; intro a F
    refine l_step rfl (o_val F (r_fieldAddr F rfl fld_State_2) rfl ?_); clear F a; intro a F
    refine l_step rfl (o_val F (r_fieldAddr F rfl fld_Entry_1) rfl ?_); clear F a; intro a F
    refine l_step rfl (o_val F (r_load1 M F rfl (by repeat (first | exact List.mem_cons_self | apply List.mem_cons_of_mem)) sca_u32 rfl) rfl ?_); clear F a; intro a F
    refine l_step rfl (o_val F (r_sub_u32 F rfl rfl) rfl ?_); clear F a; intro a F
    refine l_step rfl (o_val F (r_add_u32 F (y := 1) rfl rfl) rfl ?_); clear F a; intro a F
    refine l_step rfl (o_val F (r_assign F rfl) rfl ?_); clear F a; intro a F
    refine l_nil ?_
    refine hK9 _ _ ?_
    refine c_seq (fun K10 hK10 => ?_)
    refine c_drawM M [] mixed (fun M => ?_)
    have Ms := M
    have hq1 := Keeps.here M
    have hle1 := M.gle
    refine t_take (i := 0) F rfl rfl hq1 (fun _ _ => r_fieldAddr F rfl fld_State_2) (fun _ _ _ h => h) (by kernel_rfl) (by kernel_rfl) (by kernel_rfl) (by kernel_rfl) ?_; clear F a; intro a F
    refine t_take (i := 1) F rfl rfl hq1 (fun _ _ => r_fieldAddr F rfl fld_Entry_1) (fun _ _ _ h => h) (by kernel_rfl) (by kernel_rfl) (by kernel_rfl) (by kernel_rfl) ?_; clear F a; intro a F
    refine t_take (i := 2) F rfl rfl hq1 (fun _ ⟨_, _, M'⟩ => r_load1 M' F rfl (by repeat (first | exact List.mem_cons_self | apply List.mem_cons_of_mem)) sca_u32 rfl) (fun _ _ _ h => h) (by kernel_rfl) (by kernel_rfl) (by kernel_rfl) (by kernel_rfl) ?_; clear F a; intro a F
    refine t_take (i := 3) F rfl rfl hq1 (fun _ _ => r_move F rfl) (fun _ _ _ h => h) (by kernel_rfl) (by kernel_rfl) (by kernel_rfl) (by kernel_rfl) ?_; clear F a; intro a F
    refine t_take (i := 4) F rfl rfl hq1 (fun _ _ => r_conv_u8_u32 F und_u8 und_u32 rfl) (fun _ _ _ h => h) (by kernel_rfl) (by kernel_rfl) (by kernel_rfl) (by kernel_rfl) ?_; clear F a; intro a F
    refine t_take (i := 5) F rfl rfl hq1 (fun _ _ => r_move F rfl) (fun _ _ _ h => h) (by kernel_rfl) (by kernel_rfl) (by kernel_rfl) (by kernel_rfl) ?_; clear F a; intro a F
    refine t_take (i := 6) F rfl rfl hq1 (fun _ _ => r_rem_u32 F rfl rfl (span_ne hok)) (fun _ _ _ h => h) (by kernel_rfl) (by kernel_rfl) (by kernel_rfl) (by kernel_rfl) ?_; clear F a; intro a F
    refine t_take (i := 7) F rfl rfl hq1 (fun _ _ => r_add_u32 F rfl rfl) (fun _ _ _ h => h) (by kernel_rfl) (by kernel_rfl) (by kernel_rfl) (by kernel_rfl) ?_; clear F a; intro a F
    refine t_take (i := 8) F rfl rfl hq1 (fun _ _ => r_fieldAddr F rfl fld_State_2) (fun _ _ _ h => h) (by kernel_rfl) (by kernel_rfl) (by kernel_rfl) (by kernel_rfl) ?_; clear F a; intro a F
    refine t_take (i := 9) F rfl rfl hq1 (fun _ _ => r_fieldAddr F rfl fld_Entry_1) (fun _ _ _ h => h) (by kernel_rfl) (by kernel_rfl) (by kernel_rfl) (by kernel_rfl) ?_; clear F a; intro a F
    refine t_take (i := 10) F rfl rfl hq1 (fun _ ⟨_, _, M'⟩ => r_load1 M' F rfl (by repeat (first | exact List.mem_cons_self | apply List.mem_cons_of_mem)) sca_u32 rfl) (fun _ _ _ h => h) (by kernel_rfl) (by kernel_rfl) (by kernel_rfl) (by kernel_rfl) ?_; clear F a; intro a F
    refine t_take (i := 11) F rfl rfl hq1 (fun _ _ => r_move F rfl) (fun _ _ _ h => h) (by kernel_rfl) (by kernel_rfl) (by kernel_rfl) (by kernel_rfl) ?_; clear F a; intro a F
    refine t_take (i := 12) F rfl rfl hq1 (fun _ _ => r_conv_u8_u32 F und_u8 und_u32 rfl) (fun _ _ _ h => h) (by kernel_rfl) (by kernel_rfl) (by kernel_rfl) (by kernel_rfl) ?_; clear F a; intro a F
    refine t_take (i := 13) F rfl rfl hq1 (fun _ _ => r_move F rfl) (fun _ _ _ h => h) (by kernel_rfl) (by kernel_rfl) (by kernel_rfl) (by kernel_rfl) ?_; clear F a; intro a F
    refine t_take (i := 14) F rfl rfl hq1 (fun _ _ => r_rem_u32 F rfl rfl (span_ne hok)) (fun _ _ _ h => h) (by kernel_rfl) (by kernel_rfl) (by kernel_rfl) (by kernel_rfl) ?_; clear F a; intro a F
    refine t_take (i := 15) F rfl rfl hq1 (fun _ _ => r_add_u32 F rfl rfl) (fun _ _ _ h => h) (by kernel_rfl) (by kernel_rfl) (by kernel_rfl) (by kernel_rfl) ?_; clear F a; intro a F
    refine t_take (i := 16) F rfl rfl hq1 (fun _ _ => r_assign F rfl) (fun _ _ _ h => h) (by kernel_rfl) (by kernel_rfl) (by kernel_rfl) (by kernel_rfl) ?_; clear F a; intro a F
    refine t_take (i := 17) F rfl rfl hq1 (fun _ _ => r_assign F rfl) (fun _ _ _ h => h) (by kernel_rfl) (by kernel_rfl) (by kernel_rfl) (by kernel_rfl) ?_; clear F a; intro a F
    generalize hx : (s.at l).tail.n + c.toUInt32 % ((lastE s).n - (s.at l).tail.n + 1) = x at F
    generalize hy : (s.at l).tail.n + d.toUInt32 % ((lastE s).n - (s.at l).tail.n + 1) = y at F
    have hx1 := span_x hok hx
    have hy1 := span_x hok hy
    refine t_done (by kernel_rfl) ?_ _
    refine hK10 _ _ ?_
    refine c_seq (fun K11 hK11 => ?_)
    refine c_seq (fun K12 hK12 => ?_)
    refine wp_region_lit ?_
    refine l_step rfl (o_val F (r_move F rfl) rfl ?_); clear F a; intro a F
    refine l_step rfl (o_val F (r_move F rfl) rfl ?_); clear F a; intro a F
    refine l_step rfl (o_val F (r_gtr_u32 F rfl rfl) rfl ?_); clear F a; intro a F
    refine l_nil ?_
    refine hK12 _ _ ?_
    refine c_cond F rfl (fun g67 => ?_) (fun g67 => ?_)
    · skip
      have hxy : y.toNat ≤ x.toNat := by { have h := of_decide_eq_true g67; rw [UInt32.lt_iff_toNat_lt] at h; omega }
      have h1 := hy1.1
      have h2 := hx1.2
      have T1 := tail_eq hok h1 (Nat.le_trans hxy h2)
      have T2 := tail_two hok h1 hxy h2
      have T3 := tail_eq hok (Nat.le_trans h1 hxy) h2
      have T4 := tail_back hok h1 hxy h2
      refine wp_region_lit ?_
      refine l_step rfl (o_val F (r_move F rfl) rfl ?_); clear F a; intro a F
      refine l_step rfl (o_val F (r_move F rfl) rfl ?_); clear F a; intro a F
      refine l_step rfl (o_val F (r_assign F rfl) rfl ?_); clear F a; intro a F
      refine l_step rfl (o_val F (r_assign F rfl) rfl ?_); clear F a; intro a F
      generalize hx : (s.at l).tail.n + c.toUInt32 % ((lastE s).n - (s.at l).tail.n + 1) = x at F
      generalize hy : (s.at l).tail.n + d.toUInt32 % ((lastE s).n - (s.at l).tail.n + 1) = y at F
      have hx1 := span_x hok hx
      have hy1 := span_x hok hy
      refine l_nil ?_
      refine hK11 _ _ ?_
      refine c_seq (fun K13 hK13 => ?_)
      refine wp_region_lit ?_
      refine l_step rfl (o_val F (r_load M F rfl (by repeat (first | exact List.mem_cons_self | apply List.mem_cons_of_mem)) agg_State (seg_all rfl)) rfl ?_); clear F a; intro a F
      refine l_step rfl (o_val F (r_move F rfl) rfl ?_); clear F a; intro a F
      refine l_step rfl (o_call M F rfl (c_pglog_Tail M.imm hl) rfl ?_); clear F a; intro a W7 v7 G7 hp7 M E7 F
      have hl := hl.mono E7.gl
      obtain ⟨l1, rfl, hl1⟩ := hp7
      simp only [T1] at F hl1
      refine l_step rfl (o_val F (r_move F rfl) rfl ?_); clear F a; intro a F
      refine l_step rfl (o_val F (r_extract F rfl rfl) rfl ?_); clear F a; intro a F
      refine l_step rfl (o_val F (r_extract F rfl rfl) rfl ?_); clear F a; intro a F
      refine l_step rfl (o_alloc M F zer_State rfl ?_); clear F a; intro a W8 b3 M F
      refine l_step rfl (o_storeA M F rfl rfl agg_State.size (by repeat (first | exact Upd.here _ _ _ _ _ | apply Upd.there)) (by rfl) (by rfl) (by rfl) ?_); clear F a; intro a W9 M F
      refine l_step rfl (o_val F (r_assign F rfl) rfl ?_); clear F a; intro a F
      refine l_nil ?_
      refine hK13 _ _ ?_
      refine c_seq (fun K14 hK14 => ?_)
      refine wp_region_lit ?_
      refine l_step rfl (o_val F (r_load M F rfl (by repeat (first | exact List.mem_cons_self | apply List.mem_cons_of_mem)) agg_State (seg_all rfl)) rfl ?_); clear F a; intro a F
      refine l_step rfl (o_val F (r_move F rfl) rfl ?_); clear F a; intro a F
      refine l_step rfl (o_call M F rfl (c_pglog_Tail M.imm hl1) rfl ?_); clear F a; intro a W10 v10 G10 hp10 M E10 F
      have hl := hl.mono E10.gl
      have hl1 := hl1.mono E10.gl
      obtain ⟨l2, rfl, hl2⟩ := hp10
      simp only [T2] at F hl2
      refine l_step rfl (o_val F (r_move F rfl) rfl ?_); clear F a; intro a F
      refine l_step rfl (o_val F (r_extract F rfl rfl) rfl ?_); clear F a; intro a F
      refine l_step rfl (o_val F (r_extract F rfl rfl) rfl ?_); clear F a; intro a F
      refine l_step rfl (o_alloc M F zer_State rfl ?_); clear F a; intro a W11 b4 M F
      refine l_step rfl (o_storeA M F rfl rfl agg_State.size (by repeat (first | exact Upd.here _ _ _ _ _ | apply Upd.there)) (by rfl) (by rfl) (by rfl) ?_); clear F a; intro a W12 M F
      refine l_step rfl (o_val F (r_assign F rfl) rfl ?_); clear F a; intro a F
      refine l_nil ?_
      refine hK14 _ _ ?_
      refine c_seq (fun K15 hK15 => ?_)
      refine wp_region_lit ?_
      refine l_step rfl (o_val F (r_load M F rfl (by repeat (first | exact List.mem_cons_self | apply List.mem_cons_of_mem)) agg_State (seg_all rfl)) rfl ?_); clear F a; intro a F
      refine l_step rfl (o_val F (r_move F rfl) rfl ?_); clear F a; intro a F
      refine l_step rfl (o_call M F rfl (c_pglog_Tail M.imm hl) rfl ?_); clear F a; intro a W13 v13 G13 hp13 M E13 F
      have hl := hl.mono E13.gl
      have hl1 := hl1.mono E13.gl
      have hl2 := hl2.mono E13.gl
      obtain ⟨l3, rfl, hl3⟩ := hp13
      simp only [T3] at F hl3
      refine l_step rfl (o_val F (r_move F rfl) rfl ?_); clear F a; intro a F
      refine l_step rfl (o_val F (r_extract F rfl rfl) rfl ?_); clear F a; intro a F
      refine l_step rfl (o_val F (r_extract F rfl rfl) rfl ?_); clear F a; intro a F
      refine l_step rfl (o_alloc M F zer_State rfl ?_); clear F a; intro a W14 b5 M F
      refine l_step rfl (o_storeA M F rfl rfl agg_State.size (by repeat (first | exact Upd.here _ _ _ _ _ | apply Upd.there)) (by rfl) (by rfl) (by rfl) ?_); clear F a; intro a W15 M F
      refine l_step rfl (o_val F (r_assign F rfl) rfl ?_); clear F a; intro a F
      refine l_nil ?_
      refine hK15 _ _ ?_
      refine c_seq (fun K16 hK16 => ?_)
      refine c_seq (fun K17 hK17 => ?_)
      refine wp_region_lit ?_
      refine l_step rfl (o_val F (r_move F rfl) rfl ?_); clear F a; intro a F
      refine l_step rfl (o_val F (r_neq_i64 F rfl rfl) rfl ?_); clear F a; intro a F
      refine l_step rfl (o_val F (r_move F rfl) rfl ?_); clear F a; intro a F
      refine l_guard F rfl rfl rfl rfl (o_val F (r_move F rfl) rfl ?_); clear F a; intro a F
      refine l_guard F rfl rfl rfl rfl (o_val F (r_neq_i64 F rfl rfl) rfl ?_); clear F a; intro a F
      refine l_step rfl (o_val F (r_pick_f F rfl rfl rfl) rfl ?_); clear F a; intro a F
      refine l_step rfl (o_val F (r_move F rfl) rfl ?_); clear F a; intro a F
      refine l_guard F rfl rfl rfl rfl (o_val F (r_move F rfl) rfl ?_); clear F a; intro a F
      refine l_guard F rfl rfl rfl rfl (o_val F (r_neq_i64 F rfl rfl) rfl ?_); clear F a; intro a F
      refine l_step rfl (o_val F (r_pick_f F rfl rfl rfl) rfl ?_); clear F a; intro a F
      refine l_step rfl (o_val F (r_move F rfl) rfl ?_); clear F a; intro a F
      refine l_guard F rfl rfl rfl rfl (o_val F (r_load M F rfl (by repeat (first | exact List.mem_cons_self | apply List.mem_cons_of_mem)) agg_State (seg_all rfl)) rfl ?_); clear F a; intro a F
      refine l_guard F rfl rfl rfl rfl (o_val F (r_load M F rfl (by repeat (first | exact List.mem_cons_self | apply List.mem_cons_of_mem)) agg_State (seg_all rfl)) rfl ?_); clear F a; intro a F
      refine l_guard F rfl rfl rfl rfl (o_call M F rfl (c_pglog_Same M.imm hl2 hl3) rfl ?_); clear F a; intro a W16 v16 G16 hp16 M E16 F
      have hl := hl.mono E16.gl
      have hl1 := hl1.mono E16.gl
      have hl2 := hl2.mono E16.gl
      have hl3 := hl3.mono E16.gl
      subst hp16
      refine l_guard F rfl rfl rfl rfl (o_val F (r_not F rfl) rfl ?_); clear F a; intro a F
      refine l_step rfl (o_val F (r_pick_f F rfl rfl rfl) rfl ?_); clear F a; intro a F
      refine l_nil ?_
      refine hK17 _ _ ?_
      refine c_false F rfl (by simp) ?_
      refine wp_skip ?_
      refine hK16 _ _ ?_
      refine c_seq (fun K18 hK18 => ?_)
      refine wp_region_lit ?_
      refine l_step rfl (o_val F (r_load M F rfl (by repeat (first | exact List.mem_cons_self | apply List.mem_cons_of_mem)) agg_State (seg_all rfl)) rfl ?_); clear F a; intro a F
      refine l_step rfl (o_val F (r_move F rfl) rfl ?_); clear F a; intro a F
      refine l_step rfl (o_call M F rfl (c_pglog_Tail M.imm hl3) rfl ?_); clear F a; intro a W17 v17 G17 hp17 M E17 F
      have hl := hl.mono E17.gl
      have hl1 := hl1.mono E17.gl
      have hl2 := hl2.mono E17.gl
      have hl3 := hl3.mono E17.gl
      obtain ⟨l4, rfl, hl4⟩ := hp17
      generalize (pTail (pFolded s _) _).2 = hh at F T4
      refine l_step rfl (o_val F (r_move F rfl) rfl ?_); clear F a; intro a F
      refine l_step rfl (o_val F (r_extract F rfl rfl) rfl ?_); clear F a; intro a F
      refine l_step rfl (o_val F (r_extract F rfl rfl) rfl ?_); clear F a; intro a F
      refine l_step rfl (o_alloc M F zer_State rfl ?_); clear F a; intro a W18 b6 M F
      refine l_step rfl (o_storeA M F rfl rfl agg_State.size (by repeat (first | exact Upd.here _ _ _ _ _ | apply Upd.there)) (by rfl) (by rfl) (by rfl) ?_); clear F a; intro a W19 M F
      refine l_step rfl (o_val F (r_assign F rfl) rfl ?_); clear F a; intro a F
      refine l_nil ?_
      refine hK18 _ _ ?_
      refine c_seq (fun K19 hK19 => ?_)
      refine c_seq (fun K20 hK20 => ?_)
      refine wp_region_lit ?_
      refine l_step rfl (o_val F (r_move F rfl) rfl ?_); clear F a; intro a F
      refine l_step rfl (o_val F (r_eql_i64 F rfl rfl) rfl ?_); clear F a; intro a F
      refine l_step rfl (o_val F (r_move F rfl) rfl ?_); clear F a; intro a F
      refine l_step rfl (o_val F (r_move F rfl) rfl ?_); clear F a; intro a F
      refine l_step rfl (o_val F (r_eql_u32 F rfl rfl) rfl ?_); clear F a; intro a F
      refine l_step rfl (o_val F (r_neq_bool F und_bool rfl rfl) rfl ?_); clear F a; intro a F
      refine l_step rfl (o_val F (r_move F rfl) rfl ?_); clear F a; intro a F
      refine l_guard F rfl rfl rfl (by rcases T4 with ⟨e1, e2⟩ | ⟨e1, e2⟩ <;> simp [e1, e2]) (o_val F (r_move F rfl) rfl ?_); clear F a; intro a F
      refine l_guard F rfl rfl rfl (by rcases T4 with ⟨e1, e2⟩ | ⟨e1, e2⟩ <;> simp [e1, e2]) (o_val F (r_neq_i64 F rfl rfl) rfl ?_); clear F a; intro a F
      refine l_guard F rfl rfl rfl (by rcases T4 with ⟨e1, e2⟩ | ⟨e1, e2⟩ <;> simp [e1, e2]) (o_val F (r_move F rfl) rfl ?_); clear F a; intro a F
      refine c_split F (i := 119) rfl (fun g119 => ?_) (fun g119 => ?_)
      · skip
        refine l_guard F rfl rfl rfl g119 (o_val F (r_move F rfl) rfl ?_); clear F a; intro a F
        refine l_guard F rfl rfl rfl g119 (o_val F (r_neq_i64 F rfl rfl) rfl ?_); clear F a; intro a F
        refine l_guard F rfl rfl rfl (by rcases T4 with ⟨e1, e2⟩ | ⟨e1, e2⟩ <;> simp [e1, e2]) (o_val F (r_pick_t F rfl g119 rfl) rfl ?_); clear F a; intro a F
        refine l_step rfl (o_val F (r_pick_f F rfl (by rcases T4 with ⟨e1, e2⟩ | ⟨e1, e2⟩ <;> simp [e1, e2]) rfl) rfl ?_); clear F a; intro a F
        refine l_nil ?_
        refine hK20 _ _ ?_
        refine c_false F rfl (by rcases T4 with ⟨e1, e2⟩ | ⟨e1, e2⟩ <;> simp_all) ?_
        refine wp_skip ?_
        refine hK19 _ _ ?_
        refine c_seq (fun K21 hK21 => ?_)
        refine wp_region_lit ?_
        refine l_step rfl (o_val F (r_load M F rfl (by repeat (first | exact List.mem_cons_self | apply List.mem_cons_of_mem)) agg_State (seg_all rfl)) rfl ?_); clear F a; intro a F
        refine l_step rfl (o_val F (r_move F rfl) rfl ?_); clear F a; intro a F
        refine l_step rfl (o_val F (r_add_u32 F (y := 1) rfl rfl) rfl ?_); clear F a; intro a F
        refine l_step rfl (o_val F (r_load M F rfl (by repeat (first | exact List.mem_cons_self | apply List.mem_cons_of_mem)) agg_Op (seg_all rfl)) rfl ?_); clear F a; intro a F
        refine l_step rfl (o_val F (r_build F rfl (b_Entry_0_1_2 50 _ _)) rfl ?_); clear F a; intro a F
        refine l_step rfl (o_call M F rfl (c_pglog_Add M.imm hl3) rfl ?_); clear F a; intro a W20 v20 G20 hp20 M E20 F
        have hl := hl.mono E20.gl
        have hl1 := hl1.mono E20.gl
        have hl2 := hl2.mono E20.gl
        have hl3 := hl3.mono E20.gl
        obtain ⟨l5, rfl, hl5⟩ := hp20
        refine l_step rfl (o_val F (r_move F rfl) rfl ?_); clear F a; intro a F
        refine l_step rfl (o_val F (r_extract F rfl rfl) rfl ?_); clear F a; intro a F
        refine l_step rfl (o_val F (r_extract F rfl rfl) rfl ?_); clear F a; intro a F
        refine l_step rfl (o_alloc M F zer_State rfl ?_); clear F a; intro a W21 b7 M F
        refine l_step rfl (o_storeA M F rfl rfl agg_State.size (by repeat (first | exact Upd.here _ _ _ _ _ | apply Upd.there)) (by rfl) (by rfl) (by rfl) ?_); clear F a; intro a W22 M F
        refine l_step rfl (o_val F (r_assign F rfl) rfl ?_); clear F a; intro a F
        refine l_nil ?_
        refine hK21 _ _ ?_
        refine c_seq (fun K22 hK22 => ?_)
        refine wp_region_lit ?_
        refine l_step rfl (o_val F (r_load M F rfl (by repeat (first | exact List.mem_cons_self | apply List.mem_cons_of_mem)) agg_State (seg_all rfl)) rfl ?_); clear F a; intro a F
        refine l_step rfl (o_val F (r_move F rfl) rfl ?_); clear F a; intro a F
        refine l_step rfl (o_val F (r_add_u32 F (y := 1) rfl rfl) rfl ?_); clear F a; intro a F
        refine l_step rfl (o_val F (r_load M F rfl (by repeat (first | exact List.mem_cons_self | apply List.mem_cons_of_mem)) agg_Op (seg_all rfl)) rfl ?_); clear F a; intro a F
        refine l_step rfl (o_val F (r_build F rfl (b_Entry_0_1_2 50 _ _)) rfl ?_); clear F a; intro a F
        refine l_step rfl (o_call M F rfl (c_pglog_Add M.imm hl) rfl ?_); clear F a; intro a W23 v23 G23 hp23 M E23 F
        have hl := hl.mono E23.gl
        have hl1 := hl1.mono E23.gl
        have hl2 := hl2.mono E23.gl
        have hl3 := hl3.mono E23.gl
        have hl5 := hl5.mono E23.gl
        obtain ⟨l6, rfl, hl6⟩ := hp23
        refine l_step rfl (o_val F (r_move F rfl) rfl ?_); clear F a; intro a F
        refine l_step rfl (o_val F (r_extract F rfl rfl) rfl ?_); clear F a; intro a F
        refine l_step rfl (o_val F (r_extract F rfl rfl) rfl ?_); clear F a; intro a F
        refine l_step rfl (o_alloc M F zer_State rfl ?_); clear F a; intro a W24 b8 M F
        refine l_step rfl (o_storeA M F rfl rfl agg_State.size (by repeat (first | exact Upd.here _ _ _ _ _ | apply Upd.there)) (by rfl) (by rfl) (by rfl) ?_); clear F a; intro a W25 M F
        refine l_step rfl (o_val F (r_assign F rfl) rfl ?_); clear F a; intro a F
        refine l_nil ?_
        refine hK22 _ _ ?_
        refine c_seq (fun K23 hK23 => ?_)
        refine c_drawM M [] mixed (fun M => ?_)
        have Ms := M
        have hq2 := Keeps.here M
        have hle2 := M.gle
        refine t_take (i := 0) F rfl rfl hq2 (fun _ _ => r_move F rfl) (fun _ _ _ h => h) (by kernel_rfl) (by kernel_rfl) (by kernel_rfl) (by kernel_rfl) ?_; clear F a; intro a F
        refine t_take (i := 1) F rfl rfl hq2 (fun _ _ => r_move F rfl) (fun _ _ _ h => h) (by kernel_rfl) (by kernel_rfl) (by kernel_rfl) (by kernel_rfl) ?_; clear F a; intro a F
        refine t_take (i := 2) F rfl rfl hq2 (fun _ _ => r_eql_i64 F rfl rfl) (fun _ _ _ h => h) (by kernel_rfl) (by kernel_rfl) (by kernel_rfl) (by kernel_rfl) ?_; clear F a; intro a F
        refine t_take (i := 3) F rfl rfl hq2 (fun _ _ => r_move F rfl) (fun _ _ _ h => h) (by kernel_rfl) (by kernel_rfl) (by kernel_rfl) (by kernel_rfl) ?_; clear F a; intro a F
        refine t_takeg (i := 4) F rfl rfl rfl (decide_eq_true (add_folded hok _ _)) rfl hq2 (fun _ ⟨_, _, M'⟩ => r_load M' F rfl (by repeat (first | exact List.mem_cons_self | apply List.mem_cons_of_mem)) agg_State (seg_all rfl)) (fun _ _ _ h => h) (by kernel_rfl) (by kernel_rfl) (by kernel_rfl) (by kernel_rfl) ?_; clear F a; intro a F
        refine t_takeg (i := 6) F rfl rfl rfl (decide_eq_true (add_folded hok _ _)) rfl hq2 (fun _ ⟨_, _, M'⟩ => r_load M' F rfl (by repeat (first | exact List.mem_cons_self | apply List.mem_cons_of_mem)) agg_State (seg_all rfl)) (fun _ _ _ h => h) (by kernel_rfl) (by kernel_rfl) (by kernel_rfl) (by kernel_rfl) ?_; clear F a; intro a F
        refine t_oneg (i := 5) F (by kernel_rfl) rfl rfl rfl rfl (decide_eq_true (add_folded hok _ _)) (o_call M F rfl (c_pglog_Fold M.imm hl5) rfl ?_); clear F a; intro a W26 v26 G26 hp26 M E26 F
        have hl := hl.mono E26.gl
        have hl1 := hl1.mono E26.gl
        have hl2 := hl2.mono E26.gl
        have hl3 := hl3.mono E26.gl
        have hl5 := hl5.mono E26.gl
        have hl6 := hl6.mono E26.gl
        subst hp26
        have hle2 := hle2.trans E26.gl
        refine keepAnd (Keeps.mk hle2 M (by repeat (first | exact List.Sublist.refl _ | apply List.Sublist.cons_cons | apply List.Sublist.cons))) (fun hq2 => ?_)
        refine t_oneg (i := 7) F (by kernel_rfl) rfl rfl rfl rfl (decide_eq_true (add_folded hok _ _)) (o_call M F rfl (c_pglog_Fold M.imm hl6) rfl ?_); clear F a; intro a W27 v27 G27 hp27 M E27 F
        have hl := hl.mono E27.gl
        have hl1 := hl1.mono E27.gl
        have hl2 := hl2.mono E27.gl
        have hl3 := hl3.mono E27.gl
        have hl5 := hl5.mono E27.gl
        have hl6 := hl6.mono E27.gl
        subst hp27
        have hle2 := hle2.trans E27.gl
        refine keepAnd (Keeps.mk hle2 M (by repeat (first | exact List.Sublist.refl _ | apply List.Sublist.cons_cons | apply List.Sublist.cons))) (fun hq2 => ?_)
        refine t_takeg (i := 8) F rfl rfl rfl (decide_eq_true (add_folded hok _ _)) rfl hq2 (fun _ _ => r_eql_Base F rfl rfl) (fun _ _ _ h => h) (by kernel_rfl) (by kernel_rfl) (by kernel_rfl) (by kernel_rfl) ?_; clear F a; intro a F
        refine t_take (i := 9) F rfl rfl hq2 (fun _ _ => r_pick_t F rfl (decide_eq_true (add_folded hok _ _)) rfl) (fun _ _ _ h => h) (by kernel_rfl) (by kernel_rfl) (by kernel_rfl) (by kernel_rfl) ?_; clear F a; intro a F
        refine t_take (i := 10) F rfl rfl hq2 (fun _ _ => r_assign F rfl) (fun _ _ _ h => h) (by kernel_rfl) (by kernel_rfl) (by kernel_rfl) (by kernel_rfl) ?_; clear F a; intro a F
        refine t_done (by kernel_rfl) ?_ _
        refine hK23 _ _ ?_
        refine wp_ret ?_
        exact ret1 Try.results3 M F (rv_tmp F rfl) (congrArg Value.bool (decide_eq_true (fold_add hok _ _)))
      · skip
        iterate 2 (refine l_skip F rfl rfl rfl g119 rfl rfl ?_; clear F a; intro a F)
        refine l_guard F rfl rfl rfl (by rcases T4 with ⟨e1, e2⟩ | ⟨e1, e2⟩ <;> simp [e1, e2]) (o_val F (r_pick_f F rfl g119 rfl) rfl ?_); clear F a; intro a F
        refine l_step rfl (o_val F (r_pick_f F rfl (by rcases T4 with ⟨e1, e2⟩ | ⟨e1, e2⟩ <;> simp [e1, e2]) rfl) rfl ?_); clear F a; intro a F
        refine l_nil ?_
        refine hK20 _ _ ?_
        refine c_false F rfl (by rcases T4 with ⟨e1, e2⟩ | ⟨e1, e2⟩ <;> simp_all) ?_
        refine wp_skip ?_
        refine hK19 _ _ ?_
        refine c_seq (fun K24 hK24 => ?_)
        refine wp_region_lit ?_
        refine l_step rfl (o_val F (r_load M F rfl (by repeat (first | exact List.mem_cons_self | apply List.mem_cons_of_mem)) agg_State (seg_all rfl)) rfl ?_); clear F a; intro a F
        refine l_step rfl (o_val F (r_move F rfl) rfl ?_); clear F a; intro a F
        refine l_step rfl (o_val F (r_add_u32 F (y := 1) rfl rfl) rfl ?_); clear F a; intro a F
        refine l_step rfl (o_val F (r_load M F rfl (by repeat (first | exact List.mem_cons_self | apply List.mem_cons_of_mem)) agg_Op (seg_all rfl)) rfl ?_); clear F a; intro a F
        refine l_step rfl (o_val F (r_build F rfl (b_Entry_0_1_2 50 _ _)) rfl ?_); clear F a; intro a F
        refine l_step rfl (o_call M F rfl (c_pglog_Add M.imm hl3) rfl ?_); clear F a; intro a W28 v28 G28 hp28 M E28 F
        have hl := hl.mono E28.gl
        have hl1 := hl1.mono E28.gl
        have hl2 := hl2.mono E28.gl
        have hl3 := hl3.mono E28.gl
        obtain ⟨l5, rfl, hl5⟩ := hp28
        refine l_step rfl (o_val F (r_move F rfl) rfl ?_); clear F a; intro a F
        refine l_step rfl (o_val F (r_extract F rfl rfl) rfl ?_); clear F a; intro a F
        refine l_step rfl (o_val F (r_extract F rfl rfl) rfl ?_); clear F a; intro a F
        refine l_step rfl (o_alloc M F zer_State rfl ?_); clear F a; intro a W29 b9 M F
        refine l_step rfl (o_storeA M F rfl rfl agg_State.size (by repeat (first | exact Upd.here _ _ _ _ _ | apply Upd.there)) (by rfl) (by rfl) (by rfl) ?_); clear F a; intro a W30 M F
        refine l_step rfl (o_val F (r_assign F rfl) rfl ?_); clear F a; intro a F
        refine l_nil ?_
        refine hK24 _ _ ?_
        refine c_seq (fun K25 hK25 => ?_)
        refine wp_region_lit ?_
        refine l_step rfl (o_val F (r_load M F rfl (by repeat (first | exact List.mem_cons_self | apply List.mem_cons_of_mem)) agg_State (seg_all rfl)) rfl ?_); clear F a; intro a F
        refine l_step rfl (o_val F (r_move F rfl) rfl ?_); clear F a; intro a F
        refine l_step rfl (o_val F (r_add_u32 F (y := 1) rfl rfl) rfl ?_); clear F a; intro a F
        refine l_step rfl (o_val F (r_load M F rfl (by repeat (first | exact List.mem_cons_self | apply List.mem_cons_of_mem)) agg_Op (seg_all rfl)) rfl ?_); clear F a; intro a F
        refine l_step rfl (o_val F (r_build F rfl (b_Entry_0_1_2 50 _ _)) rfl ?_); clear F a; intro a F
        refine l_step rfl (o_call M F rfl (c_pglog_Add M.imm hl) rfl ?_); clear F a; intro a W31 v31 G31 hp31 M E31 F
        have hl := hl.mono E31.gl
        have hl1 := hl1.mono E31.gl
        have hl2 := hl2.mono E31.gl
        have hl3 := hl3.mono E31.gl
        have hl5 := hl5.mono E31.gl
        obtain ⟨l6, rfl, hl6⟩ := hp31
        refine l_step rfl (o_val F (r_move F rfl) rfl ?_); clear F a; intro a F
        refine l_step rfl (o_val F (r_extract F rfl rfl) rfl ?_); clear F a; intro a F
        refine l_step rfl (o_val F (r_extract F rfl rfl) rfl ?_); clear F a; intro a F
        refine l_step rfl (o_alloc M F zer_State rfl ?_); clear F a; intro a W32 b10 M F
        refine l_step rfl (o_storeA M F rfl rfl agg_State.size (by repeat (first | exact Upd.here _ _ _ _ _ | apply Upd.there)) (by rfl) (by rfl) (by rfl) ?_); clear F a; intro a W33 M F
        refine l_step rfl (o_val F (r_assign F rfl) rfl ?_); clear F a; intro a F
        refine l_nil ?_
        refine hK25 _ _ ?_
        refine c_seq (fun K26 hK26 => ?_)
        refine c_drawM M [] mixed (fun M => ?_)
        have Ms := M
        have hq3 := Keeps.here M
        have hle3 := M.gle
        refine t_take (i := 0) F rfl rfl hq3 (fun _ _ => r_move F rfl) (fun _ _ _ h => h) (by kernel_rfl) (by kernel_rfl) (by kernel_rfl) (by kernel_rfl) ?_; clear F a; intro a F
        refine t_take (i := 1) F rfl rfl hq3 (fun _ _ => r_move F rfl) (fun _ _ _ h => h) (by kernel_rfl) (by kernel_rfl) (by kernel_rfl) (by kernel_rfl) ?_; clear F a; intro a F
        refine t_take (i := 2) F rfl rfl hq3 (fun _ _ => r_eql_i64 F rfl rfl) (fun _ _ _ h => h) (by kernel_rfl) (by kernel_rfl) (by kernel_rfl) (by kernel_rfl) ?_; clear F a; intro a F
        refine t_take (i := 3) F rfl rfl hq3 (fun _ _ => r_move F rfl) (fun _ _ _ h => h) (by kernel_rfl) (by kernel_rfl) (by kernel_rfl) (by kernel_rfl) ?_; clear F a; intro a F
        refine t_takeg (i := 4) F rfl rfl rfl (decide_eq_true (add_folded hok _ _)) rfl hq3 (fun _ ⟨_, _, M'⟩ => r_load M' F rfl (by repeat (first | exact List.mem_cons_self | apply List.mem_cons_of_mem)) agg_State (seg_all rfl)) (fun _ _ _ h => h) (by kernel_rfl) (by kernel_rfl) (by kernel_rfl) (by kernel_rfl) ?_; clear F a; intro a F
        refine t_takeg (i := 6) F rfl rfl rfl (decide_eq_true (add_folded hok _ _)) rfl hq3 (fun _ ⟨_, _, M'⟩ => r_load M' F rfl (by repeat (first | exact List.mem_cons_self | apply List.mem_cons_of_mem)) agg_State (seg_all rfl)) (fun _ _ _ h => h) (by kernel_rfl) (by kernel_rfl) (by kernel_rfl) (by kernel_rfl) ?_; clear F a; intro a F
        refine t_oneg (i := 5) F (by kernel_rfl) rfl rfl rfl rfl (decide_eq_true (add_folded hok _ _)) (o_call M F rfl (c_pglog_Fold M.imm hl5) rfl ?_); clear F a; intro a W34 v34 G34 hp34 M E34 F
        have hl := hl.mono E34.gl
        have hl1 := hl1.mono E34.gl
        have hl2 := hl2.mono E34.gl
        have hl3 := hl3.mono E34.gl
        have hl5 := hl5.mono E34.gl
        have hl6 := hl6.mono E34.gl
        subst hp34
        have hle3 := hle3.trans E34.gl
        refine keepAnd (Keeps.mk hle3 M (by repeat (first | exact List.Sublist.refl _ | apply List.Sublist.cons_cons | apply List.Sublist.cons))) (fun hq3 => ?_)
        refine t_oneg (i := 7) F (by kernel_rfl) rfl rfl rfl rfl (decide_eq_true (add_folded hok _ _)) (o_call M F rfl (c_pglog_Fold M.imm hl6) rfl ?_); clear F a; intro a W35 v35 G35 hp35 M E35 F
        have hl := hl.mono E35.gl
        have hl1 := hl1.mono E35.gl
        have hl2 := hl2.mono E35.gl
        have hl3 := hl3.mono E35.gl
        have hl5 := hl5.mono E35.gl
        have hl6 := hl6.mono E35.gl
        subst hp35
        have hle3 := hle3.trans E35.gl
        refine keepAnd (Keeps.mk hle3 M (by repeat (first | exact List.Sublist.refl _ | apply List.Sublist.cons_cons | apply List.Sublist.cons))) (fun hq3 => ?_)
        refine t_takeg (i := 8) F rfl rfl rfl (decide_eq_true (add_folded hok _ _)) rfl hq3 (fun _ _ => r_eql_Base F rfl rfl) (fun _ _ _ h => h) (by kernel_rfl) (by kernel_rfl) (by kernel_rfl) (by kernel_rfl) ?_; clear F a; intro a F
        refine t_take (i := 9) F rfl rfl hq3 (fun _ _ => r_pick_t F rfl (decide_eq_true (add_folded hok _ _)) rfl) (fun _ _ _ h => h) (by kernel_rfl) (by kernel_rfl) (by kernel_rfl) (by kernel_rfl) ?_; clear F a; intro a F
        refine t_take (i := 10) F rfl rfl hq3 (fun _ _ => r_assign F rfl) (fun _ _ _ h => h) (by kernel_rfl) (by kernel_rfl) (by kernel_rfl) (by kernel_rfl) ?_; clear F a; intro a F
        refine t_done (by kernel_rfl) ?_ _
        refine hK26 _ _ ?_
        refine wp_ret ?_
        exact ret1 Try.results3 M F (rv_tmp F rfl) (congrArg Value.bool (decide_eq_true (fold_add hok _ _)))
    · skip
      have hxy : x.toNat ≤ y.toNat := by { have h := of_decide_eq_false g67; rw [UInt32.lt_iff_toNat_lt] at h; omega }
      have h1 := hx1.1
      have h2 := hy1.2
      have T1 := tail_eq hok h1 (Nat.le_trans hxy h2)
      have T2 := tail_two hok h1 hxy h2
      have T3 := tail_eq hok (Nat.le_trans h1 hxy) h2
      have T4 := tail_back hok h1 hxy h2
      refine wp_skip ?_
      refine hK11 _ _ ?_
      refine c_seq (fun K27 hK27 => ?_)
      refine wp_region_lit ?_
      refine l_step rfl (o_val F (r_load M F rfl (by repeat (first | exact List.mem_cons_self | apply List.mem_cons_of_mem)) agg_State (seg_all rfl)) rfl ?_); clear F a; intro a F
      refine l_step rfl (o_val F (r_move F rfl) rfl ?_); clear F a; intro a F
      refine l_step rfl (o_call M F rfl (c_pglog_Tail M.imm hl) rfl ?_); clear F a; intro a W36 v36 G36 hp36 M E36 F
      have hl := hl.mono E36.gl
      obtain ⟨l1, rfl, hl1⟩ := hp36
      simp only [T1] at F hl1
      refine l_step rfl (o_val F (r_move F rfl) rfl ?_); clear F a; intro a F
      refine l_step rfl (o_val F (r_extract F rfl rfl) rfl ?_); clear F a; intro a F
      refine l_step rfl (o_val F (r_extract F rfl rfl) rfl ?_); clear F a; intro a F
      refine l_step rfl (o_alloc M F zer_State rfl ?_); clear F a; intro a W37 b11 M F
      refine l_step rfl (o_storeA M F rfl rfl agg_State.size (by repeat (first | exact Upd.here _ _ _ _ _ | apply Upd.there)) (by rfl) (by rfl) (by rfl) ?_); clear F a; intro a W38 M F
      refine l_step rfl (o_val F (r_assign F rfl) rfl ?_); clear F a; intro a F
      refine l_nil ?_
      refine hK27 _ _ ?_
      refine c_seq (fun K28 hK28 => ?_)
      refine wp_region_lit ?_
      refine l_step rfl (o_val F (r_load M F rfl (by repeat (first | exact List.mem_cons_self | apply List.mem_cons_of_mem)) agg_State (seg_all rfl)) rfl ?_); clear F a; intro a F
      refine l_step rfl (o_val F (r_move F rfl) rfl ?_); clear F a; intro a F
      refine l_step rfl (o_call M F rfl (c_pglog_Tail M.imm hl1) rfl ?_); clear F a; intro a W39 v39 G39 hp39 M E39 F
      have hl := hl.mono E39.gl
      have hl1 := hl1.mono E39.gl
      obtain ⟨l2, rfl, hl2⟩ := hp39
      simp only [T2] at F hl2
      refine l_step rfl (o_val F (r_move F rfl) rfl ?_); clear F a; intro a F
      refine l_step rfl (o_val F (r_extract F rfl rfl) rfl ?_); clear F a; intro a F
      refine l_step rfl (o_val F (r_extract F rfl rfl) rfl ?_); clear F a; intro a F
      refine l_step rfl (o_alloc M F zer_State rfl ?_); clear F a; intro a W40 b12 M F
      refine l_step rfl (o_storeA M F rfl rfl agg_State.size (by repeat (first | exact Upd.here _ _ _ _ _ | apply Upd.there)) (by rfl) (by rfl) (by rfl) ?_); clear F a; intro a W41 M F
      refine l_step rfl (o_val F (r_assign F rfl) rfl ?_); clear F a; intro a F
      refine l_nil ?_
      refine hK28 _ _ ?_
      refine c_seq (fun K29 hK29 => ?_)
      refine wp_region_lit ?_
      refine l_step rfl (o_val F (r_load M F rfl (by repeat (first | exact List.mem_cons_self | apply List.mem_cons_of_mem)) agg_State (seg_all rfl)) rfl ?_); clear F a; intro a F
      refine l_step rfl (o_val F (r_move F rfl) rfl ?_); clear F a; intro a F
      refine l_step rfl (o_call M F rfl (c_pglog_Tail M.imm hl) rfl ?_); clear F a; intro a W42 v42 G42 hp42 M E42 F
      have hl := hl.mono E42.gl
      have hl1 := hl1.mono E42.gl
      have hl2 := hl2.mono E42.gl
      obtain ⟨l3, rfl, hl3⟩ := hp42
      simp only [T3] at F hl3
      refine l_step rfl (o_val F (r_move F rfl) rfl ?_); clear F a; intro a F
      refine l_step rfl (o_val F (r_extract F rfl rfl) rfl ?_); clear F a; intro a F
      refine l_step rfl (o_val F (r_extract F rfl rfl) rfl ?_); clear F a; intro a F
      refine l_step rfl (o_alloc M F zer_State rfl ?_); clear F a; intro a W43 b13 M F
      refine l_step rfl (o_storeA M F rfl rfl agg_State.size (by repeat (first | exact Upd.here _ _ _ _ _ | apply Upd.there)) (by rfl) (by rfl) (by rfl) ?_); clear F a; intro a W44 M F
      refine l_step rfl (o_val F (r_assign F rfl) rfl ?_); clear F a; intro a F
      refine l_nil ?_
      refine hK29 _ _ ?_
      refine c_seq (fun K30 hK30 => ?_)
      refine c_seq (fun K31 hK31 => ?_)
      refine wp_region_lit ?_
      refine l_step rfl (o_val F (r_move F rfl) rfl ?_); clear F a; intro a F
      refine l_step rfl (o_val F (r_neq_i64 F rfl rfl) rfl ?_); clear F a; intro a F
      refine l_step rfl (o_val F (r_move F rfl) rfl ?_); clear F a; intro a F
      refine l_guard F rfl rfl rfl rfl (o_val F (r_move F rfl) rfl ?_); clear F a; intro a F
      refine l_guard F rfl rfl rfl rfl (o_val F (r_neq_i64 F rfl rfl) rfl ?_); clear F a; intro a F
      refine l_step rfl (o_val F (r_pick_f F rfl rfl rfl) rfl ?_); clear F a; intro a F
      refine l_step rfl (o_val F (r_move F rfl) rfl ?_); clear F a; intro a F
      refine l_guard F rfl rfl rfl rfl (o_val F (r_move F rfl) rfl ?_); clear F a; intro a F
      refine l_guard F rfl rfl rfl rfl (o_val F (r_neq_i64 F rfl rfl) rfl ?_); clear F a; intro a F
      refine l_step rfl (o_val F (r_pick_f F rfl rfl rfl) rfl ?_); clear F a; intro a F
      refine l_step rfl (o_val F (r_move F rfl) rfl ?_); clear F a; intro a F
      refine l_guard F rfl rfl rfl rfl (o_val F (r_load M F rfl (by repeat (first | exact List.mem_cons_self | apply List.mem_cons_of_mem)) agg_State (seg_all rfl)) rfl ?_); clear F a; intro a F
      refine l_guard F rfl rfl rfl rfl (o_val F (r_load M F rfl (by repeat (first | exact List.mem_cons_self | apply List.mem_cons_of_mem)) agg_State (seg_all rfl)) rfl ?_); clear F a; intro a F
      refine l_guard F rfl rfl rfl rfl (o_call M F rfl (c_pglog_Same M.imm hl2 hl3) rfl ?_); clear F a; intro a W45 v45 G45 hp45 M E45 F
      have hl := hl.mono E45.gl
      have hl1 := hl1.mono E45.gl
      have hl2 := hl2.mono E45.gl
      have hl3 := hl3.mono E45.gl
      subst hp45
      refine l_guard F rfl rfl rfl rfl (o_val F (r_not F rfl) rfl ?_); clear F a; intro a F
      refine l_step rfl (o_val F (r_pick_f F rfl rfl rfl) rfl ?_); clear F a; intro a F
      refine l_nil ?_
      refine hK31 _ _ ?_
      refine c_false F rfl (by simp) ?_
      refine wp_skip ?_
      refine hK30 _ _ ?_
      refine c_seq (fun K32 hK32 => ?_)
      refine wp_region_lit ?_
      refine l_step rfl (o_val F (r_load M F rfl (by repeat (first | exact List.mem_cons_self | apply List.mem_cons_of_mem)) agg_State (seg_all rfl)) rfl ?_); clear F a; intro a F
      refine l_step rfl (o_val F (r_move F rfl) rfl ?_); clear F a; intro a F
      refine l_step rfl (o_call M F rfl (c_pglog_Tail M.imm hl3) rfl ?_); clear F a; intro a W46 v46 G46 hp46 M E46 F
      have hl := hl.mono E46.gl
      have hl1 := hl1.mono E46.gl
      have hl2 := hl2.mono E46.gl
      have hl3 := hl3.mono E46.gl
      obtain ⟨l4, rfl, hl4⟩ := hp46
      generalize (pTail (pFolded s _) _).2 = hh at F T4
      refine l_step rfl (o_val F (r_move F rfl) rfl ?_); clear F a; intro a F
      refine l_step rfl (o_val F (r_extract F rfl rfl) rfl ?_); clear F a; intro a F
      refine l_step rfl (o_val F (r_extract F rfl rfl) rfl ?_); clear F a; intro a F
      refine l_step rfl (o_alloc M F zer_State rfl ?_); clear F a; intro a W47 b14 M F
      refine l_step rfl (o_storeA M F rfl rfl agg_State.size (by repeat (first | exact Upd.here _ _ _ _ _ | apply Upd.there)) (by rfl) (by rfl) (by rfl) ?_); clear F a; intro a W48 M F
      refine l_step rfl (o_val F (r_assign F rfl) rfl ?_); clear F a; intro a F
      refine l_nil ?_
      refine hK32 _ _ ?_
      refine c_seq (fun K33 hK33 => ?_)
      refine c_seq (fun K34 hK34 => ?_)
      refine wp_region_lit ?_
      refine l_step rfl (o_val F (r_move F rfl) rfl ?_); clear F a; intro a F
      refine l_step rfl (o_val F (r_eql_i64 F rfl rfl) rfl ?_); clear F a; intro a F
      refine l_step rfl (o_val F (r_move F rfl) rfl ?_); clear F a; intro a F
      refine l_step rfl (o_val F (r_move F rfl) rfl ?_); clear F a; intro a F
      refine l_step rfl (o_val F (r_eql_u32 F rfl rfl) rfl ?_); clear F a; intro a F
      refine l_step rfl (o_val F (r_neq_bool F und_bool rfl rfl) rfl ?_); clear F a; intro a F
      refine l_step rfl (o_val F (r_move F rfl) rfl ?_); clear F a; intro a F
      refine l_guard F rfl rfl rfl (by rcases T4 with ⟨e1, e2⟩ | ⟨e1, e2⟩ <;> simp [e1, e2]) (o_val F (r_move F rfl) rfl ?_); clear F a; intro a F
      refine l_guard F rfl rfl rfl (by rcases T4 with ⟨e1, e2⟩ | ⟨e1, e2⟩ <;> simp [e1, e2]) (o_val F (r_neq_i64 F rfl rfl) rfl ?_); clear F a; intro a F
      refine l_guard F rfl rfl rfl (by rcases T4 with ⟨e1, e2⟩ | ⟨e1, e2⟩ <;> simp [e1, e2]) (o_val F (r_move F rfl) rfl ?_); clear F a; intro a F
      refine c_split F (i := 119) rfl (fun g119 => ?_) (fun g119 => ?_)
      · skip
        refine l_guard F rfl rfl rfl g119 (o_val F (r_move F rfl) rfl ?_); clear F a; intro a F
        refine l_guard F rfl rfl rfl g119 (o_val F (r_neq_i64 F rfl rfl) rfl ?_); clear F a; intro a F
        refine l_guard F rfl rfl rfl (by rcases T4 with ⟨e1, e2⟩ | ⟨e1, e2⟩ <;> simp [e1, e2]) (o_val F (r_pick_t F rfl g119 rfl) rfl ?_); clear F a; intro a F
        refine l_step rfl (o_val F (r_pick_f F rfl (by rcases T4 with ⟨e1, e2⟩ | ⟨e1, e2⟩ <;> simp [e1, e2]) rfl) rfl ?_); clear F a; intro a F
        refine l_nil ?_
        refine hK34 _ _ ?_
        refine c_false F rfl (by rcases T4 with ⟨e1, e2⟩ | ⟨e1, e2⟩ <;> simp_all) ?_
        refine wp_skip ?_
        refine hK33 _ _ ?_
        refine c_seq (fun K35 hK35 => ?_)
        refine wp_region_lit ?_
        refine l_step rfl (o_val F (r_load M F rfl (by repeat (first | exact List.mem_cons_self | apply List.mem_cons_of_mem)) agg_State (seg_all rfl)) rfl ?_); clear F a; intro a F
        refine l_step rfl (o_val F (r_move F rfl) rfl ?_); clear F a; intro a F
        refine l_step rfl (o_val F (r_add_u32 F (y := 1) rfl rfl) rfl ?_); clear F a; intro a F
        refine l_step rfl (o_val F (r_load M F rfl (by repeat (first | exact List.mem_cons_self | apply List.mem_cons_of_mem)) agg_Op (seg_all rfl)) rfl ?_); clear F a; intro a F
        refine l_step rfl (o_val F (r_build F rfl (b_Entry_0_1_2 50 _ _)) rfl ?_); clear F a; intro a F
        refine l_step rfl (o_call M F rfl (c_pglog_Add M.imm hl3) rfl ?_); clear F a; intro a W49 v49 G49 hp49 M E49 F
        have hl := hl.mono E49.gl
        have hl1 := hl1.mono E49.gl
        have hl2 := hl2.mono E49.gl
        have hl3 := hl3.mono E49.gl
        obtain ⟨l5, rfl, hl5⟩ := hp49
        refine l_step rfl (o_val F (r_move F rfl) rfl ?_); clear F a; intro a F
        refine l_step rfl (o_val F (r_extract F rfl rfl) rfl ?_); clear F a; intro a F
        refine l_step rfl (o_val F (r_extract F rfl rfl) rfl ?_); clear F a; intro a F
        refine l_step rfl (o_alloc M F zer_State rfl ?_); clear F a; intro a W50 b15 M F
        refine l_step rfl (o_storeA M F rfl rfl agg_State.size (by repeat (first | exact Upd.here _ _ _ _ _ | apply Upd.there)) (by rfl) (by rfl) (by rfl) ?_); clear F a; intro a W51 M F
        refine l_step rfl (o_val F (r_assign F rfl) rfl ?_); clear F a; intro a F
        refine l_nil ?_
        refine hK35 _ _ ?_
        refine c_seq (fun K36 hK36 => ?_)
        refine wp_region_lit ?_
        refine l_step rfl (o_val F (r_load M F rfl (by repeat (first | exact List.mem_cons_self | apply List.mem_cons_of_mem)) agg_State (seg_all rfl)) rfl ?_); clear F a; intro a F
        refine l_step rfl (o_val F (r_move F rfl) rfl ?_); clear F a; intro a F
        refine l_step rfl (o_val F (r_add_u32 F (y := 1) rfl rfl) rfl ?_); clear F a; intro a F
        refine l_step rfl (o_val F (r_load M F rfl (by repeat (first | exact List.mem_cons_self | apply List.mem_cons_of_mem)) agg_Op (seg_all rfl)) rfl ?_); clear F a; intro a F
        refine l_step rfl (o_val F (r_build F rfl (b_Entry_0_1_2 50 _ _)) rfl ?_); clear F a; intro a F
        refine l_step rfl (o_call M F rfl (c_pglog_Add M.imm hl) rfl ?_); clear F a; intro a W52 v52 G52 hp52 M E52 F
        have hl := hl.mono E52.gl
        have hl1 := hl1.mono E52.gl
        have hl2 := hl2.mono E52.gl
        have hl3 := hl3.mono E52.gl
        have hl5 := hl5.mono E52.gl
        obtain ⟨l6, rfl, hl6⟩ := hp52
        refine l_step rfl (o_val F (r_move F rfl) rfl ?_); clear F a; intro a F
        refine l_step rfl (o_val F (r_extract F rfl rfl) rfl ?_); clear F a; intro a F
        refine l_step rfl (o_val F (r_extract F rfl rfl) rfl ?_); clear F a; intro a F
        refine l_step rfl (o_alloc M F zer_State rfl ?_); clear F a; intro a W53 b16 M F
        refine l_step rfl (o_storeA M F rfl rfl agg_State.size (by repeat (first | exact Upd.here _ _ _ _ _ | apply Upd.there)) (by rfl) (by rfl) (by rfl) ?_); clear F a; intro a W54 M F
        refine l_step rfl (o_val F (r_assign F rfl) rfl ?_); clear F a; intro a F
        refine l_nil ?_
        refine hK36 _ _ ?_
        refine c_seq (fun K37 hK37 => ?_)
        refine c_drawM M [] mixed (fun M => ?_)
        have Ms := M
        have hq4 := Keeps.here M
        have hle4 := M.gle
        refine t_take (i := 0) F rfl rfl hq4 (fun _ _ => r_move F rfl) (fun _ _ _ h => h) (by kernel_rfl) (by kernel_rfl) (by kernel_rfl) (by kernel_rfl) ?_; clear F a; intro a F
        refine t_take (i := 1) F rfl rfl hq4 (fun _ _ => r_move F rfl) (fun _ _ _ h => h) (by kernel_rfl) (by kernel_rfl) (by kernel_rfl) (by kernel_rfl) ?_; clear F a; intro a F
        refine t_take (i := 2) F rfl rfl hq4 (fun _ _ => r_eql_i64 F rfl rfl) (fun _ _ _ h => h) (by kernel_rfl) (by kernel_rfl) (by kernel_rfl) (by kernel_rfl) ?_; clear F a; intro a F
        refine t_take (i := 3) F rfl rfl hq4 (fun _ _ => r_move F rfl) (fun _ _ _ h => h) (by kernel_rfl) (by kernel_rfl) (by kernel_rfl) (by kernel_rfl) ?_; clear F a; intro a F
        refine t_takeg (i := 4) F rfl rfl rfl (decide_eq_true (add_folded hok _ _)) rfl hq4 (fun _ ⟨_, _, M'⟩ => r_load M' F rfl (by repeat (first | exact List.mem_cons_self | apply List.mem_cons_of_mem)) agg_State (seg_all rfl)) (fun _ _ _ h => h) (by kernel_rfl) (by kernel_rfl) (by kernel_rfl) (by kernel_rfl) ?_; clear F a; intro a F
        refine t_takeg (i := 6) F rfl rfl rfl (decide_eq_true (add_folded hok _ _)) rfl hq4 (fun _ ⟨_, _, M'⟩ => r_load M' F rfl (by repeat (first | exact List.mem_cons_self | apply List.mem_cons_of_mem)) agg_State (seg_all rfl)) (fun _ _ _ h => h) (by kernel_rfl) (by kernel_rfl) (by kernel_rfl) (by kernel_rfl) ?_; clear F a; intro a F
        refine t_oneg (i := 5) F (by kernel_rfl) rfl rfl rfl rfl (decide_eq_true (add_folded hok _ _)) (o_call M F rfl (c_pglog_Fold M.imm hl5) rfl ?_); clear F a; intro a W55 v55 G55 hp55 M E55 F
        have hl := hl.mono E55.gl
        have hl1 := hl1.mono E55.gl
        have hl2 := hl2.mono E55.gl
        have hl3 := hl3.mono E55.gl
        have hl5 := hl5.mono E55.gl
        have hl6 := hl6.mono E55.gl
        subst hp55
        have hle4 := hle4.trans E55.gl
        refine keepAnd (Keeps.mk hle4 M (by repeat (first | exact List.Sublist.refl _ | apply List.Sublist.cons_cons | apply List.Sublist.cons))) (fun hq4 => ?_)
        refine t_oneg (i := 7) F (by kernel_rfl) rfl rfl rfl rfl (decide_eq_true (add_folded hok _ _)) (o_call M F rfl (c_pglog_Fold M.imm hl6) rfl ?_); clear F a; intro a W56 v56 G56 hp56 M E56 F
        have hl := hl.mono E56.gl
        have hl1 := hl1.mono E56.gl
        have hl2 := hl2.mono E56.gl
        have hl3 := hl3.mono E56.gl
        have hl5 := hl5.mono E56.gl
        have hl6 := hl6.mono E56.gl
        subst hp56
        have hle4 := hle4.trans E56.gl
        refine keepAnd (Keeps.mk hle4 M (by repeat (first | exact List.Sublist.refl _ | apply List.Sublist.cons_cons | apply List.Sublist.cons))) (fun hq4 => ?_)
        refine t_takeg (i := 8) F rfl rfl rfl (decide_eq_true (add_folded hok _ _)) rfl hq4 (fun _ _ => r_eql_Base F rfl rfl) (fun _ _ _ h => h) (by kernel_rfl) (by kernel_rfl) (by kernel_rfl) (by kernel_rfl) ?_; clear F a; intro a F
        refine t_take (i := 9) F rfl rfl hq4 (fun _ _ => r_pick_t F rfl (decide_eq_true (add_folded hok _ _)) rfl) (fun _ _ _ h => h) (by kernel_rfl) (by kernel_rfl) (by kernel_rfl) (by kernel_rfl) ?_; clear F a; intro a F
        refine t_take (i := 10) F rfl rfl hq4 (fun _ _ => r_assign F rfl) (fun _ _ _ h => h) (by kernel_rfl) (by kernel_rfl) (by kernel_rfl) (by kernel_rfl) ?_; clear F a; intro a F
        refine t_done (by kernel_rfl) ?_ _
        refine hK37 _ _ ?_
        refine wp_ret ?_
        exact ret1 Try.results3 M F (rv_tmp F rfl) (congrArg Value.bool (decide_eq_true (fold_add hok _ _)))
      · skip
        iterate 2 (refine l_skip F rfl rfl rfl g119 rfl rfl ?_; clear F a; intro a F)
        refine l_guard F rfl rfl rfl (by rcases T4 with ⟨e1, e2⟩ | ⟨e1, e2⟩ <;> simp [e1, e2]) (o_val F (r_pick_f F rfl g119 rfl) rfl ?_); clear F a; intro a F
        refine l_step rfl (o_val F (r_pick_f F rfl (by rcases T4 with ⟨e1, e2⟩ | ⟨e1, e2⟩ <;> simp [e1, e2]) rfl) rfl ?_); clear F a; intro a F
        refine l_nil ?_
        refine hK34 _ _ ?_
        refine c_false F rfl (by rcases T4 with ⟨e1, e2⟩ | ⟨e1, e2⟩ <;> simp_all) ?_
        refine wp_skip ?_
        refine hK33 _ _ ?_
        refine c_seq (fun K38 hK38 => ?_)
        refine wp_region_lit ?_
        refine l_step rfl (o_val F (r_load M F rfl (by repeat (first | exact List.mem_cons_self | apply List.mem_cons_of_mem)) agg_State (seg_all rfl)) rfl ?_); clear F a; intro a F
        refine l_step rfl (o_val F (r_move F rfl) rfl ?_); clear F a; intro a F
        refine l_step rfl (o_val F (r_add_u32 F (y := 1) rfl rfl) rfl ?_); clear F a; intro a F
        refine l_step rfl (o_val F (r_load M F rfl (by repeat (first | exact List.mem_cons_self | apply List.mem_cons_of_mem)) agg_Op (seg_all rfl)) rfl ?_); clear F a; intro a F
        refine l_step rfl (o_val F (r_build F rfl (b_Entry_0_1_2 50 _ _)) rfl ?_); clear F a; intro a F
        refine l_step rfl (o_call M F rfl (c_pglog_Add M.imm hl3) rfl ?_); clear F a; intro a W57 v57 G57 hp57 M E57 F
        have hl := hl.mono E57.gl
        have hl1 := hl1.mono E57.gl
        have hl2 := hl2.mono E57.gl
        have hl3 := hl3.mono E57.gl
        obtain ⟨l5, rfl, hl5⟩ := hp57
        refine l_step rfl (o_val F (r_move F rfl) rfl ?_); clear F a; intro a F
        refine l_step rfl (o_val F (r_extract F rfl rfl) rfl ?_); clear F a; intro a F
        refine l_step rfl (o_val F (r_extract F rfl rfl) rfl ?_); clear F a; intro a F
        refine l_step rfl (o_alloc M F zer_State rfl ?_); clear F a; intro a W58 b17 M F
        refine l_step rfl (o_storeA M F rfl rfl agg_State.size (by repeat (first | exact Upd.here _ _ _ _ _ | apply Upd.there)) (by rfl) (by rfl) (by rfl) ?_); clear F a; intro a W59 M F
        refine l_step rfl (o_val F (r_assign F rfl) rfl ?_); clear F a; intro a F
        refine l_nil ?_
        refine hK38 _ _ ?_
        refine c_seq (fun K39 hK39 => ?_)
        refine wp_region_lit ?_
        refine l_step rfl (o_val F (r_load M F rfl (by repeat (first | exact List.mem_cons_self | apply List.mem_cons_of_mem)) agg_State (seg_all rfl)) rfl ?_); clear F a; intro a F
        refine l_step rfl (o_val F (r_move F rfl) rfl ?_); clear F a; intro a F
        refine l_step rfl (o_val F (r_add_u32 F (y := 1) rfl rfl) rfl ?_); clear F a; intro a F
        refine l_step rfl (o_val F (r_load M F rfl (by repeat (first | exact List.mem_cons_self | apply List.mem_cons_of_mem)) agg_Op (seg_all rfl)) rfl ?_); clear F a; intro a F
        refine l_step rfl (o_val F (r_build F rfl (b_Entry_0_1_2 50 _ _)) rfl ?_); clear F a; intro a F
        refine l_step rfl (o_call M F rfl (c_pglog_Add M.imm hl) rfl ?_); clear F a; intro a W60 v60 G60 hp60 M E60 F
        have hl := hl.mono E60.gl
        have hl1 := hl1.mono E60.gl
        have hl2 := hl2.mono E60.gl
        have hl3 := hl3.mono E60.gl
        have hl5 := hl5.mono E60.gl
        obtain ⟨l6, rfl, hl6⟩ := hp60
        refine l_step rfl (o_val F (r_move F rfl) rfl ?_); clear F a; intro a F
        refine l_step rfl (o_val F (r_extract F rfl rfl) rfl ?_); clear F a; intro a F
        refine l_step rfl (o_val F (r_extract F rfl rfl) rfl ?_); clear F a; intro a F
        refine l_step rfl (o_alloc M F zer_State rfl ?_); clear F a; intro a W61 b18 M F
        refine l_step rfl (o_storeA M F rfl rfl agg_State.size (by repeat (first | exact Upd.here _ _ _ _ _ | apply Upd.there)) (by rfl) (by rfl) (by rfl) ?_); clear F a; intro a W62 M F
        refine l_step rfl (o_val F (r_assign F rfl) rfl ?_); clear F a; intro a F
        refine l_nil ?_
        refine hK39 _ _ ?_
        refine c_seq (fun K40 hK40 => ?_)
        refine c_drawM M [] mixed (fun M => ?_)
        have Ms := M
        have hq5 := Keeps.here M
        have hle5 := M.gle
        refine t_take (i := 0) F rfl rfl hq5 (fun _ _ => r_move F rfl) (fun _ _ _ h => h) (by kernel_rfl) (by kernel_rfl) (by kernel_rfl) (by kernel_rfl) ?_; clear F a; intro a F
        refine t_take (i := 1) F rfl rfl hq5 (fun _ _ => r_move F rfl) (fun _ _ _ h => h) (by kernel_rfl) (by kernel_rfl) (by kernel_rfl) (by kernel_rfl) ?_; clear F a; intro a F
        refine t_take (i := 2) F rfl rfl hq5 (fun _ _ => r_eql_i64 F rfl rfl) (fun _ _ _ h => h) (by kernel_rfl) (by kernel_rfl) (by kernel_rfl) (by kernel_rfl) ?_; clear F a; intro a F
        refine t_take (i := 3) F rfl rfl hq5 (fun _ _ => r_move F rfl) (fun _ _ _ h => h) (by kernel_rfl) (by kernel_rfl) (by kernel_rfl) (by kernel_rfl) ?_; clear F a; intro a F
        refine t_takeg (i := 4) F rfl rfl rfl (decide_eq_true (add_folded hok _ _)) rfl hq5 (fun _ ⟨_, _, M'⟩ => r_load M' F rfl (by repeat (first | exact List.mem_cons_self | apply List.mem_cons_of_mem)) agg_State (seg_all rfl)) (fun _ _ _ h => h) (by kernel_rfl) (by kernel_rfl) (by kernel_rfl) (by kernel_rfl) ?_; clear F a; intro a F
        refine t_takeg (i := 6) F rfl rfl rfl (decide_eq_true (add_folded hok _ _)) rfl hq5 (fun _ ⟨_, _, M'⟩ => r_load M' F rfl (by repeat (first | exact List.mem_cons_self | apply List.mem_cons_of_mem)) agg_State (seg_all rfl)) (fun _ _ _ h => h) (by kernel_rfl) (by kernel_rfl) (by kernel_rfl) (by kernel_rfl) ?_; clear F a; intro a F
        refine t_oneg (i := 5) F (by kernel_rfl) rfl rfl rfl rfl (decide_eq_true (add_folded hok _ _)) (o_call M F rfl (c_pglog_Fold M.imm hl5) rfl ?_); clear F a; intro a W63 v63 G63 hp63 M E63 F
        have hl := hl.mono E63.gl
        have hl1 := hl1.mono E63.gl
        have hl2 := hl2.mono E63.gl
        have hl3 := hl3.mono E63.gl
        have hl5 := hl5.mono E63.gl
        have hl6 := hl6.mono E63.gl
        subst hp63
        have hle5 := hle5.trans E63.gl
        refine keepAnd (Keeps.mk hle5 M (by repeat (first | exact List.Sublist.refl _ | apply List.Sublist.cons_cons | apply List.Sublist.cons))) (fun hq5 => ?_)
        refine t_oneg (i := 7) F (by kernel_rfl) rfl rfl rfl rfl (decide_eq_true (add_folded hok _ _)) (o_call M F rfl (c_pglog_Fold M.imm hl6) rfl ?_); clear F a; intro a W64 v64 G64 hp64 M E64 F
        have hl := hl.mono E64.gl
        have hl1 := hl1.mono E64.gl
        have hl2 := hl2.mono E64.gl
        have hl3 := hl3.mono E64.gl
        have hl5 := hl5.mono E64.gl
        have hl6 := hl6.mono E64.gl
        subst hp64
        have hle5 := hle5.trans E64.gl
        refine keepAnd (Keeps.mk hle5 M (by repeat (first | exact List.Sublist.refl _ | apply List.Sublist.cons_cons | apply List.Sublist.cons))) (fun hq5 => ?_)
        refine t_takeg (i := 8) F rfl rfl rfl (decide_eq_true (add_folded hok _ _)) rfl hq5 (fun _ _ => r_eql_Base F rfl rfl) (fun _ _ _ h => h) (by kernel_rfl) (by kernel_rfl) (by kernel_rfl) (by kernel_rfl) ?_; clear F a; intro a F
        refine t_take (i := 9) F rfl rfl hq5 (fun _ _ => r_pick_t F rfl (decide_eq_true (add_folded hok _ _)) rfl) (fun _ _ _ h => h) (by kernel_rfl) (by kernel_rfl) (by kernel_rfl) (by kernel_rfl) ?_; clear F a; intro a F
        refine t_take (i := 10) F rfl rfl hq5 (fun _ _ => r_assign F rfl) (fun _ _ _ h => h) (by kernel_rfl) (by kernel_rfl) (by kernel_rfl) (by kernel_rfl) ?_; clear F a; intro a F
        refine t_done (by kernel_rfl) ?_ _
        refine hK40 _ _ ?_
        refine wp_ret ?_
        exact ret1 Try.results3 M F (rv_tmp F rfl) (congrArg Value.bool (decide_eq_true (fold_add hok _ _)))
end Go.Proofs.Ytfkmaepcjognkaa.Pad
