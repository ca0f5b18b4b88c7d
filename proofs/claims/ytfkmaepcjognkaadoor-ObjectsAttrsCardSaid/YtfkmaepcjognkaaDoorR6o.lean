/- Walks: the document's own operations and states (layer 6, the door) come to the program's. The objects' bytes are few. -/
import Derived.Test.YtfkmaepcjognkaaDoorDoorA
namespace Go.Proofs.YtfkmaepcjognkaaDoor.Pad
open Go Go.Proofs
set_option linter.unusedVariables false
set_option maxRecDepth 8000
set_option linter.unusedSimpArgs false
theorem c_paddockref6_IsOp {w : World} {G0 : Ghost} (hI : Imm G0 w) {o : POp} : Ret P 17 [agg o.enc] [] w G0 (fun G W v => v = .bool (isOp o)) := by
  refine enter Tryd.func17 rfl Tryd.ntmps17 rfl rfl hI (fun a F M => ?_)
  refine c_seq (fun K1 hK1 => ?_)
  refine wp_region_lit ?_
  refine l_step rfl (o_box M F rfl rfl ?_); clear F a; intro a W1 b1 M F
  refine l_step rfl (o_val F (r_assign F rfl) rfl ?_); clear F a; intro a F
  refine l_nil ?_
  refine hK1 _ _ ?_
  refine c_seq (fun K2 hK2 => ?_)
  refine c_seq (fun K3 hK3 => ?_)
  refine wp_region_lit ?_
  refine l_step rfl (o_val F (r_fieldAddr F rfl fld_Op_0) rfl ?_); clear F a; intro a F
  refine l_step rfl (o_val F (r_load1 M F rfl (by repeat (first | exact List.mem_cons_self | apply List.mem_cons_of_mem)) sca_u8 rfl) rfl ?_); clear F a; intro a F
  refine l_step rfl (o_val F (r_lss_u8 F (y := 1) rfl rfl) rfl ?_); clear F a; intro a F
  refine l_step rfl (o_val F (r_move F rfl) rfl ?_); clear F a; intro a F
  refine c_split F (i := 6) rfl (fun g6 => ?_) (fun g6 => ?_)
  · skip
    iterate 3 (refine l_skip F rfl rfl rfl g6 rfl rfl ?_; clear F a; intro a F)
    refine l_step rfl (o_val F (r_pick_t F rfl g6 rfl) rfl ?_); clear F a; intro a F
    refine l_step rfl (o_val F (r_move F rfl) rfl ?_); clear F a; intro a F
    iterate 3 (refine l_skip F rfl rfl rfl rfl rfl rfl ?_; clear F a; intro a F)
    refine l_step rfl (o_val F (r_pick_t F rfl rfl rfl) rfl ?_); clear F a; intro a F
    refine l_step rfl (o_val F (r_move F rfl) rfl ?_); clear F a; intro a F
    iterate 3 (refine l_skip F rfl rfl rfl rfl rfl rfl ?_; clear F a; intro a F)
    refine l_step rfl (o_val F (r_pick_t F rfl rfl rfl) rfl ?_); clear F a; intro a F
    refine l_step rfl (o_val F (r_move F rfl) rfl ?_); clear F a; intro a F
    iterate 3 (refine l_skip F rfl rfl rfl rfl rfl rfl ?_; clear F a; intro a F)
    refine l_step rfl (o_val F (r_pick_t F rfl rfl rfl) rfl ?_); clear F a; intro a F
    refine l_step rfl (o_val F (r_move F rfl) rfl ?_); clear F a; intro a F
    iterate 3 (refine l_skip F rfl rfl rfl rfl rfl rfl ?_; clear F a; intro a F)
    refine l_step rfl (o_val F (r_pick_t F rfl rfl rfl) rfl ?_); clear F a; intro a F
    refine l_step rfl (o_val F (r_move F rfl) rfl ?_); clear F a; intro a F
    iterate 4 (refine l_skip F rfl rfl rfl rfl rfl rfl ?_; clear F a; intro a F)
    refine l_step rfl (o_val F (r_pick_t F rfl rfl rfl) rfl ?_); clear F a; intro a F
    refine l_nil ?_
    refine hK3 _ _ ?_
    refine c_true F rfl rfl ?_
    refine c_seq (fun K4 hK4 => ?_)
    refine wp_region_lit ?_
    refine l_step rfl (o_val F (r_assign F rfl) rfl ?_); clear F a; intro a F
    refine l_nil ?_
    refine hK4 _ _ ?_
    refine wp_ret ?_
    exact ret1 Tryd.results17 M F (rv_tmp F rfl) (by clear hI M F hK1 hK2 hK3 hK4; rw [← rIsOp_eq]; unfold rIsOp; simp_all)
  · skip
    refine l_guard F rfl rfl rfl g6 (o_val F (r_fieldAddr F rfl fld_Op_0) rfl ?_); clear F a; intro a F
    refine l_guard F rfl rfl rfl g6 (o_val F (r_load1 M F rfl (by repeat (first | exact List.mem_cons_self | apply List.mem_cons_of_mem)) sca_u8 rfl) rfl ?_); clear F a; intro a F
    refine l_guard F rfl rfl rfl g6 (o_val F (r_gtr_u8 F (y := 3) rfl rfl) rfl ?_); clear F a; intro a F
    refine l_step rfl (o_val F (r_pick_f F rfl g6 rfl) rfl ?_); clear F a; intro a F
    refine l_step rfl (o_val F (r_move F rfl) rfl ?_); clear F a; intro a F
    refine c_split F (i := 11) rfl (fun g11 => ?_) (fun g11 => ?_)
    · skip
      iterate 3 (refine l_skip F rfl rfl rfl g11 rfl rfl ?_; clear F a; intro a F)
      refine l_step rfl (o_val F (r_pick_t F rfl g11 rfl) rfl ?_); clear F a; intro a F
      refine l_step rfl (o_val F (r_move F rfl) rfl ?_); clear F a; intro a F
      iterate 3 (refine l_skip F rfl rfl rfl rfl rfl rfl ?_; clear F a; intro a F)
      refine l_step rfl (o_val F (r_pick_t F rfl rfl rfl) rfl ?_); clear F a; intro a F
      refine l_step rfl (o_val F (r_move F rfl) rfl ?_); clear F a; intro a F
      iterate 3 (refine l_skip F rfl rfl rfl rfl rfl rfl ?_; clear F a; intro a F)
      refine l_step rfl (o_val F (r_pick_t F rfl rfl rfl) rfl ?_); clear F a; intro a F
      refine l_step rfl (o_val F (r_move F rfl) rfl ?_); clear F a; intro a F
      iterate 3 (refine l_skip F rfl rfl rfl rfl rfl rfl ?_; clear F a; intro a F)
      refine l_step rfl (o_val F (r_pick_t F rfl rfl rfl) rfl ?_); clear F a; intro a F
      refine l_step rfl (o_val F (r_move F rfl) rfl ?_); clear F a; intro a F
      iterate 4 (refine l_skip F rfl rfl rfl rfl rfl rfl ?_; clear F a; intro a F)
      refine l_step rfl (o_val F (r_pick_t F rfl rfl rfl) rfl ?_); clear F a; intro a F
      refine l_nil ?_
      refine hK3 _ _ ?_
      refine c_true F rfl rfl ?_
      refine c_seq (fun K5 hK5 => ?_)
      refine wp_region_lit ?_
      refine l_step rfl (o_val F (r_assign F rfl) rfl ?_); clear F a; intro a F
      refine l_nil ?_
      refine hK5 _ _ ?_
      refine wp_ret ?_
      exact ret1 Tryd.results17 M F (rv_tmp F rfl) (by clear hI M F hK1 hK2 hK3 hK5; rw [← rIsOp_eq]; unfold rIsOp; simp_all)
    · skip
      refine l_guard F rfl rfl rfl g11 (o_val F (r_fieldAddr F rfl fld_Op_1) rfl ?_); clear F a; intro a F
      refine l_guard F rfl rfl rfl g11 (o_val F (r_load1 M F rfl (by repeat (first | exact List.mem_cons_self | apply List.mem_cons_of_mem)) sca_u32 rfl) rfl ?_); clear F a; intro a F
      refine l_guard F rfl rfl rfl g11 (o_val F (r_lss_u32 F (y := 1) rfl rfl) rfl ?_); clear F a; intro a F
      refine l_step rfl (o_val F (r_pick_f F rfl g11 rfl) rfl ?_); clear F a; intro a F
      refine l_step rfl (o_val F (r_move F rfl) rfl ?_); clear F a; intro a F
      refine c_split F (i := 16) rfl (fun g16 => ?_) (fun g16 => ?_)
      · skip
        iterate 3 (refine l_skip F rfl rfl rfl g16 rfl rfl ?_; clear F a; intro a F)
        refine l_step rfl (o_val F (r_pick_t F rfl g16 rfl) rfl ?_); clear F a; intro a F
        refine l_step rfl (o_val F (r_move F rfl) rfl ?_); clear F a; intro a F
        iterate 3 (refine l_skip F rfl rfl rfl rfl rfl rfl ?_; clear F a; intro a F)
        refine l_step rfl (o_val F (r_pick_t F rfl rfl rfl) rfl ?_); clear F a; intro a F
        refine l_step rfl (o_val F (r_move F rfl) rfl ?_); clear F a; intro a F
        iterate 3 (refine l_skip F rfl rfl rfl rfl rfl rfl ?_; clear F a; intro a F)
        refine l_step rfl (o_val F (r_pick_t F rfl rfl rfl) rfl ?_); clear F a; intro a F
        refine l_step rfl (o_val F (r_move F rfl) rfl ?_); clear F a; intro a F
        iterate 4 (refine l_skip F rfl rfl rfl rfl rfl rfl ?_; clear F a; intro a F)
        refine l_step rfl (o_val F (r_pick_t F rfl rfl rfl) rfl ?_); clear F a; intro a F
        refine l_nil ?_
        refine hK3 _ _ ?_
        refine c_true F rfl rfl ?_
        refine c_seq (fun K6 hK6 => ?_)
        refine wp_region_lit ?_
        refine l_step rfl (o_val F (r_assign F rfl) rfl ?_); clear F a; intro a F
        refine l_nil ?_
        refine hK6 _ _ ?_
        refine wp_ret ?_
        exact ret1 Tryd.results17 M F (rv_tmp F rfl) (by clear hI M F hK1 hK2 hK3 hK6; rw [← rIsOp_eq]; unfold rIsOp; simp_all)
      · skip
        refine l_guard F rfl rfl rfl g16 (o_val F (r_fieldAddr F rfl fld_Op_2) rfl ?_); clear F a; intro a F
        refine l_guard F rfl rfl rfl g16 (o_val F (r_load1 M F rfl (by repeat (first | exact List.mem_cons_self | apply List.mem_cons_of_mem)) sca_u8 rfl) rfl ?_); clear F a; intro a F
        refine l_guard F rfl rfl rfl g16 (o_val F (r_lss_u8 F (y := 1) rfl rfl) rfl ?_); clear F a; intro a F
        refine l_step rfl (o_val F (r_pick_f F rfl g16 rfl) rfl ?_); clear F a; intro a F
        refine l_step rfl (o_val F (r_move F rfl) rfl ?_); clear F a; intro a F
        refine c_split F (i := 21) rfl (fun g21 => ?_) (fun g21 => ?_)
        · skip
          iterate 3 (refine l_skip F rfl rfl rfl g21 rfl rfl ?_; clear F a; intro a F)
          refine l_step rfl (o_val F (r_pick_t F rfl g21 rfl) rfl ?_); clear F a; intro a F
          refine l_step rfl (o_val F (r_move F rfl) rfl ?_); clear F a; intro a F
          iterate 3 (refine l_skip F rfl rfl rfl rfl rfl rfl ?_; clear F a; intro a F)
          refine l_step rfl (o_val F (r_pick_t F rfl rfl rfl) rfl ?_); clear F a; intro a F
          refine l_step rfl (o_val F (r_move F rfl) rfl ?_); clear F a; intro a F
          iterate 4 (refine l_skip F rfl rfl rfl rfl rfl rfl ?_; clear F a; intro a F)
          refine l_step rfl (o_val F (r_pick_t F rfl rfl rfl) rfl ?_); clear F a; intro a F
          refine l_nil ?_
          refine hK3 _ _ ?_
          refine c_true F rfl rfl ?_
          refine c_seq (fun K7 hK7 => ?_)
          refine wp_region_lit ?_
          refine l_step rfl (o_val F (r_assign F rfl) rfl ?_); clear F a; intro a F
          refine l_nil ?_
          refine hK7 _ _ ?_
          refine wp_ret ?_
          exact ret1 Tryd.results17 M F (rv_tmp F rfl) (by clear hI M F hK1 hK2 hK3 hK7; rw [← rIsOp_eq]; unfold rIsOp; simp_all)
        · skip
          refine l_guard F rfl rfl rfl g21 (o_val F (r_fieldAddr F rfl fld_Op_2) rfl ?_); clear F a; intro a F
          refine l_guard F rfl rfl rfl g21 (o_val F (r_load1 M F rfl (by repeat (first | exact List.mem_cons_self | apply List.mem_cons_of_mem)) sca_u8 rfl) rfl ?_); clear F a; intro a F
          refine l_guard F rfl rfl rfl g21 (o_val F (r_gtr_u8 F (y := 5) rfl rfl) rfl ?_); clear F a; intro a F
          refine l_step rfl (o_val F (r_pick_f F rfl g21 rfl) rfl ?_); clear F a; intro a F
          refine l_step rfl (o_val F (r_move F rfl) rfl ?_); clear F a; intro a F
          refine c_split F (i := 26) rfl (fun g26 => ?_) (fun g26 => ?_)
          · skip
            iterate 3 (refine l_skip F rfl rfl rfl g26 rfl rfl ?_; clear F a; intro a F)
            refine l_step rfl (o_val F (r_pick_t F rfl g26 rfl) rfl ?_); clear F a; intro a F
            refine l_step rfl (o_val F (r_move F rfl) rfl ?_); clear F a; intro a F
            iterate 4 (refine l_skip F rfl rfl rfl rfl rfl rfl ?_; clear F a; intro a F)
            refine l_step rfl (o_val F (r_pick_t F rfl rfl rfl) rfl ?_); clear F a; intro a F
            refine l_nil ?_
            refine hK3 _ _ ?_
            refine c_true F rfl rfl ?_
            refine c_seq (fun K8 hK8 => ?_)
            refine wp_region_lit ?_
            refine l_step rfl (o_val F (r_assign F rfl) rfl ?_); clear F a; intro a F
            refine l_nil ?_
            refine hK8 _ _ ?_
            refine wp_ret ?_
            exact ret1 Tryd.results17 M F (rv_tmp F rfl) (by clear hI M F hK1 hK2 hK3 hK8; rw [← rIsOp_eq]; unfold rIsOp; simp_all)
          · skip
            refine l_guard F rfl rfl rfl g26 (o_val F (r_fieldAddr F rfl fld_Op_3) rfl ?_); clear F a; intro a F
            refine l_guard F rfl rfl rfl g26 (o_val F (r_load1 M F rfl (by repeat (first | exact List.mem_cons_self | apply List.mem_cons_of_mem)) sca_u8 rfl) rfl ?_); clear F a; intro a F
            refine l_guard F rfl rfl rfl g26 (o_val F (r_geq_u8 F (y := 6) rfl rfl) rfl ?_); clear F a; intro a F
            refine l_step rfl (o_val F (r_pick_f F rfl g26 rfl) rfl ?_); clear F a; intro a F
            refine l_step rfl (o_val F (r_move F rfl) rfl ?_); clear F a; intro a F
            refine c_split F (i := 31) rfl (fun g31 => ?_) (fun g31 => ?_)
            · skip
              iterate 4 (refine l_skip F rfl rfl rfl g31 rfl rfl ?_; clear F a; intro a F)
              refine l_step rfl (o_val F (r_pick_t F rfl g31 rfl) rfl ?_); clear F a; intro a F
              refine l_nil ?_
              refine hK3 _ _ ?_
              refine c_true F rfl rfl ?_
              refine c_seq (fun K9 hK9 => ?_)
              refine wp_region_lit ?_
              refine l_step rfl (o_val F (r_assign F rfl) rfl ?_); clear F a; intro a F
              refine l_nil ?_
              refine hK9 _ _ ?_
              refine wp_ret ?_
              exact ret1 Tryd.results17 M F (rv_tmp F rfl) (by clear hI M F hK1 hK2 hK3 hK9; rw [← rIsOp_eq]; unfold rIsOp; simp_all)
            · skip
              refine l_guard F rfl rfl rfl g31 (o_val F (r_fieldAddr F rfl fld_Op_5) rfl ?_); clear F a; intro a F
              refine l_guard F rfl rfl rfl g31 (o_val F (r_load1 M F rfl (by repeat (first | exact List.mem_cons_self | apply List.mem_cons_of_mem)) sca_string rfl) rfl ?_); clear F a; intro a F
              refine l_guard F rfl rfl rfl g31 (o_val F (r_len_string F und_string rfl) rfl ?_); clear F a; intro a F
              refine l_guard F rfl rfl rfl g31 (o_val F (r_gtr_i64 F rfl rfl) rfl ?_); clear F a; intro a F
              refine l_step rfl (o_val F (r_pick_f F rfl g31 rfl) rfl ?_); clear F a; intro a F
              refine l_nil ?_
              refine hK3 _ _ ?_
              refine c_cond F rfl (fun g36 => ?_) (fun g36 => ?_)
              · skip
                refine c_seq (fun K10 hK10 => ?_)
                refine wp_region_lit ?_
                refine l_step rfl (o_val F (r_assign F rfl) rfl ?_); clear F a; intro a F
                refine l_nil ?_
                refine hK10 _ _ ?_
                refine wp_ret ?_
                exact ret1 Tryd.results17 M F (rv_tmp F rfl) (by clear hI M F hK1 hK2 hK3 hK10; rw [← rIsOp_eq]; unfold rIsOp; simp_all)
              · skip
                refine wp_skip ?_
                refine hK2 _ _ ?_
                refine c_seq (fun K11 hK11 => ?_)
                refine c_seq (fun K12 hK12 => ?_)
                refine wp_region_lit ?_
                refine l_step rfl (o_val F (r_fieldAddr F rfl fld_Op_2) rfl ?_); clear F a; intro a F
                refine l_step rfl (o_val F (r_load1 M F rfl (by repeat (first | exact List.mem_cons_self | apply List.mem_cons_of_mem)) sca_u8 rfl) rfl ?_); clear F a; intro a F
                refine l_step rfl (o_val F (r_neq_u8 F (y := 1) rfl rfl) rfl ?_); clear F a; intro a F
                refine l_step rfl (o_val F (r_move F rfl) rfl ?_); clear F a; intro a F
                refine c_split F (i := 40) rfl (fun g40 => ?_) (fun g40 => ?_)
                · skip
                  refine l_guard F rfl rfl rfl g40 (o_val F (r_fieldAddr F rfl fld_Op_2) rfl ?_); clear F a; intro a F
                  refine l_guard F rfl rfl rfl g40 (o_val F (r_load1 M F rfl (by repeat (first | exact List.mem_cons_self | apply List.mem_cons_of_mem)) sca_u8 rfl) rfl ?_); clear F a; intro a F
                  refine l_guard F rfl rfl rfl g40 (o_val F (r_neq_u8 F (y := 3) rfl rfl) rfl ?_); clear F a; intro a F
                  refine l_step rfl (o_val F (r_pick_t F rfl g40 rfl) rfl ?_); clear F a; intro a F
                  refine l_step rfl (o_val F (r_move F rfl) rfl ?_); clear F a; intro a F
                  refine c_split F (i := 45) rfl (fun g45 => ?_) (fun g45 => ?_)
                  · skip
                    refine l_guard F rfl rfl rfl g45 (o_val F (r_fieldAddr F rfl fld_Op_5) rfl ?_); clear F a; intro a F
                    refine l_guard F rfl rfl rfl g45 (o_val F (r_load1 M F rfl (by repeat (first | exact List.mem_cons_self | apply List.mem_cons_of_mem)) sca_string rfl) rfl ?_); clear F a; intro a F
                    refine l_guard F rfl rfl rfl g45 (o_val F (r_neq_string F rfl rfl) rfl ?_); clear F a; intro a F
                    refine l_step rfl (o_val F (r_pick_t F rfl g45 rfl) rfl ?_); clear F a; intro a F
                    refine l_nil ?_
                    refine hK12 _ _ ?_
                    refine c_cond F rfl (fun g49 => ?_) (fun g49 => ?_)
                    · skip
                      refine c_seq (fun K13 hK13 => ?_)
                      refine wp_region_lit ?_
                      refine l_step rfl (o_val F (r_assign F rfl) rfl ?_); clear F a; intro a F
                      refine l_nil ?_
                      refine hK13 _ _ ?_
                      refine wp_ret ?_
                      exact ret1 Tryd.results17 M F (rv_tmp F rfl) (by clear hI M F hK1 hK2 hK3 hK11 hK12 hK13; rw [← rIsOp_eq]; unfold rIsOp; simp_all)
                    · skip
                      refine wp_skip ?_
                      refine hK11 _ _ ?_
                      refine c_seq (fun K14 hK14 => ?_)
                      refine wp_region_lit ?_
                      refine l_step rfl (o_val F (r_fieldAddr F rfl fld_Op_2) rfl ?_); clear F a; intro a F
                      refine l_step rfl (o_val F (r_load1 M F rfl (by repeat (first | exact List.mem_cons_self | apply List.mem_cons_of_mem)) sca_u8 rfl) rfl ?_); clear F a; intro a F
                      refine l_step rfl (o_val F (r_neq_u8 F (y := 4) rfl rfl) rfl ?_); clear F a; intro a F
                      refine l_step rfl (o_val F (r_move F rfl) rfl ?_); clear F a; intro a F
                      refine c_split F (i := 53) rfl (fun g53 => ?_) (fun g53 => ?_)
                      · skip
                        refine l_guard F rfl rfl rfl g53 (o_val F (r_fieldAddr F rfl fld_Op_2) rfl ?_); clear F a; intro a F
                        refine l_guard F rfl rfl rfl g53 (o_val F (r_load1 M F rfl (by repeat (first | exact List.mem_cons_self | apply List.mem_cons_of_mem)) sca_u8 rfl) rfl ?_); clear F a; intro a F
                        refine l_guard F rfl rfl rfl g53 (o_val F (r_neq_u8 F (y := 5) rfl rfl) rfl ?_); clear F a; intro a F
                        refine l_step rfl (o_val F (r_pick_t F rfl g53 rfl) rfl ?_); clear F a; intro a F
                        refine l_step rfl (o_val F (r_move F rfl) rfl ?_); clear F a; intro a F
                        refine c_split F (i := 58) rfl (fun g58 => ?_) (fun g58 => ?_)
                        · skip
                          iterate 3 (refine l_skip F rfl rfl rfl g58 rfl rfl ?_; clear F a; intro a F)
                          refine l_step rfl (o_val F (r_pick_t F rfl g58 rfl) rfl ?_); clear F a; intro a F
                          refine l_step rfl (o_val F (r_assign F rfl) rfl ?_); clear F a; intro a F
                          refine l_nil ?_
                          refine hK14 _ _ ?_
                          refine wp_ret ?_
                          exact ret1 Tryd.results17 M F (rv_tmp F rfl) (by clear hI M F hK1 hK2 hK3 hK11 hK12 hK14; rw [← rIsOp_eq]; unfold rIsOp; simp_all)
                        · skip
                          refine l_guard F rfl rfl rfl g58 (o_val F (r_fieldAddr F rfl fld_Op_4) rfl ?_); clear F a; intro a F
                          refine l_guard F rfl rfl rfl g58 (o_val F (r_load1 M F rfl (by repeat (first | exact List.mem_cons_self | apply List.mem_cons_of_mem)) sca_u8 rfl) rfl ?_); clear F a; intro a F
                          refine l_guard F rfl rfl rfl g58 (o_val F (r_eql_u8 F (y := 0) rfl rfl) rfl ?_); clear F a; intro a F
                          refine l_step rfl (o_val F (r_pick_f F rfl g58 rfl) rfl ?_); clear F a; intro a F
                          refine l_step rfl (o_val F (r_assign F rfl) rfl ?_); clear F a; intro a F
                          refine l_nil ?_
                          refine hK14 _ _ ?_
                          refine wp_ret ?_
                          exact ret1 Tryd.results17 M F (rv_tmp F rfl) (by clear hI M F hK1 hK2 hK3 hK11 hK12 hK14; rw [← rIsOp_eq]; unfold rIsOp; simp_all)
                      · skip
                        iterate 3 (refine l_skip F rfl rfl rfl g53 rfl rfl ?_; clear F a; intro a F)
                        refine l_step rfl (o_val F (r_pick_f F rfl g53 rfl) rfl ?_); clear F a; intro a F
                        refine l_step rfl (o_val F (r_move F rfl) rfl ?_); clear F a; intro a F
                        refine l_guard F rfl rfl rfl rfl (o_val F (r_fieldAddr F rfl fld_Op_4) rfl ?_); clear F a; intro a F
                        refine l_guard F rfl rfl rfl rfl (o_val F (r_load1 M F rfl (by repeat (first | exact List.mem_cons_self | apply List.mem_cons_of_mem)) sca_u8 rfl) rfl ?_); clear F a; intro a F
                        refine l_guard F rfl rfl rfl rfl (o_val F (r_eql_u8 F (y := 0) rfl rfl) rfl ?_); clear F a; intro a F
                        refine l_step rfl (o_val F (r_pick_f F rfl rfl rfl) rfl ?_); clear F a; intro a F
                        refine l_step rfl (o_val F (r_assign F rfl) rfl ?_); clear F a; intro a F
                        refine l_nil ?_
                        refine hK14 _ _ ?_
                        refine wp_ret ?_
                        exact ret1 Tryd.results17 M F (rv_tmp F rfl) (by clear hI M F hK1 hK2 hK3 hK11 hK12 hK14; rw [← rIsOp_eq]; unfold rIsOp; simp_all)
                  · skip
                    iterate 3 (refine l_skip F rfl rfl rfl g45 rfl rfl ?_; clear F a; intro a F)
                    refine l_step rfl (o_val F (r_pick_f F rfl g45 rfl) rfl ?_); clear F a; intro a F
                    refine l_nil ?_
                    refine hK12 _ _ ?_
                    refine c_false F rfl rfl ?_
                    refine wp_skip ?_
                    refine hK11 _ _ ?_
                    refine c_seq (fun K15 hK15 => ?_)
                    refine wp_region_lit ?_
                    refine l_step rfl (o_val F (r_fieldAddr F rfl fld_Op_2) rfl ?_); clear F a; intro a F
                    refine l_step rfl (o_val F (r_load1 M F rfl (by repeat (first | exact List.mem_cons_self | apply List.mem_cons_of_mem)) sca_u8 rfl) rfl ?_); clear F a; intro a F
                    refine l_step rfl (o_val F (r_neq_u8 F (y := 4) rfl rfl) rfl ?_); clear F a; intro a F
                    refine l_step rfl (o_val F (r_move F rfl) rfl ?_); clear F a; intro a F
                    refine c_split F (i := 53) rfl (fun g53 => ?_) (fun g53 => ?_)
                    · skip
                      refine l_guard F rfl rfl rfl g53 (o_val F (r_fieldAddr F rfl fld_Op_2) rfl ?_); clear F a; intro a F
                      refine l_guard F rfl rfl rfl g53 (o_val F (r_load1 M F rfl (by repeat (first | exact List.mem_cons_self | apply List.mem_cons_of_mem)) sca_u8 rfl) rfl ?_); clear F a; intro a F
                      refine l_guard F rfl rfl rfl g53 (o_val F (r_neq_u8 F (y := 5) rfl rfl) rfl ?_); clear F a; intro a F
                      refine l_step rfl (o_val F (r_pick_t F rfl g53 rfl) rfl ?_); clear F a; intro a F
                      refine l_step rfl (o_val F (r_move F rfl) rfl ?_); clear F a; intro a F
                      refine c_split F (i := 58) rfl (fun g58 => ?_) (fun g58 => ?_)
                      · skip
                        iterate 3 (refine l_skip F rfl rfl rfl g58 rfl rfl ?_; clear F a; intro a F)
                        refine l_step rfl (o_val F (r_pick_t F rfl g58 rfl) rfl ?_); clear F a; intro a F
                        refine l_step rfl (o_val F (r_assign F rfl) rfl ?_); clear F a; intro a F
                        refine l_nil ?_
                        refine hK15 _ _ ?_
                        refine wp_ret ?_
                        exact ret1 Tryd.results17 M F (rv_tmp F rfl) (by clear hI M F hK1 hK2 hK3 hK11 hK12 hK15; rw [← rIsOp_eq]; unfold rIsOp; simp_all)
                      · skip
                        refine l_guard F rfl rfl rfl g58 (o_val F (r_fieldAddr F rfl fld_Op_4) rfl ?_); clear F a; intro a F
                        refine l_guard F rfl rfl rfl g58 (o_val F (r_load1 M F rfl (by repeat (first | exact List.mem_cons_self | apply List.mem_cons_of_mem)) sca_u8 rfl) rfl ?_); clear F a; intro a F
                        refine l_guard F rfl rfl rfl g58 (o_val F (r_eql_u8 F (y := 0) rfl rfl) rfl ?_); clear F a; intro a F
                        refine l_step rfl (o_val F (r_pick_f F rfl g58 rfl) rfl ?_); clear F a; intro a F
                        refine l_step rfl (o_val F (r_assign F rfl) rfl ?_); clear F a; intro a F
                        refine l_nil ?_
                        refine hK15 _ _ ?_
                        refine wp_ret ?_
                        exact ret1 Tryd.results17 M F (rv_tmp F rfl) (by clear hI M F hK1 hK2 hK3 hK11 hK12 hK15; rw [← rIsOp_eq]; unfold rIsOp; simp_all)
                    · skip
                      iterate 3 (refine l_skip F rfl rfl rfl g53 rfl rfl ?_; clear F a; intro a F)
                      refine l_step rfl (o_val F (r_pick_f F rfl g53 rfl) rfl ?_); clear F a; intro a F
                      refine l_step rfl (o_val F (r_move F rfl) rfl ?_); clear F a; intro a F
                      refine l_guard F rfl rfl rfl rfl (o_val F (r_fieldAddr F rfl fld_Op_4) rfl ?_); clear F a; intro a F
                      refine l_guard F rfl rfl rfl rfl (o_val F (r_load1 M F rfl (by repeat (first | exact List.mem_cons_self | apply List.mem_cons_of_mem)) sca_u8 rfl) rfl ?_); clear F a; intro a F
                      refine l_guard F rfl rfl rfl rfl (o_val F (r_eql_u8 F (y := 0) rfl rfl) rfl ?_); clear F a; intro a F
                      refine l_step rfl (o_val F (r_pick_f F rfl rfl rfl) rfl ?_); clear F a; intro a F
                      refine l_step rfl (o_val F (r_assign F rfl) rfl ?_); clear F a; intro a F
                      refine l_nil ?_
                      refine hK15 _ _ ?_
                      refine wp_ret ?_
                      exact ret1 Tryd.results17 M F (rv_tmp F rfl) (by clear hI M F hK1 hK2 hK3 hK11 hK12 hK15; rw [← rIsOp_eq]; unfold rIsOp; simp_all)
                · skip
                  iterate 3 (refine l_skip F rfl rfl rfl g40 rfl rfl ?_; clear F a; intro a F)
                  refine l_step rfl (o_val F (r_pick_f F rfl g40 rfl) rfl ?_); clear F a; intro a F
                  refine l_step rfl (o_val F (r_move F rfl) rfl ?_); clear F a; intro a F
                  iterate 3 (refine l_skip F rfl rfl rfl rfl rfl rfl ?_; clear F a; intro a F)
                  refine l_step rfl (o_val F (r_pick_f F rfl rfl rfl) rfl ?_); clear F a; intro a F
                  refine l_nil ?_
                  refine hK12 _ _ ?_
                  refine c_false F rfl rfl ?_
                  refine wp_skip ?_
                  refine hK11 _ _ ?_
                  refine c_seq (fun K16 hK16 => ?_)
                  refine wp_region_lit ?_
                  refine l_step rfl (o_val F (r_fieldAddr F rfl fld_Op_2) rfl ?_); clear F a; intro a F
                  refine l_step rfl (o_val F (r_load1 M F rfl (by repeat (first | exact List.mem_cons_self | apply List.mem_cons_of_mem)) sca_u8 rfl) rfl ?_); clear F a; intro a F
                  refine l_step rfl (o_val F (r_neq_u8 F (y := 4) rfl rfl) rfl ?_); clear F a; intro a F
                  refine l_step rfl (o_val F (r_move F rfl) rfl ?_); clear F a; intro a F
                  refine c_split F (i := 53) rfl (fun g53 => ?_) (fun g53 => ?_)
                  · skip
                    refine l_guard F rfl rfl rfl g53 (o_val F (r_fieldAddr F rfl fld_Op_2) rfl ?_); clear F a; intro a F
                    refine l_guard F rfl rfl rfl g53 (o_val F (r_load1 M F rfl (by repeat (first | exact List.mem_cons_self | apply List.mem_cons_of_mem)) sca_u8 rfl) rfl ?_); clear F a; intro a F
                    refine l_guard F rfl rfl rfl g53 (o_val F (r_neq_u8 F (y := 5) rfl rfl) rfl ?_); clear F a; intro a F
                    refine l_step rfl (o_val F (r_pick_t F rfl g53 rfl) rfl ?_); clear F a; intro a F
                    refine l_step rfl (o_val F (r_move F rfl) rfl ?_); clear F a; intro a F
                    refine c_split F (i := 58) rfl (fun g58 => ?_) (fun g58 => ?_)
                    · skip
                      iterate 3 (refine l_skip F rfl rfl rfl g58 rfl rfl ?_; clear F a; intro a F)
                      refine l_step rfl (o_val F (r_pick_t F rfl g58 rfl) rfl ?_); clear F a; intro a F
                      refine l_step rfl (o_val F (r_assign F rfl) rfl ?_); clear F a; intro a F
                      refine l_nil ?_
                      refine hK16 _ _ ?_
                      refine wp_ret ?_
                      exact ret1 Tryd.results17 M F (rv_tmp F rfl) (by clear hI M F hK1 hK2 hK3 hK11 hK12 hK16; rw [← rIsOp_eq]; unfold rIsOp; simp_all)
                    · skip
                      refine l_guard F rfl rfl rfl g58 (o_val F (r_fieldAddr F rfl fld_Op_4) rfl ?_); clear F a; intro a F
                      refine l_guard F rfl rfl rfl g58 (o_val F (r_load1 M F rfl (by repeat (first | exact List.mem_cons_self | apply List.mem_cons_of_mem)) sca_u8 rfl) rfl ?_); clear F a; intro a F
                      refine l_guard F rfl rfl rfl g58 (o_val F (r_eql_u8 F (y := 0) rfl rfl) rfl ?_); clear F a; intro a F
                      refine l_step rfl (o_val F (r_pick_f F rfl g58 rfl) rfl ?_); clear F a; intro a F
                      refine l_step rfl (o_val F (r_assign F rfl) rfl ?_); clear F a; intro a F
                      refine l_nil ?_
                      refine hK16 _ _ ?_
                      refine wp_ret ?_
                      exact ret1 Tryd.results17 M F (rv_tmp F rfl) (by clear hI M F hK1 hK2 hK3 hK11 hK12 hK16; rw [← rIsOp_eq]; unfold rIsOp; simp_all)
                  · skip
                    iterate 3 (refine l_skip F rfl rfl rfl g53 rfl rfl ?_; clear F a; intro a F)
                    refine l_step rfl (o_val F (r_pick_f F rfl g53 rfl) rfl ?_); clear F a; intro a F
                    refine l_step rfl (o_val F (r_move F rfl) rfl ?_); clear F a; intro a F
                    refine l_guard F rfl rfl rfl rfl (o_val F (r_fieldAddr F rfl fld_Op_4) rfl ?_); clear F a; intro a F
                    refine l_guard F rfl rfl rfl rfl (o_val F (r_load1 M F rfl (by repeat (first | exact List.mem_cons_self | apply List.mem_cons_of_mem)) sca_u8 rfl) rfl ?_); clear F a; intro a F
                    refine l_guard F rfl rfl rfl rfl (o_val F (r_eql_u8 F (y := 0) rfl rfl) rfl ?_); clear F a; intro a F
                    refine l_step rfl (o_val F (r_pick_f F rfl rfl rfl) rfl ?_); clear F a; intro a F
                    refine l_step rfl (o_val F (r_assign F rfl) rfl ?_); clear F a; intro a F
                    refine l_nil ?_
                    refine hK16 _ _ ?_
                    refine wp_ret ?_
                    exact ret1 Tryd.results17 M F (rv_tmp F rfl) (by clear hI M F hK1 hK2 hK3 hK11 hK12 hK16; rw [← rIsOp_eq]; unfold rIsOp; simp_all)
theorem c_paddockref6_Writes {w : World} {G0 : Ghost} (hI : Imm G0 w) {o : POp} : Ret P 19 [agg o.enc] [] w G0 (fun G W v => v = .bool (writes o)) := by
  refine enter Tryd.func19 rfl Tryd.ntmps19 rfl rfl hI (fun a F M => ?_)
  refine c_seq (fun K1 hK1 => ?_)
  refine wp_region_lit ?_
  refine l_step rfl (o_box M F rfl rfl ?_); clear F a; intro a W1 b1 M F
  refine l_step rfl (o_val F (r_assign F rfl) rfl ?_); clear F a; intro a F
  refine l_nil ?_
  refine hK1 _ _ ?_
  refine c_seq (fun K2 hK2 => ?_)
  refine wp_region_lit ?_
  refine l_step rfl (o_val F (r_load M F rfl (by repeat (first | exact List.mem_cons_self | apply List.mem_cons_of_mem)) agg_Op (seg_all rfl)) rfl ?_); clear F a; intro a F
  refine l_step rfl (o_call M F rfl (c_paddockref6_IsOp M.imm) rfl ?_); clear F a; intro a W2 v2 G2 hp2 M E2 F
  subst hp2
  refine l_step rfl (o_val F (r_move F rfl) rfl ?_); clear F a; intro a F
  refine c_split F (i := 5) rfl (fun g5 => ?_) (fun g5 => ?_)
  · skip
    refine l_guard F rfl rfl rfl g5 (o_val F (r_fieldAddr F rfl fld_Op_2) rfl ?_); clear F a; intro a F
    refine l_guard F rfl rfl rfl g5 (o_val F (r_load1 M F rfl (by repeat (first | exact List.mem_cons_self | apply List.mem_cons_of_mem)) sca_u8 rfl) rfl ?_); clear F a; intro a F
    refine l_guard F rfl rfl rfl g5 (o_val F (r_neq_u8 F (y := 5) rfl rfl) rfl ?_); clear F a; intro a F
    refine l_step rfl (o_val F (r_pick_t F rfl g5 rfl) rfl ?_); clear F a; intro a F
    refine l_step rfl (o_val F (r_assign F rfl) rfl ?_); clear F a; intro a F
    refine l_nil ?_
    refine hK2 _ _ ?_
    refine wp_ret ?_
    exact ret1 Tryd.results19 M F (rv_tmp F rfl) (by simp [writes, g5])
  · skip
    iterate 3 (refine l_skip F rfl rfl rfl g5 rfl rfl ?_; clear F a; intro a F)
    refine l_step rfl (o_val F (r_pick_f F rfl g5 rfl) rfl ?_); clear F a; intro a F
    refine l_step rfl (o_val F (r_assign F rfl) rfl ?_); clear F a; intro a F
    refine l_nil ?_
    refine hK2 _ _ ?_
    refine wp_ret ?_
    exact ret1 Tryd.results19 M F (rv_tmp F rfl) (by simp [writes, g5])
theorem c_paddockref6_Seen {w : World} {G0 : Ghost} (hI : Imm G0 w) {b : PBase} {o : POp} : Ret P 15 [agg b.enc, agg o.enc] [] w G0 (fun G W v => v = .tuple #[agg (pSeen b o).1.enc, .bool (pSeen b o).2]) := by
  refine enter Tryd.func15 rfl Tryd.ntmps15 rfl rfl hI (fun a F M => ?_)
  refine c_seq (fun K1 hK1 => ?_)
  refine wp_region_lit ?_
  refine l_step rfl (o_box M F rfl rfl ?_); clear F a; intro a W1 b1 M F
  refine l_step rfl (o_box M F rfl rfl ?_); clear F a; intro a W2 b2 M F
  refine l_step rfl (o_alloc M F zer_Res rfl ?_); clear F a; intro a W3 b3 M F
  refine l_step rfl (o_val F (r_assign F rfl) rfl ?_); clear F a; intro a F
  refine l_nil ?_
  refine hK1 _ _ ?_
  refine c_seq (fun K2 hK2 => ?_)
  refine c_seq (fun K3 hK3 => ?_)
  refine wp_region_lit ?_
  refine l_step rfl (o_val F (r_load M F rfl (by repeat (first | exact List.mem_cons_self | apply List.mem_cons_of_mem)) agg_Op (seg_all rfl)) rfl ?_); clear F a; intro a F
  refine l_step rfl (o_call M F rfl (c_paddockref6_Writes M.imm) rfl ?_); clear F a; intro a W4 v4 G4 hp4 M E4 F
  subst hp4
  refine l_step rfl (o_val F (r_not F rfl) rfl ?_); clear F a; intro a F
  refine l_nil ?_
  refine hK3 _ _ ?_
  refine c_cond F rfl (fun g9 => ?_) (fun g9 => ?_)
  · skip
    refine c_seq (fun K4 hK4 => ?_)
    refine wp_region_lit ?_
    refine l_step rfl (o_val F (r_build F rfl b_Res) rfl ?_); clear F a; intro a F
    refine l_step rfl (o_storeA M F rfl rfl agg_Res.size (by repeat (first | exact Upd.here _ _ _ _ _ | apply Upd.there)) (by rfl) (by rfl) (by rfl) ?_); clear F a; intro a W5 M F
    refine l_step rfl (o_val F (r_assign F rfl) rfl ?_); clear F a; intro a F
    refine l_nil ?_
    refine hK4 _ _ ?_
    refine wp_ret ?_
    exact ret2 Tryd.results15 M F (rv_cell M F rfl (by repeat (first | exact List.mem_cons_self | apply List.mem_cons_of_mem)) agg_Res rfl) (rv_tmp F rfl) (by clear hI M F hK1 hK2 hK3 hK4; simp_all [pSeen, PRes.zero, -UInt8.not_le, -UInt8.not_lt, -UInt32.not_le, -UInt32.not_lt, -Int.not_lt, -Int.not_le, -Nat.not_lt, -Nat.not_le])
  · skip
    refine wp_skip ?_
    refine hK2 _ _ ?_
    refine c_seq (fun K5 hK5 => ?_)
    refine wp_region_lit ?_
    refine l_step rfl (o_val F (r_fieldAddr F rfl fld_Op_0) rfl ?_); clear F a; intro a F
    refine l_step rfl (o_val F (r_load1 M F rfl (by repeat (first | exact List.mem_cons_self | apply List.mem_cons_of_mem)) sca_u8 rfl) rfl ?_); clear F a; intro a F
    have hk15 := writes_idx g9
    refine l_step rfl (o_val F (r_sub_u8 F (y := 1) rfl rfl) rfl ?_); clear F a; intro a F
    refine l_step rfl (o_val F (r_fieldAddr F rfl fld_Base_1) rfl ?_); clear F a; intro a F
    refine l_step rfl (o_val F (r_indexArr F rfl rfl arr_Lasts (by omega) (by omega)) rfl ?_); clear F a; intro a F
    refine l_step rfl (o_val F (r_load M F rfl (by repeat (first | exact List.mem_cons_self | apply List.mem_cons_of_mem)) agg_Last (g_Base_1_i hk15)) rfl ?_); clear F a; intro a F
    refine l_step rfl (o_alloc M F zer_Last rfl ?_); clear F a; intro a W6 b4 M F
    refine l_step rfl (o_storeA M F rfl rfl agg_Last.size (by repeat (first | exact Upd.here _ _ _ _ _ | apply Upd.there)) (by rfl) (by rfl) (by rfl) ?_); clear F a; intro a W7 M F
    refine l_nil ?_
    refine hK5 _ _ ?_
    refine c_seq (fun K6 hK6 => ?_)
    refine wp_block ?_
    refine c_seq (fun K7 hK7 => ?_)
    refine wp_region_lit ?_
    refine l_step rfl (o_val F (r_fieldAddr F rfl fld_Last_0) rfl ?_); clear F a; intro a F
    refine l_step rfl (o_val F (r_load1 M F rfl (by repeat (first | exact List.mem_cons_self | apply List.mem_cons_of_mem)) sca_u32 rfl) rfl ?_); clear F a; intro a F
    refine l_step rfl (o_val F (r_fieldAddr F rfl fld_Op_1) rfl ?_); clear F a; intro a F
    refine l_step rfl (o_val F (r_load1 M F rfl (by repeat (first | exact List.mem_cons_self | apply List.mem_cons_of_mem)) sca_u32 rfl) rfl ?_); clear F a; intro a F
    refine l_step rfl (o_val F (r_lss_u32 F rfl rfl) rfl ?_); clear F a; intro a F
    refine l_step rfl (o_val F (r_assign F rfl) rfl ?_); clear F a; intro a F
    refine l_nil ?_
    refine hK7 _ _ ?_
    refine c_cond F rfl (fun g17 => ?_) (fun g17 => ?_)
    · skip
      refine c_seq (fun K8 hK8 => ?_)
      refine wp_region_lit ?_
      refine l_step rfl (o_val F (r_build F rfl b_Res) rfl ?_); clear F a; intro a F
      refine l_step rfl (o_storeA M F rfl rfl agg_Res.size (by repeat (first | exact Upd.here _ _ _ _ _ | apply Upd.there)) (by rfl) (by rfl) (by rfl) ?_); clear F a; intro a W8 M F
      refine l_step rfl (o_val F (r_assign F rfl) rfl ?_); clear F a; intro a F
      refine l_nil ?_
      refine hK8 _ _ ?_
      refine wp_ret ?_
      exact ret2 Tryd.results15 M F (rv_cell M F rfl (by repeat (first | exact List.mem_cons_self | apply List.mem_cons_of_mem)) agg_Res rfl) (rv_tmp F rfl) (by clear hI M F hK1 hK2 hK3 hK5 hK6 hK7 hK8; simp_all [pSeen, PRes.zero, -UInt8.not_le, -UInt8.not_lt, -UInt32.not_le, -UInt32.not_lt, -Int.not_lt, -Int.not_le, -Nat.not_lt, -Nat.not_le])
    · skip
      refine c_seq (fun K9 hK9 => ?_)
      refine wp_region_lit ?_
      refine l_step rfl (o_val F (r_fieldAddr F rfl fld_Last_0) rfl ?_); clear F a; intro a F
      refine l_step rfl (o_val F (r_load1 M F rfl (by repeat (first | exact List.mem_cons_self | apply List.mem_cons_of_mem)) sca_u32 rfl) rfl ?_); clear F a; intro a F
      refine l_step rfl (o_val F (r_fieldAddr F rfl fld_Op_1) rfl ?_); clear F a; intro a F
      refine l_step rfl (o_val F (r_load1 M F rfl (by repeat (first | exact List.mem_cons_self | apply List.mem_cons_of_mem)) sca_u32 rfl) rfl ?_); clear F a; intro a F
      refine l_step rfl (o_val F (r_eql_u32 F rfl rfl) rfl ?_); clear F a; intro a F
      refine l_step rfl (o_val F (r_assign F rfl) rfl ?_); clear F a; intro a F
      refine l_nil ?_
      refine hK9 _ _ ?_
      refine c_cond F rfl (fun g24 => ?_) (fun g24 => ?_)
      · skip
        refine c_seq (fun K10 hK10 => ?_)
        refine wp_region_lit ?_
        refine l_step rfl (o_val F (r_fieldAddr F rfl fld_Last_1) rfl ?_); clear F a; intro a F
        refine l_step rfl (o_val F (r_load M F rfl (by repeat (first | exact List.mem_cons_self | apply List.mem_cons_of_mem)) agg_Res g_Last_1) rfl ?_); clear F a; intro a F
        refine l_step rfl (o_storeA M F rfl rfl agg_Res.size (by repeat (first | exact Upd.here _ _ _ _ _ | apply Upd.there)) (by rfl) (by rfl) (by rfl) ?_); clear F a; intro a W9 M F
        refine l_step rfl (o_val F (r_assign F rfl) rfl ?_); clear F a; intro a F
        refine l_nil ?_
        refine hK10 _ _ ?_
        refine wp_ret ?_
        exact ret2 Tryd.results15 M F (rv_cell M F rfl (by repeat (first | exact List.mem_cons_self | apply List.mem_cons_of_mem)) agg_Res rfl) (rv_tmp F rfl) (by clear hI M F hK1 hK2 hK3 hK5 hK6 hK7 hK9 hK10; simp_all [pSeen, PRes.zero, -UInt8.not_le, -UInt8.not_lt, -UInt32.not_le, -UInt32.not_lt, -Int.not_lt, -Int.not_le, -Nat.not_lt, -Nat.not_le])
      · skip
        refine wp_skip ?_
        refine hK6 _ _ ?_
        refine c_seq (fun K11 hK11 => ?_)
        refine wp_region_lit ?_
        refine l_step rfl (o_val F (r_build F rfl (b_Res_0 3)) rfl ?_); clear F a; intro a F
        refine l_step rfl (o_storeA M F rfl rfl agg_Res.size (by repeat (first | exact Upd.here _ _ _ _ _ | apply Upd.there)) (by rfl) (by rfl) (by rfl) ?_); clear F a; intro a W10 M F
        refine l_step rfl (o_val F (r_assign F rfl) rfl ?_); clear F a; intro a F
        refine l_nil ?_
        refine hK11 _ _ ?_
        refine wp_ret ?_
        exact ret2 Tryd.results15 M F (rv_cell M F rfl (by repeat (first | exact List.mem_cons_self | apply List.mem_cons_of_mem)) agg_Res rfl) (rv_tmp F rfl) (by clear hI M F hK1 hK2 hK3 hK5 hK6 hK7 hK9 hK11; simp_all [pSeen, PRes.zero, -UInt8.not_le, -UInt8.not_lt, -UInt32.not_le, -UInt32.not_lt, -Int.not_lt, -Int.not_le, -Nat.not_lt, -Nat.not_le])
theorem c_paddockref6_noughts {w : World} {G0 : Ghost} (hI : Imm G0 w) {n : Int} (h0 : 0 ≤ n) (h1 : n ≤ 1000) : Ret P 55 [.int .i64 n] [] w G0 (fun G W v => v = .string (zs n.toNat)) := by
  refine enter Tryd.func55 rfl Tryd.ntmps55 rfl rfl hI (fun a F M => ?_)
  refine c_seq (fun K1 hK1 => ?_)
  refine wp_region_lit ?_
  refine l_step rfl (o_val F (r_assign F rfl) rfl ?_); clear F a; intro a F
  refine l_nil ?_
  refine hK1 _ _ ?_
  refine c_seq (fun K2 hK2 => ?_)
  refine wp_region_lit ?_
  refine l_step rfl (o_val F (r_assign F rfl) rfl ?_); clear F a; intro a F
  refine l_nil ?_
  refine hK2 _ _ ?_
  refine c_seq (fun K3 hK3 => ?_)
  refine c_seq (fun K4 hK4 => ?_)
  refine wp_region_lit ?_
  refine l_step rfl (o_val F (r_assign F rfl) rfl ?_); clear F a; intro a F
  refine l_nil ?_
  refine hK4 _ _ ?_
  refine wp_block ?_
  refine c_loop (fun k a W => ∃ (i : Nat) (G : Ghost) , k = n.toNat - i ∧ i ≤ n.toNat ∧ Frm 13 [(4, .int .i64 (i : Int)), (0, .int .i64 n), (3, .string (zs i))] a ∧ St [] w G0 W [] G ∧ (True)) (n.toNat) ?_ ?_
  · exact ⟨0, _, rfl, Nat.zero_le _, (F.cons (F.cons (F.cons F.nil 3 rfl) 0 rfl) 4 rfl), M, trivial⟩
  · clear F M a; intro k a W hI; obtain ⟨i, G, hk, hi, F, M, hf⟩ := hI
    refine c_seq (fun K5 hK5 => ?_)
    refine c_seq (fun K6 hK6 => ?_)
    refine wp_region_lit ?_
    refine l_step rfl (o_val F (r_move F rfl) rfl ?_); clear F a; intro a F
    refine l_step rfl (o_val F (r_move F rfl) rfl ?_); clear F a; intro a F
    refine l_step rfl (o_val F (r_lss_i64 F rfl rfl) rfl ?_); clear F a; intro a F
    refine l_nil ?_
    refine hK6 _ _ ?_
    refine c_cond F rfl (fun g7 => ?_) (fun g7 => ?_)
    · skip
      have hlt : i < n.toNat := by have h := of_decide_eq_true g7; omega
      refine wp_skip ?_
      refine hK5 _ _ ?_
      refine c_seq (fun K7 hK7 => ?_)
      refine wp_block ?_
      refine wp_region_lit ?_
      refine l_step rfl (o_val F (r_move F rfl) rfl ?_); clear F a; intro a F
      refine l_step rfl (o_val F (r_add_string F rfl rfl (by rw [zs_size]; show i + 1 ≤ _; omega)) rfl ?_); clear F a; intro a F
      simp only [zs_succ] at F
      refine l_step rfl (o_val F (r_assign F rfl) rfl ?_); clear F a; intro a F
      refine l_nil ?_
      refine hK7 _ _ ?_
      refine wp_region_lit ?_
      refine l_step rfl (o_val F (r_move F rfl) rfl ?_); clear F a; intro a F
      refine l_step rfl (o_val F (r_add_i64 F rfl rfl (by omega)) rfl ?_); clear F a; intro a F
      refine l_step rfl (o_val F (r_assign F rfl) rfl ?_); clear F a; intro a F
      refine l_nil ?_
      exact ⟨n.toNat - (i + 1), by omega, i + 1, _, rfl, by omega, (F.cons (F.cons (F.cons F.nil 3 rfl) 0 rfl) 4 rfl), M.drop (by repeat (first | exact List.Sublist.refl _ | apply List.Sublist.cons_cons | apply List.Sublist.cons)), trivial⟩
    · skip
      have hge : i = n.toNat := by have h := of_decide_eq_false g7; omega
      refine wp_exit ?_
      refine hK3 _ _ ?_
      refine c_seq (fun K8 hK8 => ?_)
      refine wp_region_lit ?_
      refine l_step rfl (o_val F (r_move F rfl) rfl ?_); clear F a; intro a F
      refine l_step rfl (o_val F (r_assign F rfl) rfl ?_); clear F a; intro a F
      refine l_nil ?_
      refine hK8 _ _ ?_
      refine wp_ret ?_
      exact ret1 Tryd.results55 M F (rv_tmp F rfl) (by rw [hge])
theorem c_paddockref6_change {w : World} {G0 : Ghost} (hI : Imm G0 w) {x : PObj} {o : POp} (hx : x.data.size ≤ 1000) (ho : o.data.size ≤ 16) : Ret P 35 [agg x.enc, agg o.enc] [] w G0 (fun G W v => v = .tuple #[agg (pDoes o.kind x o).1.enc, .int .u8 ((pDoes o.kind x o).2.toNat : Int)]) := by
  refine enter Tryd.func35 rfl Tryd.ntmps35 rfl rfl hI (fun a F M => ?_)
  have hat := o.at_.toNat_lt
  refine c_seq (fun K1 hK1 => ?_)
  refine wp_region_lit ?_
  refine l_step rfl (o_box M F rfl rfl ?_); clear F a; intro a W1 b1 M F
  refine l_step rfl (o_box M F rfl rfl ?_); clear F a; intro a W2 b2 M F
  refine l_step rfl (o_alloc M F zer_Obj rfl ?_); clear F a; intro a W3 b3 M F
  refine l_step rfl (o_val F (r_assign F rfl) rfl ?_); clear F a; intro a F
  refine l_nil ?_
  refine hK1 _ _ ?_
  refine c_seq (fun K2 hK2 => ?_)
  refine wp_region_lit ?_
  refine l_step rfl (o_val F (r_fieldAddr F rfl fld_Op_4) rfl ?_); clear F a; intro a F
  refine l_step rfl (o_val F (r_load1 M F rfl (by repeat (first | exact List.mem_cons_self | apply List.mem_cons_of_mem)) sca_u8 rfl) rfl ?_); clear F a; intro a F
  refine l_step rfl (o_val F (r_conv_u8_i64 F und_u8 und_int rfl) rfl ?_); clear F a; intro a F
  refine l_step rfl (o_val F (r_assign F rfl) rfl ?_); clear F a; intro a F
  refine l_nil ?_
  refine hK2 _ _ ?_
  refine c_seq (fun K3 hK3 => ?_)
  refine c_seq (fun K4 hK4 => ?_)
  refine wp_region_lit ?_
  refine l_step rfl (o_val F (r_fieldAddr F rfl fld_Op_2) rfl ?_); clear F a; intro a F
  refine l_step rfl (o_val F (r_load1 M F rfl (by repeat (first | exact List.mem_cons_self | apply List.mem_cons_of_mem)) sca_u8 rfl) rfl ?_); clear F a; intro a F
  refine l_nil ?_
  refine hK4 _ _ ?_
  refine wp_block ?_
  refine c_seq (fun K5 hK5 => ?_)
  refine wp_region_lit ?_
  refine l_step rfl (o_val F (r_eql_u8 F (y := 1) rfl rfl) rfl ?_); clear F a; intro a F
  refine l_step rfl (o_val F (r_assign F rfl) rfl ?_); clear F a; intro a F
  refine l_nil ?_
  refine hK5 _ _ ?_
  refine c_cond F rfl (fun g19 => ?_) (fun g19 => ?_)
  · skip
    refine c_seq (fun K6 hK6 => ?_)
    refine c_seq (fun K7 hK7 => ?_)
    refine wp_region_lit ?_
    refine l_step rfl (o_val F (r_move F rfl) rfl ?_); clear F a; intro a F
    refine l_step rfl (o_val F (r_fieldAddr F rfl fld_Op_5) rfl ?_); clear F a; intro a F
    refine l_step rfl (o_val F (r_load1 M F rfl (by repeat (first | exact List.mem_cons_self | apply List.mem_cons_of_mem)) sca_string rfl) rfl ?_); clear F a; intro a F
    refine l_step rfl (o_val F (r_len_string F und_string rfl) rfl ?_); clear F a; intro a F
    refine l_step rfl (o_val F (r_add_i64 F rfl rfl (by omega)) rfl ?_); clear F a; intro a F
    refine l_step rfl (o_val F (r_gtr_i64 F rfl rfl) rfl ?_); clear F a; intro a F
    refine l_nil ?_
    refine hK7 _ _ ?_
    refine c_cond F rfl (fun g26 => ?_) (fun g26 => ?_)
    · skip
      refine c_seq (fun K8 hK8 => ?_)
      refine wp_region_lit ?_
      refine l_step rfl (o_val F (r_load M F rfl (by repeat (first | exact List.mem_cons_self | apply List.mem_cons_of_mem)) agg_Obj (seg_all rfl)) rfl ?_); clear F a; intro a F
      refine l_step rfl (o_storeA M F rfl rfl agg_Obj.size (by repeat (first | exact Upd.here _ _ _ _ _ | apply Upd.there)) (by rfl) (by rfl) (by rfl) ?_); clear F a; intro a W4 M F
      refine l_step rfl (o_val F (r_assign F rfl) rfl ?_); clear F a; intro a F
      refine l_nil ?_
      refine hK8 _ _ ?_
      refine wp_ret ?_
      exact ret2 Tryd.results35 M F (rv_cell M F rfl (by repeat (first | exact List.mem_cons_self | apply List.mem_cons_of_mem)) agg_Obj rfl) (rv_tmp F rfl) (by clear hI M F hK1 hK2 hK3 hK4 hK5 hK6 hK7 hK8; simp_all [pDoes, pWrite_r, pTrunc_r, pAttr_r, pRemove, rW, rT, rP, -UInt8.not_le, -UInt8.not_lt, -UInt32.not_le, -UInt32.not_lt, -Int.not_lt, -Int.not_le, -Nat.not_lt, -Nat.not_le])
    · skip
      refine wp_skip ?_
      refine hK6 _ _ ?_
      refine c_seq (fun K9 hK9 => ?_)
      refine wp_region_lit ?_
      refine l_step rfl (o_val F (r_fieldAddr F rfl fld_Obj_1) rfl ?_); clear F a; intro a F
      refine l_step rfl (o_val F (r_load1 M F rfl (by repeat (first | exact List.mem_cons_self | apply List.mem_cons_of_mem)) sca_string rfl) rfl ?_); clear F a; intro a F
      refine l_step rfl (o_val F (r_assign F rfl) rfl ?_); clear F a; intro a F
      refine l_nil ?_
      refine hK9 _ _ ?_
      refine c_seq (fun K10 hK10 => ?_)
      refine c_seq (fun K11 hK11 => ?_)
      refine wp_region_lit ?_
      refine l_step rfl (o_val F (r_move F rfl) rfl ?_); clear F a; intro a F
      refine l_step rfl (o_val F (r_len_string F und_string rfl) rfl ?_); clear F a; intro a F
      refine l_step rfl (o_val F (r_move F rfl) rfl ?_); clear F a; intro a F
      refine l_step rfl (o_val F (r_lss_i64 F rfl rfl) rfl ?_); clear F a; intro a F
      refine l_nil ?_
      refine hK11 _ _ ?_
      refine c_cond F rfl (fun g33 => ?_) (fun g33 => ?_)
      · skip
        have h33 := of_decide_eq_true g33
        refine wp_region_lit ?_
        refine l_step rfl (o_val F (r_move F rfl) rfl ?_); clear F a; intro a F
        refine l_step rfl (o_val F (r_move F rfl) rfl ?_); clear F a; intro a F
        refine l_step rfl (o_val F (r_move F rfl) rfl ?_); clear F a; intro a F
        refine l_step rfl (o_val F (r_len_string F und_string rfl) rfl ?_); clear F a; intro a F
        refine l_step rfl (o_val F (r_sub_i64 F rfl rfl (by omega)) rfl ?_); clear F a; intro a F
        refine l_step rfl (o_call M F rfl (c_paddockref6_noughts M.imm (by omega) (by omega)) rfl ?_); clear F a; intro a W5 v5 G5 hp5 M E5 F
        subst hp5
        refine l_step rfl (o_val F (r_add_string F rfl rfl (by rw [zs_size]; omega)) rfl ?_); clear F a; intro a F
        refine l_step rfl (o_val F (r_assign F rfl) rfl ?_); clear F a; intro a F
        refine l_nil ?_
        refine hK10 _ _ ?_
        refine c_seq (fun K12 hK12 => ?_)
        refine wp_region_lit ?_
        refine l_step rfl (o_val F (r_assign F rfl) rfl ?_); clear F a; intro a F
        refine l_nil ?_
        refine hK12 _ _ ?_
        refine c_seq (fun K13 hK13 => ?_)
        refine c_seq (fun K14 hK14 => ?_)
        refine wp_region_lit ?_
        refine l_step rfl (o_val F (r_move F rfl) rfl ?_); clear F a; intro a F
        refine l_step rfl (o_val F (r_len_string F und_string rfl) rfl ?_); clear F a; intro a F
        refine l_step rfl (o_val F (r_move F rfl) rfl ?_); clear F a; intro a F
        refine l_step rfl (o_val F (r_fieldAddr F rfl fld_Op_5) rfl ?_); clear F a; intro a F
        refine l_step rfl (o_val F (r_load1 M F rfl (by repeat (first | exact List.mem_cons_self | apply List.mem_cons_of_mem)) sca_string rfl) rfl ?_); clear F a; intro a F
        refine l_step rfl (o_val F (r_len_string F und_string rfl) rfl ?_); clear F a; intro a F
        refine l_step rfl (o_val F (r_add_i64 F rfl rfl (by omega)) rfl ?_); clear F a; intro a F
        refine l_step rfl (o_val F (r_gtr_i64 F rfl rfl) rfl ?_); clear F a; intro a F
        refine l_nil ?_
        refine hK14 _ _ ?_
        refine c_cond F rfl (fun g48 => ?_) (fun g48 => ?_)
        · skip
          have h48 := of_decide_eq_true g48
          refine wp_region_lit ?_
          refine l_step rfl (o_val F (r_move F rfl) rfl ?_); clear F a; intro a F
          refine l_step rfl (o_val F (r_move F rfl) rfl ?_); clear F a; intro a F
          refine l_step rfl (o_val F (r_fieldAddr F rfl fld_Op_5) rfl ?_); clear F a; intro a F
          refine l_step rfl (o_val F (r_load1 M F rfl (by repeat (first | exact List.mem_cons_self | apply List.mem_cons_of_mem)) sca_string rfl) rfl ?_); clear F a; intro a F
          refine l_step rfl (o_val F (r_len_string F und_string rfl) rfl ?_); clear F a; intro a F
          refine l_step rfl (o_val F (r_add_i64 F rfl rfl (by omega)) rfl ?_); clear F a; intro a F
          refine l_step rfl (o_val F (r_sstr_from F und_string rfl rfl (by omega) (by (try simp only [ByteArray.size_append, zs_size] at h48 ⊢); omega)) rfl ?_); clear F a; intro a F
          refine l_step rfl (o_val F (r_assign F rfl) rfl ?_); clear F a; intro a F
          refine l_nil ?_
          refine hK13 _ _ ?_
          refine c_drawM (M.drop (List.Sublist.cons_cons _ (List.Sublist.cons_cons _ (List.Sublist.cons _ (List.Sublist.refl _))))) [] mixed (fun Mk => ?_)
          have M := M.drew
          have Ms := Mk
          have hq1 := Keeps.here Mk
          have hle1 := M.gle
          refine t_take (i := 0) F rfl rfl hq1 (fun _ _ => r_move F rfl) (fun _ _ _ h => h) (by kernel_rfl) (by kernel_rfl) (by kernel_rfl) (by kernel_rfl) ?_; clear F a; intro a F
          refine t_take (i := 1) F rfl rfl hq1 (fun _ _ => r_move F rfl) (fun _ _ _ h => h) (by kernel_rfl) (by kernel_rfl) (by kernel_rfl) (by kernel_rfl) ?_; clear F a; intro a F
          refine t_take (i := 2) F rfl rfl hq1 (fun _ _ => r_sstr_to F und_string rfl rfl (by omega) (by (try simp only [ByteArray.size_append, zs_size]); omega)) (fun _ _ _ h => h) (by kernel_rfl) (by kernel_rfl) (by kernel_rfl) (by kernel_rfl) ?_; clear F a; intro a F
          refine t_take (i := 3) F rfl rfl hq1 (fun _ _ => r_fieldAddr F rfl fld_Op_5) (fun _ _ _ h => h) (by kernel_rfl) (by kernel_rfl) (by kernel_rfl) (by kernel_rfl) ?_; clear F a; intro a F
          refine t_take (i := 4) F rfl rfl hq1 (fun _ ⟨_, _, M'⟩ => r_load1 M' F rfl (by repeat (first | exact List.mem_cons_self | apply List.mem_cons_of_mem)) sca_string rfl) (fun _ _ _ h => h) (by kernel_rfl) (by kernel_rfl) (by kernel_rfl) (by kernel_rfl) ?_; clear F a; intro a F
          refine t_take (i := 5) F rfl rfl hq1 (fun _ _ => r_add_string F rfl rfl (by simp only [ByteArray.size_extract, ByteArray.size_append, zs_size, (show (ByteArray.mk #[]).size = 0 from rfl)]; omega)) (fun _ _ _ h => h) (by kernel_rfl) (by kernel_rfl) (by kernel_rfl) (by kernel_rfl) ?_; clear F a; intro a F
          refine t_take (i := 6) F rfl rfl hq1 (fun _ _ => r_move F rfl) (fun _ _ _ h => h) (by kernel_rfl) (by kernel_rfl) (by kernel_rfl) (by kernel_rfl) ?_; clear F a; intro a F
          refine t_take (i := 7) F rfl rfl hq1 (fun _ _ => r_add_string F rfl rfl (by simp only [ByteArray.size_extract, ByteArray.size_append, zs_size, (show (ByteArray.mk #[]).size = 0 from rfl)]; omega)) (fun _ _ _ h => h) (by kernel_rfl) (by kernel_rfl) (by kernel_rfl) (by kernel_rfl) ?_; clear F a; intro a F
          refine t_take (i := 8) F rfl rfl hq1 (fun _ _ => r_fieldAddr F rfl fld_Obj_0) (fun _ _ _ h => h) (by kernel_rfl) (by kernel_rfl) (by kernel_rfl) (by kernel_rfl) ?_; clear F a; intro a F
          refine t_one (i := 9) (by kernel_rfl) rfl rfl (o_store1 M F rfl rfl sca_bool rfl rfl p_Obj_0 (by repeat (first | exact Upd.here _ _ _ _ _ | apply Upd.there)) ?_); clear F a; intro a W6 M F
          refine keepAnd (Keeps.mk hle1 M (by repeat (first | exact List.Sublist.refl _ | apply List.Sublist.cons_cons | apply List.Sublist.cons))) (fun hq1 => ?_)
          refine t_take (i := 10) F rfl rfl hq1 (fun _ _ => r_fieldAddr F rfl fld_Obj_1) (fun _ _ _ h => h) (by kernel_rfl) (by kernel_rfl) (by kernel_rfl) (by kernel_rfl) ?_; clear F a; intro a F
          refine t_one (i := 11) (by kernel_rfl) rfl rfl (o_store1 M F rfl rfl sca_string rfl rfl p_Obj_1 (by repeat (first | exact Upd.here _ _ _ _ _ | apply Upd.there)) ?_); clear F a; intro a W7 M F
          refine keepAnd (Keeps.mk hle1 M (by repeat (first | exact List.Sublist.refl _ | apply List.Sublist.cons_cons | apply List.Sublist.cons))) (fun hq1 => ?_)
          refine t_done (by kernel_rfl) ?_ _
          refine hK3 _ _ ?_
          refine c_seq (fun K15 hK15 => ?_)
          refine wp_region_lit ?_
          refine l_step rfl (o_val F (r_load M F rfl (by repeat (first | exact List.mem_cons_self | apply List.mem_cons_of_mem)) agg_Obj (seg_all rfl)) rfl ?_); clear F a; intro a F
          refine l_step rfl (o_storeA M F rfl rfl agg_Obj.size (by repeat (first | exact Upd.here _ _ _ _ _ | apply Upd.there)) (by rfl) (by rfl) (by rfl) ?_); clear F a; intro a W8 M F
          refine l_step rfl (o_val F (r_assign F rfl) rfl ?_); clear F a; intro a F
          refine l_nil ?_
          refine hK15 _ _ ?_
          refine wp_ret ?_
          exact ret2 Tryd.results35 M F (rv_cell M F rfl (by repeat (first | exact List.mem_cons_self | apply List.mem_cons_of_mem)) agg_Obj rfl) (rv_tmp F rfl) (by clear hI M F hK1 hK2 hK3 hK4 hK5 hK6 hK7 hK9 hK10 hK11 hK12 hK13 hK14 hK15; simp_all [pDoes, pWrite_r, pTrunc_r, pAttr_r, pRemove, rW, rT, rP, -UInt8.not_le, -UInt8.not_lt, -UInt32.not_le, -UInt32.not_lt, -Int.not_lt, -Int.not_le, -Nat.not_lt, -Nat.not_le])
        · skip
          refine wp_skip ?_
          refine hK13 _ _ ?_
          refine c_drawM (M.drop (List.Sublist.cons_cons _ (List.Sublist.cons_cons _ (List.Sublist.cons _ (List.Sublist.refl _))))) [] mixed (fun Mk => ?_)
          have M := M.drew
          have Ms := Mk
          have hq2 := Keeps.here Mk
          have hle2 := M.gle
          refine t_take (i := 0) F rfl rfl hq2 (fun _ _ => r_move F rfl) (fun _ _ _ h => h) (by kernel_rfl) (by kernel_rfl) (by kernel_rfl) (by kernel_rfl) ?_; clear F a; intro a F
          refine t_take (i := 1) F rfl rfl hq2 (fun _ _ => r_move F rfl) (fun _ _ _ h => h) (by kernel_rfl) (by kernel_rfl) (by kernel_rfl) (by kernel_rfl) ?_; clear F a; intro a F
          refine t_take (i := 2) F rfl rfl hq2 (fun _ _ => r_sstr_to F und_string rfl rfl (by omega) (by (try simp only [ByteArray.size_append, zs_size]); omega)) (fun _ _ _ h => h) (by kernel_rfl) (by kernel_rfl) (by kernel_rfl) (by kernel_rfl) ?_; clear F a; intro a F
          refine t_take (i := 3) F rfl rfl hq2 (fun _ _ => r_fieldAddr F rfl fld_Op_5) (fun _ _ _ h => h) (by kernel_rfl) (by kernel_rfl) (by kernel_rfl) (by kernel_rfl) ?_; clear F a; intro a F
          refine t_take (i := 4) F rfl rfl hq2 (fun _ ⟨_, _, M'⟩ => r_load1 M' F rfl (by repeat (first | exact List.mem_cons_self | apply List.mem_cons_of_mem)) sca_string rfl) (fun _ _ _ h => h) (by kernel_rfl) (by kernel_rfl) (by kernel_rfl) (by kernel_rfl) ?_; clear F a; intro a F
          refine t_take (i := 5) F rfl rfl hq2 (fun _ _ => r_add_string F rfl rfl (by simp only [ByteArray.size_extract, ByteArray.size_append, zs_size, (show (ByteArray.mk #[]).size = 0 from rfl)]; omega)) (fun _ _ _ h => h) (by kernel_rfl) (by kernel_rfl) (by kernel_rfl) (by kernel_rfl) ?_; clear F a; intro a F
          refine t_take (i := 6) F rfl rfl hq2 (fun _ _ => r_move F rfl) (fun _ _ _ h => h) (by kernel_rfl) (by kernel_rfl) (by kernel_rfl) (by kernel_rfl) ?_; clear F a; intro a F
          refine t_take (i := 7) F rfl rfl hq2 (fun _ _ => r_add_string F rfl rfl (by simp only [ByteArray.size_extract, ByteArray.size_append, zs_size, (show (ByteArray.mk #[]).size = 0 from rfl)]; omega)) (fun _ _ _ h => h) (by kernel_rfl) (by kernel_rfl) (by kernel_rfl) (by kernel_rfl) ?_; clear F a; intro a F
          refine t_take (i := 8) F rfl rfl hq2 (fun _ _ => r_fieldAddr F rfl fld_Obj_0) (fun _ _ _ h => h) (by kernel_rfl) (by kernel_rfl) (by kernel_rfl) (by kernel_rfl) ?_; clear F a; intro a F
          refine t_one (i := 9) (by kernel_rfl) rfl rfl (o_store1 M F rfl rfl sca_bool rfl rfl p_Obj_0 (by repeat (first | exact Upd.here _ _ _ _ _ | apply Upd.there)) ?_); clear F a; intro a W9 M F
          refine keepAnd (Keeps.mk hle2 M (by repeat (first | exact List.Sublist.refl _ | apply List.Sublist.cons_cons | apply List.Sublist.cons))) (fun hq2 => ?_)
          refine t_take (i := 10) F rfl rfl hq2 (fun _ _ => r_fieldAddr F rfl fld_Obj_1) (fun _ _ _ h => h) (by kernel_rfl) (by kernel_rfl) (by kernel_rfl) (by kernel_rfl) ?_; clear F a; intro a F
          refine t_one (i := 11) (by kernel_rfl) rfl rfl (o_store1 M F rfl rfl sca_string rfl rfl p_Obj_1 (by repeat (first | exact Upd.here _ _ _ _ _ | apply Upd.there)) ?_); clear F a; intro a W10 M F
          refine keepAnd (Keeps.mk hle2 M (by repeat (first | exact List.Sublist.refl _ | apply List.Sublist.cons_cons | apply List.Sublist.cons))) (fun hq2 => ?_)
          refine t_done (by kernel_rfl) ?_ _
          refine hK3 _ _ ?_
          refine c_seq (fun K16 hK16 => ?_)
          refine wp_region_lit ?_
          refine l_step rfl (o_val F (r_load M F rfl (by repeat (first | exact List.mem_cons_self | apply List.mem_cons_of_mem)) agg_Obj (seg_all rfl)) rfl ?_); clear F a; intro a F
          refine l_step rfl (o_storeA M F rfl rfl agg_Obj.size (by repeat (first | exact Upd.here _ _ _ _ _ | apply Upd.there)) (by rfl) (by rfl) (by rfl) ?_); clear F a; intro a W11 M F
          refine l_step rfl (o_val F (r_assign F rfl) rfl ?_); clear F a; intro a F
          refine l_nil ?_
          refine hK16 _ _ ?_
          refine wp_ret ?_
          exact ret2 Tryd.results35 M F (rv_cell M F rfl (by repeat (first | exact List.mem_cons_self | apply List.mem_cons_of_mem)) agg_Obj rfl) (rv_tmp F rfl) (by clear hI M F hK1 hK2 hK3 hK4 hK5 hK6 hK7 hK9 hK10 hK11 hK12 hK13 hK14 hK16; simp_all [pDoes, pWrite_r, pTrunc_r, pAttr_r, pRemove, rW, rT, rP, -UInt8.not_le, -UInt8.not_lt, -UInt32.not_le, -UInt32.not_lt, -Int.not_lt, -Int.not_le, -Nat.not_lt, -Nat.not_le])
      · skip
        have h33 := of_decide_eq_false g33
        refine wp_skip ?_
        refine hK10 _ _ ?_
        refine c_seq (fun K17 hK17 => ?_)
        refine wp_region_lit ?_
        refine l_step rfl (o_val F (r_assign F rfl) rfl ?_); clear F a; intro a F
        refine l_nil ?_
        refine hK17 _ _ ?_
        refine c_seq (fun K18 hK18 => ?_)
        refine c_seq (fun K19 hK19 => ?_)
        refine wp_region_lit ?_
        refine l_step rfl (o_val F (r_move F rfl) rfl ?_); clear F a; intro a F
        refine l_step rfl (o_val F (r_len_string F und_string rfl) rfl ?_); clear F a; intro a F
        refine l_step rfl (o_val F (r_move F rfl) rfl ?_); clear F a; intro a F
        refine l_step rfl (o_val F (r_fieldAddr F rfl fld_Op_5) rfl ?_); clear F a; intro a F
        refine l_step rfl (o_val F (r_load1 M F rfl (by repeat (first | exact List.mem_cons_self | apply List.mem_cons_of_mem)) sca_string rfl) rfl ?_); clear F a; intro a F
        refine l_step rfl (o_val F (r_len_string F und_string rfl) rfl ?_); clear F a; intro a F
        refine l_step rfl (o_val F (r_add_i64 F rfl rfl (by omega)) rfl ?_); clear F a; intro a F
        refine l_step rfl (o_val F (r_gtr_i64 F rfl rfl) rfl ?_); clear F a; intro a F
        refine l_nil ?_
        refine hK19 _ _ ?_
        refine c_cond F rfl (fun g48 => ?_) (fun g48 => ?_)
        · skip
          have h48 := of_decide_eq_true g48
          refine wp_region_lit ?_
          refine l_step rfl (o_val F (r_move F rfl) rfl ?_); clear F a; intro a F
          refine l_step rfl (o_val F (r_move F rfl) rfl ?_); clear F a; intro a F
          refine l_step rfl (o_val F (r_fieldAddr F rfl fld_Op_5) rfl ?_); clear F a; intro a F
          refine l_step rfl (o_val F (r_load1 M F rfl (by repeat (first | exact List.mem_cons_self | apply List.mem_cons_of_mem)) sca_string rfl) rfl ?_); clear F a; intro a F
          refine l_step rfl (o_val F (r_len_string F und_string rfl) rfl ?_); clear F a; intro a F
          refine l_step rfl (o_val F (r_add_i64 F rfl rfl (by omega)) rfl ?_); clear F a; intro a F
          refine l_step rfl (o_val F (r_sstr_from F und_string rfl rfl (by omega) (by (try simp only [ByteArray.size_append, zs_size] at h48 ⊢); omega)) rfl ?_); clear F a; intro a F
          refine l_step rfl (o_val F (r_assign F rfl) rfl ?_); clear F a; intro a F
          refine l_nil ?_
          refine hK18 _ _ ?_
          refine c_drawM (M.drop (List.Sublist.cons_cons _ (List.Sublist.cons_cons _ (List.Sublist.cons _ (List.Sublist.refl _))))) [] mixed (fun Mk => ?_)
          have M := M.drew
          have Ms := Mk
          have hq3 := Keeps.here Mk
          have hle3 := M.gle
          refine t_take (i := 0) F rfl rfl hq3 (fun _ _ => r_move F rfl) (fun _ _ _ h => h) (by kernel_rfl) (by kernel_rfl) (by kernel_rfl) (by kernel_rfl) ?_; clear F a; intro a F
          refine t_take (i := 1) F rfl rfl hq3 (fun _ _ => r_move F rfl) (fun _ _ _ h => h) (by kernel_rfl) (by kernel_rfl) (by kernel_rfl) (by kernel_rfl) ?_; clear F a; intro a F
          refine t_take (i := 2) F rfl rfl hq3 (fun _ _ => r_sstr_to F und_string rfl rfl (by omega) (by (try simp only [ByteArray.size_append, zs_size]); omega)) (fun _ _ _ h => h) (by kernel_rfl) (by kernel_rfl) (by kernel_rfl) (by kernel_rfl) ?_; clear F a; intro a F
          refine t_take (i := 3) F rfl rfl hq3 (fun _ _ => r_fieldAddr F rfl fld_Op_5) (fun _ _ _ h => h) (by kernel_rfl) (by kernel_rfl) (by kernel_rfl) (by kernel_rfl) ?_; clear F a; intro a F
          refine t_take (i := 4) F rfl rfl hq3 (fun _ ⟨_, _, M'⟩ => r_load1 M' F rfl (by repeat (first | exact List.mem_cons_self | apply List.mem_cons_of_mem)) sca_string rfl) (fun _ _ _ h => h) (by kernel_rfl) (by kernel_rfl) (by kernel_rfl) (by kernel_rfl) ?_; clear F a; intro a F
          refine t_take (i := 5) F rfl rfl hq3 (fun _ _ => r_add_string F rfl rfl (by simp only [ByteArray.size_extract, ByteArray.size_append, zs_size, (show (ByteArray.mk #[]).size = 0 from rfl)]; omega)) (fun _ _ _ h => h) (by kernel_rfl) (by kernel_rfl) (by kernel_rfl) (by kernel_rfl) ?_; clear F a; intro a F
          refine t_take (i := 6) F rfl rfl hq3 (fun _ _ => r_move F rfl) (fun _ _ _ h => h) (by kernel_rfl) (by kernel_rfl) (by kernel_rfl) (by kernel_rfl) ?_; clear F a; intro a F
          refine t_take (i := 7) F rfl rfl hq3 (fun _ _ => r_add_string F rfl rfl (by simp only [ByteArray.size_extract, ByteArray.size_append, zs_size, (show (ByteArray.mk #[]).size = 0 from rfl)]; omega)) (fun _ _ _ h => h) (by kernel_rfl) (by kernel_rfl) (by kernel_rfl) (by kernel_rfl) ?_; clear F a; intro a F
          refine t_take (i := 8) F rfl rfl hq3 (fun _ _ => r_fieldAddr F rfl fld_Obj_0) (fun _ _ _ h => h) (by kernel_rfl) (by kernel_rfl) (by kernel_rfl) (by kernel_rfl) ?_; clear F a; intro a F
          refine t_one (i := 9) (by kernel_rfl) rfl rfl (o_store1 M F rfl rfl sca_bool rfl rfl p_Obj_0 (by repeat (first | exact Upd.here _ _ _ _ _ | apply Upd.there)) ?_); clear F a; intro a W12 M F
          refine keepAnd (Keeps.mk hle3 M (by repeat (first | exact List.Sublist.refl _ | apply List.Sublist.cons_cons | apply List.Sublist.cons))) (fun hq3 => ?_)
          refine t_take (i := 10) F rfl rfl hq3 (fun _ _ => r_fieldAddr F rfl fld_Obj_1) (fun _ _ _ h => h) (by kernel_rfl) (by kernel_rfl) (by kernel_rfl) (by kernel_rfl) ?_; clear F a; intro a F
          refine t_one (i := 11) (by kernel_rfl) rfl rfl (o_store1 M F rfl rfl sca_string rfl rfl p_Obj_1 (by repeat (first | exact Upd.here _ _ _ _ _ | apply Upd.there)) ?_); clear F a; intro a W13 M F
          refine keepAnd (Keeps.mk hle3 M (by repeat (first | exact List.Sublist.refl _ | apply List.Sublist.cons_cons | apply List.Sublist.cons))) (fun hq3 => ?_)
          refine t_done (by kernel_rfl) ?_ _
          refine hK3 _ _ ?_
          refine c_seq (fun K20 hK20 => ?_)
          refine wp_region_lit ?_
          refine l_step rfl (o_val F (r_load M F rfl (by repeat (first | exact List.mem_cons_self | apply List.mem_cons_of_mem)) agg_Obj (seg_all rfl)) rfl ?_); clear F a; intro a F
          refine l_step rfl (o_storeA M F rfl rfl agg_Obj.size (by repeat (first | exact Upd.here _ _ _ _ _ | apply Upd.there)) (by rfl) (by rfl) (by rfl) ?_); clear F a; intro a W14 M F
          refine l_step rfl (o_val F (r_assign F rfl) rfl ?_); clear F a; intro a F
          refine l_nil ?_
          refine hK20 _ _ ?_
          refine wp_ret ?_
          exact ret2 Tryd.results35 M F (rv_cell M F rfl (by repeat (first | exact List.mem_cons_self | apply List.mem_cons_of_mem)) agg_Obj rfl) (rv_tmp F rfl) (by clear hI M F hK1 hK2 hK3 hK4 hK5 hK6 hK7 hK9 hK10 hK11 hK17 hK18 hK19 hK20; simp_all [pDoes, pWrite_r, pTrunc_r, pAttr_r, pRemove, rW, rT, rP, -UInt8.not_le, -UInt8.not_lt, -UInt32.not_le, -UInt32.not_lt, -Int.not_lt, -Int.not_le, -Nat.not_lt, -Nat.not_le])
        · skip
          refine wp_skip ?_
          refine hK18 _ _ ?_
          refine c_drawM (M.drop (List.Sublist.cons_cons _ (List.Sublist.cons_cons _ (List.Sublist.cons _ (List.Sublist.refl _))))) [] mixed (fun Mk => ?_)
          have M := M.drew
          have Ms := Mk
          have hq4 := Keeps.here Mk
          have hle4 := M.gle
          refine t_take (i := 0) F rfl rfl hq4 (fun _ _ => r_move F rfl) (fun _ _ _ h => h) (by kernel_rfl) (by kernel_rfl) (by kernel_rfl) (by kernel_rfl) ?_; clear F a; intro a F
          refine t_take (i := 1) F rfl rfl hq4 (fun _ _ => r_move F rfl) (fun _ _ _ h => h) (by kernel_rfl) (by kernel_rfl) (by kernel_rfl) (by kernel_rfl) ?_; clear F a; intro a F
          refine t_take (i := 2) F rfl rfl hq4 (fun _ _ => r_sstr_to F und_string rfl rfl (by omega) (by (try simp only [ByteArray.size_append, zs_size]); omega)) (fun _ _ _ h => h) (by kernel_rfl) (by kernel_rfl) (by kernel_rfl) (by kernel_rfl) ?_; clear F a; intro a F
          refine t_take (i := 3) F rfl rfl hq4 (fun _ _ => r_fieldAddr F rfl fld_Op_5) (fun _ _ _ h => h) (by kernel_rfl) (by kernel_rfl) (by kernel_rfl) (by kernel_rfl) ?_; clear F a; intro a F
          refine t_take (i := 4) F rfl rfl hq4 (fun _ ⟨_, _, M'⟩ => r_load1 M' F rfl (by repeat (first | exact List.mem_cons_self | apply List.mem_cons_of_mem)) sca_string rfl) (fun _ _ _ h => h) (by kernel_rfl) (by kernel_rfl) (by kernel_rfl) (by kernel_rfl) ?_; clear F a; intro a F
          refine t_take (i := 5) F rfl rfl hq4 (fun _ _ => r_add_string F rfl rfl (by simp only [ByteArray.size_extract, ByteArray.size_append, zs_size, (show (ByteArray.mk #[]).size = 0 from rfl)]; omega)) (fun _ _ _ h => h) (by kernel_rfl) (by kernel_rfl) (by kernel_rfl) (by kernel_rfl) ?_; clear F a; intro a F
          refine t_take (i := 6) F rfl rfl hq4 (fun _ _ => r_move F rfl) (fun _ _ _ h => h) (by kernel_rfl) (by kernel_rfl) (by kernel_rfl) (by kernel_rfl) ?_; clear F a; intro a F
          refine t_take (i := 7) F rfl rfl hq4 (fun _ _ => r_add_string F rfl rfl (by simp only [ByteArray.size_extract, ByteArray.size_append, zs_size, (show (ByteArray.mk #[]).size = 0 from rfl)]; omega)) (fun _ _ _ h => h) (by kernel_rfl) (by kernel_rfl) (by kernel_rfl) (by kernel_rfl) ?_; clear F a; intro a F
          refine t_take (i := 8) F rfl rfl hq4 (fun _ _ => r_fieldAddr F rfl fld_Obj_0) (fun _ _ _ h => h) (by kernel_rfl) (by kernel_rfl) (by kernel_rfl) (by kernel_rfl) ?_; clear F a; intro a F
          refine t_one (i := 9) (by kernel_rfl) rfl rfl (o_store1 M F rfl rfl sca_bool rfl rfl p_Obj_0 (by repeat (first | exact Upd.here _ _ _ _ _ | apply Upd.there)) ?_); clear F a; intro a W15 M F
          refine keepAnd (Keeps.mk hle4 M (by repeat (first | exact List.Sublist.refl _ | apply List.Sublist.cons_cons | apply List.Sublist.cons))) (fun hq4 => ?_)
          refine t_take (i := 10) F rfl rfl hq4 (fun _ _ => r_fieldAddr F rfl fld_Obj_1) (fun _ _ _ h => h) (by kernel_rfl) (by kernel_rfl) (by kernel_rfl) (by kernel_rfl) ?_; clear F a; intro a F
          refine t_one (i := 11) (by kernel_rfl) rfl rfl (o_store1 M F rfl rfl sca_string rfl rfl p_Obj_1 (by repeat (first | exact Upd.here _ _ _ _ _ | apply Upd.there)) ?_); clear F a; intro a W16 M F
          refine keepAnd (Keeps.mk hle4 M (by repeat (first | exact List.Sublist.refl _ | apply List.Sublist.cons_cons | apply List.Sublist.cons))) (fun hq4 => ?_)
          refine t_done (by kernel_rfl) ?_ _
          refine hK3 _ _ ?_
          refine c_seq (fun K21 hK21 => ?_)
          refine wp_region_lit ?_
          refine l_step rfl (o_val F (r_load M F rfl (by repeat (first | exact List.mem_cons_self | apply List.mem_cons_of_mem)) agg_Obj (seg_all rfl)) rfl ?_); clear F a; intro a F
          refine l_step rfl (o_storeA M F rfl rfl agg_Obj.size (by repeat (first | exact Upd.here _ _ _ _ _ | apply Upd.there)) (by rfl) (by rfl) (by rfl) ?_); clear F a; intro a W17 M F
          refine l_step rfl (o_val F (r_assign F rfl) rfl ?_); clear F a; intro a F
          refine l_nil ?_
          refine hK21 _ _ ?_
          refine wp_ret ?_
          exact ret2 Tryd.results35 M F (rv_cell M F rfl (by repeat (first | exact List.mem_cons_self | apply List.mem_cons_of_mem)) agg_Obj rfl) (rv_tmp F rfl) (by clear hI M F hK1 hK2 hK3 hK4 hK5 hK6 hK7 hK9 hK10 hK11 hK17 hK18 hK19 hK21; simp_all [pDoes, pWrite_r, pTrunc_r, pAttr_r, pRemove, rW, rT, rP, -UInt8.not_le, -UInt8.not_lt, -UInt32.not_le, -UInt32.not_lt, -Int.not_lt, -Int.not_le, -Nat.not_lt, -Nat.not_le])
  · skip
    refine c_seq (fun K22 hK22 => ?_)
    refine wp_region_lit ?_
    refine l_step rfl (o_val F (r_eql_u8 F (y := 2) rfl rfl) rfl ?_); clear F a; intro a F
    refine l_step rfl (o_val F (r_assign F rfl) rfl ?_); clear F a; intro a F
    refine l_nil ?_
    refine hK22 _ _ ?_
    refine c_cond F rfl (fun g66 => ?_) (fun g66 => ?_)
    · skip
      refine c_seq (fun K23 hK23 => ?_)
      refine c_seq (fun K24 hK24 => ?_)
      refine wp_region_lit ?_
      refine l_step rfl (o_val F (r_fieldAddr F rfl fld_Obj_0) rfl ?_); clear F a; intro a F
      refine l_step rfl (o_val F (r_load1 M F rfl (by repeat (first | exact List.mem_cons_self | apply List.mem_cons_of_mem)) sca_bool rfl) rfl ?_); clear F a; intro a F
      refine l_step rfl (o_val F (r_not F rfl) rfl ?_); clear F a; intro a F
      refine l_nil ?_
      refine hK24 _ _ ?_
      refine c_cond F rfl (fun g70 => ?_) (fun g70 => ?_)
      · skip
        refine c_seq (fun K25 hK25 => ?_)
        refine wp_region_lit ?_
        refine l_step rfl (o_val F (r_load M F rfl (by repeat (first | exact List.mem_cons_self | apply List.mem_cons_of_mem)) agg_Obj (seg_all rfl)) rfl ?_); clear F a; intro a F
        refine l_step rfl (o_storeA M F rfl rfl agg_Obj.size (by repeat (first | exact Upd.here _ _ _ _ _ | apply Upd.there)) (by rfl) (by rfl) (by rfl) ?_); clear F a; intro a W18 M F
        refine l_step rfl (o_val F (r_assign F rfl) rfl ?_); clear F a; intro a F
        refine l_nil ?_
        refine hK25 _ _ ?_
        refine wp_ret ?_
        exact ret2 Tryd.results35 M F (rv_cell M F rfl (by repeat (first | exact List.mem_cons_self | apply List.mem_cons_of_mem)) agg_Obj rfl) (rv_tmp F rfl) (by clear hI M F hK1 hK2 hK3 hK4 hK5 hK22 hK23 hK24 hK25; simp_all [pDoes, pWrite_r, pTrunc_r, pAttr_r, pRemove, rW, rT, rP, -UInt8.not_le, -UInt8.not_lt, -UInt32.not_le, -UInt32.not_lt, -Int.not_lt, -Int.not_le, -Nat.not_lt, -Nat.not_le])
      · skip
        refine wp_skip ?_
        refine hK23 _ _ ?_
        refine c_seq (fun K26 hK26 => ?_)
        refine c_seq (fun K27 hK27 => ?_)
        refine wp_region_lit ?_
        refine l_step rfl (o_val F (r_move F rfl) rfl ?_); clear F a; intro a F
        refine l_step rfl (o_val F (r_gtr_i64 F rfl rfl) rfl ?_); clear F a; intro a F
        refine l_nil ?_
        refine hK27 _ _ ?_
        refine c_cond F rfl (fun g73 => ?_) (fun g73 => ?_)
        · skip
          refine c_seq (fun K28 hK28 => ?_)
          refine wp_region_lit ?_
          refine l_step rfl (o_val F (r_load M F rfl (by repeat (first | exact List.mem_cons_self | apply List.mem_cons_of_mem)) agg_Obj (seg_all rfl)) rfl ?_); clear F a; intro a F
          refine l_step rfl (o_storeA M F rfl rfl agg_Obj.size (by repeat (first | exact Upd.here _ _ _ _ _ | apply Upd.there)) (by rfl) (by rfl) (by rfl) ?_); clear F a; intro a W19 M F
          refine l_step rfl (o_val F (r_assign F rfl) rfl ?_); clear F a; intro a F
          refine l_nil ?_
          refine hK28 _ _ ?_
          refine wp_ret ?_
          exact ret2 Tryd.results35 M F (rv_cell M F rfl (by repeat (first | exact List.mem_cons_self | apply List.mem_cons_of_mem)) agg_Obj rfl) (rv_tmp F rfl) (by clear hI M F hK1 hK2 hK3 hK4 hK5 hK22 hK23 hK24 hK26 hK27 hK28; simp_all [pDoes, pWrite_r, pTrunc_r, pAttr_r, pRemove, rW, rT, rP, -UInt8.not_le, -UInt8.not_lt, -UInt32.not_le, -UInt32.not_lt, -Int.not_lt, -Int.not_le, -Nat.not_lt, -Nat.not_le])
        · skip
          refine wp_skip ?_
          refine hK26 _ _ ?_
          refine c_seq (fun K29 hK29 => ?_)
          refine c_seq (fun K30 hK30 => ?_)
          refine wp_region_lit ?_
          refine l_step rfl (o_val F (r_fieldAddr F rfl fld_Obj_1) rfl ?_); clear F a; intro a F
          refine l_step rfl (o_val F (r_load1 M F rfl (by repeat (first | exact List.mem_cons_self | apply List.mem_cons_of_mem)) sca_string rfl) rfl ?_); clear F a; intro a F
          refine l_step rfl (o_val F (r_len_string F und_string rfl) rfl ?_); clear F a; intro a F
          refine l_step rfl (o_val F (r_move F rfl) rfl ?_); clear F a; intro a F
          refine l_step rfl (o_val F (r_lss_i64 F rfl rfl) rfl ?_); clear F a; intro a F
          refine l_nil ?_
          refine hK30 _ _ ?_
          refine c_cond F rfl (fun g79 => ?_) (fun g79 => ?_)
          · skip
            have h79 := of_decide_eq_true g79
            refine c_drawM M [10] mixed (fun M => ?_)
            have Ms := M
            have hq5 := Keeps.here M
            have hle5 := M.gle
            refine t_take (i := 0) F rfl rfl hq5 (fun _ _ => r_fieldAddr F rfl fld_Obj_1) (fun _ _ _ h => h) (by kernel_rfl) (by kernel_rfl) (by kernel_rfl) (by kernel_rfl) ?_; clear F a; intro a F
            refine t_take (i := 1) F rfl rfl hq5 (fun _ ⟨_, _, M'⟩ => r_load1 M' F rfl (by repeat (first | exact List.mem_cons_self | apply List.mem_cons_of_mem)) sca_string rfl) (fun _ _ _ h => h) (by kernel_rfl) (by kernel_rfl) (by kernel_rfl) (by kernel_rfl) ?_; clear F a; intro a F
            refine t_take (i := 2) F rfl rfl hq5 (fun _ _ => r_move F rfl) (fun _ _ _ h => h) (by kernel_rfl) (by kernel_rfl) (by kernel_rfl) (by kernel_rfl) ?_; clear F a; intro a F
            refine t_take (i := 3) F rfl rfl hq5 (fun _ _ => r_fieldAddr F rfl fld_Obj_1) (fun _ _ _ h => h) (by kernel_rfl) (by kernel_rfl) (by kernel_rfl) (by kernel_rfl) ?_; clear F a; intro a F
            refine t_take (i := 4) F rfl rfl hq5 (fun _ ⟨_, _, M'⟩ => r_load1 M' F rfl (by repeat (first | exact List.mem_cons_self | apply List.mem_cons_of_mem)) sca_string rfl) (fun _ _ _ h => h) (by kernel_rfl) (by kernel_rfl) (by kernel_rfl) (by kernel_rfl) ?_; clear F a; intro a F
            refine t_take (i := 5) F rfl rfl hq5 (fun _ _ => r_len_string F und_string rfl) (fun _ _ _ h => h) (by kernel_rfl) (by kernel_rfl) (by kernel_rfl) (by kernel_rfl) ?_; clear F a; intro a F
            refine t_take (i := 6) F rfl rfl hq5 (fun _ _ => r_sub_i64 F rfl rfl (by omega)) (fun _ _ _ h => h) (by kernel_rfl) (by kernel_rfl) (by kernel_rfl) (by kernel_rfl) ?_; clear F a; intro a F
            refine t_one (i := 7) (by kernel_rfl) rfl rfl (o_call M F rfl (c_paddockref6_noughts M.imm (by omega) (by omega)) rfl ?_); clear F a; intro a W20 v20 G20 hp20 M E20 F
            subst hp20
            have hle5 := hle5.trans E20.gl
            refine keepAnd (Keeps.mk hle5 M (by repeat (first | exact List.Sublist.refl _ | apply List.Sublist.cons_cons | apply List.Sublist.cons))) (fun hq5 => ?_)
            refine t_take (i := 8) F rfl rfl hq5 (fun _ _ => r_add_string F rfl rfl (by rw [zs_size]; omega)) (fun _ _ _ h => h) (by kernel_rfl) (by kernel_rfl) (by kernel_rfl) (by kernel_rfl) ?_; clear F a; intro a F
            refine t_take (i := 9) F rfl rfl hq5 (fun _ _ => r_fieldAddr F rfl fld_Obj_1) (fun _ _ _ h => h) (by kernel_rfl) (by kernel_rfl) (by kernel_rfl) (by kernel_rfl) ?_; clear F a; intro a F
            refine t_one (i := 10) (by kernel_rfl) rfl rfl (o_store1 M F rfl rfl sca_string rfl rfl p_Obj_1 (by repeat (first | exact Upd.here _ _ _ _ _ | apply Upd.there)) ?_); clear F a; intro a W21 M F
            refine ⟨(fun h => nomatch h), ?_⟩
            refine t_done (by kernel_rfl) ?_ _
            refine hK29 _ _ ?_
            refine wp_region_lit ?_
            refine l_step rfl (o_val F (r_fieldAddr F rfl fld_Obj_1) rfl ?_); clear F a; intro a F
            refine l_step rfl (o_val F (r_load1 M F rfl (by repeat (first | exact List.mem_cons_self | apply List.mem_cons_of_mem)) sca_string rfl) rfl ?_); clear F a; intro a F
            refine l_step rfl (o_val F (r_move F rfl) rfl ?_); clear F a; intro a F
            refine l_step rfl (o_val F (r_sstr_to F und_string rfl rfl (by omega) (by (try simp only [ByteArray.size_append, zs_size]); omega)) rfl ?_); clear F a; intro a F
            refine l_step rfl (o_val F (r_fieldAddr F rfl fld_Obj_1) rfl ?_); clear F a; intro a F
            refine l_step rfl (o_store1 M F rfl rfl sca_string rfl rfl p_Obj_1 (by repeat (first | exact Upd.here _ _ _ _ _ | apply Upd.there)) ?_); clear F a; intro a W22 M F
            refine l_nil ?_
            refine hK3 _ _ ?_
            refine c_seq (fun K31 hK31 => ?_)
            refine wp_region_lit ?_
            refine l_step rfl (o_val F (r_load M F rfl (by repeat (first | exact List.mem_cons_self | apply List.mem_cons_of_mem)) agg_Obj (seg_all rfl)) rfl ?_); clear F a; intro a F
            refine l_step rfl (o_storeA M F rfl rfl agg_Obj.size (by repeat (first | exact Upd.here _ _ _ _ _ | apply Upd.there)) (by rfl) (by rfl) (by rfl) ?_); clear F a; intro a W23 M F
            refine l_step rfl (o_val F (r_assign F rfl) rfl ?_); clear F a; intro a F
            refine l_nil ?_
            refine hK31 _ _ ?_
            refine wp_ret ?_
            exact ret2 Tryd.results35 M F (rv_cell M F rfl (by repeat (first | exact List.mem_cons_self | apply List.mem_cons_of_mem)) agg_Obj rfl) (rv_tmp F rfl) (by clear hI M F hK1 hK2 hK3 hK4 hK5 hK22 hK23 hK24 hK26 hK27 hK29 hK30 hK31; simp_all [pDoes, pWrite_r, pTrunc_r, pAttr_r, pRemove, rW, rT, rP, -UInt8.not_le, -UInt8.not_lt, -UInt32.not_le, -UInt32.not_lt, -Int.not_lt, -Int.not_le, -Nat.not_lt, -Nat.not_le])
          · skip
            have h79 := of_decide_eq_false g79
            refine wp_skip ?_
            refine hK29 _ _ ?_
            refine wp_region_lit ?_
            refine l_step rfl (o_val F (r_fieldAddr F rfl fld_Obj_1) rfl ?_); clear F a; intro a F
            refine l_step rfl (o_val F (r_load1 M F rfl (by repeat (first | exact List.mem_cons_self | apply List.mem_cons_of_mem)) sca_string rfl) rfl ?_); clear F a; intro a F
            refine l_step rfl (o_val F (r_move F rfl) rfl ?_); clear F a; intro a F
            refine l_step rfl (o_val F (r_sstr_to F und_string rfl rfl (by omega) (by (try simp only [ByteArray.size_append, zs_size]); omega)) rfl ?_); clear F a; intro a F
            refine l_step rfl (o_val F (r_fieldAddr F rfl fld_Obj_1) rfl ?_); clear F a; intro a F
            refine l_step rfl (o_store1 M F rfl rfl sca_string rfl rfl p_Obj_1 (by repeat (first | exact Upd.here _ _ _ _ _ | apply Upd.there)) ?_); clear F a; intro a W24 M F
            refine l_nil ?_
            refine hK3 _ _ ?_
            refine c_seq (fun K32 hK32 => ?_)
            refine wp_region_lit ?_
            refine l_step rfl (o_val F (r_load M F rfl (by repeat (first | exact List.mem_cons_self | apply List.mem_cons_of_mem)) agg_Obj (seg_all rfl)) rfl ?_); clear F a; intro a F
            refine l_step rfl (o_storeA M F rfl rfl agg_Obj.size (by repeat (first | exact Upd.here _ _ _ _ _ | apply Upd.there)) (by rfl) (by rfl) (by rfl) ?_); clear F a; intro a W25 M F
            refine l_step rfl (o_val F (r_assign F rfl) rfl ?_); clear F a; intro a F
            refine l_nil ?_
            refine hK32 _ _ ?_
            refine wp_ret ?_
            exact ret2 Tryd.results35 M F (rv_cell M F rfl (by repeat (first | exact List.mem_cons_self | apply List.mem_cons_of_mem)) agg_Obj rfl) (rv_tmp F rfl) (by clear hI M F hK1 hK2 hK3 hK4 hK5 hK22 hK23 hK24 hK26 hK27 hK29 hK30 hK32; simp_all [pDoes, pWrite_r, pTrunc_r, pAttr_r, pRemove, rW, rT, rP, -UInt8.not_le, -UInt8.not_lt, -UInt32.not_le, -UInt32.not_lt, -Int.not_lt, -Int.not_le, -Nat.not_lt, -Nat.not_le])
    · skip
      refine c_seq (fun K33 hK33 => ?_)
      refine wp_region_lit ?_
      refine l_step rfl (o_val F (r_eql_u8 F (y := 3) rfl rfl) rfl ?_); clear F a; intro a F
      refine l_step rfl (o_val F (r_assign F rfl) rfl ?_); clear F a; intro a F
      refine l_nil ?_
      refine hK33 _ _ ?_
      refine c_cond F rfl (fun g95 => ?_) (fun g95 => ?_)
      · skip
        refine c_seq (fun K34 hK34 => ?_)
        refine c_seq (fun K35 hK35 => ?_)
        refine wp_region_lit ?_
        refine l_step rfl (o_val F (r_move F rfl) rfl ?_); clear F a; intro a F
        refine l_step rfl (o_val F (r_geq_i64 F rfl rfl) rfl ?_); clear F a; intro a F
        refine l_nil ?_
        refine hK35 _ _ ?_
        refine c_cond F rfl (fun g98 => ?_) (fun g98 => ?_)
        · skip
          refine c_seq (fun K36 hK36 => ?_)
          refine wp_region_lit ?_
          refine l_step rfl (o_val F (r_load M F rfl (by repeat (first | exact List.mem_cons_self | apply List.mem_cons_of_mem)) agg_Obj (seg_all rfl)) rfl ?_); clear F a; intro a F
          refine l_step rfl (o_storeA M F rfl rfl agg_Obj.size (by repeat (first | exact Upd.here _ _ _ _ _ | apply Upd.there)) (by rfl) (by rfl) (by rfl) ?_); clear F a; intro a W26 M F
          refine l_step rfl (o_val F (r_assign F rfl) rfl ?_); clear F a; intro a F
          refine l_nil ?_
          refine hK36 _ _ ?_
          refine wp_ret ?_
          exact ret2 Tryd.results35 M F (rv_cell M F rfl (by repeat (first | exact List.mem_cons_self | apply List.mem_cons_of_mem)) agg_Obj rfl) (rv_tmp F rfl) (by clear hI M F hK1 hK2 hK3 hK4 hK5 hK22 hK33 hK34 hK35 hK36; simp_all [pDoes, pWrite_r, pTrunc_r, pAttr_r, pRemove, rW, rT, rP, -UInt8.not_le, -UInt8.not_lt, -UInt32.not_le, -UInt32.not_lt, -Int.not_lt, -Int.not_le, -Nat.not_lt, -Nat.not_le])
        · skip
          have hk108 : (o.at_.toNat : Int).toNat < 3 := by have h := of_decide_eq_false g98; omega
          refine wp_skip ?_
          refine hK34 _ _ ?_
          refine c_seq (fun K37 hK37 => ?_)
          refine c_seq (fun K38 hK38 => ?_)
          refine wp_region_lit ?_
          refine l_step rfl (o_val F (r_fieldAddr F rfl fld_Obj_0) rfl ?_); clear F a; intro a F
          refine l_step rfl (o_val F (r_load1 M F rfl (by repeat (first | exact List.mem_cons_self | apply List.mem_cons_of_mem)) sca_bool rfl) rfl ?_); clear F a; intro a F
          refine l_step rfl (o_val F (r_not F rfl) rfl ?_); clear F a; intro a F
          refine l_nil ?_
          refine hK38 _ _ ?_
          refine c_cond F rfl (fun g102 => ?_) (fun g102 => ?_)
          · skip
            refine c_seq (fun K39 hK39 => ?_)
            refine wp_region_lit ?_
            refine l_step rfl (o_val F (r_load M F rfl (by repeat (first | exact List.mem_cons_self | apply List.mem_cons_of_mem)) agg_Obj (seg_all rfl)) rfl ?_); clear F a; intro a F
            refine l_step rfl (o_storeA M F rfl rfl agg_Obj.size (by repeat (first | exact Upd.here _ _ _ _ _ | apply Upd.there)) (by rfl) (by rfl) (by rfl) ?_); clear F a; intro a W27 M F
            refine l_step rfl (o_val F (r_assign F rfl) rfl ?_); clear F a; intro a F
            refine l_nil ?_
            refine hK39 _ _ ?_
            refine wp_ret ?_
            exact ret2 Tryd.results35 M F (rv_cell M F rfl (by repeat (first | exact List.mem_cons_self | apply List.mem_cons_of_mem)) agg_Obj rfl) (rv_tmp F rfl) (by clear hI M F hK1 hK2 hK3 hK4 hK5 hK22 hK33 hK34 hK35 hK37 hK38 hK39; simp_all [pDoes, pWrite_r, pTrunc_r, pAttr_r, pRemove, rW, rT, rP, -UInt8.not_le, -UInt8.not_lt, -UInt32.not_le, -UInt32.not_lt, -Int.not_lt, -Int.not_le, -Nat.not_lt, -Nat.not_le])
          · skip
            refine wp_skip ?_
            refine hK37 _ _ ?_
            refine wp_region_lit ?_
            refine l_step rfl (o_val F (r_move F rfl) rfl ?_); clear F a; intro a F
            refine l_step rfl (o_val F (r_fieldAddr F rfl fld_Op_5) rfl ?_); clear F a; intro a F
            refine l_step rfl (o_val F (r_load1 M F rfl (by repeat (first | exact List.mem_cons_self | apply List.mem_cons_of_mem)) sca_string rfl) rfl ?_); clear F a; intro a F
            refine l_step rfl (o_val F (r_fieldAddr F rfl fld_Obj_2) rfl ?_); clear F a; intro a F
            refine l_step rfl (o_val F (r_indexArr F rfl rfl arr_Attrs (by omega) (by omega)) rfl ?_); clear F a; intro a F
            refine l_step rfl (o_store1 M F rfl rfl sca_string rfl (ble_of (by simp only [len_Obj]; omega)) (p_Obj_2_i hk108) (by repeat (first | exact Upd.here _ _ _ _ _ | apply Upd.there)) ?_); clear F a; intro a W28 M F
            refine l_nil ?_
            refine hK3 _ _ ?_
            refine c_seq (fun K40 hK40 => ?_)
            refine wp_region_lit ?_
            refine l_step rfl (o_val F (r_load M F rfl (by repeat (first | exact List.mem_cons_self | apply List.mem_cons_of_mem)) agg_Obj (seg_all rfl)) rfl ?_); clear F a; intro a F
            refine l_step rfl (o_storeA M F rfl rfl agg_Obj.size (by repeat (first | exact Upd.here _ _ _ _ _ | apply Upd.there)) (by rfl) (by rfl) (by rfl) ?_); clear F a; intro a W29 M F
            refine l_step rfl (o_val F (r_assign F rfl) rfl ?_); clear F a; intro a F
            refine l_nil ?_
            refine hK40 _ _ ?_
            refine wp_ret ?_
            exact ret2 Tryd.results35 M F (rv_cell M F rfl (by repeat (first | exact List.mem_cons_self | apply List.mem_cons_of_mem)) agg_Obj rfl) (rv_tmp F rfl) (by clear hI M F hK1 hK2 hK3 hK4 hK5 hK22 hK33 hK34 hK35 hK37 hK38 hK40; simp_all [pDoes, pWrite_r, pTrunc_r, pAttr_r, pRemove, rW, rT, rP, -UInt8.not_le, -UInt8.not_lt, -UInt32.not_le, -UInt32.not_lt, -Int.not_lt, -Int.not_le, -Nat.not_lt, -Nat.not_le])
      · skip
        refine c_seq (fun K41 hK41 => ?_)
        refine c_seq (fun K42 hK42 => ?_)
        refine wp_region_lit ?_
        refine l_step rfl (o_val F (r_fieldAddr F rfl fld_Obj_0) rfl ?_); clear F a; intro a F
        refine l_step rfl (o_val F (r_load1 M F rfl (by repeat (first | exact List.mem_cons_self | apply List.mem_cons_of_mem)) sca_bool rfl) rfl ?_); clear F a; intro a F
        refine l_step rfl (o_val F (r_not F rfl) rfl ?_); clear F a; intro a F
        refine l_nil ?_
        refine hK42 _ _ ?_
        refine c_cond F rfl (fun g16 => ?_) (fun g16 => ?_)
        · skip
          refine c_seq (fun K43 hK43 => ?_)
          refine wp_region_lit ?_
          refine l_step rfl (o_val F (r_load M F rfl (by repeat (first | exact List.mem_cons_self | apply List.mem_cons_of_mem)) agg_Obj (seg_all rfl)) rfl ?_); clear F a; intro a F
          refine l_step rfl (o_storeA M F rfl rfl agg_Obj.size (by repeat (first | exact Upd.here _ _ _ _ _ | apply Upd.there)) (by rfl) (by rfl) (by rfl) ?_); clear F a; intro a W30 M F
          refine l_step rfl (o_val F (r_assign F rfl) rfl ?_); clear F a; intro a F
          refine l_nil ?_
          refine hK43 _ _ ?_
          refine wp_ret ?_
          exact ret2 Tryd.results35 M F (rv_cell M F rfl (by repeat (first | exact List.mem_cons_self | apply List.mem_cons_of_mem)) agg_Obj rfl) (rv_tmp F rfl) (by clear hI M F hK1 hK2 hK3 hK4 hK5 hK22 hK33 hK41 hK42 hK43; simp_all [pDoes, pWrite_r, pTrunc_r, pAttr_r, pRemove, rW, rT, rP, -UInt8.not_le, -UInt8.not_lt, -UInt32.not_le, -UInt32.not_lt, -Int.not_lt, -Int.not_le, -Nat.not_lt, -Nat.not_le])
        · skip
          refine wp_skip ?_
          refine hK41 _ _ ?_
          refine wp_region_lit ?_
          refine l_step rfl (o_val F (r_build F rfl b_Obj) rfl ?_); clear F a; intro a F
          refine l_step rfl (o_storeA M F rfl rfl agg_Obj.size (by repeat (first | exact Upd.here _ _ _ _ _ | apply Upd.there)) (by rfl) (by rfl) (by rfl) ?_); clear F a; intro a W31 M F
          refine l_nil ?_
          refine hK3 _ _ ?_
          refine c_seq (fun K44 hK44 => ?_)
          refine wp_region_lit ?_
          refine l_step rfl (o_val F (r_load M F rfl (by repeat (first | exact List.mem_cons_self | apply List.mem_cons_of_mem)) agg_Obj (seg_all rfl)) rfl ?_); clear F a; intro a F
          refine l_step rfl (o_storeA M F rfl rfl agg_Obj.size (by repeat (first | exact Upd.here _ _ _ _ _ | apply Upd.there)) (by rfl) (by rfl) (by rfl) ?_); clear F a; intro a W32 M F
          refine l_step rfl (o_val F (r_assign F rfl) rfl ?_); clear F a; intro a F
          refine l_nil ?_
          refine hK44 _ _ ?_
          refine wp_ret ?_
          exact ret2 Tryd.results35 M F (rv_cell M F rfl (by repeat (first | exact List.mem_cons_self | apply List.mem_cons_of_mem)) agg_Obj rfl) (rv_tmp F rfl) (by clear hI M F hK1 hK2 hK3 hK4 hK5 hK22 hK33 hK41 hK42 hK44; simp_all [pDoes, pWrite_r, pTrunc_r, pAttr_r, pRemove, rW, rT, rP, -UInt8.not_le, -UInt8.not_lt, -UInt32.not_le, -UInt32.not_lt, -Int.not_lt, -Int.not_le, -Nat.not_lt, -Nat.not_le])
theorem c_paddockref6_Do {w : World} {G0 : Ghost} (hI : Imm G0 w) {b : PBase} {o : POp} (hb : Few b) : Ret P 13 [agg b.enc, agg o.enc] [] w G0 (fun G W v => v = .tuple #[agg (pDo b o).1.enc, agg (pDo b o).2.enc]) := by
  refine enter Tryd.func13 rfl Tryd.ntmps13 rfl rfl hI (fun a F M => ?_)
  refine c_seq (fun K1 hK1 => ?_)
  refine wp_region_lit ?_
  refine l_step rfl (o_box M F rfl rfl ?_); clear F a; intro a W1 b1 M F
  refine l_step rfl (o_box M F rfl rfl ?_); clear F a; intro a W2 b2 M F
  refine l_step rfl (o_alloc M F zer_Base rfl ?_); clear F a; intro a W3 b3 M F
  refine l_step rfl (o_alloc M F zer_Res rfl ?_); clear F a; intro a W4 b4 M F
  refine l_nil ?_
  refine hK1 _ _ ?_
  refine c_seq (fun K2 hK2 => ?_)
  refine c_seq (fun K3 hK3 => ?_)
  refine wp_region_lit ?_
  refine l_step rfl (o_val F (r_load M F rfl (by repeat (first | exact List.mem_cons_self | apply List.mem_cons_of_mem)) agg_Op (seg_all rfl)) rfl ?_); clear F a; intro a F
  refine l_step rfl (o_call M F rfl (c_paddockref6_Writes M.imm) rfl ?_); clear F a; intro a W5 v5 G5 hp5 M E5 F
  subst hp5
  refine l_step rfl (o_val F (r_not F rfl) rfl ?_); clear F a; intro a F
  refine l_nil ?_
  refine hK3 _ _ ?_
  refine c_cond F rfl (fun g12 => ?_) (fun g12 => ?_)
  · skip
    refine c_seq (fun K4 hK4 => ?_)
    refine wp_region_lit ?_
    refine l_step rfl (o_val F (r_load M F rfl (by repeat (first | exact List.mem_cons_self | apply List.mem_cons_of_mem)) agg_Base (seg_all rfl)) rfl ?_); clear F a; intro a F
    refine l_step rfl (o_val F (r_build F rfl (b_Res_0 3)) rfl ?_); clear F a; intro a F
    refine l_step rfl (o_storeA M F rfl rfl agg_Base.size (by repeat (first | exact Upd.here _ _ _ _ _ | apply Upd.there)) (by rfl) (by rfl) (by rfl) ?_); clear F a; intro a W6 M F
    refine l_step rfl (o_storeA M F rfl rfl agg_Res.size (by repeat (first | exact Upd.here _ _ _ _ _ | apply Upd.there)) (by rfl) (by rfl) (by rfl) ?_); clear F a; intro a W7 M F
    refine l_nil ?_
    refine hK4 _ _ ?_
    refine wp_ret ?_
    exact ret2 Tryd.results13 M F (rv_cell M F rfl (by repeat (first | exact List.mem_cons_self | apply List.mem_cons_of_mem)) agg_Base rfl) (rv_cell M F rfl (by repeat (first | exact List.mem_cons_self | apply List.mem_cons_of_mem)) agg_Res rfl) (by clear hI M F hK1 hK2 hK3 hK4; simp_all [pDo, pDone, -UInt8.not_le, -UInt8.not_lt, -UInt32.not_le, -UInt32.not_lt, -Int.not_lt, -Int.not_le, -Nat.not_lt, -Nat.not_le])
  · skip
    refine wp_skip ?_
    refine hK2 _ _ ?_
    refine c_seq (fun K5 hK5 => ?_)
    refine wp_region_lit ?_
    refine l_step rfl (o_val F (r_load M F rfl (by repeat (first | exact List.mem_cons_self | apply List.mem_cons_of_mem)) agg_Base (seg_all rfl)) rfl ?_); clear F a; intro a F
    refine l_step rfl (o_val F (r_load M F rfl (by repeat (first | exact List.mem_cons_self | apply List.mem_cons_of_mem)) agg_Op (seg_all rfl)) rfl ?_); clear F a; intro a F
    refine l_step rfl (o_call M F rfl (c_paddockref6_Seen M.imm) rfl ?_); clear F a; intro a W8 v8 G8 hp8 M E8 F
    subst hp8
    refine l_step rfl (o_val F (r_move F rfl) rfl ?_); clear F a; intro a F
    refine l_step rfl (o_val F (r_extract F rfl rfl) rfl ?_); clear F a; intro a F
    refine l_step rfl (o_val F (r_extract F rfl rfl) rfl ?_); clear F a; intro a F
    refine l_step rfl (o_alloc M F zer_Res rfl ?_); clear F a; intro a W9 b5 M F
    refine l_step rfl (o_storeA M F rfl rfl agg_Res.size (by repeat (first | exact Upd.here _ _ _ _ _ | apply Upd.there)) (by rfl) (by rfl) (by rfl) ?_); clear F a; intro a W10 M F
    refine l_step rfl (o_val F (r_assign F rfl) rfl ?_); clear F a; intro a F
    refine l_nil ?_
    refine hK5 _ _ ?_
    refine c_seq (fun K6 hK6 => ?_)
    refine c_seq (fun K7 hK7 => ?_)
    refine wp_region_lit ?_
    refine l_step rfl (o_val F (r_move F rfl) rfl ?_); clear F a; intro a F
    refine l_nil ?_
    refine hK7 _ _ ?_
    refine c_cond F rfl (fun g21 => ?_) (fun g21 => ?_)
    · skip
      refine c_seq (fun K8 hK8 => ?_)
      refine c_drawM (M.drop (List.Sublist.cons_cons _ (List.Sublist.cons _ (List.Sublist.cons _ (List.Sublist.cons_cons _ (List.Sublist.cons_cons _ (List.Sublist.refl _))))))) [] mixed (fun Mk => ?_)
      have M := M.drew
      have Ms := Mk
      have hq1 := Keeps.here Mk
      have hle1 := M.gle
      refine t_take (i := 0) F rfl rfl hq1 (fun _ ⟨_, _, M'⟩ => r_load M' F rfl (by repeat (first | exact List.mem_cons_self | apply List.mem_cons_of_mem)) agg_Base (seg_all rfl)) (fun _ _ _ h => h) (by kernel_rfl) (by kernel_rfl) (by kernel_rfl) (by kernel_rfl) ?_; clear F a; intro a F
      refine t_take (i := 1) F rfl rfl hq1 (fun _ ⟨_, _, M'⟩ => r_load M' F rfl (by repeat (first | exact List.mem_cons_self | apply List.mem_cons_of_mem)) agg_Res (seg_all rfl)) (fun _ _ _ h => h) (by kernel_rfl) (by kernel_rfl) (by kernel_rfl) (by kernel_rfl) ?_; clear F a; intro a F
      refine t_one (i := 2) (by kernel_rfl) rfl rfl (o_storeA M F rfl rfl agg_Base.size (by repeat (first | exact Upd.here _ _ _ _ _ | apply Upd.there)) (by rfl) (by rfl) (by rfl) ?_); clear F a; intro a W11 M F
      refine keepAnd (Keeps.mk hle1 M (by repeat (first | exact List.Sublist.refl _ | apply List.Sublist.cons_cons | apply List.Sublist.cons))) (fun hq1 => ?_)
      refine t_one (i := 3) (by kernel_rfl) rfl rfl (o_storeA M F rfl rfl agg_Res.size (by repeat (first | exact Upd.here _ _ _ _ _ | apply Upd.there)) (by rfl) (by rfl) (by rfl) ?_); clear F a; intro a W12 M F
      refine keepAnd (Keeps.mk hle1 M (by repeat (first | exact List.Sublist.refl _ | apply List.Sublist.cons_cons | apply List.Sublist.cons))) (fun hq1 => ?_)
      refine t_done (by kernel_rfl) ?_ _
      refine hK8 _ _ ?_
      refine wp_ret ?_
      exact ret2 Tryd.results13 M F (rv_cell M F rfl (by repeat (first | exact List.mem_cons_self | apply List.mem_cons_of_mem)) agg_Base rfl) (rv_cell M F rfl (by repeat (first | exact List.mem_cons_self | apply List.mem_cons_of_mem)) agg_Res rfl) (by clear hI M F hK1 hK2 hK3 hK5 hK6 hK7 hK8; simp_all [pDo, pDone, -UInt8.not_le, -UInt8.not_lt, -UInt32.not_le, -UInt32.not_lt, -Int.not_lt, -Int.not_le, -Nat.not_lt, -Nat.not_le])
    · skip
      refine wp_skip ?_
      refine hK6 _ _ ?_
      refine c_seq (fun K9 hK9 => ?_)
      refine c_drawM M [] mixed (fun M => ?_)
      have Ms := M
      have hq2 := Keeps.here M
      have hle2 := M.gle
      have hf := writes_facts' g12
      have hk28 : (o.obj.toNat : Int).toNat < 6 := by omega
      have hk38 := hk28
      have hk48 := writes_idx g12
      refine t_take (i := 0) F rfl rfl hq2 (fun _ _ => r_fieldAddr F rfl fld_Op_3) (fun _ _ _ h => h) (by kernel_rfl) (by kernel_rfl) (by kernel_rfl) (by kernel_rfl) ?_; clear F a; intro a F
      refine t_take (i := 1) F rfl rfl hq2 (fun _ ⟨_, _, M'⟩ => r_load1 M' F rfl (by repeat (first | exact List.mem_cons_self | apply List.mem_cons_of_mem)) sca_u8 rfl) (fun _ _ _ h => h) (by kernel_rfl) (by kernel_rfl) (by kernel_rfl) (by kernel_rfl) ?_; clear F a; intro a F
      refine t_take (i := 2) F rfl rfl hq2 (fun _ _ => r_fieldAddr F rfl fld_Base_0) (fun _ _ _ h => h) (by kernel_rfl) (by kernel_rfl) (by kernel_rfl) (by kernel_rfl) ?_; clear F a; intro a F
      refine t_take (i := 3) F rfl rfl hq2 (fun _ _ => r_indexArr F rfl rfl arr_Objs (by omega) (by omega)) (fun _ _ _ h => h) (by kernel_rfl) (by kernel_rfl) (by kernel_rfl) (by kernel_rfl) ?_; clear F a; intro a F
      refine t_take (i := 4) F rfl rfl hq2 (fun _ ⟨_, _, M'⟩ => r_load M' F rfl (by repeat (first | exact List.mem_cons_self | apply List.mem_cons_of_mem)) agg_Obj (g_Base_0_i hk28)) (fun _ _ _ h => h) (by kernel_rfl) (by kernel_rfl) (by kernel_rfl) (by kernel_rfl) ?_; clear F a; intro a F
      refine t_take (i := 5) F rfl rfl hq2 (fun _ ⟨_, _, M'⟩ => r_load M' F rfl (by repeat (first | exact List.mem_cons_self | apply List.mem_cons_of_mem)) agg_Op (seg_all rfl)) (fun _ _ _ h => h) (by kernel_rfl) (by kernel_rfl) (by kernel_rfl) (by kernel_rfl) ?_; clear F a; intro a F
      refine t_rdy2 (i := 6) (j := 10) (by kernel_rfl) (w_plain rfl rfl ?_) (w_plain rfl rfl ?_)
      · skip
        refine id (o_call M F rfl (c_paddockref6_change M.imm (hb _) hf.2.2.2) rfl ?_); clear F a; intro a W13 v13 G13 hp13 M E13 F
        subst hp13
        have hle2 := hle2.trans E13.gl
        refine keepAnd (Keeps.mk hle2 M (by repeat (first | exact List.Sublist.refl _ | apply List.Sublist.cons_cons | apply List.Sublist.cons))) (fun hq2 => ?_)
        refine t_take (i := 7) F rfl rfl hq2 (fun _ _ => r_move F rfl) (fun _ _ _ h => h) (by kernel_rfl) (by kernel_rfl) (by kernel_rfl) (by kernel_rfl) ?_; clear F a; intro a F
        refine t_take (i := 8) F rfl rfl hq2 (fun _ _ => r_extract F rfl rfl) (fun _ _ _ h => h) (by kernel_rfl) (by kernel_rfl) (by kernel_rfl) (by kernel_rfl) ?_; clear F a; intro a F
        refine t_take (i := 9) F rfl rfl hq2 (fun _ _ => r_extract F rfl rfl) (fun _ _ _ h => h) (by kernel_rfl) (by kernel_rfl) (by kernel_rfl) (by kernel_rfl) ?_; clear F a; intro a F
        refine t_one (i := 10) (by kernel_rfl) rfl rfl (o_alloc M F zer_Obj rfl ?_); clear F a; intro a W14 b6 M F
        refine keepAnd (Keeps.mk hle2 M (by repeat (first | exact List.Sublist.refl _ | apply List.Sublist.cons_cons | apply List.Sublist.cons))) (fun hq2 => ?_)
        refine t_one (i := 11) (by kernel_rfl) rfl rfl (o_storeA M F rfl rfl agg_Obj.size (by repeat (first | exact Upd.here _ _ _ _ _ | apply Upd.there)) (by rfl) (by rfl) (by rfl) ?_); clear F a; intro a W15 M F
        refine keepAnd (Keeps.mk hle2 M (by repeat (first | exact List.Sublist.refl _ | apply List.Sublist.cons_cons | apply List.Sublist.cons))) (fun hq2 => ?_)
        refine t_take (i := 12) F rfl rfl hq2 (fun _ _ => r_assign F rfl) (fun _ _ _ h => h) (by kernel_rfl) (by kernel_rfl) (by kernel_rfl) (by kernel_rfl) ?_; clear F a; intro a F
        refine t_done (by kernel_rfl) ?_ _
        refine hK9 _ _ ?_
        refine c_seq (fun K10 hK10 => ?_)
        refine wp_region_lit ?_
        refine l_step rfl (o_val F (r_fieldAddr F rfl fld_Op_3) rfl ?_); clear F a; intro a F
        refine l_step rfl (o_val F (r_load1 M F rfl (by repeat (first | exact List.mem_cons_self | apply List.mem_cons_of_mem)) sca_u8 rfl) rfl ?_); clear F a; intro a F
        refine l_step rfl (o_val F (r_load M F rfl (by repeat (first | exact List.mem_cons_self | apply List.mem_cons_of_mem)) agg_Obj (seg_all rfl)) rfl ?_); clear F a; intro a F
        refine l_step rfl (o_val F (r_fieldAddr F rfl fld_Base_0) rfl ?_); clear F a; intro a F
        refine l_step rfl (o_val F (r_indexArr F rfl rfl arr_Objs (by omega) (by omega)) rfl ?_); clear F a; intro a F
        refine l_step rfl (o_store M F rfl rfl agg_Obj.size rfl rfl (ble_of (by simp only [len_Base]; omega)) (p_Base_0_i hk38) (by repeat (first | exact Upd.here _ _ _ _ _ | apply Upd.there)) ?_); clear F a; intro a W16 M F
        refine l_nil ?_
        refine hK10 _ _ ?_
        refine c_seq (fun K11 hK11 => ?_)
        refine wp_region_lit ?_
        refine l_step rfl (o_val F (r_fieldAddr F rfl fld_Op_0) rfl ?_); clear F a; intro a F
        refine l_step rfl (o_val F (r_load1 M F rfl (by repeat (first | exact List.mem_cons_self | apply List.mem_cons_of_mem)) sca_u8 rfl) rfl ?_); clear F a; intro a F
        refine l_step rfl (o_val F (r_sub_u8 F (y := 1) rfl rfl) rfl ?_); clear F a; intro a F
        refine l_step rfl (o_val F (r_fieldAddr F rfl fld_Op_1) rfl ?_); clear F a; intro a F
        refine l_step rfl (o_val F (r_load1 M F rfl (by repeat (first | exact List.mem_cons_self | apply List.mem_cons_of_mem)) sca_u32 rfl) rfl ?_); clear F a; intro a F
        refine l_step rfl (o_val F (r_move F rfl) rfl ?_); clear F a; intro a F
        refine l_step rfl (o_val F (r_build F rfl (b_Res_0 _)) rfl ?_); clear F a; intro a F
        refine l_step rfl (o_val F (r_build F rfl (b_Last_0_1 _ _)) rfl ?_); clear F a; intro a F
        refine l_step rfl (o_val F (r_fieldAddr F rfl fld_Base_1) rfl ?_); clear F a; intro a F
        refine l_step rfl (o_val F (r_indexArr F rfl rfl arr_Lasts (by omega) (by omega)) rfl ?_); clear F a; intro a F
        refine l_step rfl (o_store M F rfl rfl agg_Last.size rfl rfl (ble_of (by simp only [len_Base]; omega)) (p_Base_1_i hk48) (by repeat (first | exact Upd.here _ _ _ _ _ | apply Upd.there)) ?_); clear F a; intro a W17 M F
        refine l_nil ?_
        refine hK11 _ _ ?_
        refine c_seq (fun K12 hK12 => ?_)
        refine wp_region_lit ?_
        refine l_step rfl (o_val F (r_load M F rfl (by repeat (first | exact List.mem_cons_self | apply List.mem_cons_of_mem)) agg_Base (seg_all rfl)) rfl ?_); clear F a; intro a F
        refine l_step rfl (o_val F (r_move F rfl) rfl ?_); clear F a; intro a F
        refine l_step rfl (o_val F (r_build F rfl (b_Res_0 _)) rfl ?_); clear F a; intro a F
        refine l_step rfl (o_storeA M F rfl rfl agg_Base.size (by repeat (first | exact Upd.here _ _ _ _ _ | apply Upd.there)) (by rfl) (by rfl) (by rfl) ?_); clear F a; intro a W18 M F
        refine l_step rfl (o_storeA M F rfl rfl agg_Res.size (by repeat (first | exact Upd.here _ _ _ _ _ | apply Upd.there)) (by rfl) (by rfl) (by rfl) ?_); clear F a; intro a W19 M F
        refine l_nil ?_
        refine hK12 _ _ ?_
        refine wp_ret ?_
        exact ret2 Tryd.results13 M F (rv_cell M F rfl (by repeat (first | exact List.mem_cons_self | apply List.mem_cons_of_mem)) agg_Base rfl) (rv_cell M F rfl (by repeat (first | exact List.mem_cons_self | apply List.mem_cons_of_mem)) agg_Res rfl) (by clear hI M F hK1 hK2 hK3 hK5 hK6 hK7 hK9 hK10 hK11 hK12; simp_all [pDo, pDone, -UInt8.not_le, -UInt8.not_lt, -UInt32.not_le, -UInt32.not_lt, -Int.not_lt, -Int.not_le, -Nat.not_lt, -Nat.not_le])
      · skip
        refine id (o_alloc M F zer_Obj rfl ?_); clear F a; intro a W20 b7 M F
        refine keepAnd (Keeps.mk hle2 M (by repeat (first | exact List.Sublist.refl _ | apply List.Sublist.cons_cons | apply List.Sublist.cons))) (fun hq2 => ?_)
        refine t_one (i := 6) (by kernel_rfl) rfl rfl (o_call M F rfl (c_paddockref6_change M.imm (hb _) hf.2.2.2) rfl ?_); clear F a; intro a W21 v21 G21 hp21 M E21 F
        subst hp21
        have hle2 := hle2.trans E21.gl
        refine keepAnd (Keeps.mk hle2 M (by repeat (first | exact List.Sublist.refl _ | apply List.Sublist.cons_cons | apply List.Sublist.cons))) (fun hq2 => ?_)
        refine t_take (i := 7) F rfl rfl hq2 (fun _ _ => r_move F rfl) (fun _ _ _ h => h) (by kernel_rfl) (by kernel_rfl) (by kernel_rfl) (by kernel_rfl) ?_; clear F a; intro a F
        refine t_take (i := 8) F rfl rfl hq2 (fun _ _ => r_extract F rfl rfl) (fun _ _ _ h => h) (by kernel_rfl) (by kernel_rfl) (by kernel_rfl) (by kernel_rfl) ?_; clear F a; intro a F
        refine t_take (i := 9) F rfl rfl hq2 (fun _ _ => r_extract F rfl rfl) (fun _ _ _ h => h) (by kernel_rfl) (by kernel_rfl) (by kernel_rfl) (by kernel_rfl) ?_; clear F a; intro a F
        refine t_one (i := 11) (by kernel_rfl) rfl rfl (o_storeA M F rfl rfl agg_Obj.size (by repeat (first | exact Upd.here _ _ _ _ _ | apply Upd.there)) (by rfl) (by rfl) (by rfl) ?_); clear F a; intro a W22 M F
        refine keepAnd (Keeps.mk hle2 M (by repeat (first | exact List.Sublist.refl _ | apply List.Sublist.cons_cons | apply List.Sublist.cons))) (fun hq2 => ?_)
        refine t_take (i := 12) F rfl rfl hq2 (fun _ _ => r_assign F rfl) (fun _ _ _ h => h) (by kernel_rfl) (by kernel_rfl) (by kernel_rfl) (by kernel_rfl) ?_; clear F a; intro a F
        refine t_done (by kernel_rfl) ?_ _
        refine hK9 _ _ ?_
        refine c_seq (fun K13 hK13 => ?_)
        refine wp_region_lit ?_
        refine l_step rfl (o_val F (r_fieldAddr F rfl fld_Op_3) rfl ?_); clear F a; intro a F
        refine l_step rfl (o_val F (r_load1 M F rfl (by repeat (first | exact List.mem_cons_self | apply List.mem_cons_of_mem)) sca_u8 rfl) rfl ?_); clear F a; intro a F
        refine l_step rfl (o_val F (r_load M F rfl (by repeat (first | exact List.mem_cons_self | apply List.mem_cons_of_mem)) agg_Obj (seg_all rfl)) rfl ?_); clear F a; intro a F
        refine l_step rfl (o_val F (r_fieldAddr F rfl fld_Base_0) rfl ?_); clear F a; intro a F
        refine l_step rfl (o_val F (r_indexArr F rfl rfl arr_Objs (by omega) (by omega)) rfl ?_); clear F a; intro a F
        refine l_step rfl (o_store M F rfl rfl agg_Obj.size rfl rfl (ble_of (by simp only [len_Base]; omega)) (p_Base_0_i hk38) (by repeat (first | exact Upd.here _ _ _ _ _ | apply Upd.there)) ?_); clear F a; intro a W23 M F
        refine l_nil ?_
        refine hK13 _ _ ?_
        refine c_seq (fun K14 hK14 => ?_)
        refine wp_region_lit ?_
        refine l_step rfl (o_val F (r_fieldAddr F rfl fld_Op_0) rfl ?_); clear F a; intro a F
        refine l_step rfl (o_val F (r_load1 M F rfl (by repeat (first | exact List.mem_cons_self | apply List.mem_cons_of_mem)) sca_u8 rfl) rfl ?_); clear F a; intro a F
        refine l_step rfl (o_val F (r_sub_u8 F (y := 1) rfl rfl) rfl ?_); clear F a; intro a F
        refine l_step rfl (o_val F (r_fieldAddr F rfl fld_Op_1) rfl ?_); clear F a; intro a F
        refine l_step rfl (o_val F (r_load1 M F rfl (by repeat (first | exact List.mem_cons_self | apply List.mem_cons_of_mem)) sca_u32 rfl) rfl ?_); clear F a; intro a F
        refine l_step rfl (o_val F (r_move F rfl) rfl ?_); clear F a; intro a F
        refine l_step rfl (o_val F (r_build F rfl (b_Res_0 _)) rfl ?_); clear F a; intro a F
        refine l_step rfl (o_val F (r_build F rfl (b_Last_0_1 _ _)) rfl ?_); clear F a; intro a F
        refine l_step rfl (o_val F (r_fieldAddr F rfl fld_Base_1) rfl ?_); clear F a; intro a F
        refine l_step rfl (o_val F (r_indexArr F rfl rfl arr_Lasts (by omega) (by omega)) rfl ?_); clear F a; intro a F
        refine l_step rfl (o_store M F rfl rfl agg_Last.size rfl rfl (ble_of (by simp only [len_Base]; omega)) (p_Base_1_i hk48) (by repeat (first | exact Upd.here _ _ _ _ _ | apply Upd.there)) ?_); clear F a; intro a W24 M F
        refine l_nil ?_
        refine hK14 _ _ ?_
        refine c_seq (fun K15 hK15 => ?_)
        refine wp_region_lit ?_
        refine l_step rfl (o_val F (r_load M F rfl (by repeat (first | exact List.mem_cons_self | apply List.mem_cons_of_mem)) agg_Base (seg_all rfl)) rfl ?_); clear F a; intro a F
        refine l_step rfl (o_val F (r_move F rfl) rfl ?_); clear F a; intro a F
        refine l_step rfl (o_val F (r_build F rfl (b_Res_0 _)) rfl ?_); clear F a; intro a F
        refine l_step rfl (o_storeA M F rfl rfl agg_Base.size (by repeat (first | exact Upd.here _ _ _ _ _ | apply Upd.there)) (by rfl) (by rfl) (by rfl) ?_); clear F a; intro a W25 M F
        refine l_step rfl (o_storeA M F rfl rfl agg_Res.size (by repeat (first | exact Upd.here _ _ _ _ _ | apply Upd.there)) (by rfl) (by rfl) (by rfl) ?_); clear F a; intro a W26 M F
        refine l_nil ?_
        refine hK15 _ _ ?_
        refine wp_ret ?_
        exact ret2 Tryd.results13 M F (rv_cell M F rfl (by repeat (first | exact List.mem_cons_self | apply List.mem_cons_of_mem)) agg_Base rfl) (rv_cell M F rfl (by repeat (first | exact List.mem_cons_self | apply List.mem_cons_of_mem)) agg_Res rfl) (by clear hI M F hK1 hK2 hK3 hK5 hK6 hK7 hK9 hK13 hK14 hK15; simp_all [pDo, pDone, -UInt8.not_le, -UInt8.not_lt, -UInt32.not_le, -UInt32.not_lt, -Int.not_lt, -Int.not_le, -Nat.not_lt, -Nat.not_le])
end Go.Proofs.YtfkmaepcjognkaaDoor.Pad
