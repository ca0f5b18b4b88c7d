/- The walk of MergeSteps: it answers true. The rows are slices of operations, whatever they are. -/
import Derived.Test.YtfkmaepcjognkaaT8
namespace Go.Proofs.Ytfkmaepcjognkaa.Pad
open Go Go.Proofs
set_option linter.unusedVariables false
set_option maxRecDepth 8000
set_option maxHeartbeats 4000000
set_option linter.unusedSimpArgs false
theorem c_paddocklaw8_MergeSteps {w : World} {G0 : Ghost} (hI : Imm G0 w) {la lb lc ld : Sl} {xa xb xc xd : List POp} {i j k : UInt32} (ha : Opl G0 la xa) (hb : Opl G0 lb xb) (hc : Opl G0 lc xc) (hd : Opl G0 ld xd) : Ret P 13 [la.v, lb.v, lc.v, ld.v, .int .u32 (i.toNat : Int), .int .u32 (j.toNat : Int), .int .u32 (k.toNat : Int)] [] w G0 (fun G W v => v = .bool true) := by
  refine enter Try.func13 rfl Try.ntmps13 rfl rfl hI (fun a F M => ?_)
  have hla := ha.len
  have hlb := hb.len
  have hlc := hc.len
  have hld := hd.len
  refine c_seq (fun K1 hK1 => ?_)
  refine wp_region_lit ?_
  refine l_step rfl (o_val F (r_assign F rfl) rfl ?_); clear F a; intro a F
  refine l_nil ?_
  refine hK1 _ _ ?_
  refine c_seq (fun K2 hK2 => ?_)
  refine c_seq (fun K3 hK3 => ?_)
  refine wp_region_lit ?_
  refine l_step rfl (o_call M F rfl (c_paddocklaw8_known M.imm) rfl ?_); clear F a; intro a W1 v1 G1 hp1 M E1 F
  subst hp1
  refine l_step rfl (o_val F (r_not F rfl) rfl ?_); clear F a; intro a F
  refine l_nil ?_
  refine hK3 _ _ ?_
  refine c_false F rfl rfl ?_
  refine wp_skip ?_
  refine hK2 _ _ ?_
  refine c_seq (fun K4 hK4 => ?_)
  refine c_seq (fun K5 hK5 => ?_)
  refine wp_region_lit ?_
  refine l_step rfl (o_val F (r_move F rfl) rfl ?_); clear F a; intro a F
  refine l_step rfl (o_val F (r_len_slice F slc_Ops.und rfl) rfl ?_); clear F a; intro a F
  refine l_step rfl (o_val F (r_gtr_i64 F rfl rfl) rfl ?_); clear F a; intro a F
  refine l_step rfl (o_val F (r_move F rfl) rfl ?_); clear F a; intro a F
  refine c_split F (i := 29) rfl (fun g29 => ?_) (fun g29 => ?_)
  · skip
    iterate 3 (refine l_skip F rfl rfl rfl g29 rfl rfl ?_; clear F a; intro a F)
    refine l_step rfl (o_val F (r_pick_t F rfl g29 rfl) rfl ?_); clear F a; intro a F
    refine l_step rfl (o_val F (r_move F rfl) rfl ?_); clear F a; intro a F
    iterate 3 (refine l_skip F rfl rfl rfl rfl rfl rfl ?_; clear F a; intro a F)
    refine l_step rfl (o_val F (r_pick_t F rfl rfl rfl) rfl ?_); clear F a; intro a F
    refine l_step rfl (o_val F (r_move F rfl) rfl ?_); clear F a; intro a F
    iterate 3 (refine l_skip F rfl rfl rfl rfl rfl rfl ?_; clear F a; intro a F)
    refine l_step rfl (o_val F (r_pick_t F rfl rfl rfl) rfl ?_); clear F a; intro a F
    refine l_nil ?_
    refine hK5 _ _ ?_
    refine c_true F rfl rfl ?_
    refine c_seq (fun K6 hK6 => ?_)
    refine wp_region_lit ?_
    refine l_step rfl (o_val F (r_assign F rfl) rfl ?_); clear F a; intro a F
    refine l_nil ?_
    refine hK6 _ _ ?_
    refine wp_ret ?_
    exact ret1 Try.results13 M F (rv_tmp F rfl) (rfl)
  · skip
    refine l_guard F rfl rfl rfl g29 (o_val F (r_move F rfl) rfl ?_); clear F a; intro a F
    refine l_guard F rfl rfl rfl g29 (o_val F (r_len_slice F slc_Ops.und rfl) rfl ?_); clear F a; intro a F
    refine l_guard F rfl rfl rfl g29 (o_val F (r_gtr_i64 F rfl rfl) rfl ?_); clear F a; intro a F
    refine l_step rfl (o_val F (r_pick_f F rfl g29 rfl) rfl ?_); clear F a; intro a F
    refine l_step rfl (o_val F (r_move F rfl) rfl ?_); clear F a; intro a F
    refine c_split F (i := 34) rfl (fun g34 => ?_) (fun g34 => ?_)
    · skip
      iterate 3 (refine l_skip F rfl rfl rfl g34 rfl rfl ?_; clear F a; intro a F)
      refine l_step rfl (o_val F (r_pick_t F rfl g34 rfl) rfl ?_); clear F a; intro a F
      refine l_step rfl (o_val F (r_move F rfl) rfl ?_); clear F a; intro a F
      iterate 3 (refine l_skip F rfl rfl rfl rfl rfl rfl ?_; clear F a; intro a F)
      refine l_step rfl (o_val F (r_pick_t F rfl rfl rfl) rfl ?_); clear F a; intro a F
      refine l_nil ?_
      refine hK5 _ _ ?_
      refine c_true F rfl rfl ?_
      refine c_seq (fun K7 hK7 => ?_)
      refine wp_region_lit ?_
      refine l_step rfl (o_val F (r_assign F rfl) rfl ?_); clear F a; intro a F
      refine l_nil ?_
      refine hK7 _ _ ?_
      refine wp_ret ?_
      exact ret1 Try.results13 M F (rv_tmp F rfl) (rfl)
    · skip
      refine l_guard F rfl rfl rfl g34 (o_val F (r_move F rfl) rfl ?_); clear F a; intro a F
      refine l_guard F rfl rfl rfl g34 (o_val F (r_len_slice F slc_Ops.und rfl) rfl ?_); clear F a; intro a F
      refine l_guard F rfl rfl rfl g34 (o_val F (r_gtr_i64 F rfl rfl) rfl ?_); clear F a; intro a F
      refine l_step rfl (o_val F (r_pick_f F rfl g34 rfl) rfl ?_); clear F a; intro a F
      refine l_step rfl (o_val F (r_move F rfl) rfl ?_); clear F a; intro a F
      refine c_split F (i := 39) rfl (fun g39 => ?_) (fun g39 => ?_)
      · skip
        iterate 3 (refine l_skip F rfl rfl rfl g39 rfl rfl ?_; clear F a; intro a F)
        refine l_step rfl (o_val F (r_pick_t F rfl g39 rfl) rfl ?_); clear F a; intro a F
        refine l_nil ?_
        refine hK5 _ _ ?_
        refine c_true F rfl rfl ?_
        refine c_seq (fun K8 hK8 => ?_)
        refine wp_region_lit ?_
        refine l_step rfl (o_val F (r_assign F rfl) rfl ?_); clear F a; intro a F
        refine l_nil ?_
        refine hK8 _ _ ?_
        refine wp_ret ?_
        exact ret1 Try.results13 M F (rv_tmp F rfl) (rfl)
      · skip
        refine l_guard F rfl rfl rfl g39 (o_val F (r_move F rfl) rfl ?_); clear F a; intro a F
        refine l_guard F rfl rfl rfl g39 (o_val F (r_len_slice F slc_Ops.und rfl) rfl ?_); clear F a; intro a F
        refine l_guard F rfl rfl rfl g39 (o_val F (r_gtr_i64 F rfl rfl) rfl ?_); clear F a; intro a F
        refine l_step rfl (o_val F (r_pick_f F rfl g39 rfl) rfl ?_); clear F a; intro a F
        refine l_nil ?_
        refine hK5 _ _ ?_
        refine c_cond F rfl (fun g43 => ?_) (fun g43 => ?_)
        · skip
          refine c_seq (fun K9 hK9 => ?_)
          refine wp_region_lit ?_
          refine l_step rfl (o_val F (r_assign F rfl) rfl ?_); clear F a; intro a F
          refine l_nil ?_
          refine hK9 _ _ ?_
          refine wp_ret ?_
          exact ret1 Try.results13 M F (rv_tmp F rfl) (rfl)
        · skip
          refine wp_skip ?_
          refine hK4 _ _ ?_
          refine c_seq (fun K10 hK10 => ?_)
          refine wp_region_lit ?_
          refine l_step rfl (o_val F (r_move F rfl) rfl ?_); clear F a; intro a F
          refine l_step rfl (o_val F (r_move F rfl) rfl ?_); clear F a; intro a F
          refine l_step rfl (o_val F (r_move F rfl) rfl ?_); clear F a; intro a F
          refine l_step rfl (o_val F (r_move F rfl) rfl ?_); clear F a; intro a F
          refine l_step rfl (o_call M F rfl (c_paddocklaw8_state (since := i) (f := 1) (started := i) M.imm (ha.mono M.gl) (hb.mono M.gl) (by have h := of_decide_eq_false g29; omega) (by have h := of_decide_eq_false g34; omega)) rfl ?_); clear F a; intro a W2 v2 G2 hp2 M E2 F
          obtain ⟨l1, rfl, hl1⟩ := hp2
          have hok1 := st_ok xa xb i 1 i
          generalize pSt xa xb i 1 i = s at F hl1 hok1
          refine l_step rfl (o_val F (r_move F rfl) rfl ?_); clear F a; intro a F
          refine l_step rfl (o_val F (r_move F rfl) rfl ?_); clear F a; intro a F
          refine l_step rfl (o_val F (r_move F rfl) rfl ?_); clear F a; intro a F
          refine l_step rfl (o_val F (r_move F rfl) rfl ?_); clear F a; intro a F
          refine l_step rfl (o_call M F rfl (c_paddocklaw8_state (since := j) (f := 2) (started := j) M.imm (ha.mono M.gl) (hc.mono M.gl) (by have h := of_decide_eq_false g29; omega) (by have h := of_decide_eq_false g39; omega)) rfl ?_); clear F a; intro a W3 v3 G3 hp3 M E3 F
          have hl1 := hl1.mono E3.gl
          obtain ⟨l2, rfl, hl2⟩ := hp3
          have hok2 := st_ok xa xc j 2 j
          generalize pSt xa xc j 2 j = t at F hl2 hok2
          refine l_step rfl (o_val F (r_move F rfl) rfl ?_); clear F a; intro a F
          refine l_step rfl (o_val F (r_move F rfl) rfl ?_); clear F a; intro a F
          refine l_step rfl (o_val F (r_move F rfl) rfl ?_); clear F a; intro a F
          refine l_step rfl (o_val F (r_move F rfl) rfl ?_); clear F a; intro a F
          refine l_step rfl (o_call M F rfl (c_paddocklaw8_state (since := k) (f := 3) (started := k) M.imm (ha.mono M.gl) (hd.mono M.gl) (by have h := of_decide_eq_false g29; omega) (by have h := of_decide_eq_false g43; omega)) rfl ?_); clear F a; intro a W4 v4 G4 hp4 M E4 F
          have hl1 := hl1.mono E4.gl
          have hl2 := hl2.mono E4.gl
          obtain ⟨l3, rfl, hl3⟩ := hp4
          have hok3 := st_ok xa xd k 3 k
          generalize pSt xa xd k 3 k = u at F hl3 hok3
          have a1 := apply_make hok1 hok2
          have a2 := apply_make hok2 hok3
          have a3 := apply_make hok1 hok3
          refine l_step rfl (o_alloc M F zer_State rfl ?_); clear F a; intro a W5 b1 M F
          refine l_step rfl (o_alloc M F zer_State rfl ?_); clear F a; intro a W6 b2 M F
          refine l_step rfl (o_alloc M F zer_State rfl ?_); clear F a; intro a W7 b3 M F
          refine l_step rfl (o_storeA M F rfl rfl agg_State.size (by repeat (first | exact Upd.here _ _ _ _ _ | apply Upd.there)) (by rfl) (by rfl) (by rfl) ?_); clear F a; intro a W8 M F
          refine l_step rfl (o_storeA M F rfl rfl agg_State.size (by repeat (first | exact Upd.here _ _ _ _ _ | apply Upd.there)) (by rfl) (by rfl) (by rfl) ?_); clear F a; intro a W9 M F
          refine l_step rfl (o_storeA M F rfl rfl agg_State.size (by repeat (first | exact Upd.here _ _ _ _ _ | apply Upd.there)) (by rfl) (by rfl) (by rfl) ?_); clear F a; intro a W10 M F
          refine l_nil ?_
          refine hK10 _ _ ?_
          refine c_cut (fun a W => ∃ (G : Ghost) (c18 : Nat) (l6 : Sl), Frm 101 [(19, .int .i64 0), (18, .pointer (some ⟨c18, 0, none⟩)), (17, .pointer (some ⟨b3, 0, none⟩)), (16, .pointer (some ⟨b2, 0, none⟩)), (15, .pointer (some ⟨b1, 0, none⟩))] a ∧ St [] w G0 W [⟨c18, 42, (t.at l6).enc⟩, ⟨b3, 42, (u.at l3).enc⟩, ⟨b2, 42, (t.at l2).enc⟩, ⟨b1, 42, (s.at l1).enc⟩] G ∧ (Ens G l1 s.log ∧ Ens G l3 u.log ∧ Ens G l6 t.log)) ?_ ?_
          · skip
            refine c_drawM M [] mixed (fun M => ?_)
            have Ms := M
            have hq1 := Keeps.here M
            have hle1 := M.gle
            refine t_take (i := 0) F rfl rfl hq1 (fun _ ⟨_, _, M'⟩ => r_load M' F rfl (by repeat (first | exact List.mem_cons_self | apply List.mem_cons_of_mem)) agg_State (seg_all rfl)) (fun _ _ _ h => h) (by kernel_rfl) (by kernel_rfl) (by kernel_rfl) (by kernel_rfl) ?_; clear F a; intro a F
            refine t_take (i := 1) F rfl rfl hq1 (fun _ ⟨_, _, M'⟩ => r_load M' F rfl (by repeat (first | exact List.mem_cons_self | apply List.mem_cons_of_mem)) agg_State (seg_all rfl)) (fun _ _ _ h => h) (by kernel_rfl) (by kernel_rfl) (by kernel_rfl) (by kernel_rfl) ?_; clear F a; intro a F
            refine t_take (i := 2) F rfl rfl hq1 (fun _ ⟨_, _, M'⟩ => r_load M' F rfl (by repeat (first | exact List.mem_cons_self | apply List.mem_cons_of_mem)) agg_State (seg_all rfl)) (fun _ _ _ h => h) (by kernel_rfl) (by kernel_rfl) (by kernel_rfl) (by kernel_rfl) ?_; clear F a; intro a F
            refine t_rdy2 (i := 3) (j := 8) (by kernel_rfl) (w_plain rfl rfl ?_) (w_plain rfl rfl ?_)
            · skip
              refine id (o_call M F rfl (c_merge_Make M.imm hl1 hl2) rfl ?_); clear F a; intro a W11 v11 G11 hp11 M E11 F
              have hl1 := hl1.mono E11.gl
              have hl2 := hl2.mono E11.gl
              have hl3 := hl3.mono E11.gl
              obtain ⟨l4, l5, rfl, hl4, hl5⟩ := hp11
              have hle1 := hle1.trans E11.gl
              refine keepAnd (Keeps.mk hle1 M (by repeat (first | exact List.Sublist.refl _ | apply List.Sublist.cons_cons | apply List.Sublist.cons))) (fun hq1 => ?_)
              refine t_rdy2 (i := 4) (j := 8) (by kernel_rfl) (w_plain rfl rfl ?_) (w_plain rfl rfl ?_)
              · skip
                refine id (o_call M F rfl (c_merge_Apply M.imm hl1 hl4 hl5) rfl ?_); clear F a; intro a W12 v12 G12 hp12 M E12 F
                have hl1 := hl1.mono E12.gl
                have hl2 := hl2.mono E12.gl
                have hl3 := hl3.mono E12.gl
                have hl4 := hl4.mono E12.gl
                have hl5 := hl5.mono E12.gl
                obtain ⟨l6, rfl, hl6⟩ := hp12
                simp only [a1] at F hl6
                have hle1 := hle1.trans E12.gl
                refine keepAnd (Keeps.mk hle1 M (by repeat (first | exact List.Sublist.refl _ | apply List.Sublist.cons_cons | apply List.Sublist.cons))) (fun hq1 => ?_)
                refine t_take (i := 5) F rfl rfl hq1 (fun _ _ => r_move F rfl) (fun _ _ _ h => h) (by kernel_rfl) (by kernel_rfl) (by kernel_rfl) (by kernel_rfl) ?_; clear F a; intro a F
                refine t_take (i := 6) F rfl rfl hq1 (fun _ _ => r_extract F rfl rfl) (fun _ _ _ h => h) (by kernel_rfl) (by kernel_rfl) (by kernel_rfl) (by kernel_rfl) ?_; clear F a; intro a F
                refine t_take (i := 7) F rfl rfl hq1 (fun _ _ => r_extract F rfl rfl) (fun _ _ _ h => h) (by kernel_rfl) (by kernel_rfl) (by kernel_rfl) (by kernel_rfl) ?_; clear F a; intro a F
                refine t_one (i := 8) (by kernel_rfl) rfl rfl (o_alloc M F zer_State rfl ?_); clear F a; intro a W13 b4 M F
                refine keepAnd (Keeps.mk hle1 M (by repeat (first | exact List.Sublist.refl _ | apply List.Sublist.cons_cons | apply List.Sublist.cons))) (fun hq1 => ?_)
                refine t_one (i := 9) (by kernel_rfl) rfl rfl (o_storeA M F rfl rfl agg_State.size (by repeat (first | exact Upd.here _ _ _ _ _ | apply Upd.there)) (by rfl) (by rfl) (by rfl) ?_); clear F a; intro a W14 M F
                refine keepAnd (Keeps.mk hle1 M (by repeat (first | exact List.Sublist.refl _ | apply List.Sublist.cons_cons | apply List.Sublist.cons))) (fun hq1 => ?_)
                refine t_take (i := 10) F rfl rfl hq1 (fun _ _ => r_assign F rfl) (fun _ _ _ h => h) (by kernel_rfl) (by kernel_rfl) (by kernel_rfl) (by kernel_rfl) ?_; clear F a; intro a F
                refine t_done (by kernel_rfl) ?_ _
                exact ⟨_, _, l6, (F.cons (F.cons (F.cons (F.cons (F.cons F.nil 15 rfl) 16 rfl) 17 rfl) 18 rfl) 19 rfl), M, ⟨hl1, hl3, hl6⟩⟩
              · skip
                refine id (o_alloc M F zer_State rfl ?_); clear F a; intro a W15 b5 M F
                refine keepAnd (Keeps.mk hle1 M (by repeat (first | exact List.Sublist.refl _ | apply List.Sublist.cons_cons | apply List.Sublist.cons))) (fun hq1 => ?_)
                refine t_one (i := 4) (by kernel_rfl) rfl rfl (o_call M F rfl (c_merge_Apply M.imm hl1 hl4 hl5) rfl ?_); clear F a; intro a W16 v16 G16 hp16 M E16 F
                have hl1 := hl1.mono E16.gl
                have hl2 := hl2.mono E16.gl
                have hl3 := hl3.mono E16.gl
                have hl4 := hl4.mono E16.gl
                have hl5 := hl5.mono E16.gl
                obtain ⟨l6, rfl, hl6⟩ := hp16
                simp only [a1] at F hl6
                have hle1 := hle1.trans E16.gl
                refine keepAnd (Keeps.mk hle1 M (by repeat (first | exact List.Sublist.refl _ | apply List.Sublist.cons_cons | apply List.Sublist.cons))) (fun hq1 => ?_)
                refine t_take (i := 5) F rfl rfl hq1 (fun _ _ => r_move F rfl) (fun _ _ _ h => h) (by kernel_rfl) (by kernel_rfl) (by kernel_rfl) (by kernel_rfl) ?_; clear F a; intro a F
                refine t_take (i := 6) F rfl rfl hq1 (fun _ _ => r_extract F rfl rfl) (fun _ _ _ h => h) (by kernel_rfl) (by kernel_rfl) (by kernel_rfl) (by kernel_rfl) ?_; clear F a; intro a F
                refine t_take (i := 7) F rfl rfl hq1 (fun _ _ => r_extract F rfl rfl) (fun _ _ _ h => h) (by kernel_rfl) (by kernel_rfl) (by kernel_rfl) (by kernel_rfl) ?_; clear F a; intro a F
                refine t_one (i := 9) (by kernel_rfl) rfl rfl (o_storeA M F rfl rfl agg_State.size (by repeat (first | exact Upd.here _ _ _ _ _ | apply Upd.there)) (by rfl) (by rfl) (by rfl) ?_); clear F a; intro a W17 M F
                refine keepAnd (Keeps.mk hle1 M (by repeat (first | exact List.Sublist.refl _ | apply List.Sublist.cons_cons | apply List.Sublist.cons))) (fun hq1 => ?_)
                refine t_take (i := 10) F rfl rfl hq1 (fun _ _ => r_assign F rfl) (fun _ _ _ h => h) (by kernel_rfl) (by kernel_rfl) (by kernel_rfl) (by kernel_rfl) ?_; clear F a; intro a F
                refine t_done (by kernel_rfl) ?_ _
                exact ⟨_, _, l6, (F.cons (F.cons (F.cons (F.cons (F.cons F.nil 15 rfl) 16 rfl) 17 rfl) 18 rfl) 19 rfl), M, ⟨hl1, hl3, hl6⟩⟩
            · skip
              refine id (o_alloc M F zer_State rfl ?_); clear F a; intro a W18 b6 M F
              refine keepAnd (Keeps.mk hle1 M (by repeat (first | exact List.Sublist.refl _ | apply List.Sublist.cons_cons | apply List.Sublist.cons))) (fun hq1 => ?_)
              refine t_one (i := 3) (by kernel_rfl) rfl rfl (o_call M F rfl (c_merge_Make M.imm hl1 hl2) rfl ?_); clear F a; intro a W19 v19 G19 hp19 M E19 F
              have hl1 := hl1.mono E19.gl
              have hl2 := hl2.mono E19.gl
              have hl3 := hl3.mono E19.gl
              obtain ⟨l4, l5, rfl, hl4, hl5⟩ := hp19
              have hle1 := hle1.trans E19.gl
              refine keepAnd (Keeps.mk hle1 M (by repeat (first | exact List.Sublist.refl _ | apply List.Sublist.cons_cons | apply List.Sublist.cons))) (fun hq1 => ?_)
              refine t_one (i := 4) (by kernel_rfl) rfl rfl (o_call M F rfl (c_merge_Apply M.imm hl1 hl4 hl5) rfl ?_); clear F a; intro a W20 v20 G20 hp20 M E20 F
              have hl1 := hl1.mono E20.gl
              have hl2 := hl2.mono E20.gl
              have hl3 := hl3.mono E20.gl
              have hl4 := hl4.mono E20.gl
              have hl5 := hl5.mono E20.gl
              obtain ⟨l6, rfl, hl6⟩ := hp20
              simp only [a1] at F hl6
              have hle1 := hle1.trans E20.gl
              refine keepAnd (Keeps.mk hle1 M (by repeat (first | exact List.Sublist.refl _ | apply List.Sublist.cons_cons | apply List.Sublist.cons))) (fun hq1 => ?_)
              refine t_take (i := 5) F rfl rfl hq1 (fun _ _ => r_move F rfl) (fun _ _ _ h => h) (by kernel_rfl) (by kernel_rfl) (by kernel_rfl) (by kernel_rfl) ?_; clear F a; intro a F
              refine t_take (i := 6) F rfl rfl hq1 (fun _ _ => r_extract F rfl rfl) (fun _ _ _ h => h) (by kernel_rfl) (by kernel_rfl) (by kernel_rfl) (by kernel_rfl) ?_; clear F a; intro a F
              refine t_take (i := 7) F rfl rfl hq1 (fun _ _ => r_extract F rfl rfl) (fun _ _ _ h => h) (by kernel_rfl) (by kernel_rfl) (by kernel_rfl) (by kernel_rfl) ?_; clear F a; intro a F
              refine t_one (i := 9) (by kernel_rfl) rfl rfl (o_storeA M F rfl rfl agg_State.size (by repeat (first | exact Upd.here _ _ _ _ _ | apply Upd.there)) (by rfl) (by rfl) (by rfl) ?_); clear F a; intro a W21 M F
              refine keepAnd (Keeps.mk hle1 M (by repeat (first | exact List.Sublist.refl _ | apply List.Sublist.cons_cons | apply List.Sublist.cons))) (fun hq1 => ?_)
              refine t_take (i := 10) F rfl rfl hq1 (fun _ _ => r_assign F rfl) (fun _ _ _ h => h) (by kernel_rfl) (by kernel_rfl) (by kernel_rfl) (by kernel_rfl) ?_; clear F a; intro a F
              refine t_done (by kernel_rfl) ?_ _
              exact ⟨_, _, l6, (F.cons (F.cons (F.cons (F.cons (F.cons F.nil 15 rfl) 16 rfl) 17 rfl) 18 rfl) 19 rfl), M, ⟨hl1, hl3, hl6⟩⟩
          · clear F M a; intro a W hI; obtain ⟨G, c18, l6, F, M, hf⟩ := hI
            obtain ⟨hl1, hl3, hl6⟩ := hf
            refine c_seq (fun K11 hK11 => ?_)
            refine c_seq (fun K12 hK12 => ?_)
            refine wp_region_lit ?_
            refine l_step rfl (o_val F (r_move F rfl) rfl ?_); clear F a; intro a F
            refine l_step rfl (o_val F (r_neq_i64 F rfl rfl) rfl ?_); clear F a; intro a F
            refine l_nil ?_
            refine hK12 _ _ ?_
            refine c_false F rfl rfl ?_
            refine wp_skip ?_
            refine hK11 _ _ ?_
            refine c_cut (fun a W => ∃ (G : Ghost) (c20 : Nat) (l7 : Sl), Frm 101 [(19, .int .i64 0), (21, .int .i64 0), (20, .pointer (some ⟨c20, 0, none⟩)), (17, .pointer (some ⟨b3, 0, none⟩)), (15, .pointer (some ⟨b1, 0, none⟩))] a ∧ St [] w G0 W [⟨c20, 42, (u.at l7).enc⟩, ⟨b3, 42, (u.at l3).enc⟩, ⟨b1, 42, (s.at l1).enc⟩] G ∧ (Ens G l1 s.log ∧ Ens G l3 u.log ∧ Ens G l7 u.log)) ?_ ?_
            · skip
              refine c_drawM M [] mixed (fun M => ?_)
              have Ms := M
              have hq2 := Keeps.here M
              have hle2 := M.gle
              refine t_take (i := 0) F rfl rfl hq2 (fun _ ⟨_, _, M'⟩ => r_load M' F rfl (by repeat (first | exact List.mem_cons_self | apply List.mem_cons_of_mem)) agg_State (seg_all rfl)) (fun _ _ _ h => h) (by kernel_rfl) (by kernel_rfl) (by kernel_rfl) (by kernel_rfl) ?_; clear F a; intro a F
              refine t_take (i := 1) F rfl rfl hq2 (fun _ ⟨_, _, M'⟩ => r_load M' F rfl (by repeat (first | exact List.mem_cons_self | apply List.mem_cons_of_mem)) agg_State (seg_all rfl)) (fun _ _ _ h => h) (by kernel_rfl) (by kernel_rfl) (by kernel_rfl) (by kernel_rfl) ?_; clear F a; intro a F
              refine t_take (i := 2) F rfl rfl hq2 (fun _ ⟨_, _, M'⟩ => r_load M' F rfl (by repeat (first | exact List.mem_cons_self | apply List.mem_cons_of_mem)) agg_State (seg_all rfl)) (fun _ _ _ h => h) (by kernel_rfl) (by kernel_rfl) (by kernel_rfl) (by kernel_rfl) ?_; clear F a; intro a F
              refine t_rdy2 (i := 3) (j := 8) (by kernel_rfl) (w_plain rfl rfl ?_) (w_plain rfl rfl ?_)
              · skip
                refine id (o_call M F rfl (c_merge_Make M.imm hl6 hl3) rfl ?_); clear F a; intro a W22 v22 G22 hp22 M E22 F
                have hl1 := hl1.mono E22.gl
                have hl3 := hl3.mono E22.gl
                have hl6 := hl6.mono E22.gl
                obtain ⟨l4, l5, rfl, hl4, hl5⟩ := hp22
                have hle2 := hle2.trans E22.gl
                refine keepAnd (Keeps.mk hle2 M (by repeat (first | exact List.Sublist.refl _ | apply List.Sublist.cons_cons | apply List.Sublist.cons))) (fun hq2 => ?_)
                refine t_rdy2 (i := 4) (j := 8) (by kernel_rfl) (w_plain rfl rfl ?_) (w_plain rfl rfl ?_)
                · skip
                  refine id (o_call M F rfl (c_merge_Apply M.imm hl6 hl4 hl5) rfl ?_); clear F a; intro a W23 v23 G23 hp23 M E23 F
                  have hl1 := hl1.mono E23.gl
                  have hl3 := hl3.mono E23.gl
                  have hl6 := hl6.mono E23.gl
                  have hl4 := hl4.mono E23.gl
                  have hl5 := hl5.mono E23.gl
                  obtain ⟨l7, rfl, hl7⟩ := hp23
                  simp only [a2] at F hl7
                  have hle2 := hle2.trans E23.gl
                  refine keepAnd (Keeps.mk hle2 M (by repeat (first | exact List.Sublist.refl _ | apply List.Sublist.cons_cons | apply List.Sublist.cons))) (fun hq2 => ?_)
                  refine t_take (i := 5) F rfl rfl hq2 (fun _ _ => r_move F rfl) (fun _ _ _ h => h) (by kernel_rfl) (by kernel_rfl) (by kernel_rfl) (by kernel_rfl) ?_; clear F a; intro a F
                  refine t_take (i := 6) F rfl rfl hq2 (fun _ _ => r_extract F rfl rfl) (fun _ _ _ h => h) (by kernel_rfl) (by kernel_rfl) (by kernel_rfl) (by kernel_rfl) ?_; clear F a; intro a F
                  refine t_take (i := 7) F rfl rfl hq2 (fun _ _ => r_extract F rfl rfl) (fun _ _ _ h => h) (by kernel_rfl) (by kernel_rfl) (by kernel_rfl) (by kernel_rfl) ?_; clear F a; intro a F
                  refine t_one (i := 8) (by kernel_rfl) rfl rfl (o_alloc M F zer_State rfl ?_); clear F a; intro a W24 b7 M F
                  refine keepAnd (Keeps.mk hle2 M (by repeat (first | exact List.Sublist.refl _ | apply List.Sublist.cons_cons | apply List.Sublist.cons))) (fun hq2 => ?_)
                  refine t_one (i := 9) (by kernel_rfl) rfl rfl (o_storeA M F rfl rfl agg_State.size (by repeat (first | exact Upd.here _ _ _ _ _ | apply Upd.there)) (by rfl) (by rfl) (by rfl) ?_); clear F a; intro a W25 M F
                  refine keepAnd (Keeps.mk hle2 M (by repeat (first | exact List.Sublist.refl _ | apply List.Sublist.cons_cons | apply List.Sublist.cons))) (fun hq2 => ?_)
                  refine t_take (i := 10) F rfl rfl hq2 (fun _ _ => r_assign F rfl) (fun _ _ _ h => h) (by kernel_rfl) (by kernel_rfl) (by kernel_rfl) (by kernel_rfl) ?_; clear F a; intro a F
                  refine t_done (by kernel_rfl) ?_ _
                  have M := M.drop (List.Sublist.cons_cons _ (List.Sublist.cons _ (List.Sublist.cons_cons _ (List.Sublist.cons _ (List.Sublist.cons_cons _ (List.Sublist.refl _))))))
                  exact ⟨_, _, l7, (F.cons (F.cons (F.cons (F.cons (F.cons F.nil 15 rfl) 17 rfl) 20 rfl) 21 rfl) 19 rfl), M, ⟨hl1, hl3, hl7⟩⟩
                · skip
                  refine id (o_alloc M F zer_State rfl ?_); clear F a; intro a W26 b8 M F
                  refine keepAnd (Keeps.mk hle2 M (by repeat (first | exact List.Sublist.refl _ | apply List.Sublist.cons_cons | apply List.Sublist.cons))) (fun hq2 => ?_)
                  refine t_one (i := 4) (by kernel_rfl) rfl rfl (o_call M F rfl (c_merge_Apply M.imm hl6 hl4 hl5) rfl ?_); clear F a; intro a W27 v27 G27 hp27 M E27 F
                  have hl1 := hl1.mono E27.gl
                  have hl3 := hl3.mono E27.gl
                  have hl6 := hl6.mono E27.gl
                  have hl4 := hl4.mono E27.gl
                  have hl5 := hl5.mono E27.gl
                  obtain ⟨l7, rfl, hl7⟩ := hp27
                  simp only [a2] at F hl7
                  have hle2 := hle2.trans E27.gl
                  refine keepAnd (Keeps.mk hle2 M (by repeat (first | exact List.Sublist.refl _ | apply List.Sublist.cons_cons | apply List.Sublist.cons))) (fun hq2 => ?_)
                  refine t_take (i := 5) F rfl rfl hq2 (fun _ _ => r_move F rfl) (fun _ _ _ h => h) (by kernel_rfl) (by kernel_rfl) (by kernel_rfl) (by kernel_rfl) ?_; clear F a; intro a F
                  refine t_take (i := 6) F rfl rfl hq2 (fun _ _ => r_extract F rfl rfl) (fun _ _ _ h => h) (by kernel_rfl) (by kernel_rfl) (by kernel_rfl) (by kernel_rfl) ?_; clear F a; intro a F
                  refine t_take (i := 7) F rfl rfl hq2 (fun _ _ => r_extract F rfl rfl) (fun _ _ _ h => h) (by kernel_rfl) (by kernel_rfl) (by kernel_rfl) (by kernel_rfl) ?_; clear F a; intro a F
                  refine t_one (i := 9) (by kernel_rfl) rfl rfl (o_storeA M F rfl rfl agg_State.size (by repeat (first | exact Upd.here _ _ _ _ _ | apply Upd.there)) (by rfl) (by rfl) (by rfl) ?_); clear F a; intro a W28 M F
                  refine keepAnd (Keeps.mk hle2 M (by repeat (first | exact List.Sublist.refl _ | apply List.Sublist.cons_cons | apply List.Sublist.cons))) (fun hq2 => ?_)
                  refine t_take (i := 10) F rfl rfl hq2 (fun _ _ => r_assign F rfl) (fun _ _ _ h => h) (by kernel_rfl) (by kernel_rfl) (by kernel_rfl) (by kernel_rfl) ?_; clear F a; intro a F
                  refine t_done (by kernel_rfl) ?_ _
                  have M := M.drop (List.Sublist.cons_cons _ (List.Sublist.cons _ (List.Sublist.cons_cons _ (List.Sublist.cons _ (List.Sublist.cons_cons _ (List.Sublist.refl _))))))
                  exact ⟨_, _, l7, (F.cons (F.cons (F.cons (F.cons (F.cons F.nil 15 rfl) 17 rfl) 20 rfl) 21 rfl) 19 rfl), M, ⟨hl1, hl3, hl7⟩⟩
              · skip
                refine id (o_alloc M F zer_State rfl ?_); clear F a; intro a W29 b9 M F
                refine keepAnd (Keeps.mk hle2 M (by repeat (first | exact List.Sublist.refl _ | apply List.Sublist.cons_cons | apply List.Sublist.cons))) (fun hq2 => ?_)
                refine t_one (i := 3) (by kernel_rfl) rfl rfl (o_call M F rfl (c_merge_Make M.imm hl6 hl3) rfl ?_); clear F a; intro a W30 v30 G30 hp30 M E30 F
                have hl1 := hl1.mono E30.gl
                have hl3 := hl3.mono E30.gl
                have hl6 := hl6.mono E30.gl
                obtain ⟨l4, l5, rfl, hl4, hl5⟩ := hp30
                have hle2 := hle2.trans E30.gl
                refine keepAnd (Keeps.mk hle2 M (by repeat (first | exact List.Sublist.refl _ | apply List.Sublist.cons_cons | apply List.Sublist.cons))) (fun hq2 => ?_)
                refine t_one (i := 4) (by kernel_rfl) rfl rfl (o_call M F rfl (c_merge_Apply M.imm hl6 hl4 hl5) rfl ?_); clear F a; intro a W31 v31 G31 hp31 M E31 F
                have hl1 := hl1.mono E31.gl
                have hl3 := hl3.mono E31.gl
                have hl6 := hl6.mono E31.gl
                have hl4 := hl4.mono E31.gl
                have hl5 := hl5.mono E31.gl
                obtain ⟨l7, rfl, hl7⟩ := hp31
                simp only [a2] at F hl7
                have hle2 := hle2.trans E31.gl
                refine keepAnd (Keeps.mk hle2 M (by repeat (first | exact List.Sublist.refl _ | apply List.Sublist.cons_cons | apply List.Sublist.cons))) (fun hq2 => ?_)
                refine t_take (i := 5) F rfl rfl hq2 (fun _ _ => r_move F rfl) (fun _ _ _ h => h) (by kernel_rfl) (by kernel_rfl) (by kernel_rfl) (by kernel_rfl) ?_; clear F a; intro a F
                refine t_take (i := 6) F rfl rfl hq2 (fun _ _ => r_extract F rfl rfl) (fun _ _ _ h => h) (by kernel_rfl) (by kernel_rfl) (by kernel_rfl) (by kernel_rfl) ?_; clear F a; intro a F
                refine t_take (i := 7) F rfl rfl hq2 (fun _ _ => r_extract F rfl rfl) (fun _ _ _ h => h) (by kernel_rfl) (by kernel_rfl) (by kernel_rfl) (by kernel_rfl) ?_; clear F a; intro a F
                refine t_one (i := 9) (by kernel_rfl) rfl rfl (o_storeA M F rfl rfl agg_State.size (by repeat (first | exact Upd.here _ _ _ _ _ | apply Upd.there)) (by rfl) (by rfl) (by rfl) ?_); clear F a; intro a W32 M F
                refine keepAnd (Keeps.mk hle2 M (by repeat (first | exact List.Sublist.refl _ | apply List.Sublist.cons_cons | apply List.Sublist.cons))) (fun hq2 => ?_)
                refine t_take (i := 10) F rfl rfl hq2 (fun _ _ => r_assign F rfl) (fun _ _ _ h => h) (by kernel_rfl) (by kernel_rfl) (by kernel_rfl) (by kernel_rfl) ?_; clear F a; intro a F
                refine t_done (by kernel_rfl) ?_ _
                have M := M.drop (List.Sublist.cons_cons _ (List.Sublist.cons _ (List.Sublist.cons_cons _ (List.Sublist.cons _ (List.Sublist.cons_cons _ (List.Sublist.refl _))))))
                exact ⟨_, _, l7, (F.cons (F.cons (F.cons (F.cons (F.cons F.nil 15 rfl) 17 rfl) 20 rfl) 21 rfl) 19 rfl), M, ⟨hl1, hl3, hl7⟩⟩
            · clear F M a; intro a W hI; obtain ⟨G, c20, l7, F, M, hf⟩ := hI
              obtain ⟨hl1, hl3, hl7⟩ := hf
              refine c_cut (fun a W => ∃ (G : Ghost) (c22 : Nat) (l8 : Sl), Frm 101 [(21, .int .i64 0), (23, .int .i64 0), (22, .pointer (some ⟨c22, 0, none⟩)), (20, .pointer (some ⟨c20, 0, none⟩)), (17, .pointer (some ⟨b3, 0, none⟩))] a ∧ St [] w G0 W [⟨c22, 42, (u.at l8).enc⟩, ⟨c20, 42, (u.at l7).enc⟩, ⟨b3, 42, (u.at l3).enc⟩] G ∧ (Ens G l3 u.log ∧ Ens G l7 u.log ∧ Ens G l8 u.log)) ?_ ?_
              · skip
                refine c_drawM M [] mixed (fun M => ?_)
                have Ms := M
                have hq3 := Keeps.here M
                have hle3 := M.gle
                refine t_take (i := 0) F rfl rfl hq3 (fun _ ⟨_, _, M'⟩ => r_load M' F rfl (by repeat (first | exact List.mem_cons_self | apply List.mem_cons_of_mem)) agg_State (seg_all rfl)) (fun _ _ _ h => h) (by kernel_rfl) (by kernel_rfl) (by kernel_rfl) (by kernel_rfl) ?_; clear F a; intro a F
                refine t_take (i := 1) F rfl rfl hq3 (fun _ ⟨_, _, M'⟩ => r_load M' F rfl (by repeat (first | exact List.mem_cons_self | apply List.mem_cons_of_mem)) agg_State (seg_all rfl)) (fun _ _ _ h => h) (by kernel_rfl) (by kernel_rfl) (by kernel_rfl) (by kernel_rfl) ?_; clear F a; intro a F
                refine t_take (i := 2) F rfl rfl hq3 (fun _ ⟨_, _, M'⟩ => r_load M' F rfl (by repeat (first | exact List.mem_cons_self | apply List.mem_cons_of_mem)) agg_State (seg_all rfl)) (fun _ _ _ h => h) (by kernel_rfl) (by kernel_rfl) (by kernel_rfl) (by kernel_rfl) ?_; clear F a; intro a F
                refine t_rdy2 (i := 3) (j := 8) (by kernel_rfl) (w_plain rfl rfl ?_) (w_plain rfl rfl ?_)
                · skip
                  refine id (o_call M F rfl (c_merge_Make M.imm hl1 hl3) rfl ?_); clear F a; intro a W33 v33 G33 hp33 M E33 F
                  have hl1 := hl1.mono E33.gl
                  have hl3 := hl3.mono E33.gl
                  have hl7 := hl7.mono E33.gl
                  obtain ⟨l4, l5, rfl, hl4, hl5⟩ := hp33
                  have hle3 := hle3.trans E33.gl
                  refine keepAnd (Keeps.mk hle3 M (by repeat (first | exact List.Sublist.refl _ | apply List.Sublist.cons_cons | apply List.Sublist.cons))) (fun hq3 => ?_)
                  refine t_rdy2 (i := 4) (j := 8) (by kernel_rfl) (w_plain rfl rfl ?_) (w_plain rfl rfl ?_)
                  · skip
                    refine id (o_call M F rfl (c_merge_Apply M.imm hl1 hl4 hl5) rfl ?_); clear F a; intro a W34 v34 G34 hp34 M E34 F
                    have hl1 := hl1.mono E34.gl
                    have hl3 := hl3.mono E34.gl
                    have hl7 := hl7.mono E34.gl
                    have hl4 := hl4.mono E34.gl
                    have hl5 := hl5.mono E34.gl
                    obtain ⟨l8, rfl, hl8⟩ := hp34
                    simp only [a3] at F hl8
                    have hle3 := hle3.trans E34.gl
                    refine keepAnd (Keeps.mk hle3 M (by repeat (first | exact List.Sublist.refl _ | apply List.Sublist.cons_cons | apply List.Sublist.cons))) (fun hq3 => ?_)
                    refine t_take (i := 5) F rfl rfl hq3 (fun _ _ => r_move F rfl) (fun _ _ _ h => h) (by kernel_rfl) (by kernel_rfl) (by kernel_rfl) (by kernel_rfl) ?_; clear F a; intro a F
                    refine t_take (i := 6) F rfl rfl hq3 (fun _ _ => r_extract F rfl rfl) (fun _ _ _ h => h) (by kernel_rfl) (by kernel_rfl) (by kernel_rfl) (by kernel_rfl) ?_; clear F a; intro a F
                    refine t_take (i := 7) F rfl rfl hq3 (fun _ _ => r_extract F rfl rfl) (fun _ _ _ h => h) (by kernel_rfl) (by kernel_rfl) (by kernel_rfl) (by kernel_rfl) ?_; clear F a; intro a F
                    refine t_one (i := 8) (by kernel_rfl) rfl rfl (o_alloc M F zer_State rfl ?_); clear F a; intro a W35 b10 M F
                    refine keepAnd (Keeps.mk hle3 M (by repeat (first | exact List.Sublist.refl _ | apply List.Sublist.cons_cons | apply List.Sublist.cons))) (fun hq3 => ?_)
                    refine t_one (i := 9) (by kernel_rfl) rfl rfl (o_storeA M F rfl rfl agg_State.size (by repeat (first | exact Upd.here _ _ _ _ _ | apply Upd.there)) (by rfl) (by rfl) (by rfl) ?_); clear F a; intro a W36 M F
                    refine keepAnd (Keeps.mk hle3 M (by repeat (first | exact List.Sublist.refl _ | apply List.Sublist.cons_cons | apply List.Sublist.cons))) (fun hq3 => ?_)
                    refine t_take (i := 10) F rfl rfl hq3 (fun _ _ => r_assign F rfl) (fun _ _ _ h => h) (by kernel_rfl) (by kernel_rfl) (by kernel_rfl) (by kernel_rfl) ?_; clear F a; intro a F
                    refine t_done (by kernel_rfl) ?_ _
                    have M := M.drop (List.Sublist.cons_cons _ (List.Sublist.cons_cons _ (List.Sublist.cons_cons _ (List.Sublist.cons _ (List.Sublist.refl _)))))
                    exact ⟨_, _, l8, (F.cons (F.cons (F.cons (F.cons (F.cons F.nil 17 rfl) 20 rfl) 22 rfl) 23 rfl) 21 rfl), M, ⟨hl3, hl7, hl8⟩⟩
                  · skip
                    refine id (o_alloc M F zer_State rfl ?_); clear F a; intro a W37 b11 M F
                    refine keepAnd (Keeps.mk hle3 M (by repeat (first | exact List.Sublist.refl _ | apply List.Sublist.cons_cons | apply List.Sublist.cons))) (fun hq3 => ?_)
                    refine t_one (i := 4) (by kernel_rfl) rfl rfl (o_call M F rfl (c_merge_Apply M.imm hl1 hl4 hl5) rfl ?_); clear F a; intro a W38 v38 G38 hp38 M E38 F
                    have hl1 := hl1.mono E38.gl
                    have hl3 := hl3.mono E38.gl
                    have hl7 := hl7.mono E38.gl
                    have hl4 := hl4.mono E38.gl
                    have hl5 := hl5.mono E38.gl
                    obtain ⟨l8, rfl, hl8⟩ := hp38
                    simp only [a3] at F hl8
                    have hle3 := hle3.trans E38.gl
                    refine keepAnd (Keeps.mk hle3 M (by repeat (first | exact List.Sublist.refl _ | apply List.Sublist.cons_cons | apply List.Sublist.cons))) (fun hq3 => ?_)
                    refine t_take (i := 5) F rfl rfl hq3 (fun _ _ => r_move F rfl) (fun _ _ _ h => h) (by kernel_rfl) (by kernel_rfl) (by kernel_rfl) (by kernel_rfl) ?_; clear F a; intro a F
                    refine t_take (i := 6) F rfl rfl hq3 (fun _ _ => r_extract F rfl rfl) (fun _ _ _ h => h) (by kernel_rfl) (by kernel_rfl) (by kernel_rfl) (by kernel_rfl) ?_; clear F a; intro a F
                    refine t_take (i := 7) F rfl rfl hq3 (fun _ _ => r_extract F rfl rfl) (fun _ _ _ h => h) (by kernel_rfl) (by kernel_rfl) (by kernel_rfl) (by kernel_rfl) ?_; clear F a; intro a F
                    refine t_one (i := 9) (by kernel_rfl) rfl rfl (o_storeA M F rfl rfl agg_State.size (by repeat (first | exact Upd.here _ _ _ _ _ | apply Upd.there)) (by rfl) (by rfl) (by rfl) ?_); clear F a; intro a W39 M F
                    refine keepAnd (Keeps.mk hle3 M (by repeat (first | exact List.Sublist.refl _ | apply List.Sublist.cons_cons | apply List.Sublist.cons))) (fun hq3 => ?_)
                    refine t_take (i := 10) F rfl rfl hq3 (fun _ _ => r_assign F rfl) (fun _ _ _ h => h) (by kernel_rfl) (by kernel_rfl) (by kernel_rfl) (by kernel_rfl) ?_; clear F a; intro a F
                    refine t_done (by kernel_rfl) ?_ _
                    have M := M.drop (List.Sublist.cons_cons _ (List.Sublist.cons_cons _ (List.Sublist.cons_cons _ (List.Sublist.cons _ (List.Sublist.refl _)))))
                    exact ⟨_, _, l8, (F.cons (F.cons (F.cons (F.cons (F.cons F.nil 17 rfl) 20 rfl) 22 rfl) 23 rfl) 21 rfl), M, ⟨hl3, hl7, hl8⟩⟩
                · skip
                  refine id (o_alloc M F zer_State rfl ?_); clear F a; intro a W40 b12 M F
                  refine keepAnd (Keeps.mk hle3 M (by repeat (first | exact List.Sublist.refl _ | apply List.Sublist.cons_cons | apply List.Sublist.cons))) (fun hq3 => ?_)
                  refine t_one (i := 3) (by kernel_rfl) rfl rfl (o_call M F rfl (c_merge_Make M.imm hl1 hl3) rfl ?_); clear F a; intro a W41 v41 G41 hp41 M E41 F
                  have hl1 := hl1.mono E41.gl
                  have hl3 := hl3.mono E41.gl
                  have hl7 := hl7.mono E41.gl
                  obtain ⟨l4, l5, rfl, hl4, hl5⟩ := hp41
                  have hle3 := hle3.trans E41.gl
                  refine keepAnd (Keeps.mk hle3 M (by repeat (first | exact List.Sublist.refl _ | apply List.Sublist.cons_cons | apply List.Sublist.cons))) (fun hq3 => ?_)
                  refine t_one (i := 4) (by kernel_rfl) rfl rfl (o_call M F rfl (c_merge_Apply M.imm hl1 hl4 hl5) rfl ?_); clear F a; intro a W42 v42 G42 hp42 M E42 F
                  have hl1 := hl1.mono E42.gl
                  have hl3 := hl3.mono E42.gl
                  have hl7 := hl7.mono E42.gl
                  have hl4 := hl4.mono E42.gl
                  have hl5 := hl5.mono E42.gl
                  obtain ⟨l8, rfl, hl8⟩ := hp42
                  simp only [a3] at F hl8
                  have hle3 := hle3.trans E42.gl
                  refine keepAnd (Keeps.mk hle3 M (by repeat (first | exact List.Sublist.refl _ | apply List.Sublist.cons_cons | apply List.Sublist.cons))) (fun hq3 => ?_)
                  refine t_take (i := 5) F rfl rfl hq3 (fun _ _ => r_move F rfl) (fun _ _ _ h => h) (by kernel_rfl) (by kernel_rfl) (by kernel_rfl) (by kernel_rfl) ?_; clear F a; intro a F
                  refine t_take (i := 6) F rfl rfl hq3 (fun _ _ => r_extract F rfl rfl) (fun _ _ _ h => h) (by kernel_rfl) (by kernel_rfl) (by kernel_rfl) (by kernel_rfl) ?_; clear F a; intro a F
                  refine t_take (i := 7) F rfl rfl hq3 (fun _ _ => r_extract F rfl rfl) (fun _ _ _ h => h) (by kernel_rfl) (by kernel_rfl) (by kernel_rfl) (by kernel_rfl) ?_; clear F a; intro a F
                  refine t_one (i := 9) (by kernel_rfl) rfl rfl (o_storeA M F rfl rfl agg_State.size (by repeat (first | exact Upd.here _ _ _ _ _ | apply Upd.there)) (by rfl) (by rfl) (by rfl) ?_); clear F a; intro a W43 M F
                  refine keepAnd (Keeps.mk hle3 M (by repeat (first | exact List.Sublist.refl _ | apply List.Sublist.cons_cons | apply List.Sublist.cons))) (fun hq3 => ?_)
                  refine t_take (i := 10) F rfl rfl hq3 (fun _ _ => r_assign F rfl) (fun _ _ _ h => h) (by kernel_rfl) (by kernel_rfl) (by kernel_rfl) (by kernel_rfl) ?_; clear F a; intro a F
                  refine t_done (by kernel_rfl) ?_ _
                  have M := M.drop (List.Sublist.cons_cons _ (List.Sublist.cons_cons _ (List.Sublist.cons_cons _ (List.Sublist.cons _ (List.Sublist.refl _)))))
                  exact ⟨_, _, l8, (F.cons (F.cons (F.cons (F.cons (F.cons F.nil 17 rfl) 20 rfl) 22 rfl) 23 rfl) 21 rfl), M, ⟨hl3, hl7, hl8⟩⟩
              · clear F M a; intro a W hI; obtain ⟨G, c22, l8, F, M, hf⟩ := hI
                obtain ⟨hl3, hl7, hl8⟩ := hf
                refine c_seq (fun K13 hK13 => ?_)
                refine wp_region_lit ?_
                refine l_step rfl (o_val F (r_move F rfl) rfl ?_); clear F a; intro a F
                refine l_step rfl (o_val F (r_eql_i64 F rfl rfl) rfl ?_); clear F a; intro a F
                refine l_step rfl (o_val F (r_move F rfl) rfl ?_); clear F a; intro a F
                refine l_guard F rfl rfl rfl rfl (o_val F (r_move F rfl) rfl ?_); clear F a; intro a F
                refine l_guard F rfl rfl rfl rfl (o_val F (r_eql_i64 F rfl rfl) rfl ?_); clear F a; intro a F
                refine l_step rfl (o_val F (r_pick_t F rfl rfl rfl) rfl ?_); clear F a; intro a F
                refine l_step rfl (o_val F (r_move F rfl) rfl ?_); clear F a; intro a F
                refine l_guard F rfl rfl rfl rfl (o_val F (r_load M F rfl (by repeat (first | exact List.mem_cons_self | apply List.mem_cons_of_mem)) agg_State (seg_all rfl)) rfl ?_); clear F a; intro a F
                refine l_guard F rfl rfl rfl rfl (o_val F (r_load M F rfl (by repeat (first | exact List.mem_cons_self | apply List.mem_cons_of_mem)) agg_State (seg_all rfl)) rfl ?_); clear F a; intro a F
                refine l_guard F rfl rfl rfl rfl (o_call M F rfl (c_pglog_Same M.imm hl7 hl8) rfl ?_); clear F a; intro a W44 v44 G44 hp44 M E44 F
                have hl3 := hl3.mono E44.gl
                have hl7 := hl7.mono E44.gl
                have hl8 := hl8.mono E44.gl
                subst hp44
                refine l_step rfl (o_val F (r_pick_t F rfl rfl rfl) rfl ?_); clear F a; intro a F
                refine l_step rfl (o_val F (r_move F rfl) rfl ?_); clear F a; intro a F
                refine l_guard F rfl rfl rfl (decide_eq_true rfl) (o_val F (r_load M F rfl (by repeat (first | exact List.mem_cons_self | apply List.mem_cons_of_mem)) agg_State (seg_all rfl)) rfl ?_); clear F a; intro a F
                refine l_guard F rfl rfl rfl (decide_eq_true rfl) (o_val F (r_load M F rfl (by repeat (first | exact List.mem_cons_self | apply List.mem_cons_of_mem)) agg_State (seg_all rfl)) rfl ?_); clear F a; intro a F
                refine l_guard F rfl rfl rfl (decide_eq_true rfl) (o_call M F rfl (c_pglog_Same M.imm hl7 hl3) rfl ?_); clear F a; intro a W45 v45 G45 hp45 M E45 F
                have hl3 := hl3.mono E45.gl
                have hl7 := hl7.mono E45.gl
                have hl8 := hl8.mono E45.gl
                subst hp45
                refine l_step rfl (o_val F (r_pick_t F rfl (decide_eq_true rfl) rfl) rfl ?_); clear F a; intro a F
                refine l_step rfl (o_val F (r_assign F rfl) rfl ?_); clear F a; intro a F
                refine l_nil ?_
                refine hK13 _ _ ?_
                refine wp_ret ?_
                exact ret1 Try.results13 M F (rv_tmp F rfl) (by simp)
end Go.Proofs.Ytfkmaepcjognkaa.Pad
