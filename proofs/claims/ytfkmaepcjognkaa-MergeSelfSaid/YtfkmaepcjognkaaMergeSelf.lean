/- The walk of MergeSelf: it answers true. The rows are slices of operations, whatever they are. -/
import Derived.Test.YtfkmaepcjognkaaT8
namespace Go.Proofs.Ytfkmaepcjognkaa.Pad
open Go Go.Proofs
set_option linter.unusedVariables false
set_option maxRecDepth 8000
set_option maxHeartbeats 4000000
set_option linter.unusedSimpArgs false
theorem c_paddocklaw8_MergeSelf {w : World} {G0 : Ghost} (hI : Imm G0 w) {lo : Sl} {ops : List POp} {f : UInt8} (ho : Opl G0 lo ops) : Ret P 16 [lo.v, .int .u8 (f.toNat : Int)] [] w G0 (fun G W v => v = .bool true) := by
  refine enter Try.func16 rfl Try.ntmps16 rfl rfl hI (fun a F M => ?_)
  have hlen := ho.len
  refine c_seq (fun K1 hK1 => ?_)
  refine wp_region_lit ?_
  refine l_step rfl (o_val F (r_assign F rfl) rfl ?_); clear F a; intro a F
  refine l_nil ?_
  refine hK1 _ _ ?_
  refine c_seq (fun K2 hK2 => ?_)
  refine c_seq (fun K3 hK3 => ?_)
  refine wp_region_lit ?_
  refine l_step rfl (o_call M F rfl (c_paddocklaw8_known M.imm) rfl ?_); clear F a; intro a W1 v1 G1 hp1 M E1 F
  subst hp1
  refine l_step rfl (o_val F (r_not F rfl) rfl ?_); clear F a; intro a F
  refine l_nil ?_
  refine hK3 _ _ ?_
  refine c_false F rfl rfl ?_
  refine wp_skip ?_
  refine hK2 _ _ ?_
  refine c_seq (fun K4 hK4 => ?_)
  refine c_seq (fun K5 hK5 => ?_)
  refine wp_region_lit ?_
  refine l_step rfl (o_val F (r_move F rfl) rfl ?_); clear F a; intro a F
  refine l_step rfl (o_val F (r_len_slice F slc_Ops.und rfl) rfl ?_); clear F a; intro a F
  refine l_step rfl (o_val F (r_gtr_i64 F rfl rfl) rfl ?_); clear F a; intro a F
  refine l_nil ?_
  refine hK5 _ _ ?_
  refine c_cond F rfl (fun g15 => ?_) (fun g15 => ?_)
  · skip
    refine c_seq (fun K6 hK6 => ?_)
    refine wp_region_lit ?_
    refine l_step rfl (o_val F (r_assign F rfl) rfl ?_); clear F a; intro a F
    refine l_nil ?_
    refine hK6 _ _ ?_
    refine wp_ret ?_
    exact ret1 Try.results16 M F (rv_tmp F rfl) (rfl)
  · skip
    refine wp_skip ?_
    refine hK4 _ _ ?_
    refine c_seq (fun K7 hK7 => ?_)
    refine wp_region_lit ?_
    refine l_step rfl (o_val F (r_move F rfl) rfl ?_); clear F a; intro a F
    refine l_step rfl (o_call M F rfl (c_paddocklaw8_state (lb := Sl.nil) (ys := []) (since := 0) (f := 0) (started := 1) M.imm (ho.mono M.gl) (Opl.nil _) (by have h := of_decide_eq_false g15; omega) (by decide)) rfl ?_); clear F a; intro a W2 v2 G2 hp2 M E2 F
    obtain ⟨l1, rfl, hl1⟩ := hp2
    simp only [st_f0] at F hl1
    refine l_step rfl (o_val F (r_move F rfl) rfl ?_); clear F a; intro a F
    refine l_step rfl (o_val F (r_move F rfl) rfl ?_); clear F a; intro a F
    refine l_step rfl (o_call M F rfl (c_paddocklaw8_state (lb := Sl.nil) (ys := []) (since := 0) (f := f) (started := 1) M.imm (ho.mono M.gl) (Opl.nil _) (by have h := of_decide_eq_false g15; omega) (by decide)) rfl ?_); clear F a; intro a W3 v3 G3 hp3 M E3 F
    have hl1 := hl1.mono E3.gl
    obtain ⟨l2, rfl, hl2⟩ := hp3
    have hok := st0_ok ops [] 0 1
    obtain ⟨j, hj, hj2⟩ := st_fold ops [] 0 f 1
    simp only [hj2] at F hl2
    generalize pSt0 ops [] 0 1 = s at F hl1 hl2 M hok hj
    have hot := ok_folded hok j
    have hmk := make_folded hok hj
    have ham := apply_make hok hot
    have hms := make_self hok
    refine l_step rfl (o_alloc M F zer_State rfl ?_); clear F a; intro a W4 b1 M F
    refine l_step rfl (o_alloc M F zer_State rfl ?_); clear F a; intro a W5 b2 M F
    refine l_step rfl (o_storeA M F rfl rfl agg_State.size (by repeat (first | exact Upd.here _ _ _ _ _ | apply Upd.there)) (by rfl) (by rfl) (by rfl) ?_); clear F a; intro a W6 M F
    refine l_step rfl (o_storeA M F rfl rfl agg_State.size (by repeat (first | exact Upd.here _ _ _ _ _ | apply Upd.there)) (by rfl) (by rfl) (by rfl) ?_); clear F a; intro a W7 M F
    refine l_nil ?_
    refine hK7 _ _ ?_
    refine c_cut (fun a W => ∃ (G : Ghost) (c7 : Nat) (c8 : Nat) (l3 : Sl) (l4 : Sl) (l5 : Sl) (l6 : Sl), Frm 72 [(7, .pointer (some ⟨c7, 0, none⟩)), (8, .pointer (some ⟨c8, 0, none⟩)), (6, .pointer (some ⟨b2, 0, none⟩)), (5, .pointer (some ⟨b1, 0, none⟩))] a ∧ St [] w G0 W [⟨c7, 94, GDiff.enc (PDiff.at ⟨0, 0, [], pmHead s⟩ l3 l4)⟩, ⟨c8, 94, GDiff.enc ((pMake s (pFolded s j)).at l5 l6)⟩, ⟨b2, 42, ((pFolded s j).at l2).enc⟩, ⟨b1, 42, (s.at l1).enc⟩] G ∧ (Ens G l1 s.log ∧ Ens G l2 (pFolded s j).log ∧ Ens G l3 [] ∧ Ens G l4 (pmHead s).log ∧ Ens G l5 (pMake s (pFolded s j)).log ∧ Ens G l6 (pMake s (pFolded s j)).whole.log)) ?_ ?_
    · skip
      refine c_drawM M [] mixed (fun M => ?_)
      have Ms := M
      have hq1 := Keeps.here M
      have hle1 := M.gle
      refine t_take (i := 0) F rfl rfl hq1 (fun _ ⟨_, _, M'⟩ => r_load M' F rfl (by repeat (first | exact List.mem_cons_self | apply List.mem_cons_of_mem)) agg_State (seg_all rfl)) (fun _ _ _ h => h) (by kernel_rfl) (by kernel_rfl) (by kernel_rfl) (by kernel_rfl) ?_; clear F a; intro a F
      refine t_take (i := 1) F rfl rfl hq1 (fun _ ⟨_, _, M'⟩ => r_load M' F rfl (by repeat (first | exact List.mem_cons_self | apply List.mem_cons_of_mem)) agg_State (seg_all rfl)) (fun _ _ _ h => h) (by kernel_rfl) (by kernel_rfl) (by kernel_rfl) (by kernel_rfl) ?_; clear F a; intro a F
      refine t_take (i := 3) F rfl rfl hq1 (fun _ ⟨_, _, M'⟩ => r_load M' F rfl (by repeat (first | exact List.mem_cons_self | apply List.mem_cons_of_mem)) agg_State (seg_all rfl)) (fun _ _ _ h => h) (by kernel_rfl) (by kernel_rfl) (by kernel_rfl) (by kernel_rfl) ?_; clear F a; intro a F
      refine t_take (i := 4) F rfl rfl hq1 (fun _ ⟨_, _, M'⟩ => r_load M' F rfl (by repeat (first | exact List.mem_cons_self | apply List.mem_cons_of_mem)) agg_State (seg_all rfl)) (fun _ _ _ h => h) (by kernel_rfl) (by kernel_rfl) (by kernel_rfl) (by kernel_rfl) ?_; clear F a; intro a F
      refine t_rdy3 (i := 2) (j := 6) (k := 7) (by kernel_rfl) (w_plain rfl rfl ?_) (w_plain rfl rfl ?_) (w_plain rfl rfl ?_)
      · skip
        refine id (o_call M F rfl (c_merge_Make M.imm hl1 hl1) rfl ?_); clear F a; intro a W8 v8 G8 hp8 M E8 F
        have hl1 := hl1.mono E8.gl
        have hl2 := hl2.mono E8.gl
        obtain ⟨l3, l4, rfl, hl3, hl4⟩ := hp8
        simp only [hms] at F hl3 hl4
        have hle1 := hle1.trans E8.gl
        refine keepAnd (Keeps.mk hle1 M (by repeat (first | exact List.Sublist.refl _ | apply List.Sublist.cons_cons | apply List.Sublist.cons))) (fun hq1 => ?_)
        refine t_rdy3 (i := 5) (j := 6) (k := 7) (by kernel_rfl) (w_plain rfl rfl ?_) (w_plain rfl rfl ?_) (w_plain rfl rfl ?_)
        · skip
          refine id (o_call M F rfl (c_merge_Make M.imm hl1 hl2) rfl ?_); clear F a; intro a W9 v9 G9 hp9 M E9 F
          have hl1 := hl1.mono E9.gl
          have hl2 := hl2.mono E9.gl
          have hl3 := hl3.mono E9.gl
          have hl4 := hl4.mono E9.gl
          obtain ⟨l5, l6, rfl, hl5, hl6⟩ := hp9
          have hle1 := hle1.trans E9.gl
          refine keepAnd (Keeps.mk hle1 M (by repeat (first | exact List.Sublist.refl _ | apply List.Sublist.cons_cons | apply List.Sublist.cons))) (fun hq1 => ?_)
          refine t_rdy2 (i := 6) (j := 7) (by kernel_rfl) (w_plain rfl rfl ?_) (w_plain rfl rfl ?_)
          · skip
            refine id (o_alloc M F zer_Diff rfl ?_); clear F a; intro a W10 b3 M F
            refine keepAnd (Keeps.mk hle1 M (by repeat (first | exact List.Sublist.refl _ | apply List.Sublist.cons_cons | apply List.Sublist.cons))) (fun hq1 => ?_)
            refine t_one (i := 7) (by kernel_rfl) rfl rfl (o_alloc M F zer_Diff rfl ?_); clear F a; intro a W11 b4 M F
            refine keepAnd (Keeps.mk hle1 M (by repeat (first | exact List.Sublist.refl _ | apply List.Sublist.cons_cons | apply List.Sublist.cons))) (fun hq1 => ?_)
            refine t_one (i := 8) (by kernel_rfl) rfl rfl (o_storeA M F rfl rfl agg_Diff.size (by repeat (first | exact Upd.here _ _ _ _ _ | apply Upd.there)) (by rfl) (by rfl) (by rfl) ?_); clear F a; intro a W12 M F
            refine keepAnd (Keeps.mk hle1 M (by repeat (first | exact List.Sublist.refl _ | apply List.Sublist.cons_cons | apply List.Sublist.cons))) (fun hq1 => ?_)
            refine t_one (i := 9) (by kernel_rfl) rfl rfl (o_storeA M F rfl rfl agg_Diff.size (by repeat (first | exact Upd.here _ _ _ _ _ | apply Upd.there)) (by rfl) (by rfl) (by rfl) ?_); clear F a; intro a W13 M F
            refine keepAnd (Keeps.mk hle1 M (by repeat (first | exact List.Sublist.refl _ | apply List.Sublist.cons_cons | apply List.Sublist.cons))) (fun hq1 => ?_)
            refine t_done (by kernel_rfl) ?_ _
            have M := M.perm (List.Perm.swap _ _ _)
            exact ⟨_, _, _, l3, l4, l5, l6, (F.cons (F.cons (F.cons (F.cons F.nil 5 rfl) 6 rfl) 8 rfl) 7 rfl), M, ⟨hl1, hl2, hl3, hl4, hl5, hl6⟩⟩
          · skip
            refine id (o_alloc M F zer_Diff rfl ?_); clear F a; intro a W14 b5 M F
            refine keepAnd (Keeps.mk hle1 M (by repeat (first | exact List.Sublist.refl _ | apply List.Sublist.cons_cons | apply List.Sublist.cons))) (fun hq1 => ?_)
            refine t_one (i := 6) (by kernel_rfl) rfl rfl (o_alloc M F zer_Diff rfl ?_); clear F a; intro a W15 b6 M F
            refine keepAnd (Keeps.mk hle1 M (by repeat (first | exact List.Sublist.refl _ | apply List.Sublist.cons_cons | apply List.Sublist.cons))) (fun hq1 => ?_)
            refine t_one (i := 8) (by kernel_rfl) rfl rfl (o_storeA M F rfl rfl agg_Diff.size (by repeat (first | exact Upd.here _ _ _ _ _ | apply Upd.there)) (by rfl) (by rfl) (by rfl) ?_); clear F a; intro a W16 M F
            refine keepAnd (Keeps.mk hle1 M (by repeat (first | exact List.Sublist.refl _ | apply List.Sublist.cons_cons | apply List.Sublist.cons))) (fun hq1 => ?_)
            refine t_one (i := 9) (by kernel_rfl) rfl rfl (o_storeA M F rfl rfl agg_Diff.size (by repeat (first | exact Upd.here _ _ _ _ _ | apply Upd.there)) (by rfl) (by rfl) (by rfl) ?_); clear F a; intro a W17 M F
            refine keepAnd (Keeps.mk hle1 M (by repeat (first | exact List.Sublist.refl _ | apply List.Sublist.cons_cons | apply List.Sublist.cons))) (fun hq1 => ?_)
            refine t_done (by kernel_rfl) ?_ _
            exact ⟨_, _, _, l3, l4, l5, l6, (F.cons (F.cons (F.cons (F.cons F.nil 5 rfl) 6 rfl) 8 rfl) 7 rfl), M, ⟨hl1, hl2, hl3, hl4, hl5, hl6⟩⟩
        · skip
          refine id (o_alloc M F zer_Diff rfl ?_); clear F a; intro a W18 b7 M F
          refine keepAnd (Keeps.mk hle1 M (by repeat (first | exact List.Sublist.refl _ | apply List.Sublist.cons_cons | apply List.Sublist.cons))) (fun hq1 => ?_)
          refine t_rdy2 (i := 5) (j := 7) (by kernel_rfl) (w_plain rfl rfl ?_) (w_plain rfl rfl ?_)
          · skip
            refine id (o_call M F rfl (c_merge_Make M.imm hl1 hl2) rfl ?_); clear F a; intro a W19 v19 G19 hp19 M E19 F
            have hl1 := hl1.mono E19.gl
            have hl2 := hl2.mono E19.gl
            have hl3 := hl3.mono E19.gl
            have hl4 := hl4.mono E19.gl
            obtain ⟨l5, l6, rfl, hl5, hl6⟩ := hp19
            have hle1 := hle1.trans E19.gl
            refine keepAnd (Keeps.mk hle1 M (by repeat (first | exact List.Sublist.refl _ | apply List.Sublist.cons_cons | apply List.Sublist.cons))) (fun hq1 => ?_)
            refine t_one (i := 7) (by kernel_rfl) rfl rfl (o_alloc M F zer_Diff rfl ?_); clear F a; intro a W20 b8 M F
            refine keepAnd (Keeps.mk hle1 M (by repeat (first | exact List.Sublist.refl _ | apply List.Sublist.cons_cons | apply List.Sublist.cons))) (fun hq1 => ?_)
            refine t_one (i := 8) (by kernel_rfl) rfl rfl (o_storeA M F rfl rfl agg_Diff.size (by repeat (first | exact Upd.here _ _ _ _ _ | apply Upd.there)) (by rfl) (by rfl) (by rfl) ?_); clear F a; intro a W21 M F
            refine keepAnd (Keeps.mk hle1 M (by repeat (first | exact List.Sublist.refl _ | apply List.Sublist.cons_cons | apply List.Sublist.cons))) (fun hq1 => ?_)
            refine t_one (i := 9) (by kernel_rfl) rfl rfl (o_storeA M F rfl rfl agg_Diff.size (by repeat (first | exact Upd.here _ _ _ _ _ | apply Upd.there)) (by rfl) (by rfl) (by rfl) ?_); clear F a; intro a W22 M F
            refine keepAnd (Keeps.mk hle1 M (by repeat (first | exact List.Sublist.refl _ | apply List.Sublist.cons_cons | apply List.Sublist.cons))) (fun hq1 => ?_)
            refine t_done (by kernel_rfl) ?_ _
            have M := M.perm (List.Perm.swap _ _ _)
            exact ⟨_, _, _, l3, l4, l5, l6, (F.cons (F.cons (F.cons (F.cons F.nil 5 rfl) 6 rfl) 8 rfl) 7 rfl), M, ⟨hl1, hl2, hl3, hl4, hl5, hl6⟩⟩
          · skip
            refine id (o_alloc M F zer_Diff rfl ?_); clear F a; intro a W23 b9 M F
            refine keepAnd (Keeps.mk hle1 M (by repeat (first | exact List.Sublist.refl _ | apply List.Sublist.cons_cons | apply List.Sublist.cons))) (fun hq1 => ?_)
            refine t_one (i := 5) (by kernel_rfl) rfl rfl (o_call M F rfl (c_merge_Make M.imm hl1 hl2) rfl ?_); clear F a; intro a W24 v24 G24 hp24 M E24 F
            have hl1 := hl1.mono E24.gl
            have hl2 := hl2.mono E24.gl
            have hl3 := hl3.mono E24.gl
            have hl4 := hl4.mono E24.gl
            obtain ⟨l5, l6, rfl, hl5, hl6⟩ := hp24
            have hle1 := hle1.trans E24.gl
            refine keepAnd (Keeps.mk hle1 M (by repeat (first | exact List.Sublist.refl _ | apply List.Sublist.cons_cons | apply List.Sublist.cons))) (fun hq1 => ?_)
            refine t_one (i := 8) (by kernel_rfl) rfl rfl (o_storeA M F rfl rfl agg_Diff.size (by repeat (first | exact Upd.here _ _ _ _ _ | apply Upd.there)) (by rfl) (by rfl) (by rfl) ?_); clear F a; intro a W25 M F
            refine keepAnd (Keeps.mk hle1 M (by repeat (first | exact List.Sublist.refl _ | apply List.Sublist.cons_cons | apply List.Sublist.cons))) (fun hq1 => ?_)
            refine t_one (i := 9) (by kernel_rfl) rfl rfl (o_storeA M F rfl rfl agg_Diff.size (by repeat (first | exact Upd.here _ _ _ _ _ | apply Upd.there)) (by rfl) (by rfl) (by rfl) ?_); clear F a; intro a W26 M F
            refine keepAnd (Keeps.mk hle1 M (by repeat (first | exact List.Sublist.refl _ | apply List.Sublist.cons_cons | apply List.Sublist.cons))) (fun hq1 => ?_)
            refine t_done (by kernel_rfl) ?_ _
            have M := M.perm (List.Perm.swap _ _ _)
            exact ⟨_, _, _, l3, l4, l5, l6, (F.cons (F.cons (F.cons (F.cons F.nil 5 rfl) 6 rfl) 8 rfl) 7 rfl), M, ⟨hl1, hl2, hl3, hl4, hl5, hl6⟩⟩
        · skip
          refine id (o_alloc M F zer_Diff rfl ?_); clear F a; intro a W27 b10 M F
          refine keepAnd (Keeps.mk hle1 M (by repeat (first | exact List.Sublist.refl _ | apply List.Sublist.cons_cons | apply List.Sublist.cons))) (fun hq1 => ?_)
          refine t_rdy2 (i := 5) (j := 6) (by kernel_rfl) (w_plain rfl rfl ?_) (w_plain rfl rfl ?_)
          · skip
            refine id (o_call M F rfl (c_merge_Make M.imm hl1 hl2) rfl ?_); clear F a; intro a W28 v28 G28 hp28 M E28 F
            have hl1 := hl1.mono E28.gl
            have hl2 := hl2.mono E28.gl
            have hl3 := hl3.mono E28.gl
            have hl4 := hl4.mono E28.gl
            obtain ⟨l5, l6, rfl, hl5, hl6⟩ := hp28
            have hle1 := hle1.trans E28.gl
            refine keepAnd (Keeps.mk hle1 M (by repeat (first | exact List.Sublist.refl _ | apply List.Sublist.cons_cons | apply List.Sublist.cons))) (fun hq1 => ?_)
            refine t_one (i := 6) (by kernel_rfl) rfl rfl (o_alloc M F zer_Diff rfl ?_); clear F a; intro a W29 b11 M F
            refine keepAnd (Keeps.mk hle1 M (by repeat (first | exact List.Sublist.refl _ | apply List.Sublist.cons_cons | apply List.Sublist.cons))) (fun hq1 => ?_)
            refine t_one (i := 8) (by kernel_rfl) rfl rfl (o_storeA M F rfl rfl agg_Diff.size (by repeat (first | exact Upd.here _ _ _ _ _ | apply Upd.there)) (by rfl) (by rfl) (by rfl) ?_); clear F a; intro a W30 M F
            refine keepAnd (Keeps.mk hle1 M (by repeat (first | exact List.Sublist.refl _ | apply List.Sublist.cons_cons | apply List.Sublist.cons))) (fun hq1 => ?_)
            refine t_one (i := 9) (by kernel_rfl) rfl rfl (o_storeA M F rfl rfl agg_Diff.size (by repeat (first | exact Upd.here _ _ _ _ _ | apply Upd.there)) (by rfl) (by rfl) (by rfl) ?_); clear F a; intro a W31 M F
            refine keepAnd (Keeps.mk hle1 M (by repeat (first | exact List.Sublist.refl _ | apply List.Sublist.cons_cons | apply List.Sublist.cons))) (fun hq1 => ?_)
            refine t_done (by kernel_rfl) ?_ _
            exact ⟨_, _, _, l3, l4, l5, l6, (F.cons (F.cons (F.cons (F.cons F.nil 5 rfl) 6 rfl) 8 rfl) 7 rfl), M, ⟨hl1, hl2, hl3, hl4, hl5, hl6⟩⟩
          · skip
            refine id (o_alloc M F zer_Diff rfl ?_); clear F a; intro a W32 b12 M F
            refine keepAnd (Keeps.mk hle1 M (by repeat (first | exact List.Sublist.refl _ | apply List.Sublist.cons_cons | apply List.Sublist.cons))) (fun hq1 => ?_)
            refine t_one (i := 5) (by kernel_rfl) rfl rfl (o_call M F rfl (c_merge_Make M.imm hl1 hl2) rfl ?_); clear F a; intro a W33 v33 G33 hp33 M E33 F
            have hl1 := hl1.mono E33.gl
            have hl2 := hl2.mono E33.gl
            have hl3 := hl3.mono E33.gl
            have hl4 := hl4.mono E33.gl
            obtain ⟨l5, l6, rfl, hl5, hl6⟩ := hp33
            have hle1 := hle1.trans E33.gl
            refine keepAnd (Keeps.mk hle1 M (by repeat (first | exact List.Sublist.refl _ | apply List.Sublist.cons_cons | apply List.Sublist.cons))) (fun hq1 => ?_)
            refine t_one (i := 8) (by kernel_rfl) rfl rfl (o_storeA M F rfl rfl agg_Diff.size (by repeat (first | exact Upd.here _ _ _ _ _ | apply Upd.there)) (by rfl) (by rfl) (by rfl) ?_); clear F a; intro a W34 M F
            refine keepAnd (Keeps.mk hle1 M (by repeat (first | exact List.Sublist.refl _ | apply List.Sublist.cons_cons | apply List.Sublist.cons))) (fun hq1 => ?_)
            refine t_one (i := 9) (by kernel_rfl) rfl rfl (o_storeA M F rfl rfl agg_Diff.size (by repeat (first | exact Upd.here _ _ _ _ _ | apply Upd.there)) (by rfl) (by rfl) (by rfl) ?_); clear F a; intro a W35 M F
            refine keepAnd (Keeps.mk hle1 M (by repeat (first | exact List.Sublist.refl _ | apply List.Sublist.cons_cons | apply List.Sublist.cons))) (fun hq1 => ?_)
            refine t_done (by kernel_rfl) ?_ _
            exact ⟨_, _, _, l3, l4, l5, l6, (F.cons (F.cons (F.cons (F.cons F.nil 5 rfl) 6 rfl) 8 rfl) 7 rfl), M, ⟨hl1, hl2, hl3, hl4, hl5, hl6⟩⟩
      · skip
        refine id (o_alloc M F zer_Diff rfl ?_); clear F a; intro a W36 b13 M F
        refine keepAnd (Keeps.mk hle1 M (by repeat (first | exact List.Sublist.refl _ | apply List.Sublist.cons_cons | apply List.Sublist.cons))) (fun hq1 => ?_)
        refine t_rdy2 (i := 2) (j := 7) (by kernel_rfl) (w_plain rfl rfl ?_) (w_plain rfl rfl ?_)
        · skip
          refine id (o_call M F rfl (c_merge_Make M.imm hl1 hl1) rfl ?_); clear F a; intro a W37 v37 G37 hp37 M E37 F
          have hl1 := hl1.mono E37.gl
          have hl2 := hl2.mono E37.gl
          obtain ⟨l3, l4, rfl, hl3, hl4⟩ := hp37
          simp only [hms] at F hl3 hl4
          have hle1 := hle1.trans E37.gl
          refine keepAnd (Keeps.mk hle1 M (by repeat (first | exact List.Sublist.refl _ | apply List.Sublist.cons_cons | apply List.Sublist.cons))) (fun hq1 => ?_)
          refine t_rdy2 (i := 5) (j := 7) (by kernel_rfl) (w_plain rfl rfl ?_) (w_plain rfl rfl ?_)
          · skip
            refine id (o_call M F rfl (c_merge_Make M.imm hl1 hl2) rfl ?_); clear F a; intro a W38 v38 G38 hp38 M E38 F
            have hl1 := hl1.mono E38.gl
            have hl2 := hl2.mono E38.gl
            have hl3 := hl3.mono E38.gl
            have hl4 := hl4.mono E38.gl
            obtain ⟨l5, l6, rfl, hl5, hl6⟩ := hp38
            have hle1 := hle1.trans E38.gl
            refine keepAnd (Keeps.mk hle1 M (by repeat (first | exact List.Sublist.refl _ | apply List.Sublist.cons_cons | apply List.Sublist.cons))) (fun hq1 => ?_)
            refine t_one (i := 7) (by kernel_rfl) rfl rfl (o_alloc M F zer_Diff rfl ?_); clear F a; intro a W39 b14 M F
            refine keepAnd (Keeps.mk hle1 M (by repeat (first | exact List.Sublist.refl _ | apply List.Sublist.cons_cons | apply List.Sublist.cons))) (fun hq1 => ?_)
            refine t_one (i := 8) (by kernel_rfl) rfl rfl (o_storeA M F rfl rfl agg_Diff.size (by repeat (first | exact Upd.here _ _ _ _ _ | apply Upd.there)) (by rfl) (by rfl) (by rfl) ?_); clear F a; intro a W40 M F
            refine keepAnd (Keeps.mk hle1 M (by repeat (first | exact List.Sublist.refl _ | apply List.Sublist.cons_cons | apply List.Sublist.cons))) (fun hq1 => ?_)
            refine t_one (i := 9) (by kernel_rfl) rfl rfl (o_storeA M F rfl rfl agg_Diff.size (by repeat (first | exact Upd.here _ _ _ _ _ | apply Upd.there)) (by rfl) (by rfl) (by rfl) ?_); clear F a; intro a W41 M F
            refine keepAnd (Keeps.mk hle1 M (by repeat (first | exact List.Sublist.refl _ | apply List.Sublist.cons_cons | apply List.Sublist.cons))) (fun hq1 => ?_)
            refine t_done (by kernel_rfl) ?_ _
            have M := M.perm (List.Perm.swap _ _ _)
            exact ⟨_, _, _, l3, l4, l5, l6, (F.cons (F.cons (F.cons (F.cons F.nil 5 rfl) 6 rfl) 8 rfl) 7 rfl), M, ⟨hl1, hl2, hl3, hl4, hl5, hl6⟩⟩
          · skip
            refine id (o_alloc M F zer_Diff rfl ?_); clear F a; intro a W42 b15 M F
            refine keepAnd (Keeps.mk hle1 M (by repeat (first | exact List.Sublist.refl _ | apply List.Sublist.cons_cons | apply List.Sublist.cons))) (fun hq1 => ?_)
            refine t_one (i := 5) (by kernel_rfl) rfl rfl (o_call M F rfl (c_merge_Make M.imm hl1 hl2) rfl ?_); clear F a; intro a W43 v43 G43 hp43 M E43 F
            have hl1 := hl1.mono E43.gl
            have hl2 := hl2.mono E43.gl
            have hl3 := hl3.mono E43.gl
            have hl4 := hl4.mono E43.gl
            obtain ⟨l5, l6, rfl, hl5, hl6⟩ := hp43
            have hle1 := hle1.trans E43.gl
            refine keepAnd (Keeps.mk hle1 M (by repeat (first | exact List.Sublist.refl _ | apply List.Sublist.cons_cons | apply List.Sublist.cons))) (fun hq1 => ?_)
            refine t_one (i := 8) (by kernel_rfl) rfl rfl (o_storeA M F rfl rfl agg_Diff.size (by repeat (first | exact Upd.here _ _ _ _ _ | apply Upd.there)) (by rfl) (by rfl) (by rfl) ?_); clear F a; intro a W44 M F
            refine keepAnd (Keeps.mk hle1 M (by repeat (first | exact List.Sublist.refl _ | apply List.Sublist.cons_cons | apply List.Sublist.cons))) (fun hq1 => ?_)
            refine t_one (i := 9) (by kernel_rfl) rfl rfl (o_storeA M F rfl rfl agg_Diff.size (by repeat (first | exact Upd.here _ _ _ _ _ | apply Upd.there)) (by rfl) (by rfl) (by rfl) ?_); clear F a; intro a W45 M F
            refine keepAnd (Keeps.mk hle1 M (by repeat (first | exact List.Sublist.refl _ | apply List.Sublist.cons_cons | apply List.Sublist.cons))) (fun hq1 => ?_)
            refine t_done (by kernel_rfl) ?_ _
            have M := M.perm (List.Perm.swap _ _ _)
            exact ⟨_, _, _, l3, l4, l5, l6, (F.cons (F.cons (F.cons (F.cons F.nil 5 rfl) 6 rfl) 8 rfl) 7 rfl), M, ⟨hl1, hl2, hl3, hl4, hl5, hl6⟩⟩
        · skip
          refine id (o_alloc M F zer_Diff rfl ?_); clear F a; intro a W46 b16 M F
          refine keepAnd (Keeps.mk hle1 M (by repeat (first | exact List.Sublist.refl _ | apply List.Sublist.cons_cons | apply List.Sublist.cons))) (fun hq1 => ?_)
          refine t_one (i := 2) (by kernel_rfl) rfl rfl (o_call M F rfl (c_merge_Make M.imm hl1 hl1) rfl ?_); clear F a; intro a W47 v47 G47 hp47 M E47 F
          have hl1 := hl1.mono E47.gl
          have hl2 := hl2.mono E47.gl
          obtain ⟨l3, l4, rfl, hl3, hl4⟩ := hp47
          simp only [hms] at F hl3 hl4
          have hle1 := hle1.trans E47.gl
          refine keepAnd (Keeps.mk hle1 M (by repeat (first | exact List.Sublist.refl _ | apply List.Sublist.cons_cons | apply List.Sublist.cons))) (fun hq1 => ?_)
          refine t_one (i := 5) (by kernel_rfl) rfl rfl (o_call M F rfl (c_merge_Make M.imm hl1 hl2) rfl ?_); clear F a; intro a W48 v48 G48 hp48 M E48 F
          have hl1 := hl1.mono E48.gl
          have hl2 := hl2.mono E48.gl
          have hl3 := hl3.mono E48.gl
          have hl4 := hl4.mono E48.gl
          obtain ⟨l5, l6, rfl, hl5, hl6⟩ := hp48
          have hle1 := hle1.trans E48.gl
          refine keepAnd (Keeps.mk hle1 M (by repeat (first | exact List.Sublist.refl _ | apply List.Sublist.cons_cons | apply List.Sublist.cons))) (fun hq1 => ?_)
          refine t_one (i := 8) (by kernel_rfl) rfl rfl (o_storeA M F rfl rfl agg_Diff.size (by repeat (first | exact Upd.here _ _ _ _ _ | apply Upd.there)) (by rfl) (by rfl) (by rfl) ?_); clear F a; intro a W49 M F
          refine keepAnd (Keeps.mk hle1 M (by repeat (first | exact List.Sublist.refl _ | apply List.Sublist.cons_cons | apply List.Sublist.cons))) (fun hq1 => ?_)
          refine t_one (i := 9) (by kernel_rfl) rfl rfl (o_storeA M F rfl rfl agg_Diff.size (by repeat (first | exact Upd.here _ _ _ _ _ | apply Upd.there)) (by rfl) (by rfl) (by rfl) ?_); clear F a; intro a W50 M F
          refine keepAnd (Keeps.mk hle1 M (by repeat (first | exact List.Sublist.refl _ | apply List.Sublist.cons_cons | apply List.Sublist.cons))) (fun hq1 => ?_)
          refine t_done (by kernel_rfl) ?_ _
          have M := M.perm (List.Perm.swap _ _ _)
          exact ⟨_, _, _, l3, l4, l5, l6, (F.cons (F.cons (F.cons (F.cons F.nil 5 rfl) 6 rfl) 8 rfl) 7 rfl), M, ⟨hl1, hl2, hl3, hl4, hl5, hl6⟩⟩
      · skip
        refine id (o_alloc M F zer_Diff rfl ?_); clear F a; intro a W51 b17 M F
        refine keepAnd (Keeps.mk hle1 M (by repeat (first | exact List.Sublist.refl _ | apply List.Sublist.cons_cons | apply List.Sublist.cons))) (fun hq1 => ?_)
        refine t_rdy2 (i := 2) (j := 6) (by kernel_rfl) (w_plain rfl rfl ?_) (w_plain rfl rfl ?_)
        · skip
          refine id (o_call M F rfl (c_merge_Make M.imm hl1 hl1) rfl ?_); clear F a; intro a W52 v52 G52 hp52 M E52 F
          have hl1 := hl1.mono E52.gl
          have hl2 := hl2.mono E52.gl
          obtain ⟨l3, l4, rfl, hl3, hl4⟩ := hp52
          simp only [hms] at F hl3 hl4
          have hle1 := hle1.trans E52.gl
          refine keepAnd (Keeps.mk hle1 M (by repeat (first | exact List.Sublist.refl _ | apply List.Sublist.cons_cons | apply List.Sublist.cons))) (fun hq1 => ?_)
          refine t_rdy2 (i := 5) (j := 6) (by kernel_rfl) (w_plain rfl rfl ?_) (w_plain rfl rfl ?_)
          · skip
            refine id (o_call M F rfl (c_merge_Make M.imm hl1 hl2) rfl ?_); clear F a; intro a W53 v53 G53 hp53 M E53 F
            have hl1 := hl1.mono E53.gl
            have hl2 := hl2.mono E53.gl
            have hl3 := hl3.mono E53.gl
            have hl4 := hl4.mono E53.gl
            obtain ⟨l5, l6, rfl, hl5, hl6⟩ := hp53
            have hle1 := hle1.trans E53.gl
            refine keepAnd (Keeps.mk hle1 M (by repeat (first | exact List.Sublist.refl _ | apply List.Sublist.cons_cons | apply List.Sublist.cons))) (fun hq1 => ?_)
            refine t_one (i := 6) (by kernel_rfl) rfl rfl (o_alloc M F zer_Diff rfl ?_); clear F a; intro a W54 b18 M F
            refine keepAnd (Keeps.mk hle1 M (by repeat (first | exact List.Sublist.refl _ | apply List.Sublist.cons_cons | apply List.Sublist.cons))) (fun hq1 => ?_)
            refine t_one (i := 8) (by kernel_rfl) rfl rfl (o_storeA M F rfl rfl agg_Diff.size (by repeat (first | exact Upd.here _ _ _ _ _ | apply Upd.there)) (by rfl) (by rfl) (by rfl) ?_); clear F a; intro a W55 M F
            refine keepAnd (Keeps.mk hle1 M (by repeat (first | exact List.Sublist.refl _ | apply List.Sublist.cons_cons | apply List.Sublist.cons))) (fun hq1 => ?_)
            refine t_one (i := 9) (by kernel_rfl) rfl rfl (o_storeA M F rfl rfl agg_Diff.size (by repeat (first | exact Upd.here _ _ _ _ _ | apply Upd.there)) (by rfl) (by rfl) (by rfl) ?_); clear F a; intro a W56 M F
            refine keepAnd (Keeps.mk hle1 M (by repeat (first | exact List.Sublist.refl _ | apply List.Sublist.cons_cons | apply List.Sublist.cons))) (fun hq1 => ?_)
            refine t_done (by kernel_rfl) ?_ _
            exact ⟨_, _, _, l3, l4, l5, l6, (F.cons (F.cons (F.cons (F.cons F.nil 5 rfl) 6 rfl) 8 rfl) 7 rfl), M, ⟨hl1, hl2, hl3, hl4, hl5, hl6⟩⟩
          · skip
            refine id (o_alloc M F zer_Diff rfl ?_); clear F a; intro a W57 b19 M F
            refine keepAnd (Keeps.mk hle1 M (by repeat (first | exact List.Sublist.refl _ | apply List.Sublist.cons_cons | apply List.Sublist.cons))) (fun hq1 => ?_)
            refine t_one (i := 5) (by kernel_rfl) rfl rfl (o_call M F rfl (c_merge_Make M.imm hl1 hl2) rfl ?_); clear F a; intro a W58 v58 G58 hp58 M E58 F
            have hl1 := hl1.mono E58.gl
            have hl2 := hl2.mono E58.gl
            have hl3 := hl3.mono E58.gl
            have hl4 := hl4.mono E58.gl
            obtain ⟨l5, l6, rfl, hl5, hl6⟩ := hp58
            have hle1 := hle1.trans E58.gl
            refine keepAnd (Keeps.mk hle1 M (by repeat (first | exact List.Sublist.refl _ | apply List.Sublist.cons_cons | apply List.Sublist.cons))) (fun hq1 => ?_)
            refine t_one (i := 8) (by kernel_rfl) rfl rfl (o_storeA M F rfl rfl agg_Diff.size (by repeat (first | exact Upd.here _ _ _ _ _ | apply Upd.there)) (by rfl) (by rfl) (by rfl) ?_); clear F a; intro a W59 M F
            refine keepAnd (Keeps.mk hle1 M (by repeat (first | exact List.Sublist.refl _ | apply List.Sublist.cons_cons | apply List.Sublist.cons))) (fun hq1 => ?_)
            refine t_one (i := 9) (by kernel_rfl) rfl rfl (o_storeA M F rfl rfl agg_Diff.size (by repeat (first | exact Upd.here _ _ _ _ _ | apply Upd.there)) (by rfl) (by rfl) (by rfl) ?_); clear F a; intro a W60 M F
            refine keepAnd (Keeps.mk hle1 M (by repeat (first | exact List.Sublist.refl _ | apply List.Sublist.cons_cons | apply List.Sublist.cons))) (fun hq1 => ?_)
            refine t_done (by kernel_rfl) ?_ _
            exact ⟨_, _, _, l3, l4, l5, l6, (F.cons (F.cons (F.cons (F.cons F.nil 5 rfl) 6 rfl) 8 rfl) 7 rfl), M, ⟨hl1, hl2, hl3, hl4, hl5, hl6⟩⟩
        · skip
          refine id (o_alloc M F zer_Diff rfl ?_); clear F a; intro a W61 b20 M F
          refine keepAnd (Keeps.mk hle1 M (by repeat (first | exact List.Sublist.refl _ | apply List.Sublist.cons_cons | apply List.Sublist.cons))) (fun hq1 => ?_)
          refine t_one (i := 2) (by kernel_rfl) rfl rfl (o_call M F rfl (c_merge_Make M.imm hl1 hl1) rfl ?_); clear F a; intro a W62 v62 G62 hp62 M E62 F
          have hl1 := hl1.mono E62.gl
          have hl2 := hl2.mono E62.gl
          obtain ⟨l3, l4, rfl, hl3, hl4⟩ := hp62
          simp only [hms] at F hl3 hl4
          have hle1 := hle1.trans E62.gl
          refine keepAnd (Keeps.mk hle1 M (by repeat (first | exact List.Sublist.refl _ | apply List.Sublist.cons_cons | apply List.Sublist.cons))) (fun hq1 => ?_)
          refine t_one (i := 5) (by kernel_rfl) rfl rfl (o_call M F rfl (c_merge_Make M.imm hl1 hl2) rfl ?_); clear F a; intro a W63 v63 G63 hp63 M E63 F
          have hl1 := hl1.mono E63.gl
          have hl2 := hl2.mono E63.gl
          have hl3 := hl3.mono E63.gl
          have hl4 := hl4.mono E63.gl
          obtain ⟨l5, l6, rfl, hl5, hl6⟩ := hp63
          have hle1 := hle1.trans E63.gl
          refine keepAnd (Keeps.mk hle1 M (by repeat (first | exact List.Sublist.refl _ | apply List.Sublist.cons_cons | apply List.Sublist.cons))) (fun hq1 => ?_)
          refine t_one (i := 8) (by kernel_rfl) rfl rfl (o_storeA M F rfl rfl agg_Diff.size (by repeat (first | exact Upd.here _ _ _ _ _ | apply Upd.there)) (by rfl) (by rfl) (by rfl) ?_); clear F a; intro a W64 M F
          refine keepAnd (Keeps.mk hle1 M (by repeat (first | exact List.Sublist.refl _ | apply List.Sublist.cons_cons | apply List.Sublist.cons))) (fun hq1 => ?_)
          refine t_one (i := 9) (by kernel_rfl) rfl rfl (o_storeA M F rfl rfl agg_Diff.size (by repeat (first | exact Upd.here _ _ _ _ _ | apply Upd.there)) (by rfl) (by rfl) (by rfl) ?_); clear F a; intro a W65 M F
          refine keepAnd (Keeps.mk hle1 M (by repeat (first | exact List.Sublist.refl _ | apply List.Sublist.cons_cons | apply List.Sublist.cons))) (fun hq1 => ?_)
          refine t_done (by kernel_rfl) ?_ _
          exact ⟨_, _, _, l3, l4, l5, l6, (F.cons (F.cons (F.cons (F.cons F.nil 5 rfl) 6 rfl) 8 rfl) 7 rfl), M, ⟨hl1, hl2, hl3, hl4, hl5, hl6⟩⟩
    · clear F M a; intro a W hI; obtain ⟨G, c7, c8, l3, l4, l5, l6, F, M, hf⟩ := hI
      obtain ⟨hl1, hl2, hl3, hl4, hl5, hl6⟩ := hf
      refine c_seq (fun K8 hK8 => ?_)
      refine wp_region_lit ?_
      refine l_step rfl (o_val F (r_load M F rfl (by repeat (first | exact List.mem_cons_self | apply List.mem_cons_of_mem)) agg_State (seg_all rfl)) rfl ?_); clear F a; intro a F
      refine l_step rfl (o_val F (r_load M F rfl (by repeat (first | exact List.mem_cons_self | apply List.mem_cons_of_mem)) agg_Diff (seg_all rfl)) rfl ?_); clear F a; intro a F
      refine l_step rfl (o_call M F rfl (c_merge_Apply M.imm hl1 hl5 hl6) rfl ?_); clear F a; intro a W66 v66 G66 hp66 M E66 F
      have hl1 := hl1.mono E66.gl
      have hl2 := hl2.mono E66.gl
      have hl3 := hl3.mono E66.gl
      have hl4 := hl4.mono E66.gl
      have hl5 := hl5.mono E66.gl
      have hl6 := hl6.mono E66.gl
      obtain ⟨l7, rfl, hl7⟩ := hp66
      simp only [ham] at F hl7
      refine l_step rfl (o_val F (r_move F rfl) rfl ?_); clear F a; intro a F
      refine l_step rfl (o_val F (r_extract F rfl rfl) rfl ?_); clear F a; intro a F
      refine l_step rfl (o_val F (r_extract F rfl rfl) rfl ?_); clear F a; intro a F
      refine l_step rfl (o_alloc M F zer_State rfl ?_); clear F a; intro a W67 b21 M F
      refine l_step rfl (o_storeA M F rfl rfl agg_State.size (by repeat (first | exact Upd.here _ _ _ _ _ | apply Upd.there)) (by rfl) (by rfl) (by rfl) ?_); clear F a; intro a W68 M F
      refine l_step rfl (o_val F (r_assign F rfl) rfl ?_); clear F a; intro a F
      refine l_nil ?_
      refine hK8 _ _ ?_
      refine c_seq (fun K9 hK9 => ?_)
      refine wp_region_lit ?_
      refine l_step rfl (o_val F (r_fieldAddr F rfl fld_Diff_0) rfl ?_); clear F a; intro a F
      refine l_step rfl (o_val F (r_load1 M F rfl (by repeat (first | exact List.mem_cons_self | apply List.mem_cons_of_mem)) sca_int rfl) rfl ?_); clear F a; intro a F
      refine l_step rfl (o_val F (r_eql_i64 F rfl rfl) rfl ?_); clear F a; intro a F
      refine l_step rfl (o_val F (r_move F rfl) rfl ?_); clear F a; intro a F
      refine l_guard F rfl rfl rfl rfl (o_val F (r_fieldAddr F rfl fld_Diff_2) rfl ?_); clear F a; intro a F
      refine l_guard F rfl rfl rfl rfl (o_val F (r_load1 M F rfl (by repeat (first | exact List.mem_cons_self | apply List.mem_cons_of_mem)) sca_Entries rfl) rfl ?_); clear F a; intro a F
      refine l_guard F rfl rfl rfl rfl (o_val F (r_len_slice F slc_Entries.und rfl) rfl ?_); clear F a; intro a F
      refine l_guard F rfl rfl rfl rfl (o_val F (r_eql_i64 F rfl rfl) rfl ?_); clear F a; intro a F
      refine l_step rfl (o_val F (r_pick_t F rfl rfl rfl) rfl ?_); clear F a; intro a F
      refine l_step rfl (o_val F (r_move F rfl) rfl ?_); clear F a; intro a F
      refine l_guard F rfl rfl rfl (by have h := hl3.len; simp_all) (o_val F (r_fieldAddr F rfl fld_Diff_1) rfl ?_); clear F a; intro a F
      refine l_guard F rfl rfl rfl (by have h := hl3.len; simp_all) (o_val F (r_load1 M F rfl (by repeat (first | exact List.mem_cons_self | apply List.mem_cons_of_mem)) sca_u32 rfl) rfl ?_); clear F a; intro a F
      refine l_guard F rfl rfl rfl (by have h := hl3.len; simp_all) (o_val F (r_eql_u32 F (y := 0) rfl rfl) rfl ?_); clear F a; intro a F
      refine l_step rfl (o_val F (r_pick_t F rfl (by have h := hl3.len; simp_all) rfl) rfl ?_); clear F a; intro a F
      refine l_step rfl (o_val F (r_move F rfl) rfl ?_); clear F a; intro a F
      refine l_guard F rfl rfl rfl rfl (o_val F (r_load M F rfl (by repeat (first | exact List.mem_cons_self | apply List.mem_cons_of_mem)) agg_Diff (seg_all rfl)) rfl ?_); clear F a; intro a F
      refine l_guard F rfl rfl rfl rfl (o_call M F rfl (c_merge_Bytes (d := ⟨0, 0, [], pmHead s⟩) M.imm hl3 hl4 (by simp) (by simp [pmHead])) rfl ?_); clear F a; intro a W69 v69 G69 hp69 M E69 F
      have hl1 := hl1.mono E69.gl
      have hl2 := hl2.mono E69.gl
      have hl3 := hl3.mono E69.gl
      have hl4 := hl4.mono E69.gl
      have hl5 := hl5.mono E69.gl
      have hl6 := hl6.mono E69.gl
      have hl7 := hl7.mono E69.gl
      subst hp69
      simp only [bytes_head] at F
      refine l_guard F rfl rfl rfl rfl (o_val F (r_eql_i64 F rfl rfl) rfl ?_); clear F a; intro a F
      refine l_step rfl (o_val F (r_pick_t F rfl rfl rfl) rfl ?_); clear F a; intro a F
      refine l_step rfl (o_val F (r_move F rfl) rfl ?_); clear F a; intro a F
      refine l_guard F rfl rfl rfl rfl (o_val F (r_fieldAddr F rfl fld_Diff_0) rfl ?_); clear F a; intro a F
      refine l_guard F rfl rfl rfl rfl (o_val F (r_load1 M F rfl (by repeat (first | exact List.mem_cons_self | apply List.mem_cons_of_mem)) sca_int rfl) rfl ?_); clear F a; intro a F
      refine l_guard F rfl rfl rfl rfl (o_val F (r_leq_i64 F rfl rfl) rfl ?_); clear F a; intro a F
      refine l_step rfl (o_val F (r_pick_t F rfl rfl rfl) rfl ?_); clear F a; intro a F
      refine l_step rfl (o_val F (r_move F rfl) rfl ?_); clear F a; intro a F
      refine l_guard F rfl rfl rfl (decide_eq_true hmk.1) (o_val F (r_fieldAddr F rfl fld_Diff_2) rfl ?_); clear F a; intro a F
      refine l_guard F rfl rfl rfl (decide_eq_true hmk.1) (o_val F (r_load1 M F rfl (by repeat (first | exact List.mem_cons_self | apply List.mem_cons_of_mem)) sca_Entries rfl) rfl ?_); clear F a; intro a F
      refine l_guard F rfl rfl rfl (decide_eq_true hmk.1) (o_val F (r_len_slice F slc_Entries.und rfl) rfl ?_); clear F a; intro a F
      refine l_guard F rfl rfl rfl (decide_eq_true hmk.1) (o_val F (r_eql_i64 F rfl rfl) rfl ?_); clear F a; intro a F
      refine l_step rfl (o_val F (r_pick_t F rfl (decide_eq_true hmk.1) rfl) rfl ?_); clear F a; intro a F
      refine l_step rfl (o_val F (r_move F rfl) rfl ?_); clear F a; intro a F
      refine l_guard F rfl rfl rfl (by have h := hl5.len; rw [hmk.2] at h; simp_all) (o_val F (r_move F rfl) rfl ?_); clear F a; intro a F
      refine l_guard F rfl rfl rfl (by have h := hl5.len; rw [hmk.2] at h; simp_all) (o_val F (r_eql_i64 F rfl rfl) rfl ?_); clear F a; intro a F
      refine l_step rfl (o_val F (r_pick_t F rfl (by have h := hl5.len; rw [hmk.2] at h; simp_all) rfl) rfl ?_); clear F a; intro a F
      refine l_step rfl (o_val F (r_move F rfl) rfl ?_); clear F a; intro a F
      refine l_guard F rfl rfl rfl rfl (o_val F (r_load M F rfl (by repeat (first | exact List.mem_cons_self | apply List.mem_cons_of_mem)) agg_State (seg_all rfl)) rfl ?_); clear F a; intro a F
      refine l_guard F rfl rfl rfl rfl (o_val F (r_load M F rfl (by repeat (first | exact List.mem_cons_self | apply List.mem_cons_of_mem)) agg_State (seg_all rfl)) rfl ?_); clear F a; intro a F
      refine l_guard F rfl rfl rfl rfl (o_call M F rfl (c_pglog_Same M.imm hl7 hl2) rfl ?_); clear F a; intro a W70 v70 G70 hp70 M E70 F
      have hl1 := hl1.mono E70.gl
      have hl2 := hl2.mono E70.gl
      have hl3 := hl3.mono E70.gl
      have hl4 := hl4.mono E70.gl
      have hl5 := hl5.mono E70.gl
      have hl6 := hl6.mono E70.gl
      have hl7 := hl7.mono E70.gl
      subst hp70
      refine l_step rfl (o_val F (r_pick_t F rfl rfl rfl) rfl ?_); clear F a; intro a F
      refine l_step rfl (o_val F (r_assign F rfl) rfl ?_); clear F a; intro a F
      refine l_nil ?_
      refine hK9 _ _ ?_
      refine wp_ret ?_
      exact ret1 Try.results16 M F (rv_tmp F rfl) (by simp)
end Go.Proofs.Ytfkmaepcjognkaa.Pad
