/- The walk of MergeOnly: it answers true. The rows are slices of operations, whatever they are. -/
import Derived.Test.YtfkmaepcjognkaaT8b
namespace Go.Proofs.Ytfkmaepcjognkaa.Pad
open Go Go.Proofs
set_option linter.unusedVariables false
set_option maxRecDepth 8000
set_option maxHeartbeats 400000
set_option linter.unusedSimpArgs false
theorem c_paddocklaw8_MergeOnly {w : World} {G0 : Ghost} (hI : Imm G0 w) {la lb : Sl} {xa xb : List POp} {f : UInt8} (ha : Opl G0 la xa) (hb : Opl G0 lb xb) : Ret P 10 [la.v, lb.v, .int .u8 (f.toNat : Int)] [] w G0 (fun G W v => v = .bool true) := by
  refine enter Try.func10 rfl Try.ntmps10 rfl rfl hI (fun a F M => ?_)
  have hla := ha.len
  have hlb := hb.len
  refine c_seq (fun K1 hK1 => ?_)
  refine wp_region_lit ?_
  refine l_step rfl (o_val F (r_assign F rfl) rfl ?_); clear F a; intro a F
  refine l_nil ?_
  refine hK1 _ _ ?_
  refine c_seq (fun K2 hK2 => ?_)
  refine c_seq (fun K3 hK3 => ?_)
  refine wp_region_lit ?_
  refine l_step rfl (o_call M F rfl (c_paddocklaw8_known M.imm) rfl ?_); clear F a; intro a W1 v1 G1 hp1 M E1 F
  subst hp1
  refine l_step rfl (o_val F (r_not F rfl) rfl ?_); clear F a; intro a F
  refine l_nil ?_
  refine hK3 _ _ ?_
  refine c_false F rfl rfl ?_
  refine wp_skip ?_
  refine hK2 _ _ ?_
  refine c_seq (fun K4 hK4 => ?_)
  refine c_seq (fun K5 hK5 => ?_)
  refine wp_region_lit ?_
  refine l_step rfl (o_val F (r_move F rfl) rfl ?_); clear F a; intro a F
  refine l_step rfl (o_val F (r_len_slice F slc_Ops.und rfl) rfl ?_); clear F a; intro a F
  refine l_step rfl (o_val F (r_gtr_i64 F rfl rfl) rfl ?_); clear F a; intro a F
  refine l_step rfl (o_val F (r_move F rfl) rfl ?_); clear F a; intro a F
  refine c_split F (i := 26) rfl (fun g26 => ?_) (fun g26 => ?_)
  · skip
    iterate 3 (refine l_skip F rfl rfl rfl g26 rfl rfl ?_; clear F a; intro a F)
    refine l_step rfl (o_val F (r_pick_t F rfl g26 rfl) rfl ?_); clear F a; intro a F
    refine l_nil ?_
    refine hK5 _ _ ?_
    refine c_true F rfl rfl ?_
    refine c_seq (fun K6 hK6 => ?_)
    refine wp_region_lit ?_
    refine l_step rfl (o_val F (r_assign F rfl) rfl ?_); clear F a; intro a F
    refine l_nil ?_
    refine hK6 _ _ ?_
    refine wp_ret ?_
    exact ret1 Try.results10 M F (rv_tmp F rfl) (rfl)
  · skip
    refine l_guard F rfl rfl rfl g26 (o_val F (r_move F rfl) rfl ?_); clear F a; intro a F
    refine l_guard F rfl rfl rfl g26 (o_val F (r_len_slice F slc_Ops.und rfl) rfl ?_); clear F a; intro a F
    refine l_guard F rfl rfl rfl g26 (o_val F (r_gtr_i64 F rfl rfl) rfl ?_); clear F a; intro a F
    refine l_step rfl (o_val F (r_pick_f F rfl g26 rfl) rfl ?_); clear F a; intro a F
    refine l_nil ?_
    refine hK5 _ _ ?_
    refine c_cond F rfl (fun g30 => ?_) (fun g30 => ?_)
    · skip
      refine c_seq (fun K7 hK7 => ?_)
      refine wp_region_lit ?_
      refine l_step rfl (o_val F (r_assign F rfl) rfl ?_); clear F a; intro a F
      refine l_nil ?_
      refine hK7 _ _ ?_
      refine wp_ret ?_
      exact ret1 Try.results10 M F (rv_tmp F rfl) (rfl)
    · skip
      refine wp_skip ?_
      refine hK4 _ _ ?_
      refine c_seq (fun K8 hK8 => ?_)
      refine wp_region_lit ?_
      refine l_step rfl (o_val F (r_move F rfl) rfl ?_); clear F a; intro a F
      refine l_step rfl (o_call M F rfl (c_paddocklaw8_state (lb := Sl.nil) (ys := []) (since := 0) (f := 0) (started := 1) M.imm (ha.mono M.gl) (Opl.nil _) (by have h := of_decide_eq_false g26; omega) (by decide)) rfl ?_); clear F a; intro a W2 v2 G2 hp2 M E2 F
      obtain ⟨l1, rfl, hl1⟩ := hp2
      have hok := st_ok xa [] 0 0 1
      generalize pSt xa [] 0 0 1 = s at F hl1 hok
      have hb6 : xb.length ≤ 6 := by have h := of_decide_eq_false g30; omega
      refine l_step rfl (o_alloc M F zer_State rfl ?_); clear F a; intro a W3 b1 M F
      refine l_step rfl (o_storeA M F rfl rfl agg_State.size (by repeat (first | exact Upd.here _ _ _ _ _ | apply Upd.there)) (by rfl) (by rfl) (by rfl) ?_); clear F a; intro a W4 M F
      refine l_nil ?_
      refine hK8 _ _ ?_
      refine c_seq (fun K9 hK9 => ?_)
      refine wp_region_lit ?_
      refine l_step rfl (o_val F (r_load M F rfl (by repeat (first | exact List.mem_cons_self | apply List.mem_cons_of_mem)) agg_State (seg_all rfl)) rfl ?_); clear F a; intro a F
      refine l_step rfl (o_alloc M F zer_State rfl ?_); clear F a; intro a W5 b2 M F
      refine l_step rfl (o_storeA M F rfl rfl agg_State.size (by repeat (first | exact Upd.here _ _ _ _ _ | apply Upd.there)) (by rfl) (by rfl) (by rfl) ?_); clear F a; intro a W6 M F
      refine l_nil ?_
      refine hK9 _ _ ?_
      refine c_seq (fun K10 hK10 => ?_)
      refine wp_region_lit ?_
      refine l_step rfl (o_val F (r_assign F rfl) rfl ?_); clear F a; intro a F
      refine l_nil ?_
      refine hK10 _ _ ?_
      refine c_seq (fun K11 hK11 => ?_)
      refine c_seq (fun K12 hK12 => ?_)
      refine wp_region_lit ?_
      refine l_step rfl (o_val F (r_assign F rfl) rfl ?_); clear F a; intro a F
      refine l_nil ?_
      refine hK12 _ _ ?_
      refine wp_block ?_
      refine c_loop (fun k a W => ∃ (i : Nat) (G : Ghost) (es : List PEntry) (l : Sl) (c : Int), k = xb.length - i ∧ i ≤ xb.length ∧ Frm 121 [(10, .int .i64 (i : Int)), (1, lb.v), (9, .int .i64 c), (8, .pointer (some ⟨b2, 0, none⟩)), (7, .pointer (some ⟨b1, 0, none⟩))] a ∧ St [] w G0 W [⟨b2, 42, ((grow s es).at l).enc⟩, ⟨b1, 42, (s.at l1).enc⟩] G ∧ (pChain s.tail (s.log ++ es) = true ∧ es.length ≤ i ∧ c = (es.length : Int) ∧ Ens G l1 s.log ∧ Ens G l (grow s es).log)) (xb.length) ?_ ?_
      · exact ⟨0, _, [], l1, 0, rfl, Nat.zero_le _, (F.cons (F.cons (F.cons (F.cons (F.cons F.nil 7 rfl) 8 rfl) 9 rfl) 1 rfl) 10 rfl), (by rw [grow_nil hok]; exact M), ⟨by rw [List.append_nil]; exact hok.ch, by simp, rfl, hl1, by rw [grow_nil hok]; exact hl1⟩⟩
      · clear F M a; intro k a W hI; obtain ⟨i, G, es, l, c, hk, hi, F, M, hf⟩ := hI
        obtain ⟨hch, hel, hcc, hl1, hl⟩ := hf
        refine c_seq (fun K13 hK13 => ?_)
        refine c_seq (fun K14 hK14 => ?_)
        refine wp_region_lit ?_
        refine l_step rfl (o_val F (r_move F rfl) rfl ?_); clear F a; intro a F
        refine l_step rfl (o_val F (r_move F rfl) rfl ?_); clear F a; intro a F
        refine l_step rfl (o_val F (r_len_slice F slc_Ops.und rfl) rfl ?_); clear F a; intro a F
        refine l_step rfl (o_val F (r_lss_i64 F rfl rfl) rfl ?_); clear F a; intro a F
        refine l_nil ?_
        refine hK14 _ _ ?_
        refine c_cond F rfl (fun g37 => ?_) (fun g37 => ?_)
        · skip
          have hlt : i < xb.length := by have h := of_decide_eq_true g37; omega
          obtain ⟨x, hx⟩ := get_of hlt
          refine wp_skip ?_
          refine hK13 _ _ ?_
          refine c_seq (fun K15 hK15 => ?_)
          refine wp_block ?_
          refine c_seq (fun K16 hK16 => ?_)
          refine wp_region_lit ?_
          refine l_step rfl (o_val F (r_load M F rfl (by repeat (first | exact List.mem_cons_self | apply List.mem_cons_of_mem)) agg_State (seg_all rfl)) rfl ?_); clear F a; intro a F
          refine l_step rfl (o_call M F rfl (c_pglog_Head M.imm hl) rfl ?_); clear F a; intro a W7 v7 G7 hp7 M E7 F
          have hl1 := hl1.mono E7.gl
          have hl := hl.mono E7.gl
          subst hp7
          refine l_step rfl (o_val F (r_move F rfl) rfl ?_); clear F a; intro a F
          refine l_step rfl (o_val F (r_extract F rfl rfl) rfl ?_); clear F a; intro a F
          refine l_step rfl (o_val F (r_extract F rfl rfl) rfl ?_); clear F a; intro a F
          refine l_step rfl (o_val F (r_assign F rfl) rfl ?_); clear F a; intro a F
          refine l_step rfl (o_val F (r_assign F rfl) rfl ?_); clear F a; intro a F
          refine l_nil ?_
          refine hK16 _ _ ?_
          refine c_seq (fun K17 hK17 => ?_)
          refine c_drawM M [] mixed (fun M => ?_)
          have Ms := M
          have hq1 := Keeps.here M
          have hle1 := M.gle
          refine t_take (i := 0) F rfl rfl hq1 (fun _ ⟨_, _, M'⟩ => r_load M' F rfl (by repeat (first | exact List.mem_cons_self | apply List.mem_cons_of_mem)) agg_State (seg_all rfl)) (fun _ _ _ h => h) (by kernel_rfl) (by kernel_rfl) (by kernel_rfl) (by kernel_rfl) ?_; clear F a; intro a F
          refine t_take (i := 1) F rfl rfl hq1 (fun _ _ => r_move F rfl) (fun _ _ _ h => h) (by kernel_rfl) (by kernel_rfl) (by kernel_rfl) (by kernel_rfl) ?_; clear F a; intro a F
          refine t_take (i := 2) F rfl rfl hq1 (fun _ _ => r_add_u32 F (y := 1) rfl rfl) (fun _ _ _ h => h) (by kernel_rfl) (by kernel_rfl) (by kernel_rfl) (by kernel_rfl) ?_; clear F a; intro a F
          refine t_take (i := 3) F rfl rfl hq1 (fun _ _ => r_move F rfl) (fun _ _ _ h => h) (by kernel_rfl) (by kernel_rfl) (by kernel_rfl) (by kernel_rfl) ?_; clear F a; intro a F
          refine t_take (i := 4) F rfl rfl hq1 (fun _ _ => r_move F rfl) (fun _ _ _ h => h) (by kernel_rfl) (by kernel_rfl) (by kernel_rfl) (by kernel_rfl) ?_; clear F a; intro a F
          obtain ⟨eb, eo, er, ha51, hG51, hS51⟩ := (hb.mono Ms.gl).elem hx
          refine t_take (i := 5) F rfl rfl hq1 (fun _ _ => r_indexSl F rfl rfl slc_Ops ha51 (by omega) (by omega)) (fun _ _ _ h => h) (by kernel_rfl) (by kernel_rfl) (by kernel_rfl) (by kernel_rfl) ?_; clear F a; intro a F
          refine t_take (i := 6) F rfl rfl hq1 (fun _ ⟨_, hg, M'⟩ => r_loadrG hg M' F rfl hG51 agg_Op hS51) (fun _ _ _ h => h) (by kernel_rfl) (by kernel_rfl) (by kernel_rfl) (by kernel_rfl) ?_; clear F a; intro a F
          refine t_take (i := 7) F rfl rfl hq1 (fun _ _ => r_build F rfl (b_Entry_0_1_2 30 _ _)) (fun _ _ _ h => h) (by kernel_rfl) (by kernel_rfl) (by kernel_rfl) (by kernel_rfl) ?_; clear F a; intro a F
          refine t_rdy2 (i := 8) (j := 12) (by kernel_rfl) (w_plain rfl rfl ?_) (w_plain rfl rfl ?_)
          · skip
            refine id (o_call M F rfl (c_pglog_Add M.imm hl) rfl ?_); clear F a; intro a W8 v8 G8 hp8 M E8 F
            have hl1 := hl1.mono E8.gl
            have hl := hl.mono E8.gl
            obtain ⟨l2, rfl, hl2⟩ := hp8
            have hle1 := hle1.trans E8.gl
            refine keepAnd (Keeps.mk hle1 M (by repeat (first | exact List.Sublist.refl _ | apply List.Sublist.cons_cons | apply List.Sublist.cons))) (fun hq1 => ?_)
            refine t_take (i := 9) F rfl rfl hq1 (fun _ _ => r_move F rfl) (fun _ _ _ h => h) (by kernel_rfl) (by kernel_rfl) (by kernel_rfl) (by kernel_rfl) ?_; clear F a; intro a F
            refine t_take (i := 10) F rfl rfl hq1 (fun _ _ => r_extract F rfl rfl) (fun _ _ _ h => h) (by kernel_rfl) (by kernel_rfl) (by kernel_rfl) (by kernel_rfl) ?_; clear F a; intro a F
            refine t_take (i := 11) F rfl rfl hq1 (fun _ _ => r_extract F rfl rfl) (fun _ _ _ h => h) (by kernel_rfl) (by kernel_rfl) (by kernel_rfl) (by kernel_rfl) ?_; clear F a; intro a F
            refine t_one (i := 12) (by kernel_rfl) rfl rfl (o_alloc M F zer_State rfl ?_); clear F a; intro a W9 b3 M F
            refine keepAnd (Keeps.mk hle1 M (by repeat (first | exact List.Sublist.refl _ | apply List.Sublist.cons_cons | apply List.Sublist.cons))) (fun hq1 => ?_)
            refine t_one (i := 13) (by kernel_rfl) rfl rfl (o_storeA M F rfl rfl agg_State.size (by repeat (first | exact Upd.here _ _ _ _ _ | apply Upd.there)) (by rfl) (by rfl) (by rfl) ?_); clear F a; intro a W10 M F
            refine keepAnd (Keeps.mk hle1 M (by repeat (first | exact List.Sublist.refl _ | apply List.Sublist.cons_cons | apply List.Sublist.cons))) (fun hq1 => ?_)
            refine t_take (i := 14) F rfl rfl hq1 (fun _ _ => r_assign F rfl) (fun _ _ _ h => h) (by kernel_rfl) (by kernel_rfl) (by kernel_rfl) (by kernel_rfl) ?_; clear F a; intro a F
            refine t_done (by kernel_rfl) ?_ _
            refine hK17 _ _ ?_
            refine c_seq (fun K18 hK18 => ?_)
            refine wp_region_lit ?_
            refine l_step rfl (o_val F (r_move F rfl) rfl ?_); clear F a; intro a F
            refine l_step rfl (o_val F (r_eql_i64 F rfl rfl) rfl ?_); clear F a; intro a F
            refine l_nil ?_
            refine hK18 _ _ ?_
            refine c_cond F rfl (fun g58 => ?_) (fun g58 => ?_)
            · skip
              refine c_seq (fun K19 hK19 => ?_)
              refine wp_region_lit ?_
              refine l_step rfl (o_val F (r_load M F rfl (by repeat (first | exact List.mem_cons_self | apply List.mem_cons_of_mem)) agg_State (seg_all rfl)) rfl ?_); clear F a; intro a F
              refine l_step rfl (o_storeA M F rfl rfl agg_State.size (by repeat (first | exact Upd.here _ _ _ _ _ | apply Upd.there)) (by rfl) (by rfl) (by rfl) ?_); clear F a; intro a W11 M F
              refine l_nil ?_
              refine hK19 _ _ ?_
              refine wp_region_lit ?_
              refine l_step rfl (o_val F (r_move F rfl) rfl ?_); clear F a; intro a F
              refine l_step rfl (o_val F (r_add_i64 F rfl rfl (by omega)) rfl ?_); clear F a; intro a F
              refine l_step rfl (o_val F (r_assign F rfl) rfl ?_); clear F a; intro a F
              refine l_nil ?_
              refine hK15 _ _ ?_
              refine wp_region_lit ?_
              refine l_step rfl (o_val F (r_move F rfl) rfl ?_); clear F a; intro a F
              refine l_step rfl (o_val F (r_add_i64 F rfl rfl (by omega)) rfl ?_); clear F a; intro a F
              refine l_step rfl (o_val F (r_assign F rfl) rfl ?_); clear F a; intro a F
              refine l_nil ?_
              obtain ⟨hg1, hg2⟩ := grow_snoc hok hch (of_decide_eq_true g58)
              rw [hg1] at hl2 M
              exact ⟨xb.length - (i + 1), by omega, i + 1, _, _, l2, _, rfl, by omega, (F.cons (F.cons (F.cons (F.cons (F.cons F.nil 7 rfl) 8 rfl) 9 rfl) 1 rfl) 10 rfl), M.drop (by repeat (first | exact List.Sublist.refl _ | apply List.Sublist.cons_cons | apply List.Sublist.cons)), ⟨hg2, by simp; omega, by rw [hcc]; simp, hl1, hl2⟩⟩
            · skip
              refine wp_skip ?_
              refine hK15 _ _ ?_
              refine wp_region_lit ?_
              refine l_step rfl (o_val F (r_move F rfl) rfl ?_); clear F a; intro a F
              refine l_step rfl (o_val F (r_add_i64 F rfl rfl (by omega)) rfl ?_); clear F a; intro a F
              refine l_step rfl (o_val F (r_assign F rfl) rfl ?_); clear F a; intro a F
              refine l_nil ?_
              exact ⟨xb.length - (i + 1), by omega, i + 1, _, es, l, c, rfl, by omega, (F.cons (F.cons (F.cons (F.cons (F.cons F.nil 7 rfl) 8 rfl) 9 rfl) 1 rfl) 10 rfl), M.drop (by repeat (first | exact List.Sublist.refl _ | apply List.Sublist.cons_cons | apply List.Sublist.cons)), ⟨hch, by omega, hcc, hl1, hl⟩⟩
          · skip
            refine id (o_alloc M F zer_State rfl ?_); clear F a; intro a W12 b4 M F
            refine keepAnd (Keeps.mk hle1 M (by repeat (first | exact List.Sublist.refl _ | apply List.Sublist.cons_cons | apply List.Sublist.cons))) (fun hq1 => ?_)
            refine t_one (i := 8) (by kernel_rfl) rfl rfl (o_call M F rfl (c_pglog_Add M.imm hl) rfl ?_); clear F a; intro a W13 v13 G13 hp13 M E13 F
            have hl1 := hl1.mono E13.gl
            have hl := hl.mono E13.gl
            obtain ⟨l2, rfl, hl2⟩ := hp13
            have hle1 := hle1.trans E13.gl
            refine keepAnd (Keeps.mk hle1 M (by repeat (first | exact List.Sublist.refl _ | apply List.Sublist.cons_cons | apply List.Sublist.cons))) (fun hq1 => ?_)
            refine t_take (i := 9) F rfl rfl hq1 (fun _ _ => r_move F rfl) (fun _ _ _ h => h) (by kernel_rfl) (by kernel_rfl) (by kernel_rfl) (by kernel_rfl) ?_; clear F a; intro a F
            refine t_take (i := 10) F rfl rfl hq1 (fun _ _ => r_extract F rfl rfl) (fun _ _ _ h => h) (by kernel_rfl) (by kernel_rfl) (by kernel_rfl) (by kernel_rfl) ?_; clear F a; intro a F
            refine t_take (i := 11) F rfl rfl hq1 (fun _ _ => r_extract F rfl rfl) (fun _ _ _ h => h) (by kernel_rfl) (by kernel_rfl) (by kernel_rfl) (by kernel_rfl) ?_; clear F a; intro a F
            refine t_one (i := 13) (by kernel_rfl) rfl rfl (o_storeA M F rfl rfl agg_State.size (by repeat (first | exact Upd.here _ _ _ _ _ | apply Upd.there)) (by rfl) (by rfl) (by rfl) ?_); clear F a; intro a W14 M F
            refine keepAnd (Keeps.mk hle1 M (by repeat (first | exact List.Sublist.refl _ | apply List.Sublist.cons_cons | apply List.Sublist.cons))) (fun hq1 => ?_)
            refine t_take (i := 14) F rfl rfl hq1 (fun _ _ => r_assign F rfl) (fun _ _ _ h => h) (by kernel_rfl) (by kernel_rfl) (by kernel_rfl) (by kernel_rfl) ?_; clear F a; intro a F
            refine t_done (by kernel_rfl) ?_ _
            refine hK17 _ _ ?_
            refine c_seq (fun K20 hK20 => ?_)
            refine wp_region_lit ?_
            refine l_step rfl (o_val F (r_move F rfl) rfl ?_); clear F a; intro a F
            refine l_step rfl (o_val F (r_eql_i64 F rfl rfl) rfl ?_); clear F a; intro a F
            refine l_nil ?_
            refine hK20 _ _ ?_
            refine c_cond F rfl (fun g58 => ?_) (fun g58 => ?_)
            · skip
              refine c_seq (fun K21 hK21 => ?_)
              refine wp_region_lit ?_
              refine l_step rfl (o_val F (r_load M F rfl (by repeat (first | exact List.mem_cons_self | apply List.mem_cons_of_mem)) agg_State (seg_all rfl)) rfl ?_); clear F a; intro a F
              refine l_step rfl (o_storeA M F rfl rfl agg_State.size (by repeat (first | exact Upd.here _ _ _ _ _ | apply Upd.there)) (by rfl) (by rfl) (by rfl) ?_); clear F a; intro a W15 M F
              refine l_nil ?_
              refine hK21 _ _ ?_
              refine wp_region_lit ?_
              refine l_step rfl (o_val F (r_move F rfl) rfl ?_); clear F a; intro a F
              refine l_step rfl (o_val F (r_add_i64 F rfl rfl (by omega)) rfl ?_); clear F a; intro a F
              refine l_step rfl (o_val F (r_assign F rfl) rfl ?_); clear F a; intro a F
              refine l_nil ?_
              refine hK15 _ _ ?_
              refine wp_region_lit ?_
              refine l_step rfl (o_val F (r_move F rfl) rfl ?_); clear F a; intro a F
              refine l_step rfl (o_val F (r_add_i64 F rfl rfl (by omega)) rfl ?_); clear F a; intro a F
              refine l_step rfl (o_val F (r_assign F rfl) rfl ?_); clear F a; intro a F
              refine l_nil ?_
              obtain ⟨hg1, hg2⟩ := grow_snoc hok hch (of_decide_eq_true g58)
              rw [hg1] at hl2 M
              exact ⟨xb.length - (i + 1), by omega, i + 1, _, _, l2, _, rfl, by omega, (F.cons (F.cons (F.cons (F.cons (F.cons F.nil 7 rfl) 8 rfl) 9 rfl) 1 rfl) 10 rfl), M.drop (by repeat (first | exact List.Sublist.refl _ | apply List.Sublist.cons_cons | apply List.Sublist.cons)), ⟨hg2, by simp; omega, by rw [hcc]; simp, hl1, hl2⟩⟩
            · skip
              refine wp_skip ?_
              refine hK15 _ _ ?_
              refine wp_region_lit ?_
              refine l_step rfl (o_val F (r_move F rfl) rfl ?_); clear F a; intro a F
              refine l_step rfl (o_val F (r_add_i64 F rfl rfl (by omega)) rfl ?_); clear F a; intro a F
              refine l_step rfl (o_val F (r_assign F rfl) rfl ?_); clear F a; intro a F
              refine l_nil ?_
              exact ⟨xb.length - (i + 1), by omega, i + 1, _, es, l, c, rfl, by omega, (F.cons (F.cons (F.cons (F.cons (F.cons F.nil 7 rfl) 8 rfl) 9 rfl) 1 rfl) 10 rfl), M.drop (by repeat (first | exact List.Sublist.refl _ | apply List.Sublist.cons_cons | apply List.Sublist.cons)), ⟨hch, by omega, hcc, hl1, hl⟩⟩
        · skip
          have hge : i = xb.length := by have h := of_decide_eq_false g37; omega
          have hot := ok_grow hok hch
          have a1 := apply_make hok hot
          have a2 := apply_twice hok hch (by omega)
          have he := ext_grow hok hch (by omega)
          have hk := only_kind hok hch (by omega)
          refine wp_exit ?_
          refine hK11 _ _ ?_
          refine c_seq (fun K22 hK22 => ?_)
          refine wp_region_lit ?_
          refine l_step rfl (o_val F (r_load M F rfl (by repeat (first | exact List.mem_cons_self | apply List.mem_cons_of_mem)) agg_State (seg_all rfl)) rfl ?_); clear F a; intro a F
          refine l_step rfl (o_val F (r_load M F rfl (by repeat (first | exact List.mem_cons_self | apply List.mem_cons_of_mem)) agg_State (seg_all rfl)) rfl ?_); clear F a; intro a F
          refine l_step rfl (o_call M F rfl (c_merge_Make M.imm hl1 hl) rfl ?_); clear F a; intro a W16 v16 G16 hp16 M E16 F
          have hl1 := hl1.mono E16.gl
          have hl := hl.mono E16.gl
          obtain ⟨l3, l4, rfl, hl3, hl4⟩ := hp16
          refine l_step rfl (o_alloc M F zer_Diff rfl ?_); clear F a; intro a W17 b5 M F
          refine l_step rfl (o_storeA M F rfl rfl agg_Diff.size (by repeat (first | exact Upd.here _ _ _ _ _ | apply Upd.there)) (by rfl) (by rfl) (by rfl) ?_); clear F a; intro a W18 M F
          refine l_nil ?_
          refine hK22 _ _ ?_
          refine c_seq (fun K23 hK23 => ?_)
          refine wp_region_lit ?_
          refine l_step rfl (o_val F (r_load M F rfl (by repeat (first | exact List.mem_cons_self | apply List.mem_cons_of_mem)) agg_State (seg_all rfl)) rfl ?_); clear F a; intro a F
          refine l_step rfl (o_val F (r_load M F rfl (by repeat (first | exact List.mem_cons_self | apply List.mem_cons_of_mem)) agg_Diff (seg_all rfl)) rfl ?_); clear F a; intro a F
          refine l_step rfl (o_call M F rfl (c_merge_Apply M.imm hl1 hl3 hl4) rfl ?_); clear F a; intro a W19 v19 G19 hp19 M E19 F
          have hl1 := hl1.mono E19.gl
          have hl := hl.mono E19.gl
          have hl3 := hl3.mono E19.gl
          have hl4 := hl4.mono E19.gl
          obtain ⟨l5, rfl, hl5⟩ := hp19
          simp only [a1] at F hl5
          refine l_step rfl (o_val F (r_move F rfl) rfl ?_); clear F a; intro a F
          refine l_step rfl (o_val F (r_extract F rfl rfl) rfl ?_); clear F a; intro a F
          refine l_step rfl (o_val F (r_extract F rfl rfl) rfl ?_); clear F a; intro a F
          refine l_step rfl (o_alloc M F zer_State rfl ?_); clear F a; intro a W20 b6 M F
          refine l_step rfl (o_storeA M F rfl rfl agg_State.size (by repeat (first | exact Upd.here _ _ _ _ _ | apply Upd.there)) (by rfl) (by rfl) (by rfl) ?_); clear F a; intro a W21 M F
          refine l_step rfl (o_val F (r_assign F rfl) rfl ?_); clear F a; intro a F
          refine l_nil ?_
          refine hK23 _ _ ?_
          refine c_seq (fun K24 hK24 => ?_)
          refine wp_region_lit ?_
          refine l_step rfl (o_val F (r_load M F rfl (by repeat (first | exact List.mem_cons_self | apply List.mem_cons_of_mem)) agg_State (seg_all rfl)) rfl ?_); clear F a; intro a F
          refine l_step rfl (o_val F (r_load M F rfl (by repeat (first | exact List.mem_cons_self | apply List.mem_cons_of_mem)) agg_Diff (seg_all rfl)) rfl ?_); clear F a; intro a F
          refine l_step rfl (o_call M F rfl (c_merge_Apply M.imm hl5 hl3 hl4) rfl ?_); clear F a; intro a W22 v22 G22 hp22 M E22 F
          have hl1 := hl1.mono E22.gl
          have hl := hl.mono E22.gl
          have hl3 := hl3.mono E22.gl
          have hl4 := hl4.mono E22.gl
          have hl5 := hl5.mono E22.gl
          obtain ⟨l6, rfl, hl6⟩ := hp22
          simp only [a2] at F hl6
          refine l_step rfl (o_val F (r_move F rfl) rfl ?_); clear F a; intro a F
          refine l_step rfl (o_val F (r_extract F rfl rfl) rfl ?_); clear F a; intro a F
          refine l_step rfl (o_val F (r_extract F rfl rfl) rfl ?_); clear F a; intro a F
          refine l_step rfl (o_alloc M F zer_State rfl ?_); clear F a; intro a W23 b7 M F
          refine l_step rfl (o_storeA M F rfl rfl agg_State.size (by repeat (first | exact Upd.here _ _ _ _ _ | apply Upd.there)) (by rfl) (by rfl) (by rfl) ?_); clear F a; intro a W24 M F
          refine l_step rfl (o_val F (r_assign F rfl) rfl ?_); clear F a; intro a F
          refine l_nil ?_
          refine hK24 _ _ ?_
          refine c_seq (fun K25 hK25 => ?_)
          refine wp_region_lit ?_
          refine l_step rfl (o_val F (r_assign F rfl) rfl ?_); clear F a; intro a F
          refine l_nil ?_
          refine hK25 _ _ ?_
          refine c_seq (fun K26 hK26 => ?_)
          refine c_seq (fun K27 hK27 => ?_)
          refine wp_region_lit ?_
          refine l_step rfl (o_val F (r_move F rfl) rfl ?_); clear F a; intro a F
          refine l_step rfl (o_val F (r_eql_i64 F rfl rfl) rfl ?_); clear F a; intro a F
          refine l_nil ?_
          refine hK27 _ _ ?_
          refine c_cond F rfl (fun g78 => ?_) (fun g78 => ?_)
          · skip
            refine wp_region_lit ?_
            refine l_step rfl (o_val F (r_assign F rfl) rfl ?_); clear F a; intro a F
            refine l_nil ?_
            refine hK26 _ _ ?_
            refine c_seq (fun K28 hK28 => ?_)
            refine wp_region_lit ?_
            refine l_step rfl (o_val F (r_fieldAddr F rfl fld_Diff_0) rfl ?_); clear F a; intro a F
            refine l_step rfl (o_val F (r_load1 M F rfl (by repeat (first | exact List.mem_cons_self | apply List.mem_cons_of_mem)) sca_int rfl) rfl ?_); clear F a; intro a F
            refine l_step rfl (o_val F (r_move F rfl) rfl ?_); clear F a; intro a F
            refine l_step rfl (o_val F (r_eql_i64 F rfl rfl) rfl ?_); clear F a; intro a F
            refine l_step rfl (o_val F (r_move F rfl) rfl ?_); clear F a; intro a F
            refine l_guard F rfl rfl rfl (decide_eq_true (hk.1.trans (by first | exact if_pos (by have h := of_decide_eq_true g78; omega) | exact if_neg (by have h := of_decide_eq_false g78; omega)))) (o_val F (r_fieldAddr F rfl fld_Diff_2) rfl ?_); clear F a; intro a F
            refine l_guard F rfl rfl rfl (decide_eq_true (hk.1.trans (by first | exact if_pos (by have h := of_decide_eq_true g78; omega) | exact if_neg (by have h := of_decide_eq_false g78; omega)))) (o_val F (r_load1 M F rfl (by repeat (first | exact List.mem_cons_self | apply List.mem_cons_of_mem)) sca_Entries rfl) rfl ?_); clear F a; intro a F
            refine l_guard F rfl rfl rfl (decide_eq_true (hk.1.trans (by first | exact if_pos (by have h := of_decide_eq_true g78; omega) | exact if_neg (by have h := of_decide_eq_false g78; omega)))) (o_val F (r_len_slice F slc_Entries.und rfl) rfl ?_); clear F a; intro a F
            refine l_guard F rfl rfl rfl (decide_eq_true (hk.1.trans (by first | exact if_pos (by have h := of_decide_eq_true g78; omega) | exact if_neg (by have h := of_decide_eq_false g78; omega)))) (o_val F (r_move F rfl) rfl ?_); clear F a; intro a F
            refine l_guard F rfl rfl rfl (decide_eq_true (hk.1.trans (by first | exact if_pos (by have h := of_decide_eq_true g78; omega) | exact if_neg (by have h := of_decide_eq_false g78; omega)))) (o_val F (r_eql_i64 F rfl rfl) rfl ?_); clear F a; intro a F
            refine l_step rfl (o_val F (r_pick_t F rfl (decide_eq_true (hk.1.trans (by first | exact if_pos (by have h := of_decide_eq_true g78; omega) | exact if_neg (by have h := of_decide_eq_false g78; omega)))) rfl) rfl ?_); clear F a; intro a F
            refine l_step rfl (o_val F (r_move F rfl) rfl ?_); clear F a; intro a F
            refine l_guard F rfl rfl rfl (decide_eq_true ((congrArg (fun n : Nat => (n : Int)) (hl3.len.trans hk.2)).trans hcc.symm)) (o_val F (r_move F rfl) rfl ?_); clear F a; intro a F
            refine l_guard F rfl rfl rfl (decide_eq_true ((congrArg (fun n : Nat => (n : Int)) (hl3.len.trans hk.2)).trans hcc.symm)) (o_val F (r_eql_i64 F rfl rfl) rfl ?_); clear F a; intro a F
            refine l_step rfl (o_val F (r_pick_t F rfl (decide_eq_true ((congrArg (fun n : Nat => (n : Int)) (hl3.len.trans hk.2)).trans hcc.symm)) rfl) rfl ?_); clear F a; intro a F
            refine l_step rfl (o_val F (r_move F rfl) rfl ?_); clear F a; intro a F
            refine l_guard F rfl rfl rfl rfl (o_val F (r_move F rfl) rfl ?_); clear F a; intro a F
            refine l_guard F rfl rfl rfl rfl (o_val F (r_eql_i64 F rfl rfl) rfl ?_); clear F a; intro a F
            refine l_step rfl (o_val F (r_pick_t F rfl rfl rfl) rfl ?_); clear F a; intro a F
            refine l_step rfl (o_val F (r_move F rfl) rfl ?_); clear F a; intro a F
            refine l_guard F rfl rfl rfl rfl (o_val F (r_load M F rfl (by repeat (first | exact List.mem_cons_self | apply List.mem_cons_of_mem)) agg_State (seg_all rfl)) rfl ?_); clear F a; intro a F
            refine l_guard F rfl rfl rfl rfl (o_val F (r_load M F rfl (by repeat (first | exact List.mem_cons_self | apply List.mem_cons_of_mem)) agg_State (seg_all rfl)) rfl ?_); clear F a; intro a F
            refine l_guard F rfl rfl rfl rfl (o_call M F rfl (c_pglog_Same M.imm hl5 hl) rfl ?_); clear F a; intro a W25 v25 G25 hp25 M E25 F
            have hl1 := hl1.mono E25.gl
            have hl := hl.mono E25.gl
            have hl3 := hl3.mono E25.gl
            have hl4 := hl4.mono E25.gl
            have hl5 := hl5.mono E25.gl
            have hl6 := hl6.mono E25.gl
            subst hp25
            refine l_step rfl (o_val F (r_pick_t F rfl rfl rfl) rfl ?_); clear F a; intro a F
            refine l_step rfl (o_val F (r_move F rfl) rfl ?_); clear F a; intro a F
            refine l_guard F rfl rfl rfl (decide_eq_true rfl) (o_val F (r_load M F rfl (by repeat (first | exact List.mem_cons_self | apply List.mem_cons_of_mem)) agg_State (seg_all rfl)) rfl ?_); clear F a; intro a F
            refine l_guard F rfl rfl rfl (decide_eq_true rfl) (o_val F (r_load M F rfl (by repeat (first | exact List.mem_cons_self | apply List.mem_cons_of_mem)) agg_State (seg_all rfl)) rfl ?_); clear F a; intro a F
            refine l_guard F rfl rfl rfl (decide_eq_true rfl) (o_call M F rfl (c_pglog_Same M.imm hl6 hl) rfl ?_); clear F a; intro a W26 v26 G26 hp26 M E26 F
            have hl1 := hl1.mono E26.gl
            have hl := hl.mono E26.gl
            have hl3 := hl3.mono E26.gl
            have hl4 := hl4.mono E26.gl
            have hl5 := hl5.mono E26.gl
            have hl6 := hl6.mono E26.gl
            subst hp26
            refine l_step rfl (o_val F (r_pick_t F rfl (decide_eq_true rfl) rfl) rfl ?_); clear F a; intro a F
            refine l_step rfl (o_val F (r_move F rfl) rfl ?_); clear F a; intro a F
            refine l_guard F rfl rfl rfl (decide_eq_true rfl) (o_val F (r_load M F rfl (by repeat (first | exact List.mem_cons_self | apply List.mem_cons_of_mem)) agg_State (seg_all rfl)) rfl ?_); clear F a; intro a F
            refine l_guard F rfl rfl rfl (decide_eq_true rfl) (o_val F (r_load M F rfl (by repeat (first | exact List.mem_cons_self | apply List.mem_cons_of_mem)) agg_State (seg_all rfl)) rfl ?_); clear F a; intro a F
            refine l_guard F rfl rfl rfl (decide_eq_true rfl) (o_call M F rfl (c_merge_Extends M.imm hl1 hl) rfl ?_); clear F a; intro a W27 v27 G27 hp27 M E27 F
            have hl1 := hl1.mono E27.gl
            have hl := hl.mono E27.gl
            have hl3 := hl3.mono E27.gl
            have hl4 := hl4.mono E27.gl
            have hl5 := hl5.mono E27.gl
            have hl6 := hl6.mono E27.gl
            subst hp27
            refine l_step rfl (o_val F (r_pick_t F rfl (decide_eq_true rfl) rfl) rfl ?_); clear F a; intro a F
            refine l_step rfl (o_val F (r_move F rfl) rfl ?_); clear F a; intro a F
            refine l_guard F rfl rfl rfl he.1 (o_val F (r_load M F rfl (by repeat (first | exact List.mem_cons_self | apply List.mem_cons_of_mem)) agg_State (seg_all rfl)) rfl ?_); clear F a; intro a F
            refine l_guard F rfl rfl rfl he.1 (o_val F (r_load M F rfl (by repeat (first | exact List.mem_cons_self | apply List.mem_cons_of_mem)) agg_State (seg_all rfl)) rfl ?_); clear F a; intro a F
            refine l_guard F rfl rfl rfl he.1 (o_call M F rfl (c_merge_Extends M.imm hl hl1) rfl ?_); clear F a; intro a W28 v28 G28 hp28 M E28 F
            have hl1 := hl1.mono E28.gl
            have hl := hl.mono E28.gl
            have hl3 := hl3.mono E28.gl
            have hl4 := hl4.mono E28.gl
            have hl5 := hl5.mono E28.gl
            have hl6 := hl6.mono E28.gl
            subst hp28
            refine l_guard F rfl rfl rfl he.1 (o_val F (r_move F rfl) rfl ?_); clear F a; intro a F
            refine l_guard F rfl rfl rfl he.1 (o_val F (r_eql_i64 F rfl rfl) rfl ?_); clear F a; intro a F
            refine l_guard F rfl rfl rfl he.1 (o_val F (r_eql_bool F und_bool rfl rfl) rfl ?_); clear F a; intro a F
            refine l_step rfl (o_val F (r_pick_t F rfl he.1 rfl) rfl ?_); clear F a; intro a F
            refine l_step rfl (o_val F (r_assign F rfl) rfl ?_); clear F a; intro a F
            refine l_nil ?_
            refine hK28 _ _ ?_
            refine wp_ret ?_
            exact ret1 Try.results10 M F (rv_tmp F rfl) (by rw [he.2, hcc]; simp)
          · skip
            refine wp_skip ?_
            refine hK26 _ _ ?_
            refine c_seq (fun K29 hK29 => ?_)
            refine wp_region_lit ?_
            refine l_step rfl (o_val F (r_fieldAddr F rfl fld_Diff_0) rfl ?_); clear F a; intro a F
            refine l_step rfl (o_val F (r_load1 M F rfl (by repeat (first | exact List.mem_cons_self | apply List.mem_cons_of_mem)) sca_int rfl) rfl ?_); clear F a; intro a F
            refine l_step rfl (o_val F (r_move F rfl) rfl ?_); clear F a; intro a F
            refine l_step rfl (o_val F (r_eql_i64 F rfl rfl) rfl ?_); clear F a; intro a F
            refine l_step rfl (o_val F (r_move F rfl) rfl ?_); clear F a; intro a F
            refine l_guard F rfl rfl rfl (decide_eq_true (hk.1.trans (by first | exact if_pos (by have h := of_decide_eq_true g78; omega) | exact if_neg (by have h := of_decide_eq_false g78; omega)))) (o_val F (r_fieldAddr F rfl fld_Diff_2) rfl ?_); clear F a; intro a F
            refine l_guard F rfl rfl rfl (decide_eq_true (hk.1.trans (by first | exact if_pos (by have h := of_decide_eq_true g78; omega) | exact if_neg (by have h := of_decide_eq_false g78; omega)))) (o_val F (r_load1 M F rfl (by repeat (first | exact List.mem_cons_self | apply List.mem_cons_of_mem)) sca_Entries rfl) rfl ?_); clear F a; intro a F
            refine l_guard F rfl rfl rfl (decide_eq_true (hk.1.trans (by first | exact if_pos (by have h := of_decide_eq_true g78; omega) | exact if_neg (by have h := of_decide_eq_false g78; omega)))) (o_val F (r_len_slice F slc_Entries.und rfl) rfl ?_); clear F a; intro a F
            refine l_guard F rfl rfl rfl (decide_eq_true (hk.1.trans (by first | exact if_pos (by have h := of_decide_eq_true g78; omega) | exact if_neg (by have h := of_decide_eq_false g78; omega)))) (o_val F (r_move F rfl) rfl ?_); clear F a; intro a F
            refine l_guard F rfl rfl rfl (decide_eq_true (hk.1.trans (by first | exact if_pos (by have h := of_decide_eq_true g78; omega) | exact if_neg (by have h := of_decide_eq_false g78; omega)))) (o_val F (r_eql_i64 F rfl rfl) rfl ?_); clear F a; intro a F
            refine l_step rfl (o_val F (r_pick_t F rfl (decide_eq_true (hk.1.trans (by first | exact if_pos (by have h := of_decide_eq_true g78; omega) | exact if_neg (by have h := of_decide_eq_false g78; omega)))) rfl) rfl ?_); clear F a; intro a F
            refine l_step rfl (o_val F (r_move F rfl) rfl ?_); clear F a; intro a F
            refine l_guard F rfl rfl rfl (decide_eq_true ((congrArg (fun n : Nat => (n : Int)) (hl3.len.trans hk.2)).trans hcc.symm)) (o_val F (r_move F rfl) rfl ?_); clear F a; intro a F
            refine l_guard F rfl rfl rfl (decide_eq_true ((congrArg (fun n : Nat => (n : Int)) (hl3.len.trans hk.2)).trans hcc.symm)) (o_val F (r_eql_i64 F rfl rfl) rfl ?_); clear F a; intro a F
            refine l_step rfl (o_val F (r_pick_t F rfl (decide_eq_true ((congrArg (fun n : Nat => (n : Int)) (hl3.len.trans hk.2)).trans hcc.symm)) rfl) rfl ?_); clear F a; intro a F
            refine l_step rfl (o_val F (r_move F rfl) rfl ?_); clear F a; intro a F
            refine l_guard F rfl rfl rfl rfl (o_val F (r_move F rfl) rfl ?_); clear F a; intro a F
            refine l_guard F rfl rfl rfl rfl (o_val F (r_eql_i64 F rfl rfl) rfl ?_); clear F a; intro a F
            refine l_step rfl (o_val F (r_pick_t F rfl rfl rfl) rfl ?_); clear F a; intro a F
            refine l_step rfl (o_val F (r_move F rfl) rfl ?_); clear F a; intro a F
            refine l_guard F rfl rfl rfl rfl (o_val F (r_load M F rfl (by repeat (first | exact List.mem_cons_self | apply List.mem_cons_of_mem)) agg_State (seg_all rfl)) rfl ?_); clear F a; intro a F
            refine l_guard F rfl rfl rfl rfl (o_val F (r_load M F rfl (by repeat (first | exact List.mem_cons_self | apply List.mem_cons_of_mem)) agg_State (seg_all rfl)) rfl ?_); clear F a; intro a F
            refine l_guard F rfl rfl rfl rfl (o_call M F rfl (c_pglog_Same M.imm hl5 hl) rfl ?_); clear F a; intro a W29 v29 G29 hp29 M E29 F
            have hl1 := hl1.mono E29.gl
            have hl := hl.mono E29.gl
            have hl3 := hl3.mono E29.gl
            have hl4 := hl4.mono E29.gl
            have hl5 := hl5.mono E29.gl
            have hl6 := hl6.mono E29.gl
            subst hp29
            refine l_step rfl (o_val F (r_pick_t F rfl rfl rfl) rfl ?_); clear F a; intro a F
            refine l_step rfl (o_val F (r_move F rfl) rfl ?_); clear F a; intro a F
            refine l_guard F rfl rfl rfl (decide_eq_true rfl) (o_val F (r_load M F rfl (by repeat (first | exact List.mem_cons_self | apply List.mem_cons_of_mem)) agg_State (seg_all rfl)) rfl ?_); clear F a; intro a F
            refine l_guard F rfl rfl rfl (decide_eq_true rfl) (o_val F (r_load M F rfl (by repeat (first | exact List.mem_cons_self | apply List.mem_cons_of_mem)) agg_State (seg_all rfl)) rfl ?_); clear F a; intro a F
            refine l_guard F rfl rfl rfl (decide_eq_true rfl) (o_call M F rfl (c_pglog_Same M.imm hl6 hl) rfl ?_); clear F a; intro a W30 v30 G30 hp30 M E30 F
            have hl1 := hl1.mono E30.gl
            have hl := hl.mono E30.gl
            have hl3 := hl3.mono E30.gl
            have hl4 := hl4.mono E30.gl
            have hl5 := hl5.mono E30.gl
            have hl6 := hl6.mono E30.gl
            subst hp30
            refine l_step rfl (o_val F (r_pick_t F rfl (decide_eq_true rfl) rfl) rfl ?_); clear F a; intro a F
            refine l_step rfl (o_val F (r_move F rfl) rfl ?_); clear F a; intro a F
            refine l_guard F rfl rfl rfl (decide_eq_true rfl) (o_val F (r_load M F rfl (by repeat (first | exact List.mem_cons_self | apply List.mem_cons_of_mem)) agg_State (seg_all rfl)) rfl ?_); clear F a; intro a F
            refine l_guard F rfl rfl rfl (decide_eq_true rfl) (o_val F (r_load M F rfl (by repeat (first | exact List.mem_cons_self | apply List.mem_cons_of_mem)) agg_State (seg_all rfl)) rfl ?_); clear F a; intro a F
            refine l_guard F rfl rfl rfl (decide_eq_true rfl) (o_call M F rfl (c_merge_Extends M.imm hl1 hl) rfl ?_); clear F a; intro a W31 v31 G31 hp31 M E31 F
            have hl1 := hl1.mono E31.gl
            have hl := hl.mono E31.gl
            have hl3 := hl3.mono E31.gl
            have hl4 := hl4.mono E31.gl
            have hl5 := hl5.mono E31.gl
            have hl6 := hl6.mono E31.gl
            subst hp31
            refine l_step rfl (o_val F (r_pick_t F rfl (decide_eq_true rfl) rfl) rfl ?_); clear F a; intro a F
            refine l_step rfl (o_val F (r_move F rfl) rfl ?_); clear F a; intro a F
            refine l_guard F rfl rfl rfl he.1 (o_val F (r_load M F rfl (by repeat (first | exact List.mem_cons_self | apply List.mem_cons_of_mem)) agg_State (seg_all rfl)) rfl ?_); clear F a; intro a F
            refine l_guard F rfl rfl rfl he.1 (o_val F (r_load M F rfl (by repeat (first | exact List.mem_cons_self | apply List.mem_cons_of_mem)) agg_State (seg_all rfl)) rfl ?_); clear F a; intro a F
            refine l_guard F rfl rfl rfl he.1 (o_call M F rfl (c_merge_Extends M.imm hl hl1) rfl ?_); clear F a; intro a W32 v32 G32 hp32 M E32 F
            have hl1 := hl1.mono E32.gl
            have hl := hl.mono E32.gl
            have hl3 := hl3.mono E32.gl
            have hl4 := hl4.mono E32.gl
            have hl5 := hl5.mono E32.gl
            have hl6 := hl6.mono E32.gl
            subst hp32
            refine l_guard F rfl rfl rfl he.1 (o_val F (r_move F rfl) rfl ?_); clear F a; intro a F
            refine l_guard F rfl rfl rfl he.1 (o_val F (r_eql_i64 F rfl rfl) rfl ?_); clear F a; intro a F
            refine l_guard F rfl rfl rfl he.1 (o_val F (r_eql_bool F und_bool rfl rfl) rfl ?_); clear F a; intro a F
            refine l_step rfl (o_val F (r_pick_t F rfl he.1 rfl) rfl ?_); clear F a; intro a F
            refine l_step rfl (o_val F (r_assign F rfl) rfl ?_); clear F a; intro a F
            refine l_nil ?_
            refine hK29 _ _ ?_
            refine wp_ret ?_
            exact ret1 Try.results10 M F (rv_tmp F rfl) (by rw [he.2, hcc]; simp)
end Go.Proofs.Ytfkmaepcjognkaa.Pad
