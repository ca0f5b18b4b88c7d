/- The walk of MergeBack: it answers true. The rows are slices of operations, whatever they are. -/
import Derived.Test.YtfkmaepcjognkaaT8
namespace Go.Proofs.Ytfkmaepcjognkaa.Pad
open Go Go.Proofs
set_option linter.unusedVariables false
set_option maxRecDepth 8000
set_option maxHeartbeats 4000000
set_option linter.unusedSimpArgs false

theorem make_kinds {s t : PState} (hs : Ok s) (ht : Ok t) : (pMake s t = ⟨0, 0, [], pmHead t⟩) ∨ (pMake s t = ⟨2, 0, [], t⟩) ∨ (pMake s t = ⟨1, pCommon s t.tail.n t.log, t.log.drop ((pCommon s t.tail.n t.log).toNat - t.tail.n.toNat), pmHead t⟩ ∧ t.tail.n.toNat ≤ (pCommon s t.tail.n t.log).toNat ∧ (pCommon s t.tail.n t.log).toNat ≤ t.tail.n.toNat + t.log.length) := by
  have c3 := common_le s t.log t.tail ht.ch
  have hsub : (pCommon s t.tail.n t.log - t.tail.n).toNat = (pCommon s t.tail.n t.log).toNat - t.tail.n.toNat := UInt32.toNat_sub_of_le _ _ (by rw [UInt32.le_iff_toNat_le]; exact c3.1)
  by_cases h0 : ({ s with started := t.started } : PState) = t
  · exact .inl (by rw [pMake, if_neg (by simp [ok_is hs, ok_is ht]), if_pos h0])
  · cases hst : pStands s t with
    | false => exact .inr (.inl (by rw [pMake, if_neg (by simp [ok_is hs, ok_is ht]), if_neg h0, if_pos hst]))
    | true => exact .inr (.inr ⟨by rw [pMake, if_neg (by simp [ok_is hs, ok_is ht]), if_neg h0, if_neg (by simp [hst]), hsub], c3⟩)
theorem make_one {s t : PState} (hs : Ok s) (ht : Ok t) (h : (pMake s t).kind = 1) : (((lastE t).n - (pMake s t).from_).toNat : Int) = ((pMake s t).log.length : Int) := by
  have hl := last_n ht.ch
  rcases make_kinds hs ht with e | e | ⟨e, c1, c2⟩
  · rw [e] at h; cases h
  · rw [e] at h; cases h
  · rw [e]
    simp only [List.length_drop]
    rw [UInt32.toNat_sub_of_le _ _ (by rw [UInt32.le_iff_toNat_le]; omega)]
    omega
theorem make_small {s t : PState} (hs : Ok s) (ht : Ok t) (h : ¬ (pMake s t).kind = 2) : (pMake s t).whole.log = [] ∧ pBytes (pMake s t) ≤ (t.log.length : Int) ∧ (pMake s t).log.length ≤ 6 := by
  have h6 := ht.len
  rcases make_kinds hs ht with e | e | ⟨e, c1, c2⟩
  · rw [e]; exact ⟨rfl, by rw [bytes_head]; omega, by simp⟩
  · rw [e] at h; exact absurd rfl h
  · rw [e]
    have hc : pCount PBase.zero 6 = 0 := by decide
    exact ⟨rfl, by simp only [pBytes, pmHead, hc, List.length_drop, List.length_nil]; omega, by simp only [List.length_drop]; omega⟩
theorem c_paddocklaw8_MergeBack {w : World} {G0 : Ghost} (hI : Imm G0 w) {la lb lc : Sl} {xa xb xc : List POp} {i k : UInt32} {f g : UInt8} (ha : Opl G0 la xa) (hb : Opl G0 lb xb) (hc : Opl G0 lc xc) : Ret P 15 [la.v, lb.v, lc.v, .int .u32 (i.toNat : Int), .int .u32 (k.toNat : Int), .int .u8 (f.toNat : Int), .int .u8 (g.toNat : Int)] [] w G0 (fun G W v => v = .bool true) := by
  refine enter Try.func15 rfl Try.ntmps15 rfl rfl hI (fun a F M => ?_)
  have hla := ha.len
  have hlb := hb.len
  have hlc := hc.len
  refine c_seq (fun K1 hK1 => ?_)
  refine wp_region_lit ?_
  refine l_step rfl (o_val F (r_assign F rfl) rfl ?_); clear F a; intro a F
  refine l_nil ?_
  refine hK1 _ _ ?_
  refine c_seq (fun K2 hK2 => ?_)
  refine c_seq (fun K3 hK3 => ?_)
  refine wp_region_lit ?_
  refine l_step rfl (o_call M F rfl (c_paddocklaw8_known M.imm) rfl ?_); clear F a; intro a W1 v1 G1 hp1 M E1 F
  subst hp1
  refine l_step rfl (o_val F (r_not F rfl) rfl ?_); clear F a; intro a F
  refine l_nil ?_
  refine hK3 _ _ ?_
  refine c_false F rfl rfl ?_
  refine wp_skip ?_
  refine hK2 _ _ ?_
  refine c_seq (fun K4 hK4 => ?_)
  refine c_seq (fun K5 hK5 => ?_)
  refine wp_region_lit ?_
  refine l_step rfl (o_val F (r_move F rfl) rfl ?_); clear F a; intro a F
  refine l_step rfl (o_val F (r_len_slice F slc_Ops.und rfl) rfl ?_); clear F a; intro a F
  refine l_step rfl (o_val F (r_gtr_i64 F rfl rfl) rfl ?_); clear F a; intro a F
  refine l_step rfl (o_val F (r_move F rfl) rfl ?_); clear F a; intro a F
  refine c_split F (i := 29) rfl (fun g29 => ?_) (fun g29 => ?_)
  · skip
    iterate 3 (refine l_skip F rfl rfl rfl g29 rfl rfl ?_; clear F a; intro a F)
    refine l_step rfl (o_val F (r_pick_t F rfl g29 rfl) rfl ?_); clear F a; intro a F
    refine l_step rfl (o_val F (r_move F rfl) rfl ?_); clear F a; intro a F
    iterate 3 (refine l_skip F rfl rfl rfl rfl rfl rfl ?_; clear F a; intro a F)
    refine l_step rfl (o_val F (r_pick_t F rfl rfl rfl) rfl ?_); clear F a; intro a F
    refine l_nil ?_
    refine hK5 _ _ ?_
    refine c_true F rfl rfl ?_
    refine c_seq (fun K6 hK6 => ?_)
    refine wp_region_lit ?_
    refine l_step rfl (o_val F (r_assign F rfl) rfl ?_); clear F a; intro a F
    refine l_nil ?_
    refine hK6 _ _ ?_
    refine wp_ret ?_
    exact ret1 Try.results15 M F (rv_tmp F rfl) (rfl)
  · skip
    refine l_guard F rfl rfl rfl g29 (o_val F (r_move F rfl) rfl ?_); clear F a; intro a F
    refine l_guard F rfl rfl rfl g29 (o_val F (r_len_slice F slc_Ops.und rfl) rfl ?_); clear F a; intro a F
    refine l_guard F rfl rfl rfl g29 (o_val F (r_gtr_i64 F rfl rfl) rfl ?_); clear F a; intro a F
    refine l_step rfl (o_val F (r_pick_f F rfl g29 rfl) rfl ?_); clear F a; intro a F
    refine l_step rfl (o_val F (r_move F rfl) rfl ?_); clear F a; intro a F
    refine c_split F (i := 34) rfl (fun g34 => ?_) (fun g34 => ?_)
    · skip
      iterate 3 (refine l_skip F rfl rfl rfl g34 rfl rfl ?_; clear F a; intro a F)
      refine l_step rfl (o_val F (r_pick_t F rfl g34 rfl) rfl ?_); clear F a; intro a F
      refine l_nil ?_
      refine hK5 _ _ ?_
      refine c_true F rfl rfl ?_
      refine c_seq (fun K7 hK7 => ?_)
      refine wp_region_lit ?_
      refine l_step rfl (o_val F (r_assign F rfl) rfl ?_); clear F a; intro a F
      refine l_nil ?_
      refine hK7 _ _ ?_
      refine wp_ret ?_
      exact ret1 Try.results15 M F (rv_tmp F rfl) (rfl)
    · skip
      refine l_guard F rfl rfl rfl g34 (o_val F (r_move F rfl) rfl ?_); clear F a; intro a F
      refine l_guard F rfl rfl rfl g34 (o_val F (r_len_slice F slc_Ops.und rfl) rfl ?_); clear F a; intro a F
      refine l_guard F rfl rfl rfl g34 (o_val F (r_gtr_i64 F rfl rfl) rfl ?_); clear F a; intro a F
      refine l_step rfl (o_val F (r_pick_f F rfl g34 rfl) rfl ?_); clear F a; intro a F
      refine l_nil ?_
      refine hK5 _ _ ?_
      refine c_cond F rfl (fun g38 => ?_) (fun g38 => ?_)
      · skip
        refine c_seq (fun K8 hK8 => ?_)
        refine wp_region_lit ?_
        refine l_step rfl (o_val F (r_assign F rfl) rfl ?_); clear F a; intro a F
        refine l_nil ?_
        refine hK8 _ _ ?_
        refine wp_ret ?_
        exact ret1 Try.results15 M F (rv_tmp F rfl) (rfl)
      · skip
        refine wp_skip ?_
        refine hK4 _ _ ?_
        refine c_seq (fun K9 hK9 => ?_)
        refine wp_region_lit ?_
        refine l_step rfl (o_val F (r_move F rfl) rfl ?_); clear F a; intro a F
        refine l_step rfl (o_val F (r_move F rfl) rfl ?_); clear F a; intro a F
        refine l_step rfl (o_val F (r_move F rfl) rfl ?_); clear F a; intro a F
        refine l_step rfl (o_val F (r_move F rfl) rfl ?_); clear F a; intro a F
        refine l_step rfl (o_val F (r_move F rfl) rfl ?_); clear F a; intro a F
        refine l_step rfl (o_call M F rfl (c_paddocklaw8_state (since := i) (f := f) (started := i) M.imm (ha.mono M.gl) (hb.mono M.gl) (by have h := of_decide_eq_false g29; omega) (by have h := of_decide_eq_false g34; omega)) rfl ?_); clear F a; intro a W2 v2 G2 hp2 M E2 F
        obtain ⟨l1, rfl, hl1⟩ := hp2
        have hok1 := st_ok xa xb i f i
        generalize pSt xa xb i f i = s at F hl1 hok1
        refine l_step rfl (o_val F (r_move F rfl) rfl ?_); clear F a; intro a F
        refine l_step rfl (o_val F (r_move F rfl) rfl ?_); clear F a; intro a F
        refine l_step rfl (o_val F (r_move F rfl) rfl ?_); clear F a; intro a F
        refine l_step rfl (o_val F (r_move F rfl) rfl ?_); clear F a; intro a F
        refine l_step rfl (o_val F (r_move F rfl) rfl ?_); clear F a; intro a F
        refine l_step rfl (o_call M F rfl (c_paddocklaw8_state (since := k) (f := g) (started := k) M.imm (ha.mono M.gl) (hc.mono M.gl) (by have h := of_decide_eq_false g29; omega) (by have h := of_decide_eq_false g38; omega)) rfl ?_); clear F a; intro a W3 v3 G3 hp3 M E3 F
        have hl1 := hl1.mono E3.gl
        obtain ⟨l2, rfl, hl2⟩ := hp3
        have hok2 := st_ok xa xc k g k
        generalize pSt xa xc k g k = t at F hl2 hok2
        have a1 := apply_make hok1 hok2
        have a2 := apply_make hok2 hok1
        refine l_step rfl (o_alloc M F zer_State rfl ?_); clear F a; intro a W4 b1 M F
        refine l_step rfl (o_alloc M F zer_State rfl ?_); clear F a; intro a W5 b2 M F
        refine l_step rfl (o_storeA M F rfl rfl agg_State.size (by repeat (first | exact Upd.here _ _ _ _ _ | apply Upd.there)) (by rfl) (by rfl) (by rfl) ?_); clear F a; intro a W6 M F
        refine l_step rfl (o_storeA M F rfl rfl agg_State.size (by repeat (first | exact Upd.here _ _ _ _ _ | apply Upd.there)) (by rfl) (by rfl) (by rfl) ?_); clear F a; intro a W7 M F
        refine l_nil ?_
        refine hK9 _ _ ?_
        refine c_seq (fun K10 hK10 => ?_)
        refine wp_region_lit ?_
        refine l_step rfl (o_val F (r_load M F rfl (by repeat (first | exact List.mem_cons_self | apply List.mem_cons_of_mem)) agg_State (seg_all rfl)) rfl ?_); clear F a; intro a F
        refine l_step rfl (o_val F (r_load M F rfl (by repeat (first | exact List.mem_cons_self | apply List.mem_cons_of_mem)) agg_State (seg_all rfl)) rfl ?_); clear F a; intro a F
        refine l_step rfl (o_call M F rfl (c_merge_Make M.imm hl1 hl2) rfl ?_); clear F a; intro a W8 v8 G8 hp8 M E8 F
        have hl1 := hl1.mono E8.gl
        have hl2 := hl2.mono E8.gl
        obtain ⟨l3, l4, rfl, hl3, hl4⟩ := hp8
        refine l_step rfl (o_alloc M F zer_Diff rfl ?_); clear F a; intro a W9 b3 M F
        refine l_step rfl (o_storeA M F rfl rfl agg_Diff.size (by repeat (first | exact Upd.here _ _ _ _ _ | apply Upd.there)) (by rfl) (by rfl) (by rfl) ?_); clear F a; intro a W10 M F
        refine l_nil ?_
        refine hK10 _ _ ?_
        refine c_seq (fun K11 hK11 => ?_)
        refine wp_region_lit ?_
        refine l_step rfl (o_val F (r_load M F rfl (by repeat (first | exact List.mem_cons_self | apply List.mem_cons_of_mem)) agg_State (seg_all rfl)) rfl ?_); clear F a; intro a F
        refine l_step rfl (o_val F (r_load M F rfl (by repeat (first | exact List.mem_cons_self | apply List.mem_cons_of_mem)) agg_Diff (seg_all rfl)) rfl ?_); clear F a; intro a F
        refine l_step rfl (o_call M F rfl (c_merge_Apply M.imm hl1 hl3 hl4) rfl ?_); clear F a; intro a W11 v11 G11 hp11 M E11 F
        have hl1 := hl1.mono E11.gl
        have hl2 := hl2.mono E11.gl
        have hl3 := hl3.mono E11.gl
        have hl4 := hl4.mono E11.gl
        obtain ⟨l5, rfl, hl5⟩ := hp11
        simp only [a1] at F hl5
        refine l_step rfl (o_val F (r_move F rfl) rfl ?_); clear F a; intro a F
        refine l_step rfl (o_val F (r_extract F rfl rfl) rfl ?_); clear F a; intro a F
        refine l_step rfl (o_val F (r_extract F rfl rfl) rfl ?_); clear F a; intro a F
        refine l_step rfl (o_alloc M F zer_State rfl ?_); clear F a; intro a W12 b4 M F
        refine l_step rfl (o_storeA M F rfl rfl agg_State.size (by repeat (first | exact Upd.here _ _ _ _ _ | apply Upd.there)) (by rfl) (by rfl) (by rfl) ?_); clear F a; intro a W13 M F
        refine l_step rfl (o_val F (r_assign F rfl) rfl ?_); clear F a; intro a F
        refine l_nil ?_
        refine hK11 _ _ ?_
        refine c_cut (fun a W => ∃ (G : Ghost) (c20 : Nat) (l8 : Sl), Frm 121 [(19, .int .i64 0), (21, .int .i64 0), (20, .pointer (some ⟨c20, 0, none⟩)), (18, .pointer (some ⟨b4, 0, none⟩)), (17, .pointer (some ⟨b3, 0, none⟩)), (16, .pointer (some ⟨b2, 0, none⟩)), (15, .pointer (some ⟨b1, 0, none⟩))] a ∧ St [] w G0 W [⟨c20, 42, (s.at l8).enc⟩, ⟨b4, 42, (t.at l5).enc⟩, ⟨b3, 94, ((pMake s t).at l3 l4).enc⟩, ⟨b2, 42, (t.at l2).enc⟩, ⟨b1, 42, (s.at l1).enc⟩] G ∧ (Ens G l1 s.log ∧ Ens G l2 t.log ∧ Ens G l3 (pMake s t).log ∧ Ens G l4 (pMake s t).whole.log ∧ Ens G l5 t.log ∧ Ens G l8 s.log)) ?_ ?_
        · skip
          refine c_drawM M [] mixed (fun M => ?_)
          have Ms := M
          have hq1 := Keeps.here M
          have hle1 := M.gle
          refine t_take (i := 0) F rfl rfl hq1 (fun _ ⟨_, _, M'⟩ => r_load M' F rfl (by repeat (first | exact List.mem_cons_self | apply List.mem_cons_of_mem)) agg_State (seg_all rfl)) (fun _ _ _ h => h) (by kernel_rfl) (by kernel_rfl) (by kernel_rfl) (by kernel_rfl) ?_; clear F a; intro a F
          refine t_take (i := 1) F rfl rfl hq1 (fun _ ⟨_, _, M'⟩ => r_load M' F rfl (by repeat (first | exact List.mem_cons_self | apply List.mem_cons_of_mem)) agg_State (seg_all rfl)) (fun _ _ _ h => h) (by kernel_rfl) (by kernel_rfl) (by kernel_rfl) (by kernel_rfl) ?_; clear F a; intro a F
          refine t_take (i := 2) F rfl rfl hq1 (fun _ ⟨_, _, M'⟩ => r_load M' F rfl (by repeat (first | exact List.mem_cons_self | apply List.mem_cons_of_mem)) agg_State (seg_all rfl)) (fun _ _ _ h => h) (by kernel_rfl) (by kernel_rfl) (by kernel_rfl) (by kernel_rfl) ?_; clear F a; intro a F
          refine t_rdy2 (i := 3) (j := 8) (by kernel_rfl) (w_plain rfl rfl ?_) (w_plain rfl rfl ?_)
          · skip
            refine id (o_call M F rfl (c_merge_Make M.imm hl2 hl1) rfl ?_); clear F a; intro a W14 v14 G14 hp14 M E14 F
            have hl1 := hl1.mono E14.gl
            have hl2 := hl2.mono E14.gl
            have hl3 := hl3.mono E14.gl
            have hl4 := hl4.mono E14.gl
            have hl5 := hl5.mono E14.gl
            obtain ⟨l6, l7, rfl, hl6, hl7⟩ := hp14
            have hle1 := hle1.trans E14.gl
            refine keepAnd (Keeps.mk hle1 M (by repeat (first | exact List.Sublist.refl _ | apply List.Sublist.cons_cons | apply List.Sublist.cons))) (fun hq1 => ?_)
            refine t_rdy2 (i := 4) (j := 8) (by kernel_rfl) (w_plain rfl rfl ?_) (w_plain rfl rfl ?_)
            · skip
              refine id (o_call M F rfl (c_merge_Apply M.imm hl2 hl6 hl7) rfl ?_); clear F a; intro a W15 v15 G15 hp15 M E15 F
              have hl1 := hl1.mono E15.gl
              have hl2 := hl2.mono E15.gl
              have hl3 := hl3.mono E15.gl
              have hl4 := hl4.mono E15.gl
              have hl5 := hl5.mono E15.gl
              have hl6 := hl6.mono E15.gl
              have hl7 := hl7.mono E15.gl
              obtain ⟨l8, rfl, hl8⟩ := hp15
              simp only [a2] at F hl8
              have hle1 := hle1.trans E15.gl
              refine keepAnd (Keeps.mk hle1 M (by repeat (first | exact List.Sublist.refl _ | apply List.Sublist.cons_cons | apply List.Sublist.cons))) (fun hq1 => ?_)
              refine t_take (i := 5) F rfl rfl hq1 (fun _ _ => r_move F rfl) (fun _ _ _ h => h) (by kernel_rfl) (by kernel_rfl) (by kernel_rfl) (by kernel_rfl) ?_; clear F a; intro a F
              refine t_take (i := 6) F rfl rfl hq1 (fun _ _ => r_extract F rfl rfl) (fun _ _ _ h => h) (by kernel_rfl) (by kernel_rfl) (by kernel_rfl) (by kernel_rfl) ?_; clear F a; intro a F
              refine t_take (i := 7) F rfl rfl hq1 (fun _ _ => r_extract F rfl rfl) (fun _ _ _ h => h) (by kernel_rfl) (by kernel_rfl) (by kernel_rfl) (by kernel_rfl) ?_; clear F a; intro a F
              refine t_one (i := 8) (by kernel_rfl) rfl rfl (o_alloc M F zer_State rfl ?_); clear F a; intro a W16 b5 M F
              refine keepAnd (Keeps.mk hle1 M (by repeat (first | exact List.Sublist.refl _ | apply List.Sublist.cons_cons | apply List.Sublist.cons))) (fun hq1 => ?_)
              refine t_one (i := 9) (by kernel_rfl) rfl rfl (o_storeA M F rfl rfl agg_State.size (by repeat (first | exact Upd.here _ _ _ _ _ | apply Upd.there)) (by rfl) (by rfl) (by rfl) ?_); clear F a; intro a W17 M F
              refine keepAnd (Keeps.mk hle1 M (by repeat (first | exact List.Sublist.refl _ | apply List.Sublist.cons_cons | apply List.Sublist.cons))) (fun hq1 => ?_)
              refine t_take (i := 10) F rfl rfl hq1 (fun _ _ => r_assign F rfl) (fun _ _ _ h => h) (by kernel_rfl) (by kernel_rfl) (by kernel_rfl) (by kernel_rfl) ?_; clear F a; intro a F
              refine t_done (by kernel_rfl) ?_ _
              exact ⟨_, _, l8, (F.cons (F.cons (F.cons (F.cons (F.cons (F.cons (F.cons F.nil 15 rfl) 16 rfl) 17 rfl) 18 rfl) 20 rfl) 21 rfl) 19 rfl), M, ⟨hl1, hl2, hl3, hl4, hl5, hl8⟩⟩
            · skip
              refine id (o_alloc M F zer_State rfl ?_); clear F a; intro a W18 b6 M F
              refine keepAnd (Keeps.mk hle1 M (by repeat (first | exact List.Sublist.refl _ | apply List.Sublist.cons_cons | apply List.Sublist.cons))) (fun hq1 => ?_)
              refine t_one (i := 4) (by kernel_rfl) rfl rfl (o_call M F rfl (c_merge_Apply M.imm hl2 hl6 hl7) rfl ?_); clear F a; intro a W19 v19 G19 hp19 M E19 F
              have hl1 := hl1.mono E19.gl
              have hl2 := hl2.mono E19.gl
              have hl3 := hl3.mono E19.gl
              have hl4 := hl4.mono E19.gl
              have hl5 := hl5.mono E19.gl
              have hl6 := hl6.mono E19.gl
              have hl7 := hl7.mono E19.gl
              obtain ⟨l8, rfl, hl8⟩ := hp19
              simp only [a2] at F hl8
              have hle1 := hle1.trans E19.gl
              refine keepAnd (Keeps.mk hle1 M (by repeat (first | exact List.Sublist.refl _ | apply List.Sublist.cons_cons | apply List.Sublist.cons))) (fun hq1 => ?_)
              refine t_take (i := 5) F rfl rfl hq1 (fun _ _ => r_move F rfl) (fun _ _ _ h => h) (by kernel_rfl) (by kernel_rfl) (by kernel_rfl) (by kernel_rfl) ?_; clear F a; intro a F
              refine t_take (i := 6) F rfl rfl hq1 (fun _ _ => r_extract F rfl rfl) (fun _ _ _ h => h) (by kernel_rfl) (by kernel_rfl) (by kernel_rfl) (by kernel_rfl) ?_; clear F a; intro a F
              refine t_take (i := 7) F rfl rfl hq1 (fun _ _ => r_extract F rfl rfl) (fun _ _ _ h => h) (by kernel_rfl) (by kernel_rfl) (by kernel_rfl) (by kernel_rfl) ?_; clear F a; intro a F
              refine t_one (i := 9) (by kernel_rfl) rfl rfl (o_storeA M F rfl rfl agg_State.size (by repeat (first | exact Upd.here _ _ _ _ _ | apply Upd.there)) (by rfl) (by rfl) (by rfl) ?_); clear F a; intro a W20 M F
              refine keepAnd (Keeps.mk hle1 M (by repeat (first | exact List.Sublist.refl _ | apply List.Sublist.cons_cons | apply List.Sublist.cons))) (fun hq1 => ?_)
              refine t_take (i := 10) F rfl rfl hq1 (fun _ _ => r_assign F rfl) (fun _ _ _ h => h) (by kernel_rfl) (by kernel_rfl) (by kernel_rfl) (by kernel_rfl) ?_; clear F a; intro a F
              refine t_done (by kernel_rfl) ?_ _
              exact ⟨_, _, l8, (F.cons (F.cons (F.cons (F.cons (F.cons (F.cons (F.cons F.nil 15 rfl) 16 rfl) 17 rfl) 18 rfl) 20 rfl) 21 rfl) 19 rfl), M, ⟨hl1, hl2, hl3, hl4, hl5, hl8⟩⟩
          · skip
            refine id (o_alloc M F zer_State rfl ?_); clear F a; intro a W21 b7 M F
            refine keepAnd (Keeps.mk hle1 M (by repeat (first | exact List.Sublist.refl _ | apply List.Sublist.cons_cons | apply List.Sublist.cons))) (fun hq1 => ?_)
            refine t_one (i := 3) (by kernel_rfl) rfl rfl (o_call M F rfl (c_merge_Make M.imm hl2 hl1) rfl ?_); clear F a; intro a W22 v22 G22 hp22 M E22 F
            have hl1 := hl1.mono E22.gl
            have hl2 := hl2.mono E22.gl
            have hl3 := hl3.mono E22.gl
            have hl4 := hl4.mono E22.gl
            have hl5 := hl5.mono E22.gl
            obtain ⟨l6, l7, rfl, hl6, hl7⟩ := hp22
            have hle1 := hle1.trans E22.gl
            refine keepAnd (Keeps.mk hle1 M (by repeat (first | exact List.Sublist.refl _ | apply List.Sublist.cons_cons | apply List.Sublist.cons))) (fun hq1 => ?_)
            refine t_one (i := 4) (by kernel_rfl) rfl rfl (o_call M F rfl (c_merge_Apply M.imm hl2 hl6 hl7) rfl ?_); clear F a; intro a W23 v23 G23 hp23 M E23 F
            have hl1 := hl1.mono E23.gl
            have hl2 := hl2.mono E23.gl
            have hl3 := hl3.mono E23.gl
            have hl4 := hl4.mono E23.gl
            have hl5 := hl5.mono E23.gl
            have hl6 := hl6.mono E23.gl
            have hl7 := hl7.mono E23.gl
            obtain ⟨l8, rfl, hl8⟩ := hp23
            simp only [a2] at F hl8
            have hle1 := hle1.trans E23.gl
            refine keepAnd (Keeps.mk hle1 M (by repeat (first | exact List.Sublist.refl _ | apply List.Sublist.cons_cons | apply List.Sublist.cons))) (fun hq1 => ?_)
            refine t_take (i := 5) F rfl rfl hq1 (fun _ _ => r_move F rfl) (fun _ _ _ h => h) (by kernel_rfl) (by kernel_rfl) (by kernel_rfl) (by kernel_rfl) ?_; clear F a; intro a F
            refine t_take (i := 6) F rfl rfl hq1 (fun _ _ => r_extract F rfl rfl) (fun _ _ _ h => h) (by kernel_rfl) (by kernel_rfl) (by kernel_rfl) (by kernel_rfl) ?_; clear F a; intro a F
            refine t_take (i := 7) F rfl rfl hq1 (fun _ _ => r_extract F rfl rfl) (fun _ _ _ h => h) (by kernel_rfl) (by kernel_rfl) (by kernel_rfl) (by kernel_rfl) ?_; clear F a; intro a F
            refine t_one (i := 9) (by kernel_rfl) rfl rfl (o_storeA M F rfl rfl agg_State.size (by repeat (first | exact Upd.here _ _ _ _ _ | apply Upd.there)) (by rfl) (by rfl) (by rfl) ?_); clear F a; intro a W24 M F
            refine keepAnd (Keeps.mk hle1 M (by repeat (first | exact List.Sublist.refl _ | apply List.Sublist.cons_cons | apply List.Sublist.cons))) (fun hq1 => ?_)
            refine t_take (i := 10) F rfl rfl hq1 (fun _ _ => r_assign F rfl) (fun _ _ _ h => h) (by kernel_rfl) (by kernel_rfl) (by kernel_rfl) (by kernel_rfl) ?_; clear F a; intro a F
            refine t_done (by kernel_rfl) ?_ _
            exact ⟨_, _, l8, (F.cons (F.cons (F.cons (F.cons (F.cons (F.cons (F.cons F.nil 15 rfl) 16 rfl) 17 rfl) 18 rfl) 20 rfl) 21 rfl) 19 rfl), M, ⟨hl1, hl2, hl3, hl4, hl5, hl8⟩⟩
        · clear F M a; intro a W hI; obtain ⟨G, c20, l8, F, M, hf⟩ := hI
          obtain ⟨hl1, hl2, hl3, hl4, hl5, hl8⟩ := hf
          refine c_seq (fun K12 hK12 => ?_)
          refine c_seq (fun K13 hK13 => ?_)
          refine wp_region_lit ?_
          refine l_step rfl (o_val F (r_move F rfl) rfl ?_); clear F a; intro a F
          refine l_step rfl (o_val F (r_neq_i64 F rfl rfl) rfl ?_); clear F a; intro a F
          refine l_step rfl (o_val F (r_move F rfl) rfl ?_); clear F a; intro a F
          refine l_guard F rfl rfl rfl rfl (o_val F (r_move F rfl) rfl ?_); clear F a; intro a F
          refine l_guard F rfl rfl rfl rfl (o_val F (r_neq_i64 F rfl rfl) rfl ?_); clear F a; intro a F
          refine l_step rfl (o_val F (r_pick_f F rfl rfl rfl) rfl ?_); clear F a; intro a F
          refine l_step rfl (o_val F (r_move F rfl) rfl ?_); clear F a; intro a F
          refine l_guard F rfl rfl rfl rfl (o_val F (r_load M F rfl (by repeat (first | exact List.mem_cons_self | apply List.mem_cons_of_mem)) agg_State (seg_all rfl)) rfl ?_); clear F a; intro a F
          refine l_guard F rfl rfl rfl rfl (o_val F (r_load M F rfl (by repeat (first | exact List.mem_cons_self | apply List.mem_cons_of_mem)) agg_State (seg_all rfl)) rfl ?_); clear F a; intro a F
          refine l_guard F rfl rfl rfl rfl (o_call M F rfl (c_pglog_Same M.imm hl5 hl2) rfl ?_); clear F a; intro a W25 v25 G25 hp25 M E25 F
          have hl1 := hl1.mono E25.gl
          have hl2 := hl2.mono E25.gl
          have hl3 := hl3.mono E25.gl
          have hl4 := hl4.mono E25.gl
          have hl5 := hl5.mono E25.gl
          have hl8 := hl8.mono E25.gl
          subst hp25
          refine l_guard F rfl rfl rfl rfl (o_val F (r_not F rfl) rfl ?_); clear F a; intro a F
          refine l_step rfl (o_val F (r_pick_f F rfl rfl rfl) rfl ?_); clear F a; intro a F
          refine l_step rfl (o_val F (r_move F rfl) rfl ?_); clear F a; intro a F
          refine l_guard F rfl rfl rfl (by simp) (o_val F (r_load M F rfl (by repeat (first | exact List.mem_cons_self | apply List.mem_cons_of_mem)) agg_State (seg_all rfl)) rfl ?_); clear F a; intro a F
          refine l_guard F rfl rfl rfl (by simp) (o_val F (r_load M F rfl (by repeat (first | exact List.mem_cons_self | apply List.mem_cons_of_mem)) agg_State (seg_all rfl)) rfl ?_); clear F a; intro a F
          refine l_guard F rfl rfl rfl (by simp) (o_call M F rfl (c_pglog_Same M.imm hl8 hl1) rfl ?_); clear F a; intro a W26 v26 G26 hp26 M E26 F
          have hl1 := hl1.mono E26.gl
          have hl2 := hl2.mono E26.gl
          have hl3 := hl3.mono E26.gl
          have hl4 := hl4.mono E26.gl
          have hl5 := hl5.mono E26.gl
          have hl8 := hl8.mono E26.gl
          subst hp26
          refine l_guard F rfl rfl rfl (by simp) (o_val F (r_not F rfl) rfl ?_); clear F a; intro a F
          refine l_step rfl (o_val F (r_pick_f F rfl (by simp) rfl) rfl ?_); clear F a; intro a F
          refine l_nil ?_
          refine hK13 _ _ ?_
          refine c_false F rfl (by simp) ?_
          refine wp_skip ?_
          refine hK12 _ _ ?_
          refine c_seq (fun K14 hK14 => ?_)
          refine c_seq (fun K15 hK15 => ?_)
          refine wp_region_lit ?_
          refine l_step rfl (o_val F (r_fieldAddr F rfl fld_Diff_0) rfl ?_); clear F a; intro a F
          refine l_step rfl (o_val F (r_load1 M F rfl (by repeat (first | exact List.mem_cons_self | apply List.mem_cons_of_mem)) sca_int rfl) rfl ?_); clear F a; intro a F
          refine l_step rfl (o_val F (r_eql_i64 F rfl rfl) rfl ?_); clear F a; intro a F
          refine l_nil ?_
          refine hK15 _ _ ?_
          refine c_cond F rfl (fun g88 => ?_) (fun g88 => ?_)
          · skip
            refine c_seq (fun K16 hK16 => ?_)
            refine wp_region_lit ?_
            refine l_step rfl (o_val F (r_load M F rfl (by repeat (first | exact List.mem_cons_self | apply List.mem_cons_of_mem)) agg_State (seg_all rfl)) rfl ?_); clear F a; intro a F
            refine l_step rfl (o_call M F rfl (c_pglog_Head M.imm hl2) rfl ?_); clear F a; intro a W27 v27 G27 hp27 M E27 F
            have hl1 := hl1.mono E27.gl
            have hl2 := hl2.mono E27.gl
            have hl3 := hl3.mono E27.gl
            have hl4 := hl4.mono E27.gl
            have hl5 := hl5.mono E27.gl
            have hl8 := hl8.mono E27.gl
            subst hp27
            simp only [head_ok hok2] at F
            refine l_step rfl (o_val F (r_move F rfl) rfl ?_); clear F a; intro a F
            refine l_step rfl (o_val F (r_extract F rfl rfl) rfl ?_); clear F a; intro a F
            refine l_step rfl (o_val F (r_extract F rfl rfl) rfl ?_); clear F a; intro a F
            refine l_step rfl (o_val F (r_assign F rfl) rfl ?_); clear F a; intro a F
            refine l_step rfl (o_val F (r_assign F rfl) rfl ?_); clear F a; intro a F
            refine l_nil ?_
            refine hK16 _ _ ?_
            refine c_seq (fun K17 hK17 => ?_)
            refine wp_region_lit ?_
            refine l_step rfl (o_val F (r_move F rfl) rfl ?_); clear F a; intro a F
            refine l_step rfl (o_val F (r_fieldAddr F rfl fld_Diff_1) rfl ?_); clear F a; intro a F
            refine l_step rfl (o_val F (r_load1 M F rfl (by repeat (first | exact List.mem_cons_self | apply List.mem_cons_of_mem)) sca_u32 rfl) rfl ?_); clear F a; intro a F
            refine l_step rfl (o_val F (r_sub_u32 F rfl rfl) rfl ?_); clear F a; intro a F
            refine l_step rfl (o_val F (r_conv_u32_i64 F und_u32 und_int rfl) rfl ?_); clear F a; intro a F
            refine l_step rfl (o_val F (r_fieldAddr F rfl fld_Diff_2) rfl ?_); clear F a; intro a F
            refine l_step rfl (o_val F (r_load1 M F rfl (by repeat (first | exact List.mem_cons_self | apply List.mem_cons_of_mem)) sca_Entries rfl) rfl ?_); clear F a; intro a F
            refine l_step rfl (o_val F (r_len_slice F slc_Entries.und rfl) rfl ?_); clear F a; intro a F
            refine l_step rfl (o_val F (r_neq_i64 F rfl rfl) rfl ?_); clear F a; intro a F
            refine l_nil ?_
            refine hK17 _ _ ?_
            refine c_false F rfl (by have h := make_one hok1 hok2 (of_decide_eq_true g88); rw [Bool.not_eq_false', decide_eq_true_eq]; exact h.trans (congrArg (fun n : Nat => (n : Int)) hl3.len.symm)) ?_
            refine wp_skip ?_
            refine hK14 _ _ ?_
            refine c_seq (fun K18 hK18 => ?_)
            refine c_drawM M [] mixed (fun M => ?_)
            have Ms := M
            have hq2 := Keeps.here M
            have hle2 := M.gle
            refine t_take (i := 0) F rfl rfl hq2 (fun _ _ => r_fieldAddr F rfl fld_Diff_0) (fun _ _ _ h => h) (by kernel_rfl) (by kernel_rfl) (by kernel_rfl) (by kernel_rfl) ?_; clear F a; intro a F
            refine t_take (i := 1) F rfl rfl hq2 (fun _ ⟨_, _, M'⟩ => r_load1 M' F rfl (by repeat (first | exact List.mem_cons_self | apply List.mem_cons_of_mem)) sca_int rfl) (fun _ _ _ h => h) (by kernel_rfl) (by kernel_rfl) (by kernel_rfl) (by kernel_rfl) ?_; clear F a; intro a F
            refine t_take (i := 2) F rfl rfl hq2 (fun _ _ => r_eql_i64 F rfl rfl) (fun _ _ _ h => h) (by kernel_rfl) (by kernel_rfl) (by kernel_rfl) (by kernel_rfl) ?_; clear F a; intro a F
            refine t_take (i := 3) F rfl rfl hq2 (fun _ _ => r_move F rfl) (fun _ _ _ h => h) (by kernel_rfl) (by kernel_rfl) (by kernel_rfl) (by kernel_rfl) ?_; clear F a; intro a F
            refine c_split F (i := 106) rfl (fun g106 => ?_) (fun g106 => ?_)
            · skip
              refine t_skip (i := 4) F rfl rfl rfl g106 rfl hq2 (fun _ _ _ h => h) (by kernel_rfl) (by kernel_rfl) (by kernel_rfl) (by kernel_rfl) ?_; clear F a; intro a F
              refine t_skip (i := 5) F rfl rfl rfl g106 rfl hq2 (fun _ _ _ h => h) (by kernel_rfl) (by kernel_rfl) (by kernel_rfl) (by kernel_rfl) ?_; clear F a; intro a F
              refine t_skip (i := 6) F rfl rfl rfl g106 rfl hq2 (fun _ _ _ h => h) (by kernel_rfl) (by kernel_rfl) (by kernel_rfl) (by kernel_rfl) ?_; clear F a; intro a F
              refine t_skip (i := 7) F rfl rfl rfl g106 rfl hq2 (fun _ _ _ h => h) (by kernel_rfl) (by kernel_rfl) (by kernel_rfl) (by kernel_rfl) ?_; clear F a; intro a F
              refine t_skip (i := 8) F rfl rfl rfl g106 rfl hq2 (fun _ _ _ h => h) (by kernel_rfl) (by kernel_rfl) (by kernel_rfl) (by kernel_rfl) ?_; clear F a; intro a F
              refine t_skip (i := 9) F rfl rfl rfl g106 rfl hq2 (fun _ _ _ h => h) (by kernel_rfl) (by kernel_rfl) (by kernel_rfl) (by kernel_rfl) ?_; clear F a; intro a F
              refine t_skipu (i := 10) F rfl rfl rfl rfl hq2 (fun _ _ _ h => h) (by kernel_rfl) (by kernel_rfl) (by kernel_rfl) (by kernel_rfl) ?_; clear F a; intro a F
              refine t_skipu (i := 11) F rfl rfl rfl rfl hq2 (fun _ _ _ h => h) (by kernel_rfl) (by kernel_rfl) (by kernel_rfl) (by kernel_rfl) ?_; clear F a; intro a F
              refine t_skipu (i := 12) F rfl rfl rfl rfl hq2 (fun _ _ _ h => h) (by kernel_rfl) (by kernel_rfl) (by kernel_rfl) (by kernel_rfl) ?_; clear F a; intro a F
              refine t_skipu (i := 13) F rfl rfl rfl rfl hq2 (fun _ _ _ h => h) (by kernel_rfl) (by kernel_rfl) (by kernel_rfl) (by kernel_rfl) ?_; clear F a; intro a F
              refine t_skipu (i := 14) F rfl rfl rfl rfl hq2 (fun _ _ _ h => h) (by kernel_rfl) (by kernel_rfl) (by kernel_rfl) (by kernel_rfl) ?_; clear F a; intro a F
              refine t_skipu (i := 15) F rfl rfl rfl rfl hq2 (fun _ _ _ h => h) (by kernel_rfl) (by kernel_rfl) (by kernel_rfl) (by kernel_rfl) ?_; clear F a; intro a F
              refine t_skip (i := 16) F rfl rfl rfl g106 rfl hq2 (fun _ _ _ h => h) (by kernel_rfl) (by kernel_rfl) (by kernel_rfl) (by kernel_rfl) ?_; clear F a; intro a F
              refine t_take (i := 17) F rfl rfl hq2 (fun _ _ => r_pick_t F rfl g106 rfl) (fun _ _ _ h => h) (by kernel_rfl) (by kernel_rfl) (by kernel_rfl) (by kernel_rfl) ?_; clear F a; intro a F
              refine t_take (i := 18) F rfl rfl hq2 (fun _ _ => r_assign F rfl) (fun _ _ _ h => h) (by kernel_rfl) (by kernel_rfl) (by kernel_rfl) (by kernel_rfl) ?_; clear F a; intro a F
              refine t_done (by kernel_rfl) ?_ _
              refine hK18 _ _ ?_
              refine wp_ret ?_
              exact ret1 Try.results15 M F (rv_tmp F rfl) (rfl)
            · skip
              refine t_takeg (i := 4) F rfl rfl rfl g106 rfl hq2 (fun _ _ => r_fieldAddr F rfl fld_Diff_3) (fun _ _ _ h => h) (by kernel_rfl) (by kernel_rfl) (by kernel_rfl) (by kernel_rfl) ?_; clear F a; intro a F
              refine t_takeg (i := 5) F rfl rfl rfl g106 rfl hq2 (fun _ _ => r_fieldAddr F rfl fld_State_3) (fun _ _ _ h => h) (by kernel_rfl) (by kernel_rfl) (by kernel_rfl) (by kernel_rfl) ?_; clear F a; intro a F
              refine t_takeg (i := 6) F rfl rfl rfl g106 rfl hq2 (fun _ ⟨_, _, M'⟩ => r_load1 M' F rfl (by repeat (first | exact List.mem_cons_self | apply List.mem_cons_of_mem)) sca_Entries rfl) (fun _ _ _ h => h) (by kernel_rfl) (by kernel_rfl) (by kernel_rfl) (by kernel_rfl) ?_; clear F a; intro a F
              refine t_takeg (i := 7) F rfl rfl rfl g106 rfl hq2 (fun _ _ => r_len_slice F slc_Entries.und rfl) (fun _ _ _ h => h) (by kernel_rfl) (by kernel_rfl) (by kernel_rfl) (by kernel_rfl) ?_; clear F a; intro a F
              refine t_takeg (i := 8) F rfl rfl rfl g106 rfl hq2 (fun _ _ => r_eql_i64 F rfl rfl) (fun _ _ _ h => h) (by kernel_rfl) (by kernel_rfl) (by kernel_rfl) (by kernel_rfl) ?_; clear F a; intro a F
              refine t_takeg (i := 9) F rfl rfl rfl g106 rfl hq2 (fun _ _ => r_move F rfl) (fun _ _ _ h => h) (by kernel_rfl) (by kernel_rfl) (by kernel_rfl) (by kernel_rfl) ?_; clear F a; intro a F
              refine t_takeg (i := 10) F rfl rfl rfl (by have h := hl4.len; rw [(make_small hok1 hok2 (of_decide_eq_false g106)).1] at h; exact decide_eq_true (by have h2 : ((pMake s t).at l3 l4).whole.log.len = 0 := h; rw [h2]; rfl)) rfl hq2 (fun _ ⟨_, _, M'⟩ => r_load M' F rfl (by repeat (first | exact List.mem_cons_self | apply List.mem_cons_of_mem)) agg_Diff (seg_all rfl)) (fun _ _ _ h => h) (by kernel_rfl) (by kernel_rfl) (by kernel_rfl) (by kernel_rfl) ?_; clear F a; intro a F
              refine t_takeg (i := 12) F rfl rfl rfl (by have h := hl4.len; rw [(make_small hok1 hok2 (of_decide_eq_false g106)).1] at h; exact decide_eq_true (by have h2 : ((pMake s t).at l3 l4).whole.log.len = 0 := h; rw [h2]; rfl)) rfl hq2 (fun _ _ => r_fieldAddr F rfl fld_State_3) (fun _ _ _ h => h) (by kernel_rfl) (by kernel_rfl) (by kernel_rfl) (by kernel_rfl) ?_; clear F a; intro a F
              refine t_takeg (i := 13) F rfl rfl rfl (by have h := hl4.len; rw [(make_small hok1 hok2 (of_decide_eq_false g106)).1] at h; exact decide_eq_true (by have h2 : ((pMake s t).at l3 l4).whole.log.len = 0 := h; rw [h2]; rfl)) rfl hq2 (fun _ ⟨_, _, M'⟩ => r_load1 M' F rfl (by repeat (first | exact List.mem_cons_self | apply List.mem_cons_of_mem)) sca_Entries rfl) (fun _ _ _ h => h) (by kernel_rfl) (by kernel_rfl) (by kernel_rfl) (by kernel_rfl) ?_; clear F a; intro a F
              refine t_takeg (i := 14) F rfl rfl rfl (by have h := hl4.len; rw [(make_small hok1 hok2 (of_decide_eq_false g106)).1] at h; exact decide_eq_true (by have h2 : ((pMake s t).at l3 l4).whole.log.len = 0 := h; rw [h2]; rfl)) rfl hq2 (fun _ _ => r_len_slice F slc_Entries.und rfl) (fun _ _ _ h => h) (by kernel_rfl) (by kernel_rfl) (by kernel_rfl) (by kernel_rfl) ?_; clear F a; intro a F
              refine t_oneg (i := 11) F (by kernel_rfl) rfl rfl rfl rfl (by have h := hl4.len; rw [(make_small hok1 hok2 (of_decide_eq_false g106)).1] at h; exact decide_eq_true (by have h2 : ((pMake s t).at l3 l4).whole.log.len = 0 := h; rw [h2]; rfl)) (o_call M F rfl (c_merge_Bytes M.imm hl3 hl4 (by have := (make_small hok1 hok2 (of_decide_eq_false g106)).2.2; omega) (by rw [(make_small hok1 hok2 (of_decide_eq_false g106)).1]; decide)) rfl ?_); clear F a; intro a W28 v28 G28 hp28 M E28 F
              have hl1 := hl1.mono E28.gl
              have hl2 := hl2.mono E28.gl
              have hl3 := hl3.mono E28.gl
              have hl4 := hl4.mono E28.gl
              have hl5 := hl5.mono E28.gl
              have hl8 := hl8.mono E28.gl
              subst hp28
              have hle2 := hle2.trans E28.gl
              refine keepAnd (Keeps.mk hle2 M (by repeat (first | exact List.Sublist.refl _ | apply List.Sublist.cons_cons | apply List.Sublist.cons))) (fun hq2 => ?_)
              refine t_takeg (i := 15) F rfl rfl rfl (by have h := hl4.len; rw [(make_small hok1 hok2 (of_decide_eq_false g106)).1] at h; exact decide_eq_true (by have h2 : ((pMake s t).at l3 l4).whole.log.len = 0 := h; rw [h2]; rfl)) rfl hq2 (fun _ _ => r_leq_i64 F rfl rfl) (fun _ _ _ h => h) (by kernel_rfl) (by kernel_rfl) (by kernel_rfl) (by kernel_rfl) ?_; clear F a; intro a F
              refine t_takeg (i := 16) F rfl rfl rfl g106 rfl hq2 (fun _ _ => r_pick_t F rfl (by have h := hl4.len; rw [(make_small hok1 hok2 (of_decide_eq_false g106)).1] at h; exact decide_eq_true (by have h2 : ((pMake s t).at l3 l4).whole.log.len = 0 := h; rw [h2]; rfl)) rfl) (fun _ _ _ h => h) (by kernel_rfl) (by kernel_rfl) (by kernel_rfl) (by kernel_rfl) ?_; clear F a; intro a F
              refine t_take (i := 17) F rfl rfl hq2 (fun _ _ => r_pick_f F rfl g106 rfl) (fun _ _ _ h => h) (by kernel_rfl) (by kernel_rfl) (by kernel_rfl) (by kernel_rfl) ?_; clear F a; intro a F
              refine t_take (i := 18) F rfl rfl hq2 (fun _ _ => r_assign F rfl) (fun _ _ _ h => h) (by kernel_rfl) (by kernel_rfl) (by kernel_rfl) (by kernel_rfl) ?_; clear F a; intro a F
              refine t_done (by kernel_rfl) ?_ _
              refine hK18 _ _ ?_
              refine wp_ret ?_
              exact ret1 Try.results15 M F (rv_tmp F rfl) (congrArg Value.bool (decide_eq_true (Int.le_trans (make_small hok1 hok2 (of_decide_eq_false g106)).2.1 (Int.le_of_eq (congrArg (fun n : Nat => (n : Int)) hl2.len.symm)))))
          · skip
            refine wp_skip ?_
            refine hK14 _ _ ?_
            refine c_seq (fun K19 hK19 => ?_)
            refine c_drawM M [] mixed (fun M => ?_)
            have Ms := M
            have hq3 := Keeps.here M
            have hle3 := M.gle
            refine t_take (i := 0) F rfl rfl hq3 (fun _ _ => r_fieldAddr F rfl fld_Diff_0) (fun _ _ _ h => h) (by kernel_rfl) (by kernel_rfl) (by kernel_rfl) (by kernel_rfl) ?_; clear F a; intro a F
            refine t_take (i := 1) F rfl rfl hq3 (fun _ ⟨_, _, M'⟩ => r_load1 M' F rfl (by repeat (first | exact List.mem_cons_self | apply List.mem_cons_of_mem)) sca_int rfl) (fun _ _ _ h => h) (by kernel_rfl) (by kernel_rfl) (by kernel_rfl) (by kernel_rfl) ?_; clear F a; intro a F
            refine t_take (i := 2) F rfl rfl hq3 (fun _ _ => r_eql_i64 F rfl rfl) (fun _ _ _ h => h) (by kernel_rfl) (by kernel_rfl) (by kernel_rfl) (by kernel_rfl) ?_; clear F a; intro a F
            refine t_take (i := 3) F rfl rfl hq3 (fun _ _ => r_move F rfl) (fun _ _ _ h => h) (by kernel_rfl) (by kernel_rfl) (by kernel_rfl) (by kernel_rfl) ?_; clear F a; intro a F
            refine c_split F (i := 106) rfl (fun g106 => ?_) (fun g106 => ?_)
            · skip
              refine t_skip (i := 4) F rfl rfl rfl g106 rfl hq3 (fun _ _ _ h => h) (by kernel_rfl) (by kernel_rfl) (by kernel_rfl) (by kernel_rfl) ?_; clear F a; intro a F
              refine t_skip (i := 5) F rfl rfl rfl g106 rfl hq3 (fun _ _ _ h => h) (by kernel_rfl) (by kernel_rfl) (by kernel_rfl) (by kernel_rfl) ?_; clear F a; intro a F
              refine t_skip (i := 6) F rfl rfl rfl g106 rfl hq3 (fun _ _ _ h => h) (by kernel_rfl) (by kernel_rfl) (by kernel_rfl) (by kernel_rfl) ?_; clear F a; intro a F
              refine t_skip (i := 7) F rfl rfl rfl g106 rfl hq3 (fun _ _ _ h => h) (by kernel_rfl) (by kernel_rfl) (by kernel_rfl) (by kernel_rfl) ?_; clear F a; intro a F
              refine t_skip (i := 8) F rfl rfl rfl g106 rfl hq3 (fun _ _ _ h => h) (by kernel_rfl) (by kernel_rfl) (by kernel_rfl) (by kernel_rfl) ?_; clear F a; intro a F
              refine t_skip (i := 9) F rfl rfl rfl g106 rfl hq3 (fun _ _ _ h => h) (by kernel_rfl) (by kernel_rfl) (by kernel_rfl) (by kernel_rfl) ?_; clear F a; intro a F
              refine t_skipu (i := 10) F rfl rfl rfl rfl hq3 (fun _ _ _ h => h) (by kernel_rfl) (by kernel_rfl) (by kernel_rfl) (by kernel_rfl) ?_; clear F a; intro a F
              refine t_skipu (i := 11) F rfl rfl rfl rfl hq3 (fun _ _ _ h => h) (by kernel_rfl) (by kernel_rfl) (by kernel_rfl) (by kernel_rfl) ?_; clear F a; intro a F
              refine t_skipu (i := 12) F rfl rfl rfl rfl hq3 (fun _ _ _ h => h) (by kernel_rfl) (by kernel_rfl) (by kernel_rfl) (by kernel_rfl) ?_; clear F a; intro a F
              refine t_skipu (i := 13) F rfl rfl rfl rfl hq3 (fun _ _ _ h => h) (by kernel_rfl) (by kernel_rfl) (by kernel_rfl) (by kernel_rfl) ?_; clear F a; intro a F
              refine t_skipu (i := 14) F rfl rfl rfl rfl hq3 (fun _ _ _ h => h) (by kernel_rfl) (by kernel_rfl) (by kernel_rfl) (by kernel_rfl) ?_; clear F a; intro a F
              refine t_skipu (i := 15) F rfl rfl rfl rfl hq3 (fun _ _ _ h => h) (by kernel_rfl) (by kernel_rfl) (by kernel_rfl) (by kernel_rfl) ?_; clear F a; intro a F
              refine t_skip (i := 16) F rfl rfl rfl g106 rfl hq3 (fun _ _ _ h => h) (by kernel_rfl) (by kernel_rfl) (by kernel_rfl) (by kernel_rfl) ?_; clear F a; intro a F
              refine t_take (i := 17) F rfl rfl hq3 (fun _ _ => r_pick_t F rfl g106 rfl) (fun _ _ _ h => h) (by kernel_rfl) (by kernel_rfl) (by kernel_rfl) (by kernel_rfl) ?_; clear F a; intro a F
              refine t_take (i := 18) F rfl rfl hq3 (fun _ _ => r_assign F rfl) (fun _ _ _ h => h) (by kernel_rfl) (by kernel_rfl) (by kernel_rfl) (by kernel_rfl) ?_; clear F a; intro a F
              refine t_done (by kernel_rfl) ?_ _
              refine hK19 _ _ ?_
              refine wp_ret ?_
              exact ret1 Try.results15 M F (rv_tmp F rfl) (rfl)
            · skip
              refine t_takeg (i := 4) F rfl rfl rfl g106 rfl hq3 (fun _ _ => r_fieldAddr F rfl fld_Diff_3) (fun _ _ _ h => h) (by kernel_rfl) (by kernel_rfl) (by kernel_rfl) (by kernel_rfl) ?_; clear F a; intro a F
              refine t_takeg (i := 5) F rfl rfl rfl g106 rfl hq3 (fun _ _ => r_fieldAddr F rfl fld_State_3) (fun _ _ _ h => h) (by kernel_rfl) (by kernel_rfl) (by kernel_rfl) (by kernel_rfl) ?_; clear F a; intro a F
              refine t_takeg (i := 6) F rfl rfl rfl g106 rfl hq3 (fun _ ⟨_, _, M'⟩ => r_load1 M' F rfl (by repeat (first | exact List.mem_cons_self | apply List.mem_cons_of_mem)) sca_Entries rfl) (fun _ _ _ h => h) (by kernel_rfl) (by kernel_rfl) (by kernel_rfl) (by kernel_rfl) ?_; clear F a; intro a F
              refine t_takeg (i := 7) F rfl rfl rfl g106 rfl hq3 (fun _ _ => r_len_slice F slc_Entries.und rfl) (fun _ _ _ h => h) (by kernel_rfl) (by kernel_rfl) (by kernel_rfl) (by kernel_rfl) ?_; clear F a; intro a F
              refine t_takeg (i := 8) F rfl rfl rfl g106 rfl hq3 (fun _ _ => r_eql_i64 F rfl rfl) (fun _ _ _ h => h) (by kernel_rfl) (by kernel_rfl) (by kernel_rfl) (by kernel_rfl) ?_; clear F a; intro a F
              refine t_takeg (i := 9) F rfl rfl rfl g106 rfl hq3 (fun _ _ => r_move F rfl) (fun _ _ _ h => h) (by kernel_rfl) (by kernel_rfl) (by kernel_rfl) (by kernel_rfl) ?_; clear F a; intro a F
              refine t_takeg (i := 10) F rfl rfl rfl (by have h := hl4.len; rw [(make_small hok1 hok2 (of_decide_eq_false g106)).1] at h; exact decide_eq_true (by have h2 : ((pMake s t).at l3 l4).whole.log.len = 0 := h; rw [h2]; rfl)) rfl hq3 (fun _ ⟨_, _, M'⟩ => r_load M' F rfl (by repeat (first | exact List.mem_cons_self | apply List.mem_cons_of_mem)) agg_Diff (seg_all rfl)) (fun _ _ _ h => h) (by kernel_rfl) (by kernel_rfl) (by kernel_rfl) (by kernel_rfl) ?_; clear F a; intro a F
              refine t_takeg (i := 12) F rfl rfl rfl (by have h := hl4.len; rw [(make_small hok1 hok2 (of_decide_eq_false g106)).1] at h; exact decide_eq_true (by have h2 : ((pMake s t).at l3 l4).whole.log.len = 0 := h; rw [h2]; rfl)) rfl hq3 (fun _ _ => r_fieldAddr F rfl fld_State_3) (fun _ _ _ h => h) (by kernel_rfl) (by kernel_rfl) (by kernel_rfl) (by kernel_rfl) ?_; clear F a; intro a F
              refine t_takeg (i := 13) F rfl rfl rfl (by have h := hl4.len; rw [(make_small hok1 hok2 (of_decide_eq_false g106)).1] at h; exact decide_eq_true (by have h2 : ((pMake s t).at l3 l4).whole.log.len = 0 := h; rw [h2]; rfl)) rfl hq3 (fun _ ⟨_, _, M'⟩ => r_load1 M' F rfl (by repeat (first | exact List.mem_cons_self | apply List.mem_cons_of_mem)) sca_Entries rfl) (fun _ _ _ h => h) (by kernel_rfl) (by kernel_rfl) (by kernel_rfl) (by kernel_rfl) ?_; clear F a; intro a F
              refine t_takeg (i := 14) F rfl rfl rfl (by have h := hl4.len; rw [(make_small hok1 hok2 (of_decide_eq_false g106)).1] at h; exact decide_eq_true (by have h2 : ((pMake s t).at l3 l4).whole.log.len = 0 := h; rw [h2]; rfl)) rfl hq3 (fun _ _ => r_len_slice F slc_Entries.und rfl) (fun _ _ _ h => h) (by kernel_rfl) (by kernel_rfl) (by kernel_rfl) (by kernel_rfl) ?_; clear F a; intro a F
              refine t_oneg (i := 11) F (by kernel_rfl) rfl rfl rfl rfl (by have h := hl4.len; rw [(make_small hok1 hok2 (of_decide_eq_false g106)).1] at h; exact decide_eq_true (by have h2 : ((pMake s t).at l3 l4).whole.log.len = 0 := h; rw [h2]; rfl)) (o_call M F rfl (c_merge_Bytes M.imm hl3 hl4 (by have := (make_small hok1 hok2 (of_decide_eq_false g106)).2.2; omega) (by rw [(make_small hok1 hok2 (of_decide_eq_false g106)).1]; decide)) rfl ?_); clear F a; intro a W29 v29 G29 hp29 M E29 F
              have hl1 := hl1.mono E29.gl
              have hl2 := hl2.mono E29.gl
              have hl3 := hl3.mono E29.gl
              have hl4 := hl4.mono E29.gl
              have hl5 := hl5.mono E29.gl
              have hl8 := hl8.mono E29.gl
              subst hp29
              have hle3 := hle3.trans E29.gl
              refine keepAnd (Keeps.mk hle3 M (by repeat (first | exact List.Sublist.refl _ | apply List.Sublist.cons_cons | apply List.Sublist.cons))) (fun hq3 => ?_)
              refine t_takeg (i := 15) F rfl rfl rfl (by have h := hl4.len; rw [(make_small hok1 hok2 (of_decide_eq_false g106)).1] at h; exact decide_eq_true (by have h2 : ((pMake s t).at l3 l4).whole.log.len = 0 := h; rw [h2]; rfl)) rfl hq3 (fun _ _ => r_leq_i64 F rfl rfl) (fun _ _ _ h => h) (by kernel_rfl) (by kernel_rfl) (by kernel_rfl) (by kernel_rfl) ?_; clear F a; intro a F
              refine t_takeg (i := 16) F rfl rfl rfl g106 rfl hq3 (fun _ _ => r_pick_t F rfl (by have h := hl4.len; rw [(make_small hok1 hok2 (of_decide_eq_false g106)).1] at h; exact decide_eq_true (by have h2 : ((pMake s t).at l3 l4).whole.log.len = 0 := h; rw [h2]; rfl)) rfl) (fun _ _ _ h => h) (by kernel_rfl) (by kernel_rfl) (by kernel_rfl) (by kernel_rfl) ?_; clear F a; intro a F
              refine t_take (i := 17) F rfl rfl hq3 (fun _ _ => r_pick_f F rfl g106 rfl) (fun _ _ _ h => h) (by kernel_rfl) (by kernel_rfl) (by kernel_rfl) (by kernel_rfl) ?_; clear F a; intro a F
              refine t_take (i := 18) F rfl rfl hq3 (fun _ _ => r_assign F rfl) (fun _ _ _ h => h) (by kernel_rfl) (by kernel_rfl) (by kernel_rfl) (by kernel_rfl) ?_; clear F a; intro a F
              refine t_done (by kernel_rfl) ?_ _
              refine hK19 _ _ ?_
              refine wp_ret ?_
              exact ret1 Try.results15 M F (rv_tmp F rfl) (congrArg Value.bool (decide_eq_true (Int.le_trans (make_small hok1 hok2 (of_decide_eq_false g106)).2.1 (Int.le_of_eq (congrArg (fun n : Nat => (n : Int)) hl2.len.symm)))))
end Go.Proofs.Ytfkmaepcjognkaa.Pad
