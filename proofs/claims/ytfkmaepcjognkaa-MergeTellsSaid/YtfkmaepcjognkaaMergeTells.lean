/- The walk of MergeTells: it answers true. The states' and the difference's logs are slices, whatever they are. -/
import Derived.Test.YtfkmaepcjognkaaR8
namespace Go.Proofs.Ytfkmaepcjognkaa.Pad
open Go Go.Proofs
set_option linter.unusedVariables false
set_option maxRecDepth 8000
set_option maxHeartbeats 4000000
set_option linter.unusedSimpArgs false
theorem apply_code (s : PState) (d : PDiff) : (pApply s d).2 = 0 ∨ (pApply s d).2 = 80 := by
  have he : ∀ u : PState, (pEnd u d).2 = 0 ∨ (pEnd u d).2 = 80 := fun u => by unfold pEnd; split <;> simp
  unfold pApply
  split
  · exact .inr rfl
  · split
    · split
      · exact .inr rfl
      · exact .inl rfl
    · split
      · split
        · exact .inr rfl
        · split
          · exact .inr rfl
          · exact he _
      · exact he _
theorem make_len (s t : PState) : (pMake s t).log.length ≤ 1000 ∧ (pMake s t).whole.log.length ≤ 1000 := by
  unfold pMake
  split
  · exact ⟨by decide, by decide⟩
  · rename_i h
    simp only [not_or, Bool.not_eq_false] at h
    have h6 := is_len h.2
    split
    · exact ⟨by simp, by simp [pmHead]⟩
    · split
      · exact ⟨by simp, by simp only; omega⟩
      · exact ⟨by simp only [List.length_drop]; omega, by simp [pmHead]⟩
theorem c_paddocklaw8_few {w : World} {G0 : Ghost} (hI : Imm G0 w) {s : PState} {l : Sl} (hl : Ens G0 l s.log) : Ret P 55 [agg (GState.enc (s.at l))] [] w G0 (fun G W v => ∃ c : Bool, v = .bool c) := by
  refine enter Try.func55 rfl Try.ntmps55 rfl rfl hI (fun a F M => ?_)
  have hlen : (s.at l).log.len = s.log.length := hl.len
  refine c_seq (fun K1 hK1 => ?_)
  refine wp_region_lit ?_
  refine l_step rfl (o_box M F rfl rfl ?_); clear F a; intro a W1 b1 M F
  refine l_step rfl (o_val F (r_assign F rfl) rfl ?_); clear F a; intro a F
  refine l_nil ?_
  refine hK1 _ _ ?_
  refine c_seq (fun K2 hK2 => ?_)
  refine c_seq (fun K3 hK3 => ?_)
  refine wp_region_lit ?_
  refine l_step rfl (o_val F (r_assign F rfl) rfl ?_); clear F a; intro a F
  refine l_nil ?_
  refine hK3 _ _ ?_
  refine wp_block ?_
  refine c_loop (fun k a W => ∃ (i : Nat) (G : Ghost) , k = 6 - i ∧ i ≤ 6 ∧ Frm 20 [(3, .int .i64 (i : Int)), (1, .pointer (some ⟨b1, 0, none⟩))] a ∧ St [] w G0 W [⟨b1, 42, (s.at l).enc⟩] G ∧ (True)) (6) ?_ ?_
  · exact ⟨0, _, rfl, Nat.zero_le _, (F.cons (F.cons F.nil 1 rfl) 3 rfl), M, trivial⟩
  · clear F M a; intro k a W hI; obtain ⟨i, G, hk, hi, F, M, hf⟩ := hI
    refine c_seq (fun K4 hK4 => ?_)
    refine c_seq (fun K5 hK5 => ?_)
    refine wp_region_lit ?_
    refine l_step rfl (o_val F (r_move F rfl) rfl ?_); clear F a; intro a F
    refine l_step rfl (o_val F (r_lss_i64 F rfl rfl) rfl ?_); clear F a; intro a F
    refine l_nil ?_
    refine hK5 _ _ ?_
    refine c_cond F rfl (fun g5 => ?_) (fun g5 => ?_)
    · skip
      have hlt : i < 6 := by have h := of_decide_eq_true g5; omega
      have hk11 : (i : Int).toNat < 6 := by omega
      refine wp_skip ?_
      refine hK4 _ _ ?_
      refine c_seq (fun K6 hK6 => ?_)
      refine wp_block ?_
      refine c_seq (fun K7 hK7 => ?_)
      refine wp_region_lit ?_
      refine l_step rfl (o_val F (r_move F rfl) rfl ?_); clear F a; intro a F
      refine l_step rfl (o_val F (r_fieldAddr F rfl fld_State_1) rfl ?_); clear F a; intro a F
      refine l_step rfl (o_val F (r_fieldAddr F rfl fld_Base_0) rfl ?_); clear F a; intro a F
      refine l_step rfl (o_val F (r_indexArr F rfl rfl arr_Objs (by omega) (by omega)) rfl ?_); clear F a; intro a F
      refine l_step rfl (o_val F (r_fieldAddr F rfl fld_Obj_1) rfl ?_); clear F a; intro a F
      refine l_step rfl (o_val F (r_load1 M F rfl (by repeat (first | exact List.mem_cons_self | apply List.mem_cons_of_mem)) sca_string (g_State_1_0_i_1 hk11)) rfl ?_); clear F a; intro a F
      refine l_step rfl (o_val F (r_len_string F und_string rfl) rfl ?_); clear F a; intro a F
      refine l_step rfl (o_val F (r_gtr_i64 F rfl rfl) rfl ?_); clear F a; intro a F
      refine l_nil ?_
      refine hK7 _ _ ?_
      refine c_cond F rfl (fun g15 => ?_) (fun g15 => ?_)
      · skip
        refine c_seq (fun K8 hK8 => ?_)
        refine wp_region_lit ?_
        refine l_step rfl (o_val F (r_assign F rfl) rfl ?_); clear F a; intro a F
        refine l_nil ?_
        refine hK8 _ _ ?_
        refine wp_ret ?_
        exact ret1 Try.results55 M F (rv_tmp F rfl) (⟨_, rfl⟩)
      · skip
        refine wp_skip ?_
        refine hK6 _ _ ?_
        refine wp_region_lit ?_
        refine l_step rfl (o_val F (r_move F rfl) rfl ?_); clear F a; intro a F
        refine l_step rfl (o_val F (r_add_i64 F rfl rfl (by omega)) rfl ?_); clear F a; intro a F
        refine l_step rfl (o_val F (r_assign F rfl) rfl ?_); clear F a; intro a F
        refine l_nil ?_
        exact ⟨6 - (i + 1), by omega, i + 1, _, rfl, by omega, (F.cons (F.cons F.nil 1 rfl) 3 rfl), M.drop (by repeat (first | exact List.Sublist.refl _ | apply List.Sublist.cons_cons | apply List.Sublist.cons)), trivial⟩
    · skip
      have hge : i = 6 := by have h := of_decide_eq_false g5; omega
      refine wp_exit ?_
      refine hK2 _ _ ?_
      refine c_seq (fun K9 hK9 => ?_)
      refine wp_region_lit ?_
      refine l_step rfl (o_val F (r_fieldAddr F rfl fld_State_3) rfl ?_); clear F a; intro a F
      refine l_step rfl (o_val F (r_load1 M F rfl (by repeat (first | exact List.mem_cons_self | apply List.mem_cons_of_mem)) sca_Entries rfl) rfl ?_); clear F a; intro a F
      refine l_step rfl (o_val F (r_len_slice F slc_Entries.und rfl) rfl ?_); clear F a; intro a F
      refine l_step rfl (o_val F (r_leq_i64 F rfl rfl) rfl ?_); clear F a; intro a F
      refine l_step rfl (o_val F (r_assign F rfl) rfl ?_); clear F a; intro a F
      refine l_nil ?_
      refine hK9 _ _ ?_
      refine wp_ret ?_
      exact ret1 Try.results55 M F (rv_tmp F rfl) (⟨_, rfl⟩)
theorem c_paddocklaw8_same {w : World} {G0 : Ghost} (hI : Imm G0 w) {x y : PDiff} {l1 l2 l3 l4 : Sl} (hl1 : Ens G0 l1 x.log) (hl2 : Ens G0 l2 x.whole.log) (hl3 : Ens G0 l3 y.log) (hl4 : Ens G0 l4 y.whole.log) : Ret P 58 [agg (GDiff.enc (x.at l1 l2)), agg (GDiff.enc (y.at l3 l4))] [] w G0 (fun G W v => v = .bool (decide (x = y))) := by
  refine enter Try.func58 rfl Try.ntmps58 rfl rfl hI (fun a F M => ?_)
  have hlen : (x.at l1 l2).log.len = x.log.length := hl1.len
  have hlen1 : (y.at l3 l4).log.len = y.log.length := hl3.len
  have hlen0 := hl1.len
  have hmax := hl1.rd.max
  have hcap := hl1.rd.cap
  refine c_seq (fun K1 hK1 => ?_)
  refine wp_region_lit ?_
  refine l_step rfl (o_box M F rfl rfl ?_); clear F a; intro a W1 b1 M F
  refine l_step rfl (o_box M F rfl rfl ?_); clear F a; intro a W2 b2 M F
  refine l_step rfl (o_val F (r_assign F rfl) rfl ?_); clear F a; intro a F
  refine l_nil ?_
  refine hK1 _ _ ?_
  refine c_seq (fun K2 hK2 => ?_)
  refine c_seq (fun K3 hK3 => ?_)
  refine wp_region_lit ?_
  refine l_step rfl (o_val F (r_fieldAddr F rfl fld_Diff_0) rfl ?_); clear F a; intro a F
  refine l_step rfl (o_val F (r_load1 M F rfl (by repeat (first | exact List.mem_cons_self | apply List.mem_cons_of_mem)) sca_int rfl) rfl ?_); clear F a; intro a F
  refine l_step rfl (o_val F (r_fieldAddr F rfl fld_Diff_0) rfl ?_); clear F a; intro a F
  refine l_step rfl (o_val F (r_load1 M F rfl (by repeat (first | exact List.mem_cons_self | apply List.mem_cons_of_mem)) sca_int rfl) rfl ?_); clear F a; intro a F
  refine l_step rfl (o_val F (r_neq_i64 F rfl rfl) rfl ?_); clear F a; intro a F
  refine l_step rfl (o_val F (r_move F rfl) rfl ?_); clear F a; intro a F
  refine c_split F (i := 11) rfl (fun g11 => ?_) (fun g11 => ?_)
  · skip
    iterate 5 (refine l_skip F rfl rfl rfl g11 rfl rfl ?_; clear F a; intro a F)
    refine l_step rfl (o_val F (r_pick_t F rfl g11 rfl) rfl ?_); clear F a; intro a F
    refine l_step rfl (o_val F (r_move F rfl) rfl ?_); clear F a; intro a F
    iterate 7 (refine l_skip F rfl rfl rfl rfl rfl rfl ?_; clear F a; intro a F)
    refine l_step rfl (o_val F (r_pick_t F rfl rfl rfl) rfl ?_); clear F a; intro a F
    refine l_step rfl (o_val F (r_move F rfl) rfl ?_); clear F a; intro a F
    iterate 6 (refine l_skip F rfl rfl rfl rfl rfl rfl ?_; clear F a; intro a F)
    refine l_step rfl (o_val F (r_pick_t F rfl rfl rfl) rfl ?_); clear F a; intro a F
    refine l_nil ?_
    refine hK3 _ _ ?_
    refine c_true F rfl rfl ?_
    refine c_seq (fun K4 hK4 => ?_)
    refine wp_region_lit ?_
    refine l_step rfl (o_val F (r_assign F rfl) rfl ?_); clear F a; intro a F
    refine l_nil ?_
    refine hK4 _ _ ?_
    refine wp_ret ?_
    exact ret1 Try.results58 M F (rv_tmp F rfl) (by have hst : ¬ x = y := (fun h => by { subst h; first | (simp at g11; done) | (simp at g18; done) | (have h3 := g27; rw [hlen, hlen1] at h3; simp at h3; done) | (simp at g34; done) | (simp at g34; done) | (rw [hx] at hy; injection hy with hy; simp [hy] at g52) }); simp [hst])
  · skip
    refine l_guard F rfl rfl rfl g11 (o_val F (r_fieldAddr F rfl fld_Diff_1) rfl ?_); clear F a; intro a F
    refine l_guard F rfl rfl rfl g11 (o_val F (r_load1 M F rfl (by repeat (first | exact List.mem_cons_self | apply List.mem_cons_of_mem)) sca_u32 rfl) rfl ?_); clear F a; intro a F
    refine l_guard F rfl rfl rfl g11 (o_val F (r_fieldAddr F rfl fld_Diff_1) rfl ?_); clear F a; intro a F
    refine l_guard F rfl rfl rfl g11 (o_val F (r_load1 M F rfl (by repeat (first | exact List.mem_cons_self | apply List.mem_cons_of_mem)) sca_u32 rfl) rfl ?_); clear F a; intro a F
    refine l_guard F rfl rfl rfl g11 (o_val F (r_neq_u32 F rfl rfl) rfl ?_); clear F a; intro a F
    refine l_step rfl (o_val F (r_pick_f F rfl g11 rfl) rfl ?_); clear F a; intro a F
    refine l_step rfl (o_val F (r_move F rfl) rfl ?_); clear F a; intro a F
    refine c_split F (i := 18) rfl (fun g18 => ?_) (fun g18 => ?_)
    · skip
      iterate 7 (refine l_skip F rfl rfl rfl g18 rfl rfl ?_; clear F a; intro a F)
      refine l_step rfl (o_val F (r_pick_t F rfl g18 rfl) rfl ?_); clear F a; intro a F
      refine l_step rfl (o_val F (r_move F rfl) rfl ?_); clear F a; intro a F
      iterate 6 (refine l_skip F rfl rfl rfl rfl rfl rfl ?_; clear F a; intro a F)
      refine l_step rfl (o_val F (r_pick_t F rfl rfl rfl) rfl ?_); clear F a; intro a F
      refine l_nil ?_
      refine hK3 _ _ ?_
      refine c_true F rfl rfl ?_
      refine c_seq (fun K5 hK5 => ?_)
      refine wp_region_lit ?_
      refine l_step rfl (o_val F (r_assign F rfl) rfl ?_); clear F a; intro a F
      refine l_nil ?_
      refine hK5 _ _ ?_
      refine wp_ret ?_
      exact ret1 Try.results58 M F (rv_tmp F rfl) (by have hst : ¬ x = y := (fun h => by { subst h; first | (simp at g11; done) | (simp at g18; done) | (have h3 := g27; rw [hlen, hlen1] at h3; simp at h3; done) | (simp at g34; done) | (simp at g34; done) | (rw [hx] at hy; injection hy with hy; simp [hy] at g52) }); simp [hst])
    · skip
      refine l_guard F rfl rfl rfl g18 (o_val F (r_fieldAddr F rfl fld_Diff_2) rfl ?_); clear F a; intro a F
      refine l_guard F rfl rfl rfl g18 (o_val F (r_load1 M F rfl (by repeat (first | exact List.mem_cons_self | apply List.mem_cons_of_mem)) sca_Entries rfl) rfl ?_); clear F a; intro a F
      refine l_guard F rfl rfl rfl g18 (o_val F (r_len_slice F slc_Entries.und rfl) rfl ?_); clear F a; intro a F
      refine l_guard F rfl rfl rfl g18 (o_val F (r_fieldAddr F rfl fld_Diff_2) rfl ?_); clear F a; intro a F
      refine l_guard F rfl rfl rfl g18 (o_val F (r_load1 M F rfl (by repeat (first | exact List.mem_cons_self | apply List.mem_cons_of_mem)) sca_Entries rfl) rfl ?_); clear F a; intro a F
      refine l_guard F rfl rfl rfl g18 (o_val F (r_len_slice F slc_Entries.und rfl) rfl ?_); clear F a; intro a F
      refine l_guard F rfl rfl rfl g18 (o_val F (r_neq_i64 F rfl rfl) rfl ?_); clear F a; intro a F
      refine l_step rfl (o_val F (r_pick_f F rfl g18 rfl) rfl ?_); clear F a; intro a F
      refine l_step rfl (o_val F (r_move F rfl) rfl ?_); clear F a; intro a F
      refine c_split F (i := 27) rfl (fun g27 => ?_) (fun g27 => ?_)
      · skip
        iterate 6 (refine l_skip F rfl rfl rfl g27 rfl rfl ?_; clear F a; intro a F)
        refine l_step rfl (o_val F (r_pick_t F rfl g27 rfl) rfl ?_); clear F a; intro a F
        refine l_nil ?_
        refine hK3 _ _ ?_
        refine c_true F rfl rfl ?_
        refine c_seq (fun K6 hK6 => ?_)
        refine wp_region_lit ?_
        refine l_step rfl (o_val F (r_assign F rfl) rfl ?_); clear F a; intro a F
        refine l_nil ?_
        refine hK6 _ _ ?_
        refine wp_ret ?_
        exact ret1 Try.results58 M F (rv_tmp F rfl) (by have hst : ¬ x = y := (fun h => by { subst h; first | (simp at g11; done) | (simp at g18; done) | (have h3 := g27; rw [hlen, hlen1] at h3; simp at h3; done) | (simp at g34; done) | (simp at g34; done) | (rw [hx] at hy; injection hy with hy; simp [hy] at g52) }); simp [hst])
      · skip
        refine l_guard F rfl rfl rfl g27 (o_val F (r_fieldAddr F rfl fld_Diff_3) rfl ?_); clear F a; intro a F
        refine l_guard F rfl rfl rfl g27 (o_val F (r_load M F rfl (by repeat (first | exact List.mem_cons_self | apply List.mem_cons_of_mem)) agg_State g_Diff_3) rfl ?_); clear F a; intro a F
        refine l_guard F rfl rfl rfl g27 (o_val F (r_fieldAddr F rfl fld_Diff_3) rfl ?_); clear F a; intro a F
        refine l_guard F rfl rfl rfl g27 (o_val F (r_load M F rfl (by repeat (first | exact List.mem_cons_self | apply List.mem_cons_of_mem)) agg_State g_Diff_3) rfl ?_); clear F a; intro a F
        refine l_guard F rfl rfl rfl g27 (o_call M F rfl (c_paddockref6_Same M.imm (hl2.mono M.gl) (hl4.mono M.gl)) rfl ?_); clear F a; intro a W3 v3 G3 hp3 M E3 F
        subst hp3
        refine l_guard F rfl rfl rfl g27 (o_val F (r_not F rfl) rfl ?_); clear F a; intro a F
        refine l_step rfl (o_val F (r_pick_f F rfl g27 rfl) rfl ?_); clear F a; intro a F
        refine l_nil ?_
        refine hK3 _ _ ?_
        refine c_cond F rfl (fun g34 => ?_) (fun g34 => ?_)
        · skip
          refine c_seq (fun K7 hK7 => ?_)
          refine wp_region_lit ?_
          refine l_step rfl (o_val F (r_assign F rfl) rfl ?_); clear F a; intro a F
          refine l_nil ?_
          refine hK7 _ _ ?_
          refine wp_ret ?_
          exact ret1 Try.results58 M F (rv_tmp F rfl) (by have hst : ¬ x = y := (fun h => by { subst h; first | (simp at g11; done) | (simp at g18; done) | (have h3 := g27; rw [hlen, hlen1] at h3; simp at h3; done) | (simp at g34; done) | (simp at g34; done) | (rw [hx] at hy; injection hy with hy; simp [hy] at g52) }); simp [hst])
        · skip
          refine wp_skip ?_
          refine hK2 _ _ ?_
          refine c_seq (fun K8 hK8 => ?_)
          refine c_seq (fun K9 hK9 => ?_)
          refine wp_region_lit ?_
          refine l_step rfl (o_val F (r_assign F rfl) rfl ?_); clear F a; intro a F
          refine l_nil ?_
          refine hK9 _ _ ?_
          refine wp_block ?_
          have heq : x.log.length = y.log.length := by have h := g27; rw [hlen, hlen1] at h; have h2 : (x.log.length : Int) = y.log.length := (by simpa using h); omega
          refine c_loop (fun k a W => ∃ (i : Nat) (G : Ghost) , k = x.log.length - i ∧ i ≤ x.log.length ∧ Frm 53 [(5, .int .i64 (i : Int)), (3, .pointer (some ⟨b2, 0, none⟩)), (2, .pointer (some ⟨b1, 0, none⟩))] a ∧ St [] w G0 W [⟨b2, 94, (y.at l3 l4).enc⟩, ⟨b1, 94, (x.at l1 l2).enc⟩] G ∧ (x.log.take i = y.log.take i)) (x.log.length) ?_ ?_
          · exact ⟨0, _, rfl, Nat.zero_le _, (F.cons (F.cons (F.cons F.nil 2 rfl) 3 rfl) 5 rfl), M, rfl⟩
          · clear F M a; intro k a W hI; obtain ⟨i, G, hk, hi, F, M, hf⟩ := hI
            refine c_seq (fun K10 hK10 => ?_)
            refine c_seq (fun K11 hK11 => ?_)
            refine wp_region_lit ?_
            refine l_step rfl (o_val F (r_move F rfl) rfl ?_); clear F a; intro a F
            refine l_step rfl (o_val F (r_fieldAddr F rfl fld_Diff_2) rfl ?_); clear F a; intro a F
            refine l_step rfl (o_val F (r_load1 M F rfl (by repeat (first | exact List.mem_cons_self | apply List.mem_cons_of_mem)) sca_Entries rfl) rfl ?_); clear F a; intro a F
            refine l_step rfl (o_val F (r_len_slice F slc_Entries.und rfl) rfl ?_); clear F a; intro a F
            refine l_step rfl (o_val F (r_lss_i64 F rfl rfl) rfl ?_); clear F a; intro a F
            refine l_nil ?_
            refine hK11 _ _ ?_
            refine c_cond F rfl (fun g39 => ?_) (fun g39 => ?_)
            · skip
              have hlt : i < x.log.length := by have h := of_decide_eq_true g39; omega
              obtain ⟨u, hx⟩ := get_of hlt
              obtain ⟨z, hy⟩ := get_of (heq ▸ hlt)
              refine wp_skip ?_
              refine hK10 _ _ ?_
              refine c_seq (fun K12 hK12 => ?_)
              refine wp_block ?_
              refine c_seq (fun K13 hK13 => ?_)
              refine c_drawM M [] mixed (fun M => ?_)
              have Ms := M
              have hq1 := Keeps.here M
              have hle1 := M.gle
              obtain ⟨eb, eo, er, ha45, hG45, hS45⟩ := (hl1.mono Ms.gl).elem hx
              obtain ⟨eb1, eo1, er1, ha50, hG50, hS50⟩ := (hl3.mono Ms.gl).elem hy
              refine t_take (i := 0) F rfl rfl hq1 (fun _ _ => r_fieldAddr F rfl fld_Diff_2) (fun _ _ _ h => h) (by kernel_rfl) (by kernel_rfl) (by kernel_rfl) (by kernel_rfl) ?_; clear F a; intro a F
              refine t_take (i := 1) F rfl rfl hq1 (fun _ ⟨_, _, M'⟩ => r_load1 M' F rfl (by repeat (first | exact List.mem_cons_self | apply List.mem_cons_of_mem)) sca_Entries rfl) (fun _ _ _ h => h) (by kernel_rfl) (by kernel_rfl) (by kernel_rfl) (by kernel_rfl) ?_; clear F a; intro a F
              refine t_take (i := 2) F rfl rfl hq1 (fun _ _ => r_move F rfl) (fun _ _ _ h => h) (by kernel_rfl) (by kernel_rfl) (by kernel_rfl) (by kernel_rfl) ?_; clear F a; intro a F
              refine t_take (i := 3) F rfl rfl hq1 (fun _ _ => r_indexSl F rfl rfl slc_Entries ha45 (by omega) (by omega)) (fun _ _ _ h => h) (by kernel_rfl) (by kernel_rfl) (by kernel_rfl) (by kernel_rfl) ?_; clear F a; intro a F
              refine t_take (i := 4) F rfl rfl hq1 (fun _ ⟨_, hg, M'⟩ => r_loadrG hg M' F rfl hG45 agg_Entry hS45) (fun _ _ _ h => h) (by kernel_rfl) (by kernel_rfl) (by kernel_rfl) (by kernel_rfl) ?_; clear F a; intro a F
              refine t_take (i := 5) F rfl rfl hq1 (fun _ _ => r_fieldAddr F rfl fld_Diff_2) (fun _ _ _ h => h) (by kernel_rfl) (by kernel_rfl) (by kernel_rfl) (by kernel_rfl) ?_; clear F a; intro a F
              refine t_take (i := 6) F rfl rfl hq1 (fun _ ⟨_, _, M'⟩ => r_load1 M' F rfl (by repeat (first | exact List.mem_cons_self | apply List.mem_cons_of_mem)) sca_Entries rfl) (fun _ _ _ h => h) (by kernel_rfl) (by kernel_rfl) (by kernel_rfl) (by kernel_rfl) ?_; clear F a; intro a F
              refine t_take (i := 7) F rfl rfl hq1 (fun _ _ => r_move F rfl) (fun _ _ _ h => h) (by kernel_rfl) (by kernel_rfl) (by kernel_rfl) (by kernel_rfl) ?_; clear F a; intro a F
              refine t_take (i := 8) F rfl rfl hq1 (fun _ _ => r_indexSl F rfl rfl slc_Entries ha50 (by omega) (by omega)) (fun _ _ _ h => h) (by kernel_rfl) (by kernel_rfl) (by kernel_rfl) (by kernel_rfl) ?_; clear F a; intro a F
              refine t_take (i := 9) F rfl rfl hq1 (fun _ ⟨_, hg, M'⟩ => r_loadrG hg M' F rfl hG50 agg_Entry hS50) (fun _ _ _ h => h) (by kernel_rfl) (by kernel_rfl) (by kernel_rfl) (by kernel_rfl) ?_; clear F a; intro a F
              refine t_take (i := 10) F rfl rfl hq1 (fun _ _ => r_neq_Entry F rfl rfl) (fun _ _ _ h => h) (by kernel_rfl) (by kernel_rfl) (by kernel_rfl) (by kernel_rfl) ?_; clear F a; intro a F
              refine t_done (by kernel_rfl) ?_ _
              refine hK13 _ _ ?_
              refine c_cond F rfl (fun g52 => ?_) (fun g52 => ?_)
              · skip
                refine c_seq (fun K14 hK14 => ?_)
                refine wp_region_lit ?_
                refine l_step rfl (o_val F (r_assign F rfl) rfl ?_); clear F a; intro a F
                refine l_nil ?_
                refine hK14 _ _ ?_
                refine wp_ret ?_
                exact ret1 Try.results58 M F (rv_tmp F rfl) (by have hst : ¬ x = y := (fun h => by { subst h; first | (simp at g11; done) | (simp at g18; done) | (have h3 := g27; rw [hlen, hlen1] at h3; simp at h3; done) | (simp at g34; done) | (simp at g34; done) | (rw [hx] at hy; injection hy with hy; simp [hy] at g52) }); simp [hst])
              · skip
                refine wp_skip ?_
                refine hK12 _ _ ?_
                refine wp_region_lit ?_
                refine l_step rfl (o_val F (r_move F rfl) rfl ?_); clear F a; intro a F
                refine l_step rfl (o_val F (r_add_i64 F rfl rfl (by omega)) rfl ?_); clear F a; intro a F
                refine l_step rfl (o_val F (r_assign F rfl) rfl ?_); clear F a; intro a F
                refine l_nil ?_
                exact ⟨x.log.length - (i + 1), by omega, i + 1, _, rfl, by omega, (F.cons (F.cons (F.cons F.nil 2 rfl) 3 rfl) 5 rfl), M.drop (by repeat (first | exact List.Sublist.refl _ | apply List.Sublist.cons_cons | apply List.Sublist.cons)), (by rw [take_of hx, take_of hy, hf, (by simpa using g52 : u = z)])⟩
            · skip
              have hge : i = x.log.length := by have h := of_decide_eq_false g39; omega
              rw [hge, List.take_length, heq, List.take_length] at hf
              refine wp_exit ?_
              refine hK8 _ _ ?_
              refine c_seq (fun K15 hK15 => ?_)
              refine wp_region_lit ?_
              refine l_step rfl (o_val F (r_assign F rfl) rfl ?_); clear F a; intro a F
              refine l_nil ?_
              refine hK15 _ _ ?_
              refine wp_ret ?_
              exact ret1 Try.results58 M F (rv_tmp F rfl) (by have hst : x = y := (by { obtain ⟨a, b, c, d⟩ := x; obtain ⟨a1, b1, c1, d1⟩ := y; simp only [PDiff.mk.injEq]; exact ⟨by simpa using g11, by simpa using g18, hf, by first | simpa using g34 | simpa using g34⟩ }); simp [hst])
theorem c_paddocklaw8_MergeTells {w : World} {G0 : Ghost} (hI : Imm G0 w) {s t : PState} {l l1 : Sl} {d : PDiff} {l2 l3 : Sl} (hl : Ens G0 l s.log) (hl1 : Ens G0 l1 t.log) (hl2 : Ens G0 l2 d.log) (hl3 : Ens G0 l3 d.whole.log) : Ret P 14 [agg (GState.enc (s.at l)), agg (GState.enc (t.at l1)), agg (GDiff.enc (d.at l2 l3))] [] w G0 (fun G W v => v = .bool true) := by
  refine enter Try.func14 rfl Try.ntmps14 rfl rfl hI (fun a F M => ?_)
  have hmn := make_len s t
  refine c_seq (fun K1 hK1 => ?_)
  refine wp_region_lit ?_
  refine l_step rfl (o_box M F rfl rfl ?_); clear F a; intro a W1 b1 M F
  refine l_step rfl (o_box M F rfl rfl ?_); clear F a; intro a W2 b2 M F
  refine l_step rfl (o_box M F rfl rfl ?_); clear F a; intro a W3 b3 M F
  refine l_step rfl (o_val F (r_assign F rfl) rfl ?_); clear F a; intro a F
  refine l_nil ?_
  refine hK1 _ _ ?_
  refine c_seq (fun K2 hK2 => ?_)
  refine c_seq (fun K3 hK3 => ?_)
  refine wp_region_lit ?_
  refine l_step rfl (o_call M F rfl (c_paddocklaw8_known M.imm) rfl ?_); clear F a; intro a W4 v4 G4 hp4 M E4 F
  have hl := hl.mono E4.gl
  have hl1 := hl1.mono E4.gl
  have hl2 := hl2.mono E4.gl
  have hl3 := hl3.mono E4.gl
  subst hp4
  refine l_step rfl (o_val F (r_not F rfl) rfl ?_); clear F a; intro a F
  refine l_nil ?_
  refine hK3 _ _ ?_
  refine c_false F rfl rfl ?_
  refine wp_skip ?_
  refine hK2 _ _ ?_
  refine c_seq (fun K4 hK4 => ?_)
  refine c_seq (fun K5 hK5 => ?_)
  refine wp_region_lit ?_
  refine l_step rfl (o_val F (r_load M F rfl (by repeat (first | exact List.mem_cons_self | apply List.mem_cons_of_mem)) agg_State (seg_all rfl)) rfl ?_); clear F a; intro a F
  refine l_step rfl (o_call M F rfl (c_paddocklaw8_few M.imm hl) rfl ?_); clear F a; intro a W5 v5 G5 hp5 M E5 F
  have hl := hl.mono E5.gl
  have hl1 := hl1.mono E5.gl
  have hl2 := hl2.mono E5.gl
  have hl3 := hl3.mono E5.gl
  obtain ⟨c1, rfl⟩ := hp5
  refine l_step rfl (o_val F (r_not F rfl) rfl ?_); clear F a; intro a F
  refine l_step rfl (o_val F (r_move F rfl) rfl ?_); clear F a; intro a F
  refine c_split F (i := 18) rfl (fun g18 => ?_) (fun g18 => ?_)
  · skip
    iterate 3 (refine l_skip F rfl rfl rfl g18 rfl rfl ?_; clear F a; intro a F)
    refine l_step rfl (o_val F (r_pick_t F rfl g18 rfl) rfl ?_); clear F a; intro a F
    refine l_step rfl (o_val F (r_move F rfl) rfl ?_); clear F a; intro a F
    iterate 4 (refine l_skip F rfl rfl rfl rfl rfl rfl ?_; clear F a; intro a F)
    refine l_step rfl (o_val F (r_pick_t F rfl rfl rfl) rfl ?_); clear F a; intro a F
    refine l_step rfl (o_val F (r_move F rfl) rfl ?_); clear F a; intro a F
    iterate 4 (refine l_skip F rfl rfl rfl rfl rfl rfl ?_; clear F a; intro a F)
    refine l_step rfl (o_val F (r_pick_t F rfl rfl rfl) rfl ?_); clear F a; intro a F
    refine l_nil ?_
    refine hK5 _ _ ?_
    refine c_true F rfl rfl ?_
    refine c_seq (fun K6 hK6 => ?_)
    refine wp_region_lit ?_
    refine l_step rfl (o_val F (r_assign F rfl) rfl ?_); clear F a; intro a F
    refine l_nil ?_
    refine hK6 _ _ ?_
    refine wp_ret ?_
    exact ret1 Try.results14 M F (rv_tmp F rfl) (rfl)
  · skip
    refine l_guard F rfl rfl rfl g18 (o_val F (r_load M F rfl (by repeat (first | exact List.mem_cons_self | apply List.mem_cons_of_mem)) agg_State (seg_all rfl)) rfl ?_); clear F a; intro a F
    refine l_guard F rfl rfl rfl g18 (o_call M F rfl (c_paddocklaw8_few M.imm hl1) rfl ?_); clear F a; intro a W6 v6 G6 hp6 M E6 F
    have hl := hl.mono E6.gl
    have hl1 := hl1.mono E6.gl
    have hl2 := hl2.mono E6.gl
    have hl3 := hl3.mono E6.gl
    obtain ⟨c2, rfl⟩ := hp6
    refine l_guard F rfl rfl rfl g18 (o_val F (r_not F rfl) rfl ?_); clear F a; intro a F
    refine l_step rfl (o_val F (r_pick_f F rfl g18 rfl) rfl ?_); clear F a; intro a F
    refine l_step rfl (o_val F (r_move F rfl) rfl ?_); clear F a; intro a F
    refine c_split F (i := 23) rfl (fun g23 => ?_) (fun g23 => ?_)
    · skip
      iterate 4 (refine l_skip F rfl rfl rfl g23 rfl rfl ?_; clear F a; intro a F)
      refine l_step rfl (o_val F (r_pick_t F rfl g23 rfl) rfl ?_); clear F a; intro a F
      refine l_step rfl (o_val F (r_move F rfl) rfl ?_); clear F a; intro a F
      iterate 4 (refine l_skip F rfl rfl rfl rfl rfl rfl ?_; clear F a; intro a F)
      refine l_step rfl (o_val F (r_pick_t F rfl rfl rfl) rfl ?_); clear F a; intro a F
      refine l_nil ?_
      refine hK5 _ _ ?_
      refine c_true F rfl rfl ?_
      refine c_seq (fun K7 hK7 => ?_)
      refine wp_region_lit ?_
      refine l_step rfl (o_val F (r_assign F rfl) rfl ?_); clear F a; intro a F
      refine l_nil ?_
      refine hK7 _ _ ?_
      refine wp_ret ?_
      exact ret1 Try.results14 M F (rv_tmp F rfl) (rfl)
    · skip
      refine l_guard F rfl rfl rfl g23 (o_val F (r_fieldAddr F rfl fld_Diff_3) rfl ?_); clear F a; intro a F
      refine l_guard F rfl rfl rfl g23 (o_val F (r_load M F rfl (by repeat (first | exact List.mem_cons_self | apply List.mem_cons_of_mem)) agg_State g_Diff_3) rfl ?_); clear F a; intro a F
      refine l_guard F rfl rfl rfl g23 (o_call M F rfl (c_paddocklaw8_few M.imm hl3) rfl ?_); clear F a; intro a W7 v7 G7 hp7 M E7 F
      have hl := hl.mono E7.gl
      have hl1 := hl1.mono E7.gl
      have hl2 := hl2.mono E7.gl
      have hl3 := hl3.mono E7.gl
      obtain ⟨c3, rfl⟩ := hp7
      refine l_guard F rfl rfl rfl g23 (o_val F (r_not F rfl) rfl ?_); clear F a; intro a F
      refine l_step rfl (o_val F (r_pick_f F rfl g23 rfl) rfl ?_); clear F a; intro a F
      refine l_step rfl (o_val F (r_move F rfl) rfl ?_); clear F a; intro a F
      refine c_split F (i := 29) rfl (fun g29 => ?_) (fun g29 => ?_)
      · skip
        iterate 4 (refine l_skip F rfl rfl rfl g29 rfl rfl ?_; clear F a; intro a F)
        refine l_step rfl (o_val F (r_pick_t F rfl g29 rfl) rfl ?_); clear F a; intro a F
        refine l_nil ?_
        refine hK5 _ _ ?_
        refine c_true F rfl rfl ?_
        refine c_seq (fun K8 hK8 => ?_)
        refine wp_region_lit ?_
        refine l_step rfl (o_val F (r_assign F rfl) rfl ?_); clear F a; intro a F
        refine l_nil ?_
        refine hK8 _ _ ?_
        refine wp_ret ?_
        exact ret1 Try.results14 M F (rv_tmp F rfl) (rfl)
      · skip
        refine l_guard F rfl rfl rfl g29 (o_val F (r_fieldAddr F rfl fld_Diff_2) rfl ?_); clear F a; intro a F
        refine l_guard F rfl rfl rfl g29 (o_val F (r_load1 M F rfl (by repeat (first | exact List.mem_cons_self | apply List.mem_cons_of_mem)) sca_Entries rfl) rfl ?_); clear F a; intro a F
        refine l_guard F rfl rfl rfl g29 (o_val F (r_len_slice F slc_Entries.und rfl) rfl ?_); clear F a; intro a F
        refine l_guard F rfl rfl rfl g29 (o_val F (r_gtr_i64 F rfl rfl) rfl ?_); clear F a; intro a F
        refine l_step rfl (o_val F (r_pick_f F rfl g29 rfl) rfl ?_); clear F a; intro a F
        refine l_nil ?_
        refine hK5 _ _ ?_
        refine c_cond F rfl (fun g34 => ?_) (fun g34 => ?_)
        · skip
          refine c_seq (fun K9 hK9 => ?_)
          refine wp_region_lit ?_
          refine l_step rfl (o_val F (r_assign F rfl) rfl ?_); clear F a; intro a F
          refine l_nil ?_
          refine hK9 _ _ ?_
          refine wp_ret ?_
          exact ret1 Try.results14 M F (rv_tmp F rfl) (rfl)
        · skip
          refine wp_skip ?_
          refine hK4 _ _ ?_
          refine c_seq (fun K10 hK10 => ?_)
          refine wp_region_lit ?_
          refine l_step rfl (o_val F (r_load M F rfl (by repeat (first | exact List.mem_cons_self | apply List.mem_cons_of_mem)) agg_State (seg_all rfl)) rfl ?_); clear F a; intro a F
          refine l_step rfl (o_val F (r_load M F rfl (by repeat (first | exact List.mem_cons_self | apply List.mem_cons_of_mem)) agg_State (seg_all rfl)) rfl ?_); clear F a; intro a F
          refine l_step rfl (o_call M F rfl (c_merge_Make M.imm hl hl1) rfl ?_); clear F a; intro a W8 v8 G8 hp8 M E8 F
          have hl := hl.mono E8.gl
          have hl1 := hl1.mono E8.gl
          have hl2 := hl2.mono E8.gl
          have hl3 := hl3.mono E8.gl
          obtain ⟨l4, l5, rfl, hl4, hl5⟩ := hp8
          refine l_step rfl (o_alloc M F zer_Diff rfl ?_); clear F a; intro a W9 b4 M F
          refine l_step rfl (o_storeA M F rfl rfl agg_Diff.size (by repeat (first | exact Upd.here _ _ _ _ _ | apply Upd.there)) (by rfl) (by rfl) (by rfl) ?_); clear F a; intro a W10 M F
          refine l_nil ?_
          refine hK10 _ _ ?_
          refine c_seq (fun K11 hK11 => ?_)
          refine wp_region_lit ?_
          refine l_step rfl (o_val F (r_load M F rfl (by repeat (first | exact List.mem_cons_self | apply List.mem_cons_of_mem)) agg_State (seg_all rfl)) rfl ?_); clear F a; intro a F
          refine l_step rfl (o_val F (r_load M F rfl (by repeat (first | exact List.mem_cons_self | apply List.mem_cons_of_mem)) agg_State (seg_all rfl)) rfl ?_); clear F a; intro a F
          refine l_step rfl (o_call M F rfl (c_paddockref8_Make M.imm hl hl1) rfl ?_); clear F a; intro a W11 v11 G11 hp11 M E11 F
          have hl := hl.mono E11.gl
          have hl1 := hl1.mono E11.gl
          have hl2 := hl2.mono E11.gl
          have hl3 := hl3.mono E11.gl
          have hl4 := hl4.mono E11.gl
          have hl5 := hl5.mono E11.gl
          obtain ⟨l6, l7, rfl, hl6, hl7⟩ := hp11
          refine l_step rfl (o_alloc M F zer_Diff rfl ?_); clear F a; intro a W12 b5 M F
          refine l_step rfl (o_storeA M F rfl rfl agg_Diff.size (by repeat (first | exact Upd.here _ _ _ _ _ | apply Upd.there)) (by rfl) (by rfl) (by rfl) ?_); clear F a; intro a W13 M F
          refine l_nil ?_
          refine hK11 _ _ ?_
          refine c_seq (fun K12 hK12 => ?_)
          refine wp_region_lit ?_
          refine l_step rfl (o_val F (r_load M F rfl (by repeat (first | exact List.mem_cons_self | apply List.mem_cons_of_mem)) agg_State (seg_all rfl)) rfl ?_); clear F a; intro a F
          refine l_step rfl (o_val F (r_load M F rfl (by repeat (first | exact List.mem_cons_self | apply List.mem_cons_of_mem)) agg_Diff (seg_all rfl)) rfl ?_); clear F a; intro a F
          refine l_step rfl (o_call M F rfl (c_merge_Apply M.imm hl hl2 hl3) rfl ?_); clear F a; intro a W14 v14 G14 hp14 M E14 F
          have hl := hl.mono E14.gl
          have hl1 := hl1.mono E14.gl
          have hl2 := hl2.mono E14.gl
          have hl3 := hl3.mono E14.gl
          have hl4 := hl4.mono E14.gl
          have hl5 := hl5.mono E14.gl
          have hl6 := hl6.mono E14.gl
          have hl7 := hl7.mono E14.gl
          obtain ⟨l8, rfl, hl8⟩ := hp14
          refine l_step rfl (o_val F (r_move F rfl) rfl ?_); clear F a; intro a F
          refine l_step rfl (o_val F (r_extract F rfl rfl) rfl ?_); clear F a; intro a F
          refine l_step rfl (o_val F (r_extract F rfl rfl) rfl ?_); clear F a; intro a F
          refine l_step rfl (o_alloc M F zer_State rfl ?_); clear F a; intro a W15 b6 M F
          refine l_step rfl (o_storeA M F rfl rfl agg_State.size (by repeat (first | exact Upd.here _ _ _ _ _ | apply Upd.there)) (by rfl) (by rfl) (by rfl) ?_); clear F a; intro a W16 M F
          refine l_step rfl (o_val F (r_assign F rfl) rfl ?_); clear F a; intro a F
          refine l_nil ?_
          refine hK12 _ _ ?_
          refine c_seq (fun K13 hK13 => ?_)
          refine wp_region_lit ?_
          refine l_step rfl (o_val F (r_load M F rfl (by repeat (first | exact List.mem_cons_self | apply List.mem_cons_of_mem)) agg_State (seg_all rfl)) rfl ?_); clear F a; intro a F
          refine l_step rfl (o_val F (r_load M F rfl (by repeat (first | exact List.mem_cons_self | apply List.mem_cons_of_mem)) agg_Diff (seg_all rfl)) rfl ?_); clear F a; intro a F
          refine l_step rfl (o_call M F rfl (c_paddockref8_Apply M.imm hl hl2 hl3) rfl ?_); clear F a; intro a W17 v17 G17 hp17 M E17 F
          have hl := hl.mono E17.gl
          have hl1 := hl1.mono E17.gl
          have hl2 := hl2.mono E17.gl
          have hl3 := hl3.mono E17.gl
          have hl4 := hl4.mono E17.gl
          have hl5 := hl5.mono E17.gl
          have hl6 := hl6.mono E17.gl
          have hl7 := hl7.mono E17.gl
          have hl8 := hl8.mono E17.gl
          obtain ⟨l9, rfl, hl9⟩ := hp17
          refine l_step rfl (o_val F (r_move F rfl) rfl ?_); clear F a; intro a F
          refine l_step rfl (o_val F (r_extract F rfl rfl) rfl ?_); clear F a; intro a F
          refine l_step rfl (o_val F (r_extract F rfl rfl) rfl ?_); clear F a; intro a F
          refine l_step rfl (o_alloc M F zer_State rfl ?_); clear F a; intro a W18 b7 M F
          refine l_step rfl (o_storeA M F rfl rfl agg_State.size (by repeat (first | exact Upd.here _ _ _ _ _ | apply Upd.there)) (by rfl) (by rfl) (by rfl) ?_); clear F a; intro a W19 M F
          refine l_step rfl (o_val F (r_assign F rfl) rfl ?_); clear F a; intro a F
          refine l_nil ?_
          refine hK13 _ _ ?_
          refine c_seq (fun K14 hK14 => ?_)
          refine c_drawM M [] mixed (fun M => ?_)
          have Ms := M
          have hq1 := Keeps.here M
          have hle1 := M.gle
          refine t_take (i := 0) F rfl rfl hq1 (fun _ ⟨_, _, M'⟩ => r_load M' F rfl (by repeat (first | exact List.mem_cons_self | apply List.mem_cons_of_mem)) agg_Diff (seg_all rfl)) (fun _ _ _ h => h) (by kernel_rfl) (by kernel_rfl) (by kernel_rfl) (by kernel_rfl) ?_; clear F a; intro a F
          refine t_take (i := 1) F rfl rfl hq1 (fun _ ⟨_, _, M'⟩ => r_load M' F rfl (by repeat (first | exact List.mem_cons_self | apply List.mem_cons_of_mem)) agg_Diff (seg_all rfl)) (fun _ _ _ h => h) (by kernel_rfl) (by kernel_rfl) (by kernel_rfl) (by kernel_rfl) ?_; clear F a; intro a F
          refine t_one (i := 2) (by kernel_rfl) rfl rfl (o_call M F rfl (c_paddocklaw8_same M.imm hl4 hl5 hl6 hl7) rfl ?_); clear F a; intro a W20 v20 G20 hp20 M E20 F
          have hl := hl.mono E20.gl
          have hl1 := hl1.mono E20.gl
          have hl2 := hl2.mono E20.gl
          have hl3 := hl3.mono E20.gl
          have hl4 := hl4.mono E20.gl
          have hl5 := hl5.mono E20.gl
          have hl6 := hl6.mono E20.gl
          have hl7 := hl7.mono E20.gl
          have hl8 := hl8.mono E20.gl
          have hl9 := hl9.mono E20.gl
          subst hp20
          have hle1 := hle1.trans E20.gl
          refine keepAnd (Keeps.mk hle1 M (by repeat (first | exact List.Sublist.refl _ | apply List.Sublist.cons_cons | apply List.Sublist.cons))) (fun hq1 => ?_)
          refine t_take (i := 3) F rfl rfl hq1 (fun _ _ => r_move F rfl) (fun _ _ _ h => h) (by kernel_rfl) (by kernel_rfl) (by kernel_rfl) (by kernel_rfl) ?_; clear F a; intro a F
          refine t_takeg (i := 4) F rfl rfl rfl (decide_eq_true rfl) rfl hq1 (fun _ _ => r_move F rfl) (fun _ _ _ h => h) (by kernel_rfl) (by kernel_rfl) (by kernel_rfl) (by kernel_rfl) ?_; clear F a; intro a F
          refine t_takeg (i := 5) F rfl rfl rfl (decide_eq_true rfl) rfl hq1 (fun _ _ => r_eql_i64 F rfl rfl) (fun _ _ _ h => h) (by kernel_rfl) (by kernel_rfl) (by kernel_rfl) (by kernel_rfl) ?_; clear F a; intro a F
          refine t_takeg (i := 6) F rfl rfl rfl (decide_eq_true rfl) rfl hq1 (fun _ _ => r_move F rfl) (fun _ _ _ h => h) (by kernel_rfl) (by kernel_rfl) (by kernel_rfl) (by kernel_rfl) ?_; clear F a; intro a F
          refine t_takeg (i := 7) F rfl rfl rfl (decide_eq_true rfl) rfl hq1 (fun _ _ => r_eql_bool F und_bool rfl rfl) (fun _ _ _ h => h) (by kernel_rfl) (by kernel_rfl) (by kernel_rfl) (by kernel_rfl) ?_; clear F a; intro a F
          refine t_take (i := 8) F rfl rfl hq1 (fun _ _ => r_pick_t F rfl (decide_eq_true rfl) rfl) (fun _ _ _ h => h) (by kernel_rfl) (by kernel_rfl) (by kernel_rfl) (by kernel_rfl) ?_; clear F a; intro a F
          refine t_take (i := 9) F rfl rfl hq1 (fun _ _ => r_move F rfl) (fun _ _ _ h => h) (by kernel_rfl) (by kernel_rfl) (by kernel_rfl) (by kernel_rfl) ?_; clear F a; intro a F
          refine t_takeg (i := 10) F rfl rfl rfl (by simp) rfl hq1 (fun _ _ => r_move F rfl) (fun _ _ _ h => h) (by kernel_rfl) (by kernel_rfl) (by kernel_rfl) (by kernel_rfl) ?_; clear F a; intro a F
          refine t_takeg (i := 11) F rfl rfl rfl (by simp) rfl hq1 (fun _ _ => r_eql_i64 F rfl rfl) (fun _ _ _ h => h) (by kernel_rfl) (by kernel_rfl) (by kernel_rfl) (by kernel_rfl) ?_; clear F a; intro a F
          refine t_takeg (i := 12) F rfl rfl rfl (by simp) rfl hq1 (fun _ _ => r_move F rfl) (fun _ _ _ h => h) (by kernel_rfl) (by kernel_rfl) (by kernel_rfl) (by kernel_rfl) ?_; clear F a; intro a F
          refine c_split F (i := 65) rfl (fun g65 => ?_) (fun g65 => ?_)
          · skip
            refine t_skip (i := 13) F rfl rfl rfl g65 rfl hq1 (fun _ _ _ h => h) (by kernel_rfl) (by kernel_rfl) (by kernel_rfl) (by kernel_rfl) ?_; clear F a; intro a F
            refine t_skip (i := 14) F rfl rfl rfl g65 rfl hq1 (fun _ _ _ h => h) (by kernel_rfl) (by kernel_rfl) (by kernel_rfl) (by kernel_rfl) ?_; clear F a; intro a F
            refine t_takeg (i := 15) F rfl rfl rfl (by simp) rfl hq1 (fun _ _ => r_pick_t F rfl g65 rfl) (fun _ _ _ h => h) (by kernel_rfl) (by kernel_rfl) (by kernel_rfl) (by kernel_rfl) ?_; clear F a; intro a F
            refine t_take (i := 16) F rfl rfl hq1 (fun _ _ => r_pick_t F rfl (by simp) rfl) (fun _ _ _ h => h) (by kernel_rfl) (by kernel_rfl) (by kernel_rfl) (by kernel_rfl) ?_; clear F a; intro a F
            refine t_take (i := 17) F rfl rfl hq1 (fun _ _ => r_move F rfl) (fun _ _ _ h => h) (by kernel_rfl) (by kernel_rfl) (by kernel_rfl) (by kernel_rfl) ?_; clear F a; intro a F
            refine t_takeg (i := 18) F rfl rfl rfl (by first | rfl | exact decide_eq_true ((apply_code s d).resolve_left (of_decide_eq_false g65)) | exact g65) rfl hq1 (fun _ ⟨_, _, M'⟩ => r_load M' F rfl (by repeat (first | exact List.mem_cons_self | apply List.mem_cons_of_mem)) agg_State (seg_all rfl)) (fun _ _ _ h => h) (by kernel_rfl) (by kernel_rfl) (by kernel_rfl) (by kernel_rfl) ?_; clear F a; intro a F
            refine t_takeg (i := 19) F rfl rfl rfl (by first | rfl | exact decide_eq_true ((apply_code s d).resolve_left (of_decide_eq_false g65)) | exact g65) rfl hq1 (fun _ ⟨_, _, M'⟩ => r_load M' F rfl (by repeat (first | exact List.mem_cons_self | apply List.mem_cons_of_mem)) agg_State (seg_all rfl)) (fun _ _ _ h => h) (by kernel_rfl) (by kernel_rfl) (by kernel_rfl) (by kernel_rfl) ?_; clear F a; intro a F
            refine t_oneg (i := 20) F (by kernel_rfl) rfl rfl rfl rfl (by first | rfl | exact decide_eq_true ((apply_code s d).resolve_left (of_decide_eq_false g65)) | exact g65) (o_call M F rfl (c_paddockref6_Same M.imm hl8 hl9) rfl ?_); clear F a; intro a W21 v21 G21 hp21 M E21 F
            have hl := hl.mono E21.gl
            have hl1 := hl1.mono E21.gl
            have hl2 := hl2.mono E21.gl
            have hl3 := hl3.mono E21.gl
            have hl4 := hl4.mono E21.gl
            have hl5 := hl5.mono E21.gl
            have hl6 := hl6.mono E21.gl
            have hl7 := hl7.mono E21.gl
            have hl8 := hl8.mono E21.gl
            have hl9 := hl9.mono E21.gl
            subst hp21
            have hle1 := hle1.trans E21.gl
            refine keepAnd (Keeps.mk hle1 M (by repeat (first | exact List.Sublist.refl _ | apply List.Sublist.cons_cons | apply List.Sublist.cons))) (fun hq1 => ?_)
            refine t_take (i := 21) F rfl rfl hq1 (fun _ _ => r_pick_t F rfl (by first | rfl | exact decide_eq_true ((apply_code s d).resolve_left (of_decide_eq_false g65)) | exact g65) rfl) (fun _ _ _ h => h) (by kernel_rfl) (by kernel_rfl) (by kernel_rfl) (by kernel_rfl) ?_; clear F a; intro a F
            refine t_take (i := 22) F rfl rfl hq1 (fun _ _ => r_move F rfl) (fun _ _ _ h => h) (by kernel_rfl) (by kernel_rfl) (by kernel_rfl) (by kernel_rfl) ?_; clear F a; intro a F
            refine t_takeg (i := 23) F rfl rfl rfl (decide_eq_true rfl) rfl hq1 (fun _ ⟨_, _, M'⟩ => r_load M' F rfl (by repeat (first | exact List.mem_cons_self | apply List.mem_cons_of_mem)) agg_State (seg_all rfl)) (fun _ _ _ h => h) (by kernel_rfl) (by kernel_rfl) (by kernel_rfl) (by kernel_rfl) ?_; clear F a; intro a F
            refine t_takeg (i := 24) F rfl rfl rfl (decide_eq_true rfl) rfl hq1 (fun _ ⟨_, _, M'⟩ => r_load M' F rfl (by repeat (first | exact List.mem_cons_self | apply List.mem_cons_of_mem)) agg_State (seg_all rfl)) (fun _ _ _ h => h) (by kernel_rfl) (by kernel_rfl) (by kernel_rfl) (by kernel_rfl) ?_; clear F a; intro a F
            refine t_takeg (i := 26) F rfl rfl rfl (decide_eq_true rfl) rfl hq1 (fun _ ⟨_, _, M'⟩ => r_load M' F rfl (by repeat (first | exact List.mem_cons_self | apply List.mem_cons_of_mem)) agg_State (seg_all rfl)) (fun _ _ _ h => h) (by kernel_rfl) (by kernel_rfl) (by kernel_rfl) (by kernel_rfl) ?_; clear F a; intro a F
            refine t_takeg (i := 27) F rfl rfl rfl (decide_eq_true rfl) rfl hq1 (fun _ ⟨_, _, M'⟩ => r_load M' F rfl (by repeat (first | exact List.mem_cons_self | apply List.mem_cons_of_mem)) agg_State (seg_all rfl)) (fun _ _ _ h => h) (by kernel_rfl) (by kernel_rfl) (by kernel_rfl) (by kernel_rfl) ?_; clear F a; intro a F
            refine t_oneg (i := 25) F (by kernel_rfl) rfl rfl rfl rfl (decide_eq_true rfl) (o_call M F rfl (c_merge_Extends M.imm hl hl1) rfl ?_); clear F a; intro a W22 v22 G22 hp22 M E22 F
            have hl := hl.mono E22.gl
            have hl1 := hl1.mono E22.gl
            have hl2 := hl2.mono E22.gl
            have hl3 := hl3.mono E22.gl
            have hl4 := hl4.mono E22.gl
            have hl5 := hl5.mono E22.gl
            have hl6 := hl6.mono E22.gl
            have hl7 := hl7.mono E22.gl
            have hl8 := hl8.mono E22.gl
            have hl9 := hl9.mono E22.gl
            subst hp22
            have hle1 := hle1.trans E22.gl
            refine keepAnd (Keeps.mk hle1 M (by repeat (first | exact List.Sublist.refl _ | apply List.Sublist.cons_cons | apply List.Sublist.cons))) (fun hq1 => ?_)
            refine t_oneg (i := 28) F (by kernel_rfl) rfl rfl rfl rfl (decide_eq_true rfl) (o_call M F rfl (c_paddockref8_Extends M.imm hl hl1) rfl ?_); clear F a; intro a W23 v23 G23 hp23 M E23 F
            have hl := hl.mono E23.gl
            have hl1 := hl1.mono E23.gl
            have hl2 := hl2.mono E23.gl
            have hl3 := hl3.mono E23.gl
            have hl4 := hl4.mono E23.gl
            have hl5 := hl5.mono E23.gl
            have hl6 := hl6.mono E23.gl
            have hl7 := hl7.mono E23.gl
            have hl8 := hl8.mono E23.gl
            have hl9 := hl9.mono E23.gl
            subst hp23
            have hle1 := hle1.trans E23.gl
            refine keepAnd (Keeps.mk hle1 M (by repeat (first | exact List.Sublist.refl _ | apply List.Sublist.cons_cons | apply List.Sublist.cons))) (fun hq1 => ?_)
            refine t_takeg (i := 29) F rfl rfl rfl (decide_eq_true rfl) rfl hq1 (fun _ _ => r_eql_bool F und_bool rfl rfl) (fun _ _ _ h => h) (by kernel_rfl) (by kernel_rfl) (by kernel_rfl) (by kernel_rfl) ?_; clear F a; intro a F
            refine t_take (i := 30) F rfl rfl hq1 (fun _ _ => r_pick_t F rfl (decide_eq_true rfl) rfl) (fun _ _ _ h => h) (by kernel_rfl) (by kernel_rfl) (by kernel_rfl) (by kernel_rfl) ?_; clear F a; intro a F
            refine t_take (i := 31) F rfl rfl hq1 (fun _ _ => r_move F rfl) (fun _ _ _ h => h) (by kernel_rfl) (by kernel_rfl) (by kernel_rfl) (by kernel_rfl) ?_; clear F a; intro a F
            refine t_takeg (i := 32) F rfl rfl rfl (by simp) rfl hq1 (fun _ ⟨_, _, M'⟩ => r_load M' F rfl (by repeat (first | exact List.mem_cons_self | apply List.mem_cons_of_mem)) agg_Diff (seg_all rfl)) (fun _ _ _ h => h) (by kernel_rfl) (by kernel_rfl) (by kernel_rfl) (by kernel_rfl) ?_; clear F a; intro a F
            refine t_takeg (i := 34) F rfl rfl rfl (by simp) rfl hq1 (fun _ ⟨_, _, M'⟩ => r_load M' F rfl (by repeat (first | exact List.mem_cons_self | apply List.mem_cons_of_mem)) agg_Diff (seg_all rfl)) (fun _ _ _ h => h) (by kernel_rfl) (by kernel_rfl) (by kernel_rfl) (by kernel_rfl) ?_; clear F a; intro a F
            refine t_oneg (i := 33) F (by kernel_rfl) rfl rfl rfl rfl (by simp) (o_call M F rfl (c_merge_Bytes M.imm hl6 hl7 hmn.1 hmn.2) rfl ?_); clear F a; intro a W24 v24 G24 hp24 M E24 F
            have hl := hl.mono E24.gl
            have hl1 := hl1.mono E24.gl
            have hl2 := hl2.mono E24.gl
            have hl3 := hl3.mono E24.gl
            have hl4 := hl4.mono E24.gl
            have hl5 := hl5.mono E24.gl
            have hl6 := hl6.mono E24.gl
            have hl7 := hl7.mono E24.gl
            have hl8 := hl8.mono E24.gl
            have hl9 := hl9.mono E24.gl
            subst hp24
            have hle1 := hle1.trans E24.gl
            refine keepAnd (Keeps.mk hle1 M (by repeat (first | exact List.Sublist.refl _ | apply List.Sublist.cons_cons | apply List.Sublist.cons))) (fun hq1 => ?_)
            refine t_oneg (i := 35) F (by kernel_rfl) rfl rfl rfl rfl (by simp) (o_call M F rfl (c_paddockref8_Bytes M.imm hl6 hl7 hmn.1 hmn.2) rfl ?_); clear F a; intro a W25 v25 G25 hp25 M E25 F
            have hl := hl.mono E25.gl
            have hl1 := hl1.mono E25.gl
            have hl2 := hl2.mono E25.gl
            have hl3 := hl3.mono E25.gl
            have hl4 := hl4.mono E25.gl
            have hl5 := hl5.mono E25.gl
            have hl6 := hl6.mono E25.gl
            have hl7 := hl7.mono E25.gl
            have hl8 := hl8.mono E25.gl
            have hl9 := hl9.mono E25.gl
            subst hp25
            have hle1 := hle1.trans E25.gl
            refine keepAnd (Keeps.mk hle1 M (by repeat (first | exact List.Sublist.refl _ | apply List.Sublist.cons_cons | apply List.Sublist.cons))) (fun hq1 => ?_)
            refine t_takeg (i := 36) F rfl rfl rfl (by simp) rfl hq1 (fun _ _ => r_eql_i64 F rfl rfl) (fun _ _ _ h => h) (by kernel_rfl) (by kernel_rfl) (by kernel_rfl) (by kernel_rfl) ?_; clear F a; intro a F
            refine t_take (i := 37) F rfl rfl hq1 (fun _ _ => r_pick_t F rfl (by simp) rfl) (fun _ _ _ h => h) (by kernel_rfl) (by kernel_rfl) (by kernel_rfl) (by kernel_rfl) ?_; clear F a; intro a F
            refine t_take (i := 38) F rfl rfl hq1 (fun _ _ => r_assign F rfl) (fun _ _ _ h => h) (by kernel_rfl) (by kernel_rfl) (by kernel_rfl) (by kernel_rfl) ?_; clear F a; intro a F
            refine t_done (by kernel_rfl) ?_ _
            refine hK14 _ _ ?_
            refine wp_ret ?_
            exact ret1 Try.results14 M F (rv_tmp F rfl) (by simp)
          · skip
            refine t_takeg (i := 13) F rfl rfl rfl g65 rfl hq1 (fun _ _ => r_move F rfl) (fun _ _ _ h => h) (by kernel_rfl) (by kernel_rfl) (by kernel_rfl) (by kernel_rfl) ?_; clear F a; intro a F
            refine t_takeg (i := 14) F rfl rfl rfl g65 rfl hq1 (fun _ _ => r_eql_i64 F rfl rfl) (fun _ _ _ h => h) (by kernel_rfl) (by kernel_rfl) (by kernel_rfl) (by kernel_rfl) ?_; clear F a; intro a F
            refine t_takeg (i := 15) F rfl rfl rfl (by simp) rfl hq1 (fun _ _ => r_pick_f F rfl g65 rfl) (fun _ _ _ h => h) (by kernel_rfl) (by kernel_rfl) (by kernel_rfl) (by kernel_rfl) ?_; clear F a; intro a F
            refine t_take (i := 16) F rfl rfl hq1 (fun _ _ => r_pick_t F rfl (by simp) rfl) (fun _ _ _ h => h) (by kernel_rfl) (by kernel_rfl) (by kernel_rfl) (by kernel_rfl) ?_; clear F a; intro a F
            refine t_take (i := 17) F rfl rfl hq1 (fun _ _ => r_move F rfl) (fun _ _ _ h => h) (by kernel_rfl) (by kernel_rfl) (by kernel_rfl) (by kernel_rfl) ?_; clear F a; intro a F
            refine t_takeg (i := 18) F rfl rfl rfl (by first | rfl | exact decide_eq_true ((apply_code s d).resolve_left (of_decide_eq_false g65)) | exact g65) rfl hq1 (fun _ ⟨_, _, M'⟩ => r_load M' F rfl (by repeat (first | exact List.mem_cons_self | apply List.mem_cons_of_mem)) agg_State (seg_all rfl)) (fun _ _ _ h => h) (by kernel_rfl) (by kernel_rfl) (by kernel_rfl) (by kernel_rfl) ?_; clear F a; intro a F
            refine t_takeg (i := 19) F rfl rfl rfl (by first | rfl | exact decide_eq_true ((apply_code s d).resolve_left (of_decide_eq_false g65)) | exact g65) rfl hq1 (fun _ ⟨_, _, M'⟩ => r_load M' F rfl (by repeat (first | exact List.mem_cons_self | apply List.mem_cons_of_mem)) agg_State (seg_all rfl)) (fun _ _ _ h => h) (by kernel_rfl) (by kernel_rfl) (by kernel_rfl) (by kernel_rfl) ?_; clear F a; intro a F
            refine t_oneg (i := 20) F (by kernel_rfl) rfl rfl rfl rfl (by first | rfl | exact decide_eq_true ((apply_code s d).resolve_left (of_decide_eq_false g65)) | exact g65) (o_call M F rfl (c_paddockref6_Same M.imm hl8 hl9) rfl ?_); clear F a; intro a W26 v26 G26 hp26 M E26 F
            have hl := hl.mono E26.gl
            have hl1 := hl1.mono E26.gl
            have hl2 := hl2.mono E26.gl
            have hl3 := hl3.mono E26.gl
            have hl4 := hl4.mono E26.gl
            have hl5 := hl5.mono E26.gl
            have hl6 := hl6.mono E26.gl
            have hl7 := hl7.mono E26.gl
            have hl8 := hl8.mono E26.gl
            have hl9 := hl9.mono E26.gl
            subst hp26
            have hle1 := hle1.trans E26.gl
            refine keepAnd (Keeps.mk hle1 M (by repeat (first | exact List.Sublist.refl _ | apply List.Sublist.cons_cons | apply List.Sublist.cons))) (fun hq1 => ?_)
            refine t_take (i := 21) F rfl rfl hq1 (fun _ _ => r_pick_t F rfl (by first | rfl | exact decide_eq_true ((apply_code s d).resolve_left (of_decide_eq_false g65)) | exact g65) rfl) (fun _ _ _ h => h) (by kernel_rfl) (by kernel_rfl) (by kernel_rfl) (by kernel_rfl) ?_; clear F a; intro a F
            refine t_take (i := 22) F rfl rfl hq1 (fun _ _ => r_move F rfl) (fun _ _ _ h => h) (by kernel_rfl) (by kernel_rfl) (by kernel_rfl) (by kernel_rfl) ?_; clear F a; intro a F
            refine t_takeg (i := 23) F rfl rfl rfl (decide_eq_true rfl) rfl hq1 (fun _ ⟨_, _, M'⟩ => r_load M' F rfl (by repeat (first | exact List.mem_cons_self | apply List.mem_cons_of_mem)) agg_State (seg_all rfl)) (fun _ _ _ h => h) (by kernel_rfl) (by kernel_rfl) (by kernel_rfl) (by kernel_rfl) ?_; clear F a; intro a F
            refine t_takeg (i := 24) F rfl rfl rfl (decide_eq_true rfl) rfl hq1 (fun _ ⟨_, _, M'⟩ => r_load M' F rfl (by repeat (first | exact List.mem_cons_self | apply List.mem_cons_of_mem)) agg_State (seg_all rfl)) (fun _ _ _ h => h) (by kernel_rfl) (by kernel_rfl) (by kernel_rfl) (by kernel_rfl) ?_; clear F a; intro a F
            refine t_takeg (i := 26) F rfl rfl rfl (decide_eq_true rfl) rfl hq1 (fun _ ⟨_, _, M'⟩ => r_load M' F rfl (by repeat (first | exact List.mem_cons_self | apply List.mem_cons_of_mem)) agg_State (seg_all rfl)) (fun _ _ _ h => h) (by kernel_rfl) (by kernel_rfl) (by kernel_rfl) (by kernel_rfl) ?_; clear F a; intro a F
            refine t_takeg (i := 27) F rfl rfl rfl (decide_eq_true rfl) rfl hq1 (fun _ ⟨_, _, M'⟩ => r_load M' F rfl (by repeat (first | exact List.mem_cons_self | apply List.mem_cons_of_mem)) agg_State (seg_all rfl)) (fun _ _ _ h => h) (by kernel_rfl) (by kernel_rfl) (by kernel_rfl) (by kernel_rfl) ?_; clear F a; intro a F
            refine t_oneg (i := 25) F (by kernel_rfl) rfl rfl rfl rfl (decide_eq_true rfl) (o_call M F rfl (c_merge_Extends M.imm hl hl1) rfl ?_); clear F a; intro a W27 v27 G27 hp27 M E27 F
            have hl := hl.mono E27.gl
            have hl1 := hl1.mono E27.gl
            have hl2 := hl2.mono E27.gl
            have hl3 := hl3.mono E27.gl
            have hl4 := hl4.mono E27.gl
            have hl5 := hl5.mono E27.gl
            have hl6 := hl6.mono E27.gl
            have hl7 := hl7.mono E27.gl
            have hl8 := hl8.mono E27.gl
            have hl9 := hl9.mono E27.gl
            subst hp27
            have hle1 := hle1.trans E27.gl
            refine keepAnd (Keeps.mk hle1 M (by repeat (first | exact List.Sublist.refl _ | apply List.Sublist.cons_cons | apply List.Sublist.cons))) (fun hq1 => ?_)
            refine t_oneg (i := 28) F (by kernel_rfl) rfl rfl rfl rfl (decide_eq_true rfl) (o_call M F rfl (c_paddockref8_Extends M.imm hl hl1) rfl ?_); clear F a; intro a W28 v28 G28 hp28 M E28 F
            have hl := hl.mono E28.gl
            have hl1 := hl1.mono E28.gl
            have hl2 := hl2.mono E28.gl
            have hl3 := hl3.mono E28.gl
            have hl4 := hl4.mono E28.gl
            have hl5 := hl5.mono E28.gl
            have hl6 := hl6.mono E28.gl
            have hl7 := hl7.mono E28.gl
            have hl8 := hl8.mono E28.gl
            have hl9 := hl9.mono E28.gl
            subst hp28
            have hle1 := hle1.trans E28.gl
            refine keepAnd (Keeps.mk hle1 M (by repeat (first | exact List.Sublist.refl _ | apply List.Sublist.cons_cons | apply List.Sublist.cons))) (fun hq1 => ?_)
            refine t_takeg (i := 29) F rfl rfl rfl (decide_eq_true rfl) rfl hq1 (fun _ _ => r_eql_bool F und_bool rfl rfl) (fun _ _ _ h => h) (by kernel_rfl) (by kernel_rfl) (by kernel_rfl) (by kernel_rfl) ?_; clear F a; intro a F
            refine t_take (i := 30) F rfl rfl hq1 (fun _ _ => r_pick_t F rfl (decide_eq_true rfl) rfl) (fun _ _ _ h => h) (by kernel_rfl) (by kernel_rfl) (by kernel_rfl) (by kernel_rfl) ?_; clear F a; intro a F
            refine t_take (i := 31) F rfl rfl hq1 (fun _ _ => r_move F rfl) (fun _ _ _ h => h) (by kernel_rfl) (by kernel_rfl) (by kernel_rfl) (by kernel_rfl) ?_; clear F a; intro a F
            refine t_takeg (i := 32) F rfl rfl rfl (by simp) rfl hq1 (fun _ ⟨_, _, M'⟩ => r_load M' F rfl (by repeat (first | exact List.mem_cons_self | apply List.mem_cons_of_mem)) agg_Diff (seg_all rfl)) (fun _ _ _ h => h) (by kernel_rfl) (by kernel_rfl) (by kernel_rfl) (by kernel_rfl) ?_; clear F a; intro a F
            refine t_takeg (i := 34) F rfl rfl rfl (by simp) rfl hq1 (fun _ ⟨_, _, M'⟩ => r_load M' F rfl (by repeat (first | exact List.mem_cons_self | apply List.mem_cons_of_mem)) agg_Diff (seg_all rfl)) (fun _ _ _ h => h) (by kernel_rfl) (by kernel_rfl) (by kernel_rfl) (by kernel_rfl) ?_; clear F a; intro a F
            refine t_oneg (i := 33) F (by kernel_rfl) rfl rfl rfl rfl (by simp) (o_call M F rfl (c_merge_Bytes M.imm hl6 hl7 hmn.1 hmn.2) rfl ?_); clear F a; intro a W29 v29 G29 hp29 M E29 F
            have hl := hl.mono E29.gl
            have hl1 := hl1.mono E29.gl
            have hl2 := hl2.mono E29.gl
            have hl3 := hl3.mono E29.gl
            have hl4 := hl4.mono E29.gl
            have hl5 := hl5.mono E29.gl
            have hl6 := hl6.mono E29.gl
            have hl7 := hl7.mono E29.gl
            have hl8 := hl8.mono E29.gl
            have hl9 := hl9.mono E29.gl
            subst hp29
            have hle1 := hle1.trans E29.gl
            refine keepAnd (Keeps.mk hle1 M (by repeat (first | exact List.Sublist.refl _ | apply List.Sublist.cons_cons | apply List.Sublist.cons))) (fun hq1 => ?_)
            refine t_oneg (i := 35) F (by kernel_rfl) rfl rfl rfl rfl (by simp) (o_call M F rfl (c_paddockref8_Bytes M.imm hl6 hl7 hmn.1 hmn.2) rfl ?_); clear F a; intro a W30 v30 G30 hp30 M E30 F
            have hl := hl.mono E30.gl
            have hl1 := hl1.mono E30.gl
            have hl2 := hl2.mono E30.gl
            have hl3 := hl3.mono E30.gl
            have hl4 := hl4.mono E30.gl
            have hl5 := hl5.mono E30.gl
            have hl6 := hl6.mono E30.gl
            have hl7 := hl7.mono E30.gl
            have hl8 := hl8.mono E30.gl
            have hl9 := hl9.mono E30.gl
            subst hp30
            have hle1 := hle1.trans E30.gl
            refine keepAnd (Keeps.mk hle1 M (by repeat (first | exact List.Sublist.refl _ | apply List.Sublist.cons_cons | apply List.Sublist.cons))) (fun hq1 => ?_)
            refine t_takeg (i := 36) F rfl rfl rfl (by simp) rfl hq1 (fun _ _ => r_eql_i64 F rfl rfl) (fun _ _ _ h => h) (by kernel_rfl) (by kernel_rfl) (by kernel_rfl) (by kernel_rfl) ?_; clear F a; intro a F
            refine t_take (i := 37) F rfl rfl hq1 (fun _ _ => r_pick_t F rfl (by simp) rfl) (fun _ _ _ h => h) (by kernel_rfl) (by kernel_rfl) (by kernel_rfl) (by kernel_rfl) ?_; clear F a; intro a F
            refine t_take (i := 38) F rfl rfl hq1 (fun _ _ => r_assign F rfl) (fun _ _ _ h => h) (by kernel_rfl) (by kernel_rfl) (by kernel_rfl) (by kernel_rfl) ?_; clear F a; intro a F
            refine t_done (by kernel_rfl) ?_ _
            refine hK14 _ _ ?_
            refine wp_ret ?_
            exact ret1 Try.results14 M F (rv_tmp F rfl) (by simp)
end Go.Proofs.Ytfkmaepcjognkaa.Pad
