/- Walks: the document's own differences (layer 8) come to the program's. The logs are short. -/
import Derived.Test.YtfkmaepcjognkaaR6b
import Derived.Test.YtfkmaepcjognkaaR8p
namespace Go.Proofs.Ytfkmaepcjognkaa.Pad
open Go Go.Proofs
set_option linter.unusedVariables false
set_option maxRecDepth 8000
set_option linter.unusedSimpArgs false
theorem c_paddockref8_shared {w : World} {G0 : Ghost} (hI : Imm G0 w) {s t : PState} {l l1 : Sl} (hl : Ens G0 l s.log) (hl1 : Ens G0 l1 t.log) : Ret P 96 [agg (GState.enc (s.at l)), agg (GState.enc (t.at l1))] [] w G0 (fun G W v => v = .bool (rIn s t && ((pUpto s t.tail.n).2 && decide ((pUpto s t.tail.n).1 = t.base)))) := by
  refine enter Try.func96 rfl Try.ntmps96 rfl rfl hI (fun a F M => ?_)
  have hlen : (s.at l).log.len = s.log.length := hl.len
  have hlen0 := hl.len
  have hmax := hl.rd.max
  have hcap := hl.rd.cap
  refine c_seq (fun K1 hK1 => ?_)
  refine wp_region_lit ?_
  refine l_step rfl (o_box M F rfl rfl ?_); clear F a; intro a W1 b1 M F
  refine l_step rfl (o_box M F rfl rfl ?_); clear F a; intro a W2 b2 M F
  refine l_step rfl (o_val F (r_assign F rfl) rfl ?_); clear F a; intro a F
  refine l_nil ?_
  refine hK1 _ _ ?_
  refine c_seq (fun K2 hK2 => ?_)
  refine wp_region_lit ?_
  refine l_step rfl (o_val F (r_fieldAddr F rfl fld_State_2) rfl ?_); clear F a; intro a F
  refine l_step rfl (o_val F (r_load M F rfl (by repeat (first | exact List.mem_cons_self | apply List.mem_cons_of_mem)) agg_Entry g_State_2) rfl ?_); clear F a; intro a F
  refine l_step rfl (o_val F (r_fieldAddr F rfl fld_State_2) rfl ?_); clear F a; intro a F
  refine l_step rfl (o_val F (r_load M F rfl (by repeat (first | exact List.mem_cons_self | apply List.mem_cons_of_mem)) agg_Entry g_State_2) rfl ?_); clear F a; intro a F
  refine l_step rfl (o_val F (r_eql_Entry F rfl rfl) rfl ?_); clear F a; intro a F
  refine l_step rfl (o_val F (r_assign F rfl) rfl ?_); clear F a; intro a F
  refine l_nil ?_
  refine hK2 _ _ ?_
  refine c_seq (fun K3 hK3 => ?_)
  refine c_seq (fun K4 hK4 => ?_)
  refine wp_region_lit ?_
  refine l_step rfl (o_val F (r_assign F rfl) rfl ?_); clear F a; intro a F
  refine l_nil ?_
  refine hK4 _ _ ?_
  refine wp_block ?_
  refine c_loop (fun k a W => ∃ (i : Nat) (G : Ghost) (z : Bool), k = s.log.length - i ∧ i ≤ s.log.length ∧ Frm 63 [(6, .int .i64 (i : Int)), (5, .bool z), (3, .pointer (some ⟨b2, 0, none⟩)), (2, .pointer (some ⟨b1, 0, none⟩))] a ∧ St [] w G0 W [⟨b2, 42, (t.at l1).enc⟩, ⟨b1, 42, (s.at l).enc⟩] G ∧ (z = (decide (s.tail = t.tail) || (s.log.take i).any (fun e => decide (e.since = t.tail.since) && decide (e.n = t.tail.n))))) (s.log.length) ?_ ?_
  · exact ⟨0, _, _, rfl, Nat.zero_le _, (F.cons (F.cons (F.cons (F.cons F.nil 2 rfl) 3 rfl) 5 rfl) 6 rfl), M, (by simp)⟩
  · clear F M a; intro k a W hI; obtain ⟨i, G, z, hk, hi, F, M, hf⟩ := hI
    refine c_seq (fun K5 hK5 => ?_)
    refine c_seq (fun K6 hK6 => ?_)
    refine wp_region_lit ?_
    refine l_step rfl (o_val F (r_move F rfl) rfl ?_); clear F a; intro a F
    refine l_step rfl (o_val F (r_fieldAddr F rfl fld_State_3) rfl ?_); clear F a; intro a F
    refine l_step rfl (o_val F (r_load1 M F rfl (by repeat (first | exact List.mem_cons_self | apply List.mem_cons_of_mem)) sca_Entries rfl) rfl ?_); clear F a; intro a F
    refine l_step rfl (o_val F (r_len_slice F slc_Entries.und rfl) rfl ?_); clear F a; intro a F
    refine l_step rfl (o_val F (r_lss_i64 F rfl rfl) rfl ?_); clear F a; intro a F
    refine l_nil ?_
    refine hK6 _ _ ?_
    refine c_cond F rfl (fun g18 => ?_) (fun g18 => ?_)
    · skip
      have hlt : i < s.log.length := by have h := of_decide_eq_true g18; omega
      obtain ⟨x, hx⟩ := get_of hlt
      refine wp_skip ?_
      refine hK5 _ _ ?_
      refine c_seq (fun K7 hK7 => ?_)
      refine wp_block ?_
      refine c_drawM M [] mixed (fun M => ?_)
      have Ms := M
      have hq1 := Keeps.here M
      have hle1 := M.gle
      obtain ⟨eb, eo, er, ha26, hG26, hS26⟩ := (hl.mono Ms.gl).elem hx
      have ha37 := ha26
      have hG37 := hG26
      have hS37 := hS26
      refine t_take (i := 0) F rfl rfl hq1 (fun _ _ => r_move F rfl) (fun _ _ _ h => h) (by kernel_rfl) (by kernel_rfl) (by kernel_rfl) (by kernel_rfl) ?_; clear F a; intro a F
      refine t_take (i := 1) F rfl rfl hq1 (fun _ _ => r_move F rfl) (fun _ _ _ h => h) (by kernel_rfl) (by kernel_rfl) (by kernel_rfl) (by kernel_rfl) ?_; clear F a; intro a F
      refine c_split F (i := 22) rfl (fun g22 => ?_) (fun g22 => ?_)
      · skip
        refine t_skip (i := 2) F rfl rfl rfl g22 rfl hq1 (fun _ _ _ h => h) (by kernel_rfl) (by kernel_rfl) (by kernel_rfl) (by kernel_rfl) ?_; clear F a; intro a F
        refine t_skip (i := 3) F rfl rfl rfl g22 rfl hq1 (fun _ _ _ h => h) (by kernel_rfl) (by kernel_rfl) (by kernel_rfl) (by kernel_rfl) ?_; clear F a; intro a F
        refine t_skip (i := 4) F rfl rfl rfl g22 rfl hq1 (fun _ _ _ h => h) (by kernel_rfl) (by kernel_rfl) (by kernel_rfl) (by kernel_rfl) ?_; clear F a; intro a F
        refine t_skip (i := 5) F rfl rfl rfl g22 rfl hq1 (fun _ _ _ h => h) (by kernel_rfl) (by kernel_rfl) (by kernel_rfl) (by kernel_rfl) ?_; clear F a; intro a F
        refine t_skip (i := 6) F rfl rfl rfl g22 rfl hq1 (fun _ _ _ h => h) (by kernel_rfl) (by kernel_rfl) (by kernel_rfl) (by kernel_rfl) ?_; clear F a; intro a F
        refine t_skip (i := 7) F rfl rfl rfl g22 rfl hq1 (fun _ _ _ h => h) (by kernel_rfl) (by kernel_rfl) (by kernel_rfl) (by kernel_rfl) ?_; clear F a; intro a F
        refine t_skip (i := 8) F rfl rfl rfl g22 rfl hq1 (fun _ _ _ h => h) (by kernel_rfl) (by kernel_rfl) (by kernel_rfl) (by kernel_rfl) ?_; clear F a; intro a F
        refine t_skip (i := 9) F rfl rfl rfl g22 rfl hq1 (fun _ _ _ h => h) (by kernel_rfl) (by kernel_rfl) (by kernel_rfl) (by kernel_rfl) ?_; clear F a; intro a F
        refine t_skip (i := 10) F rfl rfl rfl g22 rfl hq1 (fun _ _ _ h => h) (by kernel_rfl) (by kernel_rfl) (by kernel_rfl) (by kernel_rfl) ?_; clear F a; intro a F
        refine t_skip (i := 11) F rfl rfl rfl g22 rfl hq1 (fun _ _ _ h => h) (by kernel_rfl) (by kernel_rfl) (by kernel_rfl) (by kernel_rfl) ?_; clear F a; intro a F
        refine t_skip (i := 12) F rfl rfl rfl g22 rfl hq1 (fun _ _ _ h => h) (by kernel_rfl) (by kernel_rfl) (by kernel_rfl) (by kernel_rfl) ?_; clear F a; intro a F
        refine t_skipu (i := 13) F rfl rfl rfl rfl hq1 (fun _ _ _ h => h) (by kernel_rfl) (by kernel_rfl) (by kernel_rfl) (by kernel_rfl) ?_; clear F a; intro a F
        refine t_skipu (i := 14) F rfl rfl rfl rfl hq1 (fun _ _ _ h => h) (by kernel_rfl) (by kernel_rfl) (by kernel_rfl) (by kernel_rfl) ?_; clear F a; intro a F
        refine t_skipu (i := 15) F rfl rfl rfl rfl hq1 (fun _ _ _ h => h) (by kernel_rfl) (by kernel_rfl) (by kernel_rfl) (by kernel_rfl) ?_; clear F a; intro a F
        refine t_skipu (i := 16) F rfl rfl rfl rfl hq1 (fun _ _ _ h => h) (by kernel_rfl) (by kernel_rfl) (by kernel_rfl) (by kernel_rfl) ?_; clear F a; intro a F
        refine t_skipu (i := 17) F rfl rfl rfl rfl hq1 (fun _ _ _ h => h) (by kernel_rfl) (by kernel_rfl) (by kernel_rfl) (by kernel_rfl) ?_; clear F a; intro a F
        refine t_skipu (i := 18) F rfl rfl rfl rfl hq1 (fun _ _ _ h => h) (by kernel_rfl) (by kernel_rfl) (by kernel_rfl) (by kernel_rfl) ?_; clear F a; intro a F
        refine t_skipu (i := 19) F rfl rfl rfl rfl hq1 (fun _ _ _ h => h) (by kernel_rfl) (by kernel_rfl) (by kernel_rfl) (by kernel_rfl) ?_; clear F a; intro a F
        refine t_skipu (i := 20) F rfl rfl rfl rfl hq1 (fun _ _ _ h => h) (by kernel_rfl) (by kernel_rfl) (by kernel_rfl) (by kernel_rfl) ?_; clear F a; intro a F
        refine t_skipu (i := 21) F rfl rfl rfl rfl hq1 (fun _ _ _ h => h) (by kernel_rfl) (by kernel_rfl) (by kernel_rfl) (by kernel_rfl) ?_; clear F a; intro a F
        refine t_skipu (i := 22) F rfl rfl rfl rfl hq1 (fun _ _ _ h => h) (by kernel_rfl) (by kernel_rfl) (by kernel_rfl) (by kernel_rfl) ?_; clear F a; intro a F
        refine t_skip (i := 23) F rfl rfl rfl g22 rfl hq1 (fun _ _ _ h => h) (by kernel_rfl) (by kernel_rfl) (by kernel_rfl) (by kernel_rfl) ?_; clear F a; intro a F
        refine t_take (i := 24) F rfl rfl hq1 (fun _ _ => r_pick_t F rfl g22 rfl) (fun _ _ _ h => h) (by kernel_rfl) (by kernel_rfl) (by kernel_rfl) (by kernel_rfl) ?_; clear F a; intro a F
        refine t_take (i := 25) F rfl rfl hq1 (fun _ _ => r_assign F rfl) (fun _ _ _ h => h) (by kernel_rfl) (by kernel_rfl) (by kernel_rfl) (by kernel_rfl) ?_; clear F a; intro a F
        refine t_done (by kernel_rfl) ?_ _
        refine hK7 _ _ ?_
        refine wp_region_lit ?_
        refine l_step rfl (o_val F (r_move F rfl) rfl ?_); clear F a; intro a F
        refine l_step rfl (o_val F (r_add_i64 F rfl rfl (by omega)) rfl ?_); clear F a; intro a F
        refine l_step rfl (o_val F (r_assign F rfl) rfl ?_); clear F a; intro a F
        refine l_nil ?_
        exact ⟨s.log.length - (i + 1), by omega, i + 1, _, _, rfl, by omega, (F.cons (F.cons (F.cons (F.cons F.nil 2 rfl) 3 rfl) 5 rfl) 6 rfl), M.drop (by repeat (first | exact List.Sublist.refl _ | apply List.Sublist.cons_cons | apply List.Sublist.cons)), (by rw [take_of hx, List.any_append, ← Bool.or_assoc, ← hf]; simp only [List.any_cons, List.any_nil, Bool.or_false]; first | (rw [g22]; rfl) | (rw [g22, g33]; rfl))⟩
      · skip
        refine t_takeg (i := 2) F rfl rfl rfl g22 rfl hq1 (fun _ _ => r_fieldAddr F rfl fld_State_3) (fun _ _ _ h => h) (by kernel_rfl) (by kernel_rfl) (by kernel_rfl) (by kernel_rfl) ?_; clear F a; intro a F
        refine t_takeg (i := 3) F rfl rfl rfl g22 rfl hq1 (fun _ ⟨_, _, M'⟩ => r_load1 M' F rfl (by repeat (first | exact List.mem_cons_self | apply List.mem_cons_of_mem)) sca_Entries rfl) (fun _ _ _ h => h) (by kernel_rfl) (by kernel_rfl) (by kernel_rfl) (by kernel_rfl) ?_; clear F a; intro a F
        refine t_takeg (i := 4) F rfl rfl rfl g22 rfl hq1 (fun _ _ => r_move F rfl) (fun _ _ _ h => h) (by kernel_rfl) (by kernel_rfl) (by kernel_rfl) (by kernel_rfl) ?_; clear F a; intro a F
        refine t_takeg (i := 5) F rfl rfl rfl g22 rfl hq1 (fun _ _ => r_indexSl F rfl rfl slc_Entries ha26 (by omega) (by omega)) (fun _ _ _ h => h) (by kernel_rfl) (by kernel_rfl) (by kernel_rfl) (by kernel_rfl) ?_; clear F a; intro a F
        refine t_takeg (i := 6) F rfl rfl rfl g22 rfl hq1 (fun _ _ => r_fieldAddr F rfl fld_Entry_0) (fun _ _ _ h => h) (by kernel_rfl) (by kernel_rfl) (by kernel_rfl) (by kernel_rfl) ?_; clear F a; intro a F
        refine t_takeg (i := 7) F rfl rfl rfl g22 rfl hq1 (fun _ ⟨_, hg, M'⟩ => r_loadrG1 hg M' F rfl hG26 sca_u32 (hS26.get rfl)) (fun _ _ _ h => h) (by kernel_rfl) (by kernel_rfl) (by kernel_rfl) (by kernel_rfl) ?_; clear F a; intro a F
        refine t_takeg (i := 8) F rfl rfl rfl g22 rfl hq1 (fun _ _ => r_fieldAddr F rfl fld_State_2) (fun _ _ _ h => h) (by kernel_rfl) (by kernel_rfl) (by kernel_rfl) (by kernel_rfl) ?_; clear F a; intro a F
        refine t_takeg (i := 9) F rfl rfl rfl g22 rfl hq1 (fun _ _ => r_fieldAddr F rfl fld_Entry_0) (fun _ _ _ h => h) (by kernel_rfl) (by kernel_rfl) (by kernel_rfl) (by kernel_rfl) ?_; clear F a; intro a F
        refine t_takeg (i := 10) F rfl rfl rfl g22 rfl hq1 (fun _ ⟨_, _, M'⟩ => r_load1 M' F rfl (by repeat (first | exact List.mem_cons_self | apply List.mem_cons_of_mem)) sca_u32 rfl) (fun _ _ _ h => h) (by kernel_rfl) (by kernel_rfl) (by kernel_rfl) (by kernel_rfl) ?_; clear F a; intro a F
        refine t_takeg (i := 11) F rfl rfl rfl g22 rfl hq1 (fun _ _ => r_eql_u32 F rfl rfl) (fun _ _ _ h => h) (by kernel_rfl) (by kernel_rfl) (by kernel_rfl) (by kernel_rfl) ?_; clear F a; intro a F
        refine t_takeg (i := 12) F rfl rfl rfl g22 rfl hq1 (fun _ _ => r_move F rfl) (fun _ _ _ h => h) (by kernel_rfl) (by kernel_rfl) (by kernel_rfl) (by kernel_rfl) ?_; clear F a; intro a F
        refine c_split F (i := 33) rfl (fun g33 => ?_) (fun g33 => ?_)
        · skip
          refine t_takeg (i := 13) F rfl rfl rfl g33 rfl hq1 (fun _ _ => r_fieldAddr F rfl fld_State_3) (fun _ _ _ h => h) (by kernel_rfl) (by kernel_rfl) (by kernel_rfl) (by kernel_rfl) ?_; clear F a; intro a F
          refine t_takeg (i := 14) F rfl rfl rfl g33 rfl hq1 (fun _ ⟨_, _, M'⟩ => r_load1 M' F rfl (by repeat (first | exact List.mem_cons_self | apply List.mem_cons_of_mem)) sca_Entries rfl) (fun _ _ _ h => h) (by kernel_rfl) (by kernel_rfl) (by kernel_rfl) (by kernel_rfl) ?_; clear F a; intro a F
          refine t_takeg (i := 15) F rfl rfl rfl g33 rfl hq1 (fun _ _ => r_move F rfl) (fun _ _ _ h => h) (by kernel_rfl) (by kernel_rfl) (by kernel_rfl) (by kernel_rfl) ?_; clear F a; intro a F
          refine t_takeg (i := 16) F rfl rfl rfl g33 rfl hq1 (fun _ _ => r_indexSl F rfl rfl slc_Entries ha37 (by omega) (by omega)) (fun _ _ _ h => h) (by kernel_rfl) (by kernel_rfl) (by kernel_rfl) (by kernel_rfl) ?_; clear F a; intro a F
          refine t_takeg (i := 17) F rfl rfl rfl g33 rfl hq1 (fun _ _ => r_fieldAddr F rfl fld_Entry_1) (fun _ _ _ h => h) (by kernel_rfl) (by kernel_rfl) (by kernel_rfl) (by kernel_rfl) ?_; clear F a; intro a F
          refine t_takeg (i := 18) F rfl rfl rfl g33 rfl hq1 (fun _ ⟨_, hg, M'⟩ => r_loadrG1 hg M' F rfl hG37 sca_u32 (hS37.get rfl)) (fun _ _ _ h => h) (by kernel_rfl) (by kernel_rfl) (by kernel_rfl) (by kernel_rfl) ?_; clear F a; intro a F
          refine t_takeg (i := 19) F rfl rfl rfl g33 rfl hq1 (fun _ _ => r_fieldAddr F rfl fld_State_2) (fun _ _ _ h => h) (by kernel_rfl) (by kernel_rfl) (by kernel_rfl) (by kernel_rfl) ?_; clear F a; intro a F
          refine t_takeg (i := 20) F rfl rfl rfl g33 rfl hq1 (fun _ _ => r_fieldAddr F rfl fld_Entry_1) (fun _ _ _ h => h) (by kernel_rfl) (by kernel_rfl) (by kernel_rfl) (by kernel_rfl) ?_; clear F a; intro a F
          refine t_takeg (i := 21) F rfl rfl rfl g33 rfl hq1 (fun _ ⟨_, _, M'⟩ => r_load1 M' F rfl (by repeat (first | exact List.mem_cons_self | apply List.mem_cons_of_mem)) sca_u32 rfl) (fun _ _ _ h => h) (by kernel_rfl) (by kernel_rfl) (by kernel_rfl) (by kernel_rfl) ?_; clear F a; intro a F
          refine t_takeg (i := 22) F rfl rfl rfl g33 rfl hq1 (fun _ _ => r_eql_u32 F rfl rfl) (fun _ _ _ h => h) (by kernel_rfl) (by kernel_rfl) (by kernel_rfl) (by kernel_rfl) ?_; clear F a; intro a F
          refine t_takeg (i := 23) F rfl rfl rfl g22 rfl hq1 (fun _ _ => r_pick_t F rfl g33 rfl) (fun _ _ _ h => h) (by kernel_rfl) (by kernel_rfl) (by kernel_rfl) (by kernel_rfl) ?_; clear F a; intro a F
          refine t_take (i := 24) F rfl rfl hq1 (fun _ _ => r_pick_f F rfl g22 rfl) (fun _ _ _ h => h) (by kernel_rfl) (by kernel_rfl) (by kernel_rfl) (by kernel_rfl) ?_; clear F a; intro a F
          refine t_take (i := 25) F rfl rfl hq1 (fun _ _ => r_assign F rfl) (fun _ _ _ h => h) (by kernel_rfl) (by kernel_rfl) (by kernel_rfl) (by kernel_rfl) ?_; clear F a; intro a F
          refine t_done (by kernel_rfl) ?_ _
          refine hK7 _ _ ?_
          refine wp_region_lit ?_
          refine l_step rfl (o_val F (r_move F rfl) rfl ?_); clear F a; intro a F
          refine l_step rfl (o_val F (r_add_i64 F rfl rfl (by omega)) rfl ?_); clear F a; intro a F
          refine l_step rfl (o_val F (r_assign F rfl) rfl ?_); clear F a; intro a F
          refine l_nil ?_
          exact ⟨s.log.length - (i + 1), by omega, i + 1, _, _, rfl, by omega, (F.cons (F.cons (F.cons (F.cons F.nil 2 rfl) 3 rfl) 5 rfl) 6 rfl), M.drop (by repeat (first | exact List.Sublist.refl _ | apply List.Sublist.cons_cons | apply List.Sublist.cons)), (by rw [take_of hx, List.any_append, ← Bool.or_assoc, ← hf]; simp only [List.any_cons, List.any_nil, Bool.or_false]; first | (rw [g22]; rfl) | (rw [g22, g33]; rfl))⟩
        · skip
          refine t_skip (i := 13) F rfl rfl rfl g33 rfl hq1 (fun _ _ _ h => h) (by kernel_rfl) (by kernel_rfl) (by kernel_rfl) (by kernel_rfl) ?_; clear F a; intro a F
          refine t_skip (i := 14) F rfl rfl rfl g33 rfl hq1 (fun _ _ _ h => h) (by kernel_rfl) (by kernel_rfl) (by kernel_rfl) (by kernel_rfl) ?_; clear F a; intro a F
          refine t_skip (i := 15) F rfl rfl rfl g33 rfl hq1 (fun _ _ _ h => h) (by kernel_rfl) (by kernel_rfl) (by kernel_rfl) (by kernel_rfl) ?_; clear F a; intro a F
          refine t_skip (i := 16) F rfl rfl rfl g33 rfl hq1 (fun _ _ _ h => h) (by kernel_rfl) (by kernel_rfl) (by kernel_rfl) (by kernel_rfl) ?_; clear F a; intro a F
          refine t_skip (i := 17) F rfl rfl rfl g33 rfl hq1 (fun _ _ _ h => h) (by kernel_rfl) (by kernel_rfl) (by kernel_rfl) (by kernel_rfl) ?_; clear F a; intro a F
          refine t_skip (i := 18) F rfl rfl rfl g33 rfl hq1 (fun _ _ _ h => h) (by kernel_rfl) (by kernel_rfl) (by kernel_rfl) (by kernel_rfl) ?_; clear F a; intro a F
          refine t_skip (i := 19) F rfl rfl rfl g33 rfl hq1 (fun _ _ _ h => h) (by kernel_rfl) (by kernel_rfl) (by kernel_rfl) (by kernel_rfl) ?_; clear F a; intro a F
          refine t_skip (i := 20) F rfl rfl rfl g33 rfl hq1 (fun _ _ _ h => h) (by kernel_rfl) (by kernel_rfl) (by kernel_rfl) (by kernel_rfl) ?_; clear F a; intro a F
          refine t_skip (i := 21) F rfl rfl rfl g33 rfl hq1 (fun _ _ _ h => h) (by kernel_rfl) (by kernel_rfl) (by kernel_rfl) (by kernel_rfl) ?_; clear F a; intro a F
          refine t_skip (i := 22) F rfl rfl rfl g33 rfl hq1 (fun _ _ _ h => h) (by kernel_rfl) (by kernel_rfl) (by kernel_rfl) (by kernel_rfl) ?_; clear F a; intro a F
          refine t_takeg (i := 23) F rfl rfl rfl g22 rfl hq1 (fun _ _ => r_pick_f F rfl g33 rfl) (fun _ _ _ h => h) (by kernel_rfl) (by kernel_rfl) (by kernel_rfl) (by kernel_rfl) ?_; clear F a; intro a F
          refine t_take (i := 24) F rfl rfl hq1 (fun _ _ => r_pick_f F rfl g22 rfl) (fun _ _ _ h => h) (by kernel_rfl) (by kernel_rfl) (by kernel_rfl) (by kernel_rfl) ?_; clear F a; intro a F
          refine t_take (i := 25) F rfl rfl hq1 (fun _ _ => r_assign F rfl) (fun _ _ _ h => h) (by kernel_rfl) (by kernel_rfl) (by kernel_rfl) (by kernel_rfl) ?_; clear F a; intro a F
          refine t_done (by kernel_rfl) ?_ _
          refine hK7 _ _ ?_
          refine wp_region_lit ?_
          refine l_step rfl (o_val F (r_move F rfl) rfl ?_); clear F a; intro a F
          refine l_step rfl (o_val F (r_add_i64 F rfl rfl (by omega)) rfl ?_); clear F a; intro a F
          refine l_step rfl (o_val F (r_assign F rfl) rfl ?_); clear F a; intro a F
          refine l_nil ?_
          exact ⟨s.log.length - (i + 1), by omega, i + 1, _, _, rfl, by omega, (F.cons (F.cons (F.cons (F.cons F.nil 2 rfl) 3 rfl) 5 rfl) 6 rfl), M.drop (by repeat (first | exact List.Sublist.refl _ | apply List.Sublist.cons_cons | apply List.Sublist.cons)), (by rw [take_of hx, List.any_append, ← Bool.or_assoc, ← hf]; simp only [List.any_cons, List.any_nil, Bool.or_false]; first | (rw [g22]; rfl) | (rw [g22, g33]; rfl))⟩
    · skip
      have hge : i = s.log.length := by have h := of_decide_eq_false g18; omega
      rw [hge, List.take_length] at hf
      have hz : z = rIn s t := hf
      refine wp_exit ?_
      refine hK3 _ _ ?_
      refine c_seq (fun K8 hK8 => ?_)
      refine c_seq (fun K9 hK9 => ?_)
      refine wp_region_lit ?_
      refine l_step rfl (o_val F (r_move F rfl) rfl ?_); clear F a; intro a F
      refine l_step rfl (o_val F (r_not F rfl) rfl ?_); clear F a; intro a F
      refine l_nil ?_
      refine hK9 _ _ ?_
      refine c_cond F rfl (fun g47 => ?_) (fun g47 => ?_)
      · skip
        refine c_seq (fun K10 hK10 => ?_)
        refine wp_region_lit ?_
        refine l_step rfl (o_val F (r_assign F rfl) rfl ?_); clear F a; intro a F
        refine l_nil ?_
        refine hK10 _ _ ?_
        refine wp_ret ?_
        exact ret1 Try.results96 M F (rv_tmp F rfl) (by rw [← hz, (by simpa using g47 : z = false)]; rfl)
      · skip
        refine wp_skip ?_
        refine hK8 _ _ ?_
        refine c_seq (fun K11 hK11 => ?_)
        refine wp_region_lit ?_
        refine l_step rfl (o_val F (r_load M F rfl (by repeat (first | exact List.mem_cons_self | apply List.mem_cons_of_mem)) agg_State (seg_all rfl)) rfl ?_); clear F a; intro a F
        refine l_step rfl (o_val F (r_fieldAddr F rfl fld_State_2) rfl ?_); clear F a; intro a F
        refine l_step rfl (o_val F (r_fieldAddr F rfl fld_Entry_1) rfl ?_); clear F a; intro a F
        refine l_step rfl (o_val F (r_load1 M F rfl (by repeat (first | exact List.mem_cons_self | apply List.mem_cons_of_mem)) sca_u32 rfl) rfl ?_); clear F a; intro a F
        refine l_step rfl (o_call M F rfl (c_paddockref6_Upto M.imm (hl.mono M.gl)) rfl ?_); clear F a; intro a W3 v3 G3 hp3 M E3 F
        subst hp3
        refine l_step rfl (o_val F (r_move F rfl) rfl ?_); clear F a; intro a F
        refine l_step rfl (o_val F (r_extract F rfl rfl) rfl ?_); clear F a; intro a F
        refine l_step rfl (o_val F (r_extract F rfl rfl) rfl ?_); clear F a; intro a F
        refine l_step rfl (o_alloc M F zer_Base rfl ?_); clear F a; intro a W4 b3 M F
        refine l_step rfl (o_storeA M F rfl rfl agg_Base.size (by repeat (first | exact Upd.here _ _ _ _ _ | apply Upd.there)) (by rfl) (by rfl) (by rfl) ?_); clear F a; intro a W5 M F
        refine l_step rfl (o_val F (r_assign F rfl) rfl ?_); clear F a; intro a F
        refine l_nil ?_
        refine hK11 _ _ ?_
        refine c_seq (fun K12 hK12 => ?_)
        refine wp_region_lit ?_
        refine l_step rfl (o_val F (r_move F rfl) rfl ?_); clear F a; intro a F
        refine l_step rfl (o_val F (r_move F rfl) rfl ?_); clear F a; intro a F
        refine c_split F (i := 57) rfl (fun g57 => ?_) (fun g57 => ?_)
        · skip
          refine l_guard F rfl rfl rfl g57 (o_val F (r_load M F rfl (by repeat (first | exact List.mem_cons_self | apply List.mem_cons_of_mem)) agg_Base (seg_all rfl)) rfl ?_); clear F a; intro a F
          refine l_guard F rfl rfl rfl g57 (o_val F (r_fieldAddr F rfl fld_State_1) rfl ?_); clear F a; intro a F
          refine l_guard F rfl rfl rfl g57 (o_val F (r_load M F rfl (by repeat (first | exact List.mem_cons_self | apply List.mem_cons_of_mem)) agg_Base g_State_1) rfl ?_); clear F a; intro a F
          refine l_guard F rfl rfl rfl g57 (o_val F (r_eql_Base F rfl rfl) rfl ?_); clear F a; intro a F
          refine l_step rfl (o_val F (r_pick_t F rfl g57 rfl) rfl ?_); clear F a; intro a F
          refine l_step rfl (o_val F (r_assign F rfl) rfl ?_); clear F a; intro a F
          refine l_nil ?_
          refine hK12 _ _ ?_
          refine wp_ret ?_
          exact ret1 Try.results96 M F (rv_tmp F rfl) (by rw [← hz, (by simpa using g47 : z = true), g57]; rfl)
        · skip
          iterate 4 (refine l_skip F rfl rfl rfl g57 rfl rfl ?_; clear F a; intro a F)
          refine l_step rfl (o_val F (r_pick_f F rfl g57 rfl) rfl ?_); clear F a; intro a F
          refine l_step rfl (o_val F (r_assign F rfl) rfl ?_); clear F a; intro a F
          refine l_nil ?_
          refine hK12 _ _ ?_
          refine wp_ret ?_
          exact ret1 Try.results96 M F (rv_tmp F rfl) (by rw [← hz, (by simpa using g47 : z = true), g57]; rfl)
set_option maxHeartbeats 2000000 in
theorem c_paddockref8_Make {w : World} {G0 : Ghost} (hI : Imm G0 w) {s t : PState} {l l1 : Sl} (hl : Ens G0 l s.log) (hl1 : Ens G0 l1 t.log) : Ret P 56 [agg (GState.enc (s.at l)), agg (GState.enc (t.at l1))] [] w G0 (fun G W v => ∃ l' l2', v = agg (GDiff.enc ((pMake s t).at l' l2')) ∧ Ens G l' (pMake s t).log ∧ Ens G l2' (pMake s t).whole.log) := by
  refine enter Try.func56 rfl Try.ntmps56 rfl rfl hI (fun a F M => ?_)
  have hlen1 : (t.at l1).log.len = t.log.length := hl1.len
  have hmax := hl1.rd.max
  have hcap := hl1.rd.cap
  have hl1len := hl1.len
  have hl0 := hl
  have hl10 := hl1
  refine c_seq (fun K1 hK1 => ?_)
  refine wp_region_lit ?_
  refine l_step rfl (o_box M F rfl rfl ?_); clear F a; intro a W1 b1 M F
  refine l_step rfl (o_box M F rfl rfl ?_); clear F a; intro a W2 b2 M F
  refine l_step rfl (o_alloc M F zer_Diff rfl ?_); clear F a; intro a W3 b3 M F
  refine l_nil ?_
  refine hK1 _ _ ?_
  refine c_seq (fun K2 hK2 => ?_)
  refine c_seq (fun K3 hK3 => ?_)
  refine wp_region_lit ?_
  refine l_step rfl (o_val F (r_load M F rfl (by repeat (first | exact List.mem_cons_self | apply List.mem_cons_of_mem)) agg_State (seg_all rfl)) rfl ?_); clear F a; intro a F
  refine l_step rfl (o_call M F rfl (c_paddockref6_Is M.imm hl) rfl ?_); clear F a; intro a W4 v4 G4 hp4 M E4 F
  have hl := hl.mono E4.gl
  have hl1 := hl1.mono E4.gl
  subst hp4
  refine l_step rfl (o_val F (r_not F rfl) rfl ?_); clear F a; intro a F
  refine l_step rfl (o_val F (r_move F rfl) rfl ?_); clear F a; intro a F
  refine c_split F (i := 13) rfl (fun g13 => ?_) (fun g13 => ?_)
  · skip
    iterate 3 (refine l_skip F rfl rfl rfl g13 rfl rfl ?_; clear F a; intro a F)
    refine l_step rfl (o_val F (r_pick_t F rfl g13 rfl) rfl ?_); clear F a; intro a F
    refine l_nil ?_
    refine hK3 _ _ ?_
    refine c_true F rfl rfl ?_
    refine c_seq (fun K4 hK4 => ?_)
    refine wp_region_lit ?_
    refine l_step rfl (o_val F (r_build F rfl b_Diff) rfl ?_); clear F a; intro a F
    refine l_step rfl (o_storeA M F rfl rfl agg_Diff.size (by repeat (first | exact Upd.here _ _ _ _ _ | apply Upd.there)) (by rfl) (by rfl) (by rfl) ?_); clear F a; intro a W5 M F
    refine l_nil ?_
    refine hK4 _ _ ?_
    refine wp_ret ?_
    exact ret1 Try.results56 M F (rv_cell M F rfl (by repeat (first | exact List.mem_cons_self | apply List.mem_cons_of_mem)) agg_Diff rfl) (⟨Sl.nil, Sl.nil, by clear hI M F hK1 hK2 hK3 hK4; simp_all [pMake, PDiff.zero, PState.zero], by clear hI M F hK1 hK2 hK3 hK4; simp_all [pMake, PDiff.zero, PState.zero]; exact Ens.nil _, by clear hI M F hK1 hK2 hK3 hK4; simp_all [pMake, PDiff.zero, PState.zero]; exact Ens.nil _⟩)
  · skip
    refine l_guard F rfl rfl rfl g13 (o_val F (r_load M F rfl (by repeat (first | exact List.mem_cons_self | apply List.mem_cons_of_mem)) agg_State (seg_all rfl)) rfl ?_); clear F a; intro a F
    refine l_guard F rfl rfl rfl g13 (o_call M F rfl (c_paddockref6_Is M.imm hl1) rfl ?_); clear F a; intro a W6 v6 G6 hp6 M E6 F
    have hl := hl.mono E6.gl
    have hl1 := hl1.mono E6.gl
    subst hp6
    refine l_guard F rfl rfl rfl g13 (o_val F (r_not F rfl) rfl ?_); clear F a; intro a F
    refine l_step rfl (o_val F (r_pick_f F rfl g13 rfl) rfl ?_); clear F a; intro a F
    refine l_nil ?_
    refine hK3 _ _ ?_
    refine c_cond F rfl (fun g17 => ?_) (fun g17 => ?_)
    · skip
      refine c_seq (fun K5 hK5 => ?_)
      refine wp_region_lit ?_
      refine l_step rfl (o_val F (r_build F rfl b_Diff) rfl ?_); clear F a; intro a F
      refine l_step rfl (o_storeA M F rfl rfl agg_Diff.size (by repeat (first | exact Upd.here _ _ _ _ _ | apply Upd.there)) (by rfl) (by rfl) (by rfl) ?_); clear F a; intro a W7 M F
      refine l_nil ?_
      refine hK5 _ _ ?_
      refine wp_ret ?_
      exact ret1 Try.results56 M F (rv_cell M F rfl (by repeat (first | exact List.mem_cons_self | apply List.mem_cons_of_mem)) agg_Diff rfl) (⟨Sl.nil, Sl.nil, by clear hI M F hK1 hK2 hK3 hK5; simp_all [pMake, PDiff.zero, PState.zero], by clear hI M F hK1 hK2 hK3 hK5; simp_all [pMake, PDiff.zero, PState.zero]; exact Ens.nil _, by clear hI M F hK1 hK2 hK3 hK5; simp_all [pMake, PDiff.zero, PState.zero]; exact Ens.nil _⟩)
    · skip
      refine wp_skip ?_
      refine hK2 _ _ ?_
      refine c_seq (fun K6 hK6 => ?_)
      refine wp_region_lit ?_
      have his : pIs s = true := by simpa using g13
      have hit : pIs t = true := by simpa using g17
      have hok := is_ok his
      have hot := is_ok hit
      have hch := hot.ch
      have hp6 := hot.len
      have hmk0 : ({ s with started := t.started } : PState) = t → pMake s t = ⟨0, 0, [], pmHead t⟩ := fun h => by rw [pMake, if_neg (by simp [his, hit]), if_pos h]
      have hmk1 : ¬ ({ s with started := t.started } : PState) = t → pStands s t = true → pMake s t = ⟨1, pCommon s t.tail.n t.log, t.log.drop (pCommon s t.tail.n t.log - t.tail.n).toNat, pmHead t⟩ := fun h h2 => by rw [pMake, if_neg (by simp [his, hit]), if_neg h, if_neg (by simp [h2])]
      have hmk2 : ¬ ({ s with started := t.started } : PState) = t → pStands s t = false → pMake s t = ⟨2, 0, [], t⟩ := fun h h2 => by rw [pMake, if_neg (by simp [his, hit]), if_neg h, if_pos h2]
      refine l_step rfl (o_val F (r_fieldAddr F rfl fld_State_0) rfl ?_); clear F a; intro a F
      refine l_step rfl (o_val F (r_load1 M F rfl (by repeat (first | exact List.mem_cons_self | apply List.mem_cons_of_mem)) sca_u32 rfl) rfl ?_); clear F a; intro a F
      refine l_step rfl (o_val F (r_fieldAddr F rfl fld_State_2) rfl ?_); clear F a; intro a F
      refine l_step rfl (o_val F (r_load M F rfl (by repeat (first | exact List.mem_cons_self | apply List.mem_cons_of_mem)) agg_Entry g_State_2) rfl ?_); clear F a; intro a F
      refine l_step rfl (o_val F (r_build F rfl (b_State_0_2 _ _)) rfl ?_); clear F a; intro a F
      refine l_step rfl (o_val F (r_build F rfl (b_Diff_3 _)) rfl ?_); clear F a; intro a F
      refine l_step rfl (o_alloc M F zer_Diff rfl ?_); clear F a; intro a W8 b4 M F
      refine l_step rfl (o_storeA M F rfl rfl agg_Diff.size (by repeat (first | exact Upd.here _ _ _ _ _ | apply Upd.there)) (by rfl) (by rfl) (by rfl) ?_); clear F a; intro a W9 M F
      refine l_nil ?_
      refine hK6 _ _ ?_
      refine c_seq (fun K7 hK7 => ?_)
      refine wp_region_lit ?_
      refine l_step rfl (o_val F (r_load M F rfl (by repeat (first | exact List.mem_cons_self | apply List.mem_cons_of_mem)) agg_State (seg_all rfl)) rfl ?_); clear F a; intro a F
      refine l_step rfl (o_alloc M F zer_State rfl ?_); clear F a; intro a W10 b5 M F
      refine l_step rfl (o_storeA M F rfl rfl agg_State.size (by repeat (first | exact Upd.here _ _ _ _ _ | apply Upd.there)) (by rfl) (by rfl) (by rfl) ?_); clear F a; intro a W11 M F
      refine l_nil ?_
      refine hK7 _ _ ?_
      refine c_seq (fun K8 hK8 => ?_)
      refine wp_region_lit ?_
      refine l_step rfl (o_val F (r_fieldAddr F rfl fld_State_0) rfl ?_); clear F a; intro a F
      refine l_step rfl (o_val F (r_load1 M F rfl (by repeat (first | exact List.mem_cons_self | apply List.mem_cons_of_mem)) sca_u32 rfl) rfl ?_); clear F a; intro a F
      refine l_step rfl (o_val F (r_fieldAddr F rfl fld_State_0) rfl ?_); clear F a; intro a F
      refine l_step rfl (o_store1 M F rfl rfl sca_u32 rfl rfl p_State_0 (by repeat (first | exact Upd.here _ _ _ _ _ | apply Upd.there)) ?_); clear F a; intro a W12 M F
      refine l_nil ?_
      refine hK8 _ _ ?_
      refine c_seq (fun K9 hK9 => ?_)
      refine wp_block ?_
      refine c_seq (fun K10 hK10 => ?_)
      refine wp_region_lit ?_
      refine l_step rfl (o_val F (r_load M F rfl (by repeat (first | exact List.mem_cons_self | apply List.mem_cons_of_mem)) agg_State (seg_all rfl)) rfl ?_); clear F a; intro a F
      refine l_step rfl (o_val F (r_load M F rfl (by repeat (first | exact List.mem_cons_self | apply List.mem_cons_of_mem)) agg_State (seg_all rfl)) rfl ?_); clear F a; intro a F
      refine l_step rfl (o_call M F rfl (c_paddockref6_Same (s := { s with started := t.started }) (t := t) M.imm hl hl1) rfl ?_); clear F a; intro a W13 v13 G13 hp13 M E13 F
      have hl := hl.mono E13.gl
      have hl1 := hl1.mono E13.gl
      subst hp13
      refine l_step rfl (o_val F (r_assign F rfl) rfl ?_); clear F a; intro a F
      refine l_nil ?_
      refine hK10 _ _ ?_
      refine c_cond F rfl (fun g32 => ?_) (fun g32 => ?_)
      · skip
        refine wp_skip ?_
        refine hK9 _ _ ?_
        refine c_seq (fun K11 hK11 => ?_)
        refine wp_region_lit ?_
        refine l_step rfl (o_val F (r_load M F rfl (by repeat (first | exact List.mem_cons_self | apply List.mem_cons_of_mem)) agg_Diff (seg_all rfl)) rfl ?_); clear F a; intro a F
        refine l_step rfl (o_storeA M F rfl rfl agg_Diff.size (by repeat (first | exact Upd.here _ _ _ _ _ | apply Upd.there)) (by rfl) (by rfl) (by rfl) ?_); clear F a; intro a W14 M F
        refine l_nil ?_
        refine hK11 _ _ ?_
        refine wp_ret ?_
        exact ret1 Try.results56 M F (rv_cell M F rfl (by repeat (first | exact List.mem_cons_self | apply List.mem_cons_of_mem)) agg_Diff rfl) (⟨Sl.nil, Sl.nil, by rw [hmk0 (of_decide_eq_true g32)] <;> rfl, by rw [hmk0 (of_decide_eq_true g32)]; exact Ens.nil _, by rw [hmk0 (of_decide_eq_true g32)]; exact Ens.nil _⟩)
      · skip
        refine c_seq (fun K12 hK12 => ?_)
        refine wp_region_lit ?_
        refine l_step rfl (o_val F (r_load M F rfl (by repeat (first | exact List.mem_cons_self | apply List.mem_cons_of_mem)) agg_State (seg_all rfl)) rfl ?_); clear F a; intro a F
        refine l_step rfl (o_val F (r_load M F rfl (by repeat (first | exact List.mem_cons_self | apply List.mem_cons_of_mem)) agg_State (seg_all rfl)) rfl ?_); clear F a; intro a F
        refine l_step rfl (o_call M F rfl (c_paddockref8_shared M.imm hl hl1) rfl ?_); clear F a; intro a W15 v15 G15 hp15 M E15 F
        have hl := hl.mono E15.gl
        have hl1 := hl1.mono E15.gl
        subst hp15
        simp only [← stands_rIn hok hot] at F
        refine l_step rfl (o_val F (r_assign F rfl) rfl ?_); clear F a; intro a F
        refine l_nil ?_
        refine hK12 _ _ ?_
        refine c_cond F rfl (fun g36 => ?_) (fun g36 => ?_)
        · skip
          refine c_seq (fun K13 hK13 => ?_)
          refine c_drawM (M.drop (List.Sublist.cons_cons _ (List.Sublist.cons _ (List.Sublist.cons_cons _ (List.Sublist.cons_cons _ (List.Sublist.cons_cons _ (List.Sublist.refl _))))))) [] mixed (fun Mk => ?_)
          have M := M.drew
          have Ms := Mk
          have hq1 := Keeps.here Mk
          have hle1 := M.gle
          refine t_take (i := 0) F rfl rfl hq1 (fun _ _ => r_fieldAddr F rfl fld_State_2) (fun _ _ _ h => h) (by kernel_rfl) (by kernel_rfl) (by kernel_rfl) (by kernel_rfl) ?_; clear F a; intro a F
          refine t_take (i := 1) F rfl rfl hq1 (fun _ _ => r_fieldAddr F rfl fld_Entry_1) (fun _ _ _ h => h) (by kernel_rfl) (by kernel_rfl) (by kernel_rfl) (by kernel_rfl) ?_; clear F a; intro a F
          refine t_take (i := 2) F rfl rfl hq1 (fun _ ⟨_, _, M'⟩ => r_load1 M' F rfl (by repeat (first | exact List.mem_cons_self | apply List.mem_cons_of_mem)) sca_u32 rfl) (fun _ _ _ h => h) (by kernel_rfl) (by kernel_rfl) (by kernel_rfl) (by kernel_rfl) ?_; clear F a; intro a F
          refine t_take (i := 3) F rfl rfl hq1 (fun _ _ => r_fieldAddr F rfl fld_Diff_0) (fun _ _ _ h => h) (by kernel_rfl) (by kernel_rfl) (by kernel_rfl) (by kernel_rfl) ?_; clear F a; intro a F
          refine t_one (i := 4) (by kernel_rfl) rfl rfl (o_store1 M F rfl rfl sca_int rfl rfl p_Diff_0 (by repeat (first | exact Upd.here _ _ _ _ _ | apply Upd.there)) ?_); clear F a; intro a W16 M F
          refine keepAnd (Keeps.mk hle1 M (by repeat (first | exact List.Sublist.refl _ | apply List.Sublist.cons_cons | apply List.Sublist.cons))) (fun hq1 => ?_)
          refine t_take (i := 5) F rfl rfl hq1 (fun _ _ => r_fieldAddr F rfl fld_Diff_1) (fun _ _ _ h => h) (by kernel_rfl) (by kernel_rfl) (by kernel_rfl) (by kernel_rfl) ?_; clear F a; intro a F
          refine t_one (i := 6) (by kernel_rfl) rfl rfl (o_store1 M F rfl rfl sca_u32 rfl rfl p_Diff_1 (by repeat (first | exact Upd.here _ _ _ _ _ | apply Upd.there)) ?_); clear F a; intro a W17 M F
          refine keepAnd (Keeps.mk hle1 M (by repeat (first | exact List.Sublist.refl _ | apply List.Sublist.cons_cons | apply List.Sublist.cons))) (fun hq1 => ?_)
          refine t_done (by kernel_rfl) ?_ _
          refine hK13 _ _ ?_
          refine c_seq (fun K14 hK14 => ?_)
          refine wp_region_lit ?_
          refine l_step rfl (o_val F (r_assign F rfl) rfl ?_); clear F a; intro a F
          refine l_nil ?_
          refine hK14 _ _ ?_
          refine c_seq (fun K15 hK15 => ?_)
          refine wp_block ?_
          refine c_loop (fun k a W => ∃ (i : Nat) (G : Ghost) (fr : UInt32), k = t.log.length - i ∧ i ≤ t.log.length ∧ Frm 84 [(7, .int .i64 (i : Int)), (5, .pointer (some ⟨b4, 0, none⟩)), (4, .pointer (some ⟨b3, 0, none⟩)), (3, .pointer (some ⟨b2, 0, none⟩)), (2, .pointer (some ⟨b1, 0, none⟩))] a ∧ St [] w G0 W [⟨b4, 94, GDiff.enc ⟨1, fr, Sl.nil, (pmHead t).at Sl.nil⟩⟩, ⟨b3, 94, GDiff.enc ⟨0, 0, Sl.nil, ⟨0, PBase.zero, PEntry.zero, Sl.nil⟩⟩⟩, ⟨b2, 42, (t.at l1).enc⟩, ⟨b1, 42, (s.at l).enc⟩] G ∧ (pCommon s t.tail.n t.log = pCommon s fr (t.log.drop i) ∧ fr.toNat = t.tail.n.toNat + i)) (t.log.length) ?_ ?_
          · exact ⟨0, _, t.tail.n, rfl, Nat.zero_le _, (F.cons (F.cons (F.cons (F.cons (F.cons F.nil 2 rfl) 3 rfl) 4 rfl) 5 rfl) 7 rfl), (M.drop (by repeat (first | exact List.Sublist.refl _ | apply List.Sublist.cons_cons | apply List.Sublist.cons))), ⟨rfl, rfl⟩⟩
          · clear F M a; intro k a W hI; obtain ⟨i, G, fr, hk, hi, F, M, hf⟩ := hI
            obtain ⟨hf, hfr⟩ := hf
            refine c_seq (fun K16 hK16 => ?_)
            refine c_seq (fun K17 hK17 => ?_)
            refine wp_region_lit ?_
            refine l_step rfl (o_val F (r_move F rfl) rfl ?_); clear F a; intro a F
            refine l_step rfl (o_val F (r_fieldAddr F rfl fld_State_3) rfl ?_); clear F a; intro a F
            refine l_step rfl (o_val F (r_load1 M F rfl (by repeat (first | exact List.mem_cons_self | apply List.mem_cons_of_mem)) sca_Entries rfl) rfl ?_); clear F a; intro a F
            refine l_step rfl (o_val F (r_len_slice F slc_Entries.und rfl) rfl ?_); clear F a; intro a F
            refine l_step rfl (o_val F (r_lss_i64 F rfl rfl) rfl ?_); clear F a; intro a F
            refine l_nil ?_
            refine hK17 _ _ ?_
            refine c_cond F rfl (fun g49 => ?_) (fun g49 => ?_)
            · skip
              have hlt : i < t.log.length := by have h := of_decide_eq_true g49; omega
              obtain ⟨x, hx⟩ := get_of hlt
              have hxn := chain_n _ _ hch i x hx
              rw [drop_of hx, pCommon] at hf
              refine wp_skip ?_
              refine hK16 _ _ ?_
              refine wp_block ?_
              refine c_seq (fun K18 hK18 => ?_)
              refine c_drawM M [] mixed (fun M => ?_)
              have Ms := M
              have hq2 := Keeps.here M
              have hle2 := M.gle
              obtain ⟨eb, eo, er, ha55, hG55, hS55⟩ := (hl10.mono Ms.gl).elem hx
              refine t_take (i := 0) F rfl rfl hq2 (fun _ ⟨_, _, M'⟩ => r_load M' F rfl (by repeat (first | exact List.mem_cons_self | apply List.mem_cons_of_mem)) agg_State (seg_all rfl)) (fun _ _ _ h => h) (by kernel_rfl) (by kernel_rfl) (by kernel_rfl) (by kernel_rfl) ?_; clear F a; intro a F
              refine t_take (i := 1) F rfl rfl hq2 (fun _ _ => r_fieldAddr F rfl fld_State_3) (fun _ _ _ h => h) (by kernel_rfl) (by kernel_rfl) (by kernel_rfl) (by kernel_rfl) ?_; clear F a; intro a F
              refine t_take (i := 2) F rfl rfl hq2 (fun _ ⟨_, _, M'⟩ => r_load1 M' F rfl (by repeat (first | exact List.mem_cons_self | apply List.mem_cons_of_mem)) sca_Entries rfl) (fun _ _ _ h => h) (by kernel_rfl) (by kernel_rfl) (by kernel_rfl) (by kernel_rfl) ?_; clear F a; intro a F
              refine t_take (i := 3) F rfl rfl hq2 (fun _ _ => r_move F rfl) (fun _ _ _ h => h) (by kernel_rfl) (by kernel_rfl) (by kernel_rfl) (by kernel_rfl) ?_; clear F a; intro a F
              refine t_take (i := 4) F rfl rfl hq2 (fun _ _ => r_indexSl F rfl rfl slc_Entries ha55 (by omega) (by omega)) (fun _ _ _ h => h) (by kernel_rfl) (by kernel_rfl) (by kernel_rfl) (by kernel_rfl) ?_; clear F a; intro a F
              refine t_take (i := 5) F rfl rfl hq2 (fun _ _ => r_fieldAddr F rfl fld_Entry_1) (fun _ _ _ h => h) (by kernel_rfl) (by kernel_rfl) (by kernel_rfl) (by kernel_rfl) ?_; clear F a; intro a F
              refine t_take (i := 6) F rfl rfl hq2 (fun _ ⟨_, hg, M'⟩ => r_loadrG1 hg M' F rfl hG55 sca_u32 (hS55.get rfl)) (fun _ _ _ h => h) (by kernel_rfl) (by kernel_rfl) (by kernel_rfl) (by kernel_rfl) ?_; clear F a; intro a F
              refine t_rdy2 (i := 7) (j := 11) (by kernel_rfl) (w_plain rfl rfl ?_) (w_plain rfl rfl ?_)
              · skip
                refine id (o_call M F rfl (c_paddockref6_Find M.imm (hl0.mono M.gl)) rfl ?_); clear F a; intro a W18 v18 G18 hp18 M E18 F
                subst hp18
                have hle2 := hle2.trans E18.gl
                refine keepAnd (Keeps.mk hle2 M (by repeat (first | exact List.Sublist.refl _ | apply List.Sublist.cons_cons | apply List.Sublist.cons))) (fun hq2 => ?_)
                refine t_take (i := 8) F rfl rfl hq2 (fun _ _ => r_move F rfl) (fun _ _ _ h => h) (by kernel_rfl) (by kernel_rfl) (by kernel_rfl) (by kernel_rfl) ?_; clear F a; intro a F
                refine t_take (i := 9) F rfl rfl hq2 (fun _ _ => r_extract F rfl rfl) (fun _ _ _ h => h) (by kernel_rfl) (by kernel_rfl) (by kernel_rfl) (by kernel_rfl) ?_; clear F a; intro a F
                refine t_take (i := 10) F rfl rfl hq2 (fun _ _ => r_extract F rfl rfl) (fun _ _ _ h => h) (by kernel_rfl) (by kernel_rfl) (by kernel_rfl) (by kernel_rfl) ?_; clear F a; intro a F
                refine t_one (i := 11) (by kernel_rfl) rfl rfl (o_alloc M F zer_Entry rfl ?_); clear F a; intro a W19 b6 M F
                refine keepAnd (Keeps.mk hle2 M (by repeat (first | exact List.Sublist.refl _ | apply List.Sublist.cons_cons | apply List.Sublist.cons))) (fun hq2 => ?_)
                refine t_one (i := 12) (by kernel_rfl) rfl rfl (o_storeA M F rfl rfl agg_Entry.size (by repeat (first | exact Upd.here _ _ _ _ _ | apply Upd.there)) (by rfl) (by rfl) (by rfl) ?_); clear F a; intro a W20 M F
                refine keepAnd (Keeps.mk hle2 M (by repeat (first | exact List.Sublist.refl _ | apply List.Sublist.cons_cons | apply List.Sublist.cons))) (fun hq2 => ?_)
                refine t_take (i := 13) F rfl rfl hq2 (fun _ _ => r_assign F rfl) (fun _ _ _ h => h) (by kernel_rfl) (by kernel_rfl) (by kernel_rfl) (by kernel_rfl) ?_; clear F a; intro a F
                refine t_done (by kernel_rfl) ?_ _
                refine hK18 _ _ ?_
                refine c_seq (fun K19 hK19 => ?_)
                refine c_seq (fun K20 hK20 => ?_)
                refine c_drawM M [] mixed (fun M => ?_)
                have Ms := M
                have hq3 := Keeps.here M
                have hle3 := M.gle
                obtain ⟨eb, eo, er, ha68, hG68, hS68⟩ := (hl10.mono Ms.gl).elem hx
                refine t_take (i := 0) F rfl rfl hq3 (fun _ _ => r_move F rfl) (fun _ _ _ h => h) (by kernel_rfl) (by kernel_rfl) (by kernel_rfl) (by kernel_rfl) ?_; clear F a; intro a F
                refine t_take (i := 1) F rfl rfl hq3 (fun _ _ => r_not F rfl) (fun _ _ _ h => h) (by kernel_rfl) (by kernel_rfl) (by kernel_rfl) (by kernel_rfl) ?_; clear F a; intro a F
                refine t_take (i := 2) F rfl rfl hq3 (fun _ _ => r_move F rfl) (fun _ _ _ h => h) (by kernel_rfl) (by kernel_rfl) (by kernel_rfl) (by kernel_rfl) ?_; clear F a; intro a F
                refine c_split F (i := 63) rfl (fun g63 => ?_) (fun g63 => ?_)
                · skip
                  refine t_skip (i := 3) F rfl rfl rfl g63 rfl hq3 (fun _ _ _ h => h) (by kernel_rfl) (by kernel_rfl) (by kernel_rfl) (by kernel_rfl) ?_; clear F a; intro a F
                  refine t_skip (i := 4) F rfl rfl rfl g63 rfl hq3 (fun _ _ _ h => h) (by kernel_rfl) (by kernel_rfl) (by kernel_rfl) (by kernel_rfl) ?_; clear F a; intro a F
                  refine t_skip (i := 5) F rfl rfl rfl g63 rfl hq3 (fun _ _ _ h => h) (by kernel_rfl) (by kernel_rfl) (by kernel_rfl) (by kernel_rfl) ?_; clear F a; intro a F
                  refine t_skip (i := 6) F rfl rfl rfl g63 rfl hq3 (fun _ _ _ h => h) (by kernel_rfl) (by kernel_rfl) (by kernel_rfl) (by kernel_rfl) ?_; clear F a; intro a F
                  refine t_skip (i := 7) F rfl rfl rfl g63 rfl hq3 (fun _ _ _ h => h) (by kernel_rfl) (by kernel_rfl) (by kernel_rfl) (by kernel_rfl) ?_; clear F a; intro a F
                  refine t_skip (i := 8) F rfl rfl rfl g63 rfl hq3 (fun _ _ _ h => h) (by kernel_rfl) (by kernel_rfl) (by kernel_rfl) (by kernel_rfl) ?_; clear F a; intro a F
                  refine t_skip (i := 9) F rfl rfl rfl g63 rfl hq3 (fun _ _ _ h => h) (by kernel_rfl) (by kernel_rfl) (by kernel_rfl) (by kernel_rfl) ?_; clear F a; intro a F
                  refine t_take (i := 10) F rfl rfl hq3 (fun _ _ => r_pick_t F rfl g63 rfl) (fun _ _ _ h => h) (by kernel_rfl) (by kernel_rfl) (by kernel_rfl) (by kernel_rfl) ?_; clear F a; intro a F
                  refine t_done (by kernel_rfl) ?_ _
                  refine hK20 _ _ ?_
                  refine c_true F rfl rfl ?_
                  refine wp_exit ?_
                  refine hK15 _ _ ?_
                  refine wp_region_lit ?_
                  have hcf : pCommon s t.tail.n t.log = fr := by first | exact hf | (rw [hf, if_pos (.inl (by simpa using g63))]) | (rw [hf, if_pos (.inr (by simpa using g71))])
                  have hsub : (fr - t.tail.n).toNat = i := by rw [UInt32.toNat_sub_of_le _ _ (by rw [UInt32.le_iff_toNat_le]; omega)]; omega
                  have hc2 : Ens G0 (l1.cut 8 i l1.len) (t.log.drop i) := by have h := hl10.cut (i := i) (j := l1.len) (by omega) (by omega); rw [hl1len, ← List.length_drop, List.take_length] at h; rw [hl1len]; exact h
                  refine l_step rfl (o_val F (r_fieldAddr F rfl fld_State_3) rfl ?_); clear F a; intro a F
                  refine l_step rfl (o_val F (r_load1 M F rfl (by repeat (first | exact List.mem_cons_self | apply List.mem_cons_of_mem)) sca_Entries rfl) rfl ?_); clear F a; intro a F
                  refine l_step rfl (o_val F (r_move F rfl) rfl ?_); clear F a; intro a F
                  refine l_step rfl (o_val F (r_slice_from F slc_Entries rfl rfl (by omega) (by show (i : Int) ≤ (l1.len : Int); omega)) rfl ?_); clear F a; intro a F
                  refine l_step rfl (o_append (S := Sl.nil) M F slc_Entries app_Entry rfl rfl (Tip.nil _ _ _ _ _) (hc2.mono M.gl).rd (all_flat (fun x => rfl) _) (by show (0 + (l1.len - i)) * 40 ≤ _; omega) (by show 0 + (l1.len - i) ≤ _; omega) rfl ?_); clear F a; intro a W21 Sa Ga hga hla hna F
                  have M := hga.st
                  have hl2 : Ens Ga Sa (t.log.drop i) := Tip.ens (by simpa using hga.tip)
                  refine l_step rfl (o_val F (r_fieldAddr F rfl fld_Diff_2) rfl ?_); clear F a; intro a F
                  refine l_step rfl (o_store1 M F rfl rfl sca_Entries rfl rfl p_Diff_2 (by repeat (first | exact Upd.here _ _ _ _ _ | apply Upd.there)) ?_); clear F a; intro a W22 M F
                  refine l_nil ?_
                  refine hK9 _ _ ?_
                  refine c_seq (fun K21 hK21 => ?_)
                  refine wp_region_lit ?_
                  refine l_step rfl (o_val F (r_load M F rfl (by repeat (first | exact List.mem_cons_self | apply List.mem_cons_of_mem)) agg_Diff (seg_all rfl)) rfl ?_); clear F a; intro a F
                  refine l_step rfl (o_storeA M F rfl rfl agg_Diff.size (by repeat (first | exact Upd.here _ _ _ _ _ | apply Upd.there)) (by rfl) (by rfl) (by rfl) ?_); clear F a; intro a W23 M F
                  refine l_nil ?_
                  refine hK21 _ _ ?_
                  refine wp_ret ?_
                  exact ret1 Try.results56 M F (rv_cell M F rfl (by repeat (first | exact List.mem_cons_self | apply List.mem_cons_of_mem)) agg_Diff rfl) (⟨Sa, Sl.nil, by rw [hmk1 (of_decide_eq_false g32) g36, hcf, hsub] <;> rfl, by rw [hmk1 (of_decide_eq_false g32) g36, hcf, hsub]; exact hl2, by rw [hmk1 (of_decide_eq_false g32) g36, hcf, hsub]; exact Ens.nil _⟩)
                · skip
                  refine t_takeg (i := 3) F rfl rfl rfl g63 rfl hq3 (fun _ ⟨_, _, M'⟩ => r_load M' F rfl (by repeat (first | exact List.mem_cons_self | apply List.mem_cons_of_mem)) agg_Entry (seg_all rfl)) (fun _ _ _ h => h) (by kernel_rfl) (by kernel_rfl) (by kernel_rfl) (by kernel_rfl) ?_; clear F a; intro a F
                  refine t_takeg (i := 4) F rfl rfl rfl g63 rfl hq3 (fun _ _ => r_fieldAddr F rfl fld_State_3) (fun _ _ _ h => h) (by kernel_rfl) (by kernel_rfl) (by kernel_rfl) (by kernel_rfl) ?_; clear F a; intro a F
                  refine t_takeg (i := 5) F rfl rfl rfl g63 rfl hq3 (fun _ ⟨_, _, M'⟩ => r_load1 M' F rfl (by repeat (first | exact List.mem_cons_self | apply List.mem_cons_of_mem)) sca_Entries rfl) (fun _ _ _ h => h) (by kernel_rfl) (by kernel_rfl) (by kernel_rfl) (by kernel_rfl) ?_; clear F a; intro a F
                  refine t_takeg (i := 6) F rfl rfl rfl g63 rfl hq3 (fun _ _ => r_move F rfl) (fun _ _ _ h => h) (by kernel_rfl) (by kernel_rfl) (by kernel_rfl) (by kernel_rfl) ?_; clear F a; intro a F
                  refine t_takeg (i := 7) F rfl rfl rfl g63 rfl hq3 (fun _ _ => r_indexSl F rfl rfl slc_Entries ha68 (by omega) (by omega)) (fun _ _ _ h => h) (by kernel_rfl) (by kernel_rfl) (by kernel_rfl) (by kernel_rfl) ?_; clear F a; intro a F
                  refine t_takeg (i := 8) F rfl rfl rfl g63 rfl hq3 (fun _ ⟨_, hg, M'⟩ => r_loadrG hg M' F rfl hG68 agg_Entry hS68) (fun _ _ _ h => h) (by kernel_rfl) (by kernel_rfl) (by kernel_rfl) (by kernel_rfl) ?_; clear F a; intro a F
                  refine t_takeg (i := 9) F rfl rfl rfl g63 rfl hq3 (fun _ _ => r_neq_Entry F rfl rfl) (fun _ _ _ h => h) (by kernel_rfl) (by kernel_rfl) (by kernel_rfl) (by kernel_rfl) ?_; clear F a; intro a F
                  refine t_take (i := 10) F rfl rfl hq3 (fun _ _ => r_pick_f F rfl g63 rfl) (fun _ _ _ h => h) (by kernel_rfl) (by kernel_rfl) (by kernel_rfl) (by kernel_rfl) ?_; clear F a; intro a F
                  refine t_done (by kernel_rfl) ?_ _
                  refine hK20 _ _ ?_
                  refine c_cond F rfl (fun g71 => ?_) (fun g71 => ?_)
                  · skip
                    refine wp_exit ?_
                    refine hK15 _ _ ?_
                    refine wp_region_lit ?_
                    have hcf : pCommon s t.tail.n t.log = fr := by first | exact hf | (rw [hf, if_pos (.inl (by simpa using g63))]) | (rw [hf, if_pos (.inr (by simpa using g71))])
                    have hsub : (fr - t.tail.n).toNat = i := by rw [UInt32.toNat_sub_of_le _ _ (by rw [UInt32.le_iff_toNat_le]; omega)]; omega
                    have hc2 : Ens G0 (l1.cut 8 i l1.len) (t.log.drop i) := by have h := hl10.cut (i := i) (j := l1.len) (by omega) (by omega); rw [hl1len, ← List.length_drop, List.take_length] at h; rw [hl1len]; exact h
                    refine l_step rfl (o_val F (r_fieldAddr F rfl fld_State_3) rfl ?_); clear F a; intro a F
                    refine l_step rfl (o_val F (r_load1 M F rfl (by repeat (first | exact List.mem_cons_self | apply List.mem_cons_of_mem)) sca_Entries rfl) rfl ?_); clear F a; intro a F
                    refine l_step rfl (o_val F (r_move F rfl) rfl ?_); clear F a; intro a F
                    refine l_step rfl (o_val F (r_slice_from F slc_Entries rfl rfl (by omega) (by show (i : Int) ≤ (l1.len : Int); omega)) rfl ?_); clear F a; intro a F
                    refine l_step rfl (o_append (S := Sl.nil) M F slc_Entries app_Entry rfl rfl (Tip.nil _ _ _ _ _) (hc2.mono M.gl).rd (all_flat (fun x => rfl) _) (by show (0 + (l1.len - i)) * 40 ≤ _; omega) (by show 0 + (l1.len - i) ≤ _; omega) rfl ?_); clear F a; intro a W24 Sa Ga hga hla hna F
                    have M := hga.st
                    have hl2 : Ens Ga Sa (t.log.drop i) := Tip.ens (by simpa using hga.tip)
                    refine l_step rfl (o_val F (r_fieldAddr F rfl fld_Diff_2) rfl ?_); clear F a; intro a F
                    refine l_step rfl (o_store1 M F rfl rfl sca_Entries rfl rfl p_Diff_2 (by repeat (first | exact Upd.here _ _ _ _ _ | apply Upd.there)) ?_); clear F a; intro a W25 M F
                    refine l_nil ?_
                    refine hK9 _ _ ?_
                    refine c_seq (fun K22 hK22 => ?_)
                    refine wp_region_lit ?_
                    refine l_step rfl (o_val F (r_load M F rfl (by repeat (first | exact List.mem_cons_self | apply List.mem_cons_of_mem)) agg_Diff (seg_all rfl)) rfl ?_); clear F a; intro a F
                    refine l_step rfl (o_storeA M F rfl rfl agg_Diff.size (by repeat (first | exact Upd.here _ _ _ _ _ | apply Upd.there)) (by rfl) (by rfl) (by rfl) ?_); clear F a; intro a W26 M F
                    refine l_nil ?_
                    refine hK22 _ _ ?_
                    refine wp_ret ?_
                    exact ret1 Try.results56 M F (rv_cell M F rfl (by repeat (first | exact List.mem_cons_self | apply List.mem_cons_of_mem)) agg_Diff rfl) (⟨Sa, Sl.nil, by rw [hmk1 (of_decide_eq_false g32) g36, hcf, hsub] <;> rfl, by rw [hmk1 (of_decide_eq_false g32) g36, hcf, hsub]; exact hl2, by rw [hmk1 (of_decide_eq_false g32) g36, hcf, hsub]; exact Ens.nil _⟩)
                  · skip
                    refine wp_skip ?_
                    refine hK19 _ _ ?_
                    refine c_seq (fun K23 hK23 => ?_)
                    refine wp_region_lit ?_
                    refine l_step rfl (o_val F (r_fieldAddr F rfl fld_Entry_1) rfl ?_); clear F a; intro a F
                    refine l_step rfl (o_val F (r_load1 M F rfl (by repeat (first | exact List.mem_cons_self | apply List.mem_cons_of_mem)) sca_u32 rfl) rfl ?_); clear F a; intro a F
                    refine l_step rfl (o_val F (r_fieldAddr F rfl fld_Diff_1) rfl ?_); clear F a; intro a F
                    refine l_step rfl (o_store1 M F rfl rfl sca_u32 rfl rfl p_Diff_1 (by repeat (first | exact Upd.here _ _ _ _ _ | apply Upd.there)) ?_); clear F a; intro a W27 M F
                    refine l_nil ?_
                    refine hK23 _ _ ?_
                    refine wp_region_lit ?_
                    refine l_step rfl (o_val F (r_move F rfl) rfl ?_); clear F a; intro a F
                    refine l_step rfl (o_val F (r_add_i64 F rfl rfl (by omega)) rfl ?_); clear F a; intro a F
                    refine l_step rfl (o_val F (r_assign F rfl) rfl ?_); clear F a; intro a F
                    refine l_nil ?_
                    have hx1 : (pFind s x.n).1 = x := by simpa using g71
                    exact ⟨t.log.length - (i + 1), by omega, i + 1, _, x.n, rfl, by omega, (F.cons (F.cons (F.cons (F.cons (F.cons F.nil 2 rfl) 3 rfl) 4 rfl) 5 rfl) 7 rfl), (by rw [hx1] at M; exact M.drop (by repeat (first | exact List.Sublist.refl _ | apply List.Sublist.cons_cons | apply List.Sublist.cons))), ⟨by rw [hf, if_neg (by simp only [not_or]; exact ⟨by simpa using g63, by simpa using g71⟩)], by omega⟩⟩
              · skip
                refine id (o_alloc M F zer_Entry rfl ?_); clear F a; intro a W28 b7 M F
                refine keepAnd (Keeps.mk hle2 M (by repeat (first | exact List.Sublist.refl _ | apply List.Sublist.cons_cons | apply List.Sublist.cons))) (fun hq2 => ?_)
                refine t_one (i := 7) (by kernel_rfl) rfl rfl (o_call M F rfl (c_paddockref6_Find M.imm (hl0.mono M.gl)) rfl ?_); clear F a; intro a W29 v29 G29 hp29 M E29 F
                subst hp29
                have hle2 := hle2.trans E29.gl
                refine keepAnd (Keeps.mk hle2 M (by repeat (first | exact List.Sublist.refl _ | apply List.Sublist.cons_cons | apply List.Sublist.cons))) (fun hq2 => ?_)
                refine t_take (i := 8) F rfl rfl hq2 (fun _ _ => r_move F rfl) (fun _ _ _ h => h) (by kernel_rfl) (by kernel_rfl) (by kernel_rfl) (by kernel_rfl) ?_; clear F a; intro a F
                refine t_take (i := 9) F rfl rfl hq2 (fun _ _ => r_extract F rfl rfl) (fun _ _ _ h => h) (by kernel_rfl) (by kernel_rfl) (by kernel_rfl) (by kernel_rfl) ?_; clear F a; intro a F
                refine t_take (i := 10) F rfl rfl hq2 (fun _ _ => r_extract F rfl rfl) (fun _ _ _ h => h) (by kernel_rfl) (by kernel_rfl) (by kernel_rfl) (by kernel_rfl) ?_; clear F a; intro a F
                refine t_one (i := 12) (by kernel_rfl) rfl rfl (o_storeA M F rfl rfl agg_Entry.size (by repeat (first | exact Upd.here _ _ _ _ _ | apply Upd.there)) (by rfl) (by rfl) (by rfl) ?_); clear F a; intro a W30 M F
                refine keepAnd (Keeps.mk hle2 M (by repeat (first | exact List.Sublist.refl _ | apply List.Sublist.cons_cons | apply List.Sublist.cons))) (fun hq2 => ?_)
                refine t_take (i := 13) F rfl rfl hq2 (fun _ _ => r_assign F rfl) (fun _ _ _ h => h) (by kernel_rfl) (by kernel_rfl) (by kernel_rfl) (by kernel_rfl) ?_; clear F a; intro a F
                refine t_done (by kernel_rfl) ?_ _
                refine hK18 _ _ ?_
                refine c_seq (fun K24 hK24 => ?_)
                refine c_seq (fun K25 hK25 => ?_)
                refine c_drawM M [] mixed (fun M => ?_)
                have Ms := M
                have hq4 := Keeps.here M
                have hle4 := M.gle
                obtain ⟨eb, eo, er, ha68, hG68, hS68⟩ := (hl10.mono Ms.gl).elem hx
                refine t_take (i := 0) F rfl rfl hq4 (fun _ _ => r_move F rfl) (fun _ _ _ h => h) (by kernel_rfl) (by kernel_rfl) (by kernel_rfl) (by kernel_rfl) ?_; clear F a; intro a F
                refine t_take (i := 1) F rfl rfl hq4 (fun _ _ => r_not F rfl) (fun _ _ _ h => h) (by kernel_rfl) (by kernel_rfl) (by kernel_rfl) (by kernel_rfl) ?_; clear F a; intro a F
                refine t_take (i := 2) F rfl rfl hq4 (fun _ _ => r_move F rfl) (fun _ _ _ h => h) (by kernel_rfl) (by kernel_rfl) (by kernel_rfl) (by kernel_rfl) ?_; clear F a; intro a F
                refine c_split F (i := 63) rfl (fun g63 => ?_) (fun g63 => ?_)
                · skip
                  refine t_skip (i := 3) F rfl rfl rfl g63 rfl hq4 (fun _ _ _ h => h) (by kernel_rfl) (by kernel_rfl) (by kernel_rfl) (by kernel_rfl) ?_; clear F a; intro a F
                  refine t_skip (i := 4) F rfl rfl rfl g63 rfl hq4 (fun _ _ _ h => h) (by kernel_rfl) (by kernel_rfl) (by kernel_rfl) (by kernel_rfl) ?_; clear F a; intro a F
                  refine t_skip (i := 5) F rfl rfl rfl g63 rfl hq4 (fun _ _ _ h => h) (by kernel_rfl) (by kernel_rfl) (by kernel_rfl) (by kernel_rfl) ?_; clear F a; intro a F
                  refine t_skip (i := 6) F rfl rfl rfl g63 rfl hq4 (fun _ _ _ h => h) (by kernel_rfl) (by kernel_rfl) (by kernel_rfl) (by kernel_rfl) ?_; clear F a; intro a F
                  refine t_skip (i := 7) F rfl rfl rfl g63 rfl hq4 (fun _ _ _ h => h) (by kernel_rfl) (by kernel_rfl) (by kernel_rfl) (by kernel_rfl) ?_; clear F a; intro a F
                  refine t_skip (i := 8) F rfl rfl rfl g63 rfl hq4 (fun _ _ _ h => h) (by kernel_rfl) (by kernel_rfl) (by kernel_rfl) (by kernel_rfl) ?_; clear F a; intro a F
                  refine t_skip (i := 9) F rfl rfl rfl g63 rfl hq4 (fun _ _ _ h => h) (by kernel_rfl) (by kernel_rfl) (by kernel_rfl) (by kernel_rfl) ?_; clear F a; intro a F
                  refine t_take (i := 10) F rfl rfl hq4 (fun _ _ => r_pick_t F rfl g63 rfl) (fun _ _ _ h => h) (by kernel_rfl) (by kernel_rfl) (by kernel_rfl) (by kernel_rfl) ?_; clear F a; intro a F
                  refine t_done (by kernel_rfl) ?_ _
                  refine hK25 _ _ ?_
                  refine c_true F rfl rfl ?_
                  refine wp_exit ?_
                  refine hK15 _ _ ?_
                  refine wp_region_lit ?_
                  have hcf : pCommon s t.tail.n t.log = fr := by first | exact hf | (rw [hf, if_pos (.inl (by simpa using g63))]) | (rw [hf, if_pos (.inr (by simpa using g71))])
                  have hsub : (fr - t.tail.n).toNat = i := by rw [UInt32.toNat_sub_of_le _ _ (by rw [UInt32.le_iff_toNat_le]; omega)]; omega
                  have hc2 : Ens G0 (l1.cut 8 i l1.len) (t.log.drop i) := by have h := hl10.cut (i := i) (j := l1.len) (by omega) (by omega); rw [hl1len, ← List.length_drop, List.take_length] at h; rw [hl1len]; exact h
                  refine l_step rfl (o_val F (r_fieldAddr F rfl fld_State_3) rfl ?_); clear F a; intro a F
                  refine l_step rfl (o_val F (r_load1 M F rfl (by repeat (first | exact List.mem_cons_self | apply List.mem_cons_of_mem)) sca_Entries rfl) rfl ?_); clear F a; intro a F
                  refine l_step rfl (o_val F (r_move F rfl) rfl ?_); clear F a; intro a F
                  refine l_step rfl (o_val F (r_slice_from F slc_Entries rfl rfl (by omega) (by show (i : Int) ≤ (l1.len : Int); omega)) rfl ?_); clear F a; intro a F
                  refine l_step rfl (o_append (S := Sl.nil) M F slc_Entries app_Entry rfl rfl (Tip.nil _ _ _ _ _) (hc2.mono M.gl).rd (all_flat (fun x => rfl) _) (by show (0 + (l1.len - i)) * 40 ≤ _; omega) (by show 0 + (l1.len - i) ≤ _; omega) rfl ?_); clear F a; intro a W31 Sa Ga hga hla hna F
                  have M := hga.st
                  have hl2 : Ens Ga Sa (t.log.drop i) := Tip.ens (by simpa using hga.tip)
                  refine l_step rfl (o_val F (r_fieldAddr F rfl fld_Diff_2) rfl ?_); clear F a; intro a F
                  refine l_step rfl (o_store1 M F rfl rfl sca_Entries rfl rfl p_Diff_2 (by repeat (first | exact Upd.here _ _ _ _ _ | apply Upd.there)) ?_); clear F a; intro a W32 M F
                  refine l_nil ?_
                  refine hK9 _ _ ?_
                  refine c_seq (fun K26 hK26 => ?_)
                  refine wp_region_lit ?_
                  refine l_step rfl (o_val F (r_load M F rfl (by repeat (first | exact List.mem_cons_self | apply List.mem_cons_of_mem)) agg_Diff (seg_all rfl)) rfl ?_); clear F a; intro a F
                  refine l_step rfl (o_storeA M F rfl rfl agg_Diff.size (by repeat (first | exact Upd.here _ _ _ _ _ | apply Upd.there)) (by rfl) (by rfl) (by rfl) ?_); clear F a; intro a W33 M F
                  refine l_nil ?_
                  refine hK26 _ _ ?_
                  refine wp_ret ?_
                  exact ret1 Try.results56 M F (rv_cell M F rfl (by repeat (first | exact List.mem_cons_self | apply List.mem_cons_of_mem)) agg_Diff rfl) (⟨Sa, Sl.nil, by rw [hmk1 (of_decide_eq_false g32) g36, hcf, hsub] <;> rfl, by rw [hmk1 (of_decide_eq_false g32) g36, hcf, hsub]; exact hl2, by rw [hmk1 (of_decide_eq_false g32) g36, hcf, hsub]; exact Ens.nil _⟩)
                · skip
                  refine t_takeg (i := 3) F rfl rfl rfl g63 rfl hq4 (fun _ ⟨_, _, M'⟩ => r_load M' F rfl (by repeat (first | exact List.mem_cons_self | apply List.mem_cons_of_mem)) agg_Entry (seg_all rfl)) (fun _ _ _ h => h) (by kernel_rfl) (by kernel_rfl) (by kernel_rfl) (by kernel_rfl) ?_; clear F a; intro a F
                  refine t_takeg (i := 4) F rfl rfl rfl g63 rfl hq4 (fun _ _ => r_fieldAddr F rfl fld_State_3) (fun _ _ _ h => h) (by kernel_rfl) (by kernel_rfl) (by kernel_rfl) (by kernel_rfl) ?_; clear F a; intro a F
                  refine t_takeg (i := 5) F rfl rfl rfl g63 rfl hq4 (fun _ ⟨_, _, M'⟩ => r_load1 M' F rfl (by repeat (first | exact List.mem_cons_self | apply List.mem_cons_of_mem)) sca_Entries rfl) (fun _ _ _ h => h) (by kernel_rfl) (by kernel_rfl) (by kernel_rfl) (by kernel_rfl) ?_; clear F a; intro a F
                  refine t_takeg (i := 6) F rfl rfl rfl g63 rfl hq4 (fun _ _ => r_move F rfl) (fun _ _ _ h => h) (by kernel_rfl) (by kernel_rfl) (by kernel_rfl) (by kernel_rfl) ?_; clear F a; intro a F
                  refine t_takeg (i := 7) F rfl rfl rfl g63 rfl hq4 (fun _ _ => r_indexSl F rfl rfl slc_Entries ha68 (by omega) (by omega)) (fun _ _ _ h => h) (by kernel_rfl) (by kernel_rfl) (by kernel_rfl) (by kernel_rfl) ?_; clear F a; intro a F
                  refine t_takeg (i := 8) F rfl rfl rfl g63 rfl hq4 (fun _ ⟨_, hg, M'⟩ => r_loadrG hg M' F rfl hG68 agg_Entry hS68) (fun _ _ _ h => h) (by kernel_rfl) (by kernel_rfl) (by kernel_rfl) (by kernel_rfl) ?_; clear F a; intro a F
                  refine t_takeg (i := 9) F rfl rfl rfl g63 rfl hq4 (fun _ _ => r_neq_Entry F rfl rfl) (fun _ _ _ h => h) (by kernel_rfl) (by kernel_rfl) (by kernel_rfl) (by kernel_rfl) ?_; clear F a; intro a F
                  refine t_take (i := 10) F rfl rfl hq4 (fun _ _ => r_pick_f F rfl g63 rfl) (fun _ _ _ h => h) (by kernel_rfl) (by kernel_rfl) (by kernel_rfl) (by kernel_rfl) ?_; clear F a; intro a F
                  refine t_done (by kernel_rfl) ?_ _
                  refine hK25 _ _ ?_
                  refine c_cond F rfl (fun g71 => ?_) (fun g71 => ?_)
                  · skip
                    refine wp_exit ?_
                    refine hK15 _ _ ?_
                    refine wp_region_lit ?_
                    have hcf : pCommon s t.tail.n t.log = fr := by first | exact hf | (rw [hf, if_pos (.inl (by simpa using g63))]) | (rw [hf, if_pos (.inr (by simpa using g71))])
                    have hsub : (fr - t.tail.n).toNat = i := by rw [UInt32.toNat_sub_of_le _ _ (by rw [UInt32.le_iff_toNat_le]; omega)]; omega
                    have hc2 : Ens G0 (l1.cut 8 i l1.len) (t.log.drop i) := by have h := hl10.cut (i := i) (j := l1.len) (by omega) (by omega); rw [hl1len, ← List.length_drop, List.take_length] at h; rw [hl1len]; exact h
                    refine l_step rfl (o_val F (r_fieldAddr F rfl fld_State_3) rfl ?_); clear F a; intro a F
                    refine l_step rfl (o_val F (r_load1 M F rfl (by repeat (first | exact List.mem_cons_self | apply List.mem_cons_of_mem)) sca_Entries rfl) rfl ?_); clear F a; intro a F
                    refine l_step rfl (o_val F (r_move F rfl) rfl ?_); clear F a; intro a F
                    refine l_step rfl (o_val F (r_slice_from F slc_Entries rfl rfl (by omega) (by show (i : Int) ≤ (l1.len : Int); omega)) rfl ?_); clear F a; intro a F
                    refine l_step rfl (o_append (S := Sl.nil) M F slc_Entries app_Entry rfl rfl (Tip.nil _ _ _ _ _) (hc2.mono M.gl).rd (all_flat (fun x => rfl) _) (by show (0 + (l1.len - i)) * 40 ≤ _; omega) (by show 0 + (l1.len - i) ≤ _; omega) rfl ?_); clear F a; intro a W34 Sa Ga hga hla hna F
                    have M := hga.st
                    have hl2 : Ens Ga Sa (t.log.drop i) := Tip.ens (by simpa using hga.tip)
                    refine l_step rfl (o_val F (r_fieldAddr F rfl fld_Diff_2) rfl ?_); clear F a; intro a F
                    refine l_step rfl (o_store1 M F rfl rfl sca_Entries rfl rfl p_Diff_2 (by repeat (first | exact Upd.here _ _ _ _ _ | apply Upd.there)) ?_); clear F a; intro a W35 M F
                    refine l_nil ?_
                    refine hK9 _ _ ?_
                    refine c_seq (fun K27 hK27 => ?_)
                    refine wp_region_lit ?_
                    refine l_step rfl (o_val F (r_load M F rfl (by repeat (first | exact List.mem_cons_self | apply List.mem_cons_of_mem)) agg_Diff (seg_all rfl)) rfl ?_); clear F a; intro a F
                    refine l_step rfl (o_storeA M F rfl rfl agg_Diff.size (by repeat (first | exact Upd.here _ _ _ _ _ | apply Upd.there)) (by rfl) (by rfl) (by rfl) ?_); clear F a; intro a W36 M F
                    refine l_nil ?_
                    refine hK27 _ _ ?_
                    refine wp_ret ?_
                    exact ret1 Try.results56 M F (rv_cell M F rfl (by repeat (first | exact List.mem_cons_self | apply List.mem_cons_of_mem)) agg_Diff rfl) (⟨Sa, Sl.nil, by rw [hmk1 (of_decide_eq_false g32) g36, hcf, hsub] <;> rfl, by rw [hmk1 (of_decide_eq_false g32) g36, hcf, hsub]; exact hl2, by rw [hmk1 (of_decide_eq_false g32) g36, hcf, hsub]; exact Ens.nil _⟩)
                  · skip
                    refine wp_skip ?_
                    refine hK24 _ _ ?_
                    refine c_seq (fun K28 hK28 => ?_)
                    refine wp_region_lit ?_
                    refine l_step rfl (o_val F (r_fieldAddr F rfl fld_Entry_1) rfl ?_); clear F a; intro a F
                    refine l_step rfl (o_val F (r_load1 M F rfl (by repeat (first | exact List.mem_cons_self | apply List.mem_cons_of_mem)) sca_u32 rfl) rfl ?_); clear F a; intro a F
                    refine l_step rfl (o_val F (r_fieldAddr F rfl fld_Diff_1) rfl ?_); clear F a; intro a F
                    refine l_step rfl (o_store1 M F rfl rfl sca_u32 rfl rfl p_Diff_1 (by repeat (first | exact Upd.here _ _ _ _ _ | apply Upd.there)) ?_); clear F a; intro a W37 M F
                    refine l_nil ?_
                    refine hK28 _ _ ?_
                    refine wp_region_lit ?_
                    refine l_step rfl (o_val F (r_move F rfl) rfl ?_); clear F a; intro a F
                    refine l_step rfl (o_val F (r_add_i64 F rfl rfl (by omega)) rfl ?_); clear F a; intro a F
                    refine l_step rfl (o_val F (r_assign F rfl) rfl ?_); clear F a; intro a F
                    refine l_nil ?_
                    have hx1 : (pFind s x.n).1 = x := by simpa using g71
                    exact ⟨t.log.length - (i + 1), by omega, i + 1, _, x.n, rfl, by omega, (F.cons (F.cons (F.cons (F.cons (F.cons F.nil 2 rfl) 3 rfl) 4 rfl) 5 rfl) 7 rfl), (by rw [hx1] at M; exact M.drop (by repeat (first | exact List.Sublist.refl _ | apply List.Sublist.cons_cons | apply List.Sublist.cons))), ⟨by rw [hf, if_neg (by simp only [not_or]; exact ⟨by simpa using g63, by simpa using g71⟩)], by omega⟩⟩
            · skip
              have hge : i = t.log.length := by have h := of_decide_eq_false g49; omega
              rw [hge, List.drop_length, pCommon] at hf
              refine wp_exit ?_
              refine hK15 _ _ ?_
              refine wp_region_lit ?_
              have hcf : pCommon s t.tail.n t.log = fr := by first | exact hf | (rw [hf, if_pos (.inl (by simpa using g63))]) | (rw [hf, if_pos (.inr (by simpa using g71))])
              have hsub : (fr - t.tail.n).toNat = i := by rw [UInt32.toNat_sub_of_le _ _ (by rw [UInt32.le_iff_toNat_le]; omega)]; omega
              have hc2 : Ens G0 (l1.cut 8 i l1.len) (t.log.drop i) := by have h := hl10.cut (i := i) (j := l1.len) (by omega) (by omega); rw [hl1len, ← List.length_drop, List.take_length] at h; rw [hl1len]; exact h
              refine l_step rfl (o_val F (r_fieldAddr F rfl fld_State_3) rfl ?_); clear F a; intro a F
              refine l_step rfl (o_val F (r_load1 M F rfl (by repeat (first | exact List.mem_cons_self | apply List.mem_cons_of_mem)) sca_Entries rfl) rfl ?_); clear F a; intro a F
              refine l_step rfl (o_val F (r_move F rfl) rfl ?_); clear F a; intro a F
              refine l_step rfl (o_val F (r_slice_from F slc_Entries rfl rfl (by omega) (by show (i : Int) ≤ (l1.len : Int); omega)) rfl ?_); clear F a; intro a F
              refine l_step rfl (o_append (S := Sl.nil) M F slc_Entries app_Entry rfl rfl (Tip.nil _ _ _ _ _) (hc2.mono M.gl).rd (all_flat (fun x => rfl) _) (by show (0 + (l1.len - i)) * 40 ≤ _; omega) (by show 0 + (l1.len - i) ≤ _; omega) rfl ?_); clear F a; intro a W38 Sa Ga hga hla hna F
              have M := hga.st
              have hl2 : Ens Ga Sa (t.log.drop i) := Tip.ens (by simpa using hga.tip)
              refine l_step rfl (o_val F (r_fieldAddr F rfl fld_Diff_2) rfl ?_); clear F a; intro a F
              refine l_step rfl (o_store1 M F rfl rfl sca_Entries rfl rfl p_Diff_2 (by repeat (first | exact Upd.here _ _ _ _ _ | apply Upd.there)) ?_); clear F a; intro a W39 M F
              refine l_nil ?_
              refine hK9 _ _ ?_
              refine c_seq (fun K29 hK29 => ?_)
              refine wp_region_lit ?_
              refine l_step rfl (o_val F (r_load M F rfl (by repeat (first | exact List.mem_cons_self | apply List.mem_cons_of_mem)) agg_Diff (seg_all rfl)) rfl ?_); clear F a; intro a F
              refine l_step rfl (o_storeA M F rfl rfl agg_Diff.size (by repeat (first | exact Upd.here _ _ _ _ _ | apply Upd.there)) (by rfl) (by rfl) (by rfl) ?_); clear F a; intro a W40 M F
              refine l_nil ?_
              refine hK29 _ _ ?_
              refine wp_ret ?_
              exact ret1 Try.results56 M F (rv_cell M F rfl (by repeat (first | exact List.mem_cons_self | apply List.mem_cons_of_mem)) agg_Diff rfl) (⟨Sa, Sl.nil, by rw [hmk1 (of_decide_eq_false g32) g36, hcf, hsub] <;> rfl, by rw [hmk1 (of_decide_eq_false g32) g36, hcf, hsub]; exact hl2, by rw [hmk1 (of_decide_eq_false g32) g36, hcf, hsub]; exact Ens.nil _⟩)
        · skip
          refine c_drawM (M.drop (List.Sublist.cons_cons _ (List.Sublist.cons _ (List.Sublist.cons_cons _ (List.Sublist.cons_cons _ (List.Sublist.cons_cons _ (List.Sublist.refl _))))))) [] mixed (fun Mk => ?_)
          have M := M.drew
          have Ms := Mk
          have hq5 := Keeps.here Mk
          have hle5 := M.gle
          refine t_take (i := 0) F rfl rfl hq5 (fun _ ⟨_, _, M'⟩ => r_load M' F rfl (by repeat (first | exact List.mem_cons_self | apply List.mem_cons_of_mem)) agg_State (seg_all rfl)) (fun _ _ _ h => h) (by kernel_rfl) (by kernel_rfl) (by kernel_rfl) (by kernel_rfl) ?_; clear F a; intro a F
          refine t_take (i := 1) F rfl rfl hq5 (fun _ _ => r_fieldAddr F rfl fld_Diff_0) (fun _ _ _ h => h) (by kernel_rfl) (by kernel_rfl) (by kernel_rfl) (by kernel_rfl) ?_; clear F a; intro a F
          refine t_one (i := 2) (by kernel_rfl) rfl rfl (o_store1 M F rfl rfl sca_int rfl rfl p_Diff_0 (by repeat (first | exact Upd.here _ _ _ _ _ | apply Upd.there)) ?_); clear F a; intro a W41 M F
          refine keepAnd (Keeps.mk hle5 M (by repeat (first | exact List.Sublist.refl _ | apply List.Sublist.cons_cons | apply List.Sublist.cons))) (fun hq5 => ?_)
          refine t_take (i := 3) F rfl rfl hq5 (fun _ _ => r_fieldAddr F rfl fld_Diff_3) (fun _ _ _ h => h) (by kernel_rfl) (by kernel_rfl) (by kernel_rfl) (by kernel_rfl) ?_; clear F a; intro a F
          refine t_one (i := 4) (by kernel_rfl) rfl rfl (o_store M F rfl rfl agg_State.size rfl rfl rfl p_Diff_3 (by repeat (first | exact Upd.here _ _ _ _ _ | apply Upd.there)) ?_); clear F a; intro a W42 M F
          refine keepAnd (Keeps.mk hle5 M (by repeat (first | exact List.Sublist.refl _ | apply List.Sublist.cons_cons | apply List.Sublist.cons))) (fun hq5 => ?_)
          refine t_done (by kernel_rfl) ?_ _
          refine hK9 _ _ ?_
          refine c_seq (fun K30 hK30 => ?_)
          refine wp_region_lit ?_
          refine l_step rfl (o_val F (r_load M F rfl (by repeat (first | exact List.mem_cons_self | apply List.mem_cons_of_mem)) agg_Diff (seg_all rfl)) rfl ?_); clear F a; intro a F
          refine l_step rfl (o_storeA M F rfl rfl agg_Diff.size (by repeat (first | exact Upd.here _ _ _ _ _ | apply Upd.there)) (by rfl) (by rfl) (by rfl) ?_); clear F a; intro a W43 M F
          refine l_nil ?_
          refine hK30 _ _ ?_
          refine wp_ret ?_
          exact ret1 Try.results56 M F (rv_cell M F rfl (by repeat (first | exact List.mem_cons_self | apply List.mem_cons_of_mem)) agg_Diff rfl) (⟨Sl.nil, l1, by rw [hmk2 (of_decide_eq_false g32) g36] <;> rfl, by rw [hmk2 (of_decide_eq_false g32) g36]; exact Ens.nil _, by rw [hmk2 (of_decide_eq_false g32) g36]; exact hl1⟩)
set_option maxHeartbeats 8000000 in
theorem c_paddockref8_Apply {w : World} {G0 : Ghost} (hI : Imm G0 w) {s : PState} {l : Sl} (hl : Ens G0 l s.log) {d : PDiff} {l1 l2 : Sl} (hl1 : Ens G0 l1 d.log) (hl2 : Ens G0 l2 d.whole.log) : Ret P 57 [agg (GState.enc (s.at l)), agg (GDiff.enc (d.at l1 l2))] [] w G0 (fun G W v => ∃ l', v = .tuple #[agg (GState.enc ((pApply s d).1.at l')), .bool (decide ((pApply s d).2 = 0))] ∧ Ens G l' (pApply s d).1.log) := by
  refine enter Try.func57 rfl Try.ntmps57 rfl rfl hI (fun a F M => ?_)
  have hlen1 : (d.at l1 l2).log.len = d.log.length := hl1.len
  have hlz := hl1
  have hlen0 := hl1.len
  have hmax := hl1.rd.max
  have hcap := hl1.rd.cap
  refine c_seq (fun K1 hK1 => ?_)
  refine wp_region_lit ?_
  refine l_step rfl (o_box M F rfl rfl ?_); clear F a; intro a W1 b1 M F
  refine l_step rfl (o_box M F rfl rfl ?_); clear F a; intro a W2 b2 M F
  refine l_step rfl (o_alloc M F zer_State rfl ?_); clear F a; intro a W3 b3 M F
  refine l_step rfl (o_val F (r_assign F rfl) rfl ?_); clear F a; intro a F
  refine l_nil ?_
  refine hK1 _ _ ?_
  refine c_seq (fun K2 hK2 => ?_)
  refine c_seq (fun K3 hK3 => ?_)
  refine wp_region_lit ?_
  refine l_step rfl (o_val F (r_load M F rfl (by repeat (first | exact List.mem_cons_self | apply List.mem_cons_of_mem)) agg_State (seg_all rfl)) rfl ?_); clear F a; intro a F
  refine l_step rfl (o_call M F rfl (c_paddockref6_Is M.imm hl) rfl ?_); clear F a; intro a W4 v4 G4 hp4 M E4 F
  have hl := hl.mono E4.gl
  have hl1 := hl1.mono E4.gl
  have hl2 := hl2.mono E4.gl
  subst hp4
  refine l_step rfl (o_val F (r_not F rfl) rfl ?_); clear F a; intro a F
  refine l_step rfl (o_val F (r_move F rfl) rfl ?_); clear F a; intro a F
  refine c_split F (i := 17) rfl (fun g17 => ?_) (fun g17 => ?_)
  · skip
    iterate 3 (refine l_skip F rfl rfl rfl g17 rfl rfl ?_; clear F a; intro a F)
    refine l_step rfl (o_val F (r_pick_t F rfl g17 rfl) rfl ?_); clear F a; intro a F
    refine l_step rfl (o_val F (r_move F rfl) rfl ?_); clear F a; intro a F
    iterate 3 (refine l_skip F rfl rfl rfl rfl rfl rfl ?_; clear F a; intro a F)
    refine l_step rfl (o_val F (r_pick_t F rfl rfl rfl) rfl ?_); clear F a; intro a F
    refine l_step rfl (o_val F (r_move F rfl) rfl ?_); clear F a; intro a F
    iterate 4 (refine l_skip F rfl rfl rfl rfl rfl rfl ?_; clear F a; intro a F)
    iterate 9 (refine l_skipu F rfl rfl rfl rfl rfl ?_; clear F a; intro a F)
    iterate 1 (refine l_skip F rfl rfl rfl rfl rfl rfl ?_; clear F a; intro a F)
    refine l_step rfl (o_val F (r_pick_t F rfl rfl rfl) rfl ?_); clear F a; intro a F
    refine l_nil ?_
    refine hK3 _ _ ?_
    refine c_true F rfl rfl ?_
    refine c_seq (fun K4 hK4 => ?_)
    refine wp_region_lit ?_
    refine l_step rfl (o_val F (r_build F rfl b_State) rfl ?_); clear F a; intro a F
    refine l_step rfl (o_storeA M F rfl rfl agg_State.size (by repeat (first | exact Upd.here _ _ _ _ _ | apply Upd.there)) (by rfl) (by rfl) (by rfl) ?_); clear F a; intro a W5 M F
    refine l_step rfl (o_val F (r_assign F rfl) rfl ?_); clear F a; intro a F
    refine l_nil ?_
    refine hK4 _ _ ?_
    refine wp_ret ?_
    exact ret2 Try.results57 M F (rv_cell M F rfl (by repeat (first | exact List.mem_cons_self | apply List.mem_cons_of_mem)) agg_State rfl) (rv_tmp F rfl) (⟨Sl.nil, by clear hI M F hK1 hK2 hK3 hK4; simp_all [pApply, pEnd, PState.zero, -UInt8.not_le, -UInt8.not_lt, -UInt32.not_le, -UInt32.not_lt, -Int.not_lt, -Int.not_le, -Nat.not_lt, -Nat.not_le], by clear hI M F hK1 hK2 hK3 hK4; simp_all [pApply, pEnd, PState.zero, -UInt8.not_le, -UInt8.not_lt, -UInt32.not_le, -UInt32.not_lt, -Int.not_lt, -Int.not_le, -Nat.not_lt, -Nat.not_le] <;> exact Ens.nil _⟩)
  · skip
    refine l_guard F rfl rfl rfl g17 (o_val F (r_fieldAddr F rfl fld_Diff_0) rfl ?_); clear F a; intro a F
    refine l_guard F rfl rfl rfl g17 (o_val F (r_load1 M F rfl (by repeat (first | exact List.mem_cons_self | apply List.mem_cons_of_mem)) sca_int rfl) rfl ?_); clear F a; intro a F
    refine l_guard F rfl rfl rfl g17 (o_val F (r_lss_i64 F rfl rfl) rfl ?_); clear F a; intro a F
    refine l_step rfl (o_val F (r_pick_f F rfl g17 rfl) rfl ?_); clear F a; intro a F
    refine l_step rfl (o_val F (r_move F rfl) rfl ?_); clear F a; intro a F
    refine c_split F (i := 22) rfl (fun g22 => ?_) (fun g22 => ?_)
    · skip
      iterate 3 (refine l_skip F rfl rfl rfl g22 rfl rfl ?_; clear F a; intro a F)
      refine l_step rfl (o_val F (r_pick_t F rfl g22 rfl) rfl ?_); clear F a; intro a F
      refine l_step rfl (o_val F (r_move F rfl) rfl ?_); clear F a; intro a F
      iterate 4 (refine l_skip F rfl rfl rfl rfl rfl rfl ?_; clear F a; intro a F)
      iterate 9 (refine l_skipu F rfl rfl rfl rfl rfl ?_; clear F a; intro a F)
      iterate 1 (refine l_skip F rfl rfl rfl rfl rfl rfl ?_; clear F a; intro a F)
      refine l_step rfl (o_val F (r_pick_t F rfl rfl rfl) rfl ?_); clear F a; intro a F
      refine l_nil ?_
      refine hK3 _ _ ?_
      refine c_true F rfl rfl ?_
      refine c_seq (fun K5 hK5 => ?_)
      refine wp_region_lit ?_
      refine l_step rfl (o_val F (r_build F rfl b_State) rfl ?_); clear F a; intro a F
      refine l_step rfl (o_storeA M F rfl rfl agg_State.size (by repeat (first | exact Upd.here _ _ _ _ _ | apply Upd.there)) (by rfl) (by rfl) (by rfl) ?_); clear F a; intro a W6 M F
      refine l_step rfl (o_val F (r_assign F rfl) rfl ?_); clear F a; intro a F
      refine l_nil ?_
      refine hK5 _ _ ?_
      refine wp_ret ?_
      exact ret2 Try.results57 M F (rv_cell M F rfl (by repeat (first | exact List.mem_cons_self | apply List.mem_cons_of_mem)) agg_State rfl) (rv_tmp F rfl) (⟨Sl.nil, by clear hI M F hK1 hK2 hK3 hK5; simp_all [pApply, pEnd, PState.zero, -UInt8.not_le, -UInt8.not_lt, -UInt32.not_le, -UInt32.not_lt, -Int.not_lt, -Int.not_le, -Nat.not_lt, -Nat.not_le], by clear hI M F hK1 hK2 hK3 hK5; simp_all [pApply, pEnd, PState.zero, -UInt8.not_le, -UInt8.not_lt, -UInt32.not_le, -UInt32.not_lt, -Int.not_lt, -Int.not_le, -Nat.not_lt, -Nat.not_le] <;> exact Ens.nil _⟩)
    · skip
      refine l_guard F rfl rfl rfl g22 (o_val F (r_fieldAddr F rfl fld_Diff_0) rfl ?_); clear F a; intro a F
      refine l_guard F rfl rfl rfl g22 (o_val F (r_load1 M F rfl (by repeat (first | exact List.mem_cons_self | apply List.mem_cons_of_mem)) sca_int rfl) rfl ?_); clear F a; intro a F
      refine l_guard F rfl rfl rfl g22 (o_val F (r_gtr_i64 F rfl rfl) rfl ?_); clear F a; intro a F
      refine l_step rfl (o_val F (r_pick_f F rfl g22 rfl) rfl ?_); clear F a; intro a F
      refine l_step rfl (o_val F (r_move F rfl) rfl ?_); clear F a; intro a F
      refine c_split F (i := 27) rfl (fun g27 => ?_) (fun g27 => ?_)
      · skip
        iterate 4 (refine l_skip F rfl rfl rfl g27 rfl rfl ?_; clear F a; intro a F)
        iterate 9 (refine l_skipu F rfl rfl rfl rfl rfl ?_; clear F a; intro a F)
        iterate 1 (refine l_skip F rfl rfl rfl g27 rfl rfl ?_; clear F a; intro a F)
        refine l_step rfl (o_val F (r_pick_t F rfl g27 rfl) rfl ?_); clear F a; intro a F
        refine l_nil ?_
        refine hK3 _ _ ?_
        refine c_true F rfl rfl ?_
        refine c_seq (fun K6 hK6 => ?_)
        refine wp_region_lit ?_
        refine l_step rfl (o_val F (r_build F rfl b_State) rfl ?_); clear F a; intro a F
        refine l_step rfl (o_storeA M F rfl rfl agg_State.size (by repeat (first | exact Upd.here _ _ _ _ _ | apply Upd.there)) (by rfl) (by rfl) (by rfl) ?_); clear F a; intro a W7 M F
        refine l_step rfl (o_val F (r_assign F rfl) rfl ?_); clear F a; intro a F
        refine l_nil ?_
        refine hK6 _ _ ?_
        refine wp_ret ?_
        exact ret2 Try.results57 M F (rv_cell M F rfl (by repeat (first | exact List.mem_cons_self | apply List.mem_cons_of_mem)) agg_State rfl) (rv_tmp F rfl) (⟨Sl.nil, by clear hI M F hK1 hK2 hK3 hK6; simp_all [pApply, pEnd, PState.zero, -UInt8.not_le, -UInt8.not_lt, -UInt32.not_le, -UInt32.not_lt, -Int.not_lt, -Int.not_le, -Nat.not_lt, -Nat.not_le], by clear hI M F hK1 hK2 hK3 hK6; simp_all [pApply, pEnd, PState.zero, -UInt8.not_le, -UInt8.not_lt, -UInt32.not_le, -UInt32.not_lt, -Int.not_lt, -Int.not_le, -Nat.not_lt, -Nat.not_le] <;> exact Ens.nil _⟩)
      · skip
        refine l_guard F rfl rfl rfl g27 (o_val F (r_fieldAddr F rfl fld_Diff_0) rfl ?_); clear F a; intro a F
        refine l_guard F rfl rfl rfl g27 (o_val F (r_load1 M F rfl (by repeat (first | exact List.mem_cons_self | apply List.mem_cons_of_mem)) sca_int rfl) rfl ?_); clear F a; intro a F
        refine l_guard F rfl rfl rfl g27 (o_val F (r_neq_i64 F rfl rfl) rfl ?_); clear F a; intro a F
        refine l_guard F rfl rfl rfl g27 (o_val F (r_move F rfl) rfl ?_); clear F a; intro a F
        refine c_split F (i := 31) rfl (fun g31 => ?_) (fun g31 => ?_)
        · skip
          refine l_guard F rfl rfl rfl g31 (o_val F (r_fieldAddr F rfl fld_Diff_2) rfl ?_); clear F a; intro a F
          refine l_guard F rfl rfl rfl g31 (o_val F (r_load1 M F rfl (by repeat (first | exact List.mem_cons_self | apply List.mem_cons_of_mem)) sca_Entries rfl) rfl ?_); clear F a; intro a F
          refine l_guard F rfl rfl rfl g31 (o_val F (r_len_slice F slc_Entries.und rfl) rfl ?_); clear F a; intro a F
          refine l_guard F rfl rfl rfl g31 (o_val F (r_gtr_i64 F rfl rfl) rfl ?_); clear F a; intro a F
          refine l_guard F rfl rfl rfl g31 (o_val F (r_move F rfl) rfl ?_); clear F a; intro a F
          refine c_split F (i := 36) rfl (fun g36 => ?_) (fun g36 => ?_)
          · skip
            iterate 3 (refine l_skip F rfl rfl rfl g36 rfl rfl ?_; clear F a; intro a F)
            refine l_guard F rfl rfl rfl g31 (o_val F (r_pick_t F rfl g36 rfl) rfl ?_); clear F a; intro a F
            refine l_guard F rfl rfl rfl g27 (o_val F (r_pick_t F rfl g31 rfl) rfl ?_); clear F a; intro a F
            refine l_step rfl (o_val F (r_pick_f F rfl g27 rfl) rfl ?_); clear F a; intro a F
            refine l_nil ?_
            refine hK3 _ _ ?_
            refine c_true F rfl rfl ?_
            refine c_seq (fun K7 hK7 => ?_)
            refine wp_region_lit ?_
            refine l_step rfl (o_val F (r_build F rfl b_State) rfl ?_); clear F a; intro a F
            refine l_step rfl (o_storeA M F rfl rfl agg_State.size (by repeat (first | exact Upd.here _ _ _ _ _ | apply Upd.there)) (by rfl) (by rfl) (by rfl) ?_); clear F a; intro a W8 M F
            refine l_step rfl (o_val F (r_assign F rfl) rfl ?_); clear F a; intro a F
            refine l_nil ?_
            refine hK7 _ _ ?_
            refine wp_ret ?_
            exact ret2 Try.results57 M F (rv_cell M F rfl (by repeat (first | exact List.mem_cons_self | apply List.mem_cons_of_mem)) agg_State rfl) (rv_tmp F rfl) (⟨Sl.nil, by clear hI M F hK1 hK2 hK3 hK7; simp_all [pApply, pEnd, PState.zero, -UInt8.not_le, -UInt8.not_lt, -UInt32.not_le, -UInt32.not_lt, -Int.not_lt, -Int.not_le, -Nat.not_lt, -Nat.not_le], by clear hI M F hK1 hK2 hK3 hK7; simp_all [pApply, pEnd, PState.zero, -UInt8.not_le, -UInt8.not_lt, -UInt32.not_le, -UInt32.not_lt, -Int.not_lt, -Int.not_le, -Nat.not_lt, -Nat.not_le] <;> exact Ens.nil _⟩)
          · skip
            refine l_guard F rfl rfl rfl g36 (o_val F (r_fieldAddr F rfl fld_Diff_1) rfl ?_); clear F a; intro a F
            refine l_guard F rfl rfl rfl g36 (o_val F (r_load1 M F rfl (by repeat (first | exact List.mem_cons_self | apply List.mem_cons_of_mem)) sca_u32 rfl) rfl ?_); clear F a; intro a F
            refine l_guard F rfl rfl rfl g36 (o_val F (r_neq_u32 F (y := 0) rfl rfl) rfl ?_); clear F a; intro a F
            refine l_guard F rfl rfl rfl g31 (o_val F (r_pick_f F rfl g36 rfl) rfl ?_); clear F a; intro a F
            refine l_guard F rfl rfl rfl g27 (o_val F (r_pick_t F rfl g31 rfl) rfl ?_); clear F a; intro a F
            refine l_step rfl (o_val F (r_pick_f F rfl g27 rfl) rfl ?_); clear F a; intro a F
            refine l_nil ?_
            refine hK3 _ _ ?_
            refine c_cond F rfl (fun g42 => ?_) (fun g42 => ?_)
            · skip
              refine c_seq (fun K8 hK8 => ?_)
              refine wp_region_lit ?_
              refine l_step rfl (o_val F (r_build F rfl b_State) rfl ?_); clear F a; intro a F
              refine l_step rfl (o_storeA M F rfl rfl agg_State.size (by repeat (first | exact Upd.here _ _ _ _ _ | apply Upd.there)) (by rfl) (by rfl) (by rfl) ?_); clear F a; intro a W9 M F
              refine l_step rfl (o_val F (r_assign F rfl) rfl ?_); clear F a; intro a F
              refine l_nil ?_
              refine hK8 _ _ ?_
              refine wp_ret ?_
              exact ret2 Try.results57 M F (rv_cell M F rfl (by repeat (first | exact List.mem_cons_self | apply List.mem_cons_of_mem)) agg_State rfl) (rv_tmp F rfl) (⟨Sl.nil, by clear hI M F hK1 hK2 hK3 hK8; simp_all [pApply, pEnd, PState.zero, -UInt8.not_le, -UInt8.not_lt, -UInt32.not_le, -UInt32.not_lt, -Int.not_lt, -Int.not_le, -Nat.not_lt, -Nat.not_le], by clear hI M F hK1 hK2 hK3 hK8; simp_all [pApply, pEnd, PState.zero, -UInt8.not_le, -UInt8.not_lt, -UInt32.not_le, -UInt32.not_lt, -Int.not_lt, -Int.not_le, -Nat.not_lt, -Nat.not_le] <;> exact Ens.nil _⟩)
            · skip
              refine wp_skip ?_
              refine hK2 _ _ ?_
              refine c_seq (fun K9 hK9 => ?_)
              refine c_seq (fun K10 hK10 => ?_)
              refine wp_region_lit ?_
              refine l_step rfl (o_val F (r_fieldAddr F rfl fld_Diff_0) rfl ?_); clear F a; intro a F
              refine l_step rfl (o_val F (r_load1 M F rfl (by repeat (first | exact List.mem_cons_self | apply List.mem_cons_of_mem)) sca_int rfl) rfl ?_); clear F a; intro a F
              refine l_step rfl (o_val F (r_eql_i64 F rfl rfl) rfl ?_); clear F a; intro a F
              refine l_nil ?_
              refine hK10 _ _ ?_
              refine c_cond F rfl (fun g46 => ?_) (fun g46 => ?_)
              · skip
                refine c_seq (fun K11 hK11 => ?_)
                refine c_seq (fun K12 hK12 => ?_)
                refine wp_region_lit ?_
                refine l_step rfl (o_val F (r_fieldAddr F rfl fld_Diff_3) rfl ?_); clear F a; intro a F
                refine l_step rfl (o_val F (r_load M F rfl (by repeat (first | exact List.mem_cons_self | apply List.mem_cons_of_mem)) agg_State g_Diff_3) rfl ?_); clear F a; intro a F
                refine l_step rfl (o_call M F rfl (c_paddockref6_Is M.imm hl2) rfl ?_); clear F a; intro a W10 v10 G10 hp10 M E10 F
                have hl := hl.mono E10.gl
                have hl1 := hl1.mono E10.gl
                have hl2 := hl2.mono E10.gl
                subst hp10
                refine l_step rfl (o_val F (r_not F rfl) rfl ?_); clear F a; intro a F
                refine l_nil ?_
                refine hK12 _ _ ?_
                refine c_cond F rfl (fun g50 => ?_) (fun g50 => ?_)
                · skip
                  refine c_seq (fun K13 hK13 => ?_)
                  refine wp_region_lit ?_
                  refine l_step rfl (o_val F (r_build F rfl b_State) rfl ?_); clear F a; intro a F
                  refine l_step rfl (o_storeA M F rfl rfl agg_State.size (by repeat (first | exact Upd.here _ _ _ _ _ | apply Upd.there)) (by rfl) (by rfl) (by rfl) ?_); clear F a; intro a W11 M F
                  refine l_step rfl (o_val F (r_assign F rfl) rfl ?_); clear F a; intro a F
                  refine l_nil ?_
                  refine hK13 _ _ ?_
                  refine wp_ret ?_
                  exact ret2 Try.results57 M F (rv_cell M F rfl (by repeat (first | exact List.mem_cons_self | apply List.mem_cons_of_mem)) agg_State rfl) (rv_tmp F rfl) (⟨Sl.nil, by clear hI M F hK1 hK2 hK3 hK9 hK10 hK11 hK12 hK13; simp_all [pApply, pEnd, PState.zero, -UInt8.not_le, -UInt8.not_lt, -UInt32.not_le, -UInt32.not_lt, -Int.not_lt, -Int.not_le, -Nat.not_lt, -Nat.not_le], by clear hI M F hK1 hK2 hK3 hK9 hK10 hK11 hK12 hK13; simp_all [pApply, pEnd, PState.zero, -UInt8.not_le, -UInt8.not_lt, -UInt32.not_le, -UInt32.not_lt, -Int.not_lt, -Int.not_le, -Nat.not_lt, -Nat.not_le] <;> exact Ens.nil _⟩)
                · skip
                  refine wp_skip ?_
                  refine hK11 _ _ ?_
                  refine c_seq (fun K14 hK14 => ?_)
                  refine wp_region_lit ?_
                  refine l_step rfl (o_val F (r_fieldAddr F rfl fld_Diff_3) rfl ?_); clear F a; intro a F
                  refine l_step rfl (o_val F (r_load M F rfl (by repeat (first | exact List.mem_cons_self | apply List.mem_cons_of_mem)) agg_State g_Diff_3) rfl ?_); clear F a; intro a F
                  refine l_step rfl (o_storeA M F rfl rfl agg_State.size (by repeat (first | exact Upd.here _ _ _ _ _ | apply Upd.there)) (by rfl) (by rfl) (by rfl) ?_); clear F a; intro a W12 M F
                  refine l_step rfl (o_val F (r_assign F rfl) rfl ?_); clear F a; intro a F
                  refine l_nil ?_
                  refine hK14 _ _ ?_
                  refine wp_ret ?_
                  exact ret2 Try.results57 M F (rv_cell M F rfl (by repeat (first | exact List.mem_cons_self | apply List.mem_cons_of_mem)) agg_State rfl) (rv_tmp F rfl) (⟨l2, by clear hI M F hK1 hK2 hK3 hK9 hK10 hK11 hK12 hK14; simp_all [pApply, -UInt8.not_le, -UInt8.not_lt, -UInt32.not_le, -UInt32.not_lt, -Int.not_lt, -Int.not_le, -Nat.not_lt, -Nat.not_le], by clear hI M F hK1 hK2 hK3 hK9 hK10 hK11 hK12 hK14; simp_all [pApply, -UInt8.not_le, -UInt8.not_lt, -UInt32.not_le, -UInt32.not_lt, -Int.not_lt, -Int.not_le, -Nat.not_lt, -Nat.not_le]⟩)
              · skip
                refine wp_skip ?_
                refine hK9 _ _ ?_
                refine c_seq (fun K15 hK15 => ?_)
                refine wp_region_lit ?_
                refine l_step rfl (o_val F (r_load M F rfl (by repeat (first | exact List.mem_cons_self | apply List.mem_cons_of_mem)) agg_State (seg_all rfl)) rfl ?_); clear F a; intro a F
                refine l_step rfl (o_alloc M F zer_State rfl ?_); clear F a; intro a W13 b4 M F
                refine l_step rfl (o_storeA M F rfl rfl agg_State.size (by repeat (first | exact Upd.here _ _ _ _ _ | apply Upd.there)) (by rfl) (by rfl) (by rfl) ?_); clear F a; intro a W14 M F
                refine l_nil ?_
                refine hK15 _ _ ?_
                refine c_seq (fun K16 hK16 => ?_)
                refine c_seq (fun K17 hK17 => ?_)
                refine wp_region_lit ?_
                refine l_step rfl (o_val F (r_fieldAddr F rfl fld_Diff_0) rfl ?_); clear F a; intro a F
                refine l_step rfl (o_val F (r_load1 M F rfl (by repeat (first | exact List.mem_cons_self | apply List.mem_cons_of_mem)) sca_int rfl) rfl ?_); clear F a; intro a F
                refine l_step rfl (o_val F (r_eql_i64 F rfl rfl) rfl ?_); clear F a; intro a F
                refine l_nil ?_
                refine hK17 _ _ ?_
                refine c_cond F rfl (fun g57 => ?_) (fun g57 => ?_)
                · skip
                  refine c_seq (fun K18 hK18 => ?_)
                  refine wp_region_lit ?_
                  refine l_step rfl (o_val F (r_load M F rfl (by repeat (first | exact List.mem_cons_self | apply List.mem_cons_of_mem)) agg_State (seg_all rfl)) rfl ?_); clear F a; intro a F
                  refine l_step rfl (o_val F (r_fieldAddr F rfl fld_Diff_1) rfl ?_); clear F a; intro a F
                  refine l_step rfl (o_val F (r_load1 M F rfl (by repeat (first | exact List.mem_cons_self | apply List.mem_cons_of_mem)) sca_u32 rfl) rfl ?_); clear F a; intro a F
                  refine l_step rfl (o_call M F rfl (c_paddockref6_Cut M.imm hl) rfl ?_); clear F a; intro a W15 v15 G15 hp15 M E15 F
                  have hl := hl.mono E15.gl
                  have hl1 := hl1.mono E15.gl
                  have hl2 := hl2.mono E15.gl
                  obtain ⟨l3, rfl, hl3⟩ := hp15
                  refine l_step rfl (o_val F (r_move F rfl) rfl ?_); clear F a; intro a F
                  refine l_step rfl (o_val F (r_extract F rfl rfl) rfl ?_); clear F a; intro a F
                  refine l_step rfl (o_val F (r_extract F rfl rfl) rfl ?_); clear F a; intro a F
                  refine l_step rfl (o_alloc M F zer_State rfl ?_); clear F a; intro a W16 b5 M F
                  refine l_step rfl (o_storeA M F rfl rfl agg_State.size (by repeat (first | exact Upd.here _ _ _ _ _ | apply Upd.there)) (by rfl) (by rfl) (by rfl) ?_); clear F a; intro a W17 M F
                  refine l_step rfl (o_val F (r_assign F rfl) rfl ?_); clear F a; intro a F
                  refine l_nil ?_
                  refine hK18 _ _ ?_
                  refine c_seq (fun K19 hK19 => ?_)
                  refine c_seq (fun K20 hK20 => ?_)
                  refine wp_region_lit ?_
                  refine l_step rfl (o_val F (r_move F rfl) rfl ?_); clear F a; intro a F
                  refine l_step rfl (o_val F (r_neq_i64 F rfl rfl) rfl ?_); clear F a; intro a F
                  refine l_nil ?_
                  refine hK20 _ _ ?_
                  refine c_cond F rfl (fun g66 => ?_) (fun g66 => ?_)
                  · skip
                    refine c_seq (fun K21 hK21 => ?_)
                    refine wp_region_lit ?_
                    refine l_step rfl (o_val F (r_build F rfl b_State) rfl ?_); clear F a; intro a F
                    refine l_step rfl (o_storeA M F rfl rfl agg_State.size (by repeat (first | exact Upd.here _ _ _ _ _ | apply Upd.there)) (by rfl) (by rfl) (by rfl) ?_); clear F a; intro a W18 M F
                    refine l_step rfl (o_val F (r_assign F rfl) rfl ?_); clear F a; intro a F
                    refine l_nil ?_
                    refine hK21 _ _ ?_
                    refine wp_ret ?_
                    exact ret2 Try.results57 M F (rv_cell M F rfl (by repeat (first | exact List.mem_cons_self | apply List.mem_cons_of_mem)) agg_State rfl) (rv_tmp F rfl) (⟨Sl.nil, by clear hI M F hK1 hK2 hK3 hK9 hK10 hK15 hK16 hK17 hK18 hK19 hK20 hK21; simp_all [pApply, pEnd, PState.zero, -UInt8.not_le, -UInt8.not_lt, -UInt32.not_le, -UInt32.not_lt, -Int.not_lt, -Int.not_le, -Nat.not_lt, -Nat.not_le], by clear hI M F hK1 hK2 hK3 hK9 hK10 hK15 hK16 hK17 hK18 hK19 hK20 hK21; simp_all [pApply, pEnd, PState.zero, -UInt8.not_le, -UInt8.not_lt, -UInt32.not_le, -UInt32.not_lt, -Int.not_lt, -Int.not_le, -Nat.not_lt, -Nat.not_le] <;> exact Ens.nil _⟩)
                  · skip
                    refine wp_skip ?_
                    refine hK19 _ _ ?_
                    refine c_seq (fun K22 hK22 => ?_)
                    refine wp_region_lit ?_
                    refine l_step rfl (o_val F (r_load M F rfl (by repeat (first | exact List.mem_cons_self | apply List.mem_cons_of_mem)) agg_State (seg_all rfl)) rfl ?_); clear F a; intro a F
                    refine l_step rfl (o_storeA M F rfl rfl agg_State.size (by repeat (first | exact Upd.here _ _ _ _ _ | apply Upd.there)) (by rfl) (by rfl) (by rfl) ?_); clear F a; intro a W19 M F
                    refine l_nil ?_
                    refine hK22 _ _ ?_
                    refine c_seq (fun K23 hK23 => ?_)
                    refine wp_region_lit ?_
                    refine l_step rfl (o_val F (r_assign F rfl) rfl ?_); clear F a; intro a F
                    refine l_nil ?_
                    refine hK23 _ _ ?_
                    refine wp_block ?_
                    refine c_loop (fun k a W => ∃ (i : Nat) (G : Ghost) (u : PState) (l4 : Sl), k = d.log.length - i ∧ i ≤ d.log.length ∧ Frm 121 [(9, .int .i64 (i : Int)), (6, .pointer (some ⟨b4, 0, none⟩)), (4, .pointer (some ⟨b3, 0, none⟩)), (3, .pointer (some ⟨b2, 0, none⟩))] a ∧ St [] w G0 W [⟨b4, 42, (u.at l4).enc⟩, ⟨b3, 42, GState.enc ⟨0, PBase.zero, PEntry.zero, Sl.nil⟩⟩, ⟨b2, 94, (d.at l1 l2).enc⟩] G ∧ (pAdded (pCut s d.from_).1 d.log = pAdded u (d.log.drop i) ∧ Ens G l4 u.log)) (d.log.length) ?_ ?_
                    · exact ⟨0, _, _, l3, rfl, Nat.zero_le _, (F.cons (F.cons (F.cons (F.cons F.nil 3 rfl) 4 rfl) 6 rfl) 9 rfl), (M.drop (by repeat (first | exact List.Sublist.refl _ | apply List.Sublist.cons_cons | apply List.Sublist.cons))), ⟨rfl, hl3⟩⟩
                    · clear F M a; intro k a W hI; obtain ⟨i, G, u, l4, hk, hi, F, M, hf⟩ := hI
                      obtain ⟨hf, hl4⟩ := hf
                      refine c_seq (fun K24 hK24 => ?_)
                      refine c_seq (fun K25 hK25 => ?_)
                      refine wp_region_lit ?_
                      refine l_step rfl (o_val F (r_move F rfl) rfl ?_); clear F a; intro a F
                      refine l_step rfl (o_val F (r_fieldAddr F rfl fld_Diff_2) rfl ?_); clear F a; intro a F
                      refine l_step rfl (o_val F (r_load1 M F rfl (by repeat (first | exact List.mem_cons_self | apply List.mem_cons_of_mem)) sca_Entries rfl) rfl ?_); clear F a; intro a F
                      refine l_step rfl (o_val F (r_len_slice F slc_Entries.und rfl) rfl ?_); clear F a; intro a F
                      refine l_step rfl (o_val F (r_lss_i64 F rfl rfl) rfl ?_); clear F a; intro a F
                      refine l_nil ?_
                      refine hK25 _ _ ?_
                      refine c_cond F rfl (fun g73 => ?_) (fun g73 => ?_)
                      · skip
                        have hlt : i < d.log.length := by have h := of_decide_eq_true g73; omega
                        obtain ⟨x, hx⟩ := get_of hlt
                        rw [drop_of hx, pAdded] at hf
                        have hl10 := hlz.mono M.gl
                        refine wp_skip ?_
                        refine hK24 _ _ ?_
                        refine c_seq (fun K26 hK26 => ?_)
                        refine wp_block ?_
                        refine c_seq (fun K27 hK27 => ?_)
                        refine c_drawM M [] mixed (fun M => ?_)
                        have Ms := M
                        have hq1 := Keeps.here M
                        have hle1 := M.gle
                        obtain ⟨eb, eo, er, ha81, hG81, hS81⟩ := hl10.elem hx
                        refine t_take (i := 0) F rfl rfl hq1 (fun _ ⟨_, _, M'⟩ => r_load M' F rfl (by repeat (first | exact List.mem_cons_self | apply List.mem_cons_of_mem)) agg_State (seg_all rfl)) (fun _ _ _ h => h) (by kernel_rfl) (by kernel_rfl) (by kernel_rfl) (by kernel_rfl) ?_; clear F a; intro a F
                        refine t_take (i := 1) F rfl rfl hq1 (fun _ _ => r_fieldAddr F rfl fld_Diff_2) (fun _ _ _ h => h) (by kernel_rfl) (by kernel_rfl) (by kernel_rfl) (by kernel_rfl) ?_; clear F a; intro a F
                        refine t_take (i := 2) F rfl rfl hq1 (fun _ ⟨_, _, M'⟩ => r_load1 M' F rfl (by repeat (first | exact List.mem_cons_self | apply List.mem_cons_of_mem)) sca_Entries rfl) (fun _ _ _ h => h) (by kernel_rfl) (by kernel_rfl) (by kernel_rfl) (by kernel_rfl) ?_; clear F a; intro a F
                        refine t_take (i := 3) F rfl rfl hq1 (fun _ _ => r_move F rfl) (fun _ _ _ h => h) (by kernel_rfl) (by kernel_rfl) (by kernel_rfl) (by kernel_rfl) ?_; clear F a; intro a F
                        refine t_take (i := 4) F rfl rfl hq1 (fun _ _ => r_indexSl F rfl rfl slc_Entries ha81 (by omega) (by omega)) (fun _ _ _ h => h) (by kernel_rfl) (by kernel_rfl) (by kernel_rfl) (by kernel_rfl) ?_; clear F a; intro a F
                        refine t_take (i := 5) F rfl rfl hq1 (fun _ ⟨_, hg, M'⟩ => r_loadrG hg M' F rfl hG81 agg_Entry hS81) (fun _ _ _ h => h) (by kernel_rfl) (by kernel_rfl) (by kernel_rfl) (by kernel_rfl) ?_; clear F a; intro a F
                        refine t_rdy2 (i := 6) (j := 10) (by kernel_rfl) (w_plain rfl rfl ?_) (w_plain rfl rfl ?_)
                        · skip
                          refine id (o_call M F rfl (c_paddockref6_Add M.imm hl4) rfl ?_); clear F a; intro a W20 v20 G20 hp20 M E20 F
                          have hl4 := hl4.mono E20.gl
                          obtain ⟨l5, rfl, hl5⟩ := hp20
                          have hle1 := hle1.trans E20.gl
                          refine keepAnd (Keeps.mk hle1 M (by repeat (first | exact List.Sublist.refl _ | apply List.Sublist.cons_cons | apply List.Sublist.cons))) (fun hq1 => ?_)
                          refine t_take (i := 7) F rfl rfl hq1 (fun _ _ => r_move F rfl) (fun _ _ _ h => h) (by kernel_rfl) (by kernel_rfl) (by kernel_rfl) (by kernel_rfl) ?_; clear F a; intro a F
                          refine t_take (i := 8) F rfl rfl hq1 (fun _ _ => r_extract F rfl rfl) (fun _ _ _ h => h) (by kernel_rfl) (by kernel_rfl) (by kernel_rfl) (by kernel_rfl) ?_; clear F a; intro a F
                          refine t_take (i := 9) F rfl rfl hq1 (fun _ _ => r_extract F rfl rfl) (fun _ _ _ h => h) (by kernel_rfl) (by kernel_rfl) (by kernel_rfl) (by kernel_rfl) ?_; clear F a; intro a F
                          refine t_one (i := 10) (by kernel_rfl) rfl rfl (o_alloc M F zer_State rfl ?_); clear F a; intro a W21 b6 M F
                          refine keepAnd (Keeps.mk hle1 M (by repeat (first | exact List.Sublist.refl _ | apply List.Sublist.cons_cons | apply List.Sublist.cons))) (fun hq1 => ?_)
                          refine t_one (i := 11) (by kernel_rfl) rfl rfl (o_storeA M F rfl rfl agg_State.size (by repeat (first | exact Upd.here _ _ _ _ _ | apply Upd.there)) (by rfl) (by rfl) (by rfl) ?_); clear F a; intro a W22 M F
                          refine keepAnd (Keeps.mk hle1 M (by repeat (first | exact List.Sublist.refl _ | apply List.Sublist.cons_cons | apply List.Sublist.cons))) (fun hq1 => ?_)
                          refine t_take (i := 12) F rfl rfl hq1 (fun _ _ => r_assign F rfl) (fun _ _ _ h => h) (by kernel_rfl) (by kernel_rfl) (by kernel_rfl) (by kernel_rfl) ?_; clear F a; intro a F
                          refine t_done (by kernel_rfl) ?_ _
                          refine hK27 _ _ ?_
                          refine c_seq (fun K28 hK28 => ?_)
                          refine c_seq (fun K29 hK29 => ?_)
                          refine wp_region_lit ?_
                          refine l_step rfl (o_val F (r_move F rfl) rfl ?_); clear F a; intro a F
                          refine l_step rfl (o_val F (r_not F rfl) rfl ?_); clear F a; intro a F
                          refine l_nil ?_
                          refine hK29 _ _ ?_
                          refine c_cond F rfl (fun g87 => ?_) (fun g87 => ?_)
                          · skip
                            refine c_seq (fun K30 hK30 => ?_)
                            refine wp_region_lit ?_
                            refine l_step rfl (o_val F (r_build F rfl b_State) rfl ?_); clear F a; intro a F
                            refine l_step rfl (o_storeA M F rfl rfl agg_State.size (by repeat (first | exact Upd.here _ _ _ _ _ | apply Upd.there)) (by rfl) (by rfl) (by rfl) ?_); clear F a; intro a W23 M F
                            refine l_step rfl (o_val F (r_assign F rfl) rfl ?_); clear F a; intro a F
                            refine l_nil ?_
                            refine hK30 _ _ ?_
                            refine wp_ret ?_
                            exact ret2 Try.results57 M F (rv_cell M F rfl (by repeat (first | exact List.mem_cons_self | apply List.mem_cons_of_mem)) agg_State rfl) (rv_tmp F rfl) (⟨Sl.nil, by clear hI M F hK1 hK2 hK3 hK9 hK10 hK15 hK16 hK17 hK18 hK19 hK20 hK22 hK23 hK24 hK25 hK26 hK27 hK28 hK29 hK30; simp_all [pApply, pEnd, PState.zero, -UInt8.not_le, -UInt8.not_lt, -UInt32.not_le, -UInt32.not_lt, -Int.not_lt, -Int.not_le, -Nat.not_lt, -Nat.not_le], by clear hI M F hK1 hK2 hK3 hK9 hK10 hK15 hK16 hK17 hK18 hK19 hK20 hK22 hK23 hK24 hK25 hK26 hK27 hK28 hK29 hK30; simp_all [pApply, pEnd, PState.zero, -UInt8.not_le, -UInt8.not_lt, -UInt32.not_le, -UInt32.not_lt, -Int.not_lt, -Int.not_le, -Nat.not_lt, -Nat.not_le] <;> exact Ens.nil _⟩)
                          · skip
                            refine wp_skip ?_
                            refine hK28 _ _ ?_
                            refine wp_region_lit ?_
                            refine l_step rfl (o_val F (r_load M F rfl (by repeat (first | exact List.mem_cons_self | apply List.mem_cons_of_mem)) agg_State (seg_all rfl)) rfl ?_); clear F a; intro a F
                            refine l_step rfl (o_storeA M F rfl rfl agg_State.size (by repeat (first | exact Upd.here _ _ _ _ _ | apply Upd.there)) (by rfl) (by rfl) (by rfl) ?_); clear F a; intro a W24 M F
                            refine l_nil ?_
                            refine hK26 _ _ ?_
                            refine wp_region_lit ?_
                            refine l_step rfl (o_val F (r_move F rfl) rfl ?_); clear F a; intro a F
                            refine l_step rfl (o_val F (r_add_i64 F rfl rfl (by omega)) rfl ?_); clear F a; intro a F
                            refine l_step rfl (o_val F (r_assign F rfl) rfl ?_); clear F a; intro a F
                            refine l_nil ?_
                            exact ⟨d.log.length - (i + 1), by omega, i + 1, _, _, l5, rfl, by omega, (F.cons (F.cons (F.cons (F.cons F.nil 3 rfl) 4 rfl) 6 rfl) 9 rfl), M.drop (by repeat (first | exact List.Sublist.refl _ | apply List.Sublist.cons_cons | apply List.Sublist.cons)), ⟨(by rw [hf, if_neg]; simpa using g87), hl5⟩⟩
                        · skip
                          refine id (o_alloc M F zer_State rfl ?_); clear F a; intro a W25 b7 M F
                          refine keepAnd (Keeps.mk hle1 M (by repeat (first | exact List.Sublist.refl _ | apply List.Sublist.cons_cons | apply List.Sublist.cons))) (fun hq1 => ?_)
                          refine t_one (i := 6) (by kernel_rfl) rfl rfl (o_call M F rfl (c_paddockref6_Add M.imm hl4) rfl ?_); clear F a; intro a W26 v26 G26 hp26 M E26 F
                          have hl4 := hl4.mono E26.gl
                          obtain ⟨l5, rfl, hl5⟩ := hp26
                          have hle1 := hle1.trans E26.gl
                          refine keepAnd (Keeps.mk hle1 M (by repeat (first | exact List.Sublist.refl _ | apply List.Sublist.cons_cons | apply List.Sublist.cons))) (fun hq1 => ?_)
                          refine t_take (i := 7) F rfl rfl hq1 (fun _ _ => r_move F rfl) (fun _ _ _ h => h) (by kernel_rfl) (by kernel_rfl) (by kernel_rfl) (by kernel_rfl) ?_; clear F a; intro a F
                          refine t_take (i := 8) F rfl rfl hq1 (fun _ _ => r_extract F rfl rfl) (fun _ _ _ h => h) (by kernel_rfl) (by kernel_rfl) (by kernel_rfl) (by kernel_rfl) ?_; clear F a; intro a F
                          refine t_take (i := 9) F rfl rfl hq1 (fun _ _ => r_extract F rfl rfl) (fun _ _ _ h => h) (by kernel_rfl) (by kernel_rfl) (by kernel_rfl) (by kernel_rfl) ?_; clear F a; intro a F
                          refine t_one (i := 11) (by kernel_rfl) rfl rfl (o_storeA M F rfl rfl agg_State.size (by repeat (first | exact Upd.here _ _ _ _ _ | apply Upd.there)) (by rfl) (by rfl) (by rfl) ?_); clear F a; intro a W27 M F
                          refine keepAnd (Keeps.mk hle1 M (by repeat (first | exact List.Sublist.refl _ | apply List.Sublist.cons_cons | apply List.Sublist.cons))) (fun hq1 => ?_)
                          refine t_take (i := 12) F rfl rfl hq1 (fun _ _ => r_assign F rfl) (fun _ _ _ h => h) (by kernel_rfl) (by kernel_rfl) (by kernel_rfl) (by kernel_rfl) ?_; clear F a; intro a F
                          refine t_done (by kernel_rfl) ?_ _
                          refine hK27 _ _ ?_
                          refine c_seq (fun K31 hK31 => ?_)
                          refine c_seq (fun K32 hK32 => ?_)
                          refine wp_region_lit ?_
                          refine l_step rfl (o_val F (r_move F rfl) rfl ?_); clear F a; intro a F
                          refine l_step rfl (o_val F (r_not F rfl) rfl ?_); clear F a; intro a F
                          refine l_nil ?_
                          refine hK32 _ _ ?_
                          refine c_cond F rfl (fun g87 => ?_) (fun g87 => ?_)
                          · skip
                            refine c_seq (fun K33 hK33 => ?_)
                            refine wp_region_lit ?_
                            refine l_step rfl (o_val F (r_build F rfl b_State) rfl ?_); clear F a; intro a F
                            refine l_step rfl (o_storeA M F rfl rfl agg_State.size (by repeat (first | exact Upd.here _ _ _ _ _ | apply Upd.there)) (by rfl) (by rfl) (by rfl) ?_); clear F a; intro a W28 M F
                            refine l_step rfl (o_val F (r_assign F rfl) rfl ?_); clear F a; intro a F
                            refine l_nil ?_
                            refine hK33 _ _ ?_
                            refine wp_ret ?_
                            exact ret2 Try.results57 M F (rv_cell M F rfl (by repeat (first | exact List.mem_cons_self | apply List.mem_cons_of_mem)) agg_State rfl) (rv_tmp F rfl) (⟨Sl.nil, by clear hI M F hK1 hK2 hK3 hK9 hK10 hK15 hK16 hK17 hK18 hK19 hK20 hK22 hK23 hK24 hK25 hK26 hK27 hK31 hK32 hK33; simp_all [pApply, pEnd, PState.zero, -UInt8.not_le, -UInt8.not_lt, -UInt32.not_le, -UInt32.not_lt, -Int.not_lt, -Int.not_le, -Nat.not_lt, -Nat.not_le], by clear hI M F hK1 hK2 hK3 hK9 hK10 hK15 hK16 hK17 hK18 hK19 hK20 hK22 hK23 hK24 hK25 hK26 hK27 hK31 hK32 hK33; simp_all [pApply, pEnd, PState.zero, -UInt8.not_le, -UInt8.not_lt, -UInt32.not_le, -UInt32.not_lt, -Int.not_lt, -Int.not_le, -Nat.not_lt, -Nat.not_le] <;> exact Ens.nil _⟩)
                          · skip
                            refine wp_skip ?_
                            refine hK31 _ _ ?_
                            refine wp_region_lit ?_
                            refine l_step rfl (o_val F (r_load M F rfl (by repeat (first | exact List.mem_cons_self | apply List.mem_cons_of_mem)) agg_State (seg_all rfl)) rfl ?_); clear F a; intro a F
                            refine l_step rfl (o_storeA M F rfl rfl agg_State.size (by repeat (first | exact Upd.here _ _ _ _ _ | apply Upd.there)) (by rfl) (by rfl) (by rfl) ?_); clear F a; intro a W29 M F
                            refine l_nil ?_
                            refine hK26 _ _ ?_
                            refine wp_region_lit ?_
                            refine l_step rfl (o_val F (r_move F rfl) rfl ?_); clear F a; intro a F
                            refine l_step rfl (o_val F (r_add_i64 F rfl rfl (by omega)) rfl ?_); clear F a; intro a F
                            refine l_step rfl (o_val F (r_assign F rfl) rfl ?_); clear F a; intro a F
                            refine l_nil ?_
                            exact ⟨d.log.length - (i + 1), by omega, i + 1, _, _, l5, rfl, by omega, (F.cons (F.cons (F.cons (F.cons F.nil 3 rfl) 4 rfl) 6 rfl) 9 rfl), M.drop (by repeat (first | exact List.Sublist.refl _ | apply List.Sublist.cons_cons | apply List.Sublist.cons)), ⟨(by rw [hf, if_neg]; simpa using g87), hl5⟩⟩
                      · skip
                        have hge : i = d.log.length := by have h := of_decide_eq_false g73; omega
                        rw [hge, List.drop_length, pAdded] at hf
                        refine wp_exit ?_
                        refine hK16 _ _ ?_
                        refine c_seq (fun K34 hK34 => ?_)
                        refine wp_region_lit ?_
                        refine l_step rfl (o_val F (r_load M F rfl (by repeat (first | exact List.mem_cons_self | apply List.mem_cons_of_mem)) agg_State (seg_all rfl)) rfl ?_); clear F a; intro a F
                        refine l_step rfl (o_val F (r_fieldAddr F rfl fld_Diff_3) rfl ?_); clear F a; intro a F
                        refine l_step rfl (o_val F (r_fieldAddr F rfl fld_State_2) rfl ?_); clear F a; intro a F
                        refine l_step rfl (o_val F (r_fieldAddr F rfl fld_Entry_1) rfl ?_); clear F a; intro a F
                        refine l_step rfl (o_val F (r_load1 M F rfl (by repeat (first | exact List.mem_cons_self | apply List.mem_cons_of_mem)) sca_u32 rfl) rfl ?_); clear F a; intro a F
                        refine l_step rfl (o_call M F rfl ((by first | exact c_paddockref6_Tail M.imm hl4 | exact c_paddockref6_Tail M.imm hl)) rfl ?_); clear F a; intro a W30 v30 G30 hp30 M E30 F
                        have hl4 := hl4.mono E30.gl
                        obtain ⟨l6, rfl, hl6⟩ := hp30
                        refine l_step rfl (o_val F (r_move F rfl) rfl ?_); clear F a; intro a F
                        refine l_step rfl (o_val F (r_extract F rfl rfl) rfl ?_); clear F a; intro a F
                        refine l_step rfl (o_val F (r_extract F rfl rfl) rfl ?_); clear F a; intro a F
                        refine l_step rfl (o_alloc M F zer_State rfl ?_); clear F a; intro a W31 b8 M F
                        refine l_step rfl (o_storeA M F rfl rfl agg_State.size (by repeat (first | exact Upd.here _ _ _ _ _ | apply Upd.there)) (by rfl) (by rfl) (by rfl) ?_); clear F a; intro a W32 M F
                        refine l_step rfl (o_val F (r_assign F rfl) rfl ?_); clear F a; intro a F
                        refine l_nil ?_
                        refine hK34 _ _ ?_
                        refine c_seq (fun K35 hK35 => ?_)
                        refine c_seq (fun K36 hK36 => ?_)
                        refine wp_region_lit ?_
                        refine l_step rfl (o_val F (r_move F rfl) rfl ?_); clear F a; intro a F
                        refine l_step rfl (o_val F (r_neq_i64 F rfl rfl) rfl ?_); clear F a; intro a F
                        refine l_step rfl (o_val F (r_move F rfl) rfl ?_); clear F a; intro a F
                        refine c_split F (i := 101) rfl (fun g101 => ?_) (fun g101 => ?_)
                        · skip
                          iterate 8 (refine l_skip F rfl rfl rfl g101 rfl rfl ?_; clear F a; intro a F)
                          refine l_step rfl (o_val F (r_pick_t F rfl g101 rfl) rfl ?_); clear F a; intro a F
                          refine l_nil ?_
                          refine hK36 _ _ ?_
                          refine c_true F rfl rfl ?_
                          refine c_seq (fun K37 hK37 => ?_)
                          refine wp_region_lit ?_
                          refine l_step rfl (o_val F (r_build F rfl b_State) rfl ?_); clear F a; intro a F
                          refine l_step rfl (o_storeA M F rfl rfl agg_State.size (by repeat (first | exact Upd.here _ _ _ _ _ | apply Upd.there)) (by rfl) (by rfl) (by rfl) ?_); clear F a; intro a W33 M F
                          refine l_step rfl (o_val F (r_assign F rfl) rfl ?_); clear F a; intro a F
                          refine l_nil ?_
                          refine hK37 _ _ ?_
                          refine wp_ret ?_
                          exact ret2 Try.results57 M F (rv_cell M F rfl (by repeat (first | exact List.mem_cons_self | apply List.mem_cons_of_mem)) agg_State rfl) (rv_tmp F rfl) (⟨Sl.nil, by clear hI M F hK1 hK2 hK3 hK9 hK10 hK15 hK16 hK17 hK18 hK19 hK20 hK22 hK23 hK24 hK25 hK34 hK35 hK36 hK37; simp_all [pApply, pEnd, PState.zero, -UInt8.not_le, -UInt8.not_lt, -UInt32.not_le, -UInt32.not_lt, -Int.not_lt, -Int.not_le, -Nat.not_lt, -Nat.not_le], by clear hI M F hK1 hK2 hK3 hK9 hK10 hK15 hK16 hK17 hK18 hK19 hK20 hK22 hK23 hK24 hK25 hK34 hK35 hK36 hK37; simp_all [pApply, pEnd, PState.zero, -UInt8.not_le, -UInt8.not_lt, -UInt32.not_le, -UInt32.not_lt, -Int.not_lt, -Int.not_le, -Nat.not_lt, -Nat.not_le] <;> exact Ens.nil _⟩)
                        · skip
                          refine l_guard F rfl rfl rfl g101 (o_val F (r_fieldAddr F rfl fld_State_2) rfl ?_); clear F a; intro a F
                          refine l_guard F rfl rfl rfl g101 (o_val F (r_fieldAddr F rfl fld_Entry_0) rfl ?_); clear F a; intro a F
                          refine l_guard F rfl rfl rfl g101 (o_val F (r_load1 M F rfl (by repeat (first | exact List.mem_cons_self | apply List.mem_cons_of_mem)) sca_u32 rfl) rfl ?_); clear F a; intro a F
                          refine l_guard F rfl rfl rfl g101 (o_val F (r_fieldAddr F rfl fld_Diff_3) rfl ?_); clear F a; intro a F
                          refine l_guard F rfl rfl rfl g101 (o_val F (r_fieldAddr F rfl fld_State_2) rfl ?_); clear F a; intro a F
                          refine l_guard F rfl rfl rfl g101 (o_val F (r_fieldAddr F rfl fld_Entry_0) rfl ?_); clear F a; intro a F
                          refine l_guard F rfl rfl rfl g101 (o_val F (r_load1 M F rfl (by repeat (first | exact List.mem_cons_self | apply List.mem_cons_of_mem)) sca_u32 rfl) rfl ?_); clear F a; intro a F
                          refine l_guard F rfl rfl rfl g101 (o_val F (r_neq_u32 F rfl rfl) rfl ?_); clear F a; intro a F
                          refine l_step rfl (o_val F (r_pick_f F rfl g101 rfl) rfl ?_); clear F a; intro a F
                          refine l_nil ?_
                          refine hK36 _ _ ?_
                          refine c_cond F rfl (fun g110 => ?_) (fun g110 => ?_)
                          · skip
                            refine c_seq (fun K38 hK38 => ?_)
                            refine wp_region_lit ?_
                            refine l_step rfl (o_val F (r_build F rfl b_State) rfl ?_); clear F a; intro a F
                            refine l_step rfl (o_storeA M F rfl rfl agg_State.size (by repeat (first | exact Upd.here _ _ _ _ _ | apply Upd.there)) (by rfl) (by rfl) (by rfl) ?_); clear F a; intro a W34 M F
                            refine l_step rfl (o_val F (r_assign F rfl) rfl ?_); clear F a; intro a F
                            refine l_nil ?_
                            refine hK38 _ _ ?_
                            refine wp_ret ?_
                            exact ret2 Try.results57 M F (rv_cell M F rfl (by repeat (first | exact List.mem_cons_self | apply List.mem_cons_of_mem)) agg_State rfl) (rv_tmp F rfl) (⟨Sl.nil, by clear hI M F hK1 hK2 hK3 hK9 hK10 hK15 hK16 hK17 hK18 hK19 hK20 hK22 hK23 hK24 hK25 hK34 hK35 hK36 hK38; simp_all [pApply, pEnd, PState.zero, -UInt8.not_le, -UInt8.not_lt, -UInt32.not_le, -UInt32.not_lt, -Int.not_lt, -Int.not_le, -Nat.not_lt, -Nat.not_le], by clear hI M F hK1 hK2 hK3 hK9 hK10 hK15 hK16 hK17 hK18 hK19 hK20 hK22 hK23 hK24 hK25 hK34 hK35 hK36 hK38; simp_all [pApply, pEnd, PState.zero, -UInt8.not_le, -UInt8.not_lt, -UInt32.not_le, -UInt32.not_lt, -Int.not_lt, -Int.not_le, -Nat.not_lt, -Nat.not_le] <;> exact Ens.nil _⟩)
                          · skip
                            refine wp_skip ?_
                            refine hK35 _ _ ?_
                            refine c_seq (fun K39 hK39 => ?_)
                            refine wp_region_lit ?_
                            refine l_step rfl (o_val F (r_fieldAddr F rfl fld_Diff_3) rfl ?_); clear F a; intro a F
                            refine l_step rfl (o_val F (r_fieldAddr F rfl fld_State_0) rfl ?_); clear F a; intro a F
                            refine l_step rfl (o_val F (r_load1 M F rfl (by repeat (first | exact List.mem_cons_self | apply List.mem_cons_of_mem)) sca_u32 rfl) rfl ?_); clear F a; intro a F
                            refine l_step rfl (o_val F (r_fieldAddr F rfl fld_State_0) rfl ?_); clear F a; intro a F
                            refine l_step rfl (o_store1 M F rfl rfl sca_u32 rfl rfl p_State_0 (by repeat (first | exact Upd.here _ _ _ _ _ | apply Upd.there)) ?_); clear F a; intro a W35 M F
                            refine l_nil ?_
                            refine hK39 _ _ ?_
                            refine c_seq (fun K40 hK40 => ?_)
                            refine c_seq (fun K41 hK41 => ?_)
                            refine wp_region_lit ?_
                            refine l_step rfl (o_val F (r_load M F rfl (by repeat (first | exact List.mem_cons_self | apply List.mem_cons_of_mem)) agg_State (seg_all rfl)) rfl ?_); clear F a; intro a F
                            refine l_step rfl (o_call M F rfl (c_paddockref6_Is (s := { (pTail _ d.whole.tail.n).1 with started := d.whole.started }) M.imm hl6) rfl ?_); clear F a; intro a W36 v36 G36 hp36 M E36 F
                            have hl4 := hl4.mono E36.gl
                            have hl6 := hl6.mono E36.gl
                            subst hp36
                            refine l_step rfl (o_val F (r_not F rfl) rfl ?_); clear F a; intro a F
                            refine l_nil ?_
                            refine hK41 _ _ ?_
                            refine c_cond F rfl (fun g118 => ?_) (fun g118 => ?_)
                            · skip
                              refine c_seq (fun K42 hK42 => ?_)
                              refine wp_region_lit ?_
                              refine l_step rfl (o_val F (r_build F rfl b_State) rfl ?_); clear F a; intro a F
                              refine l_step rfl (o_storeA M F rfl rfl agg_State.size (by repeat (first | exact Upd.here _ _ _ _ _ | apply Upd.there)) (by rfl) (by rfl) (by rfl) ?_); clear F a; intro a W37 M F
                              refine l_step rfl (o_val F (r_assign F rfl) rfl ?_); clear F a; intro a F
                              refine l_nil ?_
                              refine hK42 _ _ ?_
                              refine wp_ret ?_
                              exact ret2 Try.results57 M F (rv_cell M F rfl (by repeat (first | exact List.mem_cons_self | apply List.mem_cons_of_mem)) agg_State rfl) (rv_tmp F rfl) (⟨Sl.nil, by clear hI M F hK1 hK2 hK3 hK9 hK10 hK15 hK16 hK17 hK18 hK19 hK20 hK22 hK23 hK24 hK25 hK34 hK35 hK36 hK39 hK40 hK41 hK42; simp_all [pApply, pEnd, PState.zero, -UInt8.not_le, -UInt8.not_lt, -UInt32.not_le, -UInt32.not_lt, -Int.not_lt, -Int.not_le, -Nat.not_lt, -Nat.not_le], by clear hI M F hK1 hK2 hK3 hK9 hK10 hK15 hK16 hK17 hK18 hK19 hK20 hK22 hK23 hK24 hK25 hK34 hK35 hK36 hK39 hK40 hK41 hK42; simp_all [pApply, pEnd, PState.zero, -UInt8.not_le, -UInt8.not_lt, -UInt32.not_le, -UInt32.not_lt, -Int.not_lt, -Int.not_le, -Nat.not_lt, -Nat.not_le] <;> exact Ens.nil _⟩)
                            · skip
                              refine wp_skip ?_
                              refine hK40 _ _ ?_
                              refine c_seq (fun K43 hK43 => ?_)
                              refine wp_region_lit ?_
                              refine l_step rfl (o_val F (r_load M F rfl (by repeat (first | exact List.mem_cons_self | apply List.mem_cons_of_mem)) agg_State (seg_all rfl)) rfl ?_); clear F a; intro a F
                              refine l_step rfl (o_storeA M F rfl rfl agg_State.size (by repeat (first | exact Upd.here _ _ _ _ _ | apply Upd.there)) (by rfl) (by rfl) (by rfl) ?_); clear F a; intro a W38 M F
                              refine l_step rfl (o_val F (r_assign F rfl) rfl ?_); clear F a; intro a F
                              refine l_nil ?_
                              refine hK43 _ _ ?_
                              refine wp_ret ?_
                              exact ret2 Try.results57 M F (rv_cell M F rfl (by repeat (first | exact List.mem_cons_self | apply List.mem_cons_of_mem)) agg_State rfl) (rv_tmp F rfl) (⟨l6, by clear hI M F hK1 hK2 hK3 hK9 hK10 hK15 hK16 hK17 hK18 hK19 hK20 hK22 hK23 hK24 hK25 hK34 hK35 hK36 hK39 hK40 hK41 hK43; simp_all [pApply, pEnd, -UInt8.not_le, -UInt8.not_lt, -UInt32.not_le, -UInt32.not_lt, -Int.not_lt, -Int.not_le, -Nat.not_lt, -Nat.not_le], by clear hI M F hK1 hK2 hK3 hK9 hK10 hK15 hK16 hK17 hK18 hK19 hK20 hK22 hK23 hK24 hK25 hK34 hK35 hK36 hK39 hK40 hK41 hK43; simp_all [pApply, pEnd, -UInt8.not_le, -UInt8.not_lt, -UInt32.not_le, -UInt32.not_lt, -Int.not_lt, -Int.not_le, -Nat.not_lt, -Nat.not_le]⟩)
                · skip
                  refine wp_skip ?_
                  refine hK16 _ _ ?_
                  refine c_seq (fun K44 hK44 => ?_)
                  refine wp_region_lit ?_
                  refine l_step rfl (o_val F (r_load M F rfl (by repeat (first | exact List.mem_cons_self | apply List.mem_cons_of_mem)) agg_State (seg_all rfl)) rfl ?_); clear F a; intro a F
                  refine l_step rfl (o_val F (r_fieldAddr F rfl fld_Diff_3) rfl ?_); clear F a; intro a F
                  refine l_step rfl (o_val F (r_fieldAddr F rfl fld_State_2) rfl ?_); clear F a; intro a F
                  refine l_step rfl (o_val F (r_fieldAddr F rfl fld_Entry_1) rfl ?_); clear F a; intro a F
                  refine l_step rfl (o_val F (r_load1 M F rfl (by repeat (first | exact List.mem_cons_self | apply List.mem_cons_of_mem)) sca_u32 rfl) rfl ?_); clear F a; intro a F
                  refine l_step rfl (o_call M F rfl ((by first | exact c_paddockref6_Tail M.imm hl4 | exact c_paddockref6_Tail M.imm hl)) rfl ?_); clear F a; intro a W39 v39 G39 hp39 M E39 F
                  have hl := hl.mono E39.gl
                  have hl1 := hl1.mono E39.gl
                  have hl2 := hl2.mono E39.gl
                  obtain ⟨l6, rfl, hl6⟩ := hp39
                  refine l_step rfl (o_val F (r_move F rfl) rfl ?_); clear F a; intro a F
                  refine l_step rfl (o_val F (r_extract F rfl rfl) rfl ?_); clear F a; intro a F
                  refine l_step rfl (o_val F (r_extract F rfl rfl) rfl ?_); clear F a; intro a F
                  refine l_step rfl (o_alloc M F zer_State rfl ?_); clear F a; intro a W40 b9 M F
                  refine l_step rfl (o_storeA M F rfl rfl agg_State.size (by repeat (first | exact Upd.here _ _ _ _ _ | apply Upd.there)) (by rfl) (by rfl) (by rfl) ?_); clear F a; intro a W41 M F
                  refine l_step rfl (o_val F (r_assign F rfl) rfl ?_); clear F a; intro a F
                  refine l_nil ?_
                  refine hK44 _ _ ?_
                  refine c_seq (fun K45 hK45 => ?_)
                  refine c_seq (fun K46 hK46 => ?_)
                  refine wp_region_lit ?_
                  refine l_step rfl (o_val F (r_move F rfl) rfl ?_); clear F a; intro a F
                  refine l_step rfl (o_val F (r_neq_i64 F rfl rfl) rfl ?_); clear F a; intro a F
                  refine l_step rfl (o_val F (r_move F rfl) rfl ?_); clear F a; intro a F
                  refine c_split F (i := 101) rfl (fun g101 => ?_) (fun g101 => ?_)
                  · skip
                    iterate 8 (refine l_skip F rfl rfl rfl g101 rfl rfl ?_; clear F a; intro a F)
                    refine l_step rfl (o_val F (r_pick_t F rfl g101 rfl) rfl ?_); clear F a; intro a F
                    refine l_nil ?_
                    refine hK46 _ _ ?_
                    refine c_true F rfl rfl ?_
                    refine c_seq (fun K47 hK47 => ?_)
                    refine wp_region_lit ?_
                    refine l_step rfl (o_val F (r_build F rfl b_State) rfl ?_); clear F a; intro a F
                    refine l_step rfl (o_storeA M F rfl rfl agg_State.size (by repeat (first | exact Upd.here _ _ _ _ _ | apply Upd.there)) (by rfl) (by rfl) (by rfl) ?_); clear F a; intro a W42 M F
                    refine l_step rfl (o_val F (r_assign F rfl) rfl ?_); clear F a; intro a F
                    refine l_nil ?_
                    refine hK47 _ _ ?_
                    refine wp_ret ?_
                    exact ret2 Try.results57 M F (rv_cell M F rfl (by repeat (first | exact List.mem_cons_self | apply List.mem_cons_of_mem)) agg_State rfl) (rv_tmp F rfl) (⟨Sl.nil, by clear hI M F hK1 hK2 hK3 hK9 hK10 hK15 hK16 hK17 hK44 hK45 hK46 hK47; simp_all [pApply, pEnd, PState.zero, -UInt8.not_le, -UInt8.not_lt, -UInt32.not_le, -UInt32.not_lt, -Int.not_lt, -Int.not_le, -Nat.not_lt, -Nat.not_le], by clear hI M F hK1 hK2 hK3 hK9 hK10 hK15 hK16 hK17 hK44 hK45 hK46 hK47; simp_all [pApply, pEnd, PState.zero, -UInt8.not_le, -UInt8.not_lt, -UInt32.not_le, -UInt32.not_lt, -Int.not_lt, -Int.not_le, -Nat.not_lt, -Nat.not_le] <;> exact Ens.nil _⟩)
                  · skip
                    refine l_guard F rfl rfl rfl g101 (o_val F (r_fieldAddr F rfl fld_State_2) rfl ?_); clear F a; intro a F
                    refine l_guard F rfl rfl rfl g101 (o_val F (r_fieldAddr F rfl fld_Entry_0) rfl ?_); clear F a; intro a F
                    refine l_guard F rfl rfl rfl g101 (o_val F (r_load1 M F rfl (by repeat (first | exact List.mem_cons_self | apply List.mem_cons_of_mem)) sca_u32 rfl) rfl ?_); clear F a; intro a F
                    refine l_guard F rfl rfl rfl g101 (o_val F (r_fieldAddr F rfl fld_Diff_3) rfl ?_); clear F a; intro a F
                    refine l_guard F rfl rfl rfl g101 (o_val F (r_fieldAddr F rfl fld_State_2) rfl ?_); clear F a; intro a F
                    refine l_guard F rfl rfl rfl g101 (o_val F (r_fieldAddr F rfl fld_Entry_0) rfl ?_); clear F a; intro a F
                    refine l_guard F rfl rfl rfl g101 (o_val F (r_load1 M F rfl (by repeat (first | exact List.mem_cons_self | apply List.mem_cons_of_mem)) sca_u32 rfl) rfl ?_); clear F a; intro a F
                    refine l_guard F rfl rfl rfl g101 (o_val F (r_neq_u32 F rfl rfl) rfl ?_); clear F a; intro a F
                    refine l_step rfl (o_val F (r_pick_f F rfl g101 rfl) rfl ?_); clear F a; intro a F
                    refine l_nil ?_
                    refine hK46 _ _ ?_
                    refine c_cond F rfl (fun g110 => ?_) (fun g110 => ?_)
                    · skip
                      refine c_seq (fun K48 hK48 => ?_)
                      refine wp_region_lit ?_
                      refine l_step rfl (o_val F (r_build F rfl b_State) rfl ?_); clear F a; intro a F
                      refine l_step rfl (o_storeA M F rfl rfl agg_State.size (by repeat (first | exact Upd.here _ _ _ _ _ | apply Upd.there)) (by rfl) (by rfl) (by rfl) ?_); clear F a; intro a W43 M F
                      refine l_step rfl (o_val F (r_assign F rfl) rfl ?_); clear F a; intro a F
                      refine l_nil ?_
                      refine hK48 _ _ ?_
                      refine wp_ret ?_
                      exact ret2 Try.results57 M F (rv_cell M F rfl (by repeat (first | exact List.mem_cons_self | apply List.mem_cons_of_mem)) agg_State rfl) (rv_tmp F rfl) (⟨Sl.nil, by clear hI M F hK1 hK2 hK3 hK9 hK10 hK15 hK16 hK17 hK44 hK45 hK46 hK48; simp_all [pApply, pEnd, PState.zero, -UInt8.not_le, -UInt8.not_lt, -UInt32.not_le, -UInt32.not_lt, -Int.not_lt, -Int.not_le, -Nat.not_lt, -Nat.not_le], by clear hI M F hK1 hK2 hK3 hK9 hK10 hK15 hK16 hK17 hK44 hK45 hK46 hK48; simp_all [pApply, pEnd, PState.zero, -UInt8.not_le, -UInt8.not_lt, -UInt32.not_le, -UInt32.not_lt, -Int.not_lt, -Int.not_le, -Nat.not_lt, -Nat.not_le] <;> exact Ens.nil _⟩)
                    · skip
                      refine wp_skip ?_
                      refine hK45 _ _ ?_
                      refine c_seq (fun K49 hK49 => ?_)
                      refine wp_region_lit ?_
                      refine l_step rfl (o_val F (r_fieldAddr F rfl fld_Diff_3) rfl ?_); clear F a; intro a F
                      refine l_step rfl (o_val F (r_fieldAddr F rfl fld_State_0) rfl ?_); clear F a; intro a F
                      refine l_step rfl (o_val F (r_load1 M F rfl (by repeat (first | exact List.mem_cons_self | apply List.mem_cons_of_mem)) sca_u32 rfl) rfl ?_); clear F a; intro a F
                      refine l_step rfl (o_val F (r_fieldAddr F rfl fld_State_0) rfl ?_); clear F a; intro a F
                      refine l_step rfl (o_store1 M F rfl rfl sca_u32 rfl rfl p_State_0 (by repeat (first | exact Upd.here _ _ _ _ _ | apply Upd.there)) ?_); clear F a; intro a W44 M F
                      refine l_nil ?_
                      refine hK49 _ _ ?_
                      refine c_seq (fun K50 hK50 => ?_)
                      refine c_seq (fun K51 hK51 => ?_)
                      refine wp_region_lit ?_
                      refine l_step rfl (o_val F (r_load M F rfl (by repeat (first | exact List.mem_cons_self | apply List.mem_cons_of_mem)) agg_State (seg_all rfl)) rfl ?_); clear F a; intro a F
                      refine l_step rfl (o_call M F rfl (c_paddockref6_Is (s := { (pTail _ d.whole.tail.n).1 with started := d.whole.started }) M.imm hl6) rfl ?_); clear F a; intro a W45 v45 G45 hp45 M E45 F
                      have hl := hl.mono E45.gl
                      have hl1 := hl1.mono E45.gl
                      have hl2 := hl2.mono E45.gl
                      have hl6 := hl6.mono E45.gl
                      subst hp45
                      refine l_step rfl (o_val F (r_not F rfl) rfl ?_); clear F a; intro a F
                      refine l_nil ?_
                      refine hK51 _ _ ?_
                      refine c_cond F rfl (fun g118 => ?_) (fun g118 => ?_)
                      · skip
                        refine c_seq (fun K52 hK52 => ?_)
                        refine wp_region_lit ?_
                        refine l_step rfl (o_val F (r_build F rfl b_State) rfl ?_); clear F a; intro a F
                        refine l_step rfl (o_storeA M F rfl rfl agg_State.size (by repeat (first | exact Upd.here _ _ _ _ _ | apply Upd.there)) (by rfl) (by rfl) (by rfl) ?_); clear F a; intro a W46 M F
                        refine l_step rfl (o_val F (r_assign F rfl) rfl ?_); clear F a; intro a F
                        refine l_nil ?_
                        refine hK52 _ _ ?_
                        refine wp_ret ?_
                        exact ret2 Try.results57 M F (rv_cell M F rfl (by repeat (first | exact List.mem_cons_self | apply List.mem_cons_of_mem)) agg_State rfl) (rv_tmp F rfl) (⟨Sl.nil, by clear hI M F hK1 hK2 hK3 hK9 hK10 hK15 hK16 hK17 hK44 hK45 hK46 hK49 hK50 hK51 hK52; simp_all [pApply, pEnd, PState.zero, -UInt8.not_le, -UInt8.not_lt, -UInt32.not_le, -UInt32.not_lt, -Int.not_lt, -Int.not_le, -Nat.not_lt, -Nat.not_le], by clear hI M F hK1 hK2 hK3 hK9 hK10 hK15 hK16 hK17 hK44 hK45 hK46 hK49 hK50 hK51 hK52; simp_all [pApply, pEnd, PState.zero, -UInt8.not_le, -UInt8.not_lt, -UInt32.not_le, -UInt32.not_lt, -Int.not_lt, -Int.not_le, -Nat.not_lt, -Nat.not_le] <;> exact Ens.nil _⟩)
                      · skip
                        refine wp_skip ?_
                        refine hK50 _ _ ?_
                        refine c_seq (fun K53 hK53 => ?_)
                        refine wp_region_lit ?_
                        refine l_step rfl (o_val F (r_load M F rfl (by repeat (first | exact List.mem_cons_self | apply List.mem_cons_of_mem)) agg_State (seg_all rfl)) rfl ?_); clear F a; intro a F
                        refine l_step rfl (o_storeA M F rfl rfl agg_State.size (by repeat (first | exact Upd.here _ _ _ _ _ | apply Upd.there)) (by rfl) (by rfl) (by rfl) ?_); clear F a; intro a W47 M F
                        refine l_step rfl (o_val F (r_assign F rfl) rfl ?_); clear F a; intro a F
                        refine l_nil ?_
                        refine hK53 _ _ ?_
                        refine wp_ret ?_
                        exact ret2 Try.results57 M F (rv_cell M F rfl (by repeat (first | exact List.mem_cons_self | apply List.mem_cons_of_mem)) agg_State rfl) (rv_tmp F rfl) (⟨l6, by clear hI M F hK1 hK2 hK3 hK9 hK10 hK15 hK16 hK17 hK44 hK45 hK46 hK49 hK50 hK51 hK53; simp_all [pApply, pEnd, -UInt8.not_le, -UInt8.not_lt, -UInt32.not_le, -UInt32.not_lt, -Int.not_lt, -Int.not_le, -Nat.not_lt, -Nat.not_le], by clear hI M F hK1 hK2 hK3 hK9 hK10 hK15 hK16 hK17 hK44 hK45 hK46 hK49 hK50 hK51 hK53; simp_all [pApply, pEnd, -UInt8.not_le, -UInt8.not_lt, -UInt32.not_le, -UInt32.not_lt, -Int.not_lt, -Int.not_le, -Nat.not_lt, -Nat.not_le]⟩)
        · skip
          iterate 5 (refine l_skip F rfl rfl rfl g31 rfl rfl ?_; clear F a; intro a F)
          iterate 3 (refine l_skipu F rfl rfl rfl rfl rfl ?_; clear F a; intro a F)
          iterate 1 (refine l_skip F rfl rfl rfl g31 rfl rfl ?_; clear F a; intro a F)
          refine l_guard F rfl rfl rfl g27 (o_val F (r_pick_f F rfl g31 rfl) rfl ?_); clear F a; intro a F
          refine l_step rfl (o_val F (r_pick_f F rfl g27 rfl) rfl ?_); clear F a; intro a F
          refine l_nil ?_
          refine hK3 _ _ ?_
          refine c_false F rfl rfl ?_
          refine wp_skip ?_
          refine hK2 _ _ ?_
          refine c_seq (fun K54 hK54 => ?_)
          refine c_seq (fun K55 hK55 => ?_)
          refine wp_region_lit ?_
          refine l_step rfl (o_val F (r_fieldAddr F rfl fld_Diff_0) rfl ?_); clear F a; intro a F
          refine l_step rfl (o_val F (r_load1 M F rfl (by repeat (first | exact List.mem_cons_self | apply List.mem_cons_of_mem)) sca_int rfl) rfl ?_); clear F a; intro a F
          refine l_step rfl (o_val F (r_eql_i64 F rfl rfl) rfl ?_); clear F a; intro a F
          refine l_nil ?_
          refine hK55 _ _ ?_
          refine c_cond F rfl (fun g46 => ?_) (fun g46 => ?_)
          · skip
            refine c_seq (fun K56 hK56 => ?_)
            refine c_seq (fun K57 hK57 => ?_)
            refine wp_region_lit ?_
            refine l_step rfl (o_val F (r_fieldAddr F rfl fld_Diff_3) rfl ?_); clear F a; intro a F
            refine l_step rfl (o_val F (r_load M F rfl (by repeat (first | exact List.mem_cons_self | apply List.mem_cons_of_mem)) agg_State g_Diff_3) rfl ?_); clear F a; intro a F
            refine l_step rfl (o_call M F rfl (c_paddockref6_Is M.imm hl2) rfl ?_); clear F a; intro a W48 v48 G48 hp48 M E48 F
            have hl := hl.mono E48.gl
            have hl1 := hl1.mono E48.gl
            have hl2 := hl2.mono E48.gl
            subst hp48
            refine l_step rfl (o_val F (r_not F rfl) rfl ?_); clear F a; intro a F
            refine l_nil ?_
            refine hK57 _ _ ?_
            refine c_cond F rfl (fun g50 => ?_) (fun g50 => ?_)
            · skip
              refine c_seq (fun K58 hK58 => ?_)
              refine wp_region_lit ?_
              refine l_step rfl (o_val F (r_build F rfl b_State) rfl ?_); clear F a; intro a F
              refine l_step rfl (o_storeA M F rfl rfl agg_State.size (by repeat (first | exact Upd.here _ _ _ _ _ | apply Upd.there)) (by rfl) (by rfl) (by rfl) ?_); clear F a; intro a W49 M F
              refine l_step rfl (o_val F (r_assign F rfl) rfl ?_); clear F a; intro a F
              refine l_nil ?_
              refine hK58 _ _ ?_
              refine wp_ret ?_
              exact ret2 Try.results57 M F (rv_cell M F rfl (by repeat (first | exact List.mem_cons_self | apply List.mem_cons_of_mem)) agg_State rfl) (rv_tmp F rfl) (⟨Sl.nil, by clear hI M F hK1 hK2 hK3 hK54 hK55 hK56 hK57 hK58; simp_all [pApply, pEnd, PState.zero, -UInt8.not_le, -UInt8.not_lt, -UInt32.not_le, -UInt32.not_lt, -Int.not_lt, -Int.not_le, -Nat.not_lt, -Nat.not_le], by clear hI M F hK1 hK2 hK3 hK54 hK55 hK56 hK57 hK58; simp_all [pApply, pEnd, PState.zero, -UInt8.not_le, -UInt8.not_lt, -UInt32.not_le, -UInt32.not_lt, -Int.not_lt, -Int.not_le, -Nat.not_lt, -Nat.not_le] <;> exact Ens.nil _⟩)
            · skip
              refine wp_skip ?_
              refine hK56 _ _ ?_
              refine c_seq (fun K59 hK59 => ?_)
              refine wp_region_lit ?_
              refine l_step rfl (o_val F (r_fieldAddr F rfl fld_Diff_3) rfl ?_); clear F a; intro a F
              refine l_step rfl (o_val F (r_load M F rfl (by repeat (first | exact List.mem_cons_self | apply List.mem_cons_of_mem)) agg_State g_Diff_3) rfl ?_); clear F a; intro a F
              refine l_step rfl (o_storeA M F rfl rfl agg_State.size (by repeat (first | exact Upd.here _ _ _ _ _ | apply Upd.there)) (by rfl) (by rfl) (by rfl) ?_); clear F a; intro a W50 M F
              refine l_step rfl (o_val F (r_assign F rfl) rfl ?_); clear F a; intro a F
              refine l_nil ?_
              refine hK59 _ _ ?_
              refine wp_ret ?_
              exact ret2 Try.results57 M F (rv_cell M F rfl (by repeat (first | exact List.mem_cons_self | apply List.mem_cons_of_mem)) agg_State rfl) (rv_tmp F rfl) (⟨l2, by clear hI M F hK1 hK2 hK3 hK54 hK55 hK56 hK57 hK59; simp_all [pApply, -UInt8.not_le, -UInt8.not_lt, -UInt32.not_le, -UInt32.not_lt, -Int.not_lt, -Int.not_le, -Nat.not_lt, -Nat.not_le], by clear hI M F hK1 hK2 hK3 hK54 hK55 hK56 hK57 hK59; simp_all [pApply, -UInt8.not_le, -UInt8.not_lt, -UInt32.not_le, -UInt32.not_lt, -Int.not_lt, -Int.not_le, -Nat.not_lt, -Nat.not_le]⟩)
          · skip
            refine wp_skip ?_
            refine hK54 _ _ ?_
            refine c_seq (fun K60 hK60 => ?_)
            refine wp_region_lit ?_
            refine l_step rfl (o_val F (r_load M F rfl (by repeat (first | exact List.mem_cons_self | apply List.mem_cons_of_mem)) agg_State (seg_all rfl)) rfl ?_); clear F a; intro a F
            refine l_step rfl (o_alloc M F zer_State rfl ?_); clear F a; intro a W51 b10 M F
            refine l_step rfl (o_storeA M F rfl rfl agg_State.size (by repeat (first | exact Upd.here _ _ _ _ _ | apply Upd.there)) (by rfl) (by rfl) (by rfl) ?_); clear F a; intro a W52 M F
            refine l_nil ?_
            refine hK60 _ _ ?_
            refine c_seq (fun K61 hK61 => ?_)
            refine c_seq (fun K62 hK62 => ?_)
            refine wp_region_lit ?_
            refine l_step rfl (o_val F (r_fieldAddr F rfl fld_Diff_0) rfl ?_); clear F a; intro a F
            refine l_step rfl (o_val F (r_load1 M F rfl (by repeat (first | exact List.mem_cons_self | apply List.mem_cons_of_mem)) sca_int rfl) rfl ?_); clear F a; intro a F
            refine l_step rfl (o_val F (r_eql_i64 F rfl rfl) rfl ?_); clear F a; intro a F
            refine l_nil ?_
            refine hK62 _ _ ?_
            refine c_cond F rfl (fun g57 => ?_) (fun g57 => ?_)
            · skip
              refine c_seq (fun K63 hK63 => ?_)
              refine wp_region_lit ?_
              refine l_step rfl (o_val F (r_load M F rfl (by repeat (first | exact List.mem_cons_self | apply List.mem_cons_of_mem)) agg_State (seg_all rfl)) rfl ?_); clear F a; intro a F
              refine l_step rfl (o_val F (r_fieldAddr F rfl fld_Diff_1) rfl ?_); clear F a; intro a F
              refine l_step rfl (o_val F (r_load1 M F rfl (by repeat (first | exact List.mem_cons_self | apply List.mem_cons_of_mem)) sca_u32 rfl) rfl ?_); clear F a; intro a F
              refine l_step rfl (o_call M F rfl (c_paddockref6_Cut M.imm hl) rfl ?_); clear F a; intro a W53 v53 G53 hp53 M E53 F
              have hl := hl.mono E53.gl
              have hl1 := hl1.mono E53.gl
              have hl2 := hl2.mono E53.gl
              obtain ⟨l3, rfl, hl3⟩ := hp53
              refine l_step rfl (o_val F (r_move F rfl) rfl ?_); clear F a; intro a F
              refine l_step rfl (o_val F (r_extract F rfl rfl) rfl ?_); clear F a; intro a F
              refine l_step rfl (o_val F (r_extract F rfl rfl) rfl ?_); clear F a; intro a F
              refine l_step rfl (o_alloc M F zer_State rfl ?_); clear F a; intro a W54 b11 M F
              refine l_step rfl (o_storeA M F rfl rfl agg_State.size (by repeat (first | exact Upd.here _ _ _ _ _ | apply Upd.there)) (by rfl) (by rfl) (by rfl) ?_); clear F a; intro a W55 M F
              refine l_step rfl (o_val F (r_assign F rfl) rfl ?_); clear F a; intro a F
              refine l_nil ?_
              refine hK63 _ _ ?_
              refine c_seq (fun K64 hK64 => ?_)
              refine c_seq (fun K65 hK65 => ?_)
              refine wp_region_lit ?_
              refine l_step rfl (o_val F (r_move F rfl) rfl ?_); clear F a; intro a F
              refine l_step rfl (o_val F (r_neq_i64 F rfl rfl) rfl ?_); clear F a; intro a F
              refine l_nil ?_
              refine hK65 _ _ ?_
              refine c_cond F rfl (fun g66 => ?_) (fun g66 => ?_)
              · skip
                refine c_seq (fun K66 hK66 => ?_)
                refine wp_region_lit ?_
                refine l_step rfl (o_val F (r_build F rfl b_State) rfl ?_); clear F a; intro a F
                refine l_step rfl (o_storeA M F rfl rfl agg_State.size (by repeat (first | exact Upd.here _ _ _ _ _ | apply Upd.there)) (by rfl) (by rfl) (by rfl) ?_); clear F a; intro a W56 M F
                refine l_step rfl (o_val F (r_assign F rfl) rfl ?_); clear F a; intro a F
                refine l_nil ?_
                refine hK66 _ _ ?_
                refine wp_ret ?_
                exact ret2 Try.results57 M F (rv_cell M F rfl (by repeat (first | exact List.mem_cons_self | apply List.mem_cons_of_mem)) agg_State rfl) (rv_tmp F rfl) (⟨Sl.nil, by clear hI M F hK1 hK2 hK3 hK54 hK55 hK60 hK61 hK62 hK63 hK64 hK65 hK66; simp_all [pApply, pEnd, PState.zero, -UInt8.not_le, -UInt8.not_lt, -UInt32.not_le, -UInt32.not_lt, -Int.not_lt, -Int.not_le, -Nat.not_lt, -Nat.not_le], by clear hI M F hK1 hK2 hK3 hK54 hK55 hK60 hK61 hK62 hK63 hK64 hK65 hK66; simp_all [pApply, pEnd, PState.zero, -UInt8.not_le, -UInt8.not_lt, -UInt32.not_le, -UInt32.not_lt, -Int.not_lt, -Int.not_le, -Nat.not_lt, -Nat.not_le] <;> exact Ens.nil _⟩)
              · skip
                refine wp_skip ?_
                refine hK64 _ _ ?_
                refine c_seq (fun K67 hK67 => ?_)
                refine wp_region_lit ?_
                refine l_step rfl (o_val F (r_load M F rfl (by repeat (first | exact List.mem_cons_self | apply List.mem_cons_of_mem)) agg_State (seg_all rfl)) rfl ?_); clear F a; intro a F
                refine l_step rfl (o_storeA M F rfl rfl agg_State.size (by repeat (first | exact Upd.here _ _ _ _ _ | apply Upd.there)) (by rfl) (by rfl) (by rfl) ?_); clear F a; intro a W57 M F
                refine l_nil ?_
                refine hK67 _ _ ?_
                refine c_seq (fun K68 hK68 => ?_)
                refine wp_region_lit ?_
                refine l_step rfl (o_val F (r_assign F rfl) rfl ?_); clear F a; intro a F
                refine l_nil ?_
                refine hK68 _ _ ?_
                refine wp_block ?_
                refine c_loop (fun k a W => ∃ (i : Nat) (G : Ghost) (u : PState) (l4 : Sl), k = d.log.length - i ∧ i ≤ d.log.length ∧ Frm 121 [(9, .int .i64 (i : Int)), (6, .pointer (some ⟨b10, 0, none⟩)), (4, .pointer (some ⟨b3, 0, none⟩)), (3, .pointer (some ⟨b2, 0, none⟩))] a ∧ St [] w G0 W [⟨b10, 42, (u.at l4).enc⟩, ⟨b3, 42, GState.enc ⟨0, PBase.zero, PEntry.zero, Sl.nil⟩⟩, ⟨b2, 94, (d.at l1 l2).enc⟩] G ∧ (pAdded (pCut s d.from_).1 d.log = pAdded u (d.log.drop i) ∧ Ens G l4 u.log)) (d.log.length) ?_ ?_
                · exact ⟨0, _, _, l3, rfl, Nat.zero_le _, (F.cons (F.cons (F.cons (F.cons F.nil 3 rfl) 4 rfl) 6 rfl) 9 rfl), (M.drop (by repeat (first | exact List.Sublist.refl _ | apply List.Sublist.cons_cons | apply List.Sublist.cons))), ⟨rfl, hl3⟩⟩
                · clear F M a; intro k a W hI; obtain ⟨i, G, u, l4, hk, hi, F, M, hf⟩ := hI
                  obtain ⟨hf, hl4⟩ := hf
                  refine c_seq (fun K69 hK69 => ?_)
                  refine c_seq (fun K70 hK70 => ?_)
                  refine wp_region_lit ?_
                  refine l_step rfl (o_val F (r_move F rfl) rfl ?_); clear F a; intro a F
                  refine l_step rfl (o_val F (r_fieldAddr F rfl fld_Diff_2) rfl ?_); clear F a; intro a F
                  refine l_step rfl (o_val F (r_load1 M F rfl (by repeat (first | exact List.mem_cons_self | apply List.mem_cons_of_mem)) sca_Entries rfl) rfl ?_); clear F a; intro a F
                  refine l_step rfl (o_val F (r_len_slice F slc_Entries.und rfl) rfl ?_); clear F a; intro a F
                  refine l_step rfl (o_val F (r_lss_i64 F rfl rfl) rfl ?_); clear F a; intro a F
                  refine l_nil ?_
                  refine hK70 _ _ ?_
                  refine c_cond F rfl (fun g73 => ?_) (fun g73 => ?_)
                  · skip
                    have hlt : i < d.log.length := by have h := of_decide_eq_true g73; omega
                    obtain ⟨x, hx⟩ := get_of hlt
                    rw [drop_of hx, pAdded] at hf
                    have hl10 := hlz.mono M.gl
                    refine wp_skip ?_
                    refine hK69 _ _ ?_
                    refine c_seq (fun K71 hK71 => ?_)
                    refine wp_block ?_
                    refine c_seq (fun K72 hK72 => ?_)
                    refine c_drawM M [] mixed (fun M => ?_)
                    have Ms := M
                    have hq2 := Keeps.here M
                    have hle2 := M.gle
                    obtain ⟨eb, eo, er, ha81, hG81, hS81⟩ := hl10.elem hx
                    refine t_take (i := 0) F rfl rfl hq2 (fun _ ⟨_, _, M'⟩ => r_load M' F rfl (by repeat (first | exact List.mem_cons_self | apply List.mem_cons_of_mem)) agg_State (seg_all rfl)) (fun _ _ _ h => h) (by kernel_rfl) (by kernel_rfl) (by kernel_rfl) (by kernel_rfl) ?_; clear F a; intro a F
                    refine t_take (i := 1) F rfl rfl hq2 (fun _ _ => r_fieldAddr F rfl fld_Diff_2) (fun _ _ _ h => h) (by kernel_rfl) (by kernel_rfl) (by kernel_rfl) (by kernel_rfl) ?_; clear F a; intro a F
                    refine t_take (i := 2) F rfl rfl hq2 (fun _ ⟨_, _, M'⟩ => r_load1 M' F rfl (by repeat (first | exact List.mem_cons_self | apply List.mem_cons_of_mem)) sca_Entries rfl) (fun _ _ _ h => h) (by kernel_rfl) (by kernel_rfl) (by kernel_rfl) (by kernel_rfl) ?_; clear F a; intro a F
                    refine t_take (i := 3) F rfl rfl hq2 (fun _ _ => r_move F rfl) (fun _ _ _ h => h) (by kernel_rfl) (by kernel_rfl) (by kernel_rfl) (by kernel_rfl) ?_; clear F a; intro a F
                    refine t_take (i := 4) F rfl rfl hq2 (fun _ _ => r_indexSl F rfl rfl slc_Entries ha81 (by omega) (by omega)) (fun _ _ _ h => h) (by kernel_rfl) (by kernel_rfl) (by kernel_rfl) (by kernel_rfl) ?_; clear F a; intro a F
                    refine t_take (i := 5) F rfl rfl hq2 (fun _ ⟨_, hg, M'⟩ => r_loadrG hg M' F rfl hG81 agg_Entry hS81) (fun _ _ _ h => h) (by kernel_rfl) (by kernel_rfl) (by kernel_rfl) (by kernel_rfl) ?_; clear F a; intro a F
                    refine t_rdy2 (i := 6) (j := 10) (by kernel_rfl) (w_plain rfl rfl ?_) (w_plain rfl rfl ?_)
                    · skip
                      refine id (o_call M F rfl (c_paddockref6_Add M.imm hl4) rfl ?_); clear F a; intro a W58 v58 G58 hp58 M E58 F
                      have hl4 := hl4.mono E58.gl
                      obtain ⟨l5, rfl, hl5⟩ := hp58
                      have hle2 := hle2.trans E58.gl
                      refine keepAnd (Keeps.mk hle2 M (by repeat (first | exact List.Sublist.refl _ | apply List.Sublist.cons_cons | apply List.Sublist.cons))) (fun hq2 => ?_)
                      refine t_take (i := 7) F rfl rfl hq2 (fun _ _ => r_move F rfl) (fun _ _ _ h => h) (by kernel_rfl) (by kernel_rfl) (by kernel_rfl) (by kernel_rfl) ?_; clear F a; intro a F
                      refine t_take (i := 8) F rfl rfl hq2 (fun _ _ => r_extract F rfl rfl) (fun _ _ _ h => h) (by kernel_rfl) (by kernel_rfl) (by kernel_rfl) (by kernel_rfl) ?_; clear F a; intro a F
                      refine t_take (i := 9) F rfl rfl hq2 (fun _ _ => r_extract F rfl rfl) (fun _ _ _ h => h) (by kernel_rfl) (by kernel_rfl) (by kernel_rfl) (by kernel_rfl) ?_; clear F a; intro a F
                      refine t_one (i := 10) (by kernel_rfl) rfl rfl (o_alloc M F zer_State rfl ?_); clear F a; intro a W59 b12 M F
                      refine keepAnd (Keeps.mk hle2 M (by repeat (first | exact List.Sublist.refl _ | apply List.Sublist.cons_cons | apply List.Sublist.cons))) (fun hq2 => ?_)
                      refine t_one (i := 11) (by kernel_rfl) rfl rfl (o_storeA M F rfl rfl agg_State.size (by repeat (first | exact Upd.here _ _ _ _ _ | apply Upd.there)) (by rfl) (by rfl) (by rfl) ?_); clear F a; intro a W60 M F
                      refine keepAnd (Keeps.mk hle2 M (by repeat (first | exact List.Sublist.refl _ | apply List.Sublist.cons_cons | apply List.Sublist.cons))) (fun hq2 => ?_)
                      refine t_take (i := 12) F rfl rfl hq2 (fun _ _ => r_assign F rfl) (fun _ _ _ h => h) (by kernel_rfl) (by kernel_rfl) (by kernel_rfl) (by kernel_rfl) ?_; clear F a; intro a F
                      refine t_done (by kernel_rfl) ?_ _
                      refine hK72 _ _ ?_
                      refine c_seq (fun K73 hK73 => ?_)
                      refine c_seq (fun K74 hK74 => ?_)
                      refine wp_region_lit ?_
                      refine l_step rfl (o_val F (r_move F rfl) rfl ?_); clear F a; intro a F
                      refine l_step rfl (o_val F (r_not F rfl) rfl ?_); clear F a; intro a F
                      refine l_nil ?_
                      refine hK74 _ _ ?_
                      refine c_cond F rfl (fun g87 => ?_) (fun g87 => ?_)
                      · skip
                        refine c_seq (fun K75 hK75 => ?_)
                        refine wp_region_lit ?_
                        refine l_step rfl (o_val F (r_build F rfl b_State) rfl ?_); clear F a; intro a F
                        refine l_step rfl (o_storeA M F rfl rfl agg_State.size (by repeat (first | exact Upd.here _ _ _ _ _ | apply Upd.there)) (by rfl) (by rfl) (by rfl) ?_); clear F a; intro a W61 M F
                        refine l_step rfl (o_val F (r_assign F rfl) rfl ?_); clear F a; intro a F
                        refine l_nil ?_
                        refine hK75 _ _ ?_
                        refine wp_ret ?_
                        exact ret2 Try.results57 M F (rv_cell M F rfl (by repeat (first | exact List.mem_cons_self | apply List.mem_cons_of_mem)) agg_State rfl) (rv_tmp F rfl) (⟨Sl.nil, by clear hI M F hK1 hK2 hK3 hK54 hK55 hK60 hK61 hK62 hK63 hK64 hK65 hK67 hK68 hK69 hK70 hK71 hK72 hK73 hK74 hK75; simp_all [pApply, pEnd, PState.zero, -UInt8.not_le, -UInt8.not_lt, -UInt32.not_le, -UInt32.not_lt, -Int.not_lt, -Int.not_le, -Nat.not_lt, -Nat.not_le], by clear hI M F hK1 hK2 hK3 hK54 hK55 hK60 hK61 hK62 hK63 hK64 hK65 hK67 hK68 hK69 hK70 hK71 hK72 hK73 hK74 hK75; simp_all [pApply, pEnd, PState.zero, -UInt8.not_le, -UInt8.not_lt, -UInt32.not_le, -UInt32.not_lt, -Int.not_lt, -Int.not_le, -Nat.not_lt, -Nat.not_le] <;> exact Ens.nil _⟩)
                      · skip
                        refine wp_skip ?_
                        refine hK73 _ _ ?_
                        refine wp_region_lit ?_
                        refine l_step rfl (o_val F (r_load M F rfl (by repeat (first | exact List.mem_cons_self | apply List.mem_cons_of_mem)) agg_State (seg_all rfl)) rfl ?_); clear F a; intro a F
                        refine l_step rfl (o_storeA M F rfl rfl agg_State.size (by repeat (first | exact Upd.here _ _ _ _ _ | apply Upd.there)) (by rfl) (by rfl) (by rfl) ?_); clear F a; intro a W62 M F
                        refine l_nil ?_
                        refine hK71 _ _ ?_
                        refine wp_region_lit ?_
                        refine l_step rfl (o_val F (r_move F rfl) rfl ?_); clear F a; intro a F
                        refine l_step rfl (o_val F (r_add_i64 F rfl rfl (by omega)) rfl ?_); clear F a; intro a F
                        refine l_step rfl (o_val F (r_assign F rfl) rfl ?_); clear F a; intro a F
                        refine l_nil ?_
                        exact ⟨d.log.length - (i + 1), by omega, i + 1, _, _, l5, rfl, by omega, (F.cons (F.cons (F.cons (F.cons F.nil 3 rfl) 4 rfl) 6 rfl) 9 rfl), M.drop (by repeat (first | exact List.Sublist.refl _ | apply List.Sublist.cons_cons | apply List.Sublist.cons)), ⟨(by rw [hf, if_neg]; simpa using g87), hl5⟩⟩
                    · skip
                      refine id (o_alloc M F zer_State rfl ?_); clear F a; intro a W63 b13 M F
                      refine keepAnd (Keeps.mk hle2 M (by repeat (first | exact List.Sublist.refl _ | apply List.Sublist.cons_cons | apply List.Sublist.cons))) (fun hq2 => ?_)
                      refine t_one (i := 6) (by kernel_rfl) rfl rfl (o_call M F rfl (c_paddockref6_Add M.imm hl4) rfl ?_); clear F a; intro a W64 v64 G64 hp64 M E64 F
                      have hl4 := hl4.mono E64.gl
                      obtain ⟨l5, rfl, hl5⟩ := hp64
                      have hle2 := hle2.trans E64.gl
                      refine keepAnd (Keeps.mk hle2 M (by repeat (first | exact List.Sublist.refl _ | apply List.Sublist.cons_cons | apply List.Sublist.cons))) (fun hq2 => ?_)
                      refine t_take (i := 7) F rfl rfl hq2 (fun _ _ => r_move F rfl) (fun _ _ _ h => h) (by kernel_rfl) (by kernel_rfl) (by kernel_rfl) (by kernel_rfl) ?_; clear F a; intro a F
                      refine t_take (i := 8) F rfl rfl hq2 (fun _ _ => r_extract F rfl rfl) (fun _ _ _ h => h) (by kernel_rfl) (by kernel_rfl) (by kernel_rfl) (by kernel_rfl) ?_; clear F a; intro a F
                      refine t_take (i := 9) F rfl rfl hq2 (fun _ _ => r_extract F rfl rfl) (fun _ _ _ h => h) (by kernel_rfl) (by kernel_rfl) (by kernel_rfl) (by kernel_rfl) ?_; clear F a; intro a F
                      refine t_one (i := 11) (by kernel_rfl) rfl rfl (o_storeA M F rfl rfl agg_State.size (by repeat (first | exact Upd.here _ _ _ _ _ | apply Upd.there)) (by rfl) (by rfl) (by rfl) ?_); clear F a; intro a W65 M F
                      refine keepAnd (Keeps.mk hle2 M (by repeat (first | exact List.Sublist.refl _ | apply List.Sublist.cons_cons | apply List.Sublist.cons))) (fun hq2 => ?_)
                      refine t_take (i := 12) F rfl rfl hq2 (fun _ _ => r_assign F rfl) (fun _ _ _ h => h) (by kernel_rfl) (by kernel_rfl) (by kernel_rfl) (by kernel_rfl) ?_; clear F a; intro a F
                      refine t_done (by kernel_rfl) ?_ _
                      refine hK72 _ _ ?_
                      refine c_seq (fun K76 hK76 => ?_)
                      refine c_seq (fun K77 hK77 => ?_)
                      refine wp_region_lit ?_
                      refine l_step rfl (o_val F (r_move F rfl) rfl ?_); clear F a; intro a F
                      refine l_step rfl (o_val F (r_not F rfl) rfl ?_); clear F a; intro a F
                      refine l_nil ?_
                      refine hK77 _ _ ?_
                      refine c_cond F rfl (fun g87 => ?_) (fun g87 => ?_)
                      · skip
                        refine c_seq (fun K78 hK78 => ?_)
                        refine wp_region_lit ?_
                        refine l_step rfl (o_val F (r_build F rfl b_State) rfl ?_); clear F a; intro a F
                        refine l_step rfl (o_storeA M F rfl rfl agg_State.size (by repeat (first | exact Upd.here _ _ _ _ _ | apply Upd.there)) (by rfl) (by rfl) (by rfl) ?_); clear F a; intro a W66 M F
                        refine l_step rfl (o_val F (r_assign F rfl) rfl ?_); clear F a; intro a F
                        refine l_nil ?_
                        refine hK78 _ _ ?_
                        refine wp_ret ?_
                        exact ret2 Try.results57 M F (rv_cell M F rfl (by repeat (first | exact List.mem_cons_self | apply List.mem_cons_of_mem)) agg_State rfl) (rv_tmp F rfl) (⟨Sl.nil, by clear hI M F hK1 hK2 hK3 hK54 hK55 hK60 hK61 hK62 hK63 hK64 hK65 hK67 hK68 hK69 hK70 hK71 hK72 hK76 hK77 hK78; simp_all [pApply, pEnd, PState.zero, -UInt8.not_le, -UInt8.not_lt, -UInt32.not_le, -UInt32.not_lt, -Int.not_lt, -Int.not_le, -Nat.not_lt, -Nat.not_le], by clear hI M F hK1 hK2 hK3 hK54 hK55 hK60 hK61 hK62 hK63 hK64 hK65 hK67 hK68 hK69 hK70 hK71 hK72 hK76 hK77 hK78; simp_all [pApply, pEnd, PState.zero, -UInt8.not_le, -UInt8.not_lt, -UInt32.not_le, -UInt32.not_lt, -Int.not_lt, -Int.not_le, -Nat.not_lt, -Nat.not_le] <;> exact Ens.nil _⟩)
                      · skip
                        refine wp_skip ?_
                        refine hK76 _ _ ?_
                        refine wp_region_lit ?_
                        refine l_step rfl (o_val F (r_load M F rfl (by repeat (first | exact List.mem_cons_self | apply List.mem_cons_of_mem)) agg_State (seg_all rfl)) rfl ?_); clear F a; intro a F
                        refine l_step rfl (o_storeA M F rfl rfl agg_State.size (by repeat (first | exact Upd.here _ _ _ _ _ | apply Upd.there)) (by rfl) (by rfl) (by rfl) ?_); clear F a; intro a W67 M F
                        refine l_nil ?_
                        refine hK71 _ _ ?_
                        refine wp_region_lit ?_
                        refine l_step rfl (o_val F (r_move F rfl) rfl ?_); clear F a; intro a F
                        refine l_step rfl (o_val F (r_add_i64 F rfl rfl (by omega)) rfl ?_); clear F a; intro a F
                        refine l_step rfl (o_val F (r_assign F rfl) rfl ?_); clear F a; intro a F
                        refine l_nil ?_
                        exact ⟨d.log.length - (i + 1), by omega, i + 1, _, _, l5, rfl, by omega, (F.cons (F.cons (F.cons (F.cons F.nil 3 rfl) 4 rfl) 6 rfl) 9 rfl), M.drop (by repeat (first | exact List.Sublist.refl _ | apply List.Sublist.cons_cons | apply List.Sublist.cons)), ⟨(by rw [hf, if_neg]; simpa using g87), hl5⟩⟩
                  · skip
                    have hge : i = d.log.length := by have h := of_decide_eq_false g73; omega
                    rw [hge, List.drop_length, pAdded] at hf
                    refine wp_exit ?_
                    refine hK61 _ _ ?_
                    refine c_seq (fun K79 hK79 => ?_)
                    refine wp_region_lit ?_
                    refine l_step rfl (o_val F (r_load M F rfl (by repeat (first | exact List.mem_cons_self | apply List.mem_cons_of_mem)) agg_State (seg_all rfl)) rfl ?_); clear F a; intro a F
                    refine l_step rfl (o_val F (r_fieldAddr F rfl fld_Diff_3) rfl ?_); clear F a; intro a F
                    refine l_step rfl (o_val F (r_fieldAddr F rfl fld_State_2) rfl ?_); clear F a; intro a F
                    refine l_step rfl (o_val F (r_fieldAddr F rfl fld_Entry_1) rfl ?_); clear F a; intro a F
                    refine l_step rfl (o_val F (r_load1 M F rfl (by repeat (first | exact List.mem_cons_self | apply List.mem_cons_of_mem)) sca_u32 rfl) rfl ?_); clear F a; intro a F
                    refine l_step rfl (o_call M F rfl ((by first | exact c_paddockref6_Tail M.imm hl4 | exact c_paddockref6_Tail M.imm hl)) rfl ?_); clear F a; intro a W68 v68 G68 hp68 M E68 F
                    have hl4 := hl4.mono E68.gl
                    obtain ⟨l6, rfl, hl6⟩ := hp68
                    refine l_step rfl (o_val F (r_move F rfl) rfl ?_); clear F a; intro a F
                    refine l_step rfl (o_val F (r_extract F rfl rfl) rfl ?_); clear F a; intro a F
                    refine l_step rfl (o_val F (r_extract F rfl rfl) rfl ?_); clear F a; intro a F
                    refine l_step rfl (o_alloc M F zer_State rfl ?_); clear F a; intro a W69 b14 M F
                    refine l_step rfl (o_storeA M F rfl rfl agg_State.size (by repeat (first | exact Upd.here _ _ _ _ _ | apply Upd.there)) (by rfl) (by rfl) (by rfl) ?_); clear F a; intro a W70 M F
                    refine l_step rfl (o_val F (r_assign F rfl) rfl ?_); clear F a; intro a F
                    refine l_nil ?_
                    refine hK79 _ _ ?_
                    refine c_seq (fun K80 hK80 => ?_)
                    refine c_seq (fun K81 hK81 => ?_)
                    refine wp_region_lit ?_
                    refine l_step rfl (o_val F (r_move F rfl) rfl ?_); clear F a; intro a F
                    refine l_step rfl (o_val F (r_neq_i64 F rfl rfl) rfl ?_); clear F a; intro a F
                    refine l_step rfl (o_val F (r_move F rfl) rfl ?_); clear F a; intro a F
                    refine c_split F (i := 101) rfl (fun g101 => ?_) (fun g101 => ?_)
                    · skip
                      iterate 8 (refine l_skip F rfl rfl rfl g101 rfl rfl ?_; clear F a; intro a F)
                      refine l_step rfl (o_val F (r_pick_t F rfl g101 rfl) rfl ?_); clear F a; intro a F
                      refine l_nil ?_
                      refine hK81 _ _ ?_
                      refine c_true F rfl rfl ?_
                      refine c_seq (fun K82 hK82 => ?_)
                      refine wp_region_lit ?_
                      refine l_step rfl (o_val F (r_build F rfl b_State) rfl ?_); clear F a; intro a F
                      refine l_step rfl (o_storeA M F rfl rfl agg_State.size (by repeat (first | exact Upd.here _ _ _ _ _ | apply Upd.there)) (by rfl) (by rfl) (by rfl) ?_); clear F a; intro a W71 M F
                      refine l_step rfl (o_val F (r_assign F rfl) rfl ?_); clear F a; intro a F
                      refine l_nil ?_
                      refine hK82 _ _ ?_
                      refine wp_ret ?_
                      exact ret2 Try.results57 M F (rv_cell M F rfl (by repeat (first | exact List.mem_cons_self | apply List.mem_cons_of_mem)) agg_State rfl) (rv_tmp F rfl) (⟨Sl.nil, by clear hI M F hK1 hK2 hK3 hK54 hK55 hK60 hK61 hK62 hK63 hK64 hK65 hK67 hK68 hK69 hK70 hK79 hK80 hK81 hK82; simp_all [pApply, pEnd, PState.zero, -UInt8.not_le, -UInt8.not_lt, -UInt32.not_le, -UInt32.not_lt, -Int.not_lt, -Int.not_le, -Nat.not_lt, -Nat.not_le], by clear hI M F hK1 hK2 hK3 hK54 hK55 hK60 hK61 hK62 hK63 hK64 hK65 hK67 hK68 hK69 hK70 hK79 hK80 hK81 hK82; simp_all [pApply, pEnd, PState.zero, -UInt8.not_le, -UInt8.not_lt, -UInt32.not_le, -UInt32.not_lt, -Int.not_lt, -Int.not_le, -Nat.not_lt, -Nat.not_le] <;> exact Ens.nil _⟩)
                    · skip
                      refine l_guard F rfl rfl rfl g101 (o_val F (r_fieldAddr F rfl fld_State_2) rfl ?_); clear F a; intro a F
                      refine l_guard F rfl rfl rfl g101 (o_val F (r_fieldAddr F rfl fld_Entry_0) rfl ?_); clear F a; intro a F
                      refine l_guard F rfl rfl rfl g101 (o_val F (r_load1 M F rfl (by repeat (first | exact List.mem_cons_self | apply List.mem_cons_of_mem)) sca_u32 rfl) rfl ?_); clear F a; intro a F
                      refine l_guard F rfl rfl rfl g101 (o_val F (r_fieldAddr F rfl fld_Diff_3) rfl ?_); clear F a; intro a F
                      refine l_guard F rfl rfl rfl g101 (o_val F (r_fieldAddr F rfl fld_State_2) rfl ?_); clear F a; intro a F
                      refine l_guard F rfl rfl rfl g101 (o_val F (r_fieldAddr F rfl fld_Entry_0) rfl ?_); clear F a; intro a F
                      refine l_guard F rfl rfl rfl g101 (o_val F (r_load1 M F rfl (by repeat (first | exact List.mem_cons_self | apply List.mem_cons_of_mem)) sca_u32 rfl) rfl ?_); clear F a; intro a F
                      refine l_guard F rfl rfl rfl g101 (o_val F (r_neq_u32 F rfl rfl) rfl ?_); clear F a; intro a F
                      refine l_step rfl (o_val F (r_pick_f F rfl g101 rfl) rfl ?_); clear F a; intro a F
                      refine l_nil ?_
                      refine hK81 _ _ ?_
                      refine c_cond F rfl (fun g110 => ?_) (fun g110 => ?_)
                      · skip
                        refine c_seq (fun K83 hK83 => ?_)
                        refine wp_region_lit ?_
                        refine l_step rfl (o_val F (r_build F rfl b_State) rfl ?_); clear F a; intro a F
                        refine l_step rfl (o_storeA M F rfl rfl agg_State.size (by repeat (first | exact Upd.here _ _ _ _ _ | apply Upd.there)) (by rfl) (by rfl) (by rfl) ?_); clear F a; intro a W72 M F
                        refine l_step rfl (o_val F (r_assign F rfl) rfl ?_); clear F a; intro a F
                        refine l_nil ?_
                        refine hK83 _ _ ?_
                        refine wp_ret ?_
                        exact ret2 Try.results57 M F (rv_cell M F rfl (by repeat (first | exact List.mem_cons_self | apply List.mem_cons_of_mem)) agg_State rfl) (rv_tmp F rfl) (⟨Sl.nil, by clear hI M F hK1 hK2 hK3 hK54 hK55 hK60 hK61 hK62 hK63 hK64 hK65 hK67 hK68 hK69 hK70 hK79 hK80 hK81 hK83; simp_all [pApply, pEnd, PState.zero, -UInt8.not_le, -UInt8.not_lt, -UInt32.not_le, -UInt32.not_lt, -Int.not_lt, -Int.not_le, -Nat.not_lt, -Nat.not_le], by clear hI M F hK1 hK2 hK3 hK54 hK55 hK60 hK61 hK62 hK63 hK64 hK65 hK67 hK68 hK69 hK70 hK79 hK80 hK81 hK83; simp_all [pApply, pEnd, PState.zero, -UInt8.not_le, -UInt8.not_lt, -UInt32.not_le, -UInt32.not_lt, -Int.not_lt, -Int.not_le, -Nat.not_lt, -Nat.not_le] <;> exact Ens.nil _⟩)
                      · skip
                        refine wp_skip ?_
                        refine hK80 _ _ ?_
                        refine c_seq (fun K84 hK84 => ?_)
                        refine wp_region_lit ?_
                        refine l_step rfl (o_val F (r_fieldAddr F rfl fld_Diff_3) rfl ?_); clear F a; intro a F
                        refine l_step rfl (o_val F (r_fieldAddr F rfl fld_State_0) rfl ?_); clear F a; intro a F
                        refine l_step rfl (o_val F (r_load1 M F rfl (by repeat (first | exact List.mem_cons_self | apply List.mem_cons_of_mem)) sca_u32 rfl) rfl ?_); clear F a; intro a F
                        refine l_step rfl (o_val F (r_fieldAddr F rfl fld_State_0) rfl ?_); clear F a; intro a F
                        refine l_step rfl (o_store1 M F rfl rfl sca_u32 rfl rfl p_State_0 (by repeat (first | exact Upd.here _ _ _ _ _ | apply Upd.there)) ?_); clear F a; intro a W73 M F
                        refine l_nil ?_
                        refine hK84 _ _ ?_
                        refine c_seq (fun K85 hK85 => ?_)
                        refine c_seq (fun K86 hK86 => ?_)
                        refine wp_region_lit ?_
                        refine l_step rfl (o_val F (r_load M F rfl (by repeat (first | exact List.mem_cons_self | apply List.mem_cons_of_mem)) agg_State (seg_all rfl)) rfl ?_); clear F a; intro a F
                        refine l_step rfl (o_call M F rfl (c_paddockref6_Is (s := { (pTail _ d.whole.tail.n).1 with started := d.whole.started }) M.imm hl6) rfl ?_); clear F a; intro a W74 v74 G74 hp74 M E74 F
                        have hl4 := hl4.mono E74.gl
                        have hl6 := hl6.mono E74.gl
                        subst hp74
                        refine l_step rfl (o_val F (r_not F rfl) rfl ?_); clear F a; intro a F
                        refine l_nil ?_
                        refine hK86 _ _ ?_
                        refine c_cond F rfl (fun g118 => ?_) (fun g118 => ?_)
                        · skip
                          refine c_seq (fun K87 hK87 => ?_)
                          refine wp_region_lit ?_
                          refine l_step rfl (o_val F (r_build F rfl b_State) rfl ?_); clear F a; intro a F
                          refine l_step rfl (o_storeA M F rfl rfl agg_State.size (by repeat (first | exact Upd.here _ _ _ _ _ | apply Upd.there)) (by rfl) (by rfl) (by rfl) ?_); clear F a; intro a W75 M F
                          refine l_step rfl (o_val F (r_assign F rfl) rfl ?_); clear F a; intro a F
                          refine l_nil ?_
                          refine hK87 _ _ ?_
                          refine wp_ret ?_
                          exact ret2 Try.results57 M F (rv_cell M F rfl (by repeat (first | exact List.mem_cons_self | apply List.mem_cons_of_mem)) agg_State rfl) (rv_tmp F rfl) (⟨Sl.nil, by clear hI M F hK1 hK2 hK3 hK54 hK55 hK60 hK61 hK62 hK63 hK64 hK65 hK67 hK68 hK69 hK70 hK79 hK80 hK81 hK84 hK85 hK86 hK87; simp_all [pApply, pEnd, PState.zero, -UInt8.not_le, -UInt8.not_lt, -UInt32.not_le, -UInt32.not_lt, -Int.not_lt, -Int.not_le, -Nat.not_lt, -Nat.not_le], by clear hI M F hK1 hK2 hK3 hK54 hK55 hK60 hK61 hK62 hK63 hK64 hK65 hK67 hK68 hK69 hK70 hK79 hK80 hK81 hK84 hK85 hK86 hK87; simp_all [pApply, pEnd, PState.zero, -UInt8.not_le, -UInt8.not_lt, -UInt32.not_le, -UInt32.not_lt, -Int.not_lt, -Int.not_le, -Nat.not_lt, -Nat.not_le] <;> exact Ens.nil _⟩)
                        · skip
                          refine wp_skip ?_
                          refine hK85 _ _ ?_
                          refine c_seq (fun K88 hK88 => ?_)
                          refine wp_region_lit ?_
                          refine l_step rfl (o_val F (r_load M F rfl (by repeat (first | exact List.mem_cons_self | apply List.mem_cons_of_mem)) agg_State (seg_all rfl)) rfl ?_); clear F a; intro a F
                          refine l_step rfl (o_storeA M F rfl rfl agg_State.size (by repeat (first | exact Upd.here _ _ _ _ _ | apply Upd.there)) (by rfl) (by rfl) (by rfl) ?_); clear F a; intro a W76 M F
                          refine l_step rfl (o_val F (r_assign F rfl) rfl ?_); clear F a; intro a F
                          refine l_nil ?_
                          refine hK88 _ _ ?_
                          refine wp_ret ?_
                          exact ret2 Try.results57 M F (rv_cell M F rfl (by repeat (first | exact List.mem_cons_self | apply List.mem_cons_of_mem)) agg_State rfl) (rv_tmp F rfl) (⟨l6, by clear hI M F hK1 hK2 hK3 hK54 hK55 hK60 hK61 hK62 hK63 hK64 hK65 hK67 hK68 hK69 hK70 hK79 hK80 hK81 hK84 hK85 hK86 hK88; simp_all [pApply, pEnd, -UInt8.not_le, -UInt8.not_lt, -UInt32.not_le, -UInt32.not_lt, -Int.not_lt, -Int.not_le, -Nat.not_lt, -Nat.not_le], by clear hI M F hK1 hK2 hK3 hK54 hK55 hK60 hK61 hK62 hK63 hK64 hK65 hK67 hK68 hK69 hK70 hK79 hK80 hK81 hK84 hK85 hK86 hK88; simp_all [pApply, pEnd, -UInt8.not_le, -UInt8.not_lt, -UInt32.not_le, -UInt32.not_lt, -Int.not_lt, -Int.not_le, -Nat.not_lt, -Nat.not_le]⟩)
            · skip
              refine wp_skip ?_
              refine hK61 _ _ ?_
              refine c_seq (fun K89 hK89 => ?_)
              refine wp_region_lit ?_
              refine l_step rfl (o_val F (r_load M F rfl (by repeat (first | exact List.mem_cons_self | apply List.mem_cons_of_mem)) agg_State (seg_all rfl)) rfl ?_); clear F a; intro a F
              refine l_step rfl (o_val F (r_fieldAddr F rfl fld_Diff_3) rfl ?_); clear F a; intro a F
              refine l_step rfl (o_val F (r_fieldAddr F rfl fld_State_2) rfl ?_); clear F a; intro a F
              refine l_step rfl (o_val F (r_fieldAddr F rfl fld_Entry_1) rfl ?_); clear F a; intro a F
              refine l_step rfl (o_val F (r_load1 M F rfl (by repeat (first | exact List.mem_cons_self | apply List.mem_cons_of_mem)) sca_u32 rfl) rfl ?_); clear F a; intro a F
              refine l_step rfl (o_call M F rfl ((by first | exact c_paddockref6_Tail M.imm hl4 | exact c_paddockref6_Tail M.imm hl)) rfl ?_); clear F a; intro a W77 v77 G77 hp77 M E77 F
              have hl := hl.mono E77.gl
              have hl1 := hl1.mono E77.gl
              have hl2 := hl2.mono E77.gl
              obtain ⟨l6, rfl, hl6⟩ := hp77
              refine l_step rfl (o_val F (r_move F rfl) rfl ?_); clear F a; intro a F
              refine l_step rfl (o_val F (r_extract F rfl rfl) rfl ?_); clear F a; intro a F
              refine l_step rfl (o_val F (r_extract F rfl rfl) rfl ?_); clear F a; intro a F
              refine l_step rfl (o_alloc M F zer_State rfl ?_); clear F a; intro a W78 b15 M F
              refine l_step rfl (o_storeA M F rfl rfl agg_State.size (by repeat (first | exact Upd.here _ _ _ _ _ | apply Upd.there)) (by rfl) (by rfl) (by rfl) ?_); clear F a; intro a W79 M F
              refine l_step rfl (o_val F (r_assign F rfl) rfl ?_); clear F a; intro a F
              refine l_nil ?_
              refine hK89 _ _ ?_
              refine c_seq (fun K90 hK90 => ?_)
              refine c_seq (fun K91 hK91 => ?_)
              refine wp_region_lit ?_
              refine l_step rfl (o_val F (r_move F rfl) rfl ?_); clear F a; intro a F
              refine l_step rfl (o_val F (r_neq_i64 F rfl rfl) rfl ?_); clear F a; intro a F
              refine l_step rfl (o_val F (r_move F rfl) rfl ?_); clear F a; intro a F
              refine c_split F (i := 101) rfl (fun g101 => ?_) (fun g101 => ?_)
              · skip
                iterate 8 (refine l_skip F rfl rfl rfl g101 rfl rfl ?_; clear F a; intro a F)
                refine l_step rfl (o_val F (r_pick_t F rfl g101 rfl) rfl ?_); clear F a; intro a F
                refine l_nil ?_
                refine hK91 _ _ ?_
                refine c_true F rfl rfl ?_
                refine c_seq (fun K92 hK92 => ?_)
                refine wp_region_lit ?_
                refine l_step rfl (o_val F (r_build F rfl b_State) rfl ?_); clear F a; intro a F
                refine l_step rfl (o_storeA M F rfl rfl agg_State.size (by repeat (first | exact Upd.here _ _ _ _ _ | apply Upd.there)) (by rfl) (by rfl) (by rfl) ?_); clear F a; intro a W80 M F
                refine l_step rfl (o_val F (r_assign F rfl) rfl ?_); clear F a; intro a F
                refine l_nil ?_
                refine hK92 _ _ ?_
                refine wp_ret ?_
                exact ret2 Try.results57 M F (rv_cell M F rfl (by repeat (first | exact List.mem_cons_self | apply List.mem_cons_of_mem)) agg_State rfl) (rv_tmp F rfl) (⟨Sl.nil, by clear hI M F hK1 hK2 hK3 hK54 hK55 hK60 hK61 hK62 hK89 hK90 hK91 hK92; simp_all [pApply, pEnd, PState.zero, -UInt8.not_le, -UInt8.not_lt, -UInt32.not_le, -UInt32.not_lt, -Int.not_lt, -Int.not_le, -Nat.not_lt, -Nat.not_le], by clear hI M F hK1 hK2 hK3 hK54 hK55 hK60 hK61 hK62 hK89 hK90 hK91 hK92; simp_all [pApply, pEnd, PState.zero, -UInt8.not_le, -UInt8.not_lt, -UInt32.not_le, -UInt32.not_lt, -Int.not_lt, -Int.not_le, -Nat.not_lt, -Nat.not_le] <;> exact Ens.nil _⟩)
              · skip
                refine l_guard F rfl rfl rfl g101 (o_val F (r_fieldAddr F rfl fld_State_2) rfl ?_); clear F a; intro a F
                refine l_guard F rfl rfl rfl g101 (o_val F (r_fieldAddr F rfl fld_Entry_0) rfl ?_); clear F a; intro a F
                refine l_guard F rfl rfl rfl g101 (o_val F (r_load1 M F rfl (by repeat (first | exact List.mem_cons_self | apply List.mem_cons_of_mem)) sca_u32 rfl) rfl ?_); clear F a; intro a F
                refine l_guard F rfl rfl rfl g101 (o_val F (r_fieldAddr F rfl fld_Diff_3) rfl ?_); clear F a; intro a F
                refine l_guard F rfl rfl rfl g101 (o_val F (r_fieldAddr F rfl fld_State_2) rfl ?_); clear F a; intro a F
                refine l_guard F rfl rfl rfl g101 (o_val F (r_fieldAddr F rfl fld_Entry_0) rfl ?_); clear F a; intro a F
                refine l_guard F rfl rfl rfl g101 (o_val F (r_load1 M F rfl (by repeat (first | exact List.mem_cons_self | apply List.mem_cons_of_mem)) sca_u32 rfl) rfl ?_); clear F a; intro a F
                refine l_guard F rfl rfl rfl g101 (o_val F (r_neq_u32 F rfl rfl) rfl ?_); clear F a; intro a F
                refine l_step rfl (o_val F (r_pick_f F rfl g101 rfl) rfl ?_); clear F a; intro a F
                refine l_nil ?_
                refine hK91 _ _ ?_
                refine c_cond F rfl (fun g110 => ?_) (fun g110 => ?_)
                · skip
                  refine c_seq (fun K93 hK93 => ?_)
                  refine wp_region_lit ?_
                  refine l_step rfl (o_val F (r_build F rfl b_State) rfl ?_); clear F a; intro a F
                  refine l_step rfl (o_storeA M F rfl rfl agg_State.size (by repeat (first | exact Upd.here _ _ _ _ _ | apply Upd.there)) (by rfl) (by rfl) (by rfl) ?_); clear F a; intro a W81 M F
                  refine l_step rfl (o_val F (r_assign F rfl) rfl ?_); clear F a; intro a F
                  refine l_nil ?_
                  refine hK93 _ _ ?_
                  refine wp_ret ?_
                  exact ret2 Try.results57 M F (rv_cell M F rfl (by repeat (first | exact List.mem_cons_self | apply List.mem_cons_of_mem)) agg_State rfl) (rv_tmp F rfl) (⟨Sl.nil, by clear hI M F hK1 hK2 hK3 hK54 hK55 hK60 hK61 hK62 hK89 hK90 hK91 hK93; simp_all [pApply, pEnd, PState.zero, -UInt8.not_le, -UInt8.not_lt, -UInt32.not_le, -UInt32.not_lt, -Int.not_lt, -Int.not_le, -Nat.not_lt, -Nat.not_le], by clear hI M F hK1 hK2 hK3 hK54 hK55 hK60 hK61 hK62 hK89 hK90 hK91 hK93; simp_all [pApply, pEnd, PState.zero, -UInt8.not_le, -UInt8.not_lt, -UInt32.not_le, -UInt32.not_lt, -Int.not_lt, -Int.not_le, -Nat.not_lt, -Nat.not_le] <;> exact Ens.nil _⟩)
                · skip
                  refine wp_skip ?_
                  refine hK90 _ _ ?_
                  refine c_seq (fun K94 hK94 => ?_)
                  refine wp_region_lit ?_
                  refine l_step rfl (o_val F (r_fieldAddr F rfl fld_Diff_3) rfl ?_); clear F a; intro a F
                  refine l_step rfl (o_val F (r_fieldAddr F rfl fld_State_0) rfl ?_); clear F a; intro a F
                  refine l_step rfl (o_val F (r_load1 M F rfl (by repeat (first | exact List.mem_cons_self | apply List.mem_cons_of_mem)) sca_u32 rfl) rfl ?_); clear F a; intro a F
                  refine l_step rfl (o_val F (r_fieldAddr F rfl fld_State_0) rfl ?_); clear F a; intro a F
                  refine l_step rfl (o_store1 M F rfl rfl sca_u32 rfl rfl p_State_0 (by repeat (first | exact Upd.here _ _ _ _ _ | apply Upd.there)) ?_); clear F a; intro a W82 M F
                  refine l_nil ?_
                  refine hK94 _ _ ?_
                  refine c_seq (fun K95 hK95 => ?_)
                  refine c_seq (fun K96 hK96 => ?_)
                  refine wp_region_lit ?_
                  refine l_step rfl (o_val F (r_load M F rfl (by repeat (first | exact List.mem_cons_self | apply List.mem_cons_of_mem)) agg_State (seg_all rfl)) rfl ?_); clear F a; intro a F
                  refine l_step rfl (o_call M F rfl (c_paddockref6_Is (s := { (pTail _ d.whole.tail.n).1 with started := d.whole.started }) M.imm hl6) rfl ?_); clear F a; intro a W83 v83 G83 hp83 M E83 F
                  have hl := hl.mono E83.gl
                  have hl1 := hl1.mono E83.gl
                  have hl2 := hl2.mono E83.gl
                  have hl6 := hl6.mono E83.gl
                  subst hp83
                  refine l_step rfl (o_val F (r_not F rfl) rfl ?_); clear F a; intro a F
                  refine l_nil ?_
                  refine hK96 _ _ ?_
                  refine c_cond F rfl (fun g118 => ?_) (fun g118 => ?_)
                  · skip
                    refine c_seq (fun K97 hK97 => ?_)
                    refine wp_region_lit ?_
                    refine l_step rfl (o_val F (r_build F rfl b_State) rfl ?_); clear F a; intro a F
                    refine l_step rfl (o_storeA M F rfl rfl agg_State.size (by repeat (first | exact Upd.here _ _ _ _ _ | apply Upd.there)) (by rfl) (by rfl) (by rfl) ?_); clear F a; intro a W84 M F
                    refine l_step rfl (o_val F (r_assign F rfl) rfl ?_); clear F a; intro a F
                    refine l_nil ?_
                    refine hK97 _ _ ?_
                    refine wp_ret ?_
                    exact ret2 Try.results57 M F (rv_cell M F rfl (by repeat (first | exact List.mem_cons_self | apply List.mem_cons_of_mem)) agg_State rfl) (rv_tmp F rfl) (⟨Sl.nil, by clear hI M F hK1 hK2 hK3 hK54 hK55 hK60 hK61 hK62 hK89 hK90 hK91 hK94 hK95 hK96 hK97; simp_all [pApply, pEnd, PState.zero, -UInt8.not_le, -UInt8.not_lt, -UInt32.not_le, -UInt32.not_lt, -Int.not_lt, -Int.not_le, -Nat.not_lt, -Nat.not_le], by clear hI M F hK1 hK2 hK3 hK54 hK55 hK60 hK61 hK62 hK89 hK90 hK91 hK94 hK95 hK96 hK97; simp_all [pApply, pEnd, PState.zero, -UInt8.not_le, -UInt8.not_lt, -UInt32.not_le, -UInt32.not_lt, -Int.not_lt, -Int.not_le, -Nat.not_lt, -Nat.not_le] <;> exact Ens.nil _⟩)
                  · skip
                    refine wp_skip ?_
                    refine hK95 _ _ ?_
                    refine c_seq (fun K98 hK98 => ?_)
                    refine wp_region_lit ?_
                    refine l_step rfl (o_val F (r_load M F rfl (by repeat (first | exact List.mem_cons_self | apply List.mem_cons_of_mem)) agg_State (seg_all rfl)) rfl ?_); clear F a; intro a F
                    refine l_step rfl (o_storeA M F rfl rfl agg_State.size (by repeat (first | exact Upd.here _ _ _ _ _ | apply Upd.there)) (by rfl) (by rfl) (by rfl) ?_); clear F a; intro a W85 M F
                    refine l_step rfl (o_val F (r_assign F rfl) rfl ?_); clear F a; intro a F
                    refine l_nil ?_
                    refine hK98 _ _ ?_
                    refine wp_ret ?_
                    exact ret2 Try.results57 M F (rv_cell M F rfl (by repeat (first | exact List.mem_cons_self | apply List.mem_cons_of_mem)) agg_State rfl) (rv_tmp F rfl) (⟨l6, by clear hI M F hK1 hK2 hK3 hK54 hK55 hK60 hK61 hK62 hK89 hK90 hK91 hK94 hK95 hK96 hK98; simp_all [pApply, pEnd, -UInt8.not_le, -UInt8.not_lt, -UInt32.not_le, -UInt32.not_lt, -Int.not_lt, -Int.not_le, -Nat.not_lt, -Nat.not_le], by clear hI M F hK1 hK2 hK3 hK54 hK55 hK60 hK61 hK62 hK89 hK90 hK91 hK94 hK95 hK96 hK98; simp_all [pApply, pEnd, -UInt8.not_le, -UInt8.not_lt, -UInt32.not_le, -UInt32.not_lt, -Int.not_lt, -Int.not_le, -Nat.not_lt, -Nat.not_le]⟩)
theorem c_paddockref8_Extends {w : World} {G0 : Ghost} (hI : Imm G0 w) {s t : PState} {l l1 : Sl} (hl : Ens G0 l s.log) (hl1 : Ens G0 l1 t.log) : Ret P 59 [agg (GState.enc (s.at l)), agg (GState.enc (t.at l1))] [] w G0 (fun G W v => v = .bool (pExtends s t)) := by
  refine enter Try.func59 rfl Try.ntmps59 rfl rfl hI (fun a F M => ?_)
  refine c_seq (fun K1 hK1 => ?_)
  refine wp_region_lit ?_
  refine l_step rfl (o_box M F rfl rfl ?_); clear F a; intro a W1 b1 M F
  refine l_step rfl (o_box M F rfl rfl ?_); clear F a; intro a W2 b2 M F
  refine l_step rfl (o_val F (r_assign F rfl) rfl ?_); clear F a; intro a F
  refine l_nil ?_
  refine hK1 _ _ ?_
  refine c_seq (fun K2 hK2 => ?_)
  refine c_seq (fun K3 hK3 => ?_)
  refine wp_region_lit ?_
  refine l_step rfl (o_val F (r_load M F rfl (by repeat (first | exact List.mem_cons_self | apply List.mem_cons_of_mem)) agg_State (seg_all rfl)) rfl ?_); clear F a; intro a F
  refine l_step rfl (o_call M F rfl (c_paddockref6_Is M.imm hl) rfl ?_); clear F a; intro a W3 v3 G3 hp3 M E3 F
  have hl := hl.mono E3.gl
  have hl1 := hl1.mono E3.gl
  subst hp3
  refine l_step rfl (o_val F (r_not F rfl) rfl ?_); clear F a; intro a F
  refine l_step rfl (o_val F (r_move F rfl) rfl ?_); clear F a; intro a F
  refine c_split F (i := 13) rfl (fun g13 => ?_) (fun g13 => ?_)
  · skip
    iterate 3 (refine l_skip F rfl rfl rfl g13 rfl rfl ?_; clear F a; intro a F)
    refine l_step rfl (o_val F (r_pick_t F rfl g13 rfl) rfl ?_); clear F a; intro a F
    refine l_nil ?_
    refine hK3 _ _ ?_
    refine c_true F rfl rfl ?_
    refine c_seq (fun K4 hK4 => ?_)
    refine wp_region_lit ?_
    refine l_step rfl (o_val F (r_assign F rfl) rfl ?_); clear F a; intro a F
    refine l_nil ?_
    refine hK4 _ _ ?_
    refine wp_ret ?_
    exact ret1 Try.results59 M F (rv_tmp F rfl) (by clear hI M F hK1 hK2 hK3 hK4; simp_all [pExtends, -UInt8.not_le, -UInt8.not_lt, -UInt32.not_le, -UInt32.not_lt, -Int.not_lt, -Int.not_le, -Nat.not_lt, -Nat.not_le])
  · skip
    refine l_guard F rfl rfl rfl g13 (o_val F (r_load M F rfl (by repeat (first | exact List.mem_cons_self | apply List.mem_cons_of_mem)) agg_State (seg_all rfl)) rfl ?_); clear F a; intro a F
    refine l_guard F rfl rfl rfl g13 (o_call M F rfl (c_paddockref6_Is M.imm hl1) rfl ?_); clear F a; intro a W4 v4 G4 hp4 M E4 F
    have hl := hl.mono E4.gl
    have hl1 := hl1.mono E4.gl
    subst hp4
    refine l_guard F rfl rfl rfl g13 (o_val F (r_not F rfl) rfl ?_); clear F a; intro a F
    refine l_step rfl (o_val F (r_pick_f F rfl g13 rfl) rfl ?_); clear F a; intro a F
    refine l_nil ?_
    refine hK3 _ _ ?_
    refine c_cond F rfl (fun g17 => ?_) (fun g17 => ?_)
    · skip
      refine c_seq (fun K5 hK5 => ?_)
      refine wp_region_lit ?_
      refine l_step rfl (o_val F (r_assign F rfl) rfl ?_); clear F a; intro a F
      refine l_nil ?_
      refine hK5 _ _ ?_
      refine wp_ret ?_
      exact ret1 Try.results59 M F (rv_tmp F rfl) (by clear hI M F hK1 hK2 hK3 hK5; simp_all [pExtends, -UInt8.not_le, -UInt8.not_lt, -UInt32.not_le, -UInt32.not_lt, -Int.not_lt, -Int.not_le, -Nat.not_lt, -Nat.not_le])
    · skip
      refine wp_skip ?_
      refine hK2 _ _ ?_
      refine c_seq (fun K6 hK6 => ?_)
      refine wp_region_lit ?_
      refine l_step rfl (o_val F (r_load M F rfl (by repeat (first | exact List.mem_cons_self | apply List.mem_cons_of_mem)) agg_State (seg_all rfl)) rfl ?_); clear F a; intro a F
      refine l_step rfl (o_call M F rfl (c_paddockref6_Head M.imm hl) rfl ?_); clear F a; intro a W5 v5 G5 hp5 M E5 F
      have hl := hl.mono E5.gl
      have hl1 := hl1.mono E5.gl
      subst hp5
      refine l_step rfl (o_val F (r_move F rfl) rfl ?_); clear F a; intro a F
      refine l_step rfl (o_val F (r_extract F rfl rfl) rfl ?_); clear F a; intro a F
      refine l_step rfl (o_val F (r_extract F rfl rfl) rfl ?_); clear F a; intro a F
      refine l_step rfl (o_val F (r_assign F rfl) rfl ?_); clear F a; intro a F
      refine l_step rfl (o_val F (r_assign F rfl) rfl ?_); clear F a; intro a F
      refine l_nil ?_
      refine hK6 _ _ ?_
      refine c_seq (fun K7 hK7 => ?_)
      refine wp_region_lit ?_
      refine l_step rfl (o_val F (r_load M F rfl (by repeat (first | exact List.mem_cons_self | apply List.mem_cons_of_mem)) agg_State (seg_all rfl)) rfl ?_); clear F a; intro a F
      refine l_step rfl (o_call M F rfl (c_paddockref6_Head M.imm hl1) rfl ?_); clear F a; intro a W6 v6 G6 hp6 M E6 F
      have hl := hl.mono E6.gl
      have hl1 := hl1.mono E6.gl
      subst hp6
      refine l_step rfl (o_val F (r_move F rfl) rfl ?_); clear F a; intro a F
      refine l_step rfl (o_val F (r_extract F rfl rfl) rfl ?_); clear F a; intro a F
      refine l_step rfl (o_val F (r_extract F rfl rfl) rfl ?_); clear F a; intro a F
      refine l_step rfl (o_val F (r_assign F rfl) rfl ?_); clear F a; intro a F
      refine l_step rfl (o_val F (r_assign F rfl) rfl ?_); clear F a; intro a F
      refine l_nil ?_
      refine hK7 _ _ ?_
      refine c_seq (fun K8 hK8 => ?_)
      refine wp_region_lit ?_
      refine l_step rfl (o_val F (r_load M F rfl (by repeat (first | exact List.mem_cons_self | apply List.mem_cons_of_mem)) agg_State (seg_all rfl)) rfl ?_); clear F a; intro a F
      refine l_step rfl (o_val F (r_load M F rfl (by repeat (first | exact List.mem_cons_self | apply List.mem_cons_of_mem)) agg_State (seg_all rfl)) rfl ?_); clear F a; intro a F
      refine l_step rfl (o_call M F rfl (c_paddockref8_Make M.imm hl hl1) rfl ?_); clear F a; intro a W7 v7 G7 hp7 M E7 F
      have hl := hl.mono E7.gl
      have hl1 := hl1.mono E7.gl
      obtain ⟨l3, l4, rfl, _, _⟩ := hp7
      refine l_step rfl (o_alloc M F zer_Diff rfl ?_); clear F a; intro a W8 b3 M F
      refine l_step rfl (o_storeA M F rfl rfl agg_Diff.size (by repeat (first | exact Upd.here _ _ _ _ _ | apply Upd.there)) (by rfl) (by rfl) (by rfl) ?_); clear F a; intro a W9 M F
      refine l_nil ?_
      refine hK8 _ _ ?_
      refine c_seq (fun K9 hK9 => ?_)
      refine wp_region_lit ?_
      refine l_step rfl (o_val F (r_move F rfl) rfl ?_); clear F a; intro a F
      refine l_step rfl (o_val F (r_move F rfl) rfl ?_); clear F a; intro a F
      refine l_step rfl (o_val F (r_geq_u32 F rfl rfl) rfl ?_); clear F a; intro a F
      refine l_step rfl (o_val F (r_move F rfl) rfl ?_); clear F a; intro a F
      refine c_split F (i := 34) rfl (fun g34 => ?_) (fun g34 => ?_)
      · skip
        refine l_guard F rfl rfl rfl g34 (o_val F (r_fieldAddr F rfl fld_Diff_0) rfl ?_); clear F a; intro a F
        refine l_guard F rfl rfl rfl g34 (o_val F (r_load1 M F rfl (by repeat (first | exact List.mem_cons_self | apply List.mem_cons_of_mem)) sca_int rfl) rfl ?_); clear F a; intro a F
        refine l_guard F rfl rfl rfl g34 (o_val F (r_eql_i64 F rfl rfl) rfl ?_); clear F a; intro a F
        refine l_guard F rfl rfl rfl g34 (o_val F (r_move F rfl) rfl ?_); clear F a; intro a F
        refine c_split F (i := 38) rfl (fun g38 => ?_) (fun g38 => ?_)
        · skip
          iterate 4 (refine l_skip F rfl rfl rfl g38 rfl rfl ?_; clear F a; intro a F)
          iterate 4 (refine l_skipu F rfl rfl rfl rfl rfl ?_; clear F a; intro a F)
          iterate 1 (refine l_skip F rfl rfl rfl g38 rfl rfl ?_; clear F a; intro a F)
          refine l_guard F rfl rfl rfl g34 (o_val F (r_pick_t F rfl g38 rfl) rfl ?_); clear F a; intro a F
          refine l_step rfl (o_val F (r_pick_t F rfl g34 rfl) rfl ?_); clear F a; intro a F
          refine l_step rfl (o_val F (r_assign F rfl) rfl ?_); clear F a; intro a F
          refine l_nil ?_
          refine hK9 _ _ ?_
          refine wp_ret ?_
          exact ret1 Try.results59 M F (rv_tmp F rfl) (by clear hI M F hK1 hK2 hK3 hK6 hK7 hK8 hK9; simp_all [pExtends, -UInt8.not_le, -UInt8.not_lt, -UInt32.not_le, -UInt32.not_lt, -Int.not_lt, -Int.not_le, -Nat.not_lt, -Nat.not_le])
        · skip
          refine l_guard F rfl rfl rfl g38 (o_val F (r_fieldAddr F rfl fld_Diff_0) rfl ?_); clear F a; intro a F
          refine l_guard F rfl rfl rfl g38 (o_val F (r_load1 M F rfl (by repeat (first | exact List.mem_cons_self | apply List.mem_cons_of_mem)) sca_int rfl) rfl ?_); clear F a; intro a F
          refine l_guard F rfl rfl rfl g38 (o_val F (r_eql_i64 F rfl rfl) rfl ?_); clear F a; intro a F
          refine l_guard F rfl rfl rfl g38 (o_val F (r_move F rfl) rfl ?_); clear F a; intro a F
          refine c_split F (i := 42) rfl (fun g42 => ?_) (fun g42 => ?_)
          · skip
            refine l_guard F rfl rfl rfl g42 (o_val F (r_fieldAddr F rfl fld_Diff_1) rfl ?_); clear F a; intro a F
            refine l_guard F rfl rfl rfl g42 (o_val F (r_load1 M F rfl (by repeat (first | exact List.mem_cons_self | apply List.mem_cons_of_mem)) sca_u32 rfl) rfl ?_); clear F a; intro a F
            refine l_guard F rfl rfl rfl g42 (o_val F (r_move F rfl) rfl ?_); clear F a; intro a F
            refine l_guard F rfl rfl rfl g42 (o_val F (r_eql_u32 F rfl rfl) rfl ?_); clear F a; intro a F
            refine l_guard F rfl rfl rfl g38 (o_val F (r_pick_t F rfl g42 rfl) rfl ?_); clear F a; intro a F
            refine l_guard F rfl rfl rfl g34 (o_val F (r_pick_f F rfl g38 rfl) rfl ?_); clear F a; intro a F
            refine l_step rfl (o_val F (r_pick_t F rfl g34 rfl) rfl ?_); clear F a; intro a F
            refine l_step rfl (o_val F (r_assign F rfl) rfl ?_); clear F a; intro a F
            refine l_nil ?_
            refine hK9 _ _ ?_
            refine wp_ret ?_
            exact ret1 Try.results59 M F (rv_tmp F rfl) (by clear hI M F hK1 hK2 hK3 hK6 hK7 hK8 hK9; simp_all [pExtends, -UInt8.not_le, -UInt8.not_lt, -UInt32.not_le, -UInt32.not_lt, -Int.not_lt, -Int.not_le, -Nat.not_lt, -Nat.not_le])
          · skip
            iterate 4 (refine l_skip F rfl rfl rfl g42 rfl rfl ?_; clear F a; intro a F)
            refine l_guard F rfl rfl rfl g38 (o_val F (r_pick_f F rfl g42 rfl) rfl ?_); clear F a; intro a F
            refine l_guard F rfl rfl rfl g34 (o_val F (r_pick_f F rfl g38 rfl) rfl ?_); clear F a; intro a F
            refine l_step rfl (o_val F (r_pick_t F rfl g34 rfl) rfl ?_); clear F a; intro a F
            refine l_step rfl (o_val F (r_assign F rfl) rfl ?_); clear F a; intro a F
            refine l_nil ?_
            refine hK9 _ _ ?_
            refine wp_ret ?_
            exact ret1 Try.results59 M F (rv_tmp F rfl) (by clear hI M F hK1 hK2 hK3 hK6 hK7 hK8 hK9; simp_all [pExtends, -UInt8.not_le, -UInt8.not_lt, -UInt32.not_le, -UInt32.not_lt, -Int.not_lt, -Int.not_le, -Nat.not_lt, -Nat.not_le])
      · skip
        iterate 4 (refine l_skip F rfl rfl rfl g34 rfl rfl ?_; clear F a; intro a F)
        iterate 9 (refine l_skipu F rfl rfl rfl rfl rfl ?_; clear F a; intro a F)
        iterate 1 (refine l_skip F rfl rfl rfl g34 rfl rfl ?_; clear F a; intro a F)
        refine l_step rfl (o_val F (r_pick_f F rfl g34 rfl) rfl ?_); clear F a; intro a F
        refine l_step rfl (o_val F (r_assign F rfl) rfl ?_); clear F a; intro a F
        refine l_nil ?_
        refine hK9 _ _ ?_
        refine wp_ret ?_
        exact ret1 Try.results59 M F (rv_tmp F rfl) (by clear hI M F hK1 hK2 hK3 hK6 hK7 hK8 hK9; simp_all [pExtends, -UInt8.not_le, -UInt8.not_lt, -UInt32.not_le, -UInt32.not_lt, -Int.not_lt, -Int.not_le, -Nat.not_lt, -Nat.not_le])
theorem c_paddockref8_Bytes {w : World} {G0 : Ghost} (hI : Imm G0 w) {d : PDiff} {l1 l2 : Sl} (hl1 : Ens G0 l1 d.log) (hl2 : Ens G0 l2 d.whole.log) (hx : d.log.length ≤ 1000) (hx2 : d.whole.log.length ≤ 1000) : Ret P 61 [agg (GDiff.enc (d.at l1 l2))] [] w G0 (fun G W v => v = .int .i64 (pBytes d)) := by
  refine enter Try.func61 rfl Try.ntmps61 rfl rfl hI (fun a F M => ?_)
  have hlen1 : (d.at l1 l2).log.len = d.log.length := hl1.len
  have hlen2 : (d.at l1 l2).whole.log.len = d.whole.log.length := hl2.len
  refine c_seq (fun K1 hK1 => ?_)
  refine wp_region_lit ?_
  refine l_step rfl (o_box M F rfl rfl ?_); clear F a; intro a W1 b1 M F
  refine l_step rfl (o_val F (r_assign F rfl) rfl ?_); clear F a; intro a F
  refine l_nil ?_
  refine hK1 _ _ ?_
  refine c_seq (fun K2 hK2 => ?_)
  refine wp_region_lit ?_
  refine l_step rfl (o_val F (r_fieldAddr F rfl fld_Diff_2) rfl ?_); clear F a; intro a F
  refine l_step rfl (o_val F (r_load1 M F rfl (by repeat (first | exact List.mem_cons_self | apply List.mem_cons_of_mem)) sca_Entries rfl) rfl ?_); clear F a; intro a F
  refine l_step rfl (o_val F (r_len_slice F slc_Entries.und rfl) rfl ?_); clear F a; intro a F
  refine l_step rfl (o_val F (r_fieldAddr F rfl fld_Diff_3) rfl ?_); clear F a; intro a F
  refine l_step rfl (o_val F (r_fieldAddr F rfl fld_State_3) rfl ?_); clear F a; intro a F
  refine l_step rfl (o_val F (r_load1 M F rfl (by repeat (first | exact List.mem_cons_self | apply List.mem_cons_of_mem)) sca_Entries rfl) rfl ?_); clear F a; intro a F
  refine l_step rfl (o_val F (r_len_slice F slc_Entries.und rfl) rfl ?_); clear F a; intro a F
  refine l_step rfl (o_val F (r_add_i64 F rfl rfl (by omega)) rfl ?_); clear F a; intro a F
  refine l_step rfl (o_val F (r_assign F rfl) rfl ?_); clear F a; intro a F
  refine l_nil ?_
  refine hK2 _ _ ?_
  refine c_seq (fun K3 hK3 => ?_)
  refine c_seq (fun K4 hK4 => ?_)
  refine wp_region_lit ?_
  refine l_step rfl (o_val F (r_assign F rfl) rfl ?_); clear F a; intro a F
  refine l_nil ?_
  refine hK4 _ _ ?_
  refine wp_block ?_
  refine c_loop (fun k a W => ∃ (i : Nat) (G : Ghost) (c : Int), k = 6 - i ∧ i ≤ 6 ∧ Frm 27 [(4, .int .i64 (i : Int)), (3, .int .i64 c), (1, .pointer (some ⟨b1, 0, none⟩))] a ∧ St [] w G0 W [⟨b1, 94, (d.at l1 l2).enc⟩] G ∧ (c = (d.log.length : Int) + (d.whole.log.length : Int) + pCount d.whole.base i)) (6) ?_ ?_
  · exact ⟨0, _, _, rfl, Nat.zero_le _, (F.cons (F.cons (F.cons F.nil 1 rfl) 3 rfl) 4 rfl), M, (by rw [hlen1, hlen2]; simp [pCount])⟩
  · clear F M a; intro k a W hI; obtain ⟨i, G, c, hk, hi, F, M, hf⟩ := hI
    refine c_seq (fun K5 hK5 => ?_)
    refine c_seq (fun K6 hK6 => ?_)
    refine wp_region_lit ?_
    refine l_step rfl (o_val F (r_move F rfl) rfl ?_); clear F a; intro a F
    refine l_step rfl (o_val F (r_lss_i64 F rfl rfl) rfl ?_); clear F a; intro a F
    refine l_nil ?_
    refine hK6 _ _ ?_
    refine c_cond F rfl (fun g14 => ?_) (fun g14 => ?_)
    · skip
      have hlt : i < 6 := by have h := of_decide_eq_true g14; omega
      have hk21 : (i : Int).toNat < 6 := by omega
      have hcl := count_le d.whole.base i
      have hcs : pCount d.whole.base (i + 1) = pCount d.whole.base i + if (d.whole.base.obj i).there = true then 1 else 0 := rfl
      refine wp_skip ?_
      refine hK5 _ _ ?_
      refine c_seq (fun K7 hK7 => ?_)
      refine wp_block ?_
      refine c_seq (fun K8 hK8 => ?_)
      refine wp_region_lit ?_
      refine l_step rfl (o_val F (r_move F rfl) rfl ?_); clear F a; intro a F
      refine l_step rfl (o_val F (r_fieldAddr F rfl fld_Diff_3) rfl ?_); clear F a; intro a F
      refine l_step rfl (o_val F (r_fieldAddr F rfl fld_State_1) rfl ?_); clear F a; intro a F
      refine l_step rfl (o_val F (r_fieldAddr F rfl fld_Base_0) rfl ?_); clear F a; intro a F
      refine l_step rfl (o_val F (r_indexArr F rfl rfl arr_Objs (by omega) (by omega)) rfl ?_); clear F a; intro a F
      refine l_step rfl (o_val F (r_fieldAddr F rfl fld_Obj_0) rfl ?_); clear F a; intro a F
      refine l_step rfl (o_val F (r_load1 M F rfl (by repeat (first | exact List.mem_cons_self | apply List.mem_cons_of_mem)) sca_bool (g_Diff_3_1_0_i_0 hk21)) rfl ?_); clear F a; intro a F
      refine l_nil ?_
      refine hK8 _ _ ?_
      refine c_cond F rfl (fun g23 => ?_) (fun g23 => ?_)
      · skip
        refine wp_region_lit ?_
        refine l_step rfl (o_val F (r_move F rfl) rfl ?_); clear F a; intro a F
        refine l_step rfl (o_val F (r_add_i64 F rfl rfl (by omega)) rfl ?_); clear F a; intro a F
        refine l_step rfl (o_val F (r_assign F rfl) rfl ?_); clear F a; intro a F
        refine l_nil ?_
        refine hK7 _ _ ?_
        refine wp_region_lit ?_
        refine l_step rfl (o_val F (r_move F rfl) rfl ?_); clear F a; intro a F
        refine l_step rfl (o_val F (r_add_i64 F rfl rfl (by omega)) rfl ?_); clear F a; intro a F
        refine l_step rfl (o_val F (r_assign F rfl) rfl ?_); clear F a; intro a F
        refine l_nil ?_
        exact ⟨6 - (i + 1), by omega, i + 1, _, _, rfl, by omega, (F.cons (F.cons (F.cons F.nil 1 rfl) 3 rfl) 4 rfl), M.drop (by repeat (first | exact List.Sublist.refl _ | apply List.Sublist.cons_cons | apply List.Sublist.cons)), (by rw [hcs, hf]; simp_all; try omega)⟩
      · skip
        refine wp_skip ?_
        refine hK7 _ _ ?_
        refine wp_region_lit ?_
        refine l_step rfl (o_val F (r_move F rfl) rfl ?_); clear F a; intro a F
        refine l_step rfl (o_val F (r_add_i64 F rfl rfl (by omega)) rfl ?_); clear F a; intro a F
        refine l_step rfl (o_val F (r_assign F rfl) rfl ?_); clear F a; intro a F
        refine l_nil ?_
        exact ⟨6 - (i + 1), by omega, i + 1, _, _, rfl, by omega, (F.cons (F.cons (F.cons F.nil 1 rfl) 3 rfl) 4 rfl), M.drop (by repeat (first | exact List.Sublist.refl _ | apply List.Sublist.cons_cons | apply List.Sublist.cons)), (by rw [hcs, hf]; simp_all; try omega)⟩
    · skip
      have hge : i = 6 := by have h := of_decide_eq_false g14; omega
      refine wp_exit ?_
      refine hK3 _ _ ?_
      refine c_seq (fun K9 hK9 => ?_)
      refine wp_region_lit ?_
      refine l_step rfl (o_val F (r_move F rfl) rfl ?_); clear F a; intro a F
      refine l_step rfl (o_val F (r_assign F rfl) rfl ?_); clear F a; intro a F
      refine l_nil ?_
      refine hK9 _ _ ?_
      refine wp_ret ?_
      exact ret1 Try.results61 M F (rv_tmp F rfl) (by subst hge; rw [hf]; rfl)
end Go.Proofs.Ytfkmaepcjognkaa.Pad
