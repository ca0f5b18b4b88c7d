/- The walk of MergeRefuses: it answers true. The row is a slice of operations, whatever they are. -/
import Derived.Test.YtfkmaepcjognkaaT8b
namespace Go.Proofs.Ytfkmaepcjognkaa.Pad
open Go Go.Proofs
set_option linter.unusedVariables false
set_option maxRecDepth 8000
set_option maxHeartbeats 4000000
set_option linter.unusedSimpArgs false

theorem started_tail {s : PState} (n : UInt32) (x : UInt32) : ({ (pTail s n).1 with started := x } : PState).tail = (pTail s n).1.tail := rfl
/-- Cutting at a number alone. -/
theorem refuse_e {s : PState} (h : Ok s) (x : UInt32) : decide ((pApply s ⟨1, x, [], ⟨0, PBase.zero, s.tail, []⟩⟩).2 = 0) = (decide (s.tail.n ≤ x) && decide (x ≤ (lastE s).n)) := by
  have hl := last_n h.ch
  by_cases hx : s.tail.n ≤ x ∧ x ≤ (lastE s).n
  · obtain ⟨h1, h2⟩ := hx
    have h1' := h1; have h2' := h2
    rw [UInt32.le_iff_toNat_le] at h1 h2
    have hcut := cut_eq h h1 h2
    have hoc := ok_cut h (x.toNat - s.tail.n.toNat)
    have htl : pTail { s with log := s.log.take (x.toNat - s.tail.n.toNat) } s.tail.n = ({ s with log := s.log.take (x.toNat - s.tail.n.toNat) }, 0) := by
      have := tail_eq hoc (x := s.tail.n) (Nat.le_refl _) (by rw [last_n hoc.ch]; exact Nat.le_add_right _ _)
      rw [this]
      show (pFolded _ (s.tail.n.toNat - s.tail.n.toNat), (0 : Int)) = _
      rw [Nat.sub_self, folded_zero]
    have hend := end_ok (d := ⟨1, x, [], ⟨0, PBase.zero, s.tail, []⟩⟩) htl rfl (by
      exact ⟨(by decide : ¬ 60 < (0 : UInt32)), hoc.ts, hoc.op, hoc.len, hoc.base, hoc.ch⟩)
    have : pApply s ⟨1, x, [], ⟨0, PBase.zero, s.tail, []⟩⟩ = ({ s with log := s.log.take (x.toNat - s.tail.n.toNat), started := 0 }, 0) := by
      rw [pApply, if_neg (by simp [ok_is h]), if_neg (by simp), if_pos rfl]
      simp only [hcut, pAdded]
      rw [if_neg (by simp), if_neg (by simp)]
      exact hend
    rw [this, decide_eq_true h1', decide_eq_true h2']; rfl
  · have hb : (decide (s.tail.n ≤ x) && decide (x ≤ (lastE s).n)) = false := by
      rcases Classical.not_and_iff_not_or_not.1 hx with h3 | h3
      · rw [decide_eq_false h3]; rfl
      · rw [decide_eq_false h3, Bool.and_false]
    have hp : pPlace s x < 0 := by
      unfold pPlace
      rw [if_pos]
      · decide
      · rcases Classical.not_and_iff_not_or_not.1 hx with h3 | h3
        · exact .inl (by rw [UInt32.lt_iff_toNat_lt]; rw [UInt32.le_iff_toNat_le] at h3; omega)
        · exact .inr (by rw [UInt32.lt_iff_toNat_lt]; rw [UInt32.le_iff_toNat_le] at h3; omega)
    have hcut : pCut s x = (PState.zero, 141) := by rw [pCut, if_neg (by simp [ok_is h]), if_pos hp]
    have : pApply s ⟨1, x, [], ⟨0, PBase.zero, s.tail, []⟩⟩ = (PState.zero, 80) := by
      rw [pApply, if_neg (by simp [ok_is h]), if_neg (by simp), if_pos rfl]
      simp only [hcut]
      rw [if_pos (by simp)]
    rw [this, hb]; rfl
theorem refuse_f {s : PState} (h : Ok s) (o : POp) : (pApply s ⟨1, (lastE s).n, [⟨40, (lastE s).n + 2, o⟩], ⟨0, PBase.zero, s.tail, []⟩⟩).2 = 80 := by
  have hl := last_n h.ch
  have hcut := cut_eq h (n := (lastE s).n) (by omega) (Nat.le_refl _)
  rw [hl, show s.tail.n.toNat + s.log.length - s.tail.n.toNat = s.log.length by omega, List.take_length] at hcut
  have hnx : pNext (lastE s) ⟨40, (lastE s).n + 2, o⟩ = false := by
    have : ¬ ((lastE s).n + 2 = (lastE s).n + 1) := by
      intro he
      have h2 := congrArg UInt32.toNat he
      rw [UInt32.toNat_add, UInt32.toNat_add] at h2
      have e1 : (1 : UInt32).toNat = 1 := rfl
      have e2 : (2 : UInt32).toNat = 2 := rfl
      have := (lastE s).n.toNat_lt
      rw [e1, e2] at h2
      omega
    simp only [pNext]
    rw [decide_eq_false this]
    simp
  have hadd : (pAdd s ⟨40, (lastE s).n + 2, o⟩).2 = 10 := by rw [pAdd, if_pos (.inr hnx)]
  rw [pApply, if_neg (by simp [ok_is h]), if_neg (by simp), if_pos rfl]
  simp only [hcut]
  rw [if_neg (by simp)]
  simp only [pAdded, hadd]
  simp
theorem next_ne (s : PState) : ¬ (lastE s).n + 1 = 0 ∨ (lastE s).n.toNat = 4294967295 := by
  by_cases h : (lastE s).n.toNat = 4294967295
  · exact .inr h
  · refine .inl fun he => ?_
    have h2 := congrArg UInt32.toNat he
    rw [UInt32.toNat_add] at h2
    have e1 : (1 : UInt32).toNat = 1 := rfl
    have e0 : (0 : UInt32).toNat = 0 := rfl
    have := (lastE s).n.toNat_lt
    rw [e1, e0] at h2
    omega
theorem place_next {s : PState} (h : Ok s) (hb : (lastE s).n.toNat < 1000) : pPlace s ((lastE s).n + 1) = -1 ∧ ¬ (lastE s).n + 1 = 0 := by
  have e1 : (1 : UInt32).toNat = 1 := rfl
  have hn : ((lastE s).n + 1).toNat = (lastE s).n.toNat + 1 := by rw [UInt32.toNat_add, e1]; exact Nat.mod_eq_of_lt (by omega)
  refine ⟨?_, fun he => by have := congrArg UInt32.toNat he; have e0 : (0 : UInt32).toNat = 0 := rfl; omega⟩
  unfold pPlace
  rw [if_pos (.inr (by rw [UInt32.lt_iff_toNat_lt]; omega))]
theorem refuse_g {s : PState} (h : Ok s) (hb : (lastE s).n.toNat < 1000) (k : Int) : (pApply s ⟨k, (lastE s).n + 1, [], PState.zero⟩).2 = 80 := by
  obtain ⟨hp, hne⟩ := place_next h hb
  have hz : pIs PState.zero = true := by decide
  unfold pApply
  split
  · rfl
  · rename_i h1
    simp only [not_or, not_and, Classical.not_not] at h1
    by_cases h2 : k = 2
    · exact absurd (h1.2.2.2 (by rw [h2]; decide)).2 hne
    · rw [if_neg h2]
      by_cases h3 : k = 1
      · rw [if_pos h3]
        have hcut : pCut s ((lastE s).n + 1) = (PState.zero, 141) := by rw [pCut, if_neg (by simp [ok_is h]), hp, if_pos (by decide)]
        simp only [hcut]
        rw [if_pos (by simp)]
      · exact absurd (h1.2.2.2 h3).2 hne
theorem refuse_h {s : PState} (h : Ok s) (hb : (lastE s).n.toNat < 1000) : (pApply s ⟨0, 0, [], ⟨0, PBase.zero, ⟨0, (lastE s).n + 1, POp.zero⟩, []⟩⟩).2 = 80 := by
  obtain ⟨hp, hne⟩ := place_next h hb
  have hl := last_n h.ch
  have e1 : (1 : UInt32).toNat = 1 := rfl
  have hn : ((lastE s).n + 1).toNat = (lastE s).n.toNat + 1 := by rw [UInt32.toNat_add, e1]; exact Nat.mod_eq_of_lt (by omega)
  rw [pApply, if_neg (by simp [ok_is h]), if_neg (by simp), if_neg (by simp)]
  have htl : pTail s ((lastE s).n + 1) = (PState.zero, 141) := by
    rw [pTail, if_neg (by simp [ok_is h]), if_neg (by rw [UInt32.lt_iff_toNat_lt]; omega), hp, if_pos (by decide)]
  unfold pEnd
  simp only [htl]
  rw [if_pos (.inl (by simp))]
theorem st_small : ∀ (xs : List (POp × UInt32)) (s : PState), Ok s → (lastE (xs.foldl pStStep s)).n.toNat ≤ (lastE s).n.toNat + xs.length
  | [], s, _ => Nat.le_refl _
  | x :: xs, s, h => by
    have hs : Ok (pStStep s x) ∧ (lastE (pStStep s x)).n.toNat ≤ (lastE s).n.toNat + 1 := by
      unfold pStStep
      split
      · rename_i h0
        refine ⟨ok_add h0, ?_⟩
        rw [(last_add h0).1]
        have := next_n (add_zero h0).2
        omega
      · exact ⟨h, by omega⟩
    have := st_small xs _ hs.1
    simp only [List.foldl_cons, List.length_cons]; omega
theorem st0_small {a b : List POp} (since started : UInt32) (h : a.length + b.length ≤ 100) : (lastE (pSt0 a b since started)).n.toNat < 1000 := by
  have h1 := st_small (items a b since) _ (ok_start started)
  rw [items_len] at h1
  have h2 : (lastE ⟨started % 60, PBase.zero, PEntry.zero, []⟩).n.toNat = 0 := rfl
  show (lastE ((items a b since).foldl pStStep _)).n.toNat < 1000
  omega
theorem c_paddocklaw8_MergeRefuses {w : World} {G0 : Ghost} (hI : Imm G0 w) {lo : Sl} {ops : List POp} {o : POp} {x : UInt32} {kd : Int} (ho : Opl G0 lo ops) : Ret P 12 [lo.v, agg o.enc, .int .u32 (x.toNat : Int), .int .i64 kd] [] w G0 (fun G W v => v = .bool true) := by
  refine enter Try.func12 rfl Try.ntmps12 rfl rfl hI (fun a F M => ?_)
  have hlen := ho.len
  refine c_seq (fun K1 hK1 => ?_)
  refine wp_region_lit ?_
  refine l_step rfl (o_box M F rfl rfl ?_); clear F a; intro a W1 b1 M F
  refine l_step rfl (o_val F (r_assign F rfl) rfl ?_); clear F a; intro a F
  refine l_nil ?_
  refine hK1 _ _ ?_
  refine c_seq (fun K2 hK2 => ?_)
  refine c_seq (fun K3 hK3 => ?_)
  refine wp_region_lit ?_
  refine l_step rfl (o_call M F rfl (c_paddocklaw8_known M.imm) rfl ?_); clear F a; intro a W2 v2 G2 hp2 M E2 F
  subst hp2
  refine l_step rfl (o_val F (r_not F rfl) rfl ?_); clear F a; intro a F
  refine l_nil ?_
  refine hK3 _ _ ?_
  refine c_false F rfl rfl ?_
  refine wp_skip ?_
  refine hK2 _ _ ?_
  refine c_seq (fun K4 hK4 => ?_)
  refine c_seq (fun K5 hK5 => ?_)
  refine wp_region_lit ?_
  refine l_step rfl (o_val F (r_move F rfl) rfl ?_); clear F a; intro a F
  refine l_step rfl (o_val F (r_len_slice F slc_Ops.und rfl) rfl ?_); clear F a; intro a F
  refine l_step rfl (o_val F (r_gtr_i64 F rfl rfl) rfl ?_); clear F a; intro a F
  refine l_nil ?_
  refine hK5 _ _ ?_
  refine c_cond F rfl (fun g25 => ?_) (fun g25 => ?_)
  · skip
    refine c_seq (fun K6 hK6 => ?_)
    refine wp_region_lit ?_
    refine l_step rfl (o_val F (r_assign F rfl) rfl ?_); clear F a; intro a F
    refine l_nil ?_
    refine hK6 _ _ ?_
    refine wp_ret ?_
    exact ret1 Try.results12 M F (rv_tmp F rfl) (rfl)
  · skip
    refine wp_skip ?_
    refine hK4 _ _ ?_
    refine c_seq (fun K7 hK7 => ?_)
    refine wp_region_lit ?_
    refine l_step rfl (o_val F (r_move F rfl) rfl ?_); clear F a; intro a F
    refine l_step rfl (o_call M F rfl (c_paddocklaw8_state (lb := Sl.nil) (ys := []) (since := 0) (f := 0) (started := 1) M.imm (ho.mono M.gl) (Opl.nil _) (by have h := of_decide_eq_false g25; omega) (by decide)) rfl ?_); clear F a; intro a W3 v3 G3 hp3 M E3 F
    obtain ⟨l1, rfl, hl1⟩ := hp3
    simp only [st_f0] at F hl1
    have hok := st0_ok ops [] 0 1
    have hb := st0_small (a := ops) (b := []) 0 1 (by have h := of_decide_eq_false g25; simp; omega)
    generalize pSt0 ops [] 0 1 = s at F hl1 hok hb
    refine l_step rfl (o_alloc M F zer_State rfl ?_); clear F a; intro a W4 b2 M F
    refine l_step rfl (o_storeA M F rfl rfl agg_State.size (by repeat (first | exact Upd.here _ _ _ _ _ | apply Upd.there)) (by rfl) (by rfl) (by rfl) ?_); clear F a; intro a W5 M F
    refine l_nil ?_
    refine hK7 _ _ ?_
    refine c_seq (fun K8 hK8 => ?_)
    refine wp_region_lit ?_
    refine l_step rfl (o_val F (r_load M F rfl (by repeat (first | exact List.mem_cons_self | apply List.mem_cons_of_mem)) agg_State (seg_all rfl)) rfl ?_); clear F a; intro a F
    refine l_step rfl (o_call M F rfl (c_pglog_Head M.imm hl1) rfl ?_); clear F a; intro a W6 v6 G6 hp6 M E6 F
    have hl1 := hl1.mono E6.gl
    subst hp6
    simp only [head_ok hok] at F
    refine l_step rfl (o_val F (r_move F rfl) rfl ?_); clear F a; intro a F
    refine l_step rfl (o_val F (r_extract F rfl rfl) rfl ?_); clear F a; intro a F
    refine l_step rfl (o_val F (r_extract F rfl rfl) rfl ?_); clear F a; intro a F
    refine l_step rfl (o_val F (r_assign F rfl) rfl ?_); clear F a; intro a F
    refine l_step rfl (o_val F (r_assign F rfl) rfl ?_); clear F a; intro a F
    refine l_nil ?_
    refine hK8 _ _ ?_
    refine c_seq (fun K9 hK9 => ?_)
    refine wp_region_lit ?_
    refine l_step rfl (o_val F (r_load M F rfl (by repeat (first | exact List.mem_cons_self | apply List.mem_cons_of_mem)) agg_State (seg_all rfl)) rfl ?_); clear F a; intro a F
    refine l_step rfl (o_val F (r_move F rfl) rfl ?_); clear F a; intro a F
    refine l_step rfl (o_val F (r_fieldAddr F rfl fld_State_2) rfl ?_); clear F a; intro a F
    refine l_step rfl (o_val F (r_load M F rfl (by repeat (first | exact List.mem_cons_self | apply List.mem_cons_of_mem)) agg_Entry g_State_2) rfl ?_); clear F a; intro a F
    refine l_step rfl (o_val F (r_build F rfl (b_State_2 _)) rfl ?_); clear F a; intro a F
    refine l_step rfl (o_val F (r_build F rfl (b_Diff_0_1_3 1 _ _)) rfl ?_); clear F a; intro a F
    refine l_step rfl (o_call M F rfl (c_merge_Apply (d := ⟨1, x, [], ⟨0, PBase.zero, s.tail, []⟩⟩) M.imm hl1 (Ens.nil _) (Ens.nil _)) rfl ?_); clear F a; intro a W7 v7 G7 hp7 M E7 F
    have hl1 := hl1.mono E7.gl
    obtain ⟨l2, rfl, hl2⟩ := hp7
    refine l_step rfl (o_val F (r_move F rfl) rfl ?_); clear F a; intro a F
    refine l_step rfl (o_val F (r_extract F rfl rfl) rfl ?_); clear F a; intro a F
    refine l_step rfl (o_val F (r_extract F rfl rfl) rfl ?_); clear F a; intro a F
    refine l_step rfl (o_alloc M F zer_State rfl ?_); clear F a; intro a W8 b3 M F
    refine l_step rfl (o_storeA M F rfl rfl agg_State.size (by repeat (first | exact Upd.here _ _ _ _ _ | apply Upd.there)) (by rfl) (by rfl) (by rfl) ?_); clear F a; intro a W9 M F
    refine l_step rfl (o_val F (r_assign F rfl) rfl ?_); clear F a; intro a F
    refine l_nil ?_
    refine hK9 _ _ ?_
    refine c_seq (fun K10 hK10 => ?_)
    refine wp_region_lit ?_
    refine l_step rfl (o_val F (r_load M F rfl (by repeat (first | exact List.mem_cons_self | apply List.mem_cons_of_mem)) agg_State (seg_all rfl)) rfl ?_); clear F a; intro a F
    refine l_step rfl (o_val F (r_move F rfl) rfl ?_); clear F a; intro a F
    refine l_step rfl (o_val F (r_move F rfl) rfl ?_); clear F a; intro a F
    refine l_step rfl (o_val F (r_add_u32 F (y := 2) rfl rfl) rfl ?_); clear F a; intro a F
    refine l_step rfl (o_val F (r_load M F rfl (by repeat (first | exact List.mem_cons_self | apply List.mem_cons_of_mem)) agg_Op (seg_all rfl)) rfl ?_); clear F a; intro a F
    refine l_step rfl (o_val F (r_build F rfl (b_Entry_0_1_2 40 _ _)) rfl ?_); clear F a; intro a F
    refine l_step rfl (o_bslice1 M F slc_Entries zer_Entry rfl rfl rfl rfl ?_); clear F a; intro a W10 S10 G10 hg10 hl10 hn10 hs10 F
    have M := hg10.st
    have hl1 := hl1.mono hg10.le
    have hlit := hg10.tip.rd
    have hlitlen := hl10
    refine l_step rfl (o_val F (r_fieldAddr F rfl fld_State_2) rfl ?_); clear F a; intro a F
    refine l_step rfl (o_val F (r_load M F rfl (by repeat (first | exact List.mem_cons_self | apply List.mem_cons_of_mem)) agg_Entry g_State_2) rfl ?_); clear F a; intro a F
    refine l_step rfl (o_val F (r_build F rfl (b_State_2 _)) rfl ?_); clear F a; intro a F
    refine l_step rfl (o_val F (r_build F rfl (b_Diff_0_1_2_3 1 _ _ _)) rfl ?_); clear F a; intro a F
    refine l_step rfl (o_call M F rfl (c_merge_Apply (d := ⟨1, (lastE s).n, [⟨40, (lastE s).n + 2, o⟩], ⟨0, PBase.zero, s.tail, []⟩⟩) M.imm hl1 ⟨hlit, hlitlen, fun x => rfl⟩ (Ens.nil _)) rfl ?_); clear F a; intro a W11 v11 G11 hp11 M E11 F
    have hl1 := hl1.mono E11.gl
    have hlit := hlit.mono E11.gl
    obtain ⟨l3, rfl, hl3⟩ := hp11
    refine l_step rfl (o_val F (r_move F rfl) rfl ?_); clear F a; intro a F
    refine l_step rfl (o_val F (r_extract F rfl rfl) rfl ?_); clear F a; intro a F
    refine l_step rfl (o_val F (r_extract F rfl rfl) rfl ?_); clear F a; intro a F
    refine l_step rfl (o_alloc M F zer_State rfl ?_); clear F a; intro a W12 b4 M F
    refine l_step rfl (o_storeA M F rfl rfl agg_State.size (by repeat (first | exact Upd.here _ _ _ _ _ | apply Upd.there)) (by rfl) (by rfl) (by rfl) ?_); clear F a; intro a W13 M F
    refine l_step rfl (o_val F (r_assign F rfl) rfl ?_); clear F a; intro a F
    refine l_nil ?_
    refine hK10 _ _ ?_
    refine c_seq (fun K11 hK11 => ?_)
    refine wp_region_lit ?_
    refine l_step rfl (o_val F (r_load M F rfl (by repeat (first | exact List.mem_cons_self | apply List.mem_cons_of_mem)) agg_State (seg_all rfl)) rfl ?_); clear F a; intro a F
    refine l_step rfl (o_val F (r_move F rfl) rfl ?_); clear F a; intro a F
    refine l_step rfl (o_val F (r_move F rfl) rfl ?_); clear F a; intro a F
    refine l_step rfl (o_val F (r_add_u32 F (y := 1) rfl rfl) rfl ?_); clear F a; intro a F
    refine l_step rfl (o_val F (r_build F rfl (b_Diff_0_1 _ _)) rfl ?_); clear F a; intro a F
    refine l_step rfl (o_call M F rfl (c_merge_Apply (d := ⟨kd, (lastE s).n + 1, [], PState.zero⟩) M.imm hl1 (Ens.nil _) (Ens.nil _)) rfl ?_); clear F a; intro a W14 v14 G14 hp14 M E14 F
    have hl1 := hl1.mono E14.gl
    have hlit := hlit.mono E14.gl
    obtain ⟨l4, rfl, hl4⟩ := hp14
    refine l_step rfl (o_val F (r_move F rfl) rfl ?_); clear F a; intro a F
    refine l_step rfl (o_val F (r_extract F rfl rfl) rfl ?_); clear F a; intro a F
    refine l_step rfl (o_val F (r_extract F rfl rfl) rfl ?_); clear F a; intro a F
    refine l_step rfl (o_alloc M F zer_State rfl ?_); clear F a; intro a W15 b5 M F
    refine l_step rfl (o_storeA M F rfl rfl agg_State.size (by repeat (first | exact Upd.here _ _ _ _ _ | apply Upd.there)) (by rfl) (by rfl) (by rfl) ?_); clear F a; intro a W16 M F
    refine l_step rfl (o_val F (r_assign F rfl) rfl ?_); clear F a; intro a F
    refine l_nil ?_
    refine hK11 _ _ ?_
    refine c_seq (fun K12 hK12 => ?_)
    refine wp_region_lit ?_
    refine l_step rfl (o_val F (r_load M F rfl (by repeat (first | exact List.mem_cons_self | apply List.mem_cons_of_mem)) agg_State (seg_all rfl)) rfl ?_); clear F a; intro a F
    refine l_step rfl (o_val F (r_move F rfl) rfl ?_); clear F a; intro a F
    refine l_step rfl (o_val F (r_add_u32 F (y := 1) rfl rfl) rfl ?_); clear F a; intro a F
    refine l_step rfl (o_val F (r_build F rfl (b_Entry_1 _)) rfl ?_); clear F a; intro a F
    refine l_step rfl (o_val F (r_build F rfl (b_State_2 _)) rfl ?_); clear F a; intro a F
    refine l_step rfl (o_val F (r_build F rfl (b_Diff_0_3 0 _)) rfl ?_); clear F a; intro a F
    refine l_step rfl (o_call M F rfl (c_merge_Apply (d := ⟨0, 0, [], ⟨0, PBase.zero, ⟨0, (lastE s).n + 1, POp.zero⟩, []⟩⟩) M.imm hl1 (Ens.nil _) (Ens.nil _)) rfl ?_); clear F a; intro a W17 v17 G17 hp17 M E17 F
    have hl1 := hl1.mono E17.gl
    have hlit := hlit.mono E17.gl
    obtain ⟨l5, rfl, hl5⟩ := hp17
    refine l_step rfl (o_val F (r_move F rfl) rfl ?_); clear F a; intro a F
    refine l_step rfl (o_val F (r_extract F rfl rfl) rfl ?_); clear F a; intro a F
    refine l_step rfl (o_val F (r_extract F rfl rfl) rfl ?_); clear F a; intro a F
    refine l_step rfl (o_alloc M F zer_State rfl ?_); clear F a; intro a W18 b6 M F
    refine l_step rfl (o_storeA M F rfl rfl agg_State.size (by repeat (first | exact Upd.here _ _ _ _ _ | apply Upd.there)) (by rfl) (by rfl) (by rfl) ?_); clear F a; intro a W19 M F
    refine l_step rfl (o_val F (r_assign F rfl) rfl ?_); clear F a; intro a F
    refine l_nil ?_
    refine hK12 _ _ ?_
    refine c_seq (fun K13 hK13 => ?_)
    refine wp_region_lit ?_
    refine l_step rfl (o_val F (r_move F rfl) rfl ?_); clear F a; intro a F
    refine l_step rfl (o_val F (r_fieldAddr F rfl fld_State_2) rfl ?_); clear F a; intro a F
    refine l_step rfl (o_val F (r_fieldAddr F rfl fld_Entry_1) rfl ?_); clear F a; intro a F
    refine l_step rfl (o_val F (r_load1 M F rfl (by repeat (first | exact List.mem_cons_self | apply List.mem_cons_of_mem)) sca_u32 rfl) rfl ?_); clear F a; intro a F
    refine l_step rfl (o_val F (r_geq_u32 F rfl rfl) rfl ?_); clear F a; intro a F
    refine l_step rfl (o_val F (r_move F rfl) rfl ?_); clear F a; intro a F
    refine c_split F (i := 82) rfl (fun g82 => ?_) (fun g82 => ?_)
    · skip
      refine l_guard F rfl rfl rfl g82 (o_val F (r_move F rfl) rfl ?_); clear F a; intro a F
      refine l_guard F rfl rfl rfl g82 (o_val F (r_move F rfl) rfl ?_); clear F a; intro a F
      refine l_guard F rfl rfl rfl g82 (o_val F (r_leq_u32 F rfl rfl) rfl ?_); clear F a; intro a F
      refine l_step rfl (o_val F (r_pick_t F rfl g82 rfl) rfl ?_); clear F a; intro a F
      refine l_step rfl (o_val F (r_assign F rfl) rfl ?_); clear F a; intro a F
      refine l_nil ?_
      refine hK13 _ _ ?_
      refine c_seq (fun K14 hK14 => ?_)
      refine wp_region_lit ?_
      refine l_step rfl (o_val F (r_move F rfl) rfl ?_); clear F a; intro a F
      refine l_step rfl (o_val F (r_eql_i64 F rfl rfl) rfl ?_); clear F a; intro a F
      refine l_step rfl (o_val F (r_move F rfl) rfl ?_); clear F a; intro a F
      refine l_step rfl (o_val F (r_eql_bool F und_bool rfl rfl) rfl ?_); clear F a; intro a F
      refine l_step rfl (o_val F (r_move F rfl) rfl ?_); clear F a; intro a F
      refine l_guard F rfl rfl rfl (by have h := refuse_e hok x; have g := g82; simp only [ge_iff_le] at g; rw [show decide (s.tail.n ≤ x) = _ from g] at h; simp [h]) (o_val F (r_move F rfl) rfl ?_); clear F a; intro a F
      refine l_guard F rfl rfl rfl (by have h := refuse_e hok x; have g := g82; simp only [ge_iff_le] at g; rw [show decide (s.tail.n ≤ x) = _ from g] at h; simp [h]) (o_val F (r_eql_i64 F rfl rfl) rfl ?_); clear F a; intro a F
      refine l_step rfl (o_val F (r_pick_t F rfl (by have h := refuse_e hok x; have g := g82; simp only [ge_iff_le] at g; rw [show decide (s.tail.n ≤ x) = _ from g] at h; simp [h]) rfl) rfl ?_); clear F a; intro a F
      refine l_step rfl (o_val F (r_move F rfl) rfl ?_); clear F a; intro a F
      refine l_guard F rfl rfl rfl (decide_eq_true (refuse_f hok o)) (o_val F (r_move F rfl) rfl ?_); clear F a; intro a F
      refine l_guard F rfl rfl rfl (decide_eq_true (refuse_f hok o)) (o_val F (r_eql_i64 F rfl rfl) rfl ?_); clear F a; intro a F
      refine l_step rfl (o_val F (r_pick_t F rfl (decide_eq_true (refuse_f hok o)) rfl) rfl ?_); clear F a; intro a F
      refine l_step rfl (o_val F (r_move F rfl) rfl ?_); clear F a; intro a F
      refine l_guard F rfl rfl rfl (decide_eq_true (refuse_g hok hb kd)) (o_val F (r_move F rfl) rfl ?_); clear F a; intro a F
      refine l_guard F rfl rfl rfl (decide_eq_true (refuse_g hok hb kd)) (o_val F (r_eql_i64 F rfl rfl) rfl ?_); clear F a; intro a F
      refine l_step rfl (o_val F (r_pick_t F rfl (decide_eq_true (refuse_g hok hb kd)) rfl) rfl ?_); clear F a; intro a F
      refine l_step rfl (o_val F (r_assign F rfl) rfl ?_); clear F a; intro a F
      refine l_nil ?_
      refine hK14 _ _ ?_
      refine wp_ret ?_
      exact ret1 Try.results12 M F (rv_tmp F rfl) (congrArg Value.bool (decide_eq_true (refuse_h hok hb)))
    · skip
      iterate 3 (refine l_skip F rfl rfl rfl g82 rfl rfl ?_; clear F a; intro a F)
      refine l_step rfl (o_val F (r_pick_f F rfl g82 rfl) rfl ?_); clear F a; intro a F
      refine l_step rfl (o_val F (r_assign F rfl) rfl ?_); clear F a; intro a F
      refine l_nil ?_
      refine hK13 _ _ ?_
      refine c_seq (fun K15 hK15 => ?_)
      refine wp_region_lit ?_
      refine l_step rfl (o_val F (r_move F rfl) rfl ?_); clear F a; intro a F
      refine l_step rfl (o_val F (r_eql_i64 F rfl rfl) rfl ?_); clear F a; intro a F
      refine l_step rfl (o_val F (r_move F rfl) rfl ?_); clear F a; intro a F
      refine l_step rfl (o_val F (r_eql_bool F und_bool rfl rfl) rfl ?_); clear F a; intro a F
      refine l_step rfl (o_val F (r_move F rfl) rfl ?_); clear F a; intro a F
      refine l_guard F rfl rfl rfl (by have h := refuse_e hok x; have g := g82; simp only [ge_iff_le] at g; rw [show decide (s.tail.n ≤ x) = _ from g] at h; simp [h]) (o_val F (r_move F rfl) rfl ?_); clear F a; intro a F
      refine l_guard F rfl rfl rfl (by have h := refuse_e hok x; have g := g82; simp only [ge_iff_le] at g; rw [show decide (s.tail.n ≤ x) = _ from g] at h; simp [h]) (o_val F (r_eql_i64 F rfl rfl) rfl ?_); clear F a; intro a F
      refine l_step rfl (o_val F (r_pick_t F rfl (by have h := refuse_e hok x; have g := g82; simp only [ge_iff_le] at g; rw [show decide (s.tail.n ≤ x) = _ from g] at h; simp [h]) rfl) rfl ?_); clear F a; intro a F
      refine l_step rfl (o_val F (r_move F rfl) rfl ?_); clear F a; intro a F
      refine l_guard F rfl rfl rfl (decide_eq_true (refuse_f hok o)) (o_val F (r_move F rfl) rfl ?_); clear F a; intro a F
      refine l_guard F rfl rfl rfl (decide_eq_true (refuse_f hok o)) (o_val F (r_eql_i64 F rfl rfl) rfl ?_); clear F a; intro a F
      refine l_step rfl (o_val F (r_pick_t F rfl (decide_eq_true (refuse_f hok o)) rfl) rfl ?_); clear F a; intro a F
      refine l_step rfl (o_val F (r_move F rfl) rfl ?_); clear F a; intro a F
      refine l_guard F rfl rfl rfl (decide_eq_true (refuse_g hok hb kd)) (o_val F (r_move F rfl) rfl ?_); clear F a; intro a F
      refine l_guard F rfl rfl rfl (decide_eq_true (refuse_g hok hb kd)) (o_val F (r_eql_i64 F rfl rfl) rfl ?_); clear F a; intro a F
      refine l_step rfl (o_val F (r_pick_t F rfl (decide_eq_true (refuse_g hok hb kd)) rfl) rfl ?_); clear F a; intro a F
      refine l_step rfl (o_val F (r_assign F rfl) rfl ?_); clear F a; intro a F
      refine l_nil ?_
      refine hK15 _ _ ?_
      refine wp_ret ?_
      exact ret1 Try.results12 M F (rv_tmp F rfl) (congrArg Value.bool (decide_eq_true (refuse_h hok hb)))
end Go.Proofs.Ytfkmaepcjognkaa.Pad
