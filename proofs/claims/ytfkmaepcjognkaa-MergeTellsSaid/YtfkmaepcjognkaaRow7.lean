/- Walks: the statements' own helpers of layer 7. The rows are short. -/
import Derived.Test.YtfkmaepcjognkaaK7
namespace Go.Proofs.Ytfkmaepcjognkaa.Pad
open Go Go.Proofs
set_option linter.unusedVariables false
set_option maxRecDepth 8000
set_option linter.unusedSimpArgs false
def pRowStep (since : UInt32) (p : PState × List POp) (o : POp) : PState × List POp :=
  if (pAdd p.1 ⟨since % 60 + 1, (pHead p.1).2 + 1, o⟩).2 = 0 then ((pAdd p.1 ⟨since % 60 + 1, (pHead p.1).2 + 1, o⟩).1, p.2 ++ [o]) else p
def pRow (ops : List POp) (since : UInt32) : PState × List POp := ops.foldl (pRowStep since) (PState.zero, [])
abbrev Opl (G : Ghost) (l : Sl) (xs : List POp) : Prop := RdL G 6 POp.enc l xs
theorem Tip.opl {B : List Nat} {w : World} {G : Ghost} {E : Nat} {s : Sl} {xs : List POp} (h : Tip B w G E 6 s (xs.flatMap POp.enc)) : Opl G s xs :=
  ⟨h.rd, by have := h.rd.len; rw [flat_len (k := 6) (fun x => rfl)] at this; omega, fun x => rfl⟩
theorem row_snoc {ops : List POp} {since : UInt32} {i : Nat} {o : POp} (h : ops[i]? = some o) : pRow (ops.take (i + 1)) since = pRowStep since (pRow (ops.take i) since) o := by
  rw [take_of h, pRow, List.foldl_append]; rfl
theorem row_len (since : UInt32) : ∀ (ops : List POp) (p : PState × List POp), (ops.foldl (pRowStep since) p).2.length ≤ p.2.length + ops.length
  | [], p => Nat.le_refl _
  | o :: ops, p => by
    have := row_len since ops (pRowStep since p o)
    have h2 : (pRowStep since p o).2.length ≤ p.2.length + 1 := by unfold pRowStep; split <;> simp
    simp only [List.foldl_cons, List.length_cons]; omega
theorem u32_of {i : Nat} (h : i < 4294967296) : (UInt32.ofNat i).toNat = i := by rw [UInt32.toNat_ofNat']; exact Nat.mod_eq_of_lt h
theorem u32_succ {i : Nat} (h : i + 1 < 4294967296) : UInt32.ofNat i + 1 = UInt32.ofNat (i + 1) := by
  apply UInt32.toNat_inj.1
  rw [UInt32.toNat_add, u32_of (by omega), u32_of h]
  exact Nat.mod_eq_of_lt h
theorem k7_step {i : Nat} (h : i < 7) : (pAdd (k7 i) (k7e (UInt32.ofNat (i + 1)))).2 = 0 := of_decide_eq_true (List.all_eq_true.1 k7_ok i (List.mem_range.2 h))
theorem c_paddocklaw7_known {w : World} {G0 : Ghost} (hI : Imm G0 w)  : Ret P 17 [] [] w G0 (fun G W v => v = .bool true) := by
  refine enter Try.func17 rfl Try.ntmps17 rfl rfl hI (fun a F M => ?_)
  refine c_seq (fun K1 hK1 => ?_)
  refine wp_region_lit ?_
  refine l_step rfl (o_val F (r_assign F rfl) rfl ?_); clear F a; intro a F
  refine l_nil ?_
  refine hK1 _ _ ?_
  refine c_seq (fun K2 hK2 => ?_)
  refine wp_region_lit ?_
  refine l_step rfl (o_val F (r_build F rfl b_State) rfl ?_); clear F a; intro a F
  refine l_step rfl (o_alloc M F zer_State rfl ?_); clear F a; intro a W1 b1 M F
  refine l_step rfl (o_storeA M F rfl rfl agg_State.size (by repeat (first | exact Upd.here _ _ _ _ _ | apply Upd.there)) (by rfl) (by rfl) (by rfl) ?_); clear F a; intro a W2 M F
  refine l_nil ?_
  refine hK2 _ _ ?_
  refine c_seq (fun K3 hK3 => ?_)
  refine c_seq (fun K4 hK4 => ?_)
  refine wp_region_lit ?_
  refine l_step rfl (o_val F (r_assign F rfl) rfl ?_); clear F a; intro a F
  refine l_nil ?_
  refine hK4 _ _ ?_
  refine wp_block ?_
  refine c_loop (fun k a W => ∃ (i : Nat) (G : Ghost) (n : UInt32) (l : Sl), k = 7 - i ∧ i ≤ 7 ∧ Frm 72 [(2, .int .u32 (n.toNat : Int)), (1, .pointer (some ⟨b1, 0, none⟩))] a ∧ St [] w G0 W [⟨b1, 42, ((k7 i).at l).enc⟩] G ∧ (n = UInt32.ofNat (i + 1) ∧ Ens G l (k7 i).log)) (7) ?_ ?_
  · exact ⟨0, _, 1, Sl.nil, rfl, Nat.zero_le _, (F.cons (F.cons F.nil 1 rfl) 2 rfl), M, ⟨rfl, Ens.nil _⟩⟩
  · clear F M a; intro k a W hI; obtain ⟨i, G, n, l, hk, hi, F, M, hf⟩ := hI
    obtain ⟨rfl, hl⟩ := hf
    refine c_seq (fun K5 hK5 => ?_)
    refine c_seq (fun K6 hK6 => ?_)
    refine wp_region_lit ?_
    refine l_step rfl (o_val F (r_move F rfl) rfl ?_); clear F a; intro a F
    refine l_step rfl (o_val F (r_leq_u32 F (y := 7) rfl rfl) rfl ?_); clear F a; intro a F
    refine l_nil ?_
    refine hK6 _ _ ?_
    refine c_cond F rfl (fun g11 => ?_) (fun g11 => ?_)
    · skip
      have hlt : i < 7 := by have h := of_decide_eq_true g11; rw [UInt32.le_iff_toNat_le, u32_of (by omega)] at h; have e : (7 : UInt32).toNat = 7 := rfl; omega
      refine wp_skip ?_
      refine hK5 _ _ ?_
      refine c_seq (fun K7 hK7 => ?_)
      refine wp_block ?_
      refine c_seq (fun K8 hK8 => ?_)
      refine wp_region_lit ?_
      refine l_step rfl (o_val F (r_load M F rfl (by repeat (first | exact List.mem_cons_self | apply List.mem_cons_of_mem)) agg_State (seg_all rfl)) rfl ?_); clear F a; intro a F
      refine l_step rfl (o_val F (r_move F rfl) rfl ?_); clear F a; intro a F
      refine l_step rfl (o_val F (r_move F rfl) rfl ?_); clear F a; intro a F
      refine l_step rfl (o_val F (r_build F rfl (b_Op_0_1_2_5 1 _ 1 _)) rfl ?_); clear F a; intro a F
      refine l_step rfl (o_val F (r_build F rfl (b_Entry_0_1_2 1 _ _)) rfl ?_); clear F a; intro a F
      refine l_step rfl (o_call M F rfl (c_pglog_Add M.imm hl) rfl ?_); clear F a; intro a W3 v3 G3 hp3 M E3 F
      have hl := hl.mono E3.gl
      obtain ⟨l1, rfl, hl1⟩ := hp3
      refine l_step rfl (o_val F (r_move F rfl) rfl ?_); clear F a; intro a F
      refine l_step rfl (o_val F (r_extract F rfl rfl) rfl ?_); clear F a; intro a F
      refine l_step rfl (o_val F (r_extract F rfl rfl) rfl ?_); clear F a; intro a F
      refine l_step rfl (o_alloc M F zer_State rfl ?_); clear F a; intro a W4 b2 M F
      refine l_step rfl (o_storeA M F rfl rfl agg_State.size (by repeat (first | exact Upd.here _ _ _ _ _ | apply Upd.there)) (by rfl) (by rfl) (by rfl) ?_); clear F a; intro a W5 M F
      refine l_step rfl (o_val F (r_assign F rfl) rfl ?_); clear F a; intro a F
      refine l_nil ?_
      refine hK8 _ _ ?_
      refine c_seq (fun K9 hK9 => ?_)
      refine c_seq (fun K10 hK10 => ?_)
      refine wp_region_lit ?_
      refine l_step rfl (o_val F (r_move F rfl) rfl ?_); clear F a; intro a F
      refine l_step rfl (o_val F (r_neq_i64 F rfl rfl) rfl ?_); clear F a; intro a F
      refine l_nil ?_
      refine hK10 _ _ ?_
      refine c_false F rfl (by have h := k7_step hlt; unfold k7e at h; rw [h]; rfl : (!decide ((pAdd (k7 i) ⟨1, UInt32.ofNat (i + 1), ⟨1, UInt32.ofNat (i + 1), 1, 0, 0, ⟨#[97]⟩⟩⟩).2 = 0)) = false) ?_
      refine wp_skip ?_
      refine hK9 _ _ ?_
      refine wp_region_lit ?_
      refine l_step rfl (o_val F (r_load M F rfl (by repeat (first | exact List.mem_cons_self | apply List.mem_cons_of_mem)) agg_State (seg_all rfl)) rfl ?_); clear F a; intro a F
      refine l_step rfl (o_storeA M F rfl rfl agg_State.size (by repeat (first | exact Upd.here _ _ _ _ _ | apply Upd.there)) (by rfl) (by rfl) (by rfl) ?_); clear F a; intro a W6 M F
      refine l_nil ?_
      refine hK7 _ _ ?_
      refine wp_region_lit ?_
      refine l_step rfl (o_val F (r_move F rfl) rfl ?_); clear F a; intro a F
      refine l_step rfl (o_val F (r_add_u32 F (y := 1) rfl rfl) rfl ?_); clear F a; intro a F
      refine l_step rfl (o_val F (r_assign F rfl) rfl ?_); clear F a; intro a F
      refine l_nil ?_
      exact ⟨7 - (i + 1), by omega, i + 1, _, _, l1, rfl, by omega, (F.cons (F.cons F.nil 1 rfl) 2 rfl), M.drop (by repeat (first | exact List.Sublist.refl _ | apply List.Sublist.cons_cons | apply List.Sublist.cons)), ⟨u32_succ (by omega), hl1⟩⟩
    · skip
      have hge : i = 7 := by have h := of_decide_eq_false g11; rw [UInt32.le_iff_toNat_le, u32_of (by omega)] at h; have e : (7 : UInt32).toNat = 7 := rfl; omega
      subst hge
      have hlen := hl.len
      have hlen7 : ((k7 7).at l).log.len = 6 := by show l.len = 6; rw [hlen, k7_known.1.1]
      refine wp_exit ?_
      refine hK3 _ _ ?_
      refine c_seq (fun K11 hK11 => ?_)
      refine wp_region_lit ?_
      refine l_step rfl (o_val F (r_load M F rfl (by repeat (first | exact List.mem_cons_self | apply List.mem_cons_of_mem)) agg_State (seg_all rfl)) rfl ?_); clear F a; intro a F
      refine l_step rfl (o_val F (r_build F rfl (b_Op_0_1_2 1 9 4)) rfl ?_); clear F a; intro a F
      refine l_step rfl (o_val F (r_build F rfl (b_Entry_0_1_2 1 9 _)) rfl ?_); clear F a; intro a F
      refine l_step rfl (o_call M F rfl (c_pglog_Add M.imm hl) rfl ?_); clear F a; intro a W7 v7 G7 hp7 M E7 F
      have hl := hl.mono E7.gl
      obtain ⟨l2, rfl, hl2⟩ := hp7
      refine l_step rfl (o_val F (r_move F rfl) rfl ?_); clear F a; intro a F
      refine l_step rfl (o_val F (r_extract F rfl rfl) rfl ?_); clear F a; intro a F
      refine l_step rfl (o_val F (r_extract F rfl rfl) rfl ?_); clear F a; intro a F
      refine l_step rfl (o_alloc M F zer_State rfl ?_); clear F a; intro a W8 b3 M F
      refine l_step rfl (o_storeA M F rfl rfl agg_State.size (by repeat (first | exact Upd.here _ _ _ _ _ | apply Upd.there)) (by rfl) (by rfl) (by rfl) ?_); clear F a; intro a W9 M F
      refine l_step rfl (o_val F (r_assign F rfl) rfl ?_); clear F a; intro a F
      refine l_nil ?_
      refine hK11 _ _ ?_
      refine c_seq (fun K12 hK12 => ?_)
      refine wp_region_lit ?_
      refine l_step rfl (o_val F (r_load M F rfl (by repeat (first | exact List.mem_cons_self | apply List.mem_cons_of_mem)) agg_State (seg_all rfl)) rfl ?_); clear F a; intro a F
      refine l_step rfl (o_call M F rfl (c_pglog_Head M.imm hl) rfl ?_); clear F a; intro a W10 v10 G10 hp10 M E10 F
      have hl := hl.mono E10.gl
      subst hp10
      refine l_step rfl (o_val F (r_move F rfl) rfl ?_); clear F a; intro a F
      refine l_step rfl (o_val F (r_extract F rfl rfl) rfl ?_); clear F a; intro a F
      refine l_step rfl (o_val F (r_extract F rfl rfl) rfl ?_); clear F a; intro a F
      refine l_step rfl (o_val F (r_assign F rfl) rfl ?_); clear F a; intro a F
      refine l_step rfl (o_val F (r_assign F rfl) rfl ?_); clear F a; intro a F
      refine l_nil ?_
      refine hK12 _ _ ?_
      refine c_seq (fun K13 hK13 => ?_)
      refine wp_region_lit ?_
      refine l_step rfl (o_val F (r_fieldAddr F rfl fld_State_3) rfl ?_); clear F a; intro a F
      refine l_step rfl (o_val F (r_load1 M F rfl (by repeat (first | exact List.mem_cons_self | apply List.mem_cons_of_mem)) sca_Entries rfl) rfl ?_); clear F a; intro a F
      refine l_step rfl (o_val F (r_len_slice F slc_Entries.und rfl) rfl ?_); clear F a; intro a F
      refine l_step rfl (o_val F (r_eql_i64 F rfl rfl) rfl ?_); clear F a; intro a F
      refine l_step rfl (o_val F (r_move F rfl) rfl ?_); clear F a; intro a F
      refine l_guard F rfl rfl rfl (by rw [hlen7]; rfl) (o_val F (r_fieldAddr F rfl fld_State_2) rfl ?_); clear F a; intro a F
      refine l_guard F rfl rfl rfl (by rw [hlen7]; rfl) (o_val F (r_fieldAddr F rfl fld_Entry_1) rfl ?_); clear F a; intro a F
      refine l_guard F rfl rfl rfl (by rw [hlen7]; rfl) (o_val F (r_load1 M F rfl (by repeat (first | exact List.mem_cons_self | apply List.mem_cons_of_mem)) sca_u32 rfl) rfl ?_); clear F a; intro a F
      refine l_guard F rfl rfl rfl (by rw [hlen7]; rfl) (o_val F (r_eql_u32 F (y := 1) rfl rfl) rfl ?_); clear F a; intro a F
      refine l_step rfl (o_val F (r_pick_t F rfl (by rw [hlen7]; rfl) rfl) rfl ?_); clear F a; intro a F
      refine l_step rfl (o_val F (r_move F rfl) rfl ?_); clear F a; intro a F
      refine l_guard F rfl rfl rfl (decide_eq_true k7_known.1.2.1) (o_val F (r_move F rfl) rfl ?_); clear F a; intro a F
      refine l_guard F rfl rfl rfl (decide_eq_true k7_known.1.2.1) (o_val F (r_eql_u32 F (y := 1) rfl rfl) rfl ?_); clear F a; intro a F
      refine l_step rfl (o_val F (r_pick_t F rfl (decide_eq_true k7_known.1.2.1) rfl) rfl ?_); clear F a; intro a F
      refine l_step rfl (o_val F (r_move F rfl) rfl ?_); clear F a; intro a F
      refine l_guard F rfl rfl rfl (decide_eq_true (congrArg Prod.fst k7_known.1.2.2)) (o_val F (r_move F rfl) rfl ?_); clear F a; intro a F
      refine l_guard F rfl rfl rfl (decide_eq_true (congrArg Prod.fst k7_known.1.2.2)) (o_val F (r_eql_u32 F (y := 7) rfl rfl) rfl ?_); clear F a; intro a F
      refine l_step rfl (o_val F (r_pick_t F rfl (decide_eq_true (congrArg Prod.fst k7_known.1.2.2)) rfl) rfl ?_); clear F a; intro a F
      refine l_step rfl (o_val F (r_move F rfl) rfl ?_); clear F a; intro a F
      refine l_guard F rfl rfl rfl (decide_eq_true (congrArg Prod.snd k7_known.1.2.2)) (o_val F (r_move F rfl) rfl ?_); clear F a; intro a F
      refine l_guard F rfl rfl rfl (decide_eq_true (congrArg Prod.snd k7_known.1.2.2)) (o_val F (r_eql_i64 F rfl rfl) rfl ?_); clear F a; intro a F
      refine l_step rfl (o_val F (r_pick_t F rfl (decide_eq_true (congrArg Prod.snd k7_known.1.2.2)) rfl) rfl ?_); clear F a; intro a F
      refine l_step rfl (o_val F (r_move F rfl) rfl ?_); clear F a; intro a F
      refine l_guard F rfl rfl rfl (decide_eq_true k7_known.2.1) (o_val F (r_load M F rfl (by repeat (first | exact List.mem_cons_self | apply List.mem_cons_of_mem)) agg_State (seg_all rfl)) rfl ?_); clear F a; intro a F
      refine l_guard F rfl rfl rfl (decide_eq_true k7_known.2.1) (o_call M F rfl (c_pglog_Is M.imm hl) rfl ?_); clear F a; intro a W11 v11 G11 hp11 M E11 F
      have hl := hl.mono E11.gl
      subst hp11
      refine l_step rfl (o_val F (r_pick_t F rfl (decide_eq_true k7_known.2.1) rfl) rfl ?_); clear F a; intro a F
      refine l_step rfl (o_val F (r_move F rfl) rfl ?_); clear F a; intro a F
      refine l_guard F rfl rfl rfl k7_known.2.2.1 (o_val F (r_load M F rfl (by repeat (first | exact List.mem_cons_self | apply List.mem_cons_of_mem)) agg_State (seg_all rfl)) rfl ?_); clear F a; intro a F
      refine l_guard F rfl rfl rfl k7_known.2.2.1 (o_call M F rfl (c_pglog_Fold M.imm hl) rfl ?_); clear F a; intro a W12 v12 G12 hp12 M E12 F
      have hl := hl.mono E12.gl
      subst hp12
      refine l_guard F rfl rfl rfl k7_known.2.2.1 (o_val F (r_field F rfl fld_Base_0 agg_Objs g_Base_0) rfl ?_); clear F a; intro a F
      refine l_guard F rfl rfl rfl k7_known.2.2.1 (o_val F (r_index F rfl rfl arr_Objs agg_Obj (by omega) (by omega) (e_Objs (by omega))) rfl ?_); clear F a; intro a F
      refine l_guard F rfl rfl rfl k7_known.2.2.1 (o_val F (r_field1 F rfl fld_Obj_1 sca_string rfl) rfl ?_); clear F a; intro a F
      refine l_guard F rfl rfl rfl k7_known.2.2.1 (o_val F (r_eql_string F rfl rfl) rfl ?_); clear F a; intro a F
      refine l_step rfl (o_val F (r_pick_t F rfl k7_known.2.2.1 rfl) rfl ?_); clear F a; intro a F
      refine l_step rfl (o_val F (r_assign F rfl) rfl ?_); clear F a; intro a F
      refine l_nil ?_
      refine hK13 _ _ ?_
      refine wp_ret ?_
      exact ret1 Try.results17 M F (rv_tmp F rfl) (congrArg Value.bool (decide_eq_true (show ((pFold (k7 7)).obj 0).data = ⟨#[97]⟩ from k7_known.2.2.2)))
theorem c_paddocklaw7_row {w : World} {G0 : Ghost} (hI : Imm G0 w) {lo : Sl} {ops : List POp} {since : UInt32} (ho : Opl G0 lo ops) (hx : ops.length ≤ 1000) : Ret P 18 [lo.v, .int .u32 (since.toNat : Int)] [] w G0 (fun G W v => ∃ l d, v = .tuple #[agg (GState.enc ((pRow ops since).1.at l)), d.v] ∧ Ens G l (pRow ops since).1.log ∧ Opl G d (pRow ops since).2) := by
  refine enter Try.func18 rfl Try.ntmps18 rfl rfl hI (fun a F M => ?_)
  have hlen := ho.len
  refine c_seq (fun K1 hK1 => ?_)
  refine wp_region_lit ?_
  refine l_step rfl (o_alloc M F zer_State rfl ?_); clear F a; intro a W1 b1 M F
  refine l_step rfl (o_val F (r_assign F rfl) rfl ?_); clear F a; intro a F
  refine l_nil ?_
  refine hK1 _ _ ?_
  refine c_seq (fun K2 hK2 => ?_)
  refine wp_region_lit ?_
  refine l_step rfl (o_val F (r_build F rfl b_State) rfl ?_); clear F a; intro a F
  refine l_step rfl (o_alloc M F zer_State rfl ?_); clear F a; intro a W2 b2 M F
  refine l_step rfl (o_storeA M F rfl rfl agg_State.size (by repeat (first | exact Upd.here _ _ _ _ _ | apply Upd.there)) (by rfl) (by rfl) (by rfl) ?_); clear F a; intro a W3 M F
  refine l_nil ?_
  refine hK2 _ _ ?_
  refine c_seq (fun K3 hK3 => ?_)
  refine wp_region_lit ?_
  refine l_step rfl (o_val F (r_assign F rfl) rfl ?_); clear F a; intro a F
  refine l_nil ?_
  refine hK3 _ _ ?_
  refine c_seq (fun K4 hK4 => ?_)
  refine c_seq (fun K5 hK5 => ?_)
  refine wp_region_lit ?_
  refine l_step rfl (o_val F (r_assign F rfl) rfl ?_); clear F a; intro a F
  refine l_nil ?_
  refine hK5 _ _ ?_
  refine wp_block ?_
  refine c_loop (fun k a W => ∃ (i : Nat) (G : Ghost) (l : Sl) (dn : Sl), k = ops.length - i ∧ i ≤ ops.length ∧ Frm 52 [(8, .int .i64 (i : Int)), (0, lo.v), (1, .int .u32 (since.toNat : Int)), (7, dn.v), (6, .pointer (some ⟨b2, 0, none⟩)), (4, .pointer (some ⟨b1, 0, none⟩))] a ∧ St [] w G0 W [⟨b2, 42, ((pRow (ops.take i) since).1.at l).enc⟩, ⟨b1, 42, GState.enc ⟨0, PBase.zero, PEntry.zero, Sl.nil⟩⟩] G ∧ (Ens G l (pRow (ops.take i) since).1.log ∧ Tip [] w G 25 6 dn ((pRow (ops.take i) since).2.flatMap POp.enc))) (ops.length) ?_ ?_
  · exact ⟨0, _, Sl.nil, Sl.nil, rfl, Nat.zero_le _, (F.cons (F.cons (F.cons (F.cons (F.cons (F.cons F.nil 4 rfl) 6 rfl) 7 rfl) 1 rfl) 0 rfl) 8 rfl), M, ⟨Ens.nil _, Tip.nil _ _ _ _ _⟩⟩
  · clear F M a; intro k a W hI; obtain ⟨i, G, l, dn, hk, hi, F, M, hf⟩ := hI
    obtain ⟨hl, ht⟩ := hf
    refine c_seq (fun K6 hK6 => ?_)
    refine c_seq (fun K7 hK7 => ?_)
    refine wp_region_lit ?_
    refine l_step rfl (o_val F (r_move F rfl) rfl ?_); clear F a; intro a F
    refine l_step rfl (o_val F (r_move F rfl) rfl ?_); clear F a; intro a F
    refine l_step rfl (o_val F (r_len_slice F slc_Ops.und rfl) rfl ?_); clear F a; intro a F
    refine l_step rfl (o_val F (r_lss_i64 F rfl rfl) rfl ?_); clear F a; intro a F
    refine l_nil ?_
    refine hK7 _ _ ?_
    refine c_cond F rfl (fun g17 => ?_) (fun g17 => ?_)
    · skip
      have hlt : i < ops.length := by have h := of_decide_eq_true g17; omega
      obtain ⟨x, hx1⟩ := get_of hlt
      have hrow := row_snoc (since := since) hx1
      rw [pRowStep] at hrow
      have hdl : (pRow (ops.take i) since).2.length ≤ 0 + (ops.take i).length := row_len since (ops.take i) (PState.zero, [])
      have htl := ht.opl.len
      rw [List.length_take] at hdl
      refine wp_skip ?_
      refine hK6 _ _ ?_
      refine c_seq (fun K8 hK8 => ?_)
      refine wp_block ?_
      refine c_seq (fun K9 hK9 => ?_)
      refine wp_region_lit ?_
      refine l_step rfl (o_val F (r_load M F rfl (by repeat (first | exact List.mem_cons_self | apply List.mem_cons_of_mem)) agg_State (seg_all rfl)) rfl ?_); clear F a; intro a F
      have Mo := M
      refine l_step rfl (o_call M F rfl (c_pglog_Head M.imm hl) rfl ?_); clear F a; intro a W4 v4 G4 hp4 M E4 F
      have hl := hl.mono E4.gl
      have ht := ht.keep Mo.imm (fun k hk => E4.go k hk (by simp))
      subst hp4
      refine l_step rfl (o_val F (r_move F rfl) rfl ?_); clear F a; intro a F
      refine l_step rfl (o_val F (r_extract F rfl rfl) rfl ?_); clear F a; intro a F
      refine l_step rfl (o_val F (r_extract F rfl rfl) rfl ?_); clear F a; intro a F
      refine l_step rfl (o_val F (r_assign F rfl) rfl ?_); clear F a; intro a F
      refine l_step rfl (o_val F (r_assign F rfl) rfl ?_); clear F a; intro a F
      refine l_nil ?_
      refine hK9 _ _ ?_
      refine c_seq (fun K10 hK10 => ?_)
      refine c_drawM M [] mixed (fun M => ?_)
      have Ms := M
      have hq1 := Keeps.here M
      have hle1 := M.gle
      refine t_take (i := 0) F rfl rfl hq1 (fun _ ⟨_, _, M'⟩ => r_load M' F rfl (by repeat (first | exact List.mem_cons_self | apply List.mem_cons_of_mem)) agg_State (seg_all rfl)) (fun _ _ _ h => h) (by kernel_rfl) (by kernel_rfl) (by kernel_rfl) (by kernel_rfl) ?_; clear F a; intro a F
      refine t_take (i := 1) F rfl rfl hq1 (fun _ _ => r_move F rfl) (fun _ _ _ h => h) (by kernel_rfl) (by kernel_rfl) (by kernel_rfl) (by kernel_rfl) ?_; clear F a; intro a F
      refine t_take (i := 2) F rfl rfl hq1 (fun _ _ => r_rem_u32 F (y := 60) rfl rfl (by decide)) (fun _ _ _ h => h) (by kernel_rfl) (by kernel_rfl) (by kernel_rfl) (by kernel_rfl) ?_; clear F a; intro a F
      refine t_take (i := 3) F rfl rfl hq1 (fun _ _ => r_add_u32 F (y := 1) rfl rfl) (fun _ _ _ h => h) (by kernel_rfl) (by kernel_rfl) (by kernel_rfl) (by kernel_rfl) ?_; clear F a; intro a F
      refine t_take (i := 4) F rfl rfl hq1 (fun _ _ => r_move F rfl) (fun _ _ _ h => h) (by kernel_rfl) (by kernel_rfl) (by kernel_rfl) (by kernel_rfl) ?_; clear F a; intro a F
      refine t_take (i := 5) F rfl rfl hq1 (fun _ _ => r_add_u32 F (y := 1) rfl rfl) (fun _ _ _ h => h) (by kernel_rfl) (by kernel_rfl) (by kernel_rfl) (by kernel_rfl) ?_; clear F a; intro a F
      refine t_take (i := 6) F rfl rfl hq1 (fun _ _ => r_move F rfl) (fun _ _ _ h => h) (by kernel_rfl) (by kernel_rfl) (by kernel_rfl) (by kernel_rfl) ?_; clear F a; intro a F
      refine t_take (i := 7) F rfl rfl hq1 (fun _ _ => r_move F rfl) (fun _ _ _ h => h) (by kernel_rfl) (by kernel_rfl) (by kernel_rfl) (by kernel_rfl) ?_; clear F a; intro a F
      obtain ⟨eb, eo, er, ha34, hG34, hS34⟩ := (ho.mono Ms.gl).elem hx1
      refine t_take (i := 8) F rfl rfl hq1 (fun _ _ => r_indexSl F rfl rfl slc_Ops ha34 (by omega) (by omega)) (fun _ _ _ h => h) (by kernel_rfl) (by kernel_rfl) (by kernel_rfl) (by kernel_rfl) ?_; clear F a; intro a F
      refine t_take (i := 9) F rfl rfl hq1 (fun _ ⟨_, hg, M'⟩ => r_loadrG hg M' F rfl hG34 agg_Op hS34) (fun _ _ _ h => h) (by kernel_rfl) (by kernel_rfl) (by kernel_rfl) (by kernel_rfl) ?_; clear F a; intro a F
      refine t_take (i := 10) F rfl rfl hq1 (fun _ _ => r_build F rfl (b_Entry_0_1_2 _ _ _)) (fun _ _ _ h => h) (by kernel_rfl) (by kernel_rfl) (by kernel_rfl) (by kernel_rfl) ?_; clear F a; intro a F
      refine t_two (i := 11) (i' := 15) (by kernel_rfl) rfl rfl rfl rfl ?_ ?_
      · skip
        have Mo := M
        refine id (o_call M F rfl (c_pglog_Add M.imm hl) rfl ?_); clear F a; intro a W5 v5 G5 hp5 M E5 F
        have hl := hl.mono E5.gl
        have ht := ht.keep Mo.imm (fun k hk => E5.go k hk (by simp))
        obtain ⟨l1, rfl, hl1⟩ := hp5
        have hle1 := hle1.trans E5.gl
        refine keepAnd (Keeps.mk hle1 M (by repeat (first | exact List.Sublist.refl _ | apply List.Sublist.cons_cons | apply List.Sublist.cons))) (fun hq1 => ?_)
        refine t_take (i := 12) F rfl rfl hq1 (fun _ _ => r_move F rfl) (fun _ _ _ h => h) (by kernel_rfl) (by kernel_rfl) (by kernel_rfl) (by kernel_rfl) ?_; clear F a; intro a F
        refine t_take (i := 13) F rfl rfl hq1 (fun _ _ => r_extract F rfl rfl) (fun _ _ _ h => h) (by kernel_rfl) (by kernel_rfl) (by kernel_rfl) (by kernel_rfl) ?_; clear F a; intro a F
        refine t_take (i := 14) F rfl rfl hq1 (fun _ _ => r_extract F rfl rfl) (fun _ _ _ h => h) (by kernel_rfl) (by kernel_rfl) (by kernel_rfl) (by kernel_rfl) ?_; clear F a; intro a F
        refine t_one (i := 15) (by kernel_rfl) rfl rfl (o_alloc M F zer_State rfl ?_); clear F a; intro a W6 b3 M F
        refine keepAnd (Keeps.mk hle1 M (by repeat (first | exact List.Sublist.refl _ | apply List.Sublist.cons_cons | apply List.Sublist.cons))) (fun hq1 => ?_)
        refine t_one (i := 16) (by kernel_rfl) rfl rfl (o_storeA M F rfl rfl agg_State.size (by repeat (first | exact Upd.here _ _ _ _ _ | apply Upd.there)) (by rfl) (by rfl) (by rfl) ?_); clear F a; intro a W7 M F
        refine keepAnd (Keeps.mk hle1 M (by repeat (first | exact List.Sublist.refl _ | apply List.Sublist.cons_cons | apply List.Sublist.cons))) (fun hq1 => ?_)
        refine t_take (i := 17) F rfl rfl hq1 (fun _ _ => r_assign F rfl) (fun _ _ _ h => h) (by kernel_rfl) (by kernel_rfl) (by kernel_rfl) (by kernel_rfl) ?_; clear F a; intro a F
        refine t_done (by kernel_rfl) ?_ _
        refine hK10 _ _ ?_
        refine c_seq (fun K11 hK11 => ?_)
        refine wp_region_lit ?_
        refine l_step rfl (o_val F (r_move F rfl) rfl ?_); clear F a; intro a F
        refine l_step rfl (o_val F (r_eql_i64 F rfl rfl) rfl ?_); clear F a; intro a F
        refine l_nil ?_
        refine hK11 _ _ ?_
        refine c_cond F rfl (fun g41 => ?_) (fun g41 => ?_)
        · skip
          refine c_seq (fun K12 hK12 => ?_)
          refine wp_region_lit ?_
          refine l_step rfl (o_val F (r_load M F rfl (by repeat (first | exact List.mem_cons_self | apply List.mem_cons_of_mem)) agg_State (seg_all rfl)) rfl ?_); clear F a; intro a F
          refine l_step rfl (o_storeA M F rfl rfl agg_State.size (by repeat (first | exact Upd.here _ _ _ _ _ | apply Upd.there)) (by rfl) (by rfl) (by rfl) ?_); clear F a; intro a W8 M F
          refine l_nil ?_
          refine hK12 _ _ ?_
          refine wp_region_lit ?_
          refine l_step rfl (o_val F (r_move F rfl) rfl ?_); clear F a; intro a F
          refine l_step rfl (o_val F (r_move F rfl) rfl ?_); clear F a; intro a F
          refine l_step rfl (o_val F (r_move F rfl) rfl ?_); clear F a; intro a F
          obtain ⟨eb, eo, er, ha46, hG46, hS46⟩ := (ho.mono M.gl).elem hx1
          refine l_step rfl (o_val F (r_indexSl F rfl rfl slc_Ops ha46 (by omega) (by omega)) rfl ?_); clear F a; intro a F
          refine l_step rfl (o_val F (r_loadr M F rfl hG46 agg_Op hS46) rfl ?_); clear F a; intro a F
          refine l_step rfl (o_bslice1 M F slc_Ops zer_Op rfl rfl rfl rfl ?_); clear F a; intro a W9 S9 G9 hg9 hl9 hn9 hs9 F
          have ht := ht.keep M.imm hs9
          have M := hg9.st
          have hl := hl.mono hg9.le
          have hl1 := hl1.mono hg9.le
          have hlit := hg9.tip.rd
          have hlitlen := hl9
          refine l_step rfl (o_append M F slc_Ops app_Op rfl rfl ht hlit rfl (by omega) (by omega) rfl ?_); clear F a; intro a W10 Sa Ga hga hla hna F
          have hl := hl.mono hga.le
          have hl1 := hl1.mono hga.le
          have hlit := hlit.mono hga.le
          have M := hga.st
          refine l_step rfl (o_val F (r_assign F rfl) rfl ?_); clear F a; intro a F
          refine l_nil ?_
          refine hK8 _ _ ?_
          refine wp_region_lit ?_
          refine l_step rfl (o_val F (r_move F rfl) rfl ?_); clear F a; intro a F
          refine l_step rfl (o_val F (r_add_i64 F rfl rfl (by omega)) rfl ?_); clear F a; intro a F
          refine l_step rfl (o_val F (r_assign F rfl) rfl ?_); clear F a; intro a F
          refine l_nil ?_
          rw [if_pos (of_decide_eq_true g41)] at hrow
          exact ⟨ops.length - (i + 1), by omega, i + 1, _, l1, Sa, rfl, by omega, (F.cons (F.cons (F.cons (F.cons (F.cons (F.cons F.nil 4 rfl) 6 rfl) 7 rfl) 1 rfl) 0 rfl) 8 rfl), (by rw [hrow]; exact M.drop (by repeat (first | exact List.Sublist.refl _ | apply List.Sublist.cons_cons | apply List.Sublist.cons))), (by rw [hrow]; exact ⟨hl1, by rw [List.flatMap_append]; exact hga.tip⟩)⟩
        · skip
          refine wp_skip ?_
          refine hK8 _ _ ?_
          refine wp_region_lit ?_
          refine l_step rfl (o_val F (r_move F rfl) rfl ?_); clear F a; intro a F
          refine l_step rfl (o_val F (r_add_i64 F rfl rfl (by omega)) rfl ?_); clear F a; intro a F
          refine l_step rfl (o_val F (r_assign F rfl) rfl ?_); clear F a; intro a F
          refine l_nil ?_
          rw [if_neg (of_decide_eq_false g41)] at hrow
          exact ⟨ops.length - (i + 1), by omega, i + 1, _, l, dn, rfl, by omega, (F.cons (F.cons (F.cons (F.cons (F.cons (F.cons F.nil 4 rfl) 6 rfl) 7 rfl) 1 rfl) 0 rfl) 8 rfl), (by rw [hrow]; exact M.drop (by repeat (first | exact List.Sublist.refl _ | apply List.Sublist.cons_cons | apply List.Sublist.cons))), (by rw [hrow]; exact ⟨hl, ht⟩)⟩
      · skip
        refine id (o_alloc M F zer_State rfl ?_); clear F a; intro a W11 b4 M F
        refine keepAnd (Keeps.mk hle1 M (by repeat (first | exact List.Sublist.refl _ | apply List.Sublist.cons_cons | apply List.Sublist.cons))) (fun hq1 => ?_)
        have Mo := M
        refine t_one (i := 11) (by kernel_rfl) rfl rfl (o_call M F rfl (c_pglog_Add M.imm hl) rfl ?_); clear F a; intro a W12 v12 G12 hp12 M E12 F
        have hl := hl.mono E12.gl
        have ht := ht.keep Mo.imm (fun k hk => E12.go k hk (by simp))
        obtain ⟨l1, rfl, hl1⟩ := hp12
        have hle1 := hle1.trans E12.gl
        refine keepAnd (Keeps.mk hle1 M (by repeat (first | exact List.Sublist.refl _ | apply List.Sublist.cons_cons | apply List.Sublist.cons))) (fun hq1 => ?_)
        refine t_take (i := 12) F rfl rfl hq1 (fun _ _ => r_move F rfl) (fun _ _ _ h => h) (by kernel_rfl) (by kernel_rfl) (by kernel_rfl) (by kernel_rfl) ?_; clear F a; intro a F
        refine t_take (i := 13) F rfl rfl hq1 (fun _ _ => r_extract F rfl rfl) (fun _ _ _ h => h) (by kernel_rfl) (by kernel_rfl) (by kernel_rfl) (by kernel_rfl) ?_; clear F a; intro a F
        refine t_take (i := 14) F rfl rfl hq1 (fun _ _ => r_extract F rfl rfl) (fun _ _ _ h => h) (by kernel_rfl) (by kernel_rfl) (by kernel_rfl) (by kernel_rfl) ?_; clear F a; intro a F
        refine t_one (i := 16) (by kernel_rfl) rfl rfl (o_storeA M F rfl rfl agg_State.size (by repeat (first | exact Upd.here _ _ _ _ _ | apply Upd.there)) (by rfl) (by rfl) (by rfl) ?_); clear F a; intro a W13 M F
        refine keepAnd (Keeps.mk hle1 M (by repeat (first | exact List.Sublist.refl _ | apply List.Sublist.cons_cons | apply List.Sublist.cons))) (fun hq1 => ?_)
        refine t_take (i := 17) F rfl rfl hq1 (fun _ _ => r_assign F rfl) (fun _ _ _ h => h) (by kernel_rfl) (by kernel_rfl) (by kernel_rfl) (by kernel_rfl) ?_; clear F a; intro a F
        refine t_done (by kernel_rfl) ?_ _
        refine hK10 _ _ ?_
        refine c_seq (fun K13 hK13 => ?_)
        refine wp_region_lit ?_
        refine l_step rfl (o_val F (r_move F rfl) rfl ?_); clear F a; intro a F
        refine l_step rfl (o_val F (r_eql_i64 F rfl rfl) rfl ?_); clear F a; intro a F
        refine l_nil ?_
        refine hK13 _ _ ?_
        refine c_cond F rfl (fun g41 => ?_) (fun g41 => ?_)
        · skip
          refine c_seq (fun K14 hK14 => ?_)
          refine wp_region_lit ?_
          refine l_step rfl (o_val F (r_load M F rfl (by repeat (first | exact List.mem_cons_self | apply List.mem_cons_of_mem)) agg_State (seg_all rfl)) rfl ?_); clear F a; intro a F
          refine l_step rfl (o_storeA M F rfl rfl agg_State.size (by repeat (first | exact Upd.here _ _ _ _ _ | apply Upd.there)) (by rfl) (by rfl) (by rfl) ?_); clear F a; intro a W14 M F
          refine l_nil ?_
          refine hK14 _ _ ?_
          refine wp_region_lit ?_
          refine l_step rfl (o_val F (r_move F rfl) rfl ?_); clear F a; intro a F
          refine l_step rfl (o_val F (r_move F rfl) rfl ?_); clear F a; intro a F
          refine l_step rfl (o_val F (r_move F rfl) rfl ?_); clear F a; intro a F
          obtain ⟨eb, eo, er, ha46, hG46, hS46⟩ := (ho.mono M.gl).elem hx1
          refine l_step rfl (o_val F (r_indexSl F rfl rfl slc_Ops ha46 (by omega) (by omega)) rfl ?_); clear F a; intro a F
          refine l_step rfl (o_val F (r_loadr M F rfl hG46 agg_Op hS46) rfl ?_); clear F a; intro a F
          refine l_step rfl (o_bslice1 M F slc_Ops zer_Op rfl rfl rfl rfl ?_); clear F a; intro a W15 S15 G15 hg15 hl15 hn15 hs15 F
          have ht := ht.keep M.imm hs15
          have M := hg15.st
          have hl := hl.mono hg15.le
          have hl1 := hl1.mono hg15.le
          have hlit := hg15.tip.rd
          have hlitlen := hl15
          refine l_step rfl (o_append M F slc_Ops app_Op rfl rfl ht hlit rfl (by omega) (by omega) rfl ?_); clear F a; intro a W16 Sa Ga hga hla hna F
          have hl := hl.mono hga.le
          have hl1 := hl1.mono hga.le
          have hlit := hlit.mono hga.le
          have M := hga.st
          refine l_step rfl (o_val F (r_assign F rfl) rfl ?_); clear F a; intro a F
          refine l_nil ?_
          refine hK8 _ _ ?_
          refine wp_region_lit ?_
          refine l_step rfl (o_val F (r_move F rfl) rfl ?_); clear F a; intro a F
          refine l_step rfl (o_val F (r_add_i64 F rfl rfl (by omega)) rfl ?_); clear F a; intro a F
          refine l_step rfl (o_val F (r_assign F rfl) rfl ?_); clear F a; intro a F
          refine l_nil ?_
          rw [if_pos (of_decide_eq_true g41)] at hrow
          exact ⟨ops.length - (i + 1), by omega, i + 1, _, l1, Sa, rfl, by omega, (F.cons (F.cons (F.cons (F.cons (F.cons (F.cons F.nil 4 rfl) 6 rfl) 7 rfl) 1 rfl) 0 rfl) 8 rfl), (by rw [hrow]; exact M.drop (by repeat (first | exact List.Sublist.refl _ | apply List.Sublist.cons_cons | apply List.Sublist.cons))), (by rw [hrow]; exact ⟨hl1, by rw [List.flatMap_append]; exact hga.tip⟩)⟩
        · skip
          refine wp_skip ?_
          refine hK8 _ _ ?_
          refine wp_region_lit ?_
          refine l_step rfl (o_val F (r_move F rfl) rfl ?_); clear F a; intro a F
          refine l_step rfl (o_val F (r_add_i64 F rfl rfl (by omega)) rfl ?_); clear F a; intro a F
          refine l_step rfl (o_val F (r_assign F rfl) rfl ?_); clear F a; intro a F
          refine l_nil ?_
          rw [if_neg (of_decide_eq_false g41)] at hrow
          exact ⟨ops.length - (i + 1), by omega, i + 1, _, l, dn, rfl, by omega, (F.cons (F.cons (F.cons (F.cons (F.cons (F.cons F.nil 4 rfl) 6 rfl) 7 rfl) 1 rfl) 0 rfl) 8 rfl), (by rw [hrow]; exact M.drop (by repeat (first | exact List.Sublist.refl _ | apply List.Sublist.cons_cons | apply List.Sublist.cons))), (by rw [hrow]; exact ⟨hl, ht⟩)⟩
    · skip
      have hge : i = ops.length := by have h := of_decide_eq_false g17; omega
      rw [hge, List.take_length] at hl ht M
      refine wp_exit ?_
      refine hK4 _ _ ?_
      refine c_seq (fun K15 hK15 => ?_)
      refine wp_region_lit ?_
      refine l_step rfl (o_val F (r_load M F rfl (by repeat (first | exact List.mem_cons_self | apply List.mem_cons_of_mem)) agg_State (seg_all rfl)) rfl ?_); clear F a; intro a F
      refine l_step rfl (o_val F (r_move F rfl) rfl ?_); clear F a; intro a F
      refine l_step rfl (o_storeA M F rfl rfl agg_State.size (by repeat (first | exact Upd.here _ _ _ _ _ | apply Upd.there)) (by rfl) (by rfl) (by rfl) ?_); clear F a; intro a W17 M F
      refine l_step rfl (o_val F (r_assign F rfl) rfl ?_); clear F a; intro a F
      refine l_nil ?_
      refine hK15 _ _ ?_
      refine wp_ret ?_
      exact ret2 Try.results18 M F (rv_cell M F rfl (by repeat (first | exact List.mem_cons_self | apply List.mem_cons_of_mem)) agg_State rfl) (rv_tmp F rfl) (⟨l, dn, rfl, hl, ht.opl⟩)
end Go.Proofs.Ytfkmaepcjognkaa.Pad
