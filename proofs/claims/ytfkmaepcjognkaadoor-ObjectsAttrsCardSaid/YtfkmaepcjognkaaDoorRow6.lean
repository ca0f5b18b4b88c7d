/- Walks: the laws of the objects. Strings of the base are no longer than memory. -/
import Derived.Test.YtfkmaepcjognkaaDoorRead
namespace Go.Proofs.YtfkmaepcjognkaaDoor.Pad
open Go Go.Proofs
set_option linter.unusedVariables false
set_option maxRecDepth 8000
set_option maxHeartbeats 4000000
set_option linter.unusedSimpArgs false
def Wide (b : PBase) : Prop := ∀ i, (b.obj i).data.size ≤ 1000000000000000 ∧ ∀ k, ((b.obj i).attr k).size ≤ 1000000000000000
theorem Short.few {b : PBase} (h : Short b) : Few b := fun i => (h i).1
theorem zero_short : Short PBase.zero := fun i => by
  match i with
  | 0 | 1 | 2 | 3 | 4 => exact ⟨Nat.zero_le _, fun k => by match k with | 0 | 1 => exact Nat.zero_le _ | k + 2 => exact Nat.zero_le _⟩
  | i + 5 => exact ⟨Nat.zero_le _, fun k => by match k with | 0 | 1 => exact Nat.zero_le _ | k + 2 => exact Nat.zero_le _⟩
theorem obj_big (b : PBase) (i : Nat) : b.obj i = b.obj (min i 5) := by
  match i with
  | 0 | 1 | 2 | 3 | 4 => rfl
  | i + 5 => rw [show min (i + 5) 5 = 5 by omega]; rfl
def szTo (x : PObj) : Nat → Int
  | 0 => (x.data.size : Int)
  | k + 1 => szTo x k + ((x.attr k).size : Int)
theorem szTo_le {b : PBase} (hw : Wide b) (i : Nat) : ∀ k, 0 ≤ szTo (b.obj i) k ∧ szTo (b.obj i) k ≤ 1000000000000000 * (k + 1)
  | 0 => by have := (hw i).1; simp only [szTo]; omega
  | k + 1 => by have h1 := szTo_le hw i k; have h2 := (hw i).2 k; simp only [szTo]; omega
theorem short_of {b : PBase} (h : ∀ q, q < 6 → szTo (b.obj q) 3 ≤ 300) : Short b := fun i => by
  rw [obj_big]
  have h1 := h (min i 5) (by omega)
  simp only [szTo] at h1
  refine ⟨by omega, fun k => ?_⟩
  rw [attr_big]
  have hk : min k 2 = 0 ∨ min k 2 = 1 ∨ min k 2 = 2 := by omega
  rcases hk with e | e | e <;> rw [e] <;> omega
def ob1 : POp := ⟨1, 1, 1, 0, 1, ⟨#[97, 98]⟩⟩
def ob2 : POp := ⟨2, 1, 4, 3, 0, ⟨#[]⟩⟩
theorem known6 : (pDo PBase.zero ob1).2.code = 0 ∧ ((pDo PBase.zero ob1).1.obj 0).there = true ∧ ((pDo PBase.zero ob1).1.obj 0).data = ⟨#[0, 97, 98]⟩ ∧ ((pDo PBase.zero ob1).1.last 0).seq = 1 ∧ (pDo (pDo PBase.zero ob1).1 ob2).2.code = 1 := by decide +kernel
theorem g_Base_0_i_2_i {s : PBase} {k j : Nat} (h : k < 6 ∧ j < 3) : s.enc[0 + k * 5 + 2 + j * 1]? = some (.string ((s.obj k).attr j)) := match k, j, h with | 0, 0, _ => rfl | 0, 1, _ => rfl | 0, 2, _ => rfl | 1, 0, _ => rfl | 1, 1, _ => rfl | 1, 2, _ => rfl | 2, 0, _ => rfl | 2, 1, _ => rfl | 2, 2, _ => rfl | 3, 0, _ => rfl | 3, 1, _ => rfl | 3, 2, _ => rfl | 4, 0, _ => rfl | 4, 1, _ => rfl | 4, 2, _ => rfl | 5, 0, _ => rfl | 5, 1, _ => rfl | 5, 2, _ => rfl | k + 6, _, h => absurd h.1 (by omega) | _, j + 3, h => absurd h.2 (by omega)
theorem few1 : Few (pDo PBase.zero ob1).1 := few_do zero_short.few
theorem c_paddocklaw6_known {w : World} {G0 : Ghost} (hI : Imm G0 w)  : Ret P 10 [] [] w G0 (fun G W v => v = .bool true) := by
  refine enter Tryd.func10 rfl Tryd.ntmps10 rfl rfl hI (fun a F M => ?_)
  have hk22 : (0 : Int).toNat < 6 := by decide
  have hk28 := hk22
  have hk35 : (0 : Int).toNat < 3 := by decide
  refine c_seq (fun K1 hK1 => ?_)
  refine wp_region_lit ?_
  refine l_step rfl (o_val F (r_assign F rfl) rfl ?_); clear F a; intro a F
  refine l_nil ?_
  refine hK1 _ _ ?_
  refine c_seq (fun K2 hK2 => ?_)
  refine wp_region_lit ?_
  refine l_step rfl (o_val F (r_build F rfl b_Base) rfl ?_); clear F a; intro a F
  refine l_step rfl (o_val F (r_build F rfl (b_Op_0_1_2_4_5 1 1 1 1 _)) rfl ?_); clear F a; intro a F
  refine l_step rfl (o_call M F rfl (c_objects_Do (b := PBase.zero) (o := ob1) M.imm zero_short.few) rfl ?_); clear F a; intro a W1 v1 G1 hp1 M E1 F
  subst hp1
  refine l_step rfl (o_val F (r_move F rfl) rfl ?_); clear F a; intro a F
  refine l_step rfl (o_val F (r_extract F rfl rfl) rfl ?_); clear F a; intro a F
  refine l_step rfl (o_val F (r_extract F rfl rfl) rfl ?_); clear F a; intro a F
  refine l_step rfl (o_alloc M F zer_Base rfl ?_); clear F a; intro a W2 b1 M F
  refine l_step rfl (o_alloc M F zer_Res rfl ?_); clear F a; intro a W3 b2 M F
  refine l_step rfl (o_storeA M F rfl rfl agg_Base.size (by repeat (first | exact Upd.here _ _ _ _ _ | apply Upd.there)) (by rfl) (by rfl) (by rfl) ?_); clear F a; intro a W4 M F
  refine l_step rfl (o_storeA M F rfl rfl agg_Res.size (by repeat (first | exact Upd.here _ _ _ _ _ | apply Upd.there)) (by rfl) (by rfl) (by rfl) ?_); clear F a; intro a W5 M F
  refine l_nil ?_
  refine hK2 _ _ ?_
  refine c_seq (fun K3 hK3 => ?_)
  refine wp_region_lit ?_
  refine l_step rfl (o_val F (r_load M F rfl (by repeat (first | exact List.mem_cons_self | apply List.mem_cons_of_mem)) agg_Base (seg_all rfl)) rfl ?_); clear F a; intro a F
  refine l_step rfl (o_val F (r_build F rfl (b_Op_0_1_2_3 2 1 4 3)) rfl ?_); clear F a; intro a F
  refine l_step rfl (o_call M F rfl (c_objects_Do (b := (pDo PBase.zero ob1).1) (o := ob2) M.imm few1) rfl ?_); clear F a; intro a W6 v6 G6 hp6 M E6 F
  subst hp6
  refine l_step rfl (o_val F (r_move F rfl) rfl ?_); clear F a; intro a F
  refine l_step rfl (o_val F (r_extract F rfl rfl) rfl ?_); clear F a; intro a F
  refine l_step rfl (o_val F (r_extract F rfl rfl) rfl ?_); clear F a; intro a F
  refine l_step rfl (o_alloc M F zer_Base rfl ?_); clear F a; intro a W7 b3 M F
  refine l_step rfl (o_alloc M F zer_Res rfl ?_); clear F a; intro a W8 b4 M F
  refine l_step rfl (o_storeA M F rfl rfl agg_Base.size (by repeat (first | exact Upd.here _ _ _ _ _ | apply Upd.there)) (by rfl) (by rfl) (by rfl) ?_); clear F a; intro a W9 M F
  refine l_step rfl (o_storeA M F rfl rfl agg_Res.size (by repeat (first | exact Upd.here _ _ _ _ _ | apply Upd.there)) (by rfl) (by rfl) (by rfl) ?_); clear F a; intro a W10 M F
  refine l_nil ?_
  refine hK3 _ _ ?_
  refine c_seq (fun K4 hK4 => ?_)
  refine wp_region_lit ?_
  refine l_step rfl (o_val F (r_fieldAddr F rfl fld_Res_0) rfl ?_); clear F a; intro a F
  refine l_step rfl (o_val F (r_load1 M F rfl (by repeat (first | exact List.mem_cons_self | apply List.mem_cons_of_mem)) sca_u8 rfl) rfl ?_); clear F a; intro a F
  refine l_step rfl (o_val F (r_eql_u8 F (y := 0) rfl rfl) rfl ?_); clear F a; intro a F
  refine l_step rfl (o_val F (r_move F rfl) rfl ?_); clear F a; intro a F
  refine l_guard F rfl rfl rfl (decide_eq_true known6.1) (o_val F (r_fieldAddr F rfl fld_Base_0) rfl ?_); clear F a; intro a F
  refine l_guard F rfl rfl rfl (decide_eq_true known6.1) (o_val F (r_indexArr F rfl rfl arr_Objs (by omega) (by omega)) rfl ?_); clear F a; intro a F
  refine l_guard F rfl rfl rfl (decide_eq_true known6.1) (o_val F (r_fieldAddr F rfl fld_Obj_0) rfl ?_); clear F a; intro a F
  refine l_guard F rfl rfl rfl (decide_eq_true known6.1) (o_val F (r_load1 M F rfl (by repeat (first | exact List.mem_cons_self | apply List.mem_cons_of_mem)) sca_bool (g_Base_0_i_0 hk22)) rfl ?_); clear F a; intro a F
  refine l_step rfl (o_val F (r_pick_t F rfl (decide_eq_true known6.1) rfl) rfl ?_); clear F a; intro a F
  refine l_step rfl (o_val F (r_move F rfl) rfl ?_); clear F a; intro a F
  refine l_guard F rfl rfl rfl known6.2.1 (o_val F (r_fieldAddr F rfl fld_Base_0) rfl ?_); clear F a; intro a F
  refine l_guard F rfl rfl rfl known6.2.1 (o_val F (r_indexArr F rfl rfl arr_Objs (by omega) (by omega)) rfl ?_); clear F a; intro a F
  refine l_guard F rfl rfl rfl known6.2.1 (o_val F (r_fieldAddr F rfl fld_Obj_1) rfl ?_); clear F a; intro a F
  refine l_guard F rfl rfl rfl known6.2.1 (o_val F (r_load1 M F rfl (by repeat (first | exact List.mem_cons_self | apply List.mem_cons_of_mem)) sca_string (g_Base_0_i_1 hk28)) rfl ?_); clear F a; intro a F
  refine l_guard F rfl rfl rfl known6.2.1 (o_val F (r_eql_string F rfl rfl) rfl ?_); clear F a; intro a F
  refine l_step rfl (o_val F (r_pick_t F rfl known6.2.1 rfl) rfl ?_); clear F a; intro a F
  refine l_step rfl (o_val F (r_move F rfl) rfl ?_); clear F a; intro a F
  refine l_guard F rfl rfl rfl (decide_eq_true known6.2.2.1) (o_val F (r_fieldAddr F rfl fld_Base_1) rfl ?_); clear F a; intro a F
  refine l_guard F rfl rfl rfl (decide_eq_true known6.2.2.1) (o_val F (r_indexArr F rfl rfl arr_Lasts (by omega) (by omega)) rfl ?_); clear F a; intro a F
  refine l_guard F rfl rfl rfl (decide_eq_true known6.2.2.1) (o_val F (r_fieldAddr F rfl fld_Last_0) rfl ?_); clear F a; intro a F
  refine l_guard F rfl rfl rfl (decide_eq_true known6.2.2.1) (o_val F (r_load1 M F rfl (by repeat (first | exact List.mem_cons_self | apply List.mem_cons_of_mem)) sca_u32 (g_Base_1_i_0 hk35)) rfl ?_); clear F a; intro a F
  refine l_guard F rfl rfl rfl (decide_eq_true known6.2.2.1) (o_val F (r_eql_u32 F (y := 1) rfl rfl) rfl ?_); clear F a; intro a F
  refine l_step rfl (o_val F (r_pick_t F rfl (decide_eq_true known6.2.2.1) rfl) rfl ?_); clear F a; intro a F
  refine l_step rfl (o_val F (r_move F rfl) rfl ?_); clear F a; intro a F
  refine l_guard F rfl rfl rfl (decide_eq_true known6.2.2.2.1) (o_val F (r_fieldAddr F rfl fld_Res_0) rfl ?_); clear F a; intro a F
  refine l_guard F rfl rfl rfl (decide_eq_true known6.2.2.2.1) (o_val F (r_load1 M F rfl (by repeat (first | exact List.mem_cons_self | apply List.mem_cons_of_mem)) sca_u8 rfl) rfl ?_); clear F a; intro a F
  refine l_guard F rfl rfl rfl (decide_eq_true known6.2.2.2.1) (o_val F (r_eql_u8 F (y := 1) rfl rfl) rfl ?_); clear F a; intro a F
  refine l_step rfl (o_val F (r_pick_t F rfl (decide_eq_true known6.2.2.2.1) rfl) rfl ?_); clear F a; intro a F
  refine l_step rfl (o_val F (r_assign F rfl) rfl ?_); clear F a; intro a F
  refine l_nil ?_
  refine hK4 _ _ ?_
  refine wp_ret ?_
  exact ret1 Tryd.results10 M F (rv_tmp F rfl) (congrArg Value.bool (decide_eq_true known6.2.2.2.2))
theorem c_paddocklaw6_big {w : World} {G0 : Ghost} (hI : Imm G0 w) {b : PBase} (hw : Wide b) : Ret P 11 [agg b.enc] [] w G0 (fun G W v => ∃ c : Bool, v = .bool c ∧ (c = false → Short b)) := by
  refine enter Tryd.func11 rfl Tryd.ntmps11 rfl rfl hI (fun a F M => ?_)
  refine c_seq (fun K1 hK1 => ?_)
  refine wp_region_lit ?_
  refine l_step rfl (o_box M F rfl rfl ?_); clear F a; intro a W1 b1 M F
  refine l_step rfl (o_val F (r_assign F rfl) rfl ?_); clear F a; intro a F
  refine l_nil ?_
  refine hK1 _ _ ?_
  refine c_seq (fun K2 hK2 => ?_)
  refine c_seq (fun K3 hK3 => ?_)
  refine wp_region_lit ?_
  refine l_step rfl (o_val F (r_assign F rfl) rfl ?_); clear F a; intro a F
  refine l_nil ?_
  refine hK3 _ _ ?_
  refine wp_block ?_
  refine c_loop (fun k a W => ∃ (i : Nat) (G : Ghost) , k = 6 - i ∧ i ≤ 6 ∧ Frm 32 [(3, .int .i64 (i : Int)), (1, .pointer (some ⟨b1, 0, none⟩))] a ∧ St [] w G0 W [⟨b1, 33, b.enc⟩] G ∧ (∀ q, q < i → szTo (b.obj q) 3 ≤ 300)) (6) ?_ ?_
  · exact ⟨0, _, rfl, Nat.zero_le _, (F.cons (F.cons F.nil 1 rfl) 3 rfl), M, (fun q h => absurd h (by omega))⟩
  · clear F M a; intro k a W hI; obtain ⟨i, G, hk, hi, F, M, hf⟩ := hI
    refine c_seq (fun K4 hK4 => ?_)
    refine c_seq (fun K5 hK5 => ?_)
    refine wp_region_lit ?_
    refine l_step rfl (o_val F (r_move F rfl) rfl ?_); clear F a; intro a F
    refine l_step rfl (o_val F (r_lss_i64 F rfl rfl) rfl ?_); clear F a; intro a F
    refine l_nil ?_
    refine hK5 _ _ ?_
    refine c_cond F rfl (fun g7 => ?_) (fun g7 => ?_)
    · skip
      have hlt : i < 6 := by have h := of_decide_eq_true g7; omega
      have hk12 : (i : Int).toNat < 6 := by omega
      have hk24 := hk12
      have hlt0 := hlt
      refine wp_skip ?_
      refine hK4 _ _ ?_
      refine c_seq (fun K6 hK6 => ?_)
      refine wp_block ?_
      refine c_seq (fun K7 hK7 => ?_)
      refine wp_region_lit ?_
      refine l_step rfl (o_val F (r_move F rfl) rfl ?_); clear F a; intro a F
      refine l_step rfl (o_val F (r_fieldAddr F rfl fld_Base_0) rfl ?_); clear F a; intro a F
      refine l_step rfl (o_val F (r_indexArr F rfl rfl arr_Objs (by omega) (by omega)) rfl ?_); clear F a; intro a F
      refine l_step rfl (o_val F (r_fieldAddr F rfl fld_Obj_1) rfl ?_); clear F a; intro a F
      refine l_step rfl (o_val F (r_load1 M F rfl (by repeat (first | exact List.mem_cons_self | apply List.mem_cons_of_mem)) sca_string (g_Base_0_i_1 hk12)) rfl ?_); clear F a; intro a F
      refine l_step rfl (o_val F (r_len_string F und_string rfl) rfl ?_); clear F a; intro a F
      refine l_step rfl (o_val F (r_assign F rfl) rfl ?_); clear F a; intro a F
      refine l_nil ?_
      refine hK7 _ _ ?_
      refine c_seq (fun K8 hK8 => ?_)
      refine c_seq (fun K9 hK9 => ?_)
      refine wp_region_lit ?_
      refine l_step rfl (o_val F (r_assign F rfl) rfl ?_); clear F a; intro a F
      refine l_nil ?_
      refine hK9 _ _ ?_
      refine wp_block ?_
      have hf0 := hf
      refine c_loop (fun k a W => ∃ (j : Nat) (G : Ghost) , k = 3 - j ∧ j ≤ 3 ∧ Frm 32 [(5, .int .i64 (j : Int)), (4, .int .i64 (szTo (b.obj i) j)), (3, .int .i64 (i : Int)), (1, .pointer (some ⟨b1, 0, none⟩))] a ∧ St [] w G0 W [⟨b1, 33, b.enc⟩] G ∧ (True)) (3) ?_ ?_
      · exact ⟨0, _, rfl, Nat.zero_le _, (F.cons (F.cons (F.cons (F.cons F.nil 1 rfl) 3 rfl) 4 rfl) 5 rfl), M, trivial⟩
      · clear F M a; intro k a W hI; obtain ⟨j, G, hk, hi, F, M, hf⟩ := hI
        refine c_seq (fun K10 hK10 => ?_)
        refine c_seq (fun K11 hK11 => ?_)
        refine wp_region_lit ?_
        refine l_step rfl (o_val F (r_move F rfl) rfl ?_); clear F a; intro a F
        refine l_step rfl (o_val F (r_lss_i64 F rfl rfl) rfl ?_); clear F a; intro a F
        refine l_nil ?_
        refine hK11 _ _ ?_
        refine c_cond F rfl (fun g17 => ?_) (fun g17 => ?_)
        · skip
          have hlt : j < 3 := by have h := of_decide_eq_true g17; omega
          have hk26 : (i : Int).toNat < 6 ∧ (j : Int).toNat < 3 := ⟨hk24, by omega⟩
          have hsz := szTo_le hw i j
          have hsa := (hw i).2 j
          have hsb := (hw (i : Int).toNat).2 (j : Int).toNat
          refine wp_skip ?_
          refine hK10 _ _ ?_
          refine c_seq (fun K12 hK12 => ?_)
          refine wp_block ?_
          refine wp_region_lit ?_
          refine l_step rfl (o_val F (r_move F rfl) rfl ?_); clear F a; intro a F
          refine l_step rfl (o_val F (r_move F rfl) rfl ?_); clear F a; intro a F
          refine l_step rfl (o_val F (r_move F rfl) rfl ?_); clear F a; intro a F
          refine l_step rfl (o_val F (r_fieldAddr F rfl fld_Base_0) rfl ?_); clear F a; intro a F
          refine l_step rfl (o_val F (r_indexArr F rfl rfl arr_Objs (by omega) (by omega)) rfl ?_); clear F a; intro a F
          refine l_step rfl (o_val F (r_fieldAddr F rfl fld_Obj_2) rfl ?_); clear F a; intro a F
          refine l_step rfl (o_val F (r_indexArr F rfl rfl arr_Attrs (by omega) (by omega)) rfl ?_); clear F a; intro a F
          refine l_step rfl (o_val F (r_load1 M F rfl (by repeat (first | exact List.mem_cons_self | apply List.mem_cons_of_mem)) sca_string (g_Base_0_i_2_i hk26)) rfl ?_); clear F a; intro a F
          refine l_step rfl (o_val F (r_len_string F und_string rfl) rfl ?_); clear F a; intro a F
          refine l_step rfl (o_val F (r_add_i64 F rfl rfl (by omega)) rfl ?_); clear F a; intro a F
          refine l_step rfl (o_val F (r_assign F rfl) rfl ?_); clear F a; intro a F
          refine l_nil ?_
          refine hK12 _ _ ?_
          refine wp_region_lit ?_
          refine l_step rfl (o_val F (r_move F rfl) rfl ?_); clear F a; intro a F
          refine l_step rfl (o_val F (r_add_i64 F rfl rfl (by omega)) rfl ?_); clear F a; intro a F
          refine l_step rfl (o_val F (r_assign F rfl) rfl ?_); clear F a; intro a F
          refine l_nil ?_
          exact ⟨3 - (j + 1), by omega, j + 1, _, rfl, by omega, (F.cons (F.cons (F.cons (F.cons F.nil 1 rfl) 3 rfl) 4 rfl) 5 rfl), M.drop (by repeat (first | exact List.Sublist.refl _ | apply List.Sublist.cons_cons | apply List.Sublist.cons)), trivial⟩
        · skip
          have hge : j = 3 := by have h := of_decide_eq_false g17; omega
          subst hge
          refine wp_exit ?_
          refine hK8 _ _ ?_
          refine c_seq (fun K13 hK13 => ?_)
          refine wp_region_lit ?_
          refine l_step rfl (o_val F (r_move F rfl) rfl ?_); clear F a; intro a F
          refine l_step rfl (o_val F (r_gtr_i64 F rfl rfl) rfl ?_); clear F a; intro a F
          refine l_nil ?_
          refine hK13 _ _ ?_
          refine c_cond F rfl (fun g31 => ?_) (fun g31 => ?_)
          · skip
            refine c_seq (fun K14 hK14 => ?_)
            refine wp_region_lit ?_
            refine l_step rfl (o_val F (r_assign F rfl) rfl ?_); clear F a; intro a F
            refine l_nil ?_
            refine hK14 _ _ ?_
            refine wp_ret ?_
            exact ret1 Tryd.results11 M F (rv_tmp F rfl) (⟨_, rfl, fun h => by cases h⟩)
          · skip
            refine wp_skip ?_
            refine hK6 _ _ ?_
            refine wp_region_lit ?_
            refine l_step rfl (o_val F (r_move F rfl) rfl ?_); clear F a; intro a F
            refine l_step rfl (o_val F (r_add_i64 F rfl rfl (by omega)) rfl ?_); clear F a; intro a F
            refine l_step rfl (o_val F (r_assign F rfl) rfl ?_); clear F a; intro a F
            refine l_nil ?_
            exact ⟨6 - (i + 1), by omega, i + 1, _, rfl, by omega, (F.cons (F.cons F.nil 1 rfl) 3 rfl), M.drop (by repeat (first | exact List.Sublist.refl _ | apply List.Sublist.cons_cons | apply List.Sublist.cons)), (fun q h => by rcases Nat.lt_succ_iff_lt_or_eq.1 h with h | h; exact hf0 q h; subst h; have h2 := of_decide_eq_false g31; omega)⟩
    · skip
      have hge : i = 6 := by have h := of_decide_eq_false g7; omega
      subst hge
      have hf1 := hf
      refine wp_exit ?_
      refine hK2 _ _ ?_
      refine c_seq (fun K15 hK15 => ?_)
      refine wp_region_lit ?_
      refine l_step rfl (o_val F (r_assign F rfl) rfl ?_); clear F a; intro a F
      refine l_nil ?_
      refine hK15 _ _ ?_
      refine wp_ret ?_
      exact ret1 Tryd.results11 M F (rv_tmp F rfl) (⟨_, rfl, fun _ => short_of hf1⟩)
theorem c_paddocklaw6_op {w : World} {G0 : Ghost} (hI : Imm G0 w) {s : UInt32} {k a : UInt8} {d : ByteArray} : Ret P 23 [.int .u32 (s.toNat : Int), .int .u8 (k.toNat : Int), .int .u8 (a.toNat : Int), .string d] [] w G0 (fun G W v => v = agg (POp.enc ⟨1, s, k, 3, a, d⟩)) := by
  refine enter Tryd.func23 rfl Tryd.ntmps23 rfl rfl hI (fun a F M => ?_)
  refine c_seq (fun K1 hK1 => ?_)
  refine wp_region_lit ?_
  refine l_step rfl (o_alloc M F zer_Op rfl ?_); clear F a; intro a W1 b1 M F
  refine l_nil ?_
  refine hK1 _ _ ?_
  refine c_seq (fun K2 hK2 => ?_)
  refine wp_region_lit ?_
  refine l_step rfl (o_val F (r_move F rfl) rfl ?_); clear F a; intro a F
  refine l_step rfl (o_val F (r_move F rfl) rfl ?_); clear F a; intro a F
  refine l_step rfl (o_val F (r_move F rfl) rfl ?_); clear F a; intro a F
  refine l_step rfl (o_val F (r_move F rfl) rfl ?_); clear F a; intro a F
  refine l_step rfl (o_val F (r_build F rfl (b_Op_0_1_2_3_4_5 1 _ _ 3 _ _)) rfl ?_); clear F a; intro a F
  refine l_step rfl (o_storeA M F rfl rfl agg_Op.size (by repeat (first | exact Upd.here _ _ _ _ _ | apply Upd.there)) (by rfl) (by rfl) (by rfl) ?_); clear F a; intro a W2 M F
  refine l_nil ?_
  refine hK2 _ _ ?_
  refine wp_ret ?_
  exact ret1 Tryd.results23 M F (rv_cell M F rfl (by repeat (first | exact List.mem_cons_self | apply List.mem_cons_of_mem)) agg_Op rfl) (rfl)
theorem c_paddocklaw6_ObjectsTell {w : World} {G0 : Ghost} (hI : Imm G0 w) {b : PBase} {o : POp} (hw : Wide b) : Ret P 3 [agg b.enc, agg o.enc] [] w G0 (fun G W v => v = .bool true) := by
  refine enter Tryd.func3 rfl Tryd.ntmps3 rfl rfl hI (fun a F M => ?_)
  refine c_seq (fun K1 hK1 => ?_)
  refine wp_region_lit ?_
  refine l_step rfl (o_box M F rfl rfl ?_); clear F a; intro a W1 b1 M F
  refine l_step rfl (o_box M F rfl rfl ?_); clear F a; intro a W2 b2 M F
  refine l_step rfl (o_val F (r_assign F rfl) rfl ?_); clear F a; intro a F
  refine l_nil ?_
  refine hK1 _ _ ?_
  refine c_seq (fun K2 hK2 => ?_)
  refine c_seq (fun K3 hK3 => ?_)
  refine wp_region_lit ?_
  refine l_step rfl (o_call M F rfl (c_paddocklaw6_known M.imm) rfl ?_); clear F a; intro a W3 v3 G3 hp3 M E3 F
  subst hp3
  refine l_step rfl (o_val F (r_not F rfl) rfl ?_); clear F a; intro a F
  refine l_nil ?_
  refine hK3 _ _ ?_
  refine c_false F rfl rfl ?_
  refine wp_skip ?_
  refine hK2 _ _ ?_
  refine c_seq (fun K4 hK4 => ?_)
  refine c_seq (fun K5 hK5 => ?_)
  refine wp_region_lit ?_
  refine l_step rfl (o_val F (r_load M F rfl (by repeat (first | exact List.mem_cons_self | apply List.mem_cons_of_mem)) agg_Base (seg_all rfl)) rfl ?_); clear F a; intro a F
  refine l_step rfl (o_call M F rfl (c_paddocklaw6_big M.imm hw) rfl ?_); clear F a; intro a W4 v4 G4 hp4 M E4 F
  obtain ⟨c1, rfl, hc1⟩ := hp4
  refine l_nil ?_
  refine hK5 _ _ ?_
  refine c_cond F rfl (fun g16 => ?_) (fun g16 => ?_)
  · skip
    refine c_seq (fun K6 hK6 => ?_)
    refine wp_region_lit ?_
    refine l_step rfl (o_val F (r_assign F rfl) rfl ?_); clear F a; intro a F
    refine l_nil ?_
    refine hK6 _ _ ?_
    refine wp_ret ?_
    exact ret1 Tryd.results3 M F (rv_tmp F rfl) (rfl)
  · skip
    refine wp_skip ?_
    refine hK4 _ _ ?_
    refine c_seq (fun K7 hK7 => ?_)
    refine wp_region_lit ?_
    refine l_step rfl (o_val F (r_load M F rfl (by repeat (first | exact List.mem_cons_self | apply List.mem_cons_of_mem)) agg_Base (seg_all rfl)) rfl ?_); clear F a; intro a F
    refine l_step rfl (o_val F (r_load M F rfl (by repeat (first | exact List.mem_cons_self | apply List.mem_cons_of_mem)) agg_Op (seg_all rfl)) rfl ?_); clear F a; intro a F
    refine l_step rfl (o_call M F rfl (c_objects_Do M.imm (hc1 g16).few) rfl ?_); clear F a; intro a W5 v5 G5 hp5 M E5 F
    subst hp5
    refine l_step rfl (o_val F (r_move F rfl) rfl ?_); clear F a; intro a F
    refine l_step rfl (o_val F (r_extract F rfl rfl) rfl ?_); clear F a; intro a F
    refine l_step rfl (o_val F (r_extract F rfl rfl) rfl ?_); clear F a; intro a F
    refine l_step rfl (o_alloc M F zer_Base rfl ?_); clear F a; intro a W6 b3 M F
    refine l_step rfl (o_alloc M F zer_Res rfl ?_); clear F a; intro a W7 b4 M F
    refine l_step rfl (o_storeA M F rfl rfl agg_Base.size (by repeat (first | exact Upd.here _ _ _ _ _ | apply Upd.there)) (by rfl) (by rfl) (by rfl) ?_); clear F a; intro a W8 M F
    refine l_step rfl (o_storeA M F rfl rfl agg_Res.size (by repeat (first | exact Upd.here _ _ _ _ _ | apply Upd.there)) (by rfl) (by rfl) (by rfl) ?_); clear F a; intro a W9 M F
    refine l_nil ?_
    refine hK7 _ _ ?_
    refine c_seq (fun K8 hK8 => ?_)
    refine wp_region_lit ?_
    refine l_step rfl (o_val F (r_load M F rfl (by repeat (first | exact List.mem_cons_self | apply List.mem_cons_of_mem)) agg_Base (seg_all rfl)) rfl ?_); clear F a; intro a F
    refine l_step rfl (o_val F (r_load M F rfl (by repeat (first | exact List.mem_cons_self | apply List.mem_cons_of_mem)) agg_Op (seg_all rfl)) rfl ?_); clear F a; intro a F
    refine l_step rfl (o_call M F rfl (c_paddockref6_Do M.imm (hc1 g16).few) rfl ?_); clear F a; intro a W10 v10 G10 hp10 M E10 F
    subst hp10
    refine l_step rfl (o_val F (r_move F rfl) rfl ?_); clear F a; intro a F
    refine l_step rfl (o_val F (r_extract F rfl rfl) rfl ?_); clear F a; intro a F
    refine l_step rfl (o_val F (r_extract F rfl rfl) rfl ?_); clear F a; intro a F
    refine l_step rfl (o_alloc M F zer_Base rfl ?_); clear F a; intro a W11 b5 M F
    refine l_step rfl (o_alloc M F zer_Res rfl ?_); clear F a; intro a W12 b6 M F
    refine l_step rfl (o_storeA M F rfl rfl agg_Base.size (by repeat (first | exact Upd.here _ _ _ _ _ | apply Upd.there)) (by rfl) (by rfl) (by rfl) ?_); clear F a; intro a W13 M F
    refine l_step rfl (o_storeA M F rfl rfl agg_Res.size (by repeat (first | exact Upd.here _ _ _ _ _ | apply Upd.there)) (by rfl) (by rfl) (by rfl) ?_); clear F a; intro a W14 M F
    refine l_nil ?_
    refine hK8 _ _ ?_
    refine c_seq (fun K9 hK9 => ?_)
    refine wp_region_lit ?_
    refine l_step rfl (o_val F (r_load M F rfl (by repeat (first | exact List.mem_cons_self | apply List.mem_cons_of_mem)) agg_Base (seg_all rfl)) rfl ?_); clear F a; intro a F
    refine l_step rfl (o_val F (r_load M F rfl (by repeat (first | exact List.mem_cons_self | apply List.mem_cons_of_mem)) agg_Op (seg_all rfl)) rfl ?_); clear F a; intro a F
    refine l_step rfl (o_call M F rfl (c_objects_Seen M.imm) rfl ?_); clear F a; intro a W15 v15 G15 hp15 M E15 F
    subst hp15
    refine l_step rfl (o_val F (r_move F rfl) rfl ?_); clear F a; intro a F
    refine l_step rfl (o_val F (r_extract F rfl rfl) rfl ?_); clear F a; intro a F
    refine l_step rfl (o_val F (r_extract F rfl rfl) rfl ?_); clear F a; intro a F
    refine l_step rfl (o_alloc M F zer_Res rfl ?_); clear F a; intro a W16 b7 M F
    refine l_step rfl (o_storeA M F rfl rfl agg_Res.size (by repeat (first | exact Upd.here _ _ _ _ _ | apply Upd.there)) (by rfl) (by rfl) (by rfl) ?_); clear F a; intro a W17 M F
    refine l_step rfl (o_val F (r_assign F rfl) rfl ?_); clear F a; intro a F
    refine l_nil ?_
    refine hK9 _ _ ?_
    refine c_seq (fun K10 hK10 => ?_)
    refine wp_region_lit ?_
    refine l_step rfl (o_val F (r_load M F rfl (by repeat (first | exact List.mem_cons_self | apply List.mem_cons_of_mem)) agg_Base (seg_all rfl)) rfl ?_); clear F a; intro a F
    refine l_step rfl (o_val F (r_load M F rfl (by repeat (first | exact List.mem_cons_self | apply List.mem_cons_of_mem)) agg_Op (seg_all rfl)) rfl ?_); clear F a; intro a F
    refine l_step rfl (o_call M F rfl (c_paddockref6_Seen M.imm) rfl ?_); clear F a; intro a W18 v18 G18 hp18 M E18 F
    subst hp18
    refine l_step rfl (o_val F (r_move F rfl) rfl ?_); clear F a; intro a F
    refine l_step rfl (o_val F (r_extract F rfl rfl) rfl ?_); clear F a; intro a F
    refine l_step rfl (o_val F (r_extract F rfl rfl) rfl ?_); clear F a; intro a F
    refine l_step rfl (o_alloc M F zer_Res rfl ?_); clear F a; intro a W19 b8 M F
    refine l_step rfl (o_storeA M F rfl rfl agg_Res.size (by repeat (first | exact Upd.here _ _ _ _ _ | apply Upd.there)) (by rfl) (by rfl) (by rfl) ?_); clear F a; intro a W20 M F
    refine l_step rfl (o_val F (r_assign F rfl) rfl ?_); clear F a; intro a F
    refine l_nil ?_
    refine hK10 _ _ ?_
    refine c_seq (fun K11 hK11 => ?_)
    refine c_drawM M [] mixed (fun M => ?_)
    have Ms := M
    have hq1 := Keeps.here M
    have hle1 := M.gle
    refine t_take (i := 0) F rfl rfl hq1 (fun _ ⟨_, _, M'⟩ => r_load M' F rfl (by repeat (first | exact List.mem_cons_self | apply List.mem_cons_of_mem)) agg_Op (seg_all rfl)) (fun _ _ _ h => h) (by kernel_rfl) (by kernel_rfl) (by kernel_rfl) (by kernel_rfl) ?_; clear F a; intro a F
    refine t_take (i := 2) F rfl rfl hq1 (fun _ ⟨_, _, M'⟩ => r_load M' F rfl (by repeat (first | exact List.mem_cons_self | apply List.mem_cons_of_mem)) agg_Op (seg_all rfl)) (fun _ _ _ h => h) (by kernel_rfl) (by kernel_rfl) (by kernel_rfl) (by kernel_rfl) ?_; clear F a; intro a F
    refine t_one (i := 1) (by kernel_rfl) rfl rfl (o_call M F rfl (c_objects_IsOp M.imm) rfl ?_); clear F a; intro a W21 v21 G21 hp21 M E21 F
    subst hp21
    have hle1 := hle1.trans E21.gl
    refine keepAnd (Keeps.mk hle1 M (by repeat (first | exact List.Sublist.refl _ | apply List.Sublist.cons_cons | apply List.Sublist.cons))) (fun hq1 => ?_)
    refine t_one (i := 3) (by kernel_rfl) rfl rfl (o_call M F rfl (c_paddockref6_IsOp M.imm) rfl ?_); clear F a; intro a W22 v22 G22 hp22 M E22 F
    subst hp22
    have hle1 := hle1.trans E22.gl
    refine keepAnd (Keeps.mk hle1 M (by repeat (first | exact List.Sublist.refl _ | apply List.Sublist.cons_cons | apply List.Sublist.cons))) (fun hq1 => ?_)
    refine t_take (i := 4) F rfl rfl hq1 (fun _ _ => r_eql_bool F und_bool rfl rfl) (fun _ _ _ h => h) (by kernel_rfl) (by kernel_rfl) (by kernel_rfl) (by kernel_rfl) ?_; clear F a; intro a F
    refine t_take (i := 5) F rfl rfl hq1 (fun _ _ => r_move F rfl) (fun _ _ _ h => h) (by kernel_rfl) (by kernel_rfl) (by kernel_rfl) (by kernel_rfl) ?_; clear F a; intro a F
    refine t_takeg (i := 6) F rfl rfl rfl (by simp) rfl hq1 (fun _ ⟨_, _, M'⟩ => r_load M' F rfl (by repeat (first | exact List.mem_cons_self | apply List.mem_cons_of_mem)) agg_Op (seg_all rfl)) (fun _ _ _ h => h) (by kernel_rfl) (by kernel_rfl) (by kernel_rfl) (by kernel_rfl) ?_; clear F a; intro a F
    refine t_takeg (i := 8) F rfl rfl rfl (by simp) rfl hq1 (fun _ ⟨_, _, M'⟩ => r_load M' F rfl (by repeat (first | exact List.mem_cons_self | apply List.mem_cons_of_mem)) agg_Op (seg_all rfl)) (fun _ _ _ h => h) (by kernel_rfl) (by kernel_rfl) (by kernel_rfl) (by kernel_rfl) ?_; clear F a; intro a F
    refine t_oneg (i := 7) F (by kernel_rfl) rfl rfl rfl rfl (by simp) (o_call M F rfl (c_objects_Writes M.imm) rfl ?_); clear F a; intro a W23 v23 G23 hp23 M E23 F
    subst hp23
    have hle1 := hle1.trans E23.gl
    refine keepAnd (Keeps.mk hle1 M (by repeat (first | exact List.Sublist.refl _ | apply List.Sublist.cons_cons | apply List.Sublist.cons))) (fun hq1 => ?_)
    refine t_oneg (i := 9) F (by kernel_rfl) rfl rfl rfl rfl (by simp) (o_call M F rfl (c_paddockref6_Writes M.imm) rfl ?_); clear F a; intro a W24 v24 G24 hp24 M E24 F
    subst hp24
    have hle1 := hle1.trans E24.gl
    refine keepAnd (Keeps.mk hle1 M (by repeat (first | exact List.Sublist.refl _ | apply List.Sublist.cons_cons | apply List.Sublist.cons))) (fun hq1 => ?_)
    refine t_takeg (i := 10) F rfl rfl rfl (by simp) rfl hq1 (fun _ _ => r_eql_bool F und_bool rfl rfl) (fun _ _ _ h => h) (by kernel_rfl) (by kernel_rfl) (by kernel_rfl) (by kernel_rfl) ?_; clear F a; intro a F
    refine t_take (i := 11) F rfl rfl hq1 (fun _ _ => r_pick_t F rfl (by simp) rfl) (fun _ _ _ h => h) (by kernel_rfl) (by kernel_rfl) (by kernel_rfl) (by kernel_rfl) ?_; clear F a; intro a F
    refine t_take (i := 12) F rfl rfl hq1 (fun _ _ => r_move F rfl) (fun _ _ _ h => h) (by kernel_rfl) (by kernel_rfl) (by kernel_rfl) (by kernel_rfl) ?_; clear F a; intro a F
    refine t_takeg (i := 13) F rfl rfl rfl (by simp) rfl hq1 (fun _ ⟨_, _, M'⟩ => r_load M' F rfl (by repeat (first | exact List.mem_cons_self | apply List.mem_cons_of_mem)) agg_Base (seg_all rfl)) (fun _ _ _ h => h) (by kernel_rfl) (by kernel_rfl) (by kernel_rfl) (by kernel_rfl) ?_; clear F a; intro a F
    refine t_takeg (i := 14) F rfl rfl rfl (by simp) rfl hq1 (fun _ ⟨_, _, M'⟩ => r_load M' F rfl (by repeat (first | exact List.mem_cons_self | apply List.mem_cons_of_mem)) agg_Base (seg_all rfl)) (fun _ _ _ h => h) (by kernel_rfl) (by kernel_rfl) (by kernel_rfl) (by kernel_rfl) ?_; clear F a; intro a F
    refine t_takeg (i := 15) F rfl rfl rfl (by simp) rfl hq1 (fun _ _ => r_eql_Base F rfl rfl) (fun _ _ _ h => h) (by kernel_rfl) (by kernel_rfl) (by kernel_rfl) (by kernel_rfl) ?_; clear F a; intro a F
    refine t_take (i := 16) F rfl rfl hq1 (fun _ _ => r_pick_t F rfl (by simp) rfl) (fun _ _ _ h => h) (by kernel_rfl) (by kernel_rfl) (by kernel_rfl) (by kernel_rfl) ?_; clear F a; intro a F
    refine t_take (i := 17) F rfl rfl hq1 (fun _ _ => r_move F rfl) (fun _ _ _ h => h) (by kernel_rfl) (by kernel_rfl) (by kernel_rfl) (by kernel_rfl) ?_; clear F a; intro a F
    refine t_takeg (i := 18) F rfl rfl rfl (by simp) rfl hq1 (fun _ ⟨_, _, M'⟩ => r_load M' F rfl (by repeat (first | exact List.mem_cons_self | apply List.mem_cons_of_mem)) agg_Res (seg_all rfl)) (fun _ _ _ h => h) (by kernel_rfl) (by kernel_rfl) (by kernel_rfl) (by kernel_rfl) ?_; clear F a; intro a F
    refine t_takeg (i := 19) F rfl rfl rfl (by simp) rfl hq1 (fun _ ⟨_, _, M'⟩ => r_load M' F rfl (by repeat (first | exact List.mem_cons_self | apply List.mem_cons_of_mem)) agg_Res (seg_all rfl)) (fun _ _ _ h => h) (by kernel_rfl) (by kernel_rfl) (by kernel_rfl) (by kernel_rfl) ?_; clear F a; intro a F
    refine t_takeg (i := 20) F rfl rfl rfl (by simp) rfl hq1 (fun _ _ => r_eql_Res F rfl rfl) (fun _ _ _ h => h) (by kernel_rfl) (by kernel_rfl) (by kernel_rfl) (by kernel_rfl) ?_; clear F a; intro a F
    refine t_take (i := 21) F rfl rfl hq1 (fun _ _ => r_pick_t F rfl (by simp) rfl) (fun _ _ _ h => h) (by kernel_rfl) (by kernel_rfl) (by kernel_rfl) (by kernel_rfl) ?_; clear F a; intro a F
    refine t_take (i := 22) F rfl rfl hq1 (fun _ _ => r_move F rfl) (fun _ _ _ h => h) (by kernel_rfl) (by kernel_rfl) (by kernel_rfl) (by kernel_rfl) ?_; clear F a; intro a F
    refine t_takeg (i := 23) F rfl rfl rfl (by simp) rfl hq1 (fun _ ⟨_, _, M'⟩ => r_load M' F rfl (by repeat (first | exact List.mem_cons_self | apply List.mem_cons_of_mem)) agg_Res (seg_all rfl)) (fun _ _ _ h => h) (by kernel_rfl) (by kernel_rfl) (by kernel_rfl) (by kernel_rfl) ?_; clear F a; intro a F
    refine t_takeg (i := 24) F rfl rfl rfl (by simp) rfl hq1 (fun _ ⟨_, _, M'⟩ => r_load M' F rfl (by repeat (first | exact List.mem_cons_self | apply List.mem_cons_of_mem)) agg_Res (seg_all rfl)) (fun _ _ _ h => h) (by kernel_rfl) (by kernel_rfl) (by kernel_rfl) (by kernel_rfl) ?_; clear F a; intro a F
    refine t_takeg (i := 25) F rfl rfl rfl (by simp) rfl hq1 (fun _ _ => r_eql_Res F rfl rfl) (fun _ _ _ h => h) (by kernel_rfl) (by kernel_rfl) (by kernel_rfl) (by kernel_rfl) ?_; clear F a; intro a F
    refine t_take (i := 26) F rfl rfl hq1 (fun _ _ => r_pick_t F rfl (by simp) rfl) (fun _ _ _ h => h) (by kernel_rfl) (by kernel_rfl) (by kernel_rfl) (by kernel_rfl) ?_; clear F a; intro a F
    refine t_take (i := 27) F rfl rfl hq1 (fun _ _ => r_move F rfl) (fun _ _ _ h => h) (by kernel_rfl) (by kernel_rfl) (by kernel_rfl) (by kernel_rfl) ?_; clear F a; intro a F
    refine t_takeg (i := 28) F rfl rfl rfl (by simp) rfl hq1 (fun _ _ => r_move F rfl) (fun _ _ _ h => h) (by kernel_rfl) (by kernel_rfl) (by kernel_rfl) (by kernel_rfl) ?_; clear F a; intro a F
    refine t_takeg (i := 29) F rfl rfl rfl (by simp) rfl hq1 (fun _ _ => r_move F rfl) (fun _ _ _ h => h) (by kernel_rfl) (by kernel_rfl) (by kernel_rfl) (by kernel_rfl) ?_; clear F a; intro a F
    refine t_takeg (i := 30) F rfl rfl rfl (by simp) rfl hq1 (fun _ _ => r_eql_bool F und_bool rfl rfl) (fun _ _ _ h => h) (by kernel_rfl) (by kernel_rfl) (by kernel_rfl) (by kernel_rfl) ?_; clear F a; intro a F
    refine t_take (i := 31) F rfl rfl hq1 (fun _ _ => r_pick_t F rfl (by simp) rfl) (fun _ _ _ h => h) (by kernel_rfl) (by kernel_rfl) (by kernel_rfl) (by kernel_rfl) ?_; clear F a; intro a F
    refine t_take (i := 32) F rfl rfl hq1 (fun _ _ => r_move F rfl) (fun _ _ _ h => h) (by kernel_rfl) (by kernel_rfl) (by kernel_rfl) (by kernel_rfl) ?_; clear F a; intro a F
    refine t_takeg (i := 33) F rfl rfl rfl (by simp) rfl hq1 (fun _ ⟨_, _, M'⟩ => r_load M' F rfl (by repeat (first | exact List.mem_cons_self | apply List.mem_cons_of_mem)) agg_Base (seg_all rfl)) (fun _ _ _ h => h) (by kernel_rfl) (by kernel_rfl) (by kernel_rfl) (by kernel_rfl) ?_; clear F a; intro a F
    refine t_takeg (i := 34) F rfl rfl rfl (by simp) rfl hq1 (fun _ ⟨_, _, M'⟩ => r_load M' F rfl (by repeat (first | exact List.mem_cons_self | apply List.mem_cons_of_mem)) agg_Op (seg_all rfl)) (fun _ _ _ h => h) (by kernel_rfl) (by kernel_rfl) (by kernel_rfl) (by kernel_rfl) ?_; clear F a; intro a F
    refine t_takeg (i := 36) F rfl rfl rfl (by simp) rfl hq1 (fun _ ⟨_, _, M'⟩ => r_load M' F rfl (by repeat (first | exact List.mem_cons_self | apply List.mem_cons_of_mem)) agg_Base (seg_all rfl)) (fun _ _ _ h => h) (by kernel_rfl) (by kernel_rfl) (by kernel_rfl) (by kernel_rfl) ?_; clear F a; intro a F
    refine t_takeg (i := 37) F rfl rfl rfl (by simp) rfl hq1 (fun _ ⟨_, _, M'⟩ => r_load M' F rfl (by repeat (first | exact List.mem_cons_self | apply List.mem_cons_of_mem)) agg_Op (seg_all rfl)) (fun _ _ _ h => h) (by kernel_rfl) (by kernel_rfl) (by kernel_rfl) (by kernel_rfl) ?_; clear F a; intro a F
    refine t_oneg (i := 35) F (by kernel_rfl) rfl rfl rfl rfl (by simp) (o_call M F rfl (c_objects_Read M.imm (hc1 g16)) rfl ?_); clear F a; intro a W25 v25 G25 hp25 M E25 F
    subst hp25
    have hle1 := hle1.trans E25.gl
    refine keepAnd (Keeps.mk hle1 M (by repeat (first | exact List.Sublist.refl _ | apply List.Sublist.cons_cons | apply List.Sublist.cons))) (fun hq1 => ?_)
    refine t_oneg (i := 38) F (by kernel_rfl) rfl rfl rfl rfl (by simp) (o_call M F rfl (c_paddockref6_Read M.imm (hc1 g16)) rfl ?_); clear F a; intro a W26 v26 G26 hp26 M E26 F
    subst hp26
    have hle1 := hle1.trans E26.gl
    refine keepAnd (Keeps.mk hle1 M (by repeat (first | exact List.Sublist.refl _ | apply List.Sublist.cons_cons | apply List.Sublist.cons))) (fun hq1 => ?_)
    refine t_takeg (i := 39) F rfl rfl rfl (by simp) rfl hq1 (fun _ _ => r_eql_Res F rfl rfl) (fun _ _ _ h => h) (by kernel_rfl) (by kernel_rfl) (by kernel_rfl) (by kernel_rfl) ?_; clear F a; intro a F
    refine t_take (i := 40) F rfl rfl hq1 (fun _ _ => r_pick_t F rfl (by simp) rfl) (fun _ _ _ h => h) (by kernel_rfl) (by kernel_rfl) (by kernel_rfl) (by kernel_rfl) ?_; clear F a; intro a F
    refine t_take (i := 41) F rfl rfl hq1 (fun _ _ => r_assign F rfl) (fun _ _ _ h => h) (by kernel_rfl) (by kernel_rfl) (by kernel_rfl) (by kernel_rfl) ?_; clear F a; intro a F
    refine t_done (by kernel_rfl) ?_ _
    refine hK11 _ _ ?_
    refine wp_ret ?_
    exact ret1 Tryd.results3 M F (rv_tmp F rfl) (by simp)
end Go.Proofs.YtfkmaepcjognkaaDoor.Pad
