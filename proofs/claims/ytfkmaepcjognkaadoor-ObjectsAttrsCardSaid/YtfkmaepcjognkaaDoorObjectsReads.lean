/- The walk of ObjectsReads: it answers true. The row is a slice of operations, whatever they are. -/
import Derived.Test.YtfkmaepcjognkaaDoorRow6
namespace Go.Proofs.YtfkmaepcjognkaaDoor.Pad
open Go Go.Proofs
set_option linter.unusedVariables false
set_option maxRecDepth 8000
set_option maxHeartbeats 4000000
set_option linter.unusedSimpArgs false
theorem does_attr {k : UInt8} {x : PObj} {o : POp} (hx : ∀ j, (x.attr j).size ≤ 1000) (ho : o.data.size ≤ 16) (j : Nat) : ((pDoes k x o).1.attr j).size ≤ 1000 := by
  have hz : ∀ j, (PObj.zero.attr j).size ≤ 1000 := fun j => by match j with | 0 | 1 => exact Nat.zero_le _ | j + 2 => exact Nat.zero_le _
  have hk : ∀ (d : ByteArray) (t : Bool) (j : Nat), ((PObj.mk t d x.a0 x.a1 x.a2).attr j).size ≤ 1000 := fun d t j => by
    match j with
    | 0 => exact hx 0
    | 1 => exact hx 1
    | j + 2 => exact hx 2
  unfold pDoes
  split
  · unfold pWrite
    split
    · exact hx j
    · exact hk _ _ j
  · split
    · unfold pTrunc
      split
      · exact hx j
      · split
        · exact hx j
        · exact hk _ _ j
    · split
      · unfold pAttr
        split
        · exact hx j
        · split
          · exact hx j
          · show ((x.setAttr o.data o.at_.toNat).attr j).size ≤ 1000
            match o.at_.toNat, j with
            | 0, 0 | 1, 1 | _ + 2, _ + 2 => show o.data.size ≤ 1000; omega
            | 0, 1 => exact hx 1
            | 0, j + 2 => exact hx 2
            | 1, 0 => exact hx 0
            | 1, j + 2 => exact hx 2
            | _ + 2, 0 => exact hx 0
            | _ + 2, 1 => exact hx 1
      · unfold pRemove
        split
        · exact hx j
        · exact hz j
theorem short_do {b : PBase} {o : POp} (hb : Short b) : Short (pDo b o).1 := fun i => by
  refine ⟨few_do hb.few i, ?_⟩
  unfold pDo
  split
  · exact (hb i).2
  · split
    · exact (hb i).2
    · rename_i h _
      intro j
      simp only [pDone, obj_setLast]
      rcases obj_setObj b (pDoes o.kind (b.obj o.obj.toNat) o).1 o.obj.toNat i with e | e
      · rw [e]; exact does_attr (hb _).2 (writes_facts (by simpa using h)).2.2.2 j
      · rw [e]; exact (hb i).2 j
theorem short_fold : ∀ (ops : List POp) (p : PBase × List PRes), Short p.1 → Short (ops.foldl pAllStep p).1
  | [], p, h => h
  | o :: r, p, h => short_fold r _ (short_do h)
theorem short_all (ops : List POp) : Short (pAllP PBase.zero ops).1 := short_fold ops _ zero_short
def rdOp (o : UInt8) : POp := ⟨1, 1, 5, o, 0, ⟨#[]⟩⟩
theorem rdOp_is {o : UInt8} (h : o.toNat < 6) : isOp (rdOp o) = true := by
  have h6 : ¬ 6 ≤ o := by rw [UInt8.le_iff_toNat_le]; have : (6 : UInt8).toNat = 6 := rfl; omega
  simp [isOp, rdOp, h6]
  decide
theorem read_rd {b : PBase} {o : UInt8} (h : o.toNat < 6) : pRead b (rdOp o) = if (b.obj o.toNat).there = false then ⟨1, ⟨#[]⟩⟩ else ⟨0, pReadK (b.obj o.toNat) 3⟩ := by
  rw [pRead, if_neg (by simp [rdOp_is h]; rfl)]
  rfl
theorem readK_pre (x : PObj) : ∀ k, ∃ t, pReadK x k = x.data ++ t
  | 0 => ⟨⟨#[]⟩, by rw [pReadK, app_nil]⟩
  | k + 1 => by
    obtain ⟨t, ht⟩ := readK_pre x k
    rw [pReadK]
    split
    · exact ⟨t, ht⟩
    · exact ⟨_, by rw [ht, ByteArray.append_assoc]⟩
theorem readK_ge (x : PObj) (k : Nat) : x.data.size ≤ (pReadK x k).size := by
  obtain ⟨t, ht⟩ := readK_pre x k
  rw [ht, ByteArray.size_append]; omega
theorem readK_cut (x : PObj) (k : Nat) : (pReadK x k).extract 0 x.data.size = x.data := by
  obtain ⟨t, ht⟩ := readK_pre x k
  rw [ht]
  apply ba_ext
  rw [ext_list, app_list, ← size_list, List.take_left', List.drop_zero]; rfl
theorem mod6 (c : UInt8) : (c % 6).toNat < 6 := by
  rw [UInt8.toNat_mod]; exact Nat.mod_lt _ (by decide)
theorem c_paddocklaw6_ObjectsReads {w : World} {G0 : Ghost} (hI : Imm G0 w) {lo : Sl} {ops : List POp} {c : UInt8} (ho : Opl G0 lo ops) : Ret P 5 [lo.v, .int .u8 (c.toNat : Int)] [] w G0 (fun G W v => v = .bool true) := by
  refine enter Tryd.func5 rfl Tryd.ntmps5 rfl rfl hI (fun a F M => ?_)
  have hlen := ho.len
  refine c_seq (fun K1 hK1 => ?_)
  refine wp_region_lit ?_
  refine l_step rfl (o_val F (r_assign F rfl) rfl ?_); clear F a; intro a F
  refine l_nil ?_
  refine hK1 _ _ ?_
  refine c_seq (fun K2 hK2 => ?_)
  refine c_seq (fun K3 hK3 => ?_)
  refine wp_region_lit ?_
  refine l_step rfl (o_call M F rfl (c_paddocklaw6_known M.imm) rfl ?_); clear F a; intro a W1 v1 G1 hp1 M E1 F
  subst hp1
  refine l_step rfl (o_val F (r_not F rfl) rfl ?_); clear F a; intro a F
  refine l_nil ?_
  refine hK3 _ _ ?_
  refine c_false F rfl rfl ?_
  refine wp_skip ?_
  refine hK2 _ _ ?_
  refine c_seq (fun K4 hK4 => ?_)
  refine c_seq (fun K5 hK5 => ?_)
  refine wp_region_lit ?_
  refine l_step rfl (o_val F (r_move F rfl) rfl ?_); clear F a; intro a F
  refine l_step rfl (o_val F (r_len_slice F slc_Ops.und rfl) rfl ?_); clear F a; intro a F
  refine l_step rfl (o_val F (r_gtr_i64 F rfl rfl) rfl ?_); clear F a; intro a F
  refine l_nil ?_
  refine hK5 _ _ ?_
  refine c_cond F rfl (fun g16 => ?_) (fun g16 => ?_)
  · skip
    refine c_seq (fun K6 hK6 => ?_)
    refine wp_region_lit ?_
    refine l_step rfl (o_val F (r_assign F rfl) rfl ?_); clear F a; intro a F
    refine l_nil ?_
    refine hK6 _ _ ?_
    refine wp_ret ?_
    exact ret1 Tryd.results5 M F (rv_tmp F rfl) (rfl)
  · skip
    refine wp_skip ?_
    refine hK4 _ _ ?_
    refine c_seq (fun K7 hK7 => ?_)
    refine wp_region_lit ?_
    refine l_step rfl (o_val F (r_build F rfl b_Base) rfl ?_); clear F a; intro a F
    refine l_step rfl (o_val F (r_move F rfl) rfl ?_); clear F a; intro a F
    refine l_step rfl (o_call M F rfl (c_objects_All (b := PBase.zero) M.imm zero_short.few (ho.mono M.gl) (by have h := of_decide_eq_false g16; omega)) rfl ?_); clear F a; intro a W2 v2 G2 hp2 M E2 F
    obtain ⟨d1, rfl, hd1⟩ := hp2
    have hs := short_all ops
    generalize (pAllP PBase.zero ops).1 = b at F hs
    refine l_step rfl (o_val F (r_move F rfl) rfl ?_); clear F a; intro a F
    refine l_step rfl (o_val F (r_extract F rfl rfl) rfl ?_); clear F a; intro a F
    refine l_step rfl (o_val F (r_extract F rfl rfl) rfl ?_); clear F a; intro a F
    refine l_step rfl (o_alloc M F zer_Base rfl ?_); clear F a; intro a W3 b1 M F
    refine l_step rfl (o_storeA M F rfl rfl agg_Base.size (by repeat (first | exact Upd.here _ _ _ _ _ | apply Upd.there)) (by rfl) (by rfl) (by rfl) ?_); clear F a; intro a W4 M F
    refine l_step rfl (o_val F (r_assign F rfl) rfl ?_); clear F a; intro a F
    refine l_nil ?_
    refine hK7 _ _ ?_
    refine c_seq (fun K8 hK8 => ?_)
    refine wp_region_lit ?_
    refine l_step rfl (o_val F (r_move F rfl) rfl ?_); clear F a; intro a F
    refine l_step rfl (o_val F (r_rem_u8 (y := 6) F rfl rfl (by decide)) rfl ?_); clear F a; intro a F
    have ho6 := mod6 c
    generalize c % 6 = o at F ho6
    refine l_step rfl (o_val F (r_assign F rfl) rfl ?_); clear F a; intro a F
    refine l_nil ?_
    refine hK8 _ _ ?_
    refine c_seq (fun K9 hK9 => ?_)
    refine wp_region_lit ?_
    refine l_step rfl (o_val F (r_load M F rfl (by repeat (first | exact List.mem_cons_self | apply List.mem_cons_of_mem)) agg_Base (seg_all rfl)) rfl ?_); clear F a; intro a F
    refine l_step rfl (o_val F (r_move F rfl) rfl ?_); clear F a; intro a F
    refine l_step rfl (o_val F (r_build F rfl (b_Op_0_1_2_3 1 1 5 _)) rfl ?_); clear F a; intro a F
    refine l_step rfl (o_call M F rfl (c_objects_Read (o := rdOp o) M.imm hs) rfl ?_); clear F a; intro a W5 v5 G5 hp5 M E5 F
    subst hp5
    refine l_step rfl (o_alloc M F zer_Res rfl ?_); clear F a; intro a W6 b2 M F
    refine l_step rfl (o_storeA M F rfl rfl agg_Res.size (by repeat (first | exact Upd.here _ _ _ _ _ | apply Upd.there)) (by rfl) (by rfl) (by rfl) ?_); clear F a; intro a W7 M F
    refine l_nil ?_
    refine hK9 _ _ ?_
    refine c_seq (fun K10 hK10 => ?_)
    refine wp_region_lit ?_
    refine l_step rfl (o_val F (r_move F rfl) rfl ?_); clear F a; intro a F
    refine l_step rfl (o_val F (r_fieldAddr F rfl fld_Base_0) rfl ?_); clear F a; intro a F
    have hk31 : (o.toNat : Int).toNat < 6 := by omega
    refine l_step rfl (o_val F (r_indexArr F rfl rfl arr_Objs (by omega) (by omega)) rfl ?_); clear F a; intro a F
    refine l_step rfl (o_val F (r_load M F rfl (by repeat (first | exact List.mem_cons_self | apply List.mem_cons_of_mem)) agg_Obj (g_Base_0_i hk31)) rfl ?_); clear F a; intro a F
    simp only [Int.toNat_natCast] at F
    refine l_step rfl (o_alloc M F zer_Obj rfl ?_); clear F a; intro a W8 b3 M F
    refine l_step rfl (o_storeA M F rfl rfl agg_Obj.size (by repeat (first | exact Upd.here _ _ _ _ _ | apply Upd.there)) (by rfl) (by rfl) (by rfl) ?_); clear F a; intro a W9 M F
    refine l_nil ?_
    refine hK10 _ _ ?_
    refine c_seq (fun K11 hK11 => ?_)
    refine c_seq (fun K12 hK12 => ?_)
    refine wp_region_lit ?_
    refine l_step rfl (o_val F (r_fieldAddr F rfl fld_Obj_0) rfl ?_); clear F a; intro a F
    refine l_step rfl (o_val F (r_load1 M F rfl (by repeat (first | exact List.mem_cons_self | apply List.mem_cons_of_mem)) sca_bool rfl) rfl ?_); clear F a; intro a F
    refine l_step rfl (o_val F (r_not F rfl) rfl ?_); clear F a; intro a F
    refine l_nil ?_
    refine hK12 _ _ ?_
    refine c_cond F rfl (fun g35 => ?_) (fun g35 => ?_)
    · skip
      have hth : (b.obj o.toNat).there = false := by simpa using g35
      have hr : pRead b (rdOp o) = ⟨1, ⟨#[]⟩⟩ := by rw [read_rd ho6, if_pos hth]
      refine c_seq (fun K13 hK13 => ?_)
      refine wp_region_lit ?_
      refine l_step rfl (o_val F (r_load M F rfl (by repeat (first | exact List.mem_cons_self | apply List.mem_cons_of_mem)) agg_Res (seg_all rfl)) rfl ?_); clear F a; intro a F
      refine l_step rfl (o_val F (r_build F rfl (b_Res_0 1)) rfl ?_); clear F a; intro a F
      refine l_step rfl (o_val F (r_eql_Res F rfl rfl) rfl ?_); clear F a; intro a F
      refine l_step rfl (o_val F (r_assign F rfl) rfl ?_); clear F a; intro a F
      refine l_nil ?_
      refine hK13 _ _ ?_
      refine wp_ret ?_
      exact ret1 Tryd.results5 M F (rv_tmp F rfl) (by rw [hr]; simp)
    · skip
      have hth : (b.obj o.toNat).there = true := by simpa using g35
      have hr : pRead b (rdOp o) = ⟨0, pReadK (b.obj o.toNat) 3⟩ := by rw [read_rd ho6, if_neg (by simp [hth])]
      simp only [hr] at F M
      have hge := readK_ge (b.obj o.toNat) 3
      refine wp_skip ?_
      refine hK11 _ _ ?_
      refine c_seq (fun K14 hK14 => ?_)
      refine c_seq (fun K15 hK15 => ?_)
      refine c_drawM M [] mixed (fun M => ?_)
      have Ms := M
      have hq1 := Keeps.here M
      have hle1 := M.gle
      refine t_take (i := 0) F rfl rfl hq1 (fun _ _ => r_fieldAddr F rfl fld_Res_0) (fun _ _ _ h => h) (by kernel_rfl) (by kernel_rfl) (by kernel_rfl) (by kernel_rfl) ?_; clear F a; intro a F
      refine t_take (i := 1) F rfl rfl hq1 (fun _ ⟨_, _, M'⟩ => r_load1 M' F rfl (by repeat (first | exact List.mem_cons_self | apply List.mem_cons_of_mem)) sca_u8 rfl) (fun _ _ _ h => h) (by kernel_rfl) (by kernel_rfl) (by kernel_rfl) (by kernel_rfl) ?_; clear F a; intro a F
      refine t_take (i := 2) F rfl rfl hq1 (fun _ _ => r_neq_u8 F (y := 0) rfl rfl) (fun _ _ _ h => h) (by kernel_rfl) (by kernel_rfl) (by kernel_rfl) (by kernel_rfl) ?_; clear F a; intro a F
      refine t_take (i := 3) F rfl rfl hq1 (fun _ _ => r_move F rfl) (fun _ _ _ h => h) (by kernel_rfl) (by kernel_rfl) (by kernel_rfl) (by kernel_rfl) ?_; clear F a; intro a F
      refine t_takeg (i := 4) F rfl rfl rfl (by simp) rfl hq1 (fun _ _ => r_fieldAddr F rfl fld_Res_1) (fun _ _ _ h => h) (by kernel_rfl) (by kernel_rfl) (by kernel_rfl) (by kernel_rfl) ?_; clear F a; intro a F
      refine t_takeg (i := 5) F rfl rfl rfl (by simp) rfl hq1 (fun _ ⟨_, _, M'⟩ => r_load1 M' F rfl (by repeat (first | exact List.mem_cons_self | apply List.mem_cons_of_mem)) sca_string rfl) (fun _ _ _ h => h) (by kernel_rfl) (by kernel_rfl) (by kernel_rfl) (by kernel_rfl) ?_; clear F a; intro a F
      refine t_takeg (i := 6) F rfl rfl rfl (by simp) rfl hq1 (fun _ _ => r_len_string F und_string rfl) (fun _ _ _ h => h) (by kernel_rfl) (by kernel_rfl) (by kernel_rfl) (by kernel_rfl) ?_; clear F a; intro a F
      refine t_takeg (i := 7) F rfl rfl rfl (by simp) rfl hq1 (fun _ _ => r_fieldAddr F rfl fld_Obj_1) (fun _ _ _ h => h) (by kernel_rfl) (by kernel_rfl) (by kernel_rfl) (by kernel_rfl) ?_; clear F a; intro a F
      refine t_takeg (i := 8) F rfl rfl rfl (by simp) rfl hq1 (fun _ ⟨_, _, M'⟩ => r_load1 M' F rfl (by repeat (first | exact List.mem_cons_self | apply List.mem_cons_of_mem)) sca_string rfl) (fun _ _ _ h => h) (by kernel_rfl) (by kernel_rfl) (by kernel_rfl) (by kernel_rfl) ?_; clear F a; intro a F
      refine t_takeg (i := 9) F rfl rfl rfl (by simp) rfl hq1 (fun _ _ => r_len_string F und_string rfl) (fun _ _ _ h => h) (by kernel_rfl) (by kernel_rfl) (by kernel_rfl) (by kernel_rfl) ?_; clear F a; intro a F
      refine t_takeg (i := 10) F rfl rfl rfl (by simp) rfl hq1 (fun _ _ => r_lss_i64 F rfl rfl) (fun _ _ _ h => h) (by kernel_rfl) (by kernel_rfl) (by kernel_rfl) (by kernel_rfl) ?_; clear F a; intro a F
      refine t_take (i := 11) F rfl rfl hq1 (fun _ _ => r_pick_f F rfl (by simp) rfl) (fun _ _ _ h => h) (by kernel_rfl) (by kernel_rfl) (by kernel_rfl) (by kernel_rfl) ?_; clear F a; intro a F
      refine t_take (i := 12) F rfl rfl hq1 (fun _ _ => r_move F rfl) (fun _ _ _ h => h) (by kernel_rfl) (by kernel_rfl) (by kernel_rfl) (by kernel_rfl) ?_; clear F a; intro a F
      refine t_takeg (i := 13) F rfl rfl rfl (decide_eq_false (by dsimp only; omega)) rfl hq1 (fun _ _ => r_fieldAddr F rfl fld_Res_1) (fun _ _ _ h => h) (by kernel_rfl) (by kernel_rfl) (by kernel_rfl) (by kernel_rfl) ?_; clear F a; intro a F
      refine t_takeg (i := 14) F rfl rfl rfl (decide_eq_false (by dsimp only; omega)) rfl hq1 (fun _ ⟨_, _, M'⟩ => r_load1 M' F rfl (by repeat (first | exact List.mem_cons_self | apply List.mem_cons_of_mem)) sca_string rfl) (fun _ _ _ h => h) (by kernel_rfl) (by kernel_rfl) (by kernel_rfl) (by kernel_rfl) ?_; clear F a; intro a F
      refine t_takeg (i := 15) F rfl rfl rfl (decide_eq_false (by dsimp only; omega)) rfl hq1 (fun _ _ => r_fieldAddr F rfl fld_Obj_1) (fun _ _ _ h => h) (by kernel_rfl) (by kernel_rfl) (by kernel_rfl) (by kernel_rfl) ?_; clear F a; intro a F
      refine t_takeg (i := 16) F rfl rfl rfl (decide_eq_false (by dsimp only; omega)) rfl hq1 (fun _ ⟨_, _, M'⟩ => r_load1 M' F rfl (by repeat (first | exact List.mem_cons_self | apply List.mem_cons_of_mem)) sca_string rfl) (fun _ _ _ h => h) (by kernel_rfl) (by kernel_rfl) (by kernel_rfl) (by kernel_rfl) ?_; clear F a; intro a F
      refine t_takeg (i := 17) F rfl rfl rfl (decide_eq_false (by dsimp only; omega)) rfl hq1 (fun _ _ => r_len_string F und_string rfl) (fun _ _ _ h => h) (by kernel_rfl) (by kernel_rfl) (by kernel_rfl) (by kernel_rfl) ?_; clear F a; intro a F
      refine t_takeg (i := 18) F rfl rfl rfl (decide_eq_false (by dsimp only; omega)) rfl hq1 (fun _ _ => r_sstr_to F und_string rfl rfl (by omega) (by (try dsimp only); omega)) (fun _ _ _ h => h) (by kernel_rfl) (by kernel_rfl) (by kernel_rfl) (by kernel_rfl) ?_; clear F a; intro a F
      refine t_takeg (i := 19) F rfl rfl rfl (decide_eq_false (by dsimp only; omega)) rfl hq1 (fun _ _ => r_fieldAddr F rfl fld_Obj_1) (fun _ _ _ h => h) (by kernel_rfl) (by kernel_rfl) (by kernel_rfl) (by kernel_rfl) ?_; clear F a; intro a F
      refine t_takeg (i := 20) F rfl rfl rfl (decide_eq_false (by dsimp only; omega)) rfl hq1 (fun _ ⟨_, _, M'⟩ => r_load1 M' F rfl (by repeat (first | exact List.mem_cons_self | apply List.mem_cons_of_mem)) sca_string rfl) (fun _ _ _ h => h) (by kernel_rfl) (by kernel_rfl) (by kernel_rfl) (by kernel_rfl) ?_; clear F a; intro a F
      refine t_takeg (i := 21) F rfl rfl rfl (decide_eq_false (by dsimp only; omega)) rfl hq1 (fun _ _ => r_neq_string F rfl rfl) (fun _ _ _ h => h) (by kernel_rfl) (by kernel_rfl) (by kernel_rfl) (by kernel_rfl) ?_; clear F a; intro a F
      refine t_take (i := 22) F rfl rfl hq1 (fun _ _ => r_pick_f F rfl (decide_eq_false (by dsimp only; omega)) rfl) (fun _ _ _ h => h) (by kernel_rfl) (by kernel_rfl) (by kernel_rfl) (by kernel_rfl) ?_; clear F a; intro a F
      refine t_done (by kernel_rfl) ?_ _
      refine hK15 _ _ ?_
      refine c_false F rfl (by simp only [Int.toNat_natCast, readK_cut, decide_true, Bool.not_true]) ?_
      refine wp_skip ?_
      refine hK14 _ _ ?_
      refine c_seq (fun K16 hK16 => ?_)
      refine wp_region_lit ?_
      refine l_step rfl (o_val F (r_fieldAddr F rfl fld_Obj_1) rfl ?_); clear F a; intro a F
      refine l_step rfl (o_val F (r_load1 M F rfl (by repeat (first | exact List.mem_cons_self | apply List.mem_cons_of_mem)) sca_string rfl) rfl ?_); clear F a; intro a F
      refine l_step rfl (o_val F (r_len_string F und_string rfl) rfl ?_); clear F a; intro a F
      refine l_step rfl (o_val F (r_assign F rfl) rfl ?_); clear F a; intro a F
      refine l_nil ?_
      refine hK16 _ _ ?_
      refine c_seq (fun K17 hK17 => ?_)
      refine c_seq (fun K18 hK18 => ?_)
      refine wp_region_lit ?_
      refine l_step rfl (o_val F (r_assign F rfl) rfl ?_); clear F a; intro a F
      refine l_nil ?_
      refine hK18 _ _ ?_
      refine wp_block ?_
      refine c_loop (fun k a W => ∃ (i : Nat) (G : Ghost) (n : Int), k = 3 - i ∧ i ≤ 3 ∧ Frm 87 [(11, .int .i64 (i : Int)), (10, .int .i64 n), (9, .pointer (some ⟨b3, 0, none⟩)), (8, .pointer (some ⟨b2, 0, none⟩))] a ∧ St [] w G0 W [⟨b3, 24, (b.obj o.toNat).enc⟩, ⟨b2, 28, (PRes.mk 0 (pReadK (b.obj o.toNat) 3)).enc⟩] G ∧ (n = ((pReadK (b.obj o.toNat) i).size : Int))) (3) ?_ ?_
      · exact ⟨0, _, _, rfl, Nat.zero_le _, (F.cons (F.cons (F.cons (F.cons F.nil 8 rfl) 9 rfl) 10 rfl) 11 rfl), (M.drop (by repeat (first | exact List.Sublist.refl _ | apply List.Sublist.cons_cons | apply List.Sublist.cons))), rfl⟩
      · clear F M a; intro k a W hI; obtain ⟨i, G, n, hk, hi, F, M, hf⟩ := hI
        refine c_seq (fun K19 hK19 => ?_)
        refine c_seq (fun K20 hK20 => ?_)
        refine wp_region_lit ?_
        refine l_step rfl (o_val F (r_move F rfl) rfl ?_); clear F a; intro a F
        refine l_step rfl (o_val F (r_lss_i64 F rfl rfl) rfl ?_); clear F a; intro a F
        refine l_nil ?_
        refine hK20 _ _ ?_
        refine c_cond F rfl (fun g66 => ?_) (fun g66 => ?_)
        · skip
          have hlt : i < 3 := by have h := of_decide_eq_true g66; omega
          have hk71 : (i : Int).toNat < 3 := by omega
          have hk78 := hk71
          have h1 := readK_size (fun k => (hs o.toNat).2 k) (hs o.toNat).1 i
          have h2 := (hs o.toNat).2 i
          have h4 := (hs o.toNat).2 (i : Int).toNat
          have h5 : i * 1003 ≤ 3 * 1003 := Nat.mul_le_mul_right _ (by omega)
          have e1 : (ByteArray.mk #[59]).size = 1 := rfl
          have e2 : (ByteArray.mk #[61]).size = 1 := rfl
          refine wp_skip ?_
          refine hK19 _ _ ?_
          refine c_seq (fun K21 hK21 => ?_)
          refine wp_block ?_
          refine c_seq (fun K22 hK22 => ?_)
          refine wp_region_lit ?_
          refine l_step rfl (o_val F (r_move F rfl) rfl ?_); clear F a; intro a F
          refine l_step rfl (o_val F (r_fieldAddr F rfl fld_Obj_2) rfl ?_); clear F a; intro a F
          refine l_step rfl (o_val F (r_indexArr F rfl rfl arr_Attrs (by omega) (by omega)) rfl ?_); clear F a; intro a F
          refine l_step rfl (o_val F (r_load1 M F rfl (by repeat (first | exact List.mem_cons_self | apply List.mem_cons_of_mem)) sca_string (g_Obj_2_i hk71)) rfl ?_); clear F a; intro a F
          refine l_step rfl (o_val F (r_neq_string F rfl rfl) rfl ?_); clear F a; intro a F
          refine l_nil ?_
          refine hK22 _ _ ?_
          refine c_cond F rfl (fun g73 => ?_) (fun g73 => ?_)
          · skip
            refine wp_region_lit ?_
            refine l_step rfl (o_val F (r_move F rfl) rfl ?_); clear F a; intro a F
            refine l_step rfl (o_val F (r_add_i64 F rfl rfl (by omega)) rfl ?_); clear F a; intro a F
            refine l_step rfl (o_val F (r_move F rfl) rfl ?_); clear F a; intro a F
            refine l_step rfl (o_val F (r_fieldAddr F rfl fld_Obj_2) rfl ?_); clear F a; intro a F
            refine l_step rfl (o_val F (r_indexArr F rfl rfl arr_Attrs (by omega) (by omega)) rfl ?_); clear F a; intro a F
            refine l_step rfl (o_val F (r_load1 M F rfl (by repeat (first | exact List.mem_cons_self | apply List.mem_cons_of_mem)) sca_string (g_Obj_2_i hk78)) rfl ?_); clear F a; intro a F
            refine l_step rfl (o_val F (r_len_string F und_string rfl) rfl ?_); clear F a; intro a F
            refine l_step rfl (o_val F (r_add_i64 F rfl rfl (by omega)) rfl ?_); clear F a; intro a F
            refine l_step rfl (o_val F (r_assign F rfl) rfl ?_); clear F a; intro a F
            refine l_nil ?_
            refine hK21 _ _ ?_
            refine wp_region_lit ?_
            refine l_step rfl (o_val F (r_move F rfl) rfl ?_); clear F a; intro a F
            refine l_step rfl (o_val F (r_add_i64 F rfl rfl (by omega)) rfl ?_); clear F a; intro a F
            refine l_step rfl (o_val F (r_assign F rfl) rfl ?_); clear F a; intro a F
            refine l_nil ?_
            exact ⟨3 - (i + 1), by omega, i + 1, _, _, rfl, by omega, (F.cons (F.cons (F.cons (F.cons F.nil 8 rfl) 9 rfl) 10 rfl) 11 rfl), M.drop (by repeat (first | exact List.Sublist.refl _ | apply List.Sublist.cons_cons | apply List.Sublist.cons)), (by rw [pReadK]; first | (rw [if_neg (by simpa using g73)]; simp only [ByteArray.size_append, dig_size, e1, e2]; rw [hf]; simp only [Int.toNat_natCast]; omega) | (rw [if_pos (by simpa using g73)]; exact hf))⟩
          · skip
            refine wp_skip ?_
            refine hK21 _ _ ?_
            refine wp_region_lit ?_
            refine l_step rfl (o_val F (r_move F rfl) rfl ?_); clear F a; intro a F
            refine l_step rfl (o_val F (r_add_i64 F rfl rfl (by omega)) rfl ?_); clear F a; intro a F
            refine l_step rfl (o_val F (r_assign F rfl) rfl ?_); clear F a; intro a F
            refine l_nil ?_
            exact ⟨3 - (i + 1), by omega, i + 1, _, _, rfl, by omega, (F.cons (F.cons (F.cons (F.cons F.nil 8 rfl) 9 rfl) 10 rfl) 11 rfl), M.drop (by repeat (first | exact List.Sublist.refl _ | apply List.Sublist.cons_cons | apply List.Sublist.cons)), (by rw [pReadK]; first | (rw [if_neg (by simpa using g73)]; simp only [ByteArray.size_append, dig_size, e1, e2]; rw [hf]; simp only [Int.toNat_natCast]; omega) | (rw [if_pos (by simpa using g73)]; exact hf))⟩
        · skip
          have hge : i = 3 := by have h := of_decide_eq_false g66; omega
          subst hge
          refine wp_exit ?_
          refine hK17 _ _ ?_
          refine c_seq (fun K23 hK23 => ?_)
          refine wp_region_lit ?_
          refine l_step rfl (o_val F (r_fieldAddr F rfl fld_Res_1) rfl ?_); clear F a; intro a F
          refine l_step rfl (o_val F (r_load1 M F rfl (by repeat (first | exact List.mem_cons_self | apply List.mem_cons_of_mem)) sca_string rfl) rfl ?_); clear F a; intro a F
          refine l_step rfl (o_val F (r_len_string F und_string rfl) rfl ?_); clear F a; intro a F
          refine l_step rfl (o_val F (r_move F rfl) rfl ?_); clear F a; intro a F
          refine l_step rfl (o_val F (r_eql_i64 F rfl rfl) rfl ?_); clear F a; intro a F
          refine l_step rfl (o_val F (r_assign F rfl) rfl ?_); clear F a; intro a F
          refine l_nil ?_
          refine hK23 _ _ ?_
          refine wp_ret ?_
          exact ret1 Tryd.results5 M F (rv_tmp F rfl) (by rw [hf]; simp)
end Go.Proofs.YtfkmaepcjognkaaDoor.Pad
