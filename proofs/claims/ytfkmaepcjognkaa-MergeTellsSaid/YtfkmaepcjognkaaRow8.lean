/- Walks: the statements' own helpers of layer 8. The rows are short. -/
import Derived.Test.YtfkmaepcjognkaaMFacts
namespace Go.Proofs.Ytfkmaepcjognkaa.Pad
open Go Go.Proofs
set_option linter.unusedVariables false
set_option maxRecDepth 8000
set_option linter.unusedSimpArgs false
def k8 : PState := (pAdd PState.zero ⟨1, 1, ⟨1, 1, 1, 0, 0, ⟨#[97]⟩⟩⟩).1
theorem k8_known : (pAdd PState.zero ⟨1, 1, ⟨1, 1, 1, 0, 0, ⟨#[97]⟩⟩⟩).2 = 0 ∧ (pMake PState.zero k8).kind = 1 ∧ (pMake PState.zero k8).log.length = 1 ∧ (pMake PState.zero k8).whole.log.length = 0 ∧ pApply PState.zero (pMake PState.zero k8) = (k8, 0) ∧ (pApply k8 ⟨9, 0, [], PState.zero⟩).2 = 80 ∧ (pMake k8 k8).kind = 0 ∧ pExtends PState.zero k8 = true ∧ pExtends k8 PState.zero = false := by decide +kernel
def items (a b : List POp) (since : UInt32) : List (POp × UInt32) := a.map (fun o => (o, 1)) ++ b.map (fun o => (o, since % 20 + 2))
def pStStep (s : PState) (x : POp × UInt32) : PState := if (pAdd s ⟨x.2, (pHead s).2 + 1, x.1⟩).2 = 0 then (pAdd s ⟨x.2, (pHead s).2 + 1, x.1⟩).1 else s
def pSt0 (a b : List POp) (since started : UInt32) : PState := (items a b since).foldl pStStep ⟨started % 60, PBase.zero, PEntry.zero, []⟩
def stX (s : PState) (f : UInt8) : UInt32 := s.tail.n + f.toUInt32 % ((lastE s).n - s.tail.n + 1)
def pSt (a b : List POp) (since : UInt32) (f : UInt8) (started : UInt32) : PState := pFolded (pSt0 a b since started) ((stX (pSt0 a b since started) f).toNat - (pSt0 a b since started).tail.n.toNat)
theorem ok_start (x : UInt32) : Ok ⟨x % 60, PBase.zero, PEntry.zero, []⟩ := by
  refine ⟨?_, (by decide : ¬ 60 < PEntry.zero.since), rfl, Nat.zero_le _, (by decide : pBase PBase.zero = true), rfl⟩
  show ¬ 60 < x % 60
  rw [UInt32.lt_iff_toNat_lt, UInt32.toNat_mod]
  have e : (60 : UInt32).toNat = 60 := rfl
  rw [e]; omega
theorem st_ok_aux : ∀ (xs : List (POp × UInt32)) (s : PState), Ok s → Ok (xs.foldl pStStep s)
  | [], _, h => h
  | x :: xs, s, h => st_ok_aux xs _ (by
    unfold pStStep
    split
    · rename_i h0; exact ok_add h0
    · exact h)
theorem st0_ok (a b : List POp) (since started : UInt32) : Ok (pSt0 a b since started) := st_ok_aux _ _ (ok_start _)
theorem st_ok (a b : List POp) (since : UInt32) (f : UInt8) (started : UInt32) : Ok (pSt a b since f started) := ok_folded (st0_ok _ _ _ _) _
theorem st_tail (a b : List POp) (since : UInt32) (f : UInt8) (started : UInt32) : pTail (pSt0 a b since started) (stX (pSt0 a b since started) f) = (pSt a b since f started, 0) := by
  have h := st0_ok a b since started
  have hx := span_x h (a := f.toUInt32) (x := stX (pSt0 a b since started) f) rfl
  rw [tail_eq h hx.1 hx.2]; rfl
theorem items_len (a b : List POp) (since : UInt32) : (items a b since).length = a.length + b.length := by simp [items]
theorem items_a {a b : List POp} {since : UInt32} {i : Nat} {o : POp} (h : a[i]? = some o) : (items a b since)[i]? = some (o, 1) := by
  have hlt := (List.getElem?_eq_some_iff.1 h).1
  rw [items, List.getElem?_append_left (by simpa using hlt), List.getElem?_map, h]; rfl
theorem items_b {a b : List POp} {since : UInt32} {i : Nat} {o : POp} (hi : a.length ≤ i) (h : b[i - a.length]? = some o) : (items a b since)[i]? = some (o, since % 20 + 2) := by
  rw [items, List.getElem?_append_right (by simpa using hi), List.length_map, List.getElem?_map, h]; rfl
theorem Opl.nil (G : Ghost) : Opl G Sl.nil [] := ⟨Rd.nil' G 6, rfl, fun x => rfl⟩
theorem st_snoc {a b : List POp} {since : UInt32} {s0 : PState} {i : Nat} {x : POp × UInt32} (h : (items a b since)[i]? = some x) : ((items a b since).take (i + 1)).foldl pStStep s0 = pStStep (((items a b since).take i).foldl pStStep s0) x := by
  rw [take_of h, List.foldl_append]; rfl
set_option maxHeartbeats 2000000 in
theorem c_paddocklaw8_known {w : World} {G0 : Ghost} (hI : Imm G0 w)  : Ret P 49 [] [] w G0 (fun G W v => v = .bool true) := by
  refine enter Try.func49 rfl Try.ntmps49 rfl rfl hI (fun a F M => ?_)
  refine c_seq (fun K1 hK1 => ?_)
  refine wp_region_lit ?_
  refine l_step rfl (o_val F (r_assign F rfl) rfl ?_); clear F a; intro a F
  refine l_nil ?_
  refine hK1 _ _ ?_
  refine c_seq (fun K2 hK2 => ?_)
  refine wp_region_lit ?_
  refine l_step rfl (o_val F (r_build F rfl b_State) rfl ?_); clear F a; intro a F
  refine l_step rfl (o_val F (r_build F rfl (b_Op_0_1_2_5 1 1 1 _)) rfl ?_); clear F a; intro a F
  refine l_step rfl (o_val F (r_build F rfl (b_Entry_0_1_2 1 1 _)) rfl ?_); clear F a; intro a F
  refine l_step rfl (o_call M F rfl (c_pglog_Add (s := PState.zero) M.imm (Ens.nil _)) rfl ?_); clear F a; intro a W1 v1 G1 hp1 M E1 F
  obtain ⟨l1, rfl, hl1⟩ := hp1
  have e8 := k8_known.1
  have d8 : (pAdd PState.zero ⟨1, 1, ⟨1, 1, 1, 0, 0, ⟨#[97]⟩⟩⟩).1 = k8 := rfl
  rw [d8] at hl1
  simp only [d8, e8] at F
  refine l_step rfl (o_val F (r_move F rfl) rfl ?_); clear F a; intro a F
  refine l_step rfl (o_val F (r_extract F rfl rfl) rfl ?_); clear F a; intro a F
  refine l_step rfl (o_val F (r_extract F rfl rfl) rfl ?_); clear F a; intro a F
  refine l_step rfl (o_alloc M F zer_State rfl ?_); clear F a; intro a W2 b1 M F
  refine l_step rfl (o_storeA M F rfl rfl agg_State.size (by repeat (first | exact Upd.here _ _ _ _ _ | apply Upd.there)) (by rfl) (by rfl) (by rfl) ?_); clear F a; intro a W3 M F
  refine l_step rfl (o_val F (r_assign F rfl) rfl ?_); clear F a; intro a F
  refine l_nil ?_
  refine hK2 _ _ ?_
  refine c_seq (fun K3 hK3 => ?_)
  refine wp_region_lit ?_
  refine l_step rfl (o_val F (r_build F rfl b_State) rfl ?_); clear F a; intro a F
  refine l_step rfl (o_val F (r_load M F rfl (by repeat (first | exact List.mem_cons_self | apply List.mem_cons_of_mem)) agg_State (seg_all rfl)) rfl ?_); clear F a; intro a F
  refine l_step rfl (o_call M F rfl (c_merge_Make (s := PState.zero) (t := k8) M.imm (Ens.nil _) hl1) rfl ?_); clear F a; intro a W4 v4 G4 hp4 M E4 F
  have hl1 := hl1.mono E4.gl
  obtain ⟨l2, l3, rfl, hl2, hl3⟩ := hp4
  have hlen2 := hl2.len
  refine l_step rfl (o_alloc M F zer_Diff rfl ?_); clear F a; intro a W5 b2 M F
  refine l_step rfl (o_storeA M F rfl rfl agg_Diff.size (by repeat (first | exact Upd.here _ _ _ _ _ | apply Upd.there)) (by rfl) (by rfl) (by rfl) ?_); clear F a; intro a W6 M F
  refine l_nil ?_
  refine hK3 _ _ ?_
  refine c_seq (fun K4 hK4 => ?_)
  refine wp_region_lit ?_
  refine l_step rfl (o_val F (r_build F rfl b_State) rfl ?_); clear F a; intro a F
  refine l_step rfl (o_val F (r_load M F rfl (by repeat (first | exact List.mem_cons_self | apply List.mem_cons_of_mem)) agg_Diff (seg_all rfl)) rfl ?_); clear F a; intro a F
  refine l_step rfl (o_call M F rfl (c_merge_Apply (s := PState.zero) (d := pMake PState.zero k8) M.imm (Ens.nil _) hl2 hl3) rfl ?_); clear F a; intro a W7 v7 G7 hp7 M E7 F
  have hl1 := hl1.mono E7.gl
  have hl2 := hl2.mono E7.gl
  have hl3 := hl3.mono E7.gl
  obtain ⟨l4, rfl, hl4⟩ := hp7
  simp only [k8_known.2.2.2.2.1] at F hl4
  refine l_step rfl (o_val F (r_move F rfl) rfl ?_); clear F a; intro a F
  refine l_step rfl (o_val F (r_extract F rfl rfl) rfl ?_); clear F a; intro a F
  refine l_step rfl (o_val F (r_extract F rfl rfl) rfl ?_); clear F a; intro a F
  refine l_step rfl (o_alloc M F zer_State rfl ?_); clear F a; intro a W8 b3 M F
  refine l_step rfl (o_storeA M F rfl rfl agg_State.size (by repeat (first | exact Upd.here _ _ _ _ _ | apply Upd.there)) (by rfl) (by rfl) (by rfl) ?_); clear F a; intro a W9 M F
  refine l_step rfl (o_val F (r_assign F rfl) rfl ?_); clear F a; intro a F
  refine l_nil ?_
  refine hK4 _ _ ?_
  refine c_seq (fun K5 hK5 => ?_)
  refine wp_region_lit ?_
  refine l_step rfl (o_val F (r_load M F rfl (by repeat (first | exact List.mem_cons_self | apply List.mem_cons_of_mem)) agg_State (seg_all rfl)) rfl ?_); clear F a; intro a F
  refine l_step rfl (o_val F (r_build F rfl (b_Diff_0 9)) rfl ?_); clear F a; intro a F
  refine l_step rfl (o_call M F rfl (c_merge_Apply (s := k8) (d := ⟨9, 0, [], PState.zero⟩) M.imm hl1 (Ens.nil _) (Ens.nil _)) rfl ?_); clear F a; intro a W10 v10 G10 hp10 M E10 F
  have hl1 := hl1.mono E10.gl
  have hl2 := hl2.mono E10.gl
  have hl3 := hl3.mono E10.gl
  have hl4 := hl4.mono E10.gl
  obtain ⟨l5, rfl, hl5⟩ := hp10
  simp only [k8_known.2.2.2.2.2.1] at F
  refine l_step rfl (o_val F (r_move F rfl) rfl ?_); clear F a; intro a F
  refine l_step rfl (o_val F (r_extract F rfl rfl) rfl ?_); clear F a; intro a F
  refine l_step rfl (o_val F (r_extract F rfl rfl) rfl ?_); clear F a; intro a F
  refine l_step rfl (o_alloc M F zer_State rfl ?_); clear F a; intro a W11 b4 M F
  refine l_step rfl (o_storeA M F rfl rfl agg_State.size (by repeat (first | exact Upd.here _ _ _ _ _ | apply Upd.there)) (by rfl) (by rfl) (by rfl) ?_); clear F a; intro a W12 M F
  refine l_step rfl (o_val F (r_assign F rfl) rfl ?_); clear F a; intro a F
  refine l_nil ?_
  refine hK5 _ _ ?_
  refine c_seq (fun K6 hK6 => ?_)
  refine wp_region_lit ?_
  refine l_step rfl (o_val F (r_move F rfl) rfl ?_); clear F a; intro a F
  refine l_step rfl (o_val F (r_eql_i64 F rfl rfl) rfl ?_); clear F a; intro a F
  refine l_step rfl (o_val F (r_move F rfl) rfl ?_); clear F a; intro a F
  refine l_guard F rfl rfl rfl rfl (o_val F (r_fieldAddr F rfl fld_Diff_0) rfl ?_); clear F a; intro a F
  refine l_guard F rfl rfl rfl rfl (o_val F (r_load1 M F rfl (by repeat (first | exact List.mem_cons_self | apply List.mem_cons_of_mem)) sca_int rfl) rfl ?_); clear F a; intro a F
  refine l_guard F rfl rfl rfl rfl (o_val F (r_eql_i64 F rfl rfl) rfl ?_); clear F a; intro a F
  refine l_step rfl (o_val F (r_pick_t F rfl rfl rfl) rfl ?_); clear F a; intro a F
  refine l_step rfl (o_val F (r_move F rfl) rfl ?_); clear F a; intro a F
  refine l_guard F rfl rfl rfl (decide_eq_true k8_known.2.1) (o_val F (r_fieldAddr F rfl fld_Diff_2) rfl ?_); clear F a; intro a F
  refine l_guard F rfl rfl rfl (decide_eq_true k8_known.2.1) (o_val F (r_load1 M F rfl (by repeat (first | exact List.mem_cons_self | apply List.mem_cons_of_mem)) sca_Entries rfl) rfl ?_); clear F a; intro a F
  refine l_guard F rfl rfl rfl (decide_eq_true k8_known.2.1) (o_val F (r_len_slice F slc_Entries.und rfl) rfl ?_); clear F a; intro a F
  refine l_guard F rfl rfl rfl (decide_eq_true k8_known.2.1) (o_val F (r_eql_i64 F rfl rfl) rfl ?_); clear F a; intro a F
  refine l_step rfl (o_val F (r_pick_t F rfl (decide_eq_true k8_known.2.1) rfl) rfl ?_); clear F a; intro a F
  refine l_step rfl (o_val F (r_move F rfl) rfl ?_); clear F a; intro a F
  refine l_guard F rfl rfl rfl (by rw [show ((pMake PState.zero k8).at l2 l3).log.len = 1 from hlen2.trans k8_known.2.2.1]; rfl) (o_val F (r_move F rfl) rfl ?_); clear F a; intro a F
  refine l_guard F rfl rfl rfl (by rw [show ((pMake PState.zero k8).at l2 l3).log.len = 1 from hlen2.trans k8_known.2.2.1]; rfl) (o_val F (r_eql_i64 F rfl rfl) rfl ?_); clear F a; intro a F
  refine l_step rfl (o_val F (r_pick_t F rfl (by rw [show ((pMake PState.zero k8).at l2 l3).log.len = 1 from hlen2.trans k8_known.2.2.1]; rfl) rfl) rfl ?_); clear F a; intro a F
  refine l_step rfl (o_val F (r_move F rfl) rfl ?_); clear F a; intro a F
  refine l_guard F rfl rfl rfl rfl (o_val F (r_load M F rfl (by repeat (first | exact List.mem_cons_self | apply List.mem_cons_of_mem)) agg_State (seg_all rfl)) rfl ?_); clear F a; intro a F
  refine l_guard F rfl rfl rfl rfl (o_val F (r_load M F rfl (by repeat (first | exact List.mem_cons_self | apply List.mem_cons_of_mem)) agg_State (seg_all rfl)) rfl ?_); clear F a; intro a F
  refine l_guard F rfl rfl rfl rfl (o_call M F rfl (c_pglog_Same M.imm hl1 hl4) rfl ?_); clear F a; intro a W13 v13 G13 hp13 M E13 F
  have hl1 := hl1.mono E13.gl
  have hl2 := hl2.mono E13.gl
  have hl3 := hl3.mono E13.gl
  have hl4 := hl4.mono E13.gl
  subst hp13
  refine l_step rfl (o_val F (r_pick_t F rfl rfl rfl) rfl ?_); clear F a; intro a F
  refine l_step rfl (o_val F (r_move F rfl) rfl ?_); clear F a; intro a F
  refine l_guard F rfl rfl rfl (decide_eq_true rfl) (o_val F (r_move F rfl) rfl ?_); clear F a; intro a F
  refine l_guard F rfl rfl rfl (decide_eq_true rfl) (o_val F (r_eql_i64 F rfl rfl) rfl ?_); clear F a; intro a F
  refine l_step rfl (o_val F (r_pick_t F rfl (decide_eq_true rfl) rfl) rfl ?_); clear F a; intro a F
  refine l_step rfl (o_val F (r_move F rfl) rfl ?_); clear F a; intro a F
  refine l_guard F rfl rfl rfl rfl (o_val F (r_load M F rfl (by repeat (first | exact List.mem_cons_self | apply List.mem_cons_of_mem)) agg_State (seg_all rfl)) rfl ?_); clear F a; intro a F
  refine l_guard F rfl rfl rfl rfl (o_val F (r_load M F rfl (by repeat (first | exact List.mem_cons_self | apply List.mem_cons_of_mem)) agg_State (seg_all rfl)) rfl ?_); clear F a; intro a F
  refine l_guard F rfl rfl rfl rfl (o_call M F rfl (c_merge_Make (s := k8) (t := k8) M.imm hl1 hl1) rfl ?_); clear F a; intro a W14 v14 G14 hp14 M E14 F
  have hl1 := hl1.mono E14.gl
  have hl2 := hl2.mono E14.gl
  have hl3 := hl3.mono E14.gl
  have hl4 := hl4.mono E14.gl
  obtain ⟨l6, l7, rfl, hl6, hl7⟩ := hp14
  refine l_guard F rfl rfl rfl rfl (o_val F (r_field1 F rfl fld_Diff_0 sca_int rfl) rfl ?_); clear F a; intro a F
  refine l_guard F rfl rfl rfl rfl (o_val F (r_eql_i64 F rfl rfl) rfl ?_); clear F a; intro a F
  refine l_step rfl (o_val F (r_pick_t F rfl rfl rfl) rfl ?_); clear F a; intro a F
  refine l_step rfl (o_val F (r_move F rfl) rfl ?_); clear F a; intro a F
  refine l_guard F rfl rfl rfl (decide_eq_true k8_known.2.2.2.2.2.2.1) (o_val F (r_build F rfl b_State) rfl ?_); clear F a; intro a F
  refine l_guard F rfl rfl rfl (decide_eq_true k8_known.2.2.2.2.2.2.1) (o_val F (r_load M F rfl (by repeat (first | exact List.mem_cons_self | apply List.mem_cons_of_mem)) agg_State (seg_all rfl)) rfl ?_); clear F a; intro a F
  refine l_guard F rfl rfl rfl (decide_eq_true k8_known.2.2.2.2.2.2.1) (o_call M F rfl (c_merge_Extends (s := PState.zero) (t := k8) M.imm (Ens.nil _) hl1) rfl ?_); clear F a; intro a W15 v15 G15 hp15 M E15 F
  have hl1 := hl1.mono E15.gl
  have hl2 := hl2.mono E15.gl
  have hl3 := hl3.mono E15.gl
  have hl4 := hl4.mono E15.gl
  subst hp15
  refine l_step rfl (o_val F (r_pick_t F rfl (decide_eq_true k8_known.2.2.2.2.2.2.1) rfl) rfl ?_); clear F a; intro a F
  refine l_step rfl (o_val F (r_move F rfl) rfl ?_); clear F a; intro a F
  refine l_guard F rfl rfl rfl k8_known.2.2.2.2.2.2.2.1 (o_val F (r_load M F rfl (by repeat (first | exact List.mem_cons_self | apply List.mem_cons_of_mem)) agg_State (seg_all rfl)) rfl ?_); clear F a; intro a F
  refine l_guard F rfl rfl rfl k8_known.2.2.2.2.2.2.2.1 (o_val F (r_build F rfl b_State) rfl ?_); clear F a; intro a F
  refine l_guard F rfl rfl rfl k8_known.2.2.2.2.2.2.2.1 (o_call M F rfl (c_merge_Extends (s := k8) (t := PState.zero) M.imm hl1 (Ens.nil _)) rfl ?_); clear F a; intro a W16 v16 G16 hp16 M E16 F
  have hl1 := hl1.mono E16.gl
  have hl2 := hl2.mono E16.gl
  have hl3 := hl3.mono E16.gl
  have hl4 := hl4.mono E16.gl
  subst hp16
  refine l_guard F rfl rfl rfl k8_known.2.2.2.2.2.2.2.1 (o_val F (r_not F rfl) rfl ?_); clear F a; intro a F
  refine l_step rfl (o_val F (r_pick_t F rfl k8_known.2.2.2.2.2.2.2.1 rfl) rfl ?_); clear F a; intro a F
  refine l_step rfl (o_val F (r_assign F rfl) rfl ?_); clear F a; intro a F
  refine l_nil ?_
  refine hK6 _ _ ?_
  refine wp_ret ?_
  exact ret1 Try.results49 M F (rv_tmp F rfl) (by rw [k8_known.2.2.2.2.2.2.2.2]; rfl)
set_option maxHeartbeats 2000000 in
theorem c_paddocklaw8_state {w : World} {G0 : Ghost} (hI : Imm G0 w) {la lb : Sl} {xs ys : List POp} {since started : UInt32} {f : UInt8} (ha : Opl G0 la xs) (hb : Opl G0 lb ys) (hxa : xs.length ≤ 1000) (hxb : ys.length ≤ 1000) : Ret P 50 [la.v, lb.v, .int .u32 (since.toNat : Int), .int .u8 (f.toNat : Int), .int .u32 (started.toNat : Int)] [] w G0 (fun G W v => ∃ l', v = agg (GState.enc ((pSt xs ys since f started).at l')) ∧ Ens G l' (pSt xs ys since f started).log) := by
  refine enter Try.func50 rfl Try.ntmps50 rfl rfl hI (fun a F M => ?_)
  have hlena := ha.len
  have hlenb := hb.len
  refine c_seq (fun K1 hK1 => ?_)
  refine wp_region_lit ?_
  refine l_step rfl (o_alloc M F zer_State rfl ?_); clear F a; intro a W1 b1 M F
  refine l_nil ?_
  refine hK1 _ _ ?_
  refine c_seq (fun K2 hK2 => ?_)
  refine wp_region_lit ?_
  refine l_step rfl (o_val F (r_move F rfl) rfl ?_); clear F a; intro a F
  refine l_step rfl (o_val F (r_rem_u32 F (y := 60) rfl rfl (by decide)) rfl ?_); clear F a; intro a F
  refine l_step rfl (o_val F (r_build F rfl (b_State_0 _)) rfl ?_); clear F a; intro a F
  refine l_step rfl (o_alloc M F zer_State rfl ?_); clear F a; intro a W2 b2 M F
  refine l_step rfl (o_storeA M F rfl rfl agg_State.size (by repeat (first | exact Upd.here _ _ _ _ _ | apply Upd.there)) (by rfl) (by rfl) (by rfl) ?_); clear F a; intro a W3 M F
  refine l_nil ?_
  refine hK2 _ _ ?_
  refine c_seq (fun K3 hK3 => ?_)
  refine c_seq (fun K4 hK4 => ?_)
  refine wp_region_lit ?_
  refine l_step rfl (o_val F (r_assign F rfl) rfl ?_); clear F a; intro a F
  refine l_nil ?_
  refine hK4 _ _ ?_
  refine wp_block ?_
  refine c_loop (fun k a W => ∃ (i : Nat) (G : Ghost) (s : PState) (l : Sl), k = (xs.length + ys.length) - i ∧ i ≤ (xs.length + ys.length) ∧ Frm 99 [(12, .int .i64 (i : Int)), (0, la.v), (1, lb.v), (2, .int .u32 (since.toNat : Int)), (3, .int .u8 (f.toNat : Int)), (11, .pointer (some ⟨b2, 0, none⟩)), (10, .pointer (some ⟨b1, 0, none⟩))] a ∧ St [] w G0 W [⟨b2, 42, (s.at l).enc⟩, ⟨b1, 42, GState.enc ⟨0, PBase.zero, PEntry.zero, Sl.nil⟩⟩] G ∧ (s = ((items xs ys since).take i).foldl pStStep ⟨started % 60, PBase.zero, PEntry.zero, []⟩ ∧ Ens G l s.log)) ((xs.length + ys.length)) ?_ ?_
  · exact ⟨0, _, ⟨started % 60, PBase.zero, PEntry.zero, []⟩, Sl.nil, rfl, Nat.zero_le _, (F.cons (F.cons (F.cons (F.cons (F.cons (F.cons (F.cons F.nil 10 rfl) 11 rfl) 3 rfl) 2 rfl) 1 rfl) 0 rfl) 12 rfl), M, ⟨rfl, Ens.nil _⟩⟩
  · clear F M a; intro k a W hI; obtain ⟨i, G, s, l, hk, hi, F, M, hf⟩ := hI
    obtain ⟨hs, hl⟩ := hf
    refine c_seq (fun K5 hK5 => ?_)
    refine c_seq (fun K6 hK6 => ?_)
    refine wp_region_lit ?_
    refine l_step rfl (o_val F (r_move F rfl) rfl ?_); clear F a; intro a F
    refine l_step rfl (o_val F (r_move F rfl) rfl ?_); clear F a; intro a F
    refine l_step rfl (o_val F (r_len_slice F slc_Ops.und rfl) rfl ?_); clear F a; intro a F
    refine l_step rfl (o_val F (r_move F rfl) rfl ?_); clear F a; intro a F
    refine l_step rfl (o_val F (r_len_slice F slc_Ops.und rfl) rfl ?_); clear F a; intro a F
    refine l_step rfl (o_val F (r_add_i64 F rfl rfl (by omega)) rfl ?_); clear F a; intro a F
    refine l_step rfl (o_val F (r_lss_i64 F rfl rfl) rfl ?_); clear F a; intro a F
    refine l_nil ?_
    refine hK6 _ _ ?_
    refine c_cond F rfl (fun g32 => ?_) (fun g32 => ?_)
    · skip
      have hlt : i < (xs.length + ys.length) := by have h := of_decide_eq_true g32; omega
      refine wp_skip ?_
      refine hK5 _ _ ?_
      refine c_seq (fun K7 hK7 => ?_)
      refine wp_block ?_
      refine c_seq (fun K8 hK8 => ?_)
      refine wp_region_lit ?_
      refine l_step rfl (o_val F (r_build F rfl b_Op) rfl ?_); clear F a; intro a F
      refine l_step rfl (o_alloc M F zer_Op rfl ?_); clear F a; intro a W4 b3 M F
      refine l_step rfl (o_storeA M F rfl rfl agg_Op.size (by repeat (first | exact Upd.here _ _ _ _ _ | apply Upd.there)) (by rfl) (by rfl) (by rfl) ?_); clear F a; intro a W5 M F
      refine l_step rfl (o_val F (r_assign F rfl) rfl ?_); clear F a; intro a F
      refine l_nil ?_
      refine hK8 _ _ ?_
      refine c_seq (fun K9 hK9 => ?_)
      refine c_seq (fun K10 hK10 => ?_)
      refine wp_region_lit ?_
      refine l_step rfl (o_val F (r_move F rfl) rfl ?_); clear F a; intro a F
      refine l_step rfl (o_val F (r_move F rfl) rfl ?_); clear F a; intro a F
      refine l_step rfl (o_val F (r_len_slice F slc_Ops.und rfl) rfl ?_); clear F a; intro a F
      refine l_step rfl (o_val F (r_lss_i64 F rfl rfl) rfl ?_); clear F a; intro a F
      refine l_nil ?_
      refine hK10 _ _ ?_
      refine c_cond F rfl (fun g39 => ?_) (fun g39 => ?_)
      · skip
        have hi39 : i < xs.length := by have h := of_decide_eq_true g39; omega
        obtain ⟨x, hx⟩ := get_of hi39
        have hit := items_a (b := ys) (since := since) hx
        refine wp_region_lit ?_
        refine l_step rfl (o_val F (r_move F rfl) rfl ?_); clear F a; intro a F
        refine l_step rfl (o_val F (r_move F rfl) rfl ?_); clear F a; intro a F
        obtain ⟨eb, eo, er, ha42, hG42, hS42⟩ := (ha.mono M.gl).elem hx
        refine l_step rfl (o_val F (r_indexSl F rfl rfl slc_Ops ha42 (by omega) (by omega)) rfl ?_); clear F a; intro a F
        refine l_step rfl (o_val F (r_loadr M F rfl hG42 agg_Op hS42) rfl ?_); clear F a; intro a F
        refine l_step rfl (o_storeA M F rfl rfl agg_Op.size (by repeat (first | exact Upd.here _ _ _ _ _ | apply Upd.there)) (by rfl) (by rfl) (by rfl) ?_); clear F a; intro a W6 M F
        refine l_nil ?_
        refine hK9 _ _ ?_
        refine c_seq (fun K11 hK11 => ?_)
        refine wp_region_lit ?_
        refine l_step rfl (o_val F (r_load M F rfl (by repeat (first | exact List.mem_cons_self | apply List.mem_cons_of_mem)) agg_State (seg_all rfl)) rfl ?_); clear F a; intro a F
        refine l_step rfl (o_call M F rfl (c_pglog_Head M.imm hl) rfl ?_); clear F a; intro a W7 v7 G7 hp7 M E7 F
        have hl := hl.mono E7.gl
        subst hp7
        refine l_step rfl (o_val F (r_move F rfl) rfl ?_); clear F a; intro a F
        refine l_step rfl (o_val F (r_extract F rfl rfl) rfl ?_); clear F a; intro a F
        refine l_step rfl (o_val F (r_extract F rfl rfl) rfl ?_); clear F a; intro a F
        refine l_step rfl (o_val F (r_assign F rfl) rfl ?_); clear F a; intro a F
        refine l_step rfl (o_val F (r_assign F rfl) rfl ?_); clear F a; intro a F
        refine l_nil ?_
        refine hK11 _ _ ?_
        refine c_seq (fun K12 hK12 => ?_)
        refine wp_region_lit ?_
        refine l_step rfl (o_val F (r_load M F rfl (by repeat (first | exact List.mem_cons_self | apply List.mem_cons_of_mem)) agg_State (seg_all rfl)) rfl ?_); clear F a; intro a F
        refine l_step rfl (o_val F (r_move F rfl) rfl ?_); clear F a; intro a F
        refine l_step rfl (o_val F (r_move F rfl) rfl ?_); clear F a; intro a F
        refine l_step rfl (o_val F (r_add_u32 F (y := 1) rfl rfl) rfl ?_); clear F a; intro a F
        refine l_step rfl (o_val F (r_load M F rfl (by repeat (first | exact List.mem_cons_self | apply List.mem_cons_of_mem)) agg_Op (seg_all rfl)) rfl ?_); clear F a; intro a F
        refine l_step rfl (o_val F (r_build F rfl (b_Entry_0_1_2 1 _ _)) rfl ?_); clear F a; intro a F
        refine l_step rfl (o_call M F rfl (c_pglog_Add M.imm hl) rfl ?_); clear F a; intro a W8 v8 G8 hp8 M E8 F
        have hl := hl.mono E8.gl
        obtain ⟨l1, rfl, hl1⟩ := hp8
        refine l_step rfl (o_val F (r_move F rfl) rfl ?_); clear F a; intro a F
        refine l_step rfl (o_val F (r_extract F rfl rfl) rfl ?_); clear F a; intro a F
        refine l_step rfl (o_val F (r_extract F rfl rfl) rfl ?_); clear F a; intro a F
        refine l_step rfl (o_alloc M F zer_State rfl ?_); clear F a; intro a W9 b4 M F
        refine l_step rfl (o_storeA M F rfl rfl agg_State.size (by repeat (first | exact Upd.here _ _ _ _ _ | apply Upd.there)) (by rfl) (by rfl) (by rfl) ?_); clear F a; intro a W10 M F
        refine l_step rfl (o_val F (r_assign F rfl) rfl ?_); clear F a; intro a F
        refine l_nil ?_
        refine hK12 _ _ ?_
        refine c_seq (fun K13 hK13 => ?_)
        refine wp_region_lit ?_
        refine l_step rfl (o_val F (r_move F rfl) rfl ?_); clear F a; intro a F
        refine l_step rfl (o_val F (r_eql_i64 F rfl rfl) rfl ?_); clear F a; intro a F
        refine l_nil ?_
        refine hK13 _ _ ?_
        refine c_cond F rfl (fun g70 => ?_) (fun g70 => ?_)
        · skip
          refine wp_region_lit ?_
          refine l_step rfl (o_val F (r_load M F rfl (by repeat (first | exact List.mem_cons_self | apply List.mem_cons_of_mem)) agg_State (seg_all rfl)) rfl ?_); clear F a; intro a F
          refine l_step rfl (o_storeA M F rfl rfl agg_State.size (by repeat (first | exact Upd.here _ _ _ _ _ | apply Upd.there)) (by rfl) (by rfl) (by rfl) ?_); clear F a; intro a W11 M F
          refine l_nil ?_
          refine hK7 _ _ ?_
          refine wp_region_lit ?_
          refine l_step rfl (o_val F (r_move F rfl) rfl ?_); clear F a; intro a F
          refine l_step rfl (o_val F (r_add_i64 F rfl rfl (by omega)) rfl ?_); clear F a; intro a F
          refine l_step rfl (o_val F (r_assign F rfl) rfl ?_); clear F a; intro a F
          refine l_nil ?_
          have hsn := st_snoc (s0 := ⟨started % 60, PBase.zero, PEntry.zero, []⟩) hit
          rw [← hs, pStStep, if_pos (of_decide_eq_true g70)] at hsn
          exact ⟨(xs.length + ys.length) - (i + 1), by omega, i + 1, _, _, l1, rfl, by omega, (F.cons (F.cons (F.cons (F.cons (F.cons (F.cons (F.cons F.nil 10 rfl) 11 rfl) 3 rfl) 2 rfl) 1 rfl) 0 rfl) 12 rfl), M.drop (by repeat (first | exact List.Sublist.refl _ | apply List.Sublist.cons_cons | apply List.Sublist.cons)), ⟨hsn.symm, hl1⟩⟩
        · skip
          refine wp_skip ?_
          refine hK7 _ _ ?_
          refine wp_region_lit ?_
          refine l_step rfl (o_val F (r_move F rfl) rfl ?_); clear F a; intro a F
          refine l_step rfl (o_val F (r_add_i64 F rfl rfl (by omega)) rfl ?_); clear F a; intro a F
          refine l_step rfl (o_val F (r_assign F rfl) rfl ?_); clear F a; intro a F
          refine l_nil ?_
          have hsn := st_snoc (s0 := ⟨started % 60, PBase.zero, PEntry.zero, []⟩) hit
          rw [← hs, pStStep, if_neg (of_decide_eq_false g70)] at hsn
          exact ⟨(xs.length + ys.length) - (i + 1), by omega, i + 1, _, s, l, rfl, by omega, (F.cons (F.cons (F.cons (F.cons (F.cons (F.cons (F.cons F.nil 10 rfl) 11 rfl) 3 rfl) 2 rfl) 1 rfl) 0 rfl) 12 rfl), M.drop (by repeat (first | exact List.Sublist.refl _ | apply List.Sublist.cons_cons | apply List.Sublist.cons)), ⟨hsn.symm, hl⟩⟩
      · skip
        have hi39 : xs.length ≤ i := by have h := of_decide_eq_false g39; omega
        obtain ⟨x, hx⟩ := get_of (l := ys) (i := i - xs.length) (by omega)
        have hit := items_b (since := since) hi39 hx
        have hi49 : ((i : Int) - (la.len : Int)).toNat = i - xs.length := by omega
        rw [← hi49] at hx
        refine wp_region_lit ?_
        refine l_step rfl (o_val F (r_move F rfl) rfl ?_); clear F a; intro a F
        refine l_step rfl (o_val F (r_move F rfl) rfl ?_); clear F a; intro a F
        refine l_step rfl (o_val F (r_move F rfl) rfl ?_); clear F a; intro a F
        refine l_step rfl (o_val F (r_len_slice F slc_Ops.und rfl) rfl ?_); clear F a; intro a F
        refine l_step rfl (o_val F (r_sub_i64 F rfl rfl (by omega)) rfl ?_); clear F a; intro a F
        obtain ⟨eb, eo, er, ha49, hG49, hS49⟩ := (hb.mono M.gl).elem hx
        refine l_step rfl (o_val F (r_indexSl F rfl rfl slc_Ops ha49 (by omega) (by omega)) rfl ?_); clear F a; intro a F
        refine l_step rfl (o_val F (r_loadr M F rfl hG49 agg_Op hS49) rfl ?_); clear F a; intro a F
        refine l_step rfl (o_val F (r_move F rfl) rfl ?_); clear F a; intro a F
        refine l_step rfl (o_val F (r_rem_u32 F (y := 20) rfl rfl (by decide)) rfl ?_); clear F a; intro a F
        refine l_step rfl (o_val F (r_add_u32 F (y := 2) rfl rfl) rfl ?_); clear F a; intro a F
        refine l_step rfl (o_storeA M F rfl rfl agg_Op.size (by repeat (first | exact Upd.here _ _ _ _ _ | apply Upd.there)) (by rfl) (by rfl) (by rfl) ?_); clear F a; intro a W12 M F
        refine l_step rfl (o_val F (r_assign F rfl) rfl ?_); clear F a; intro a F
        refine l_nil ?_
        refine hK9 _ _ ?_
        refine c_seq (fun K14 hK14 => ?_)
        refine wp_region_lit ?_
        refine l_step rfl (o_val F (r_load M F rfl (by repeat (first | exact List.mem_cons_self | apply List.mem_cons_of_mem)) agg_State (seg_all rfl)) rfl ?_); clear F a; intro a F
        refine l_step rfl (o_call M F rfl (c_pglog_Head M.imm hl) rfl ?_); clear F a; intro a W13 v13 G13 hp13 M E13 F
        have hl := hl.mono E13.gl
        subst hp13
        refine l_step rfl (o_val F (r_move F rfl) rfl ?_); clear F a; intro a F
        refine l_step rfl (o_val F (r_extract F rfl rfl) rfl ?_); clear F a; intro a F
        refine l_step rfl (o_val F (r_extract F rfl rfl) rfl ?_); clear F a; intro a F
        refine l_step rfl (o_val F (r_assign F rfl) rfl ?_); clear F a; intro a F
        refine l_step rfl (o_val F (r_assign F rfl) rfl ?_); clear F a; intro a F
        refine l_nil ?_
        refine hK14 _ _ ?_
        refine c_seq (fun K15 hK15 => ?_)
        refine wp_region_lit ?_
        refine l_step rfl (o_val F (r_load M F rfl (by repeat (first | exact List.mem_cons_self | apply List.mem_cons_of_mem)) agg_State (seg_all rfl)) rfl ?_); clear F a; intro a F
        refine l_step rfl (o_val F (r_move F rfl) rfl ?_); clear F a; intro a F
        refine l_step rfl (o_val F (r_move F rfl) rfl ?_); clear F a; intro a F
        refine l_step rfl (o_val F (r_add_u32 F (y := 1) rfl rfl) rfl ?_); clear F a; intro a F
        refine l_step rfl (o_val F (r_load M F rfl (by repeat (first | exact List.mem_cons_self | apply List.mem_cons_of_mem)) agg_Op (seg_all rfl)) rfl ?_); clear F a; intro a F
        refine l_step rfl (o_val F (r_build F rfl (b_Entry_0_1_2 (since % 20 + 2) _ _)) rfl ?_); clear F a; intro a F
        refine l_step rfl (o_call M F rfl (c_pglog_Add M.imm hl) rfl ?_); clear F a; intro a W14 v14 G14 hp14 M E14 F
        have hl := hl.mono E14.gl
        obtain ⟨l1, rfl, hl1⟩ := hp14
        refine l_step rfl (o_val F (r_move F rfl) rfl ?_); clear F a; intro a F
        refine l_step rfl (o_val F (r_extract F rfl rfl) rfl ?_); clear F a; intro a F
        refine l_step rfl (o_val F (r_extract F rfl rfl) rfl ?_); clear F a; intro a F
        refine l_step rfl (o_alloc M F zer_State rfl ?_); clear F a; intro a W15 b5 M F
        refine l_step rfl (o_storeA M F rfl rfl agg_State.size (by repeat (first | exact Upd.here _ _ _ _ _ | apply Upd.there)) (by rfl) (by rfl) (by rfl) ?_); clear F a; intro a W16 M F
        refine l_step rfl (o_val F (r_assign F rfl) rfl ?_); clear F a; intro a F
        refine l_nil ?_
        refine hK15 _ _ ?_
        refine c_seq (fun K16 hK16 => ?_)
        refine wp_region_lit ?_
        refine l_step rfl (o_val F (r_move F rfl) rfl ?_); clear F a; intro a F
        refine l_step rfl (o_val F (r_eql_i64 F rfl rfl) rfl ?_); clear F a; intro a F
        refine l_nil ?_
        refine hK16 _ _ ?_
        refine c_cond F rfl (fun g70 => ?_) (fun g70 => ?_)
        · skip
          refine wp_region_lit ?_
          refine l_step rfl (o_val F (r_load M F rfl (by repeat (first | exact List.mem_cons_self | apply List.mem_cons_of_mem)) agg_State (seg_all rfl)) rfl ?_); clear F a; intro a F
          refine l_step rfl (o_storeA M F rfl rfl agg_State.size (by repeat (first | exact Upd.here _ _ _ _ _ | apply Upd.there)) (by rfl) (by rfl) (by rfl) ?_); clear F a; intro a W17 M F
          refine l_nil ?_
          refine hK7 _ _ ?_
          refine wp_region_lit ?_
          refine l_step rfl (o_val F (r_move F rfl) rfl ?_); clear F a; intro a F
          refine l_step rfl (o_val F (r_add_i64 F rfl rfl (by omega)) rfl ?_); clear F a; intro a F
          refine l_step rfl (o_val F (r_assign F rfl) rfl ?_); clear F a; intro a F
          refine l_nil ?_
          have hsn := st_snoc (s0 := ⟨started % 60, PBase.zero, PEntry.zero, []⟩) hit
          rw [← hs, pStStep, if_pos (of_decide_eq_true g70)] at hsn
          exact ⟨(xs.length + ys.length) - (i + 1), by omega, i + 1, _, _, l1, rfl, by omega, (F.cons (F.cons (F.cons (F.cons (F.cons (F.cons (F.cons F.nil 10 rfl) 11 rfl) 3 rfl) 2 rfl) 1 rfl) 0 rfl) 12 rfl), M.drop (by repeat (first | exact List.Sublist.refl _ | apply List.Sublist.cons_cons | apply List.Sublist.cons)), ⟨hsn.symm, hl1⟩⟩
        · skip
          refine wp_skip ?_
          refine hK7 _ _ ?_
          refine wp_region_lit ?_
          refine l_step rfl (o_val F (r_move F rfl) rfl ?_); clear F a; intro a F
          refine l_step rfl (o_val F (r_add_i64 F rfl rfl (by omega)) rfl ?_); clear F a; intro a F
          refine l_step rfl (o_val F (r_assign F rfl) rfl ?_); clear F a; intro a F
          refine l_nil ?_
          have hsn := st_snoc (s0 := ⟨started % 60, PBase.zero, PEntry.zero, []⟩) hit
          rw [← hs, pStStep, if_neg (of_decide_eq_false g70)] at hsn
          exact ⟨(xs.length + ys.length) - (i + 1), by omega, i + 1, _, s, l, rfl, by omega, (F.cons (F.cons (F.cons (F.cons (F.cons (F.cons (F.cons F.nil 10 rfl) 11 rfl) 3 rfl) 2 rfl) 1 rfl) 0 rfl) 12 rfl), M.drop (by repeat (first | exact List.Sublist.refl _ | apply List.Sublist.cons_cons | apply List.Sublist.cons)), ⟨hsn.symm, hl⟩⟩
    · skip
      have hge : i = (xs.length + ys.length) := by have h := of_decide_eq_false g32; omega
      rw [hge, ← items_len xs ys since, List.take_length] at hs
      have hok := st0_ok xs ys since started
      have hs2 : s = pSt0 xs ys since started := hs
      have hT := st_tail xs ys since f started
      rw [← hs2] at hok hT
      refine wp_exit ?_
      refine hK3 _ _ ?_
      refine c_seq (fun K17 hK17 => ?_)
      refine wp_region_lit ?_
      refine l_step rfl (o_val F (r_load M F rfl (by repeat (first | exact List.mem_cons_self | apply List.mem_cons_of_mem)) agg_State (seg_all rfl)) rfl ?_); clear F a; intro a F
      refine l_step rfl (o_call M F rfl (c_pglog_Head M.imm hl) rfl ?_); clear F a; intro a W18 v18 G18 hp18 M E18 F
      have hl := hl.mono E18.gl
      subst hp18
      simp only [head_ok hok] at F
      refine l_step rfl (o_val F (r_move F rfl) rfl ?_); clear F a; intro a F
      refine l_step rfl (o_val F (r_extract F rfl rfl) rfl ?_); clear F a; intro a F
      refine l_step rfl (o_val F (r_extract F rfl rfl) rfl ?_); clear F a; intro a F
      refine l_step rfl (o_val F (r_assign F rfl) rfl ?_); clear F a; intro a F
      refine l_step rfl (o_val F (r_assign F rfl) rfl ?_); clear F a; intro a F
      refine l_nil ?_
      refine hK17 _ _ ?_
      refine c_seq (fun K18 hK18 => ?_)
      refine c_drawM M [] mixed (fun M => ?_)
      have Ms := M
      have hq1 := Keeps.here M
      have hle1 := M.gle
      refine t_take (i := 0) F rfl rfl hq1 (fun _ ⟨_, _, M'⟩ => r_load M' F rfl (by repeat (first | exact List.mem_cons_self | apply List.mem_cons_of_mem)) agg_State (seg_all rfl)) (fun _ _ _ h => h) (by kernel_rfl) (by kernel_rfl) (by kernel_rfl) (by kernel_rfl) ?_; clear F a; intro a F
      refine t_take (i := 1) F rfl rfl hq1 (fun _ _ => r_fieldAddr F rfl fld_State_2) (fun _ _ _ h => h) (by kernel_rfl) (by kernel_rfl) (by kernel_rfl) (by kernel_rfl) ?_; clear F a; intro a F
      refine t_take (i := 2) F rfl rfl hq1 (fun _ _ => r_fieldAddr F rfl fld_Entry_1) (fun _ _ _ h => h) (by kernel_rfl) (by kernel_rfl) (by kernel_rfl) (by kernel_rfl) ?_; clear F a; intro a F
      refine t_take (i := 3) F rfl rfl hq1 (fun _ ⟨_, _, M'⟩ => r_load1 M' F rfl (by repeat (first | exact List.mem_cons_self | apply List.mem_cons_of_mem)) sca_u32 rfl) (fun _ _ _ h => h) (by kernel_rfl) (by kernel_rfl) (by kernel_rfl) (by kernel_rfl) ?_; clear F a; intro a F
      refine t_take (i := 4) F rfl rfl hq1 (fun _ _ => r_move F rfl) (fun _ _ _ h => h) (by kernel_rfl) (by kernel_rfl) (by kernel_rfl) (by kernel_rfl) ?_; clear F a; intro a F
      refine t_take (i := 5) F rfl rfl hq1 (fun _ _ => r_conv_u8_u32 F und_u8 und_u32 rfl) (fun _ _ _ h => h) (by kernel_rfl) (by kernel_rfl) (by kernel_rfl) (by kernel_rfl) ?_; clear F a; intro a F
      refine t_take (i := 6) F rfl rfl hq1 (fun _ _ => r_move F rfl) (fun _ _ _ h => h) (by kernel_rfl) (by kernel_rfl) (by kernel_rfl) (by kernel_rfl) ?_; clear F a; intro a F
      refine t_take (i := 7) F rfl rfl hq1 (fun _ _ => r_fieldAddr F rfl fld_State_2) (fun _ _ _ h => h) (by kernel_rfl) (by kernel_rfl) (by kernel_rfl) (by kernel_rfl) ?_; clear F a; intro a F
      refine t_take (i := 8) F rfl rfl hq1 (fun _ _ => r_fieldAddr F rfl fld_Entry_1) (fun _ _ _ h => h) (by kernel_rfl) (by kernel_rfl) (by kernel_rfl) (by kernel_rfl) ?_; clear F a; intro a F
      refine t_take (i := 9) F rfl rfl hq1 (fun _ ⟨_, _, M'⟩ => r_load1 M' F rfl (by repeat (first | exact List.mem_cons_self | apply List.mem_cons_of_mem)) sca_u32 rfl) (fun _ _ _ h => h) (by kernel_rfl) (by kernel_rfl) (by kernel_rfl) (by kernel_rfl) ?_; clear F a; intro a F
      refine t_take (i := 10) F rfl rfl hq1 (fun _ _ => r_sub_u32 F rfl rfl) (fun _ _ _ h => h) (by kernel_rfl) (by kernel_rfl) (by kernel_rfl) (by kernel_rfl) ?_; clear F a; intro a F
      refine t_take (i := 11) F rfl rfl hq1 (fun _ _ => r_add_u32 F (y := 1) rfl rfl) (fun _ _ _ h => h) (by kernel_rfl) (by kernel_rfl) (by kernel_rfl) (by kernel_rfl) ?_; clear F a; intro a F
      refine t_take (i := 12) F rfl rfl hq1 (fun _ _ => r_rem_u32 F rfl rfl (span_ne hok)) (fun _ _ _ h => h) (by kernel_rfl) (by kernel_rfl) (by kernel_rfl) (by kernel_rfl) ?_; clear F a; intro a F
      refine t_take (i := 13) F rfl rfl hq1 (fun _ _ => r_add_u32 F rfl rfl) (fun _ _ _ h => h) (by kernel_rfl) (by kernel_rfl) (by kernel_rfl) (by kernel_rfl) ?_; clear F a; intro a F
      have hX : (s.at l).tail.n + f.toUInt32 % ((lastE s).n - (s.at l).tail.n + 1) = stX s f := rfl
      refine t_two (i := 14) (i' := 18) (by kernel_rfl) rfl rfl rfl rfl ?_ ?_
      · skip
        refine id (o_call M F rfl (c_pglog_Tail M.imm hl) rfl ?_); clear F a; intro a W19 v19 G19 hp19 M E19 F
        have hl := hl.mono E19.gl
        obtain ⟨l2, rfl, hl2⟩ := hp19
        simp only [hX, hT] at F hl2
        have hle1 := hle1.trans E19.gl
        refine keepAnd (Keeps.mk hle1 M (by repeat (first | exact List.Sublist.refl _ | apply List.Sublist.cons_cons | apply List.Sublist.cons))) (fun hq1 => ?_)
        refine t_take (i := 15) F rfl rfl hq1 (fun _ _ => r_move F rfl) (fun _ _ _ h => h) (by kernel_rfl) (by kernel_rfl) (by kernel_rfl) (by kernel_rfl) ?_; clear F a; intro a F
        refine t_take (i := 16) F rfl rfl hq1 (fun _ _ => r_extract F rfl rfl) (fun _ _ _ h => h) (by kernel_rfl) (by kernel_rfl) (by kernel_rfl) (by kernel_rfl) ?_; clear F a; intro a F
        refine t_take (i := 17) F rfl rfl hq1 (fun _ _ => r_extract F rfl rfl) (fun _ _ _ h => h) (by kernel_rfl) (by kernel_rfl) (by kernel_rfl) (by kernel_rfl) ?_; clear F a; intro a F
        refine t_one (i := 18) (by kernel_rfl) rfl rfl (o_alloc M F zer_State rfl ?_); clear F a; intro a W20 b6 M F
        refine keepAnd (Keeps.mk hle1 M (by repeat (first | exact List.Sublist.refl _ | apply List.Sublist.cons_cons | apply List.Sublist.cons))) (fun hq1 => ?_)
        refine t_one (i := 19) (by kernel_rfl) rfl rfl (o_storeA M F rfl rfl agg_State.size (by repeat (first | exact Upd.here _ _ _ _ _ | apply Upd.there)) (by rfl) (by rfl) (by rfl) ?_); clear F a; intro a W21 M F
        refine keepAnd (Keeps.mk hle1 M (by repeat (first | exact List.Sublist.refl _ | apply List.Sublist.cons_cons | apply List.Sublist.cons))) (fun hq1 => ?_)
        refine t_take (i := 20) F rfl rfl hq1 (fun _ _ => r_assign F rfl) (fun _ _ _ h => h) (by kernel_rfl) (by kernel_rfl) (by kernel_rfl) (by kernel_rfl) ?_; clear F a; intro a F
        refine t_done (by kernel_rfl) ?_ _
        refine hK18 _ _ ?_
        refine c_seq (fun K19 hK19 => ?_)
        refine c_seq (fun K20 hK20 => ?_)
        refine wp_region_lit ?_
        refine l_step rfl (o_val F (r_move F rfl) rfl ?_); clear F a; intro a F
        refine l_step rfl (o_val F (r_eql_i64 F rfl rfl) rfl ?_); clear F a; intro a F
        refine l_nil ?_
        refine hK20 _ _ ?_
        refine c_true F rfl rfl ?_
        refine wp_region_lit ?_
        refine l_step rfl (o_val F (r_load M F rfl (by repeat (first | exact List.mem_cons_self | apply List.mem_cons_of_mem)) agg_State (seg_all rfl)) rfl ?_); clear F a; intro a F
        refine l_step rfl (o_storeA M F rfl rfl agg_State.size (by repeat (first | exact Upd.here _ _ _ _ _ | apply Upd.there)) (by rfl) (by rfl) (by rfl) ?_); clear F a; intro a W22 M F
        refine l_nil ?_
        refine hK19 _ _ ?_
        refine c_seq (fun K21 hK21 => ?_)
        refine wp_region_lit ?_
        refine l_step rfl (o_val F (r_load M F rfl (by repeat (first | exact List.mem_cons_self | apply List.mem_cons_of_mem)) agg_State (seg_all rfl)) rfl ?_); clear F a; intro a F
        refine l_step rfl (o_storeA M F rfl rfl agg_State.size (by repeat (first | exact Upd.here _ _ _ _ _ | apply Upd.there)) (by rfl) (by rfl) (by rfl) ?_); clear F a; intro a W23 M F
        refine l_nil ?_
        refine hK21 _ _ ?_
        refine wp_ret ?_
        exact ret1 Try.results50 M F (rv_cell M F rfl (by repeat (first | exact List.mem_cons_self | apply List.mem_cons_of_mem)) agg_State rfl) (⟨l2, rfl, hl2⟩)
      · skip
        refine id (o_alloc M F zer_State rfl ?_); clear F a; intro a W24 b7 M F
        refine keepAnd (Keeps.mk hle1 M (by repeat (first | exact List.Sublist.refl _ | apply List.Sublist.cons_cons | apply List.Sublist.cons))) (fun hq1 => ?_)
        refine t_one (i := 14) (by kernel_rfl) rfl rfl (o_call M F rfl (c_pglog_Tail M.imm hl) rfl ?_); clear F a; intro a W25 v25 G25 hp25 M E25 F
        have hl := hl.mono E25.gl
        obtain ⟨l2, rfl, hl2⟩ := hp25
        simp only [hX, hT] at F hl2
        have hle1 := hle1.trans E25.gl
        refine keepAnd (Keeps.mk hle1 M (by repeat (first | exact List.Sublist.refl _ | apply List.Sublist.cons_cons | apply List.Sublist.cons))) (fun hq1 => ?_)
        refine t_take (i := 15) F rfl rfl hq1 (fun _ _ => r_move F rfl) (fun _ _ _ h => h) (by kernel_rfl) (by kernel_rfl) (by kernel_rfl) (by kernel_rfl) ?_; clear F a; intro a F
        refine t_take (i := 16) F rfl rfl hq1 (fun _ _ => r_extract F rfl rfl) (fun _ _ _ h => h) (by kernel_rfl) (by kernel_rfl) (by kernel_rfl) (by kernel_rfl) ?_; clear F a; intro a F
        refine t_take (i := 17) F rfl rfl hq1 (fun _ _ => r_extract F rfl rfl) (fun _ _ _ h => h) (by kernel_rfl) (by kernel_rfl) (by kernel_rfl) (by kernel_rfl) ?_; clear F a; intro a F
        refine t_one (i := 19) (by kernel_rfl) rfl rfl (o_storeA M F rfl rfl agg_State.size (by repeat (first | exact Upd.here _ _ _ _ _ | apply Upd.there)) (by rfl) (by rfl) (by rfl) ?_); clear F a; intro a W26 M F
        refine keepAnd (Keeps.mk hle1 M (by repeat (first | exact List.Sublist.refl _ | apply List.Sublist.cons_cons | apply List.Sublist.cons))) (fun hq1 => ?_)
        refine t_take (i := 20) F rfl rfl hq1 (fun _ _ => r_assign F rfl) (fun _ _ _ h => h) (by kernel_rfl) (by kernel_rfl) (by kernel_rfl) (by kernel_rfl) ?_; clear F a; intro a F
        refine t_done (by kernel_rfl) ?_ _
        refine hK18 _ _ ?_
        refine c_seq (fun K22 hK22 => ?_)
        refine c_seq (fun K23 hK23 => ?_)
        refine wp_region_lit ?_
        refine l_step rfl (o_val F (r_move F rfl) rfl ?_); clear F a; intro a F
        refine l_step rfl (o_val F (r_eql_i64 F rfl rfl) rfl ?_); clear F a; intro a F
        refine l_nil ?_
        refine hK23 _ _ ?_
        refine c_true F rfl rfl ?_
        refine wp_region_lit ?_
        refine l_step rfl (o_val F (r_load M F rfl (by repeat (first | exact List.mem_cons_self | apply List.mem_cons_of_mem)) agg_State (seg_all rfl)) rfl ?_); clear F a; intro a F
        refine l_step rfl (o_storeA M F rfl rfl agg_State.size (by repeat (first | exact Upd.here _ _ _ _ _ | apply Upd.there)) (by rfl) (by rfl) (by rfl) ?_); clear F a; intro a W27 M F
        refine l_nil ?_
        refine hK22 _ _ ?_
        refine c_seq (fun K24 hK24 => ?_)
        refine wp_region_lit ?_
        refine l_step rfl (o_val F (r_load M F rfl (by repeat (first | exact List.mem_cons_self | apply List.mem_cons_of_mem)) agg_State (seg_all rfl)) rfl ?_); clear F a; intro a F
        refine l_step rfl (o_storeA M F rfl rfl agg_State.size (by repeat (first | exact Upd.here _ _ _ _ _ | apply Upd.there)) (by rfl) (by rfl) (by rfl) ?_); clear F a; intro a W28 M F
        refine l_nil ?_
        refine hK24 _ _ ?_
        refine wp_ret ?_
        exact ret1 Try.results50 M F (rv_cell M F rfl (by repeat (first | exact List.mem_cons_self | apply List.mem_cons_of_mem)) agg_State rfl) (⟨l2, rfl, hl2⟩)
theorem c_paddocklaw8_tops {w : World} {G0 : Ghost} (hI : Imm G0 w) {s : PState} {l : Sl} (hl : Ens G0 l s.log) : Ret P 54 [agg (GState.enc (s.at l))] [] w G0 (fun G W v => v = .int .u32 ((pHead s).2.toNat : Int)) := by
  refine enter Try.func54 rfl Try.ntmps54 rfl rfl hI (fun a F M => ?_)
  refine c_seq (fun K1 hK1 => ?_)
  refine wp_region_lit ?_
  refine l_step rfl (o_box M F rfl rfl ?_); clear F a; intro a W1 b1 M F
  refine l_step rfl (o_val F (r_assign F rfl) rfl ?_); clear F a; intro a F
  refine l_nil ?_
  refine hK1 _ _ ?_
  refine c_seq (fun K2 hK2 => ?_)
  refine wp_region_lit ?_
  refine l_step rfl (o_val F (r_load M F rfl (by repeat (first | exact List.mem_cons_self | apply List.mem_cons_of_mem)) agg_State (seg_all rfl)) rfl ?_); clear F a; intro a F
  refine l_step rfl (o_call M F rfl (c_pglog_Head M.imm (hl.mono M.gl)) rfl ?_); clear F a; intro a W2 v2 G2 hp2 M E2 F
  subst hp2
  refine l_step rfl (o_val F (r_move F rfl) rfl ?_); clear F a; intro a F
  refine l_step rfl (o_val F (r_extract F rfl rfl) rfl ?_); clear F a; intro a F
  refine l_step rfl (o_val F (r_extract F rfl rfl) rfl ?_); clear F a; intro a F
  refine l_step rfl (o_val F (r_assign F rfl) rfl ?_); clear F a; intro a F
  refine l_step rfl (o_val F (r_assign F rfl) rfl ?_); clear F a; intro a F
  refine l_nil ?_
  refine hK2 _ _ ?_
  refine c_seq (fun K3 hK3 => ?_)
  refine wp_region_lit ?_
  refine l_step rfl (o_val F (r_move F rfl) rfl ?_); clear F a; intro a F
  refine l_step rfl (o_val F (r_assign F rfl) rfl ?_); clear F a; intro a F
  refine l_nil ?_
  refine hK3 _ _ ?_
  refine wp_ret ?_
  exact ret1 Try.results54 M F (rv_tmp F rfl) (rfl)
end Go.Proofs.Ytfkmaepcjognkaa.Pad
