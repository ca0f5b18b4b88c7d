/- Walks: operations done one behind the other. The objects' bytes are few, the rows short. -/
import Derived.Test.YtfkmaepcjognkaaDoorDoorA
namespace Go.Proofs.YtfkmaepcjognkaaDoor.Pad
open Go Go.Proofs
set_option linter.unusedVariables false
set_option maxRecDepth 8000
set_option maxHeartbeats 1000000
set_option linter.unusedSimpArgs false
def pAllStep (p : PBase × List PRes) (o : POp) : PBase × List PRes := ((pDo p.1 o).1, p.2 ++ [(pDo p.1 o).2])
def pAllP (b : PBase) (ops : List POp) : PBase × List PRes := ops.foldl pAllStep (b, [])
abbrev Rsl (G : Ghost) (l : Sl) (xs : List PRes) : Prop := RdL G 2 PRes.enc l xs
theorem Tip.rsl {B : List Nat} {w : World} {G : Ghost} {E : Nat} {s : Sl} {xs : List PRes} (h : Tip B w G E 2 s (xs.flatMap PRes.enc)) : Rsl G s xs :=
  ⟨h.rd, by have := h.rd.len; rw [flat_len (k := 2) (fun x => rfl)] at this; omega, fun x => rfl⟩
theorem c_objects_All {w : World} {G0 : Ghost} (hI : Imm G0 w) {b : PBase} {lo : Sl} {ops : List POp} (hb : Few b) (ho : Opl G0 lo ops) (hx : ops.length ≤ 1000) : Ret P 22 [agg b.enc, lo.v] [] w G0 (fun G W v => ∃ d, v = .tuple #[agg (pAllP b ops).1.enc, d.v] ∧ Rsl G d (pAllP b ops).2) := by
  refine enter Tryd.func22 rfl Tryd.ntmps22 rfl rfl hI (fun a F M => ?_)
  have hlen := ho.len
  refine c_seq (fun K1 hK1 => ?_)
  refine wp_region_lit ?_
  refine l_step rfl (o_box M F rfl rfl ?_); clear F a; intro a W1 b1 M F
  refine l_step rfl (o_alloc M F zer_Base rfl ?_); clear F a; intro a W2 b2 M F
  refine l_step rfl (o_val F (r_assign F rfl) rfl ?_); clear F a; intro a F
  refine l_nil ?_
  refine hK1 _ _ ?_
  refine c_seq (fun K2 hK2 => ?_)
  refine wp_region_lit ?_
  refine l_step rfl (o_val F (r_assign F rfl) rfl ?_); clear F a; intro a F
  refine l_nil ?_
  refine hK2 _ _ ?_
  refine c_seq (fun K3 hK3 => ?_)
  refine c_seq (fun K4 hK4 => ?_)
  refine wp_region_lit ?_
  refine l_step rfl (o_val F (r_move F rfl) rfl ?_); clear F a; intro a F
  refine l_step rfl (o_val F (r_len_slice F slc_Ops.und rfl) rfl ?_); clear F a; intro a F
  refine l_step rfl (o_val F (r_move F rfl) rfl ?_); clear F a; intro a F
  refine l_nil ?_
  refine hK4 _ _ ?_
  refine wp_block ?_
  refine c_loop (fun k a W => ∃ (i : Nat) (G : Ghost) (p : PBase × List PRes) (dn : Sl), k = ops.length - i ∧ i ≤ ops.length ∧ Frm 31 [(13, .int .i64 (i : Int)), (12, .int .i64 (lo.len : Int)), (11, lo.v), (6, dn.v), (4, .pointer (some ⟨b2, 0, none⟩)), (2, .pointer (some ⟨b1, 0, none⟩))] a ∧ St [] w G0 W [⟨b2, 33, PBase.zero.enc⟩, ⟨b1, 33, p.1.enc⟩] G ∧ (p = (ops.take i).foldl pAllStep (b, []) ∧ Few p.1 ∧ p.2.length = i ∧ Tip [] w G 28 2 dn (p.2.flatMap PRes.enc))) (ops.length) ?_ ?_
  · exact ⟨0, _, (b, []), Sl.nil, rfl, Nat.zero_le _, (F.cons (F.cons (F.cons (F.cons (F.cons (F.cons F.nil 2 rfl) 4 rfl) 6 rfl) 11 rfl) 12 rfl) 13 rfl), M, ⟨rfl, hb, rfl, Tip.nil _ _ _ _ _⟩⟩
  · clear F M a; intro k a W hI; obtain ⟨i, G, p, dn, hk, hi, F, M, hf⟩ := hI
    obtain ⟨hp, hfw, hpl, ht⟩ := hf
    refine c_seq (fun K5 hK5 => ?_)
    refine wp_region_lit ?_
    refine l_step rfl (o_val F (r_lss_i64 F rfl rfl) rfl ?_); clear F a; intro a F
    refine l_nil ?_
    refine hK5 _ _ ?_
    refine c_seq (fun K6 hK6 => ?_)
    refine c_cond F rfl (fun g14 => ?_) (fun g14 => ?_)
    · skip
      have hlt : i < ops.length := by have h := of_decide_eq_true g14; omega
      obtain ⟨x, hx1⟩ := get_of hlt
      have htl := ht.rsl.len
      refine wp_skip ?_
      refine hK6 _ _ ?_
      refine c_seq (fun K7 hK7 => ?_)
      refine wp_block ?_
      refine c_seq (fun K8 hK8 => ?_)
      refine wp_region_lit ?_
      obtain ⟨eb, eo, er, ha15, hG15, hS15⟩ := (ho.mono M.gl).elem hx1
      refine l_step rfl (o_val F (r_indexSl F rfl rfl slc_Ops ha15 (by omega) (by omega)) rfl ?_); clear F a; intro a F
      refine l_step rfl (o_val F (r_loadr M F rfl hG15 agg_Op hS15) rfl ?_); clear F a; intro a F
      refine l_step rfl (o_alloc M F zer_Op rfl ?_); clear F a; intro a W3 b3 M F
      refine l_step rfl (o_storeA M F rfl rfl agg_Op.size (by repeat (first | exact Upd.here _ _ _ _ _ | apply Upd.there)) (by rfl) (by rfl) (by rfl) ?_); clear F a; intro a W4 M F
      refine l_nil ?_
      refine hK8 _ _ ?_
      refine c_seq (fun K9 hK9 => ?_)
      refine wp_region_lit ?_
      refine l_step rfl (o_val F (r_load M F rfl (by repeat (first | exact List.mem_cons_self | apply List.mem_cons_of_mem)) agg_Base (seg_all rfl)) rfl ?_); clear F a; intro a F
      refine l_step rfl (o_val F (r_load M F rfl (by repeat (first | exact List.mem_cons_self | apply List.mem_cons_of_mem)) agg_Op (seg_all rfl)) rfl ?_); clear F a; intro a F
      have Mo := M
      refine l_step rfl (o_call M F rfl (c_objects_Do M.imm hfw) rfl ?_); clear F a; intro a W5 v5 G5 hp5 M E5 F
      have ht := ht.keep Mo.imm (fun k hk => E5.go k hk (by simp))
      subst hp5
      refine l_step rfl (o_val F (r_move F rfl) rfl ?_); clear F a; intro a F
      refine l_step rfl (o_val F (r_extract F rfl rfl) rfl ?_); clear F a; intro a F
      refine l_step rfl (o_val F (r_extract F rfl rfl) rfl ?_); clear F a; intro a F
      refine l_step rfl (o_alloc M F zer_Base rfl ?_); clear F a; intro a W6 b4 M F
      refine l_step rfl (o_alloc M F zer_Res rfl ?_); clear F a; intro a W7 b5 M F
      refine l_step rfl (o_storeA M F rfl rfl agg_Base.size (by repeat (first | exact Upd.here _ _ _ _ _ | apply Upd.there)) (by rfl) (by rfl) (by rfl) ?_); clear F a; intro a W8 M F
      refine l_step rfl (o_storeA M F rfl rfl agg_Res.size (by repeat (first | exact Upd.here _ _ _ _ _ | apply Upd.there)) (by rfl) (by rfl) (by rfl) ?_); clear F a; intro a W9 M F
      refine l_nil ?_
      refine hK9 _ _ ?_
      refine c_seq (fun K10 hK10 => ?_)
      refine wp_region_lit ?_
      refine l_step rfl (o_val F (r_load M F rfl (by repeat (first | exact List.mem_cons_self | apply List.mem_cons_of_mem)) agg_Base (seg_all rfl)) rfl ?_); clear F a; intro a F
      refine l_step rfl (o_storeA M F rfl rfl agg_Base.size (by repeat (first | exact Upd.here _ _ _ _ _ | apply Upd.there)) (by rfl) (by rfl) (by rfl) ?_); clear F a; intro a W10 M F
      refine l_nil ?_
      refine hK10 _ _ ?_
      refine wp_region_lit ?_
      refine l_step rfl (o_val F (r_move F rfl) rfl ?_); clear F a; intro a F
      refine l_step rfl (o_val F (r_load M F rfl (by repeat (first | exact List.mem_cons_self | apply List.mem_cons_of_mem)) agg_Res (seg_all rfl)) rfl ?_); clear F a; intro a F
      refine l_step rfl (o_bslice1 M F slc_Ress zer_Res rfl rfl rfl rfl ?_); clear F a; intro a W11 S11 G11 hg11 hl11 hn11 hs11 F
      have ht := ht.keep M.imm hs11
      have M := hg11.st
      have hlit := hg11.tip.rd
      have hlitlen := hl11
      refine l_step rfl (o_append M F slc_Ress app_Res rfl rfl ht hlit rfl (by omega) (by omega) rfl ?_); clear F a; intro a W12 Sa Ga hga hla hna F
      have hlit := hlit.mono hga.le
      have M := hga.st
      refine l_step rfl (o_val F (r_assign F rfl) rfl ?_); clear F a; intro a F
      refine l_nil ?_
      refine hK7 _ _ ?_
      refine wp_region_lit ?_
      refine l_step rfl (o_val F (r_add_i64 F rfl rfl (by omega)) rfl ?_); clear F a; intro a F
      refine l_step rfl (o_val F (r_move F rfl) rfl ?_); clear F a; intro a F
      refine l_nil ?_
      exact ⟨ops.length - (i + 1), by omega, i + 1, _, ((pDo p.1 x).1, p.2 ++ [(pDo p.1 x).2]), Sa, rfl, by omega, (F.cons (F.cons (F.cons (F.cons (F.cons (F.cons F.nil 2 rfl) 4 rfl) 6 rfl) 11 rfl) 12 rfl) 13 rfl), M.drop (by repeat (first | exact List.Sublist.refl _ | apply List.Sublist.cons_cons | apply List.Sublist.cons)), ⟨by rw [take_of hx1, List.foldl_append, ← hp]; rfl, few_do hfw, by simp [hpl], by rw [List.flatMap_append]; exact hga.tip⟩⟩
    · skip
      have hge : i = ops.length := by have h := of_decide_eq_false g14; omega
      rw [hge, List.take_length] at hp
      refine wp_exit ?_
      refine hK3 _ _ ?_
      refine c_seq (fun K11 hK11 => ?_)
      refine wp_region_lit ?_
      refine l_step rfl (o_val F (r_load M F rfl (by repeat (first | exact List.mem_cons_self | apply List.mem_cons_of_mem)) agg_Base (seg_all rfl)) rfl ?_); clear F a; intro a F
      refine l_step rfl (o_val F (r_move F rfl) rfl ?_); clear F a; intro a F
      refine l_step rfl (o_storeA M F rfl rfl agg_Base.size (by repeat (first | exact Upd.here _ _ _ _ _ | apply Upd.there)) (by rfl) (by rfl) (by rfl) ?_); clear F a; intro a W13 M F
      refine l_step rfl (o_val F (r_assign F rfl) rfl ?_); clear F a; intro a F
      refine l_nil ?_
      refine hK11 _ _ ?_
      refine wp_ret ?_
      exact ret2 Tryd.results22 M F (rv_cell M F rfl (by repeat (first | exact List.mem_cons_self | apply List.mem_cons_of_mem)) agg_Base rfl) (rv_tmp F rfl) (⟨dn, by rw [pAllP, ← hp], by rw [pAllP, ← hp]; exact ht.rsl⟩)
end Go.Proofs.YtfkmaepcjognkaaDoor.Pad
