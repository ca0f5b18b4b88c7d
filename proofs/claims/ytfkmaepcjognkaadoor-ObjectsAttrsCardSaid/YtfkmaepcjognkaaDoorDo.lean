/- Walks: what was seen, what an operation does on a base, rows of operations. The objects' bytes are few. -/
import Derived.Test.YtfkmaepcjognkaaDoorObj
namespace Go.Proofs.YtfkmaepcjognkaaDoor.Pad
open Go Go.Proofs
set_option linter.unusedVariables false
set_option maxRecDepth 8000
set_option linter.unusedSimpArgs false
noncomputable def doesF (k : UInt8) : Nat := if k = 1 then 51 else if k = 2 then 52 else if k = 3 then 53 else 54
theorem writes_facts {o : POp} (h : writes o = true) : 1 ≤ o.client.toNat ∧ o.client.toNat ≤ 3 ∧ o.obj.toNat < 6 ∧ o.data.size ≤ 16 := by
  unfold writes at h
  exact isOp_facts (by simp only [Bool.and_eq_true] at h; exact h.1)
theorem writes_facts' {o : POp} (h : (!writes o) = false) : 1 ≤ o.client.toNat ∧ o.client.toNat ≤ 3 ∧ o.obj.toNat < 6 ∧ o.data.size ≤ 16 := writes_facts (by simpa using h)
theorem sub1_toNat {c : UInt8} (h : 1 ≤ c.toNat) : (c - 1).toNat = c.toNat - 1 := by
  have e : (1 : UInt8).toNat = 1 := rfl
  have := UInt8.toNat_sub_of_le c 1 (by rw [UInt8.le_iff_toNat_le, e]; exact h)
  rw [this, e]
theorem writes_idx {o : POp} (h : (!writes o) = false) : ((o.client - 1).toNat : Int).toNat < 3 := by
  have := writes_facts' h
  have := sub1_toNat this.1
  omega
def pSeen (b : PBase) (o : POp) : PRes × Bool :=
  if writes o = false ∨ (b.last (o.client - 1).toNat).seq < o.seq then (PRes.zero, false)
  else if (b.last (o.client - 1).toNat).seq = o.seq then ((b.last (o.client - 1).toNat).r, true)
  else (⟨3, ⟨#[]⟩⟩, true)
def pDone (b : PBase) (o : POp) : PBase :=
  (b.setObj (pDoes o.kind (b.obj o.obj.toNat) o).1 o.obj.toNat).setLast ⟨o.seq, ⟨(pDoes o.kind (b.obj o.obj.toNat) o).2, ⟨#[]⟩⟩⟩ (o.client - 1).toNat
def pDo (b : PBase) (o : POp) : PBase × PRes :=
  if writes o = false then (b, ⟨3, ⟨#[]⟩⟩)
  else if (pSeen b o).2 = true then (b, (pSeen b o).1)
  else (pDone b o, ⟨(pDoes o.kind (b.obj o.obj.toNat) o).2, ⟨#[]⟩⟩)
def Few (b : PBase) : Prop := ∀ i, (b.obj i).data.size ≤ 1000
theorem c_doer {k : UInt8} {w : World} {G0 : Ghost} (hI : Imm G0 w) {b : Nat} {x : PObj} {o : POp} (hx : x.data.size ≤ 1000) (ho : o.data.size ≤ 16) (hg : G0 b = none) (hc : w.heap[b]? = some (.cells x.enc.toArray 84 (0, 0))) : Ret P (doesF k) [.pointer (some ⟨b, 0, none⟩), agg o.enc] [b] w G0 (fun G W v => DoerPost b (pDoes k x o) G W v) := by
  unfold doesF pDoes
  by_cases h1 : k = 1
  · rw [if_pos h1, if_pos h1]; exact c_objects_doer_write hI hx ho hg hc
  · rw [if_neg h1, if_neg h1]
    by_cases h2 : k = 2
    · rw [if_pos h2, if_pos h2]; exact c_objects_doer_trunc hI hx ho hg hc
    · rw [if_neg h2, if_neg h2]
      by_cases h3 : k = 3
      · rw [if_pos h3, if_pos h3]; exact c_objects_doer_attr hI hx ho hg hc
      · rw [if_neg h3, if_neg h3]; exact c_objects_doer_remove hI hx ho hg hc
theorem o_doer {Q : Exit → Act → World → Prop} {K : Act → World → Prop} {B : List Nat} {w W : World} {m m' : List Box} {G0 G : Ghost} {n : Nat} {l : Env} {a : Act} {d : Nat} {ty : TypeId} {ps : String} {af : Array Edge} {g : Option (Nat × Bool)}
    (M : St B w G0 W m G) (F : Frm n l a) {c : Operand} {xs : List Operand} {k : UInt8} {x : PObj} {o : POp} {b : Nat} {ts : Array TypeId} (hc : ev l c = some (.func (.func (doesF k)) #[] #[])) (hx : evs l xs = some [.pointer (some ⟨b, 0, none⟩), agg o.enc]) (u : Upd m b 84 x.enc (pDoes k x o).1.enc m') (hx1 : x.data.size ≤ 1000) (ho : o.data.size ≤ 16) (hd : Nat.blt d n = true)
    (kk : ∀ a' W' G', St B w G0 W' m' G' → Gle G G' → Frm n ((d, .int .u8 ((pDoes k x o).2.toNat : Int)) :: l) a' → K a' W') : Oper.wp P ⟨some d, .call { callee := .value c, args := xs.toArray, argTypes := ts }, ty, ps, af, g⟩ a W K Q := by
  obtain ⟨h1, h2, h3⟩ := M.own _ u.mem
  refine o_callVB F (us := []) (cs := []) hc hx (by rw [List.nil_append, List.append_nil]; exact c_doer M.imm hx1 ho h3 h1) hd ?_
  rintro a' W' v G' ⟨rfl, h5, h6⟩ E F'
  exact kk a' W' G' (M.afterB u E h5 h6) E.gl F'
theorem c_objects_does {w : World} {G0 : Ghost} (hI : Imm G0 w) {k : UInt8} : Ret P 34 [.int .u8 (k.toNat : Int)] [] w G0 (fun G W v => v = .func (.func (doesF k)) #[] #[]) := by
  refine enter Tryd.func34 rfl Tryd.ntmps34 rfl rfl hI (fun a F M => ?_)
  refine c_seq (fun K1 hK1 => ?_)
  refine wp_region_lit ?_
  refine l_step rfl (o_val F (r_assign F rfl) rfl ?_); clear F a; intro a F
  refine l_nil ?_
  refine hK1 _ _ ?_
  refine c_seq (fun K2 hK2 => ?_)
  refine c_seq (fun K3 hK3 => ?_)
  refine wp_region_lit ?_
  refine l_step rfl (o_val F (r_move F rfl) rfl ?_); clear F a; intro a F
  refine l_nil ?_
  refine hK3 _ _ ?_
  refine wp_block ?_
  refine c_seq (fun K4 hK4 => ?_)
  refine wp_region_lit ?_
  refine l_step rfl (o_val F (r_eql_u8 F (y := 1) rfl rfl) rfl ?_); clear F a; intro a F
  refine l_step rfl (o_val F (r_assign F rfl) rfl ?_); clear F a; intro a F
  refine l_nil ?_
  refine hK4 _ _ ?_
  refine c_cond F rfl (fun g4 => ?_) (fun g4 => ?_)
  · skip
    refine c_seq (fun K5 hK5 => ?_)
    refine wp_region_lit ?_
    refine l_step rfl (o_val F (r_assign F rfl) rfl ?_); clear F a; intro a F
    refine l_nil ?_
    refine hK5 _ _ ?_
    refine wp_ret ?_
    exact ret1 Tryd.results34 M F (rv_tmp F rfl) (by simp_all [doesF])
  · skip
    refine c_seq (fun K6 hK6 => ?_)
    refine wp_region_lit ?_
    refine l_step rfl (o_val F (r_eql_u8 F (y := 2) rfl rfl) rfl ?_); clear F a; intro a F
    refine l_step rfl (o_val F (r_assign F rfl) rfl ?_); clear F a; intro a F
    refine l_nil ?_
    refine hK6 _ _ ?_
    refine c_cond F rfl (fun g6 => ?_) (fun g6 => ?_)
    · skip
      refine c_seq (fun K7 hK7 => ?_)
      refine wp_region_lit ?_
      refine l_step rfl (o_val F (r_assign F rfl) rfl ?_); clear F a; intro a F
      refine l_nil ?_
      refine hK7 _ _ ?_
      refine wp_ret ?_
      exact ret1 Tryd.results34 M F (rv_tmp F rfl) (by simp_all [doesF])
    · skip
      refine c_seq (fun K8 hK8 => ?_)
      refine wp_region_lit ?_
      refine l_step rfl (o_val F (r_eql_u8 F (y := 3) rfl rfl) rfl ?_); clear F a; intro a F
      refine l_step rfl (o_val F (r_assign F rfl) rfl ?_); clear F a; intro a F
      refine l_nil ?_
      refine hK8 _ _ ?_
      refine c_cond F rfl (fun g8 => ?_) (fun g8 => ?_)
      · skip
        refine c_seq (fun K9 hK9 => ?_)
        refine wp_region_lit ?_
        refine l_step rfl (o_val F (r_assign F rfl) rfl ?_); clear F a; intro a F
        refine l_nil ?_
        refine hK9 _ _ ?_
        refine wp_ret ?_
        exact ret1 Tryd.results34 M F (rv_tmp F rfl) (by simp_all [doesF])
      · skip
        refine wp_skip ?_
        refine hK2 _ _ ?_
        refine c_seq (fun K10 hK10 => ?_)
        refine wp_region_lit ?_
        refine l_step rfl (o_val F (r_assign F rfl) rfl ?_); clear F a; intro a F
        refine l_nil ?_
        refine hK10 _ _ ?_
        refine wp_ret ?_
        exact ret1 Tryd.results34 M F (rv_tmp F rfl) (by simp_all [doesF])
theorem c_objects_Seen {w : World} {G0 : Ghost} (hI : Imm G0 w) {b : PBase} {o : POp} : Ret P 14 [agg b.enc, agg o.enc] [] w G0 (fun G W v => v = .tuple #[agg (pSeen b o).1.enc, .bool (pSeen b o).2]) := by
  refine enter Tryd.func14 rfl Tryd.ntmps14 rfl rfl hI (fun a F M => ?_)
  refine c_seq (fun K1 hK1 => ?_)
  refine wp_region_lit ?_
  refine l_step rfl (o_box M F rfl rfl ?_); clear F a; intro a W1 b1 M F
  refine l_step rfl (o_box M F rfl rfl ?_); clear F a; intro a W2 b2 M F
  refine l_step rfl (o_alloc M F zer_Res rfl ?_); clear F a; intro a W3 b3 M F
  refine l_step rfl (o_val F (r_assign F rfl) rfl ?_); clear F a; intro a F
  refine l_nil ?_
  refine hK1 _ _ ?_
  refine c_seq (fun K2 hK2 => ?_)
  refine c_seq (fun K3 hK3 => ?_)
  refine c_drawM M [] mixed (fun M => ?_)
  have hq1 := Keeps.here M
  have hle1 := M.gle
  refine t_take (i := 0) F rfl rfl hq1 (fun _ ⟨_, _, M'⟩ => r_load M' F rfl (by repeat (first | exact List.mem_cons_self | apply List.mem_cons_of_mem)) agg_Op (seg_all rfl)) (fun _ _ _ h => h) (by kernel_rfl) (by kernel_rfl) (by kernel_rfl) (by kernel_rfl) ?_; clear F a; intro a F
  refine t_one (i := 1) (by kernel_rfl) rfl rfl (o_call M F rfl (c_objects_Writes M.imm) rfl ?_); clear F a; intro a W4 v4 G4 hp4 M E4 F
  subst hp4
  have hle1 := hle1.trans E4.gl
  refine keepAnd (Keeps.mk hle1 M (by repeat (first | exact List.Sublist.refl _ | apply List.Sublist.cons_cons | apply List.Sublist.cons))) (fun hq1 => ?_)
  refine t_take (i := 2) F rfl rfl hq1 (fun _ _ => r_not F rfl) (fun _ _ _ h => h) (by kernel_rfl) (by kernel_rfl) (by kernel_rfl) (by kernel_rfl) ?_; clear F a; intro a F
  refine t_take (i := 3) F rfl rfl hq1 (fun _ _ => r_move F rfl) (fun _ _ _ h => h) (by kernel_rfl) (by kernel_rfl) (by kernel_rfl) (by kernel_rfl) ?_; clear F a; intro a F
  refine c_split F (i := 10) rfl (fun g10 => ?_) (fun g10 => ?_)
  · skip
    refine t_skip (i := 4) F rfl rfl rfl g10 rfl hq1 (fun _ _ _ h => h) (by kernel_rfl) (by kernel_rfl) (by kernel_rfl) (by kernel_rfl) ?_; clear F a; intro a F
    refine t_skip (i := 5) F rfl rfl rfl g10 rfl hq1 (fun _ _ _ h => h) (by kernel_rfl) (by kernel_rfl) (by kernel_rfl) (by kernel_rfl) ?_; clear F a; intro a F
    refine t_skip (i := 6) F rfl rfl rfl g10 rfl hq1 (fun _ _ _ h => h) (by kernel_rfl) (by kernel_rfl) (by kernel_rfl) (by kernel_rfl) ?_; clear F a; intro a F
    refine t_skip (i := 7) F rfl rfl rfl g10 rfl hq1 (fun _ _ _ h => h) (by kernel_rfl) (by kernel_rfl) (by kernel_rfl) (by kernel_rfl) ?_; clear F a; intro a F
    refine t_skip (i := 8) F rfl rfl rfl g10 rfl hq1 (fun _ _ _ h => h) (by kernel_rfl) (by kernel_rfl) (by kernel_rfl) (by kernel_rfl) ?_; clear F a; intro a F
    refine t_skip (i := 9) F rfl rfl rfl g10 rfl hq1 (fun _ _ _ h => h) (by kernel_rfl) (by kernel_rfl) (by kernel_rfl) (by kernel_rfl) ?_; clear F a; intro a F
    refine t_skip (i := 10) F rfl rfl rfl g10 rfl hq1 (fun _ _ _ h => h) (by kernel_rfl) (by kernel_rfl) (by kernel_rfl) (by kernel_rfl) ?_; clear F a; intro a F
    refine t_skip (i := 11) F rfl rfl rfl g10 rfl hq1 (fun _ _ _ h => h) (by kernel_rfl) (by kernel_rfl) (by kernel_rfl) (by kernel_rfl) ?_; clear F a; intro a F
    refine t_skip (i := 12) F rfl rfl rfl g10 rfl hq1 (fun _ _ _ h => h) (by kernel_rfl) (by kernel_rfl) (by kernel_rfl) (by kernel_rfl) ?_; clear F a; intro a F
    refine t_skip (i := 13) F rfl rfl rfl g10 rfl hq1 (fun _ _ _ h => h) (by kernel_rfl) (by kernel_rfl) (by kernel_rfl) (by kernel_rfl) ?_; clear F a; intro a F
    refine t_take (i := 14) F rfl rfl hq1 (fun _ _ => r_pick_t F rfl g10 rfl) (fun _ _ _ h => h) (by kernel_rfl) (by kernel_rfl) (by kernel_rfl) (by kernel_rfl) ?_; clear F a; intro a F
    refine t_done (by kernel_rfl) ?_ _
    refine hK3 _ _ ?_
    refine c_true F rfl rfl ?_
    refine c_seq (fun K4 hK4 => ?_)
    refine wp_region_lit ?_
    refine l_step rfl (o_val F (r_build F rfl b_Res) rfl ?_); clear F a; intro a F
    refine l_step rfl (o_storeA M F rfl rfl agg_Res.size (by repeat (first | exact Upd.here _ _ _ _ _ | apply Upd.there)) (by rfl) (by rfl) (by rfl) ?_); clear F a; intro a W5 M F
    refine l_step rfl (o_val F (r_assign F rfl) rfl ?_); clear F a; intro a F
    refine l_nil ?_
    refine hK4 _ _ ?_
    refine wp_ret ?_
    exact ret2 Tryd.results14 M F (rv_cell M F rfl (by repeat (first | exact List.mem_cons_self | apply List.mem_cons_of_mem)) agg_Res rfl) (rv_tmp F rfl) (by clear hI M F hK1 hK2 hK3 hK4; simp_all [pSeen, PRes.zero, -UInt8.not_le, -UInt8.not_lt, -UInt32.not_le, -UInt32.not_lt, -Int.not_lt, -Int.not_le, -Nat.not_lt, -Nat.not_le])
  · skip
    refine t_takeg (i := 4) F rfl rfl rfl g10 rfl hq1 (fun _ _ => r_fieldAddr F rfl fld_Op_0) (fun _ _ _ h => h) (by kernel_rfl) (by kernel_rfl) (by kernel_rfl) (by kernel_rfl) ?_; clear F a; intro a F
    refine t_takeg (i := 5) F rfl rfl rfl g10 rfl hq1 (fun _ ⟨_, _, M'⟩ => r_load1 M' F rfl (by repeat (first | exact List.mem_cons_self | apply List.mem_cons_of_mem)) sca_u8 rfl) (fun _ _ _ h => h) (by kernel_rfl) (by kernel_rfl) (by kernel_rfl) (by kernel_rfl) ?_; clear F a; intro a F
    have hk15 := writes_idx g10
    refine t_takeg (i := 6) F rfl rfl rfl g10 rfl hq1 (fun _ _ => r_sub_u8 F (y := 1) rfl rfl) (fun _ _ _ h => h) (by kernel_rfl) (by kernel_rfl) (by kernel_rfl) (by kernel_rfl) ?_; clear F a; intro a F
    refine t_takeg (i := 7) F rfl rfl rfl g10 rfl hq1 (fun _ _ => r_fieldAddr F rfl fld_Base_1) (fun _ _ _ h => h) (by kernel_rfl) (by kernel_rfl) (by kernel_rfl) (by kernel_rfl) ?_; clear F a; intro a F
    refine t_takeg (i := 8) F rfl rfl rfl g10 rfl hq1 (fun _ _ => r_indexArr F rfl rfl arr_Lasts (by omega) (by omega)) (fun _ _ _ h => h) (by kernel_rfl) (by kernel_rfl) (by kernel_rfl) (by kernel_rfl) ?_; clear F a; intro a F
    refine t_takeg (i := 9) F rfl rfl rfl g10 rfl hq1 (fun _ _ => r_fieldAddr F rfl fld_Last_0) (fun _ _ _ h => h) (by kernel_rfl) (by kernel_rfl) (by kernel_rfl) (by kernel_rfl) ?_; clear F a; intro a F
    refine t_takeg (i := 10) F rfl rfl rfl g10 rfl hq1 (fun _ ⟨_, _, M'⟩ => r_load1 M' F rfl (by repeat (first | exact List.mem_cons_self | apply List.mem_cons_of_mem)) sca_u32 (g_Base_1_i_0 hk15)) (fun _ _ _ h => h) (by kernel_rfl) (by kernel_rfl) (by kernel_rfl) (by kernel_rfl) ?_; clear F a; intro a F
    refine t_takeg (i := 11) F rfl rfl rfl g10 rfl hq1 (fun _ _ => r_fieldAddr F rfl fld_Op_1) (fun _ _ _ h => h) (by kernel_rfl) (by kernel_rfl) (by kernel_rfl) (by kernel_rfl) ?_; clear F a; intro a F
    refine t_takeg (i := 12) F rfl rfl rfl g10 rfl hq1 (fun _ ⟨_, _, M'⟩ => r_load1 M' F rfl (by repeat (first | exact List.mem_cons_self | apply List.mem_cons_of_mem)) sca_u32 rfl) (fun _ _ _ h => h) (by kernel_rfl) (by kernel_rfl) (by kernel_rfl) (by kernel_rfl) ?_; clear F a; intro a F
    refine t_takeg (i := 13) F rfl rfl rfl g10 rfl hq1 (fun _ _ => r_lss_u32 F rfl rfl) (fun _ _ _ h => h) (by kernel_rfl) (by kernel_rfl) (by kernel_rfl) (by kernel_rfl) ?_; clear F a; intro a F
    refine t_take (i := 14) F rfl rfl hq1 (fun _ _ => r_pick_f F rfl g10 rfl) (fun _ _ _ h => h) (by kernel_rfl) (by kernel_rfl) (by kernel_rfl) (by kernel_rfl) ?_; clear F a; intro a F
    refine t_done (by kernel_rfl) ?_ _
    refine hK3 _ _ ?_
    refine c_cond F rfl (fun g21 => ?_) (fun g21 => ?_)
    · skip
      refine c_seq (fun K5 hK5 => ?_)
      refine wp_region_lit ?_
      refine l_step rfl (o_val F (r_build F rfl b_Res) rfl ?_); clear F a; intro a F
      refine l_step rfl (o_storeA M F rfl rfl agg_Res.size (by repeat (first | exact Upd.here _ _ _ _ _ | apply Upd.there)) (by rfl) (by rfl) (by rfl) ?_); clear F a; intro a W6 M F
      refine l_step rfl (o_val F (r_assign F rfl) rfl ?_); clear F a; intro a F
      refine l_nil ?_
      refine hK5 _ _ ?_
      refine wp_ret ?_
      exact ret2 Tryd.results14 M F (rv_cell M F rfl (by repeat (first | exact List.mem_cons_self | apply List.mem_cons_of_mem)) agg_Res rfl) (rv_tmp F rfl) (by clear hI M F hK1 hK2 hK3 hK5; simp_all [pSeen, PRes.zero, -UInt8.not_le, -UInt8.not_lt, -UInt32.not_le, -UInt32.not_lt, -Int.not_lt, -Int.not_le, -Nat.not_lt, -Nat.not_le])
    · skip
      refine wp_skip ?_
      refine hK2 _ _ ?_
      refine c_seq (fun K6 hK6 => ?_)
      refine c_seq (fun K7 hK7 => ?_)
      refine wp_region_lit ?_
      refine l_step rfl (o_val F (r_fieldAddr F rfl fld_Op_0) rfl ?_); clear F a; intro a F
      refine l_step rfl (o_val F (r_load1 M F rfl (by repeat (first | exact List.mem_cons_self | apply List.mem_cons_of_mem)) sca_u8 rfl) rfl ?_); clear F a; intro a F
      have hk27 := writes_idx g10
      refine l_step rfl (o_val F (r_sub_u8 F (y := 1) rfl rfl) rfl ?_); clear F a; intro a F
      refine l_step rfl (o_val F (r_fieldAddr F rfl fld_Base_1) rfl ?_); clear F a; intro a F
      refine l_step rfl (o_val F (r_indexArr F rfl rfl arr_Lasts (by omega) (by omega)) rfl ?_); clear F a; intro a F
      refine l_step rfl (o_val F (r_load M F rfl (by repeat (first | exact List.mem_cons_self | apply List.mem_cons_of_mem)) agg_Last (g_Base_1_i hk27)) rfl ?_); clear F a; intro a F
      refine l_step rfl (o_alloc M F zer_Last rfl ?_); clear F a; intro a W7 b4 M F
      refine l_step rfl (o_storeA M F rfl rfl agg_Last.size (by repeat (first | exact Upd.here _ _ _ _ _ | apply Upd.there)) (by rfl) (by rfl) (by rfl) ?_); clear F a; intro a W8 M F
      refine l_nil ?_
      refine hK7 _ _ ?_
      refine c_seq (fun K8 hK8 => ?_)
      refine wp_region_lit ?_
      refine l_step rfl (o_val F (r_fieldAddr F rfl fld_Last_0) rfl ?_); clear F a; intro a F
      refine l_step rfl (o_val F (r_load1 M F rfl (by repeat (first | exact List.mem_cons_self | apply List.mem_cons_of_mem)) sca_u32 rfl) rfl ?_); clear F a; intro a F
      refine l_step rfl (o_val F (r_fieldAddr F rfl fld_Op_1) rfl ?_); clear F a; intro a F
      refine l_step rfl (o_val F (r_load1 M F rfl (by repeat (first | exact List.mem_cons_self | apply List.mem_cons_of_mem)) sca_u32 rfl) rfl ?_); clear F a; intro a F
      refine l_step rfl (o_val F (r_eql_u32 F rfl rfl) rfl ?_); clear F a; intro a F
      refine l_nil ?_
      refine hK8 _ _ ?_
      refine c_cond F rfl (fun g33 => ?_) (fun g33 => ?_)
      · skip
        refine c_seq (fun K9 hK9 => ?_)
        refine wp_region_lit ?_
        refine l_step rfl (o_val F (r_fieldAddr F rfl fld_Last_1) rfl ?_); clear F a; intro a F
        refine l_step rfl (o_val F (r_load M F rfl (by repeat (first | exact List.mem_cons_self | apply List.mem_cons_of_mem)) agg_Res g_Last_1) rfl ?_); clear F a; intro a F
        refine l_step rfl (o_storeA M F rfl rfl agg_Res.size (by repeat (first | exact Upd.here _ _ _ _ _ | apply Upd.there)) (by rfl) (by rfl) (by rfl) ?_); clear F a; intro a W9 M F
        refine l_step rfl (o_val F (r_assign F rfl) rfl ?_); clear F a; intro a F
        refine l_nil ?_
        refine hK9 _ _ ?_
        refine wp_ret ?_
        exact ret2 Tryd.results14 M F (rv_cell M F rfl (by repeat (first | exact List.mem_cons_self | apply List.mem_cons_of_mem)) agg_Res rfl) (rv_tmp F rfl) (by clear hI M F hK1 hK2 hK3 hK6 hK7 hK8 hK9; simp_all [pSeen, PRes.zero, -UInt8.not_le, -UInt8.not_lt, -UInt32.not_le, -UInt32.not_lt, -Int.not_lt, -Int.not_le, -Nat.not_lt, -Nat.not_le])
      · skip
        refine wp_skip ?_
        refine hK6 _ _ ?_
        refine c_seq (fun K10 hK10 => ?_)
        refine wp_region_lit ?_
        refine l_step rfl (o_val F (r_build F rfl (b_Res_0 3)) rfl ?_); clear F a; intro a F
        refine l_step rfl (o_storeA M F rfl rfl agg_Res.size (by repeat (first | exact Upd.here _ _ _ _ _ | apply Upd.there)) (by rfl) (by rfl) (by rfl) ?_); clear F a; intro a W10 M F
        refine l_step rfl (o_val F (r_assign F rfl) rfl ?_); clear F a; intro a F
        refine l_nil ?_
        refine hK10 _ _ ?_
        refine wp_ret ?_
        exact ret2 Tryd.results14 M F (rv_cell M F rfl (by repeat (first | exact List.mem_cons_self | apply List.mem_cons_of_mem)) agg_Res rfl) (rv_tmp F rfl) (by clear hI M F hK1 hK2 hK3 hK6 hK7 hK8 hK10; simp_all [pSeen, PRes.zero, -UInt8.not_le, -UInt8.not_lt, -UInt32.not_le, -UInt32.not_lt, -Int.not_lt, -Int.not_le, -Nat.not_lt, -Nat.not_le])
theorem c_objects_Do {w : World} {G0 : Ghost} (hI : Imm G0 w) {b : PBase} {o : POp} (hb : Few b) : Ret P 12 [agg b.enc, agg o.enc] [] w G0 (fun G W v => v = .tuple #[agg (pDo b o).1.enc, agg (pDo b o).2.enc]) := by
  refine enter Tryd.func12 rfl Tryd.ntmps12 rfl rfl hI (fun a F M => ?_)
  refine c_seq (fun K1 hK1 => ?_)
  refine wp_region_lit ?_
  refine l_step rfl (o_box M F rfl rfl ?_); clear F a; intro a W1 b1 M F
  refine l_step rfl (o_box M F rfl rfl ?_); clear F a; intro a W2 b2 M F
  refine l_step rfl (o_alloc M F zer_Base rfl ?_); clear F a; intro a W3 b3 M F
  refine l_step rfl (o_alloc M F zer_Res rfl ?_); clear F a; intro a W4 b4 M F
  refine l_nil ?_
  refine hK1 _ _ ?_
  refine c_seq (fun K2 hK2 => ?_)
  refine c_seq (fun K3 hK3 => ?_)
  refine wp_region_lit ?_
  refine l_step rfl (o_val F (r_load M F rfl (by repeat (first | exact List.mem_cons_self | apply List.mem_cons_of_mem)) agg_Op (seg_all rfl)) rfl ?_); clear F a; intro a F
  refine l_step rfl (o_call M F rfl (c_objects_Writes M.imm) rfl ?_); clear F a; intro a W5 v5 G5 hp5 M E5 F
  subst hp5
  refine l_step rfl (o_val F (r_not F rfl) rfl ?_); clear F a; intro a F
  refine l_nil ?_
  refine hK3 _ _ ?_
  refine c_cond F rfl (fun g12 => ?_) (fun g12 => ?_)
  · skip
    refine c_seq (fun K4 hK4 => ?_)
    refine wp_region_lit ?_
    refine l_step rfl (o_val F (r_load M F rfl (by repeat (first | exact List.mem_cons_self | apply List.mem_cons_of_mem)) agg_Base (seg_all rfl)) rfl ?_); clear F a; intro a F
    refine l_step rfl (o_val F (r_build F rfl (b_Res_0 3)) rfl ?_); clear F a; intro a F
    refine l_step rfl (o_storeA M F rfl rfl agg_Base.size (by repeat (first | exact Upd.here _ _ _ _ _ | apply Upd.there)) (by rfl) (by rfl) (by rfl) ?_); clear F a; intro a W6 M F
    refine l_step rfl (o_storeA M F rfl rfl agg_Res.size (by repeat (first | exact Upd.here _ _ _ _ _ | apply Upd.there)) (by rfl) (by rfl) (by rfl) ?_); clear F a; intro a W7 M F
    refine l_nil ?_
    refine hK4 _ _ ?_
    refine wp_ret ?_
    exact ret2 Tryd.results12 M F (rv_cell M F rfl (by repeat (first | exact List.mem_cons_self | apply List.mem_cons_of_mem)) agg_Base rfl) (rv_cell M F rfl (by repeat (first | exact List.mem_cons_self | apply List.mem_cons_of_mem)) agg_Res rfl) (by clear hI M F hK1 hK2 hK3 hK4; simp_all [pDo, pDone, -UInt8.not_le, -UInt8.not_lt, -UInt32.not_le, -UInt32.not_lt, -Int.not_lt, -Int.not_le, -Nat.not_lt, -Nat.not_le])
  · skip
    refine wp_skip ?_
    refine hK2 _ _ ?_
    refine c_seq (fun K5 hK5 => ?_)
    refine c_seq (fun K6 hK6 => ?_)
    refine wp_region_lit ?_
    refine l_step rfl (o_val F (r_load M F rfl (by repeat (first | exact List.mem_cons_self | apply List.mem_cons_of_mem)) agg_Base (seg_all rfl)) rfl ?_); clear F a; intro a F
    refine l_step rfl (o_val F (r_load M F rfl (by repeat (first | exact List.mem_cons_self | apply List.mem_cons_of_mem)) agg_Op (seg_all rfl)) rfl ?_); clear F a; intro a F
    refine l_step rfl (o_call M F rfl (c_objects_Seen M.imm) rfl ?_); clear F a; intro a W8 v8 G8 hp8 M E8 F
    subst hp8
    refine l_step rfl (o_val F (r_move F rfl) rfl ?_); clear F a; intro a F
    refine l_step rfl (o_val F (r_extract F rfl rfl) rfl ?_); clear F a; intro a F
    refine l_step rfl (o_val F (r_extract F rfl rfl) rfl ?_); clear F a; intro a F
    refine l_step rfl (o_alloc M F zer_Res rfl ?_); clear F a; intro a W9 b5 M F
    refine l_step rfl (o_storeA M F rfl rfl agg_Res.size (by repeat (first | exact Upd.here _ _ _ _ _ | apply Upd.there)) (by rfl) (by rfl) (by rfl) ?_); clear F a; intro a W10 M F
    refine l_step rfl (o_val F (r_assign F rfl) rfl ?_); clear F a; intro a F
    refine l_nil ?_
    refine hK6 _ _ ?_
    refine c_seq (fun K7 hK7 => ?_)
    refine wp_region_lit ?_
    refine l_step rfl (o_val F (r_move F rfl) rfl ?_); clear F a; intro a F
    refine l_nil ?_
    refine hK7 _ _ ?_
    refine c_cond F rfl (fun g21 => ?_) (fun g21 => ?_)
    · skip
      refine c_seq (fun K8 hK8 => ?_)
      refine c_drawM (M.drop (List.Sublist.cons_cons _ (List.Sublist.cons _ (List.Sublist.cons _ (List.Sublist.cons_cons _ (List.Sublist.cons_cons _ (List.Sublist.refl _))))))) [] mixed (fun Mk => ?_)
      have M := M.drew
      have hq1 := Keeps.here Mk
      have hle1 := M.gle
      refine t_take (i := 0) F rfl rfl hq1 (fun _ ⟨_, _, M'⟩ => r_load M' F rfl (by repeat (first | exact List.mem_cons_self | apply List.mem_cons_of_mem)) agg_Base (seg_all rfl)) (fun _ _ _ h => h) (by kernel_rfl) (by kernel_rfl) (by kernel_rfl) (by kernel_rfl) ?_; clear F a; intro a F
      refine t_take (i := 1) F rfl rfl hq1 (fun _ ⟨_, _, M'⟩ => r_load M' F rfl (by repeat (first | exact List.mem_cons_self | apply List.mem_cons_of_mem)) agg_Res (seg_all rfl)) (fun _ _ _ h => h) (by kernel_rfl) (by kernel_rfl) (by kernel_rfl) (by kernel_rfl) ?_; clear F a; intro a F
      refine t_one (i := 2) (by kernel_rfl) rfl rfl (o_storeA M F rfl rfl agg_Base.size (by repeat (first | exact Upd.here _ _ _ _ _ | apply Upd.there)) (by rfl) (by rfl) (by rfl) ?_); clear F a; intro a W11 M F
      refine keepAnd (Keeps.mk hle1 M (by repeat (first | exact List.Sublist.refl _ | apply List.Sublist.cons_cons | apply List.Sublist.cons))) (fun hq1 => ?_)
      refine t_one (i := 3) (by kernel_rfl) rfl rfl (o_storeA M F rfl rfl agg_Res.size (by repeat (first | exact Upd.here _ _ _ _ _ | apply Upd.there)) (by rfl) (by rfl) (by rfl) ?_); clear F a; intro a W12 M F
      refine keepAnd (Keeps.mk hle1 M (by repeat (first | exact List.Sublist.refl _ | apply List.Sublist.cons_cons | apply List.Sublist.cons))) (fun hq1 => ?_)
      refine t_done (by kernel_rfl) ?_ _
      refine hK8 _ _ ?_
      refine wp_ret ?_
      exact ret2 Tryd.results12 M F (rv_cell M F rfl (by repeat (first | exact List.mem_cons_self | apply List.mem_cons_of_mem)) agg_Base rfl) (rv_cell M F rfl (by repeat (first | exact List.mem_cons_self | apply List.mem_cons_of_mem)) agg_Res rfl) (by clear hI M F hK1 hK2 hK3 hK5 hK6 hK7 hK8; simp_all [pDo, pDone, -UInt8.not_le, -UInt8.not_lt, -UInt32.not_le, -UInt32.not_lt, -Int.not_lt, -Int.not_le, -Nat.not_lt, -Nat.not_le])
    · skip
      refine wp_skip ?_
      refine hK5 _ _ ?_
      refine c_seq (fun K9 hK9 => ?_)
      refine wp_region_lit ?_
      refine l_step rfl (o_val F (r_fieldAddr F rfl fld_Op_3) rfl ?_); clear F a; intro a F
      have hf := writes_facts' g12
      have hk27 : (o.obj.toNat : Int).toNat < 6 := by omega
      have hk45 := hk27
      have hk54 := writes_idx g12
      refine l_step rfl (o_val F (r_load1 M F rfl (by repeat (first | exact List.mem_cons_self | apply List.mem_cons_of_mem)) sca_u8 rfl) rfl ?_); clear F a; intro a F
      refine l_step rfl (o_val F (r_fieldAddr F rfl fld_Base_0) rfl ?_); clear F a; intro a F
      refine l_step rfl (o_val F (r_indexArr F rfl rfl arr_Objs (by omega) (by omega)) rfl ?_); clear F a; intro a F
      refine l_step rfl (o_val F (r_load M F rfl (by repeat (first | exact List.mem_cons_self | apply List.mem_cons_of_mem)) agg_Obj (g_Base_0_i hk27)) rfl ?_); clear F a; intro a F
      refine l_step rfl (o_val F (r_build F rfl (b_Doer_0 _)) rfl ?_); clear F a; intro a F
      refine l_step rfl (o_box M F rfl rfl ?_); clear F a; intro a W13 b6 M F
      refine l_step rfl (o_val F (r_assign F rfl) rfl ?_); clear F a; intro a F
      refine l_nil ?_
      refine hK9 _ _ ?_
      refine c_seq (fun K10 hK10 => ?_)
      refine c_drawM (M.drop (List.Sublist.cons _ (List.Sublist.cons_cons _ (List.Sublist.cons_cons _ (List.Sublist.cons_cons _ (List.Sublist.cons_cons _ (List.Sublist.cons_cons _ (List.Sublist.refl _)))))))) [] mixed (fun Mk => ?_)
      have M := M.drew
      have hq2 := Keeps.here Mk
      have hle2 := M.gle
      refine t_take (i := 0) F rfl rfl hq2 (fun _ _ => r_fieldAddr F rfl fld_Op_2) (fun _ _ _ h => h) (by kernel_rfl) (by kernel_rfl) (by kernel_rfl) (by kernel_rfl) ?_; clear F a; intro a F
      refine t_take (i := 1) F rfl rfl hq2 (fun _ ⟨_, _, M'⟩ => r_load1 M' F rfl (by repeat (first | exact List.mem_cons_self | apply List.mem_cons_of_mem)) sca_u8 rfl) (fun _ _ _ h => h) (by kernel_rfl) (by kernel_rfl) (by kernel_rfl) (by kernel_rfl) ?_; clear F a; intro a F
      refine t_take (i := 3) F rfl rfl hq2 (fun _ _ => r_move F rfl) (fun _ _ _ h => h) (by kernel_rfl) (by kernel_rfl) (by kernel_rfl) (by kernel_rfl) ?_; clear F a; intro a F
      refine t_take (i := 4) F rfl rfl hq2 (fun _ ⟨_, _, M'⟩ => r_load M' F rfl (by repeat (first | exact List.mem_cons_self | apply List.mem_cons_of_mem)) agg_Op (seg_all rfl)) (fun _ _ _ h => h) (by kernel_rfl) (by kernel_rfl) (by kernel_rfl) (by kernel_rfl) ?_; clear F a; intro a F
      refine t_two (i := 2) (i' := 7) (by kernel_rfl) rfl rfl rfl rfl ?_ ?_
      · skip
        refine id (o_call M F rfl (c_objects_does M.imm) rfl ?_); clear F a; intro a W14 v14 G14 hp14 M E14 F
        subst hp14
        have hle2 := hle2.trans E14.gl
        refine keepAnd (Keeps.mk hle2 M (by repeat (first | exact List.Sublist.refl _ | apply List.Sublist.cons_cons | apply List.Sublist.cons))) (fun hq2 => ?_)
        refine t_two (i := 5) (i' := 7) (by kernel_rfl) rfl rfl rfl rfl ?_ ?_
        · skip
          refine id (o_doer M F rfl rfl (by repeat (first | exact Upd.here _ _ _ _ _ | apply Upd.there)) (hb _) hf.2.2.2 rfl ?_); clear F a; intro a W15 G15 M hg15 F
          have hle2 := hle2.trans hg15
          refine keepAnd (Keeps.mk hle2 M (by repeat (first | exact List.Sublist.refl _ | apply List.Sublist.cons_cons | apply List.Sublist.cons))) (fun hq2 => ?_)
          refine t_take (i := 6) F rfl rfl hq2 (fun _ _ => r_build F rfl (b_Res_0 _)) (fun _ _ _ h => h) (by kernel_rfl) (by kernel_rfl) (by kernel_rfl) (by kernel_rfl) ?_; clear F a; intro a F
          refine t_one (i := 7) (by kernel_rfl) rfl rfl (o_alloc M F zer_Res rfl ?_); clear F a; intro a W16 b7 M F
          refine keepAnd (Keeps.mk hle2 M (by repeat (first | exact List.Sublist.refl _ | apply List.Sublist.cons_cons | apply List.Sublist.cons))) (fun hq2 => ?_)
          refine t_one (i := 8) (by kernel_rfl) rfl rfl (o_storeA M F rfl rfl agg_Res.size (by repeat (first | exact Upd.here _ _ _ _ _ | apply Upd.there)) (by rfl) (by rfl) (by rfl) ?_); clear F a; intro a W17 M F
          refine keepAnd (Keeps.mk hle2 M (by repeat (first | exact List.Sublist.refl _ | apply List.Sublist.cons_cons | apply List.Sublist.cons))) (fun hq2 => ?_)
          refine t_done (by kernel_rfl) ?_ _
          refine hK10 _ _ ?_
          refine c_seq (fun K11 hK11 => ?_)
          refine c_drawM (M.drop (List.Sublist.cons_cons _ (List.Sublist.cons_cons _ (List.Sublist.cons_cons _ (List.Sublist.cons_cons _ (List.Sublist.cons_cons _ (List.Sublist.cons_cons _ (List.Sublist.cons _ (List.Sublist.refl _))))))))) [] mixed (fun Mk => ?_)
          have M := M.drew
          have hq3 := Keeps.here Mk
          have hle3 := M.gle
          refine t_take (i := 0) F rfl rfl hq3 (fun _ _ => r_fieldAddr F rfl fld_Op_3) (fun _ _ _ h => h) (by kernel_rfl) (by kernel_rfl) (by kernel_rfl) (by kernel_rfl) ?_; clear F a; intro a F
          refine t_take (i := 1) F rfl rfl hq3 (fun _ ⟨_, _, M'⟩ => r_load1 M' F rfl (by repeat (first | exact List.mem_cons_self | apply List.mem_cons_of_mem)) sca_u8 rfl) (fun _ _ _ h => h) (by kernel_rfl) (by kernel_rfl) (by kernel_rfl) (by kernel_rfl) ?_; clear F a; intro a F
          refine t_take (i := 2) F rfl rfl hq3 (fun _ _ => r_move F rfl) (fun _ _ _ h => h) (by kernel_rfl) (by kernel_rfl) (by kernel_rfl) (by kernel_rfl) ?_; clear F a; intro a F
          refine t_take (i := 3) F rfl rfl hq3 (fun _ _ => r_nilCheck F rfl) (fun _ _ _ h => h) (by kernel_rfl) (by kernel_rfl) (by kernel_rfl) (by kernel_rfl) ?_; clear F a; intro a F
          refine t_take (i := 4) F rfl rfl hq3 (fun _ _ => r_fieldAddr F rfl fld_Doer_0) (fun _ _ _ h => h) (by kernel_rfl) (by kernel_rfl) (by kernel_rfl) (by kernel_rfl) ?_; clear F a; intro a F
          refine t_take (i := 5) F rfl rfl hq3 (fun _ ⟨_, _, M'⟩ => r_load M' F rfl (by repeat (first | exact List.mem_cons_self | apply List.mem_cons_of_mem)) agg_Obj (seg_all rfl)) (fun _ _ _ h => h) (by kernel_rfl) (by kernel_rfl) (by kernel_rfl) (by kernel_rfl) ?_; clear F a; intro a F
          refine t_take (i := 6) F rfl rfl hq3 (fun _ _ => r_fieldAddr F rfl fld_Base_0) (fun _ _ _ h => h) (by kernel_rfl) (by kernel_rfl) (by kernel_rfl) (by kernel_rfl) ?_; clear F a; intro a F
          refine t_take (i := 7) F rfl rfl hq3 (fun _ _ => r_indexArr F rfl rfl arr_Objs (by omega) (by omega)) (fun _ _ _ h => h) (by kernel_rfl) (by kernel_rfl) (by kernel_rfl) (by kernel_rfl) ?_; clear F a; intro a F
          refine t_one (i := 8) (by kernel_rfl) rfl rfl (o_store M F rfl rfl agg_Obj.size rfl rfl (ble_of (by simp only [len_Base]; omega)) (p_Base_0_i hk45) (by repeat (first | exact Upd.here _ _ _ _ _ | apply Upd.there)) ?_); clear F a; intro a W18 M F
          refine keepAnd (Keeps.mk hle3 M (by repeat (first | exact List.Sublist.refl _ | apply List.Sublist.cons_cons | apply List.Sublist.cons))) (fun hq3 => ?_)
          refine t_done (by kernel_rfl) ?_ _
          refine hK11 _ _ ?_
          refine c_seq (fun K12 hK12 => ?_)
          refine wp_region_lit ?_
          refine l_step rfl (o_val F (r_fieldAddr F rfl fld_Op_0) rfl ?_); clear F a; intro a F
          refine l_step rfl (o_val F (r_load1 M F rfl (by repeat (first | exact List.mem_cons_self | apply List.mem_cons_of_mem)) sca_u8 rfl) rfl ?_); clear F a; intro a F
          refine l_step rfl (o_val F (r_sub_u8 F (y := 1) rfl rfl) rfl ?_); clear F a; intro a F
          refine l_step rfl (o_val F (r_fieldAddr F rfl fld_Op_1) rfl ?_); clear F a; intro a F
          refine l_step rfl (o_val F (r_load1 M F rfl (by repeat (first | exact List.mem_cons_self | apply List.mem_cons_of_mem)) sca_u32 rfl) rfl ?_); clear F a; intro a F
          refine l_step rfl (o_val F (r_load M F rfl (by repeat (first | exact List.mem_cons_self | apply List.mem_cons_of_mem)) agg_Res (seg_all rfl)) rfl ?_); clear F a; intro a F
          refine l_step rfl (o_val F (r_build F rfl (b_Last_0_1 _ _)) rfl ?_); clear F a; intro a F
          refine l_step rfl (o_val F (r_fieldAddr F rfl fld_Base_1) rfl ?_); clear F a; intro a F
          refine l_step rfl (o_val F (r_indexArr F rfl rfl arr_Lasts (by omega) (by omega)) rfl ?_); clear F a; intro a F
          refine l_step rfl (o_store M F rfl rfl agg_Last.size rfl rfl (ble_of (by simp only [len_Base]; omega)) (p_Base_1_i hk54) (by repeat (first | exact Upd.here _ _ _ _ _ | apply Upd.there)) ?_); clear F a; intro a W19 M F
          refine l_nil ?_
          refine hK12 _ _ ?_
          refine c_seq (fun K13 hK13 => ?_)
          refine c_drawM (M.drop (List.Sublist.cons_cons _ (List.Sublist.cons_cons _ (List.Sublist.cons_cons _ (List.Sublist.cons _ (List.Sublist.cons _ (List.Sublist.cons_cons _ (List.Sublist.cons_cons _ (List.Sublist.refl _))))))))) [] mixed (fun Mk => ?_)
          have M := M.drew
          have hq4 := Keeps.here Mk
          have hle4 := M.gle
          refine t_take (i := 0) F rfl rfl hq4 (fun _ ⟨_, _, M'⟩ => r_load M' F rfl (by repeat (first | exact List.mem_cons_self | apply List.mem_cons_of_mem)) agg_Base (seg_all rfl)) (fun _ _ _ h => h) (by kernel_rfl) (by kernel_rfl) (by kernel_rfl) (by kernel_rfl) ?_; clear F a; intro a F
          refine t_take (i := 1) F rfl rfl hq4 (fun _ ⟨_, _, M'⟩ => r_load M' F rfl (by repeat (first | exact List.mem_cons_self | apply List.mem_cons_of_mem)) agg_Res (seg_all rfl)) (fun _ _ _ h => h) (by kernel_rfl) (by kernel_rfl) (by kernel_rfl) (by kernel_rfl) ?_; clear F a; intro a F
          refine t_one (i := 2) (by kernel_rfl) rfl rfl (o_storeA M F rfl rfl agg_Base.size (by repeat (first | exact Upd.here _ _ _ _ _ | apply Upd.there)) (by rfl) (by rfl) (by rfl) ?_); clear F a; intro a W20 M F
          refine keepAnd (Keeps.mk hle4 M (by repeat (first | exact List.Sublist.refl _ | apply List.Sublist.cons_cons | apply List.Sublist.cons))) (fun hq4 => ?_)
          refine t_one (i := 3) (by kernel_rfl) rfl rfl (o_storeA M F rfl rfl agg_Res.size (by repeat (first | exact Upd.here _ _ _ _ _ | apply Upd.there)) (by rfl) (by rfl) (by rfl) ?_); clear F a; intro a W21 M F
          refine keepAnd (Keeps.mk hle4 M (by repeat (first | exact List.Sublist.refl _ | apply List.Sublist.cons_cons | apply List.Sublist.cons))) (fun hq4 => ?_)
          refine t_done (by kernel_rfl) ?_ _
          refine hK13 _ _ ?_
          refine wp_ret ?_
          exact ret2 Tryd.results12 M F (rv_cell M F rfl (by repeat (first | exact List.mem_cons_self | apply List.mem_cons_of_mem)) agg_Base rfl) (rv_cell M F rfl (by repeat (first | exact List.mem_cons_self | apply List.mem_cons_of_mem)) agg_Res rfl) (by clear hI M F hK1 hK2 hK3 hK5 hK6 hK7 hK9 hK10 hK11 hK12 hK13; simp_all [pDo, pDone, -UInt8.not_le, -UInt8.not_lt, -UInt32.not_le, -UInt32.not_lt, -Int.not_lt, -Int.not_le, -Nat.not_lt, -Nat.not_le])
        · skip
          refine id (o_alloc M F zer_Res rfl ?_); clear F a; intro a W22 b8 M F
          refine keepAnd (Keeps.mk hle2 M (by repeat (first | exact List.Sublist.refl _ | apply List.Sublist.cons_cons | apply List.Sublist.cons))) (fun hq2 => ?_)
          refine t_one (i := 5) (by kernel_rfl) rfl rfl (o_doer M F rfl rfl (by repeat (first | exact Upd.here _ _ _ _ _ | apply Upd.there)) (hb _) hf.2.2.2 rfl ?_); clear F a; intro a W23 G23 M hg23 F
          have hle2 := hle2.trans hg23
          refine keepAnd (Keeps.mk hle2 M (by repeat (first | exact List.Sublist.refl _ | apply List.Sublist.cons_cons | apply List.Sublist.cons))) (fun hq2 => ?_)
          refine t_take (i := 6) F rfl rfl hq2 (fun _ _ => r_build F rfl (b_Res_0 _)) (fun _ _ _ h => h) (by kernel_rfl) (by kernel_rfl) (by kernel_rfl) (by kernel_rfl) ?_; clear F a; intro a F
          refine t_one (i := 8) (by kernel_rfl) rfl rfl (o_storeA M F rfl rfl agg_Res.size (by repeat (first | exact Upd.here _ _ _ _ _ | apply Upd.there)) (by rfl) (by rfl) (by rfl) ?_); clear F a; intro a W24 M F
          refine keepAnd (Keeps.mk hle2 M (by repeat (first | exact List.Sublist.refl _ | apply List.Sublist.cons_cons | apply List.Sublist.cons))) (fun hq2 => ?_)
          refine t_done (by kernel_rfl) ?_ _
          refine hK10 _ _ ?_
          refine c_seq (fun K14 hK14 => ?_)
          refine c_drawM (M.drop (List.Sublist.cons_cons _ (List.Sublist.cons_cons _ (List.Sublist.cons_cons _ (List.Sublist.cons_cons _ (List.Sublist.cons_cons _ (List.Sublist.cons_cons _ (List.Sublist.cons _ (List.Sublist.refl _))))))))) [] mixed (fun Mk => ?_)
          have M := M.drew
          have hq5 := Keeps.here Mk
          have hle5 := M.gle
          refine t_take (i := 0) F rfl rfl hq5 (fun _ _ => r_fieldAddr F rfl fld_Op_3) (fun _ _ _ h => h) (by kernel_rfl) (by kernel_rfl) (by kernel_rfl) (by kernel_rfl) ?_; clear F a; intro a F
          refine t_take (i := 1) F rfl rfl hq5 (fun _ ⟨_, _, M'⟩ => r_load1 M' F rfl (by repeat (first | exact List.mem_cons_self | apply List.mem_cons_of_mem)) sca_u8 rfl) (fun _ _ _ h => h) (by kernel_rfl) (by kernel_rfl) (by kernel_rfl) (by kernel_rfl) ?_; clear F a; intro a F
          refine t_take (i := 2) F rfl rfl hq5 (fun _ _ => r_move F rfl) (fun _ _ _ h => h) (by kernel_rfl) (by kernel_rfl) (by kernel_rfl) (by kernel_rfl) ?_; clear F a; intro a F
          refine t_take (i := 3) F rfl rfl hq5 (fun _ _ => r_nilCheck F rfl) (fun _ _ _ h => h) (by kernel_rfl) (by kernel_rfl) (by kernel_rfl) (by kernel_rfl) ?_; clear F a; intro a F
          refine t_take (i := 4) F rfl rfl hq5 (fun _ _ => r_fieldAddr F rfl fld_Doer_0) (fun _ _ _ h => h) (by kernel_rfl) (by kernel_rfl) (by kernel_rfl) (by kernel_rfl) ?_; clear F a; intro a F
          refine t_take (i := 5) F rfl rfl hq5 (fun _ ⟨_, _, M'⟩ => r_load M' F rfl (by repeat (first | exact List.mem_cons_self | apply List.mem_cons_of_mem)) agg_Obj (seg_all rfl)) (fun _ _ _ h => h) (by kernel_rfl) (by kernel_rfl) (by kernel_rfl) (by kernel_rfl) ?_; clear F a; intro a F
          refine t_take (i := 6) F rfl rfl hq5 (fun _ _ => r_fieldAddr F rfl fld_Base_0) (fun _ _ _ h => h) (by kernel_rfl) (by kernel_rfl) (by kernel_rfl) (by kernel_rfl) ?_; clear F a; intro a F
          refine t_take (i := 7) F rfl rfl hq5 (fun _ _ => r_indexArr F rfl rfl arr_Objs (by omega) (by omega)) (fun _ _ _ h => h) (by kernel_rfl) (by kernel_rfl) (by kernel_rfl) (by kernel_rfl) ?_; clear F a; intro a F
          refine t_one (i := 8) (by kernel_rfl) rfl rfl (o_store M F rfl rfl agg_Obj.size rfl rfl (ble_of (by simp only [len_Base]; omega)) (p_Base_0_i hk45) (by repeat (first | exact Upd.here _ _ _ _ _ | apply Upd.there)) ?_); clear F a; intro a W25 M F
          refine keepAnd (Keeps.mk hle5 M (by repeat (first | exact List.Sublist.refl _ | apply List.Sublist.cons_cons | apply List.Sublist.cons))) (fun hq5 => ?_)
          refine t_done (by kernel_rfl) ?_ _
          refine hK14 _ _ ?_
          refine c_seq (fun K15 hK15 => ?_)
          refine wp_region_lit ?_
          refine l_step rfl (o_val F (r_fieldAddr F rfl fld_Op_0) rfl ?_); clear F a; intro a F
          refine l_step rfl (o_val F (r_load1 M F rfl (by repeat (first | exact List.mem_cons_self | apply List.mem_cons_of_mem)) sca_u8 rfl) rfl ?_); clear F a; intro a F
          refine l_step rfl (o_val F (r_sub_u8 F (y := 1) rfl rfl) rfl ?_); clear F a; intro a F
          refine l_step rfl (o_val F (r_fieldAddr F rfl fld_Op_1) rfl ?_); clear F a; intro a F
          refine l_step rfl (o_val F (r_load1 M F rfl (by repeat (first | exact List.mem_cons_self | apply List.mem_cons_of_mem)) sca_u32 rfl) rfl ?_); clear F a; intro a F
          refine l_step rfl (o_val F (r_load M F rfl (by repeat (first | exact List.mem_cons_self | apply List.mem_cons_of_mem)) agg_Res (seg_all rfl)) rfl ?_); clear F a; intro a F
          refine l_step rfl (o_val F (r_build F rfl (b_Last_0_1 _ _)) rfl ?_); clear F a; intro a F
          refine l_step rfl (o_val F (r_fieldAddr F rfl fld_Base_1) rfl ?_); clear F a; intro a F
          refine l_step rfl (o_val F (r_indexArr F rfl rfl arr_Lasts (by omega) (by omega)) rfl ?_); clear F a; intro a F
          refine l_step rfl (o_store M F rfl rfl agg_Last.size rfl rfl (ble_of (by simp only [len_Base]; omega)) (p_Base_1_i hk54) (by repeat (first | exact Upd.here _ _ _ _ _ | apply Upd.there)) ?_); clear F a; intro a W26 M F
          refine l_nil ?_
          refine hK15 _ _ ?_
          refine c_seq (fun K16 hK16 => ?_)
          refine c_drawM (M.drop (List.Sublist.cons_cons _ (List.Sublist.cons_cons _ (List.Sublist.cons_cons _ (List.Sublist.cons _ (List.Sublist.cons _ (List.Sublist.cons_cons _ (List.Sublist.cons_cons _ (List.Sublist.refl _))))))))) [] mixed (fun Mk => ?_)
          have M := M.drew
          have hq6 := Keeps.here Mk
          have hle6 := M.gle
          refine t_take (i := 0) F rfl rfl hq6 (fun _ ⟨_, _, M'⟩ => r_load M' F rfl (by repeat (first | exact List.mem_cons_self | apply List.mem_cons_of_mem)) agg_Base (seg_all rfl)) (fun _ _ _ h => h) (by kernel_rfl) (by kernel_rfl) (by kernel_rfl) (by kernel_rfl) ?_; clear F a; intro a F
          refine t_take (i := 1) F rfl rfl hq6 (fun _ ⟨_, _, M'⟩ => r_load M' F rfl (by repeat (first | exact List.mem_cons_self | apply List.mem_cons_of_mem)) agg_Res (seg_all rfl)) (fun _ _ _ h => h) (by kernel_rfl) (by kernel_rfl) (by kernel_rfl) (by kernel_rfl) ?_; clear F a; intro a F
          refine t_one (i := 2) (by kernel_rfl) rfl rfl (o_storeA M F rfl rfl agg_Base.size (by repeat (first | exact Upd.here _ _ _ _ _ | apply Upd.there)) (by rfl) (by rfl) (by rfl) ?_); clear F a; intro a W27 M F
          refine keepAnd (Keeps.mk hle6 M (by repeat (first | exact List.Sublist.refl _ | apply List.Sublist.cons_cons | apply List.Sublist.cons))) (fun hq6 => ?_)
          refine t_one (i := 3) (by kernel_rfl) rfl rfl (o_storeA M F rfl rfl agg_Res.size (by repeat (first | exact Upd.here _ _ _ _ _ | apply Upd.there)) (by rfl) (by rfl) (by rfl) ?_); clear F a; intro a W28 M F
          refine keepAnd (Keeps.mk hle6 M (by repeat (first | exact List.Sublist.refl _ | apply List.Sublist.cons_cons | apply List.Sublist.cons))) (fun hq6 => ?_)
          refine t_done (by kernel_rfl) ?_ _
          refine hK16 _ _ ?_
          refine wp_ret ?_
          exact ret2 Tryd.results12 M F (rv_cell M F rfl (by repeat (first | exact List.mem_cons_self | apply List.mem_cons_of_mem)) agg_Base rfl) (rv_cell M F rfl (by repeat (first | exact List.mem_cons_self | apply List.mem_cons_of_mem)) agg_Res rfl) (by clear hI M F hK1 hK2 hK3 hK5 hK6 hK7 hK9 hK10 hK14 hK15 hK16; simp_all [pDo, pDone, -UInt8.not_le, -UInt8.not_lt, -UInt32.not_le, -UInt32.not_lt, -Int.not_lt, -Int.not_le, -Nat.not_lt, -Nat.not_le])
      · skip
        refine id (o_alloc M F zer_Res rfl ?_); clear F a; intro a W29 b9 M F
        refine keepAnd (Keeps.mk hle2 M (by repeat (first | exact List.Sublist.refl _ | apply List.Sublist.cons_cons | apply List.Sublist.cons))) (fun hq2 => ?_)
        refine t_one (i := 2) (by kernel_rfl) rfl rfl (o_call M F rfl (c_objects_does M.imm) rfl ?_); clear F a; intro a W30 v30 G30 hp30 M E30 F
        subst hp30
        have hle2 := hle2.trans E30.gl
        refine keepAnd (Keeps.mk hle2 M (by repeat (first | exact List.Sublist.refl _ | apply List.Sublist.cons_cons | apply List.Sublist.cons))) (fun hq2 => ?_)
        refine t_one (i := 5) (by kernel_rfl) rfl rfl (o_doer M F rfl rfl (by repeat (first | exact Upd.here _ _ _ _ _ | apply Upd.there)) (hb _) hf.2.2.2 rfl ?_); clear F a; intro a W31 G31 M hg31 F
        have hle2 := hle2.trans hg31
        refine keepAnd (Keeps.mk hle2 M (by repeat (first | exact List.Sublist.refl _ | apply List.Sublist.cons_cons | apply List.Sublist.cons))) (fun hq2 => ?_)
        refine t_take (i := 6) F rfl rfl hq2 (fun _ _ => r_build F rfl (b_Res_0 _)) (fun _ _ _ h => h) (by kernel_rfl) (by kernel_rfl) (by kernel_rfl) (by kernel_rfl) ?_; clear F a; intro a F
        refine t_one (i := 8) (by kernel_rfl) rfl rfl (o_storeA M F rfl rfl agg_Res.size (by repeat (first | exact Upd.here _ _ _ _ _ | apply Upd.there)) (by rfl) (by rfl) (by rfl) ?_); clear F a; intro a W32 M F
        refine keepAnd (Keeps.mk hle2 M (by repeat (first | exact List.Sublist.refl _ | apply List.Sublist.cons_cons | apply List.Sublist.cons))) (fun hq2 => ?_)
        refine t_done (by kernel_rfl) ?_ _
        refine hK10 _ _ ?_
        refine c_seq (fun K17 hK17 => ?_)
        refine c_drawM (M.drop (List.Sublist.cons_cons _ (List.Sublist.cons_cons _ (List.Sublist.cons_cons _ (List.Sublist.cons_cons _ (List.Sublist.cons_cons _ (List.Sublist.cons_cons _ (List.Sublist.cons _ (List.Sublist.refl _))))))))) [] mixed (fun Mk => ?_)
        have M := M.drew
        have hq7 := Keeps.here Mk
        have hle7 := M.gle
        refine t_take (i := 0) F rfl rfl hq7 (fun _ _ => r_fieldAddr F rfl fld_Op_3) (fun _ _ _ h => h) (by kernel_rfl) (by kernel_rfl) (by kernel_rfl) (by kernel_rfl) ?_; clear F a; intro a F
        refine t_take (i := 1) F rfl rfl hq7 (fun _ ⟨_, _, M'⟩ => r_load1 M' F rfl (by repeat (first | exact List.mem_cons_self | apply List.mem_cons_of_mem)) sca_u8 rfl) (fun _ _ _ h => h) (by kernel_rfl) (by kernel_rfl) (by kernel_rfl) (by kernel_rfl) ?_; clear F a; intro a F
        refine t_take (i := 2) F rfl rfl hq7 (fun _ _ => r_move F rfl) (fun _ _ _ h => h) (by kernel_rfl) (by kernel_rfl) (by kernel_rfl) (by kernel_rfl) ?_; clear F a; intro a F
        refine t_take (i := 3) F rfl rfl hq7 (fun _ _ => r_nilCheck F rfl) (fun _ _ _ h => h) (by kernel_rfl) (by kernel_rfl) (by kernel_rfl) (by kernel_rfl) ?_; clear F a; intro a F
        refine t_take (i := 4) F rfl rfl hq7 (fun _ _ => r_fieldAddr F rfl fld_Doer_0) (fun _ _ _ h => h) (by kernel_rfl) (by kernel_rfl) (by kernel_rfl) (by kernel_rfl) ?_; clear F a; intro a F
        refine t_take (i := 5) F rfl rfl hq7 (fun _ ⟨_, _, M'⟩ => r_load M' F rfl (by repeat (first | exact List.mem_cons_self | apply List.mem_cons_of_mem)) agg_Obj (seg_all rfl)) (fun _ _ _ h => h) (by kernel_rfl) (by kernel_rfl) (by kernel_rfl) (by kernel_rfl) ?_; clear F a; intro a F
        refine t_take (i := 6) F rfl rfl hq7 (fun _ _ => r_fieldAddr F rfl fld_Base_0) (fun _ _ _ h => h) (by kernel_rfl) (by kernel_rfl) (by kernel_rfl) (by kernel_rfl) ?_; clear F a; intro a F
        refine t_take (i := 7) F rfl rfl hq7 (fun _ _ => r_indexArr F rfl rfl arr_Objs (by omega) (by omega)) (fun _ _ _ h => h) (by kernel_rfl) (by kernel_rfl) (by kernel_rfl) (by kernel_rfl) ?_; clear F a; intro a F
        refine t_one (i := 8) (by kernel_rfl) rfl rfl (o_store M F rfl rfl agg_Obj.size rfl rfl (ble_of (by simp only [len_Base]; omega)) (p_Base_0_i hk45) (by repeat (first | exact Upd.here _ _ _ _ _ | apply Upd.there)) ?_); clear F a; intro a W33 M F
        refine keepAnd (Keeps.mk hle7 M (by repeat (first | exact List.Sublist.refl _ | apply List.Sublist.cons_cons | apply List.Sublist.cons))) (fun hq7 => ?_)
        refine t_done (by kernel_rfl) ?_ _
        refine hK17 _ _ ?_
        refine c_seq (fun K18 hK18 => ?_)
        refine wp_region_lit ?_
        refine l_step rfl (o_val F (r_fieldAddr F rfl fld_Op_0) rfl ?_); clear F a; intro a F
        refine l_step rfl (o_val F (r_load1 M F rfl (by repeat (first | exact List.mem_cons_self | apply List.mem_cons_of_mem)) sca_u8 rfl) rfl ?_); clear F a; intro a F
        refine l_step rfl (o_val F (r_sub_u8 F (y := 1) rfl rfl) rfl ?_); clear F a; intro a F
        refine l_step rfl (o_val F (r_fieldAddr F rfl fld_Op_1) rfl ?_); clear F a; intro a F
        refine l_step rfl (o_val F (r_load1 M F rfl (by repeat (first | exact List.mem_cons_self | apply List.mem_cons_of_mem)) sca_u32 rfl) rfl ?_); clear F a; intro a F
        refine l_step rfl (o_val F (r_load M F rfl (by repeat (first | exact List.mem_cons_self | apply List.mem_cons_of_mem)) agg_Res (seg_all rfl)) rfl ?_); clear F a; intro a F
        refine l_step rfl (o_val F (r_build F rfl (b_Last_0_1 _ _)) rfl ?_); clear F a; intro a F
        refine l_step rfl (o_val F (r_fieldAddr F rfl fld_Base_1) rfl ?_); clear F a; intro a F
        refine l_step rfl (o_val F (r_indexArr F rfl rfl arr_Lasts (by omega) (by omega)) rfl ?_); clear F a; intro a F
        refine l_step rfl (o_store M F rfl rfl agg_Last.size rfl rfl (ble_of (by simp only [len_Base]; omega)) (p_Base_1_i hk54) (by repeat (first | exact Upd.here _ _ _ _ _ | apply Upd.there)) ?_); clear F a; intro a W34 M F
        refine l_nil ?_
        refine hK18 _ _ ?_
        refine c_seq (fun K19 hK19 => ?_)
        refine c_drawM (M.drop (List.Sublist.cons_cons _ (List.Sublist.cons_cons _ (List.Sublist.cons_cons _ (List.Sublist.cons _ (List.Sublist.cons _ (List.Sublist.cons_cons _ (List.Sublist.cons_cons _ (List.Sublist.refl _))))))))) [] mixed (fun Mk => ?_)
        have M := M.drew
        have hq8 := Keeps.here Mk
        have hle8 := M.gle
        refine t_take (i := 0) F rfl rfl hq8 (fun _ ⟨_, _, M'⟩ => r_load M' F rfl (by repeat (first | exact List.mem_cons_self | apply List.mem_cons_of_mem)) agg_Base (seg_all rfl)) (fun _ _ _ h => h) (by kernel_rfl) (by kernel_rfl) (by kernel_rfl) (by kernel_rfl) ?_; clear F a; intro a F
        refine t_take (i := 1) F rfl rfl hq8 (fun _ ⟨_, _, M'⟩ => r_load M' F rfl (by repeat (first | exact List.mem_cons_self | apply List.mem_cons_of_mem)) agg_Res (seg_all rfl)) (fun _ _ _ h => h) (by kernel_rfl) (by kernel_rfl) (by kernel_rfl) (by kernel_rfl) ?_; clear F a; intro a F
        refine t_one (i := 2) (by kernel_rfl) rfl rfl (o_storeA M F rfl rfl agg_Base.size (by repeat (first | exact Upd.here _ _ _ _ _ | apply Upd.there)) (by rfl) (by rfl) (by rfl) ?_); clear F a; intro a W35 M F
        refine keepAnd (Keeps.mk hle8 M (by repeat (first | exact List.Sublist.refl _ | apply List.Sublist.cons_cons | apply List.Sublist.cons))) (fun hq8 => ?_)
        refine t_one (i := 3) (by kernel_rfl) rfl rfl (o_storeA M F rfl rfl agg_Res.size (by repeat (first | exact Upd.here _ _ _ _ _ | apply Upd.there)) (by rfl) (by rfl) (by rfl) ?_); clear F a; intro a W36 M F
        refine keepAnd (Keeps.mk hle8 M (by repeat (first | exact List.Sublist.refl _ | apply List.Sublist.cons_cons | apply List.Sublist.cons))) (fun hq8 => ?_)
        refine t_done (by kernel_rfl) ?_ _
        refine hK19 _ _ ?_
        refine wp_ret ?_
        exact ret2 Tryd.results12 M F (rv_cell M F rfl (by repeat (first | exact List.mem_cons_self | apply List.mem_cons_of_mem)) agg_Base rfl) (rv_cell M F rfl (by repeat (first | exact List.mem_cons_self | apply List.mem_cons_of_mem)) agg_Res rfl) (by clear hI M F hK1 hK2 hK3 hK5 hK6 hK7 hK9 hK10 hK17 hK18 hK19; simp_all [pDo, pDone, -UInt8.not_le, -UInt8.not_lt, -UInt32.not_le, -UInt32.not_lt, -Int.not_lt, -Int.not_le, -Nat.not_lt, -Nat.not_le])
end Go.Proofs.YtfkmaepcjognkaaDoor.Pad
