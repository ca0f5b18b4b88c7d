/- Walks: what operations may be; what they do on an object. The object's bytes are few. -/
import Derived.Test.YtfkmaepcjognkaaDoorRep
namespace Go.Proofs.YtfkmaepcjognkaaDoor.Pad
open Go Go.Proofs
set_option linter.unusedVariables false
set_option maxRecDepth 8000
set_option linter.unusedSimpArgs false
def isOp (o : POp) : Bool :=
  if o.client < 1 ∨ 3 < o.client ∨ o.seq = 0 ∨ 6 ≤ o.obj ∨ 16 < (o.data.size : Int) then false
  else if o.kind = 1 ∨ o.kind = 3 then true
  else if o.kind = 2 then decide (o.data = ⟨#[]⟩)
  else decide (o.kind = 4 ∨ o.kind = 5) && decide (o = ⟨o.client, o.seq, o.kind, o.obj, 0, ⟨#[]⟩⟩)
def writes (o : POp) : Bool := isOp o && !decide (o.kind = 5)
theorem isOp_facts {o : POp} (h : isOp o = true) : 1 ≤ o.client.toNat ∧ o.client.toNat ≤ 3 ∧ o.obj.toNat < 6 ∧ o.data.size ≤ 16 := by
  unfold isOp at h
  split at h
  · cases h
  · rename_i h1
    simp only [not_or, UInt8.le_iff_toNat_le, UInt8.lt_iff_toNat_lt] at h1
    obtain ⟨h1, h2, h3, h4, h5⟩ := h1
    have e1 : (1 : UInt8).toNat = 1 := rfl
    have e2 : (3 : UInt8).toNat = 3 := rfl
    have e3 : (6 : UInt8).toNat = 6 := rfl
    exact ⟨by omega, by omega, by omega, by omega⟩
def grown (s : ByteArray) (n : Int) : ByteArray := s ++ ⟨(Lib.repeatL (ByteArray.mk #[0]).data.toList (if n - (s.size : Int) < 0 then 0 else n - (s.size : Int)).toNat).toArray⟩
theorem grown_size (s : ByteArray) (n : Int) : (grown s n).size = s.size + (n - (s.size : Int)).toNat := by
  have h := Lib.repeatL_length (ByteArray.mk #[0]).data.toList (if n - (s.size : Int) < 0 then 0 else n - (s.size : Int)).toNat
  have e : (ByteArray.mk #[0]).data.toList.length = 1 := rfl
  rw [e, Nat.mul_one] at h
  simp only [grown, ByteArray.size_append]
  congr 1
  show (List.toArray _).size = _
  rw [List.size_toArray, h]
  split <;> omega
def pWrite (x : PObj) (o : POp) : PObj × UInt8 :=
  if 16 < (o.at_.toNat : Int) + (o.data.size : Int) then (x, 2)
  else (⟨true, (grown x.data ((o.at_.toNat : Int) + (o.data.size : Int))).extract 0 o.at_.toNat ++ o.data ++ (grown x.data ((o.at_.toNat : Int) + (o.data.size : Int))).extract ((o.at_.toNat : Int) + (o.data.size : Int)).toNat (grown x.data ((o.at_.toNat : Int) + (o.data.size : Int))).size, x.a0, x.a1, x.a2⟩, 0)
def pTrunc (x : PObj) (o : POp) : PObj × UInt8 :=
  if x.there = false then (x, 1) else if 16 < o.at_ then (x, 2)
  else ({ x with data := (grown x.data (o.at_.toNat : Int)).extract 0 o.at_.toNat }, 0)
def pAttr (x : PObj) (o : POp) : PObj × UInt8 :=
  if 3 ≤ o.at_ then (x, 3) else if x.there = false then (x, 1) else (x.setAttr o.data o.at_.toNat, 0)
def pRemove (x : PObj) (_ : POp) : PObj × UInt8 := if x.there = false then (x, 1) else (PObj.zero, 0)
def pDoes (k : UInt8) : PObj → POp → PObj × UInt8 := if k = 1 then pWrite else if k = 2 then pTrunc else if k = 3 then pAttr else pRemove
theorem b_Doer_0 (x : PObj) : P.built 84 [(0, agg x.enc)] = some x.enc.toArray := by kernel_rfl
/-- How a function that changes an object ends. -/
def DoerPost (b : Nat) (r : PObj × UInt8) (G : Ghost) (W : World) (v : Value) : Prop := v = .int .u8 (r.2.toNat : Int) ∧ W.heap[b]? = some (.cells r.1.enc.toArray 84 (0, 0)) ∧ G b = none
theorem doer_ret {w : World} {G0 : Ghost} {b : Nat} {W : World} {m : List Box} {G : Ghost} {x' : PObj} {r : PObj × UInt8} {v : Value} (M : St [b] w G0 W m G) (hm : ⟨b, 84, x'.enc⟩ ∈ m) (h1 : x' = r.1) (h2 : v = .int .u8 (r.2.toNat : Int)) : DoerPost b r G W v :=
  ⟨h2, by rw [(M.own _ hm).1, h1], (M.own _ hm).2.2⟩
theorem c_objects_IsOp {w : World} {G0 : Ghost} (hI : Imm G0 w) {o : POp} : Ret P 16 [agg o.enc] [] w G0 (fun G W v => v = .bool (isOp o)) := by
  refine enter Tryd.func16 rfl Tryd.ntmps16 rfl rfl hI (fun a F M => ?_)
  refine c_seq (fun K1 hK1 => ?_)
  refine wp_region_lit ?_
  refine l_step rfl (o_box M F rfl rfl ?_); clear F a; intro a W1 b1 M F
  refine l_step rfl (o_val F (r_assign F rfl) rfl ?_); clear F a; intro a F
  refine l_nil ?_
  refine hK1 _ _ ?_
  refine c_seq (fun K2 hK2 => ?_)
  refine c_seq (fun K3 hK3 => ?_)
  refine wp_region_lit ?_
  refine l_step rfl (o_val F (r_fieldAddr F rfl fld_Op_0) rfl ?_); clear F a; intro a F
  refine l_step rfl (o_val F (r_load1 M F rfl (by repeat (first | exact List.mem_cons_self | apply List.mem_cons_of_mem)) sca_u8 rfl) rfl ?_); clear F a; intro a F
  refine l_step rfl (o_val F (r_lss_u8 F (y := 1) rfl rfl) rfl ?_); clear F a; intro a F
  refine l_step rfl (o_val F (r_move F rfl) rfl ?_); clear F a; intro a F
  refine c_split F (i := 6) rfl (fun g6 => ?_) (fun g6 => ?_)
  · skip
    iterate 3 (refine l_skip F rfl rfl rfl g6 rfl rfl ?_; clear F a; intro a F)
    refine l_step rfl (o_val F (r_pick_t F rfl g6 rfl) rfl ?_); clear F a; intro a F
    refine l_step rfl (o_val F (r_move F rfl) rfl ?_); clear F a; intro a F
    iterate 3 (refine l_skip F rfl rfl rfl rfl rfl rfl ?_; clear F a; intro a F)
    refine l_step rfl (o_val F (r_pick_t F rfl rfl rfl) rfl ?_); clear F a; intro a F
    refine l_step rfl (o_val F (r_move F rfl) rfl ?_); clear F a; intro a F
    iterate 3 (refine l_skip F rfl rfl rfl rfl rfl rfl ?_; clear F a; intro a F)
    refine l_step rfl (o_val F (r_pick_t F rfl rfl rfl) rfl ?_); clear F a; intro a F
    refine l_step rfl (o_val F (r_move F rfl) rfl ?_); clear F a; intro a F
    iterate 4 (refine l_skip F rfl rfl rfl rfl rfl rfl ?_; clear F a; intro a F)
    refine l_step rfl (o_val F (r_pick_t F rfl rfl rfl) rfl ?_); clear F a; intro a F
    refine l_nil ?_
    refine hK3 _ _ ?_
    refine c_true F rfl rfl ?_
    refine c_seq (fun K4 hK4 => ?_)
    refine wp_region_lit ?_
    refine l_step rfl (o_val F (r_assign F rfl) rfl ?_); clear F a; intro a F
    refine l_nil ?_
    refine hK4 _ _ ?_
    refine wp_ret ?_
    exact ret1 Tryd.results16 M F (rv_tmp F rfl) (by clear hI M F hK1 hK2 hK3 hK4; unfold isOp; generalize (decide (o = ⟨o.client, o.seq, o.kind, o.obj, 0, ⟨#[]⟩⟩)) = z; simp_all <;> (intros; decide))
  · skip
    refine l_guard F rfl rfl rfl g6 (o_val F (r_fieldAddr F rfl fld_Op_0) rfl ?_); clear F a; intro a F
    refine l_guard F rfl rfl rfl g6 (o_val F (r_load1 M F rfl (by repeat (first | exact List.mem_cons_self | apply List.mem_cons_of_mem)) sca_u8 rfl) rfl ?_); clear F a; intro a F
    refine l_guard F rfl rfl rfl g6 (o_val F (r_gtr_u8 F (y := 3) rfl rfl) rfl ?_); clear F a; intro a F
    refine l_step rfl (o_val F (r_pick_f F rfl g6 rfl) rfl ?_); clear F a; intro a F
    refine l_step rfl (o_val F (r_move F rfl) rfl ?_); clear F a; intro a F
    refine c_split F (i := 11) rfl (fun g11 => ?_) (fun g11 => ?_)
    · skip
      iterate 3 (refine l_skip F rfl rfl rfl g11 rfl rfl ?_; clear F a; intro a F)
      refine l_step rfl (o_val F (r_pick_t F rfl g11 rfl) rfl ?_); clear F a; intro a F
      refine l_step rfl (o_val F (r_move F rfl) rfl ?_); clear F a; intro a F
      iterate 3 (refine l_skip F rfl rfl rfl rfl rfl rfl ?_; clear F a; intro a F)
      refine l_step rfl (o_val F (r_pick_t F rfl rfl rfl) rfl ?_); clear F a; intro a F
      refine l_step rfl (o_val F (r_move F rfl) rfl ?_); clear F a; intro a F
      iterate 4 (refine l_skip F rfl rfl rfl rfl rfl rfl ?_; clear F a; intro a F)
      refine l_step rfl (o_val F (r_pick_t F rfl rfl rfl) rfl ?_); clear F a; intro a F
      refine l_nil ?_
      refine hK3 _ _ ?_
      refine c_true F rfl rfl ?_
      refine c_seq (fun K5 hK5 => ?_)
      refine wp_region_lit ?_
      refine l_step rfl (o_val F (r_assign F rfl) rfl ?_); clear F a; intro a F
      refine l_nil ?_
      refine hK5 _ _ ?_
      refine wp_ret ?_
      exact ret1 Tryd.results16 M F (rv_tmp F rfl) (by clear hI M F hK1 hK2 hK3 hK5; unfold isOp; generalize (decide (o = ⟨o.client, o.seq, o.kind, o.obj, 0, ⟨#[]⟩⟩)) = z; simp_all <;> (intros; decide))
    · skip
      refine l_guard F rfl rfl rfl g11 (o_val F (r_fieldAddr F rfl fld_Op_1) rfl ?_); clear F a; intro a F
      refine l_guard F rfl rfl rfl g11 (o_val F (r_load1 M F rfl (by repeat (first | exact List.mem_cons_self | apply List.mem_cons_of_mem)) sca_u32 rfl) rfl ?_); clear F a; intro a F
      refine l_guard F rfl rfl rfl g11 (o_val F (r_eql_u32 F (y := 0) rfl rfl) rfl ?_); clear F a; intro a F
      refine l_step rfl (o_val F (r_pick_f F rfl g11 rfl) rfl ?_); clear F a; intro a F
      refine l_step rfl (o_val F (r_move F rfl) rfl ?_); clear F a; intro a F
      refine c_split F (i := 16) rfl (fun g16 => ?_) (fun g16 => ?_)
      · skip
        iterate 3 (refine l_skip F rfl rfl rfl g16 rfl rfl ?_; clear F a; intro a F)
        refine l_step rfl (o_val F (r_pick_t F rfl g16 rfl) rfl ?_); clear F a; intro a F
        refine l_step rfl (o_val F (r_move F rfl) rfl ?_); clear F a; intro a F
        iterate 4 (refine l_skip F rfl rfl rfl rfl rfl rfl ?_; clear F a; intro a F)
        refine l_step rfl (o_val F (r_pick_t F rfl rfl rfl) rfl ?_); clear F a; intro a F
        refine l_nil ?_
        refine hK3 _ _ ?_
        refine c_true F rfl rfl ?_
        refine c_seq (fun K6 hK6 => ?_)
        refine wp_region_lit ?_
        refine l_step rfl (o_val F (r_assign F rfl) rfl ?_); clear F a; intro a F
        refine l_nil ?_
        refine hK6 _ _ ?_
        refine wp_ret ?_
        exact ret1 Tryd.results16 M F (rv_tmp F rfl) (by clear hI M F hK1 hK2 hK3 hK6; unfold isOp; generalize (decide (o = ⟨o.client, o.seq, o.kind, o.obj, 0, ⟨#[]⟩⟩)) = z; simp_all <;> (intros; decide))
      · skip
        refine l_guard F rfl rfl rfl g16 (o_val F (r_fieldAddr F rfl fld_Op_3) rfl ?_); clear F a; intro a F
        refine l_guard F rfl rfl rfl g16 (o_val F (r_load1 M F rfl (by repeat (first | exact List.mem_cons_self | apply List.mem_cons_of_mem)) sca_u8 rfl) rfl ?_); clear F a; intro a F
        refine l_guard F rfl rfl rfl g16 (o_val F (r_geq_u8 F (y := 6) rfl rfl) rfl ?_); clear F a; intro a F
        refine l_step rfl (o_val F (r_pick_f F rfl g16 rfl) rfl ?_); clear F a; intro a F
        refine l_step rfl (o_val F (r_move F rfl) rfl ?_); clear F a; intro a F
        refine c_split F (i := 21) rfl (fun g21 => ?_) (fun g21 => ?_)
        · skip
          iterate 4 (refine l_skip F rfl rfl rfl g21 rfl rfl ?_; clear F a; intro a F)
          refine l_step rfl (o_val F (r_pick_t F rfl g21 rfl) rfl ?_); clear F a; intro a F
          refine l_nil ?_
          refine hK3 _ _ ?_
          refine c_true F rfl rfl ?_
          refine c_seq (fun K7 hK7 => ?_)
          refine wp_region_lit ?_
          refine l_step rfl (o_val F (r_assign F rfl) rfl ?_); clear F a; intro a F
          refine l_nil ?_
          refine hK7 _ _ ?_
          refine wp_ret ?_
          exact ret1 Tryd.results16 M F (rv_tmp F rfl) (by clear hI M F hK1 hK2 hK3 hK7; unfold isOp; generalize (decide (o = ⟨o.client, o.seq, o.kind, o.obj, 0, ⟨#[]⟩⟩)) = z; simp_all <;> (intros; decide))
        · skip
          refine l_guard F rfl rfl rfl g21 (o_val F (r_fieldAddr F rfl fld_Op_5) rfl ?_); clear F a; intro a F
          refine l_guard F rfl rfl rfl g21 (o_val F (r_load1 M F rfl (by repeat (first | exact List.mem_cons_self | apply List.mem_cons_of_mem)) sca_string rfl) rfl ?_); clear F a; intro a F
          refine l_guard F rfl rfl rfl g21 (o_val F (r_len_string F und_string rfl) rfl ?_); clear F a; intro a F
          refine l_guard F rfl rfl rfl g21 (o_val F (r_gtr_i64 F rfl rfl) rfl ?_); clear F a; intro a F
          refine l_step rfl (o_val F (r_pick_f F rfl g21 rfl) rfl ?_); clear F a; intro a F
          refine l_nil ?_
          refine hK3 _ _ ?_
          refine c_cond F rfl (fun g26 => ?_) (fun g26 => ?_)
          · skip
            refine c_seq (fun K8 hK8 => ?_)
            refine wp_region_lit ?_
            refine l_step rfl (o_val F (r_assign F rfl) rfl ?_); clear F a; intro a F
            refine l_nil ?_
            refine hK8 _ _ ?_
            refine wp_ret ?_
            exact ret1 Tryd.results16 M F (rv_tmp F rfl) (by clear hI M F hK1 hK2 hK3 hK8; unfold isOp; generalize (decide (o = ⟨o.client, o.seq, o.kind, o.obj, 0, ⟨#[]⟩⟩)) = z; simp_all <;> (intros; decide))
          · skip
            refine wp_skip ?_
            refine hK2 _ _ ?_
            refine c_seq (fun K9 hK9 => ?_)
            refine c_seq (fun K10 hK10 => ?_)
            refine wp_region_lit ?_
            refine l_step rfl (o_val F (r_fieldAddr F rfl fld_Op_2) rfl ?_); clear F a; intro a F
            refine l_step rfl (o_val F (r_load1 M F rfl (by repeat (first | exact List.mem_cons_self | apply List.mem_cons_of_mem)) sca_u8 rfl) rfl ?_); clear F a; intro a F
            refine l_nil ?_
            refine hK10 _ _ ?_
            refine wp_block ?_
            refine c_seq (fun K11 hK11 => ?_)
            refine c_seq (fun K12 hK12 => ?_)
            refine wp_region_lit ?_
            refine l_step rfl (o_val F (r_eql_u8 F (y := 1) rfl rfl) rfl ?_); clear F a; intro a F
            refine l_step rfl (o_val F (r_assign F rfl) rfl ?_); clear F a; intro a F
            refine l_nil ?_
            refine hK12 _ _ ?_
            refine c_cond F rfl (fun g29 => ?_) (fun g29 => ?_)
            · skip
              refine wp_skip ?_
              refine hK11 _ _ ?_
              refine c_true F rfl g29 ?_
              refine c_seq (fun K13 hK13 => ?_)
              refine wp_region_lit ?_
              refine l_step rfl (o_val F (r_assign F rfl) rfl ?_); clear F a; intro a F
              refine l_nil ?_
              refine hK13 _ _ ?_
              refine wp_ret ?_
              exact ret1 Tryd.results16 M F (rv_tmp F rfl) (by clear hI M F hK1 hK2 hK3 hK9 hK10 hK11 hK12 hK13; unfold isOp; generalize (decide (o = ⟨o.client, o.seq, o.kind, o.obj, 0, ⟨#[]⟩⟩)) = z; simp_all <;> (intros; decide))
            · skip
              refine wp_region_lit ?_
              refine l_step rfl (o_val F (r_eql_u8 F (y := 3) rfl rfl) rfl ?_); clear F a; intro a F
              refine l_step rfl (o_val F (r_assign F rfl) rfl ?_); clear F a; intro a F
              refine l_nil ?_
              refine hK11 _ _ ?_
              refine c_cond F rfl (fun g29 => ?_) (fun g29 => ?_)
              · skip
                refine c_seq (fun K14 hK14 => ?_)
                refine wp_region_lit ?_
                refine l_step rfl (o_val F (r_assign F rfl) rfl ?_); clear F a; intro a F
                refine l_nil ?_
                refine hK14 _ _ ?_
                refine wp_ret ?_
                exact ret1 Tryd.results16 M F (rv_tmp F rfl) (by clear hI M F hK1 hK2 hK3 hK9 hK10 hK11 hK12 hK14; unfold isOp; generalize (decide (o = ⟨o.client, o.seq, o.kind, o.obj, 0, ⟨#[]⟩⟩)) = z; simp_all <;> (intros; decide))
              · skip
                refine c_seq (fun K15 hK15 => ?_)
                refine wp_region_lit ?_
                refine l_step rfl (o_val F (r_eql_u8 F (y := 2) rfl rfl) rfl ?_); clear F a; intro a F
                refine l_step rfl (o_val F (r_assign F rfl) rfl ?_); clear F a; intro a F
                refine l_nil ?_
                refine hK15 _ _ ?_
                refine c_cond F rfl (fun g32 => ?_) (fun g32 => ?_)
                · skip
                  refine c_seq (fun K16 hK16 => ?_)
                  refine wp_region_lit ?_
                  refine l_step rfl (o_val F (r_fieldAddr F rfl fld_Op_5) rfl ?_); clear F a; intro a F
                  refine l_step rfl (o_val F (r_load1 M F rfl (by repeat (first | exact List.mem_cons_self | apply List.mem_cons_of_mem)) sca_string rfl) rfl ?_); clear F a; intro a F
                  refine l_step rfl (o_val F (r_eql_string F rfl rfl) rfl ?_); clear F a; intro a F
                  refine l_step rfl (o_val F (r_assign F rfl) rfl ?_); clear F a; intro a F
                  refine l_nil ?_
                  refine hK16 _ _ ?_
                  refine wp_ret ?_
                  exact ret1 Tryd.results16 M F (rv_tmp F rfl) (by clear hI M F hK1 hK2 hK3 hK9 hK10 hK11 hK12 hK15 hK16; unfold isOp; generalize (decide (o = ⟨o.client, o.seq, o.kind, o.obj, 0, ⟨#[]⟩⟩)) = z; simp_all <;> (intros; decide))
                · skip
                  refine wp_skip ?_
                  refine hK9 _ _ ?_
                  refine c_seq (fun K17 hK17 => ?_)
                  refine wp_region_lit ?_
                  refine l_step rfl (o_val F (r_fieldAddr F rfl fld_Op_2) rfl ?_); clear F a; intro a F
                  refine l_step rfl (o_val F (r_load1 M F rfl (by repeat (first | exact List.mem_cons_self | apply List.mem_cons_of_mem)) sca_u8 rfl) rfl ?_); clear F a; intro a F
                  refine l_step rfl (o_val F (r_eql_u8 F (y := 4) rfl rfl) rfl ?_); clear F a; intro a F
                  refine l_step rfl (o_val F (r_move F rfl) rfl ?_); clear F a; intro a F
                  refine c_split F (i := 40) rfl (fun g40 => ?_) (fun g40 => ?_)
                  · skip
                    iterate 3 (refine l_skip F rfl rfl rfl g40 rfl rfl ?_; clear F a; intro a F)
                    refine l_step rfl (o_val F (r_pick_t F rfl g40 rfl) rfl ?_); clear F a; intro a F
                    refine l_step rfl (o_val F (r_move F rfl) rfl ?_); clear F a; intro a F
                    refine l_guard F rfl rfl rfl rfl (o_val F (r_load M F rfl (by repeat (first | exact List.mem_cons_self | apply List.mem_cons_of_mem)) agg_Op (seg_all rfl)) rfl ?_); clear F a; intro a F
                    refine l_guard F rfl rfl rfl rfl (o_val F (r_fieldAddr F rfl fld_Op_0) rfl ?_); clear F a; intro a F
                    refine l_guard F rfl rfl rfl rfl (o_val F (r_load1 M F rfl (by repeat (first | exact List.mem_cons_self | apply List.mem_cons_of_mem)) sca_u8 rfl) rfl ?_); clear F a; intro a F
                    refine l_guard F rfl rfl rfl rfl (o_val F (r_fieldAddr F rfl fld_Op_1) rfl ?_); clear F a; intro a F
                    refine l_guard F rfl rfl rfl rfl (o_val F (r_load1 M F rfl (by repeat (first | exact List.mem_cons_self | apply List.mem_cons_of_mem)) sca_u32 rfl) rfl ?_); clear F a; intro a F
                    refine l_guard F rfl rfl rfl rfl (o_val F (r_fieldAddr F rfl fld_Op_2) rfl ?_); clear F a; intro a F
                    refine l_guard F rfl rfl rfl rfl (o_val F (r_load1 M F rfl (by repeat (first | exact List.mem_cons_self | apply List.mem_cons_of_mem)) sca_u8 rfl) rfl ?_); clear F a; intro a F
                    refine l_guard F rfl rfl rfl rfl (o_val F (r_fieldAddr F rfl fld_Op_3) rfl ?_); clear F a; intro a F
                    refine l_guard F rfl rfl rfl rfl (o_val F (r_load1 M F rfl (by repeat (first | exact List.mem_cons_self | apply List.mem_cons_of_mem)) sca_u8 rfl) rfl ?_); clear F a; intro a F
                    refine l_guard F rfl rfl rfl rfl (o_val F (r_build F rfl (b_Op_0_1_2_3 _ _ _ _)) rfl ?_); clear F a; intro a F
                    refine l_guard F rfl rfl rfl rfl (o_val F (r_eql_Op F rfl rfl) rfl ?_); clear F a; intro a F
                    refine l_step rfl (o_val F (r_pick_t F rfl rfl rfl) rfl ?_); clear F a; intro a F
                    refine l_step rfl (o_val F (r_assign F rfl) rfl ?_); clear F a; intro a F
                    refine l_nil ?_
                    refine hK17 _ _ ?_
                    refine wp_ret ?_
                    exact ret1 Tryd.results16 M F (rv_tmp F rfl) (by clear hI M F hK1 hK2 hK3 hK9 hK10 hK11 hK12 hK15 hK17; unfold isOp; generalize (decide (o = ⟨o.client, o.seq, o.kind, o.obj, 0, ⟨#[]⟩⟩)) = z; simp_all <;> (intros; decide))
                  · skip
                    refine l_guard F rfl rfl rfl g40 (o_val F (r_fieldAddr F rfl fld_Op_2) rfl ?_); clear F a; intro a F
                    refine l_guard F rfl rfl rfl g40 (o_val F (r_load1 M F rfl (by repeat (first | exact List.mem_cons_self | apply List.mem_cons_of_mem)) sca_u8 rfl) rfl ?_); clear F a; intro a F
                    refine l_guard F rfl rfl rfl g40 (o_val F (r_eql_u8 F (y := 5) rfl rfl) rfl ?_); clear F a; intro a F
                    refine l_step rfl (o_val F (r_pick_f F rfl g40 rfl) rfl ?_); clear F a; intro a F
                    refine l_step rfl (o_val F (r_move F rfl) rfl ?_); clear F a; intro a F
                    refine c_split F (i := 45) rfl (fun g45 => ?_) (fun g45 => ?_)
                    · skip
                      refine l_guard F rfl rfl rfl g45 (o_val F (r_load M F rfl (by repeat (first | exact List.mem_cons_self | apply List.mem_cons_of_mem)) agg_Op (seg_all rfl)) rfl ?_); clear F a; intro a F
                      refine l_guard F rfl rfl rfl g45 (o_val F (r_fieldAddr F rfl fld_Op_0) rfl ?_); clear F a; intro a F
                      refine l_guard F rfl rfl rfl g45 (o_val F (r_load1 M F rfl (by repeat (first | exact List.mem_cons_self | apply List.mem_cons_of_mem)) sca_u8 rfl) rfl ?_); clear F a; intro a F
                      refine l_guard F rfl rfl rfl g45 (o_val F (r_fieldAddr F rfl fld_Op_1) rfl ?_); clear F a; intro a F
                      refine l_guard F rfl rfl rfl g45 (o_val F (r_load1 M F rfl (by repeat (first | exact List.mem_cons_self | apply List.mem_cons_of_mem)) sca_u32 rfl) rfl ?_); clear F a; intro a F
                      refine l_guard F rfl rfl rfl g45 (o_val F (r_fieldAddr F rfl fld_Op_2) rfl ?_); clear F a; intro a F
                      refine l_guard F rfl rfl rfl g45 (o_val F (r_load1 M F rfl (by repeat (first | exact List.mem_cons_self | apply List.mem_cons_of_mem)) sca_u8 rfl) rfl ?_); clear F a; intro a F
                      refine l_guard F rfl rfl rfl g45 (o_val F (r_fieldAddr F rfl fld_Op_3) rfl ?_); clear F a; intro a F
                      refine l_guard F rfl rfl rfl g45 (o_val F (r_load1 M F rfl (by repeat (first | exact List.mem_cons_self | apply List.mem_cons_of_mem)) sca_u8 rfl) rfl ?_); clear F a; intro a F
                      refine l_guard F rfl rfl rfl g45 (o_val F (r_build F rfl (b_Op_0_1_2_3 _ _ _ _)) rfl ?_); clear F a; intro a F
                      refine l_guard F rfl rfl rfl g45 (o_val F (r_eql_Op F rfl rfl) rfl ?_); clear F a; intro a F
                      refine l_step rfl (o_val F (r_pick_t F rfl g45 rfl) rfl ?_); clear F a; intro a F
                      refine l_step rfl (o_val F (r_assign F rfl) rfl ?_); clear F a; intro a F
                      refine l_nil ?_
                      refine hK17 _ _ ?_
                      refine wp_ret ?_
                      exact ret1 Tryd.results16 M F (rv_tmp F rfl) (by clear hI M F hK1 hK2 hK3 hK9 hK10 hK11 hK12 hK15 hK17; unfold isOp; generalize (decide (o = ⟨o.client, o.seq, o.kind, o.obj, 0, ⟨#[]⟩⟩)) = z; simp_all <;> (intros; decide))
                    · skip
                      iterate 11 (refine l_skip F rfl rfl rfl g45 rfl rfl ?_; clear F a; intro a F)
                      refine l_step rfl (o_val F (r_pick_f F rfl g45 rfl) rfl ?_); clear F a; intro a F
                      refine l_step rfl (o_val F (r_assign F rfl) rfl ?_); clear F a; intro a F
                      refine l_nil ?_
                      refine hK17 _ _ ?_
                      refine wp_ret ?_
                      exact ret1 Tryd.results16 M F (rv_tmp F rfl) (by clear hI M F hK1 hK2 hK3 hK9 hK10 hK11 hK12 hK15 hK17; unfold isOp; generalize (decide (o = ⟨o.client, o.seq, o.kind, o.obj, 0, ⟨#[]⟩⟩)) = z; simp_all <;> (intros; decide))
theorem c_objects_Writes {w : World} {G0 : Ghost} (hI : Imm G0 w) {o : POp} : Ret P 18 [agg o.enc] [] w G0 (fun G W v => v = .bool (writes o)) := by
  refine enter Tryd.func18 rfl Tryd.ntmps18 rfl rfl hI (fun a F M => ?_)
  refine c_seq (fun K1 hK1 => ?_)
  refine wp_region_lit ?_
  refine l_step rfl (o_box M F rfl rfl ?_); clear F a; intro a W1 b1 M F
  refine l_step rfl (o_val F (r_assign F rfl) rfl ?_); clear F a; intro a F
  refine l_nil ?_
  refine hK1 _ _ ?_
  refine c_seq (fun K2 hK2 => ?_)
  refine wp_region_lit ?_
  refine l_step rfl (o_val F (r_load M F rfl (by repeat (first | exact List.mem_cons_self | apply List.mem_cons_of_mem)) agg_Op (seg_all rfl)) rfl ?_); clear F a; intro a F
  refine l_step rfl (o_call M F rfl (c_objects_IsOp M.imm) rfl ?_); clear F a; intro a W2 v2 G2 hp2 M E2 F
  subst hp2
  refine l_step rfl (o_val F (r_move F rfl) rfl ?_); clear F a; intro a F
  refine c_split F (i := 5) rfl (fun g5 => ?_) (fun g5 => ?_)
  · skip
    refine l_guard F rfl rfl rfl g5 (o_val F (r_fieldAddr F rfl fld_Op_2) rfl ?_); clear F a; intro a F
    refine l_guard F rfl rfl rfl g5 (o_val F (r_load1 M F rfl (by repeat (first | exact List.mem_cons_self | apply List.mem_cons_of_mem)) sca_u8 rfl) rfl ?_); clear F a; intro a F
    refine l_guard F rfl rfl rfl g5 (o_val F (r_neq_u8 F (y := 5) rfl rfl) rfl ?_); clear F a; intro a F
    refine l_step rfl (o_val F (r_pick_t F rfl g5 rfl) rfl ?_); clear F a; intro a F
    refine l_step rfl (o_val F (r_assign F rfl) rfl ?_); clear F a; intro a F
    refine l_nil ?_
    refine hK2 _ _ ?_
    refine wp_ret ?_
    exact ret1 Tryd.results18 M F (rv_tmp F rfl) (by simp [writes, g5])
  · skip
    iterate 3 (refine l_skip F rfl rfl rfl g5 rfl rfl ?_; clear F a; intro a F)
    refine l_step rfl (o_val F (r_pick_f F rfl g5 rfl) rfl ?_); clear F a; intro a F
    refine l_step rfl (o_val F (r_assign F rfl) rfl ?_); clear F a; intro a F
    refine l_nil ?_
    refine hK2 _ _ ?_
    refine wp_ret ?_
    exact ret1 Tryd.results18 M F (rv_tmp F rfl) (by simp [writes, g5])
theorem c_objects_grown {w : World} {G0 : Ghost} (hI : Imm G0 w) {s : ByteArray} {n : Int} (hs : s.size ≤ 1000) (h0 : 0 ≤ n) (h1 : n ≤ 1000) : Ret P 65 [.string s, .int .i64 n] [] w G0 (fun G W v => v = .string (grown s n)) := by
  refine enter Tryd.func65 rfl Tryd.ntmps65 rfl rfl hI (fun a F M => ?_)
  refine c_seq (fun K1 hK1 => ?_)
  refine wp_region_lit ?_
  refine l_step rfl (o_val F (r_assign F rfl) rfl ?_); clear F a; intro a F
  refine l_nil ?_
  refine hK1 _ _ ?_
  refine c_seq (fun K2 hK2 => ?_)
  refine wp_region_lit ?_
  refine l_step rfl (o_val F (r_move F rfl) rfl ?_); clear F a; intro a F
  refine l_step rfl (o_val F (r_move F rfl) rfl ?_); clear F a; intro a F
  refine l_step rfl (o_val F (r_move F rfl) rfl ?_); clear F a; intro a F
  refine l_step rfl (o_val F (r_len_string F und_string rfl) rfl ?_); clear F a; intro a F
  refine l_step rfl (o_val F (r_sub_i64 F rfl rfl (by omega)) rfl ?_); clear F a; intro a F
  refine l_step rfl (o_val F (r_max_i64 F rfl rfl) rfl ?_); clear F a; intro a F
  refine l_step rfl (o_call M F rfl (c_strings_Repeat M.imm (by split <;> omega) (by show 1 * _ ≤ _; split <;> omega) (by split <;> omega)) rfl ?_); clear F a; intro a W1 v1 G1 hp1 M E1 F
  subst hp1
  refine l_step rfl (o_val F (r_add_string F rfl rfl (by have := grown_size s n; rw [grown, ByteArray.size_append] at this; omega)) rfl ?_); clear F a; intro a F
  refine l_step rfl (o_val F (r_assign F rfl) rfl ?_); clear F a; intro a F
  refine l_nil ?_
  refine hK2 _ _ ?_
  refine wp_ret ?_
  exact ret1 Tryd.results65 M F (rv_tmp F rfl) (by rw [grown])
theorem c_objects_doer_write {w : World} {G0 : Ghost} (hI : Imm G0 w) {b : Nat} {x : PObj} {o : POp} (hx : x.data.size ≤ 1000) (ho : o.data.size ≤ 16) (hg : G0 b = none) (hc : w.heap[b]? = some (.cells x.enc.toArray 84 (0, 0))) : Ret P 51 [.pointer (some ⟨b, 0, none⟩), agg o.enc] [b] w G0 (fun G W v => DoerPost b (pWrite x o) G W v) := by
  refine enterB Tryd.func51 rfl Tryd.ntmps51 rfl rfl hI hg hc (fun a F M => ?_)
  have hat := o.at_.toNat_lt
  refine c_seq (fun K1 hK1 => ?_)
  refine wp_region_lit ?_
  refine l_step rfl (o_box M F rfl rfl ?_); clear F a; intro a W1 b1 M F
  refine l_step rfl (o_val F (r_assign F rfl) rfl ?_); clear F a; intro a F
  refine l_nil ?_
  refine hK1 _ _ ?_
  refine c_seq (fun K2 hK2 => ?_)
  refine wp_region_lit ?_
  refine l_step rfl (o_val F (r_fieldAddr F rfl fld_Op_4) rfl ?_); clear F a; intro a F
  refine l_step rfl (o_val F (r_load1 M F rfl (by repeat (first | exact List.mem_cons_self | apply List.mem_cons_of_mem)) sca_u8 rfl) rfl ?_); clear F a; intro a F
  refine l_step rfl (o_val F (r_conv_u8_i64 F und_u8 und_int rfl) rfl ?_); clear F a; intro a F
  refine l_step rfl (o_val F (r_fieldAddr F rfl fld_Op_5) rfl ?_); clear F a; intro a F
  refine l_step rfl (o_val F (r_load1 M F rfl (by repeat (first | exact List.mem_cons_self | apply List.mem_cons_of_mem)) sca_string rfl) rfl ?_); clear F a; intro a F
  refine l_step rfl (o_val F (r_len_string F und_string rfl) rfl ?_); clear F a; intro a F
  refine l_step rfl (o_val F (r_add_i64 F rfl rfl (by omega)) rfl ?_); clear F a; intro a F
  refine l_step rfl (o_val F (r_assign F rfl) rfl ?_); clear F a; intro a F
  refine l_nil ?_
  refine hK2 _ _ ?_
  refine c_seq (fun K3 hK3 => ?_)
  refine c_seq (fun K4 hK4 => ?_)
  refine wp_region_lit ?_
  refine l_step rfl (o_val F (r_move F rfl) rfl ?_); clear F a; intro a F
  refine l_step rfl (o_val F (r_gtr_i64 F rfl rfl) rfl ?_); clear F a; intro a F
  refine l_nil ?_
  refine hK4 _ _ ?_
  refine c_cond F rfl (fun g15 => ?_) (fun g15 => ?_)
  · skip
    refine c_seq (fun K5 hK5 => ?_)
    refine wp_region_lit ?_
    refine l_step rfl (o_val F (r_assign F rfl) rfl ?_); clear F a; intro a F
    refine l_nil ?_
    refine hK5 _ _ ?_
    refine wp_ret ?_
    exact ret1 Tryd.results51 M F (rv_tmp F rfl) (doer_ret M (by repeat (first | exact List.mem_cons_self | apply List.mem_cons_of_mem)) (by clear hI M F hK1 hK2 hK3 hK4 hK5; simp_all [pWrite, -UInt8.not_le, -UInt8.not_lt, -UInt32.not_le, -UInt32.not_lt, -Int.not_lt, -Int.not_le, -Nat.not_lt, -Nat.not_le]) (by clear hI M F hK1 hK2 hK3 hK4 hK5; simp_all [pWrite, -UInt8.not_le, -UInt8.not_lt, -UInt32.not_le, -UInt32.not_lt, -Int.not_lt, -Int.not_le, -Nat.not_lt, -Nat.not_le]))
  · skip
    refine wp_skip ?_
    refine hK3 _ _ ?_
    refine c_seq (fun K6 hK6 => ?_)
    refine wp_region_lit ?_
    refine l_step rfl (o_val F (r_move F rfl) rfl ?_); clear F a; intro a F
    refine l_step rfl (o_val F (r_nilCheck F rfl) rfl ?_); clear F a; intro a F
    refine l_step rfl (o_val F (r_fieldAddr F rfl fld_Doer_0) rfl ?_); clear F a; intro a F
    refine l_step rfl (o_val F (r_fieldAddr F rfl fld_Obj_1) rfl ?_); clear F a; intro a F
    refine l_step rfl (o_val F (r_load1 M F rfl (by repeat (first | exact List.mem_cons_self | apply List.mem_cons_of_mem)) sca_string rfl) rfl ?_); clear F a; intro a F
    refine l_step rfl (o_val F (r_move F rfl) rfl ?_); clear F a; intro a F
    refine l_step rfl (o_call M F rfl (c_objects_grown M.imm hx (by omega) (by omega)) rfl ?_); clear F a; intro a W2 v2 G2 hp2 M E2 F
    subst hp2
    have hgs := grown_size x.data ((o.at_.toNat : Int) + (o.data.size : Int))
    refine l_step rfl (o_val F (r_assign F rfl) rfl ?_); clear F a; intro a F
    refine l_nil ?_
    refine hK6 _ _ ?_
    refine c_seq (fun K7 hK7 => ?_)
    refine wp_region_lit ?_
    refine l_step rfl (o_val F (r_move F rfl) rfl ?_); clear F a; intro a F
    refine l_step rfl (o_val F (r_nilCheck F rfl) rfl ?_); clear F a; intro a F
    refine l_step rfl (o_val F (r_fieldAddr F rfl fld_Doer_0) rfl ?_); clear F a; intro a F
    refine l_step rfl (o_val F (r_fieldAddr F rfl fld_Obj_0) rfl ?_); clear F a; intro a F
    refine l_step rfl (o_store1 M F rfl rfl sca_bool rfl rfl p_Obj_0 (by repeat (first | exact Upd.here _ _ _ _ _ | apply Upd.there)) ?_); clear F a; intro a W3 M F
    refine l_nil ?_
    refine hK7 _ _ ?_
    refine c_seq (fun K8 hK8 => ?_)
    refine c_drawM (M.drop (List.Sublist.cons_cons _ (List.Sublist.cons _ (List.Sublist.refl _)))) [] mixed (fun Mk => ?_)
    have M := M.drew
    have hq1 := Keeps.here Mk
    have hle1 := M.gle
    refine t_take (i := 0) F rfl rfl hq1 (fun _ _ => r_move F rfl) (fun _ _ _ h => h) (by kernel_rfl) (by kernel_rfl) (by kernel_rfl) (by kernel_rfl) ?_; clear F a; intro a F
    refine t_take (i := 1) F rfl rfl hq1 (fun _ _ => r_move F rfl) (fun _ _ _ h => h) (by kernel_rfl) (by kernel_rfl) (by kernel_rfl) (by kernel_rfl) ?_; clear F a; intro a F
    refine t_take (i := 2) F rfl rfl hq1 (fun _ _ => r_fieldAddr F rfl fld_Op_4) (fun _ _ _ h => h) (by kernel_rfl) (by kernel_rfl) (by kernel_rfl) (by kernel_rfl) ?_; clear F a; intro a F
    refine t_take (i := 3) F rfl rfl hq1 (fun _ ⟨_, _, M'⟩ => r_load1 M' F rfl (by repeat (first | exact List.mem_cons_self | apply List.mem_cons_of_mem)) sca_u8 rfl) (fun _ _ _ h => h) (by kernel_rfl) (by kernel_rfl) (by kernel_rfl) (by kernel_rfl) ?_; clear F a; intro a F
    refine t_take (i := 4) F rfl rfl hq1 (fun _ _ => r_sstr_to F und_string rfl rfl (by omega) (by omega)) (fun _ _ _ h => h) (by kernel_rfl) (by kernel_rfl) (by kernel_rfl) (by kernel_rfl) ?_; clear F a; intro a F
    refine t_take (i := 5) F rfl rfl hq1 (fun _ _ => r_fieldAddr F rfl fld_Op_5) (fun _ _ _ h => h) (by kernel_rfl) (by kernel_rfl) (by kernel_rfl) (by kernel_rfl) ?_; clear F a; intro a F
    refine t_take (i := 6) F rfl rfl hq1 (fun _ ⟨_, _, M'⟩ => r_load1 M' F rfl (by repeat (first | exact List.mem_cons_self | apply List.mem_cons_of_mem)) sca_string rfl) (fun _ _ _ h => h) (by kernel_rfl) (by kernel_rfl) (by kernel_rfl) (by kernel_rfl) ?_; clear F a; intro a F
    refine t_take (i := 7) F rfl rfl hq1 (fun _ _ => r_add_string F rfl rfl (by simp only [ByteArray.size_extract]; omega)) (fun _ _ _ h => h) (by kernel_rfl) (by kernel_rfl) (by kernel_rfl) (by kernel_rfl) ?_; clear F a; intro a F
    refine t_take (i := 8) F rfl rfl hq1 (fun _ _ => r_move F rfl) (fun _ _ _ h => h) (by kernel_rfl) (by kernel_rfl) (by kernel_rfl) (by kernel_rfl) ?_; clear F a; intro a F
    refine t_take (i := 9) F rfl rfl hq1 (fun _ _ => r_move F rfl) (fun _ _ _ h => h) (by kernel_rfl) (by kernel_rfl) (by kernel_rfl) (by kernel_rfl) ?_; clear F a; intro a F
    refine t_take (i := 10) F rfl rfl hq1 (fun _ _ => r_sstr_from F und_string rfl rfl (by omega) (by omega)) (fun _ _ _ h => h) (by kernel_rfl) (by kernel_rfl) (by kernel_rfl) (by kernel_rfl) ?_; clear F a; intro a F
    refine t_take (i := 11) F rfl rfl hq1 (fun _ _ => r_add_string F rfl rfl (by simp only [ByteArray.size_extract, ByteArray.size_append]; omega)) (fun _ _ _ h => h) (by kernel_rfl) (by kernel_rfl) (by kernel_rfl) (by kernel_rfl) ?_; clear F a; intro a F
    refine t_take (i := 12) F rfl rfl hq1 (fun _ _ => r_nilCheck F rfl) (fun _ _ _ h => h) (by kernel_rfl) (by kernel_rfl) (by kernel_rfl) (by kernel_rfl) ?_; clear F a; intro a F
    refine t_take (i := 13) F rfl rfl hq1 (fun _ _ => r_fieldAddr F rfl fld_Doer_0) (fun _ _ _ h => h) (by kernel_rfl) (by kernel_rfl) (by kernel_rfl) (by kernel_rfl) ?_; clear F a; intro a F
    refine t_take (i := 14) F rfl rfl hq1 (fun _ _ => r_fieldAddr F rfl fld_Obj_1) (fun _ _ _ h => h) (by kernel_rfl) (by kernel_rfl) (by kernel_rfl) (by kernel_rfl) ?_; clear F a; intro a F
    refine t_one (i := 15) (by kernel_rfl) rfl rfl (o_store1 M F rfl rfl sca_string rfl rfl p_Obj_1 (by repeat (first | exact Upd.here _ _ _ _ _ | apply Upd.there)) ?_); clear F a; intro a W4 M F
    refine keepAnd (Keeps.mk hle1 M (by repeat (first | exact List.Sublist.refl _ | apply List.Sublist.cons_cons | apply List.Sublist.cons))) (fun hq1 => ?_)
    refine t_done (by kernel_rfl) ?_ _
    refine hK8 _ _ ?_
    refine c_seq (fun K9 hK9 => ?_)
    refine wp_region_lit ?_
    refine l_step rfl (o_val F (r_assign F rfl) rfl ?_); clear F a; intro a F
    refine l_nil ?_
    refine hK9 _ _ ?_
    refine wp_ret ?_
    exact ret1 Tryd.results51 M F (rv_tmp F rfl) (doer_ret M (by repeat (first | exact List.mem_cons_self | apply List.mem_cons_of_mem)) (by clear hI M F hK1 hK2 hK3 hK4 hK6 hK7 hK8 hK9; simp_all [pWrite, -UInt8.not_le, -UInt8.not_lt, -UInt32.not_le, -UInt32.not_lt, -Int.not_lt, -Int.not_le, -Nat.not_lt, -Nat.not_le]) (by clear hI M F hK1 hK2 hK3 hK4 hK6 hK7 hK8 hK9; simp_all [pWrite, -UInt8.not_le, -UInt8.not_lt, -UInt32.not_le, -UInt32.not_lt, -Int.not_lt, -Int.not_le, -Nat.not_lt, -Nat.not_le]))
theorem c_objects_doer_trunc {w : World} {G0 : Ghost} (hI : Imm G0 w) {b : Nat} {x : PObj} {o : POp} (hx : x.data.size ≤ 1000) (ho : o.data.size ≤ 16) (hg : G0 b = none) (hc : w.heap[b]? = some (.cells x.enc.toArray 84 (0, 0))) : Ret P 52 [.pointer (some ⟨b, 0, none⟩), agg o.enc] [b] w G0 (fun G W v => DoerPost b (pTrunc x o) G W v) := by
  refine enterB Tryd.func52 rfl Tryd.ntmps52 rfl rfl hI hg hc (fun a F M => ?_)
  have hat := o.at_.toNat_lt
  refine c_seq (fun K1 hK1 => ?_)
  refine wp_region_lit ?_
  refine l_step rfl (o_box M F rfl rfl ?_); clear F a; intro a W1 b1 M F
  refine l_step rfl (o_val F (r_assign F rfl) rfl ?_); clear F a; intro a F
  refine l_nil ?_
  refine hK1 _ _ ?_
  refine c_seq (fun K2 hK2 => ?_)
  refine wp_block ?_
  refine c_seq (fun K3 hK3 => ?_)
  refine wp_region_lit ?_
  refine l_step rfl (o_val F (r_move F rfl) rfl ?_); clear F a; intro a F
  refine l_step rfl (o_val F (r_nilCheck F rfl) rfl ?_); clear F a; intro a F
  refine l_step rfl (o_val F (r_fieldAddr F rfl fld_Doer_0) rfl ?_); clear F a; intro a F
  refine l_step rfl (o_val F (r_fieldAddr F rfl fld_Obj_0) rfl ?_); clear F a; intro a F
  refine l_step rfl (o_val F (r_load1 M F rfl (by repeat (first | exact List.mem_cons_self | apply List.mem_cons_of_mem)) sca_bool rfl) rfl ?_); clear F a; intro a F
  refine l_step rfl (o_val F (r_not F rfl) rfl ?_); clear F a; intro a F
  refine l_step rfl (o_val F (r_assign F rfl) rfl ?_); clear F a; intro a F
  refine l_nil ?_
  refine hK3 _ _ ?_
  refine c_cond F rfl (fun g5 => ?_) (fun g5 => ?_)
  · skip
    refine c_seq (fun K4 hK4 => ?_)
    refine wp_region_lit ?_
    refine l_step rfl (o_val F (r_assign F rfl) rfl ?_); clear F a; intro a F
    refine l_nil ?_
    refine hK4 _ _ ?_
    refine wp_ret ?_
    exact ret1 Tryd.results52 M F (rv_tmp F rfl) (doer_ret M (by repeat (first | exact List.mem_cons_self | apply List.mem_cons_of_mem)) (by clear hI M F hK1 hK2 hK3 hK4; simp_all [pTrunc, -UInt8.not_le, -UInt8.not_lt, -UInt32.not_le, -UInt32.not_lt, -Int.not_lt, -Int.not_le, -Nat.not_lt, -Nat.not_le]) (by clear hI M F hK1 hK2 hK3 hK4; simp_all [pTrunc, -UInt8.not_le, -UInt8.not_lt, -UInt32.not_le, -UInt32.not_lt, -Int.not_lt, -Int.not_le, -Nat.not_lt, -Nat.not_le]))
  · skip
    refine c_seq (fun K5 hK5 => ?_)
    refine wp_region_lit ?_
    refine l_step rfl (o_val F (r_fieldAddr F rfl fld_Op_4) rfl ?_); clear F a; intro a F
    refine l_step rfl (o_val F (r_load1 M F rfl (by repeat (first | exact List.mem_cons_self | apply List.mem_cons_of_mem)) sca_u8 rfl) rfl ?_); clear F a; intro a F
    refine l_step rfl (o_val F (r_gtr_u8 F (y := 16) rfl rfl) rfl ?_); clear F a; intro a F
    refine l_step rfl (o_val F (r_assign F rfl) rfl ?_); clear F a; intro a F
    refine l_nil ?_
    refine hK5 _ _ ?_
    refine c_cond F rfl (fun g12 => ?_) (fun g12 => ?_)
    · skip
      refine c_seq (fun K6 hK6 => ?_)
      refine wp_region_lit ?_
      refine l_step rfl (o_val F (r_assign F rfl) rfl ?_); clear F a; intro a F
      refine l_nil ?_
      refine hK6 _ _ ?_
      refine wp_ret ?_
      exact ret1 Tryd.results52 M F (rv_tmp F rfl) (doer_ret M (by repeat (first | exact List.mem_cons_self | apply List.mem_cons_of_mem)) (by clear hI M F hK1 hK2 hK3 hK5 hK6; simp_all [pTrunc, -UInt8.not_le, -UInt8.not_lt, -UInt32.not_le, -UInt32.not_lt, -Int.not_lt, -Int.not_le, -Nat.not_lt, -Nat.not_le]) (by clear hI M F hK1 hK2 hK3 hK5 hK6; simp_all [pTrunc, -UInt8.not_le, -UInt8.not_lt, -UInt32.not_le, -UInt32.not_lt, -Int.not_lt, -Int.not_le, -Nat.not_lt, -Nat.not_le]))
    · skip
      refine wp_skip ?_
      refine hK2 _ _ ?_
      refine c_seq (fun K7 hK7 => ?_)
      refine c_drawM M [16] mixed (fun M => ?_)
      have hq1 := Keeps.here M
      have hle1 := M.gle
      refine t_take (i := 0) F rfl rfl hq1 (fun _ _ => r_move F rfl) (fun _ _ _ h => h) (by kernel_rfl) (by kernel_rfl) (by kernel_rfl) (by kernel_rfl) ?_; clear F a; intro a F
      refine t_take (i := 1) F rfl rfl hq1 (fun _ _ => r_move F rfl) (fun _ _ _ h => h) (by kernel_rfl) (by kernel_rfl) (by kernel_rfl) (by kernel_rfl) ?_; clear F a; intro a F
      refine t_take (i := 2) F rfl rfl hq1 (fun _ _ => r_nilCheck F rfl) (fun _ _ _ h => h) (by kernel_rfl) (by kernel_rfl) (by kernel_rfl) (by kernel_rfl) ?_; clear F a; intro a F
      refine t_take (i := 3) F rfl rfl hq1 (fun _ _ => r_fieldAddr F rfl fld_Doer_0) (fun _ _ _ h => h) (by kernel_rfl) (by kernel_rfl) (by kernel_rfl) (by kernel_rfl) ?_; clear F a; intro a F
      refine t_take (i := 4) F rfl rfl hq1 (fun _ _ => r_fieldAddr F rfl fld_Obj_1) (fun _ _ _ h => h) (by kernel_rfl) (by kernel_rfl) (by kernel_rfl) (by kernel_rfl) ?_; clear F a; intro a F
      refine t_take (i := 5) F rfl rfl hq1 (fun _ ⟨_, _, M'⟩ => r_load1 M' F rfl (by repeat (first | exact List.mem_cons_self | apply List.mem_cons_of_mem)) sca_string rfl) (fun _ _ _ h => h) (by kernel_rfl) (by kernel_rfl) (by kernel_rfl) (by kernel_rfl) ?_; clear F a; intro a F
      refine t_take (i := 6) F rfl rfl hq1 (fun _ _ => r_fieldAddr F rfl fld_Op_4) (fun _ _ _ h => h) (by kernel_rfl) (by kernel_rfl) (by kernel_rfl) (by kernel_rfl) ?_; clear F a; intro a F
      refine t_take (i := 7) F rfl rfl hq1 (fun _ ⟨_, _, M'⟩ => r_load1 M' F rfl (by repeat (first | exact List.mem_cons_self | apply List.mem_cons_of_mem)) sca_u8 rfl) (fun _ _ _ h => h) (by kernel_rfl) (by kernel_rfl) (by kernel_rfl) (by kernel_rfl) ?_; clear F a; intro a F
      refine t_take (i := 8) F rfl rfl hq1 (fun _ _ => r_conv_u8_i64 F und_u8 und_int rfl) (fun _ _ _ h => h) (by kernel_rfl) (by kernel_rfl) (by kernel_rfl) (by kernel_rfl) ?_; clear F a; intro a F
      refine t_take (i := 10) F rfl rfl hq1 (fun _ _ => r_fieldAddr F rfl fld_Op_4) (fun _ _ _ h => h) (by kernel_rfl) (by kernel_rfl) (by kernel_rfl) (by kernel_rfl) ?_; clear F a; intro a F
      refine t_take (i := 11) F rfl rfl hq1 (fun _ ⟨_, _, M'⟩ => r_load1 M' F rfl (by repeat (first | exact List.mem_cons_self | apply List.mem_cons_of_mem)) sca_u8 rfl) (fun _ _ _ h => h) (by kernel_rfl) (by kernel_rfl) (by kernel_rfl) (by kernel_rfl) ?_; clear F a; intro a F
      refine t_one (i := 9) (by kernel_rfl) rfl rfl (o_call M F rfl (c_objects_grown M.imm hx (by omega) (by omega)) rfl ?_); clear F a; intro a W2 v2 G2 hp2 M E2 F
      subst hp2
      have hgs := grown_size x.data (o.at_.toNat : Int)
      have hle1 := hle1.trans E2.gl
      refine keepAnd (Keeps.mk hle1 M (by repeat (first | exact List.Sublist.refl _ | apply List.Sublist.cons_cons | apply List.Sublist.cons))) (fun hq1 => ?_)
      refine t_take (i := 12) F rfl rfl hq1 (fun _ _ => r_sstr_to F und_string rfl rfl (by omega) (by omega)) (fun _ _ _ h => h) (by kernel_rfl) (by kernel_rfl) (by kernel_rfl) (by kernel_rfl) ?_; clear F a; intro a F
      refine t_one (i := 13) (by kernel_rfl) rfl rfl (o_val F (r_nilCheck F rfl) rfl ?_); clear F a; intro a F
      refine keepAnd (Keeps.mk hle1 M (by repeat (first | exact List.Sublist.refl _ | apply List.Sublist.cons_cons | apply List.Sublist.cons))) (fun hq1 => ?_)
      refine t_one (i := 14) (by kernel_rfl) rfl rfl (o_val F (r_fieldAddr F rfl fld_Doer_0) rfl ?_); clear F a; intro a F
      refine keepAnd (Keeps.mk hle1 M (by repeat (first | exact List.Sublist.refl _ | apply List.Sublist.cons_cons | apply List.Sublist.cons))) (fun hq1 => ?_)
      refine t_take (i := 15) F rfl rfl hq1 (fun _ _ => r_fieldAddr F rfl fld_Obj_1) (fun _ _ _ h => h) (by kernel_rfl) (by kernel_rfl) (by kernel_rfl) (by kernel_rfl) ?_; clear F a; intro a F
      refine t_one (i := 16) (by kernel_rfl) rfl rfl (o_store1 M F rfl rfl sca_string rfl rfl p_Obj_1 (by repeat (first | exact Upd.here _ _ _ _ _ | apply Upd.there)) ?_); clear F a; intro a W3 M F
      refine ⟨(fun h => nomatch h), ?_⟩
      refine t_done (by kernel_rfl) ?_ _
      refine hK7 _ _ ?_
      refine c_seq (fun K8 hK8 => ?_)
      refine wp_region_lit ?_
      refine l_step rfl (o_val F (r_assign F rfl) rfl ?_); clear F a; intro a F
      refine l_nil ?_
      refine hK8 _ _ ?_
      refine wp_ret ?_
      exact ret1 Tryd.results52 M F (rv_tmp F rfl) (doer_ret M (by repeat (first | exact List.mem_cons_self | apply List.mem_cons_of_mem)) (by clear hI M F hK1 hK2 hK3 hK5 hK7 hK8; simp_all [pTrunc, -UInt8.not_le, -UInt8.not_lt, -UInt32.not_le, -UInt32.not_lt, -Int.not_lt, -Int.not_le, -Nat.not_lt, -Nat.not_le]) (by clear hI M F hK1 hK2 hK3 hK5 hK7 hK8; simp_all [pTrunc, -UInt8.not_le, -UInt8.not_lt, -UInt32.not_le, -UInt32.not_lt, -Int.not_lt, -Int.not_le, -Nat.not_lt, -Nat.not_le]))
theorem c_objects_doer_attr {w : World} {G0 : Ghost} (hI : Imm G0 w) {b : Nat} {x : PObj} {o : POp} (hx : x.data.size ≤ 1000) (ho : o.data.size ≤ 16) (hg : G0 b = none) (hc : w.heap[b]? = some (.cells x.enc.toArray 84 (0, 0))) : Ret P 53 [.pointer (some ⟨b, 0, none⟩), agg o.enc] [b] w G0 (fun G W v => DoerPost b (pAttr x o) G W v) := by
  refine enterB Tryd.func53 rfl Tryd.ntmps53 rfl rfl hI hg hc (fun a F M => ?_)
  have hat := o.at_.toNat_lt
  refine c_seq (fun K1 hK1 => ?_)
  refine wp_region_lit ?_
  refine l_step rfl (o_box M F rfl rfl ?_); clear F a; intro a W1 b1 M F
  refine l_step rfl (o_val F (r_assign F rfl) rfl ?_); clear F a; intro a F
  refine l_nil ?_
  refine hK1 _ _ ?_
  refine c_seq (fun K2 hK2 => ?_)
  refine wp_block ?_
  refine c_seq (fun K3 hK3 => ?_)
  refine wp_region_lit ?_
  refine l_step rfl (o_val F (r_fieldAddr F rfl fld_Op_4) rfl ?_); clear F a; intro a F
  refine l_step rfl (o_val F (r_load1 M F rfl (by repeat (first | exact List.mem_cons_self | apply List.mem_cons_of_mem)) sca_u8 rfl) rfl ?_); clear F a; intro a F
  refine l_step rfl (o_val F (r_geq_u8 F (y := 3) rfl rfl) rfl ?_); clear F a; intro a F
  refine l_step rfl (o_val F (r_assign F rfl) rfl ?_); clear F a; intro a F
  refine l_nil ?_
  refine hK3 _ _ ?_
  refine c_cond F rfl (fun g5 => ?_) (fun g5 => ?_)
  · skip
    refine c_seq (fun K4 hK4 => ?_)
    refine wp_region_lit ?_
    refine l_step rfl (o_val F (r_assign F rfl) rfl ?_); clear F a; intro a F
    refine l_nil ?_
    refine hK4 _ _ ?_
    refine wp_ret ?_
    exact ret1 Tryd.results53 M F (rv_tmp F rfl) (doer_ret M (by repeat (first | exact List.mem_cons_self | apply List.mem_cons_of_mem)) (by clear hI M F hK1 hK2 hK3 hK4; simp_all [pAttr, -UInt8.not_le, -UInt8.not_lt, -UInt32.not_le, -UInt32.not_lt, -Int.not_lt, -Int.not_le, -Nat.not_lt, -Nat.not_le]) (by clear hI M F hK1 hK2 hK3 hK4; simp_all [pAttr, -UInt8.not_le, -UInt8.not_lt, -UInt32.not_le, -UInt32.not_lt, -Int.not_lt, -Int.not_le, -Nat.not_lt, -Nat.not_le]))
  · skip
    have hk24 : (o.at_.toNat : Int).toNat < 3 := by simp only [UInt8.le_iff_toNat_le, decide_eq_false_iff_not] at g5; have e : (3 : UInt8).toNat = 3 := rfl; omega
    refine c_seq (fun K5 hK5 => ?_)
    refine wp_region_lit ?_
    refine l_step rfl (o_val F (r_move F rfl) rfl ?_); clear F a; intro a F
    refine l_step rfl (o_val F (r_nilCheck F rfl) rfl ?_); clear F a; intro a F
    refine l_step rfl (o_val F (r_fieldAddr F rfl fld_Doer_0) rfl ?_); clear F a; intro a F
    refine l_step rfl (o_val F (r_fieldAddr F rfl fld_Obj_0) rfl ?_); clear F a; intro a F
    refine l_step rfl (o_val F (r_load1 M F rfl (by repeat (first | exact List.mem_cons_self | apply List.mem_cons_of_mem)) sca_bool rfl) rfl ?_); clear F a; intro a F
    refine l_step rfl (o_val F (r_not F rfl) rfl ?_); clear F a; intro a F
    refine l_step rfl (o_val F (r_assign F rfl) rfl ?_); clear F a; intro a F
    refine l_nil ?_
    refine hK5 _ _ ?_
    refine c_cond F rfl (fun g9 => ?_) (fun g9 => ?_)
    · skip
      refine c_seq (fun K6 hK6 => ?_)
      refine wp_region_lit ?_
      refine l_step rfl (o_val F (r_assign F rfl) rfl ?_); clear F a; intro a F
      refine l_nil ?_
      refine hK6 _ _ ?_
      refine wp_ret ?_
      exact ret1 Tryd.results53 M F (rv_tmp F rfl) (doer_ret M (by repeat (first | exact List.mem_cons_self | apply List.mem_cons_of_mem)) (by clear hI M F hK1 hK2 hK3 hK5 hK6; simp_all [pAttr, -UInt8.not_le, -UInt8.not_lt, -UInt32.not_le, -UInt32.not_lt, -Int.not_lt, -Int.not_le, -Nat.not_lt, -Nat.not_le]) (by clear hI M F hK1 hK2 hK3 hK5 hK6; simp_all [pAttr, -UInt8.not_le, -UInt8.not_lt, -UInt32.not_le, -UInt32.not_lt, -Int.not_lt, -Int.not_le, -Nat.not_lt, -Nat.not_le]))
    · skip
      refine wp_skip ?_
      refine hK2 _ _ ?_
      refine c_seq (fun K7 hK7 => ?_)
      refine c_drawM (M.drop (List.Sublist.cons_cons _ (List.Sublist.cons _ (List.Sublist.refl _)))) [] mixed (fun Mk => ?_)
      have M := M.drew
      have hq1 := Keeps.here Mk
      have hle1 := M.gle
      refine t_take (i := 0) F rfl rfl hq1 (fun _ _ => r_move F rfl) (fun _ _ _ h => h) (by kernel_rfl) (by kernel_rfl) (by kernel_rfl) (by kernel_rfl) ?_; clear F a; intro a F
      refine t_take (i := 1) F rfl rfl hq1 (fun _ _ => r_fieldAddr F rfl fld_Op_4) (fun _ _ _ h => h) (by kernel_rfl) (by kernel_rfl) (by kernel_rfl) (by kernel_rfl) ?_; clear F a; intro a F
      refine t_take (i := 2) F rfl rfl hq1 (fun _ ⟨_, _, M'⟩ => r_load1 M' F rfl (by repeat (first | exact List.mem_cons_self | apply List.mem_cons_of_mem)) sca_u8 rfl) (fun _ _ _ h => h) (by kernel_rfl) (by kernel_rfl) (by kernel_rfl) (by kernel_rfl) ?_; clear F a; intro a F
      refine t_take (i := 3) F rfl rfl hq1 (fun _ _ => r_fieldAddr F rfl fld_Op_5) (fun _ _ _ h => h) (by kernel_rfl) (by kernel_rfl) (by kernel_rfl) (by kernel_rfl) ?_; clear F a; intro a F
      refine t_take (i := 4) F rfl rfl hq1 (fun _ ⟨_, _, M'⟩ => r_load1 M' F rfl (by repeat (first | exact List.mem_cons_self | apply List.mem_cons_of_mem)) sca_string rfl) (fun _ _ _ h => h) (by kernel_rfl) (by kernel_rfl) (by kernel_rfl) (by kernel_rfl) ?_; clear F a; intro a F
      refine t_take (i := 5) F rfl rfl hq1 (fun _ _ => r_nilCheck F rfl) (fun _ _ _ h => h) (by kernel_rfl) (by kernel_rfl) (by kernel_rfl) (by kernel_rfl) ?_; clear F a; intro a F
      refine t_take (i := 6) F rfl rfl hq1 (fun _ _ => r_fieldAddr F rfl fld_Doer_0) (fun _ _ _ h => h) (by kernel_rfl) (by kernel_rfl) (by kernel_rfl) (by kernel_rfl) ?_; clear F a; intro a F
      refine t_take (i := 7) F rfl rfl hq1 (fun _ _ => r_fieldAddr F rfl fld_Obj_2) (fun _ _ _ h => h) (by kernel_rfl) (by kernel_rfl) (by kernel_rfl) (by kernel_rfl) ?_; clear F a; intro a F
      refine t_take (i := 8) F rfl rfl hq1 (fun _ _ => r_indexArr F rfl rfl arr_Attrs (by omega) (by omega)) (fun _ _ _ h => h) (by kernel_rfl) (by kernel_rfl) (by kernel_rfl) (by kernel_rfl) ?_; clear F a; intro a F
      refine t_one (i := 9) (by kernel_rfl) rfl rfl (o_store1 M F rfl rfl sca_string rfl (ble_of (by simp only [len_Obj]; omega)) (p_Obj_2_i hk24) (by repeat (first | exact Upd.here _ _ _ _ _ | apply Upd.there)) ?_); clear F a; intro a W2 M F
      refine keepAnd (Keeps.mk hle1 M (by repeat (first | exact List.Sublist.refl _ | apply List.Sublist.cons_cons | apply List.Sublist.cons))) (fun hq1 => ?_)
      refine t_done (by kernel_rfl) ?_ _
      refine hK7 _ _ ?_
      refine c_seq (fun K8 hK8 => ?_)
      refine wp_region_lit ?_
      refine l_step rfl (o_val F (r_assign F rfl) rfl ?_); clear F a; intro a F
      refine l_nil ?_
      refine hK8 _ _ ?_
      refine wp_ret ?_
      exact ret1 Tryd.results53 M F (rv_tmp F rfl) (doer_ret M (by repeat (first | exact List.mem_cons_self | apply List.mem_cons_of_mem)) (by clear hI M F hK1 hK2 hK3 hK5 hK7 hK8; simp_all [pAttr, -UInt8.not_le, -UInt8.not_lt, -UInt32.not_le, -UInt32.not_lt, -Int.not_lt, -Int.not_le, -Nat.not_lt, -Nat.not_le]) (by clear hI M F hK1 hK2 hK3 hK5 hK7 hK8; simp_all [pAttr, -UInt8.not_le, -UInt8.not_lt, -UInt32.not_le, -UInt32.not_lt, -Int.not_lt, -Int.not_le, -Nat.not_lt, -Nat.not_le]))
theorem c_objects_doer_remove {w : World} {G0 : Ghost} (hI : Imm G0 w) {b : Nat} {x : PObj} {o : POp} (hx : x.data.size ≤ 1000) (ho : o.data.size ≤ 16) (hg : G0 b = none) (hc : w.heap[b]? = some (.cells x.enc.toArray 84 (0, 0))) : Ret P 54 [.pointer (some ⟨b, 0, none⟩), agg o.enc] [b] w G0 (fun G W v => DoerPost b (pRemove x o) G W v) := by
  refine enterB Tryd.func54 rfl Tryd.ntmps54 rfl rfl hI hg hc (fun a F M => ?_)
  have hat := o.at_.toNat_lt
  refine c_seq (fun K1 hK1 => ?_)
  refine wp_region_lit ?_
  refine l_step rfl (o_box M F rfl rfl ?_); clear F a; intro a W1 b1 M F
  refine l_step rfl (o_val F (r_assign F rfl) rfl ?_); clear F a; intro a F
  refine l_nil ?_
  refine hK1 _ _ ?_
  refine c_seq (fun K2 hK2 => ?_)
  refine c_seq (fun K3 hK3 => ?_)
  refine wp_region_lit ?_
  refine l_step rfl (o_val F (r_move F rfl) rfl ?_); clear F a; intro a F
  refine l_step rfl (o_val F (r_nilCheck F rfl) rfl ?_); clear F a; intro a F
  refine l_step rfl (o_val F (r_fieldAddr F rfl fld_Doer_0) rfl ?_); clear F a; intro a F
  refine l_step rfl (o_val F (r_fieldAddr F rfl fld_Obj_0) rfl ?_); clear F a; intro a F
  refine l_step rfl (o_val F (r_load1 M F rfl (by repeat (first | exact List.mem_cons_self | apply List.mem_cons_of_mem)) sca_bool rfl) rfl ?_); clear F a; intro a F
  refine l_step rfl (o_val F (r_not F rfl) rfl ?_); clear F a; intro a F
  refine l_nil ?_
  refine hK3 _ _ ?_
  refine c_cond F rfl (fun g10 => ?_) (fun g10 => ?_)
  · skip
    refine c_seq (fun K4 hK4 => ?_)
    refine wp_region_lit ?_
    refine l_step rfl (o_val F (r_assign F rfl) rfl ?_); clear F a; intro a F
    refine l_nil ?_
    refine hK4 _ _ ?_
    refine wp_ret ?_
    exact ret1 Tryd.results54 M F (rv_tmp F rfl) (doer_ret M (by repeat (first | exact List.mem_cons_self | apply List.mem_cons_of_mem)) (by clear hI M F hK1 hK2 hK3 hK4; simp_all [pRemove, -UInt8.not_le, -UInt8.not_lt, -UInt32.not_le, -UInt32.not_lt, -Int.not_lt, -Int.not_le, -Nat.not_lt, -Nat.not_le]) (by clear hI M F hK1 hK2 hK3 hK4; simp_all [pRemove, -UInt8.not_le, -UInt8.not_lt, -UInt32.not_le, -UInt32.not_lt, -Int.not_lt, -Int.not_le, -Nat.not_lt, -Nat.not_le]))
  · skip
    refine wp_skip ?_
    refine hK2 _ _ ?_
    refine c_seq (fun K5 hK5 => ?_)
    refine wp_region_lit ?_
    refine l_step rfl (o_val F (r_move F rfl) rfl ?_); clear F a; intro a F
    refine l_step rfl (o_val F (r_build F rfl b_Obj) rfl ?_); clear F a; intro a F
    refine l_step rfl (o_val F (r_nilCheck F rfl) rfl ?_); clear F a; intro a F
    refine l_step rfl (o_val F (r_fieldAddr F rfl fld_Doer_0) rfl ?_); clear F a; intro a F
    refine l_step rfl (o_storeA M F rfl rfl agg_Obj.size (by repeat (first | exact Upd.here _ _ _ _ _ | apply Upd.there)) (by rfl) (by rfl) (by rfl) ?_); clear F a; intro a W2 M F
    refine l_nil ?_
    refine hK5 _ _ ?_
    refine c_seq (fun K6 hK6 => ?_)
    refine wp_region_lit ?_
    refine l_step rfl (o_val F (r_assign F rfl) rfl ?_); clear F a; intro a F
    refine l_nil ?_
    refine hK6 _ _ ?_
    refine wp_ret ?_
    exact ret1 Tryd.results54 M F (rv_tmp F rfl) (doer_ret M (by repeat (first | exact List.mem_cons_self | apply List.mem_cons_of_mem)) (by clear hI M F hK1 hK2 hK3 hK5 hK6; simp_all [pRemove, -UInt8.not_le, -UInt8.not_lt, -UInt32.not_le, -UInt32.not_lt, -Int.not_lt, -Int.not_le, -Nat.not_lt, -Nat.not_le]) (by clear hI M F hK1 hK2 hK3 hK5 hK6; simp_all [pRemove, -UInt8.not_le, -UInt8.not_lt, -UInt32.not_le, -UInt32.not_lt, -Int.not_lt, -Int.not_le, -Nat.not_lt, -Nat.not_le]))
end Go.Proofs.YtfkmaepcjognkaaDoor.Pad
