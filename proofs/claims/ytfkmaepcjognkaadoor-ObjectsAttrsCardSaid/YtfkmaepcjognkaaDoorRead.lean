/- Walks: what a read tells; an object's bytes are few. -/
import Derived.Test.YtfkmaepcjognkaaDoorR6o
import Derived.Test.YtfkmaepcjognkaaDoorAll
import Derived.Laws.BytesString
import Derived.Test.YtfkmaepcjognkaaDoorArith2
namespace Go.Proofs.YtfkmaepcjognkaaDoor.Pad
open Go Go.Proofs
set_option linter.unusedVariables false
set_option maxRecDepth 8000
set_option linter.unusedSimpArgs false
theorem r_sstr_both {P : Program} {n : Nat} {l : Env} {a : Act} {W : World} {dst : Option Nat} {ty : TypeId} {ps : String} {af : Array Edge} {g : Option (Nat × Bool)} (F : Frm n l a) {x y z : Operand} {t : TypeId} {s : ByteArray} {i j : Nat} (hs : P.underlying t = some .string) (hx : ev l x = some (.string s)) (hy : ev l y = some (.int .i64 (i : Int))) (hz : ev l z = some (.int .i64 (j : Int))) (h0 : i ≤ j) (h1 : j ≤ s.size) :
    Run P ⟨dst, .slice t x (some y) (some z) none, ty, ps, af, g⟩ a W (.string (s.extract i j)) W := by
  have e1 : (0 : Int) ≤ (i : Int) := by omega
  have e2 : (i : Int) ≤ (j : Nat) := by omega
  have e3 : (0 : Int) ≤ (j : Int) := by omega
  have e4 : (j : Int) ≤ (s.size : Nat) := by omega
  simp [Run, execOp, F.eval hx, F.eval hy, F.eval hz, sliceAt_str hs, Instr.slice, run_underlying hs, Instr.sliceBounds, run_sliceBound e1 e2, run_sliceBound e3 e4, h0]
theorem r_conv_byte1 {P : Program} {n : Nat} {l : Env} {a : Act} {W : World} {G : Ghost} {dst : Option Nat} {ty : TypeId} {ps : String} {af : Array Edge} {g : Option (Nat × Bool)} (hI : Imm G W) (F : Frm n l a) {X : Operand} {S D E : TypeId} {s : Sl} {x : UInt8} (hS : P.underlying S = some (.slice E)) (hE : P.underlying E = some (.int .u8)) (hD : P.underlying D = some .string) (hx : ev l X = some s.v) (R : Rd G 1 s [.int .u8 (x.toNat : Int)]) :
    Run P ⟨dst, .convert S D X, ty, ps, af, g⟩ a W (.string ⟨#[x]⟩) W := by
  have hl : s.len = 1 := by have := R.len; simp at this; omega
  obtain ⟨b, o, r, h1, h2, h3⟩ := R.row (by omega)
  have hc : (loadCells ⟨b, o, none⟩ 1).run P W = .ok ([(x.toNat : Int)].map (Value.int .u8)).toArray W := run_loadCells_list (P := P) W ⟨b, o, none⟩ [.int .u8 (x.toNat : Int)] (hI.rows R h1)
  have hb := run_bytesToString (P := P) W ⟨b, o, none⟩ 1 s.cap [(x.toNat : Int)] hc
  have hx' : a.eval X = .slice (some ⟨b, o, none⟩) 1 s.cap := by rw [F.eval hx, Sl.v, h1, hl]
  simp only [Run, execOp, hx']
  simp [Go.convert, run_underlying hS, run_underlying hD, run_underlying hE, hb]
  rfl
theorem slc_Bytes : Slc P 50 5 1 := ⟨Tryd.underlying50, by kernel_rfl, by decide⟩
theorem zer_u8 : Zer P 5 (.int .u8 0) := ⟨by kernel_rfl⟩
theorem und_i64 : P.underlying 2 = some (.int .i64) := Tryd.underlying2
def dig (k : Nat) : ByteArray := ⟨#[UInt8.ofNat (48 + k)]⟩
def pReadK (x : PObj) : Nat → ByteArray
  | 0 => x.data
  | k + 1 => if x.attr k = ⟨#[]⟩ then pReadK x k else pReadK x k ++ (⟨#[59]⟩ ++ dig k ++ ⟨#[61]⟩ ++ x.attr k)
def pRead (b : PBase) (o : POp) : PRes :=
  if isOp o = false ∨ ¬ o.kind = 5 then ⟨3, ⟨#[]⟩⟩ else if (b.obj o.obj.toNat).there = false then ⟨1, ⟨#[]⟩⟩ else ⟨0, pReadK (b.obj o.obj.toNat) 3⟩
theorem dig_size (k : Nat) : (dig k).size = 1 := rfl
theorem readK_size {x : PObj} {m : Nat} (h : ∀ k, (x.attr k).size ≤ m) (hd : x.data.size ≤ m) : ∀ k, (pReadK x k).size ≤ m + k * (m + 3)
  | 0 => by simp [pReadK, hd]
  | k + 1 => by
    have h1 := readK_size h hd k
    have h2 := h k
    have e1 : (ByteArray.mk #[59]).size = 1 := rfl
    have e2 : (ByteArray.mk #[61]).size = 1 := rfl
    rw [pReadK, Nat.succ_mul]
    split
    · omega
    · simp only [ByteArray.size_append, dig_size, e1, e2]; omega
theorem attr_big (x : PObj) (k : Nat) : x.attr k = x.attr (min k 2) := by
  match k with
  | 0 | 1 => rfl
  | k + 2 => rw [show min (k + 2) 2 = 2 by omega]; rfl
/-- The strings of a base are short. -/
def Short (b : PBase) : Prop := ∀ i, (b.obj i).data.size ≤ 1000 ∧ ∀ k, ((b.obj i).attr k).size ≤ 1000
theorem dig_cut : ∀ i : Fin 3, (ByteArray.mk #[48, 49, 50, 51, 52, 53, 54, 55, 56, 57, 97, 98, 99, 100, 101, 102, 103, 104, 105, 106, 107, 108, 109, 110, 111, 112, 113, 114, 115, 116, 117, 118, 119, 120, 121, 122]).extract i.1 (i.1 + 1) = dig i.1 := by decide +kernel
theorem read_join (s d a : ByteArray) : s ++ ⟨#[59]⟩ ++ d ++ ⟨#[61]⟩ ++ a = s ++ (⟨#[59]⟩ ++ d ++ ⟨#[61]⟩ ++ a) := by simp only [ByteArray.append_assoc]
theorem c_internal_strconv_small {w : World} {G0 : Ghost} (hI : Imm G0 w) {i : Nat} (hi : i < 3) : Ret P 70 [.int .i64 (i : Int)] [] w G0 (fun G W v => v = .string (dig i)) := by
  refine enter Tryd.func70 rfl Tryd.ntmps70 rfl rfl hI (fun a F M => ?_)
  refine c_seq (fun K1 hK1 => ?_)
  refine wp_region_lit ?_
  refine l_step rfl (o_val F (r_assign F rfl) rfl ?_); clear F a; intro a F
  refine l_nil ?_
  refine hK1 _ _ ?_
  refine c_seq (fun K2 hK2 => ?_)
  refine c_seq (fun K3 hK3 => ?_)
  refine wp_region_lit ?_
  refine l_step rfl (o_val F (r_move F rfl) rfl ?_); clear F a; intro a F
  refine l_step rfl (o_val F (r_lss_i64 F rfl rfl) rfl ?_); clear F a; intro a F
  refine l_nil ?_
  refine hK3 _ _ ?_
  refine c_true F rfl (decide_eq_true (by omega)) ?_
  refine c_seq (fun K4 hK4 => ?_)
  refine wp_region_lit ?_
  refine l_step rfl (o_val F (r_move F rfl) rfl ?_); clear F a; intro a F
  refine l_step rfl (o_val F (r_move F rfl) rfl ?_); clear F a; intro a F
  refine l_step rfl (o_val F (r_add_i64 F rfl rfl (by omega)) rfl ?_); clear F a; intro a F
  refine l_step rfl (o_val F (r_sstr_both F (i := i) (j := i + 1) und_string rfl rfl rfl (by omega) (by show i + 1 ≤ 36; omega)) rfl ?_); clear F a; intro a F
  refine l_step rfl (o_val F (r_assign F rfl) rfl ?_); clear F a; intro a F
  refine l_nil ?_
  refine hK4 _ _ ?_
  refine wp_ret ?_
  exact ret1 Tryd.results70 M F (rv_tmp F rfl) (by rw [← dig_cut ⟨i, hi⟩])
theorem c_internal_strconv_FormatInt {w : World} {G0 : Ghost} (hI : Imm G0 w) {i : Nat} (hi : i < 3) : Ret P 66 [.int .i64 (i : Int), .int .i64 10] [] w G0 (fun G W v => v = .string (dig i)) := by
  refine enter Tryd.func66 rfl Tryd.ntmps66 rfl rfl hI (fun a F M => ?_)
  refine c_seq (fun K1 hK1 => ?_)
  refine wp_region_lit ?_
  refine l_step rfl (o_val F (r_assign F rfl) rfl ?_); clear F a; intro a F
  refine l_nil ?_
  refine hK1 _ _ ?_
  refine c_seq (fun K2 hK2 => ?_)
  refine c_seq (fun K3 hK3 => ?_)
  refine wp_region_lit ?_
  refine l_step rfl (o_val F (r_move F rfl) rfl ?_); clear F a; intro a F
  refine l_step rfl (o_val F (r_eql_i64 F rfl rfl) rfl ?_); clear F a; intro a F
  refine l_nil ?_
  refine hK3 _ _ ?_
  refine c_true F rfl rfl ?_
  refine c_seq (fun K4 hK4 => ?_)
  refine c_seq (fun K5 hK5 => ?_)
  refine wp_region_lit ?_
  refine l_step rfl (o_val F (r_move F rfl) rfl ?_); clear F a; intro a F
  refine l_step rfl (o_val F (r_leq_i64 F rfl rfl) rfl ?_); clear F a; intro a F
  refine l_step rfl (o_val F (r_move F rfl) rfl ?_); clear F a; intro a F
  refine l_guard F rfl rfl rfl (decide_eq_true (by omega)) (o_val F (r_move F rfl) rfl ?_); clear F a; intro a F
  refine l_guard F rfl rfl rfl (decide_eq_true (by omega)) (o_val F (r_lss_i64 F rfl rfl) rfl ?_); clear F a; intro a F
  refine l_step rfl (o_val F (r_pick_t F rfl (decide_eq_true (by omega)) rfl) rfl ?_); clear F a; intro a F
  refine l_nil ?_
  refine hK5 _ _ ?_
  refine c_true F rfl (decide_eq_true (by omega)) ?_
  refine c_seq (fun K6 hK6 => ?_)
  refine wp_region_lit ?_
  refine l_step rfl (o_val F (r_move F rfl) rfl ?_); clear F a; intro a F
  refine l_step rfl (o_call M F rfl (c_internal_strconv_small M.imm hi) rfl ?_); clear F a; intro a W1 v1 G1 hp1 M E1 F
  subst hp1
  refine l_step rfl (o_val F (r_assign F rfl) rfl ?_); clear F a; intro a F
  refine l_nil ?_
  refine hK6 _ _ ?_
  refine wp_ret ?_
  exact ret1 Tryd.results66 M F (rv_tmp F rfl) (rfl)
theorem c_internal_strconv_Itoa {w : World} {G0 : Ghost} (hI : Imm G0 w) {i : Nat} (hi : i < 3) : Ret P 56 [.int .i64 (i : Int)] [] w G0 (fun G W v => v = .string (dig i)) := by
  refine enter Tryd.func56 rfl Tryd.ntmps56 rfl rfl hI (fun a F M => ?_)
  refine c_seq (fun K1 hK1 => ?_)
  refine wp_region_lit ?_
  refine l_step rfl (o_val F (r_assign F rfl) rfl ?_); clear F a; intro a F
  refine l_nil ?_
  refine hK1 _ _ ?_
  refine c_seq (fun K2 hK2 => ?_)
  refine wp_region_lit ?_
  refine l_step rfl (o_val F (r_move F rfl) rfl ?_); clear F a; intro a F
  refine l_step rfl (o_call M F rfl (c_internal_strconv_FormatInt M.imm hi) rfl ?_); clear F a; intro a W1 v1 G1 hp1 M E1 F
  subst hp1
  refine l_step rfl (o_val F (r_assign F rfl) rfl ?_); clear F a; intro a F
  refine l_nil ?_
  refine hK2 _ _ ?_
  refine wp_ret ?_
  exact ret1 Tryd.results56 M F (rv_tmp F rfl) (rfl)
theorem c_strconv_Itoa {w : World} {G0 : Ghost} (hI : Imm G0 w) {i : Nat} (hi : i < 3) : Ret P 36 [.int .i64 (i : Int)] [] w G0 (fun G W v => v = .string (dig i)) := by
  refine enter Tryd.func36 rfl Tryd.ntmps36 rfl rfl hI (fun a F M => ?_)
  refine c_seq (fun K1 hK1 => ?_)
  refine wp_region_lit ?_
  refine l_step rfl (o_val F (r_assign F rfl) rfl ?_); clear F a; intro a F
  refine l_nil ?_
  refine hK1 _ _ ?_
  refine c_seq (fun K2 hK2 => ?_)
  refine wp_region_lit ?_
  refine l_step rfl (o_val F (r_move F rfl) rfl ?_); clear F a; intro a F
  refine l_step rfl (o_call M F rfl (c_internal_strconv_Itoa M.imm hi) rfl ?_); clear F a; intro a W1 v1 G1 hp1 M E1 F
  subst hp1
  refine l_step rfl (o_val F (r_assign F rfl) rfl ?_); clear F a; intro a F
  refine l_nil ?_
  refine hK2 _ _ ?_
  refine wp_ret ?_
  exact ret1 Tryd.results36 M F (rv_tmp F rfl) (rfl)
theorem c_objects_Read {w : World} {G0 : Ghost} (hI : Imm G0 w) {b : PBase} {o : POp} (hs : Short b) : Ret P 20 [agg b.enc, agg o.enc] [] w G0 (fun G W v => v = agg (pRead b o).enc) := by
  refine enter Tryd.func20 rfl Tryd.ntmps20 rfl rfl hI (fun a F M => ?_)
  refine c_seq (fun K1 hK1 => ?_)
  refine wp_region_lit ?_
  refine l_step rfl (o_box M F rfl rfl ?_); clear F a; intro a W1 b1 M F
  refine l_step rfl (o_box M F rfl rfl ?_); clear F a; intro a W2 b2 M F
  refine l_step rfl (o_alloc M F zer_Res rfl ?_); clear F a; intro a W3 b3 M F
  refine l_nil ?_
  refine hK1 _ _ ?_
  refine c_seq (fun K2 hK2 => ?_)
  refine c_seq (fun K3 hK3 => ?_)
  refine wp_region_lit ?_
  refine l_step rfl (o_val F (r_load M F rfl (by repeat (first | exact List.mem_cons_self | apply List.mem_cons_of_mem)) agg_Op (seg_all rfl)) rfl ?_); clear F a; intro a F
  refine l_step rfl (o_call M F rfl (c_objects_IsOp M.imm) rfl ?_); clear F a; intro a W4 v4 G4 hp4 M E4 F
  subst hp4
  refine l_step rfl (o_val F (r_not F rfl) rfl ?_); clear F a; intro a F
  refine l_step rfl (o_val F (r_move F rfl) rfl ?_); clear F a; intro a F
  refine c_split F (i := 12) rfl (fun g12 => ?_) (fun g12 => ?_)
  · skip
    iterate 3 (refine l_skip F rfl rfl rfl g12 rfl rfl ?_; clear F a; intro a F)
    refine l_step rfl (o_val F (r_pick_t F rfl g12 rfl) rfl ?_); clear F a; intro a F
    refine l_nil ?_
    refine hK3 _ _ ?_
    refine c_true F rfl rfl ?_
    refine c_seq (fun K4 hK4 => ?_)
    refine wp_region_lit ?_
    refine l_step rfl (o_val F (r_build F rfl (b_Res_0 3)) rfl ?_); clear F a; intro a F
    refine l_step rfl (o_storeA M F rfl rfl agg_Res.size (by repeat (first | exact Upd.here _ _ _ _ _ | apply Upd.there)) (by rfl) (by rfl) (by rfl) ?_); clear F a; intro a W5 M F
    refine l_nil ?_
    refine hK4 _ _ ?_
    refine wp_ret ?_
    exact ret1 Tryd.results20 M F (rv_cell M F rfl (by repeat (first | exact List.mem_cons_self | apply List.mem_cons_of_mem)) agg_Res rfl) (by clear hI M F hK1 hK2 hK3 hK4; rw [pRead, if_pos]; by_cases hi : isOp o = true; (right; simp_all); (left; simpa using hi))
  · skip
    refine l_guard F rfl rfl rfl g12 (o_val F (r_fieldAddr F rfl fld_Op_2) rfl ?_); clear F a; intro a F
    refine l_guard F rfl rfl rfl g12 (o_val F (r_load1 M F rfl (by repeat (first | exact List.mem_cons_self | apply List.mem_cons_of_mem)) sca_u8 rfl) rfl ?_); clear F a; intro a F
    refine l_guard F rfl rfl rfl g12 (o_val F (r_neq_u8 F (y := 5) rfl rfl) rfl ?_); clear F a; intro a F
    refine l_step rfl (o_val F (r_pick_f F rfl g12 rfl) rfl ?_); clear F a; intro a F
    refine l_nil ?_
    refine hK3 _ _ ?_
    refine c_cond F rfl (fun g16 => ?_) (fun g16 => ?_)
    · skip
      refine c_seq (fun K5 hK5 => ?_)
      refine wp_region_lit ?_
      refine l_step rfl (o_val F (r_build F rfl (b_Res_0 3)) rfl ?_); clear F a; intro a F
      refine l_step rfl (o_storeA M F rfl rfl agg_Res.size (by repeat (first | exact Upd.here _ _ _ _ _ | apply Upd.there)) (by rfl) (by rfl) (by rfl) ?_); clear F a; intro a W6 M F
      refine l_nil ?_
      refine hK5 _ _ ?_
      refine wp_ret ?_
      exact ret1 Tryd.results20 M F (rv_cell M F rfl (by repeat (first | exact List.mem_cons_self | apply List.mem_cons_of_mem)) agg_Res rfl) (by clear hI M F hK1 hK2 hK3 hK5; rw [pRead, if_pos]; by_cases hi : isOp o = true; (right; simp_all); (left; simpa using hi))
    · skip
      refine wp_skip ?_
      refine hK2 _ _ ?_
      refine c_seq (fun K6 hK6 => ?_)
      refine wp_region_lit ?_
      have hio : isOp o = true := by simpa using g12
      have hk5 : o.kind = 5 := by simpa using g16
      have hif := isOp_facts hio
      have hk21 : (o.obj.toNat : Int).toNat < 6 := by omega
      refine l_step rfl (o_val F (r_fieldAddr F rfl fld_Op_3) rfl ?_); clear F a; intro a F
      refine l_step rfl (o_val F (r_load1 M F rfl (by repeat (first | exact List.mem_cons_self | apply List.mem_cons_of_mem)) sca_u8 rfl) rfl ?_); clear F a; intro a F
      refine l_step rfl (o_val F (r_fieldAddr F rfl fld_Base_0) rfl ?_); clear F a; intro a F
      refine l_step rfl (o_val F (r_indexArr F rfl rfl arr_Objs (by omega) (by omega)) rfl ?_); clear F a; intro a F
      refine l_step rfl (o_val F (r_load M F rfl (by repeat (first | exact List.mem_cons_self | apply List.mem_cons_of_mem)) agg_Obj (g_Base_0_i hk21)) rfl ?_); clear F a; intro a F
      refine l_step rfl (o_alloc M F zer_Obj rfl ?_); clear F a; intro a W7 b4 M F
      refine l_step rfl (o_storeA M F rfl rfl agg_Obj.size (by repeat (first | exact Upd.here _ _ _ _ _ | apply Upd.there)) (by rfl) (by rfl) (by rfl) ?_); clear F a; intro a W8 M F
      refine l_nil ?_
      refine hK6 _ _ ?_
      refine c_seq (fun K7 hK7 => ?_)
      refine c_seq (fun K8 hK8 => ?_)
      refine wp_region_lit ?_
      refine l_step rfl (o_val F (r_fieldAddr F rfl fld_Obj_0) rfl ?_); clear F a; intro a F
      refine l_step rfl (o_val F (r_load1 M F rfl (by repeat (first | exact List.mem_cons_self | apply List.mem_cons_of_mem)) sca_bool rfl) rfl ?_); clear F a; intro a F
      refine l_step rfl (o_val F (r_not F rfl) rfl ?_); clear F a; intro a F
      refine l_nil ?_
      refine hK8 _ _ ?_
      refine c_cond F rfl (fun g25 => ?_) (fun g25 => ?_)
      · skip
        refine c_seq (fun K9 hK9 => ?_)
        refine wp_region_lit ?_
        refine l_step rfl (o_val F (r_build F rfl (b_Res_0 1)) rfl ?_); clear F a; intro a F
        refine l_step rfl (o_storeA M F rfl rfl agg_Res.size (by repeat (first | exact Upd.here _ _ _ _ _ | apply Upd.there)) (by rfl) (by rfl) (by rfl) ?_); clear F a; intro a W9 M F
        refine l_nil ?_
        refine hK9 _ _ ?_
        refine wp_ret ?_
        exact ret1 Tryd.results20 M F (rv_cell M F rfl (by repeat (first | exact List.mem_cons_self | apply List.mem_cons_of_mem)) agg_Res rfl) (by rw [pRead, if_neg (by simp [hio, hk5]), if_pos (by simpa using g25)])
      · skip
        refine wp_skip ?_
        refine hK7 _ _ ?_
        refine c_seq (fun K10 hK10 => ?_)
        refine wp_region_lit ?_
        refine l_step rfl (o_val F (r_fieldAddr F rfl fld_Obj_1) rfl ?_); clear F a; intro a F
        refine l_step rfl (o_val F (r_load1 M F rfl (by repeat (first | exact List.mem_cons_self | apply List.mem_cons_of_mem)) sca_string rfl) rfl ?_); clear F a; intro a F
        refine l_step rfl (o_val F (r_assign F rfl) rfl ?_); clear F a; intro a F
        refine l_nil ?_
        refine hK10 _ _ ?_
        refine c_seq (fun K11 hK11 => ?_)
        refine c_seq (fun K12 hK12 => ?_)
        refine wp_region_lit ?_
        refine l_step rfl (o_val F (r_fieldAddr F rfl fld_Obj_2) rfl ?_); clear F a; intro a F
        refine l_step rfl (o_val F (r_load M F rfl (by repeat (first | exact List.mem_cons_self | apply List.mem_cons_of_mem)) agg_Attrs g_Obj_2) rfl ?_); clear F a; intro a F
        refine l_step rfl (o_val F (r_move F rfl) rfl ?_); clear F a; intro a F
        refine l_nil ?_
        refine hK12 _ _ ?_
        refine wp_block ?_
        refine c_loop (fun k a W => ∃ (i : Nat) (G : Ghost) (s : ByteArray), k = 3 - i ∧ i ≤ 3 ∧ Frm 48 [(31, .int .i64 (i : Int)), (30, agg (b.obj o.obj.toNat).encAttr), (6, .string s), (4, .pointer (some ⟨b3, 0, none⟩))] a ∧ St [] w G0 W [⟨b3, 28, PRes.zero.enc⟩] G ∧ (s = pReadK (b.obj o.obj.toNat) i)) (3) ?_ ?_
        · exact ⟨0, _, _, rfl, Nat.zero_le _, (F.cons (F.cons (F.cons (F.cons F.nil 4 rfl) 6 rfl) 30 rfl) 31 rfl), (M.drop (by repeat (first | exact List.Sublist.refl _ | apply List.Sublist.cons_cons | apply List.Sublist.cons))), rfl⟩
        · clear F M a; intro k a W hI; obtain ⟨i, G, s, hk, hi, F, M, hf⟩ := hI
          refine c_seq (fun K13 hK13 => ?_)
          refine wp_region_lit ?_
          refine l_step rfl (o_val F (r_lss_i64 F rfl rfl) rfl ?_); clear F a; intro a F
          refine l_nil ?_
          refine hK13 _ _ ?_
          refine c_seq (fun K14 hK14 => ?_)
          refine c_cond F rfl (fun g32 => ?_) (fun g32 => ?_)
          · skip
            have hlt : i < 3 := by have h := of_decide_eq_true g32; omega
            refine wp_skip ?_
            refine hK14 _ _ ?_
            refine c_seq (fun K15 hK15 => ?_)
            refine wp_block ?_
            refine c_seq (fun K16 hK16 => ?_)
            refine wp_region_lit ?_
            refine l_step rfl (o_val F (r_move F rfl) rfl ?_); clear F a; intro a F
            refine l_step rfl (o_val F (r_index1 F rfl rfl arr_Attrs sca_string (by omega) (by omega) (e_Attrs (by omega))) rfl ?_); clear F a; intro a F
            refine l_step rfl (o_val F (r_assign F rfl) rfl ?_); clear F a; intro a F
            refine l_step rfl (o_val F (r_assign F rfl) rfl ?_); clear F a; intro a F
            refine l_nil ?_
            refine hK16 _ _ ?_
            refine c_seq (fun K17 hK17 => ?_)
            refine wp_region_lit ?_
            refine l_step rfl (o_val F (r_move F rfl) rfl ?_); clear F a; intro a F
            refine l_step rfl (o_val F (r_neq_string F rfl rfl) rfl ?_); clear F a; intro a F
            refine l_nil ?_
            refine hK17 _ _ ?_
            refine c_cond F rfl (fun g36 => ?_) (fun g36 => ?_)
            · skip
              have h1 := readK_size (fun k => (hs o.obj.toNat).2 k) (hs o.obj.toNat).1 i; have h2 := (hs o.obj.toNat).2 i; have h4 := (hs o.obj.toNat).2 (i : Int).toNat; have h5 : ((b.obj (o.obj.toNat : Int).toNat).attr (i : Int).toNat).size ≤ 1000 := (hs _).2 _; have e1 : (ByteArray.mk #[59]).size = 1 := rfl; have e2 : (ByteArray.mk #[61]).size = 1 := rfl; have e3 : i * 1003 ≤ 3 * 1003 := Nat.mul_le_mul_right _ (by omega)
              refine wp_region_lit ?_
              refine l_step rfl (o_val F (r_move F rfl) rfl ?_); clear F a; intro a F
              refine l_step rfl (o_val F (r_move F rfl) rfl ?_); clear F a; intro a F
              refine l_step rfl (o_call M F rfl (c_strconv_Itoa M.imm hlt) rfl ?_); clear F a; intro a W10 v10 G10 hp10 M E10 F
              subst hp10
              refine l_step rfl (o_val F (r_add_string F rfl rfl (by rw [dig_size, e1]; omega)) rfl ?_); clear F a; intro a F
              refine l_step rfl (o_val F (r_add_string F rfl rfl (by simp only [ByteArray.size_append, dig_size, e1, e2]; omega)) rfl ?_); clear F a; intro a F
              refine l_step rfl (o_val F (r_move F rfl) rfl ?_); clear F a; intro a F
              refine l_step rfl (o_val F (r_add_string F rfl rfl (by simp only [ByteArray.size_append, dig_size, e1, e2]; have h3 : (b.obj o.obj.toNat).attr i = (b.obj o.obj.toNat).attr i := rfl; omega)) rfl ?_); clear F a; intro a F
              refine l_step rfl (o_val F (r_add_string F rfl rfl (by simp only [ByteArray.size_append, dig_size, e1, e2]; rw [hf]; omega)) rfl ?_); clear F a; intro a F
              refine l_step rfl (o_val F (r_assign F rfl) rfl ?_); clear F a; intro a F
              refine l_nil ?_
              refine hK15 _ _ ?_
              refine wp_region_lit ?_
              refine l_step rfl (o_val F (r_add_i64 F rfl rfl (by omega)) rfl ?_); clear F a; intro a F
              refine l_step rfl (o_val F (r_move F rfl) rfl ?_); clear F a; intro a F
              refine l_nil ?_
              exact ⟨3 - (i + 1), by omega, i + 1, _, _, rfl, by omega, (F.cons (F.cons (F.cons (F.cons F.nil 4 rfl) 6 rfl) 30 rfl) 31 rfl), M.drop (by repeat (first | exact List.Sublist.refl _ | apply List.Sublist.cons_cons | apply List.Sublist.cons)), (by rw [pReadK, ← hf]; first | (rw [if_neg (by simpa using g36)] <;> rfl) | (rw [if_pos (by simpa using g36)]; done))⟩
            · skip
              refine wp_skip ?_
              refine hK15 _ _ ?_
              refine wp_region_lit ?_
              refine l_step rfl (o_val F (r_add_i64 F rfl rfl (by omega)) rfl ?_); clear F a; intro a F
              refine l_step rfl (o_val F (r_move F rfl) rfl ?_); clear F a; intro a F
              refine l_nil ?_
              exact ⟨3 - (i + 1), by omega, i + 1, _, _, rfl, by omega, (F.cons (F.cons (F.cons (F.cons F.nil 4 rfl) 6 rfl) 30 rfl) 31 rfl), M.drop (by repeat (first | exact List.Sublist.refl _ | apply List.Sublist.cons_cons | apply List.Sublist.cons)), (by rw [pReadK, ← hf]; first | (rw [if_neg (by simpa using g36)] <;> rfl) | (rw [if_pos (by simpa using g36)]; done))⟩
          · skip
            have hge : i = 3 := by have h := of_decide_eq_false g32; omega
            subst hge
            refine wp_exit ?_
            refine hK11 _ _ ?_
            refine c_seq (fun K18 hK18 => ?_)
            refine wp_region_lit ?_
            refine l_step rfl (o_val F (r_move F rfl) rfl ?_); clear F a; intro a F
            refine l_step rfl (o_val F (r_build F rfl (b_Res_1 _)) rfl ?_); clear F a; intro a F
            refine l_step rfl (o_storeA M F rfl rfl agg_Res.size (by repeat (first | exact Upd.here _ _ _ _ _ | apply Upd.there)) (by rfl) (by rfl) (by rfl) ?_); clear F a; intro a W11 M F
            refine l_nil ?_
            refine hK18 _ _ ?_
            refine wp_ret ?_
            exact ret1 Tryd.results20 M F (rv_cell M F rfl (by repeat (first | exact List.mem_cons_self | apply List.mem_cons_of_mem)) agg_Res rfl) (by rw [pRead, if_neg (by simp [hio, hk5]), if_neg (by simpa using g25), ← hf])
theorem c_paddockref6_Read {w : World} {G0 : Ghost} (hI : Imm G0 w) {b : PBase} {o : POp} (hs : Short b) : Ret P 21 [agg b.enc, agg o.enc] [] w G0 (fun G W v => v = agg (pRead b o).enc) := by
  refine enter Tryd.func21 rfl Tryd.ntmps21 rfl rfl hI (fun a F M => ?_)
  refine c_seq (fun K1 hK1 => ?_)
  refine wp_region_lit ?_
  refine l_step rfl (o_box M F rfl rfl ?_); clear F a; intro a W1 b1 M F
  refine l_step rfl (o_box M F rfl rfl ?_); clear F a; intro a W2 b2 M F
  refine l_step rfl (o_alloc M F zer_Res rfl ?_); clear F a; intro a W3 b3 M F
  refine l_nil ?_
  refine hK1 _ _ ?_
  refine c_seq (fun K2 hK2 => ?_)
  refine c_seq (fun K3 hK3 => ?_)
  refine wp_region_lit ?_
  refine l_step rfl (o_val F (r_load M F rfl (by repeat (first | exact List.mem_cons_self | apply List.mem_cons_of_mem)) agg_Op (seg_all rfl)) rfl ?_); clear F a; intro a F
  refine l_step rfl (o_call M F rfl (c_paddockref6_IsOp M.imm) rfl ?_); clear F a; intro a W4 v4 G4 hp4 M E4 F
  subst hp4
  refine l_step rfl (o_val F (r_not F rfl) rfl ?_); clear F a; intro a F
  refine l_step rfl (o_val F (r_move F rfl) rfl ?_); clear F a; intro a F
  refine c_split F (i := 11) rfl (fun g11 => ?_) (fun g11 => ?_)
  · skip
    iterate 3 (refine l_skip F rfl rfl rfl g11 rfl rfl ?_; clear F a; intro a F)
    refine l_step rfl (o_val F (r_pick_t F rfl g11 rfl) rfl ?_); clear F a; intro a F
    refine l_nil ?_
    refine hK3 _ _ ?_
    refine c_true F rfl rfl ?_
    refine c_seq (fun K4 hK4 => ?_)
    refine wp_region_lit ?_
    refine l_step rfl (o_val F (r_build F rfl (b_Res_0 3)) rfl ?_); clear F a; intro a F
    refine l_step rfl (o_storeA M F rfl rfl agg_Res.size (by repeat (first | exact Upd.here _ _ _ _ _ | apply Upd.there)) (by rfl) (by rfl) (by rfl) ?_); clear F a; intro a W5 M F
    refine l_nil ?_
    refine hK4 _ _ ?_
    refine wp_ret ?_
    exact ret1 Tryd.results21 M F (rv_cell M F rfl (by repeat (first | exact List.mem_cons_self | apply List.mem_cons_of_mem)) agg_Res rfl) (by clear hI M F hK1 hK2 hK3 hK4; rw [pRead, if_pos]; by_cases hi : isOp o = true; (right; simp_all); (left; simpa using hi))
  · skip
    refine l_guard F rfl rfl rfl g11 (o_val F (r_fieldAddr F rfl fld_Op_2) rfl ?_); clear F a; intro a F
    refine l_guard F rfl rfl rfl g11 (o_val F (r_load1 M F rfl (by repeat (first | exact List.mem_cons_self | apply List.mem_cons_of_mem)) sca_u8 rfl) rfl ?_); clear F a; intro a F
    refine l_guard F rfl rfl rfl g11 (o_val F (r_neq_u8 F (y := 5) rfl rfl) rfl ?_); clear F a; intro a F
    refine l_step rfl (o_val F (r_pick_f F rfl g11 rfl) rfl ?_); clear F a; intro a F
    refine l_nil ?_
    refine hK3 _ _ ?_
    refine c_cond F rfl (fun g15 => ?_) (fun g15 => ?_)
    · skip
      refine c_seq (fun K5 hK5 => ?_)
      refine wp_region_lit ?_
      refine l_step rfl (o_val F (r_build F rfl (b_Res_0 3)) rfl ?_); clear F a; intro a F
      refine l_step rfl (o_storeA M F rfl rfl agg_Res.size (by repeat (first | exact Upd.here _ _ _ _ _ | apply Upd.there)) (by rfl) (by rfl) (by rfl) ?_); clear F a; intro a W6 M F
      refine l_nil ?_
      refine hK5 _ _ ?_
      refine wp_ret ?_
      exact ret1 Tryd.results21 M F (rv_cell M F rfl (by repeat (first | exact List.mem_cons_self | apply List.mem_cons_of_mem)) agg_Res rfl) (by clear hI M F hK1 hK2 hK3 hK5; rw [pRead, if_pos]; by_cases hi : isOp o = true; (right; simp_all); (left; simpa using hi))
    · skip
      refine wp_skip ?_
      refine hK2 _ _ ?_
      refine c_seq (fun K6 hK6 => ?_)
      refine wp_region_lit ?_
      have hio : isOp o = true := by simpa using g11
      have hk5 : o.kind = 5 := by simpa using g15
      have hif := isOp_facts hio
      have hk20 : (o.obj.toNat : Int).toNat < 6 := by omega
      refine l_step rfl (o_val F (r_fieldAddr F rfl fld_Op_3) rfl ?_); clear F a; intro a F
      refine l_step rfl (o_val F (r_load1 M F rfl (by repeat (first | exact List.mem_cons_self | apply List.mem_cons_of_mem)) sca_u8 rfl) rfl ?_); clear F a; intro a F
      refine l_step rfl (o_val F (r_fieldAddr F rfl fld_Base_0) rfl ?_); clear F a; intro a F
      refine l_step rfl (o_val F (r_indexArr F rfl rfl arr_Objs (by omega) (by omega)) rfl ?_); clear F a; intro a F
      refine l_step rfl (o_val F (r_load M F rfl (by repeat (first | exact List.mem_cons_self | apply List.mem_cons_of_mem)) agg_Obj (g_Base_0_i hk20)) rfl ?_); clear F a; intro a F
      refine l_step rfl (o_alloc M F zer_Obj rfl ?_); clear F a; intro a W7 b4 M F
      refine l_step rfl (o_storeA M F rfl rfl agg_Obj.size (by repeat (first | exact Upd.here _ _ _ _ _ | apply Upd.there)) (by rfl) (by rfl) (by rfl) ?_); clear F a; intro a W8 M F
      refine l_nil ?_
      refine hK6 _ _ ?_
      refine c_seq (fun K7 hK7 => ?_)
      refine c_seq (fun K8 hK8 => ?_)
      refine wp_region_lit ?_
      refine l_step rfl (o_val F (r_fieldAddr F rfl fld_Obj_0) rfl ?_); clear F a; intro a F
      refine l_step rfl (o_val F (r_load1 M F rfl (by repeat (first | exact List.mem_cons_self | apply List.mem_cons_of_mem)) sca_bool rfl) rfl ?_); clear F a; intro a F
      refine l_step rfl (o_val F (r_not F rfl) rfl ?_); clear F a; intro a F
      refine l_nil ?_
      refine hK8 _ _ ?_
      refine c_cond F rfl (fun g24 => ?_) (fun g24 => ?_)
      · skip
        refine c_seq (fun K9 hK9 => ?_)
        refine wp_region_lit ?_
        refine l_step rfl (o_val F (r_build F rfl (b_Res_0 1)) rfl ?_); clear F a; intro a F
        refine l_step rfl (o_storeA M F rfl rfl agg_Res.size (by repeat (first | exact Upd.here _ _ _ _ _ | apply Upd.there)) (by rfl) (by rfl) (by rfl) ?_); clear F a; intro a W9 M F
        refine l_nil ?_
        refine hK9 _ _ ?_
        refine wp_ret ?_
        exact ret1 Tryd.results21 M F (rv_cell M F rfl (by repeat (first | exact List.mem_cons_self | apply List.mem_cons_of_mem)) agg_Res rfl) (by rw [pRead, if_neg (by simp [hio, hk5]), if_pos (by simpa using g24)])
      · skip
        refine wp_skip ?_
        refine hK7 _ _ ?_
        refine c_seq (fun K10 hK10 => ?_)
        refine wp_region_lit ?_
        refine l_step rfl (o_val F (r_fieldAddr F rfl fld_Obj_1) rfl ?_); clear F a; intro a F
        refine l_step rfl (o_val F (r_load1 M F rfl (by repeat (first | exact List.mem_cons_self | apply List.mem_cons_of_mem)) sca_string rfl) rfl ?_); clear F a; intro a F
        refine l_step rfl (o_val F (r_assign F rfl) rfl ?_); clear F a; intro a F
        refine l_nil ?_
        refine hK10 _ _ ?_
        refine c_seq (fun K11 hK11 => ?_)
        refine c_seq (fun K12 hK12 => ?_)
        refine wp_region_lit ?_
        refine l_step rfl (o_val F (r_assign F rfl) rfl ?_); clear F a; intro a F
        refine l_nil ?_
        refine hK12 _ _ ?_
        refine wp_block ?_
        refine c_loop (fun k a W => ∃ (i : Nat) (G : Ghost) (s : ByteArray), k = 3 - i ∧ i ≤ 3 ∧ Frm 53 [(7, .int .i64 (i : Int)), (6, .string s), (5, .pointer (some ⟨b4, 0, none⟩)), (4, .pointer (some ⟨b3, 0, none⟩))] a ∧ St [] w G0 W [⟨b4, 24, (b.obj o.obj.toNat).enc⟩, ⟨b3, 28, PRes.zero.enc⟩] G ∧ (s = pReadK (b.obj o.obj.toNat) i)) (3) ?_ ?_
        · exact ⟨0, _, _, rfl, Nat.zero_le _, (F.cons (F.cons (F.cons (F.cons F.nil 4 rfl) 5 rfl) 6 rfl) 7 rfl), (M.drop (by repeat (first | exact List.Sublist.refl _ | apply List.Sublist.cons_cons | apply List.Sublist.cons))), rfl⟩
        · clear F M a; intro k a W hI; obtain ⟨i, G, s, hk, hi, F, M, hf⟩ := hI
          refine c_seq (fun K13 hK13 => ?_)
          refine c_seq (fun K14 hK14 => ?_)
          refine wp_region_lit ?_
          refine l_step rfl (o_val F (r_move F rfl) rfl ?_); clear F a; intro a F
          refine l_step rfl (o_val F (r_lss_i64 F rfl rfl) rfl ?_); clear F a; intro a F
          refine l_nil ?_
          refine hK14 _ _ ?_
          refine c_cond F rfl (fun g29 => ?_) (fun g29 => ?_)
          · skip
            have hlt : i < 3 := by have h := of_decide_eq_true g29; omega
            have hk34 : (i : Int).toNat < 3 := by omega
            have hk48 := hk34
            refine wp_skip ?_
            refine hK13 _ _ ?_
            refine c_seq (fun K15 hK15 => ?_)
            refine wp_block ?_
            refine c_seq (fun K16 hK16 => ?_)
            refine wp_region_lit ?_
            refine l_step rfl (o_val F (r_move F rfl) rfl ?_); clear F a; intro a F
            refine l_step rfl (o_val F (r_fieldAddr F rfl fld_Obj_2) rfl ?_); clear F a; intro a F
            refine l_step rfl (o_val F (r_indexArr F rfl rfl arr_Attrs (by omega) (by omega)) rfl ?_); clear F a; intro a F
            refine l_step rfl (o_val F (r_load1 M F rfl (by repeat (first | exact List.mem_cons_self | apply List.mem_cons_of_mem)) sca_string (g_Obj_2_i hk34)) rfl ?_); clear F a; intro a F
            refine l_step rfl (o_val F (r_neq_string F rfl rfl) rfl ?_); clear F a; intro a F
            refine l_nil ?_
            refine hK16 _ _ ?_
            refine c_cond F rfl (fun g36 => ?_) (fun g36 => ?_)
            · skip
              have h1 := readK_size (fun k => (hs o.obj.toNat).2 k) (hs o.obj.toNat).1 i; have h2 := (hs o.obj.toNat).2 i; have h4 := (hs o.obj.toNat).2 (i : Int).toNat; have h5 : ((b.obj (o.obj.toNat : Int).toNat).attr (i : Int).toNat).size ≤ 1000 := (hs _).2 _; have e1 : (ByteArray.mk #[59]).size = 1 := rfl; have e2 : (ByteArray.mk #[61]).size = 1 := rfl; have e3 : i * 1003 ≤ 3 * 1003 := Nat.mul_le_mul_right _ (by omega)
              refine c_drawM M [] mixed (fun M => ?_)
              have Ms := M
              have hq1 := Keeps.here M
              have hle1 := M.gle
              refine t_take (i := 0) F rfl rfl hq1 (fun _ _ => r_move F rfl) (fun _ _ _ h => h) (by kernel_rfl) (by kernel_rfl) (by kernel_rfl) (by kernel_rfl) ?_; clear F a; intro a F
              refine t_take (i := 1) F rfl rfl hq1 (fun _ _ => r_add_string F rfl rfl (by rw [hf, e1]; omega)) (fun _ _ _ h => h) (by kernel_rfl) (by kernel_rfl) (by kernel_rfl) (by kernel_rfl) ?_; clear F a; intro a F
              refine t_take (i := 2) F rfl rfl hq1 (fun _ _ => r_move F rfl) (fun _ _ _ h => h) (by kernel_rfl) (by kernel_rfl) (by kernel_rfl) (by kernel_rfl) ?_; clear F a; intro a F
              refine t_take (i := 3) F rfl rfl hq1 (fun _ _ => r_add_i64 F rfl rfl (by omega)) (fun _ _ _ h => h) (by kernel_rfl) (by kernel_rfl) (by kernel_rfl) (by kernel_rfl) ?_; clear F a; intro a F
              refine t_take (i := 4) F rfl rfl hq1 (fun _ _ => r_conv_i64_u8 (x := 48 + i) F und_int und_u8 rfl) (fun _ _ _ h => h) (by kernel_rfl) (by kernel_rfl) (by kernel_rfl) (by kernel_rfl) ?_; clear F a; intro a F
              refine t_take (i := 9) F rfl rfl hq1 (fun _ _ => r_move F rfl) (fun _ _ _ h => h) (by kernel_rfl) (by kernel_rfl) (by kernel_rfl) (by kernel_rfl) ?_; clear F a; intro a F
              refine t_take (i := 10) F rfl rfl hq1 (fun _ _ => r_fieldAddr F rfl fld_Obj_2) (fun _ _ _ h => h) (by kernel_rfl) (by kernel_rfl) (by kernel_rfl) (by kernel_rfl) ?_; clear F a; intro a F
              refine t_take (i := 11) F rfl rfl hq1 (fun _ _ => r_indexArr F rfl rfl arr_Attrs (by omega) (by omega)) (fun _ _ _ h => h) (by kernel_rfl) (by kernel_rfl) (by kernel_rfl) (by kernel_rfl) ?_; clear F a; intro a F
              refine t_take (i := 12) F rfl rfl hq1 (fun _ ⟨_, _, M'⟩ => r_load1 M' F rfl (by repeat (first | exact List.mem_cons_self | apply List.mem_cons_of_mem)) sca_string (g_Obj_2_i hk48)) (fun _ _ _ h => h) (by kernel_rfl) (by kernel_rfl) (by kernel_rfl) (by kernel_rfl) ?_; clear F a; intro a F
              refine t_one (i := 5) (by kernel_rfl) rfl rfl (o_bslice1s M F slc_Bytes zer_u8 rfl rfl rfl ?_); clear F a; intro a W10 S10 G10 hg10 hl10 hn10 hs10 F
              have M := hg10.st
              have hlit := hg10.tip.rd
              have hlitlen := hl10
              have hle1 := hle1.trans hg10.le
              refine keepAnd (Keeps.mk hle1 M (by repeat (first | exact List.Sublist.refl _ | apply List.Sublist.cons_cons | apply List.Sublist.cons))) (fun hq1 => ?_)
              refine t_one (i := 6) (by kernel_rfl) rfl rfl (o_val F (r_conv_byte1 M.imm F slc_Bytes.und und_u8 und_string rfl hlit) rfl ?_); clear F a; intro a W11 
              have F := W11
              clear W11
              refine keepAnd (Keeps.mk hle1 M (by repeat (first | exact List.Sublist.refl _ | apply List.Sublist.cons_cons | apply List.Sublist.cons))) (fun hq1 => ?_)
              refine t_take (i := 7) F rfl rfl hq1 (fun _ _ => r_add_string F rfl rfl (by simp only [ByteArray.size_append, e1, (show (ByteArray.mk #[UInt8.ofNat (48 + i)]).size = 1 from rfl)]; rw [hf]; omega)) (fun _ _ _ h => h) (by kernel_rfl) (by kernel_rfl) (by kernel_rfl) (by kernel_rfl) ?_; clear F a; intro a F
              refine t_take (i := 8) F rfl rfl hq1 (fun _ _ => r_add_string F rfl rfl (by simp only [ByteArray.size_append, e1, e2, (show (ByteArray.mk #[UInt8.ofNat (48 + i)]).size = 1 from rfl)]; rw [hf]; omega)) (fun _ _ _ h => h) (by kernel_rfl) (by kernel_rfl) (by kernel_rfl) (by kernel_rfl) ?_; clear F a; intro a F
              refine t_take (i := 13) F rfl rfl hq1 (fun _ _ => r_add_string F rfl rfl (by simp only [ByteArray.size_append, e1, e2, (show (ByteArray.mk #[UInt8.ofNat (48 + i)]).size = 1 from rfl)]; rw [hf]; omega)) (fun _ _ _ h => h) (by kernel_rfl) (by kernel_rfl) (by kernel_rfl) (by kernel_rfl) ?_; clear F a; intro a F
              refine t_take (i := 14) F rfl rfl hq1 (fun _ _ => r_assign F rfl) (fun _ _ _ h => h) (by kernel_rfl) (by kernel_rfl) (by kernel_rfl) (by kernel_rfl) ?_; clear F a; intro a F
              refine t_done (by kernel_rfl) ?_ _
              refine hK15 _ _ ?_
              refine wp_region_lit ?_
              refine l_step rfl (o_val F (r_move F rfl) rfl ?_); clear F a; intro a F
              refine l_step rfl (o_val F (r_add_i64 F rfl rfl (by omega)) rfl ?_); clear F a; intro a F
              refine l_step rfl (o_val F (r_assign F rfl) rfl ?_); clear F a; intro a F
              refine l_nil ?_
              exact ⟨3 - (i + 1), by omega, i + 1, _, _, rfl, by omega, (F.cons (F.cons (F.cons (F.cons F.nil 4 rfl) 5 rfl) 6 rfl) 7 rfl), M.drop (by repeat (first | exact List.Sublist.refl _ | apply List.Sublist.cons_cons | apply List.Sublist.cons)), (by rw [pReadK, ← hf]; first | (rw [if_neg (by simpa using g36), ← read_join]; rfl) | (rw [if_pos (by simpa using g36)]; done))⟩
            · skip
              refine wp_skip ?_
              refine hK15 _ _ ?_
              refine wp_region_lit ?_
              refine l_step rfl (o_val F (r_move F rfl) rfl ?_); clear F a; intro a F
              refine l_step rfl (o_val F (r_add_i64 F rfl rfl (by omega)) rfl ?_); clear F a; intro a F
              refine l_step rfl (o_val F (r_assign F rfl) rfl ?_); clear F a; intro a F
              refine l_nil ?_
              exact ⟨3 - (i + 1), by omega, i + 1, _, _, rfl, by omega, (F.cons (F.cons (F.cons (F.cons F.nil 4 rfl) 5 rfl) 6 rfl) 7 rfl), M.drop (by repeat (first | exact List.Sublist.refl _ | apply List.Sublist.cons_cons | apply List.Sublist.cons)), (by rw [pReadK, ← hf]; first | (rw [if_neg (by simpa using g36), ← read_join]; rfl) | (rw [if_pos (by simpa using g36)]; done))⟩
          · skip
            have hge : i = 3 := by have h := of_decide_eq_false g29; omega
            subst hge
            refine wp_exit ?_
            refine hK11 _ _ ?_
            refine c_seq (fun K17 hK17 => ?_)
            refine wp_region_lit ?_
            refine l_step rfl (o_val F (r_move F rfl) rfl ?_); clear F a; intro a F
            refine l_step rfl (o_val F (r_build F rfl (b_Res_1 _)) rfl ?_); clear F a; intro a F
            refine l_step rfl (o_storeA M F rfl rfl agg_Res.size (by repeat (first | exact Upd.here _ _ _ _ _ | apply Upd.there)) (by rfl) (by rfl) (by rfl) ?_); clear F a; intro a W12 M F
            refine l_nil ?_
            refine hK17 _ _ ?_
            refine wp_ret ?_
            exact ret1 Tryd.results21 M F (rv_cell M F rfl (by repeat (first | exact List.mem_cons_self | apply List.mem_cons_of_mem)) agg_Res rfl) (by rw [pRead, if_neg (by simp [hio, hk5]), if_neg (by simpa using g24), ← hf])
end Go.Proofs.YtfkmaepcjognkaaDoor.Pad
