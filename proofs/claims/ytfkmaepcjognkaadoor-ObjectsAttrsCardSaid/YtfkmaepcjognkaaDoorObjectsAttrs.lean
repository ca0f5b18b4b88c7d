/- The walk of ObjectsAttrs: it answers true. The strings are strings, whatever they are. -/
import Derived.Test.YtfkmaepcjognkaaDoorObjectsReads
namespace Go.Proofs.YtfkmaepcjognkaaDoor.Pad
open Go Go.Proofs
set_option linter.unusedVariables false
set_option maxRecDepth 8000
set_option maxHeartbeats 4000000
set_option linter.unusedSimpArgs false
def oa (s : UInt32) (k a : UInt8) (d : ByteArray) : POp := ⟨1, s, k, 3, a, d⟩
abbrev eB : ByteArray := ⟨#[]⟩
abbrev qB : ByteArray := ⟨#[113]⟩
abbrev zB : ByteArray := ⟨#[122]⟩
def aObj (a : UInt8) (y : ByteArray) : PObj := (PObj.mk true qB eB eB eB).setAttr y a.toNat
def aBase (a : UInt8) (y : ByteArray) (s : UInt32) : PBase := { PBase.zero with o3 := aObj a y, l0 := ⟨s, ⟨0, eB⟩⟩ }
def zBase : PBase := { PBase.zero with o3 := ⟨true, zB, eB, eB, eB⟩, l0 := ⟨6, ⟨0, eB⟩⟩ }
theorem fill4 (a b c d : POp) : Instr.fill (fun i => some (i * 6, 6)) ((Array.range (4 * 6)).map ((agg POp.zero.enc).cells[· % (agg POp.zero.enc).cells.size]!)) [(0, agg a.enc), (1, agg b.enc), (2, agg c.enc), (3, agg d.enc)] = some (([a, b, c, d] : List POp).flatMap POp.enc).toArray := by kernel_rfl
theorem fill2 (a b : POp) : Instr.fill (fun i => some (i * 6, 6)) ((Array.range (2 * 6)).map ((agg POp.zero.enc).cells[· % (agg POp.zero.enc).cells.size]!)) [(0, agg a.enc), (1, agg b.enc)] = some (([a, b] : List POp).flatMap POp.enc).toArray := by kernel_rfl
theorem writes_oa {s : UInt32} {a : UInt8} {d : ByteArray} (hs : ¬ s = 0) (hd : ¬ (16 : Int) < (d.size : Int)) : writes (oa s 3 a d) = true := by
  have h1 : ¬ ((1 : UInt8) < 1 ∨ (3 : UInt8) < 1 ∨ s = 0 ∨ (6 : UInt8) ≤ 3 ∨ (16 : Int) < (d.size : Int)) := by
    simp only [hs, hd, or_false, false_or]; decide
  have h2 : isOp (oa s 3 a d) = true := by
    unfold isOp
    rw [if_neg (show ¬ ((oa s 3 a d).client < 1 ∨ 3 < (oa s 3 a d).client ∨ (oa s 3 a d).seq = 0 ∨ 6 ≤ (oa s 3 a d).obj ∨ 16 < ((oa s 3 a d).data.size : Int)) from h1), if_pos (.inr rfl)]
  unfold writes
  rw [h2]
  rfl
theorem oa_last (b : PBase) (s : UInt32) (k a : UInt8) (d : ByteArray) : ((oa s k a d).client - 1).toNat = 0 := by show ((1 : UInt8) - 1).toNat = 0; decide
theorem oa_obj (s : UInt32) (k a : UInt8) (d : ByteArray) : (oa s k a d).obj.toNat = 3 := by show (3 : UInt8).toNat = 3; decide
theorem oa_seen {b : PBase} {s : UInt32} {k a : UInt8} {d : ByteArray} (hl : b.l0.seq < s) : (pSeen b (oa s k a d)).2 = false := by
  unfold pSeen
  rw [oa_last b]
  rw [if_pos (.inr (show (b.last 0).seq < (oa s k a d).seq from hl))]
theorem oa_done (b : PBase) (s : UInt32) (k a : UInt8) (d : ByteArray) : pDone b (oa s k a d) = { b with o3 := (pDoes k b.o3 (oa s k a d)).1, l0 := ⟨s, ⟨(pDoes k b.o3 (oa s k a d)).2, eB⟩⟩ } := by
  unfold pDone
  rw [oa_last b, oa_obj]
  rfl
theorem oa_code (b : PBase) (s : UInt32) (k a : UInt8) (d : ByteArray) : (pDoes (oa s k a d).kind (b.obj (oa s k a d).obj.toNat) (oa s k a d)).2 = (pDoes k b.o3 (oa s k a d)).2 := by
  rw [oa_obj]
  rfl
theorem do_oa {b : PBase} {s : UInt32} {a : UInt8} {d : ByteArray} (ha : a = 0 ∨ a = 1 ∨ a = 2) (hs : ¬ s = 0) (hd : ¬ (16 : Int) < (d.size : Int)) (hl : b.l0.seq < s) :
    pDo b (oa s 3 a d) = if b.o3.there = false then ({ b with l0 := ⟨s, ⟨1, eB⟩⟩ }, ⟨1, eB⟩) else ({ b with o3 := b.o3.setAttr d a.toNat, l0 := ⟨s, ⟨0, eB⟩⟩ }, ⟨0, eB⟩) := by
  have hw := writes_oa (a := a) hs hd
  have hsn : (pSeen b (oa s 3 a d)).2 = false := oa_seen hl
  have h3 : ¬ (3 : UInt8) ≤ a := by rcases ha with rfl | rfl | rfl <;> decide
  have hd3 : pDoes 3 b.o3 (oa s 3 a d) = if b.o3.there = false then (b.o3, 1) else (b.o3.setAttr d a.toNat, 0) := by
    show pAttr b.o3 (oa s 3 a d) = _
    unfold pAttr
    rw [if_neg (show ¬ (3 : UInt8) ≤ (oa s 3 a d).at_ from h3)]
    rfl
  unfold pDo
  rw [if_neg (by simp [hw]), if_neg (by simp [hsn])]
  rw [oa_done, oa_code, hd3]
  split <;> rfl
theorem set_set (x : PObj) (d e : ByteArray) (k : Nat) : (x.setAttr d k).setAttr e k = x.setAttr e k := by
  match k with
  | 0 | 1 | k + 2 => rfl
theorem set_there (x : PObj) (d : ByteArray) (k : Nat) : (x.setAttr d k).there = x.there := by
  match k with
  | 0 | 1 | k + 2 => rfl
theorem get_set (x : PObj) (d : ByteArray) (k : Nat) : (x.setAttr d k).attr k = d := by
  match k with
  | 0 | 1 | k + 2 => rfl
def aOps (a : UInt8) (x y : ByteArray) : List POp := [oa 1 3 a x, oa 2 1 0 qB, oa 3 3 a x, oa 4 3 a y]
def bOps : List POp := [oa 5 4 0 eB, oa 6 1 0 zB]
theorem attrs_all {a : UInt8} {x y : ByteArray} (ha : a = 0 ∨ a = 1 ∨ a = 2) (hx : ¬ (16 : Int) < (x.size : Int)) (hy : ¬ (16 : Int) < (y.size : Int)) : pAllP PBase.zero (aOps a x y) = (aBase a y 4, [⟨1, eB⟩, ⟨0, eB⟩, ⟨0, eB⟩, ⟨0, eB⟩]) := by
  have h1 := do_oa (b := PBase.zero) (s := 1) ha (by decide) hx (by decide)
  rw [if_pos (show PBase.zero.o3.there = false from rfl)] at h1
  have h2 : pDo { PBase.zero with l0 := ⟨1, ⟨1, eB⟩⟩ } (oa 2 1 0 qB) = ({ PBase.zero with o3 := ⟨true, qB, eB, eB, eB⟩, l0 := ⟨2, ⟨0, eB⟩⟩ }, ⟨0, eB⟩) := by decide +kernel
  have h3 := do_oa (b := { PBase.zero with o3 := ⟨true, qB, eB, eB, eB⟩, l0 := ⟨2, ⟨0, eB⟩⟩ }) (s := 3) (d := x) ha (by decide) hx (show (2 : UInt32) < 3 by decide)
  rw [if_neg (by simp)] at h3
  have h4 := do_oa (b := { PBase.zero with o3 := (PObj.mk true qB eB eB eB).setAttr x a.toNat, l0 := ⟨3, ⟨0, eB⟩⟩ }) (s := 4) (d := y) ha (by decide) hy (show (3 : UInt32) < 4 by decide)
  rw [if_neg (by simp [set_there])] at h4
  simp only [set_set] at h4
  simp only [pAllP, aOps, List.foldl, pAllStep, h1, h2, h3, h4, List.nil_append, List.cons_append]
  rfl
theorem rem_all {a : UInt8} {y : ByteArray} : pAllP (aBase a y 4) bOps = (zBase, [⟨0, eB⟩, ⟨0, eB⟩]) := by
  have hw : writes (oa 5 4 0 eB) = true := by decide +kernel
  have hsn : (pSeen (aBase a y 4) (oa 5 4 0 eB)).2 = false := oa_seen (show (4 : UInt32) < 5 by decide)
  have hd4 : pDoes 4 (aObj a y) (oa 5 4 0 eB) = (PObj.zero, 0) := by
    show pRemove (aObj a y) (oa 5 4 0 eB) = _
    unfold pRemove
    rw [if_neg (by simp [aObj, set_there])]
  have h1 : pDo (aBase a y 4) (oa 5 4 0 eB) = ({ PBase.zero with l0 := ⟨5, ⟨0, eB⟩⟩ }, ⟨0, eB⟩) := by
    unfold pDo
    rw [if_neg (by simp [hw]), if_neg (by simp [hsn])]
    rw [oa_done, oa_code, show (aBase a y 4).o3 = aObj a y from rfl, hd4]
    rfl
  have h2 : pDo { PBase.zero with l0 := ⟨5, ⟨0, eB⟩⟩ } (oa 6 1 0 zB) = (zBase, ⟨0, eB⟩) := by decide +kernel
  simp only [pAllP, bOps, List.foldl, pAllStep, h1, h2, List.nil_append, List.cons_append]
def rd2 : POp := ⟨2, 1, 5, 3, 0, eB⟩
def wantA (a : UInt8) (y : ByteArray) : ByteArray := if y = eB then qB else qB ++ ⟨#[59]⟩ ++ ⟨#[48 + a]⟩ ++ ⟨#[61]⟩ ++ y
theorem read_a {a : UInt8} {y : ByteArray} (ha : a = 0 ∨ a = 1 ∨ a = 2) : pRead (aBase a y 4) rd2 = ⟨0, wantA a y⟩ := by
  have h0 : pRead (aBase a y 4) rd2 = ⟨0, pReadK (aObj a y) 3⟩ := by
    unfold pRead
    rw [if_neg (by decide +kernel), show rd2.obj.toNat = 3 from by decide, if_neg (show ¬ ((aBase a y 4).obj 3).there = false from (show ¬ (aObj a y).there = false by simp [aObj, set_there]))]
    rfl
  rw [h0]
  congr 1
  unfold wantA
  by_cases hy : y = eB
  · rw [if_pos hy]
    subst hy
    rcases ha with rfl | rfl | rfl <;> decide +kernel
  · rw [if_neg hy, read_join]
    rcases ha with rfl | rfl | rfl
    · simp only [pReadK]
      rw [if_pos (show (aObj 0 y).attr 2 = ⟨#[]⟩ from rfl), if_pos (show (aObj 0 y).attr 1 = ⟨#[]⟩ from rfl), if_neg (show ¬ (aObj 0 y).attr 0 = ⟨#[]⟩ from hy)]
      rfl
    · simp only [pReadK]
      rw [if_pos (show (aObj 1 y).attr 2 = ⟨#[]⟩ from rfl), if_neg (show ¬ (aObj 1 y).attr 1 = ⟨#[]⟩ from hy), if_pos (show (aObj 1 y).attr 0 = ⟨#[]⟩ from rfl)]
      rfl
    · simp only [pReadK]
      rw [if_neg (show ¬ (aObj 2 y).attr 2 = ⟨#[]⟩ from hy), if_pos (show (aObj 2 y).attr 1 = ⟨#[]⟩ from rfl), if_pos (show (aObj 2 y).attr 0 = ⟨#[]⟩ from rfl)]
      rfl
theorem read_z : pRead zBase rd2 = ⟨0, zB⟩ := by decide +kernel
theorem aBase_attr (a : UInt8) (y : ByteArray) : ((aBase a y 4).obj 3).attr a.toNat = y := get_set _ _ _
theorem mod3 (c : UInt8) : c % 3 = 0 ∨ c % 3 = 1 ∨ c % 3 = 2 := by
  have h : (c % 3).toNat < 3 := by rw [UInt8.toNat_mod]; exact Nat.mod_lt _ (by decide)
  have : (c % 3).toNat = 0 ∨ (c % 3).toNat = 1 ∨ (c % 3).toNat = 2 := by omega
  rcases this with h | h | h
  · exact .inl (UInt8.toNat_inj.1 h)
  · exact .inr (.inl (UInt8.toNat_inj.1 h))
  · exact .inr (.inr (UInt8.toNat_inj.1 h))
theorem aFew {a : UInt8} {x y : ByteArray} (ha : a = 0 ∨ a = 1 ∨ a = 2) (hx : ¬ (16 : Int) < (x.size : Int)) (hy : ¬ (16 : Int) < (y.size : Int)) : Short (aBase a y 4) := by
  have h := short_all (aOps a x y)
  rwa [attrs_all ha hx hy] at h
theorem zShort {a : UInt8} {x y : ByteArray} (ha : a = 0 ∨ a = 1 ∨ a = 2) (hx : ¬ (16 : Int) < (x.size : Int)) (hy : ¬ (16 : Int) < (y.size : Int)) : Short zBase := by
  have h := short_fold bOps (aBase a y 4, []) (aFew ha hx hy)
  have e : (bOps.foldl pAllStep (aBase a y 4, [])).1 = (pAllP (aBase a y 4) bOps).1 := rfl
  rw [e, rem_all] at h
  exact h
theorem b_Attrs : P.built 22 [] = some PObj.zero.encAttr.toArray := by kernel_rfl
theorem zAttrs : (decide ((zBase.obj 3).a0 = PObj.zero.a0) && (decide ((zBase.obj 3).a1 = PObj.zero.a1) && (decide ((zBase.obj 3).a2 = PObj.zero.a2) && true))) = true := by decide +kernel
theorem want_t {u : UInt8} {y : ByteArray} (h : ¬ y = eB) : decide (wantA u y = qB ++ ⟨#[59]⟩ ++ ⟨#[48 + u]⟩ ++ ⟨#[61]⟩ ++ y) = true := decide_eq_true (by rw [wantA, if_neg h])
theorem want_f {u : UInt8} {y : ByteArray} (h : y = eB) : decide (wantA u y = qB) = true := decide_eq_true (by rw [wantA, if_pos h])
theorem c_paddocklaw6_ObjectsAttrs {w : World} {G0 : Ghost} (hI : Imm G0 w) {c : UInt8} {x y : ByteArray} : Ret P 4 [.int .u8 (c.toNat : Int), .string x, .string y] [] w G0 (fun G W v => v = .bool true) := by
  refine enter Tryd.func4 rfl Tryd.ntmps4 rfl rfl hI (fun a F M => ?_)
  have hk58 : (3 : Int).toNat < 6 := by decide
  have hk100 := hk58
  refine c_seq (fun K1 hK1 => ?_)
  refine wp_region_lit ?_
  refine l_step rfl (o_val F (r_assign F rfl) rfl ?_); clear F a; intro a F
  refine l_nil ?_
  refine hK1 _ _ ?_
  refine c_seq (fun K2 hK2 => ?_)
  refine c_seq (fun K3 hK3 => ?_)
  refine wp_region_lit ?_
  refine l_step rfl (o_call M F rfl (c_paddocklaw6_known M.imm) rfl ?_); clear F a; intro a W1 v1 G1 hp1 M E1 F
  subst hp1
  refine l_step rfl (o_val F (r_not F rfl) rfl ?_); clear F a; intro a F
  refine l_nil ?_
  refine hK3 _ _ ?_
  refine c_false F rfl rfl ?_
  refine wp_skip ?_
  refine hK2 _ _ ?_
  refine c_seq (fun K4 hK4 => ?_)
  refine c_seq (fun K5 hK5 => ?_)
  refine wp_region_lit ?_
  refine l_step rfl (o_val F (r_move F rfl) rfl ?_); clear F a; intro a F
  refine l_step rfl (o_val F (r_len_string F und_string rfl) rfl ?_); clear F a; intro a F
  refine l_step rfl (o_val F (r_gtr_i64 F rfl rfl) rfl ?_); clear F a; intro a F
  refine l_step rfl (o_val F (r_move F rfl) rfl ?_); clear F a; intro a F
  refine c_split F (i := 19) rfl (fun g19 => ?_) (fun g19 => ?_)
  · skip
    iterate 3 (refine l_skip F rfl rfl rfl g19 rfl rfl ?_; clear F a; intro a F)
    refine l_step rfl (o_val F (r_pick_t F rfl g19 rfl) rfl ?_); clear F a; intro a F
    refine l_nil ?_
    refine hK5 _ _ ?_
    refine c_true F rfl rfl ?_
    refine c_seq (fun K6 hK6 => ?_)
    refine wp_region_lit ?_
    refine l_step rfl (o_val F (r_assign F rfl) rfl ?_); clear F a; intro a F
    refine l_nil ?_
    refine hK6 _ _ ?_
    refine wp_ret ?_
    exact ret1 Tryd.results4 M F (rv_tmp F rfl) (rfl)
  · skip
    refine l_guard F rfl rfl rfl g19 (o_val F (r_move F rfl) rfl ?_); clear F a; intro a F
    refine l_guard F rfl rfl rfl g19 (o_val F (r_len_string F und_string rfl) rfl ?_); clear F a; intro a F
    refine l_guard F rfl rfl rfl g19 (o_val F (r_gtr_i64 F rfl rfl) rfl ?_); clear F a; intro a F
    refine l_step rfl (o_val F (r_pick_f F rfl g19 rfl) rfl ?_); clear F a; intro a F
    refine l_nil ?_
    refine hK5 _ _ ?_
    refine c_cond F rfl (fun g23 => ?_) (fun g23 => ?_)
    · skip
      refine c_seq (fun K7 hK7 => ?_)
      refine wp_region_lit ?_
      refine l_step rfl (o_val F (r_assign F rfl) rfl ?_); clear F a; intro a F
      refine l_nil ?_
      refine hK7 _ _ ?_
      refine wp_ret ?_
      exact ret1 Tryd.results4 M F (rv_tmp F rfl) (rfl)
    · skip
      refine wp_skip ?_
      refine hK4 _ _ ?_
      refine c_seq (fun K8 hK8 => ?_)
      refine wp_region_lit ?_
      refine l_step rfl (o_val F (r_move F rfl) rfl ?_); clear F a; intro a F
      refine l_step rfl (o_val F (r_rem_u8 (y := 3) F rfl rfl (by decide)) rfl ?_); clear F a; intro a F
      have ha := mod3 c
      generalize c % 3 = u at F ha
      have hk60 : (3 : Int).toNat < 6 ∧ (u.toNat : Int).toNat < 3 := ⟨by decide, by rcases ha with rfl | rfl | rfl <;> decide⟩
      refine l_step rfl (o_val F (r_assign F rfl) rfl ?_); clear F a; intro a F
      refine l_nil ?_
      refine hK8 _ _ ?_
      refine c_seq (fun K9 hK9 => ?_)
      refine wp_region_lit ?_
      have hx := of_decide_eq_false g19
      have hy := of_decide_eq_false g23
      refine l_step rfl (o_val F (r_build F rfl (b_Op_0_1_2_3 2 1 5 3)) rfl ?_); clear F a; intro a F
      refine l_step rfl (o_alloc M F zer_Op rfl ?_); clear F a; intro a W2 b1 M F
      refine l_step rfl (o_storeA M F rfl rfl agg_Op.size (by repeat (first | exact Upd.here _ _ _ _ _ | apply Upd.there)) (by rfl) (by rfl) (by rfl) ?_); clear F a; intro a W3 M F
      refine l_nil ?_
      refine hK9 _ _ ?_
      refine c_seq (fun K10 hK10 => ?_)
      refine wp_region_lit ?_
      refine l_step rfl (o_val F (r_build F rfl b_Base) rfl ?_); clear F a; intro a F
      refine l_step rfl (o_val F (r_move F rfl) rfl ?_); clear F a; intro a F
      refine l_step rfl (o_val F (r_move F rfl) rfl ?_); clear F a; intro a F
      refine l_step rfl (o_call M F rfl (c_paddocklaw6_op (s := 1) (k := 3) (a := u) (d := x) M.imm) rfl ?_); clear F a; intro a W4 v4 G4 hp4 M E4 F
      subst hp4
      refine l_step rfl (o_call M F rfl (c_paddocklaw6_op (s := 2) (k := 1) (a := 0) (d := qB) M.imm) rfl ?_); clear F a; intro a W5 v5 G5 hp5 M E5 F
      subst hp5
      refine l_step rfl (o_val F (r_move F rfl) rfl ?_); clear F a; intro a F
      refine l_step rfl (o_val F (r_move F rfl) rfl ?_); clear F a; intro a F
      refine l_step rfl (o_call M F rfl (c_paddocklaw6_op (s := 3) (k := 3) (a := u) (d := x) M.imm) rfl ?_); clear F a; intro a W6 v6 G6 hp6 M E6 F
      subst hp6
      refine l_step rfl (o_val F (r_move F rfl) rfl ?_); clear F a; intro a F
      refine l_step rfl (o_val F (r_move F rfl) rfl ?_); clear F a; intro a F
      refine l_step rfl (o_call M F rfl (c_paddocklaw6_op (s := 4) (k := 3) (a := u) (d := y) M.imm) rfl ?_); clear F a; intro a W7 v7 G7 hp7 M E7 F
      subst hp7
      refine l_step rfl (o_bslice (cs := (aOps u x y).flatMap POp.enc) M F slc_Ops zer_Op rfl (fill4 _ _ _ _) rfl rfl (by decide) rfl ?_); clear F a; intro a W8 S8 G8 hg8 hl8 hn8 hs8 F
      have M := hg8.st
      have hops : Opl G8 S8 (aOps u x y) := ⟨hg8.tip.rd, hl8, fun x => rfl⟩
      refine l_step rfl (o_call M F rfl (c_objects_All (b := PBase.zero) (ops := aOps u x y) M.imm zero_short.few hops (by simp [aOps])) rfl ?_); clear F a; intro a W9 v9 G9 hp9 M E9 F
      obtain ⟨d1, rfl, hd1⟩ := hp9
      simp only [attrs_all ha hx hy] at F hd1
      have hdl1 : d1.len = 4 := hd1.len
      refine l_step rfl (o_val F (r_move F rfl) rfl ?_); clear F a; intro a F
      refine l_step rfl (o_val F (r_extract F rfl rfl) rfl ?_); clear F a; intro a F
      refine l_step rfl (o_val F (r_extract F rfl rfl) rfl ?_); clear F a; intro a F
      refine l_step rfl (o_alloc M F zer_Base rfl ?_); clear F a; intro a W10 b2 M F
      refine l_step rfl (o_storeA M F rfl rfl agg_Base.size (by repeat (first | exact Upd.here _ _ _ _ _ | apply Upd.there)) (by rfl) (by rfl) (by rfl) ?_); clear F a; intro a W11 M F
      refine l_step rfl (o_val F (r_assign F rfl) rfl ?_); clear F a; intro a F
      refine l_nil ?_
      refine hK10 _ _ ?_
      refine c_seq (fun K11 hK11 => ?_)
      refine c_seq (fun K12 hK12 => ?_)
      refine wp_region_lit ?_
      refine l_step rfl (o_val F (r_move F rfl) rfl ?_); clear F a; intro a F
      obtain ⟨eb, eo, er, ha44, hG44, hS44⟩ := hd1.elem (i := 0) (x := ⟨1, eB⟩) rfl
      refine l_step rfl (o_val F (r_indexSl F rfl rfl slc_Ress ha44 (by omega) (by omega)) rfl ?_); clear F a; intro a F
      refine l_step rfl (o_val F (r_fieldAddr F rfl fld_Res_0) rfl ?_); clear F a; intro a F
      refine l_step rfl (o_val F (r_loadr1 M F rfl hG44 sca_u8 (hS44.get rfl)) rfl ?_); clear F a; intro a F
      refine l_step rfl (o_val F (r_neq_u8 F (y := 1) rfl rfl) rfl ?_); clear F a; intro a F
      refine l_step rfl (o_val F (r_move F rfl) rfl ?_); clear F a; intro a F
      refine l_guard F rfl rfl rfl (by decide) (o_val F (r_move F rfl) rfl ?_); clear F a; intro a F
      obtain ⟨eb, eo, er, ha50, hG50, hS50⟩ := hd1.elem (i := 2) (x := ⟨0, eB⟩) rfl
      refine l_guard F rfl rfl rfl (by decide) (o_val F (r_indexSl F rfl rfl slc_Ress ha50 (by omega) (by omega)) rfl ?_); clear F a; intro a F
      refine l_guard F rfl rfl rfl (by decide) (o_val F (r_fieldAddr F rfl fld_Res_0) rfl ?_); clear F a; intro a F
      refine l_guard F rfl rfl rfl (by decide) (o_val F (r_loadr1 M F rfl hG50 sca_u8 (hS50.get rfl)) rfl ?_); clear F a; intro a F
      refine l_guard F rfl rfl rfl (by decide) (o_val F (r_neq_u8 F (y := 0) rfl rfl) rfl ?_); clear F a; intro a F
      refine l_step rfl (o_val F (r_pick_f F rfl (by decide) rfl) rfl ?_); clear F a; intro a F
      refine l_step rfl (o_val F (r_move F rfl) rfl ?_); clear F a; intro a F
      refine l_guard F rfl rfl rfl (by decide) (o_val F (r_move F rfl) rfl ?_); clear F a; intro a F
      refine l_guard F rfl rfl rfl (by decide) (o_val F (r_fieldAddr F rfl fld_Base_0) rfl ?_); clear F a; intro a F
      refine l_guard F rfl rfl rfl (by decide) (o_val F (r_indexArr F rfl rfl arr_Objs (by omega) (by omega)) rfl ?_); clear F a; intro a F
      refine l_guard F rfl rfl rfl (by decide) (o_val F (r_fieldAddr F rfl fld_Obj_2) rfl ?_); clear F a; intro a F
      refine l_guard F rfl rfl rfl (by decide) (o_val F (r_indexArr F rfl rfl arr_Attrs (by omega) (by omega)) rfl ?_); clear F a; intro a F
      refine l_guard F rfl rfl rfl (by decide) (o_val F (r_load1 M F rfl (by repeat (first | exact List.mem_cons_self | apply List.mem_cons_of_mem)) sca_string (g_Base_0_i_2_i hk60)) rfl ?_); clear F a; intro a F
      refine l_guard F rfl rfl rfl (by decide) (o_val F (r_move F rfl) rfl ?_); clear F a; intro a F
      refine l_guard F rfl rfl rfl (by decide) (o_val F (r_neq_string F rfl rfl) rfl ?_); clear F a; intro a F
      refine l_step rfl (o_val F (r_pick_f F rfl (by decide) rfl) rfl ?_); clear F a; intro a F
      refine l_nil ?_
      refine hK12 _ _ ?_
      refine c_false F rfl (by simp only [Int.toNat_natCast]; simp [aBase_attr]) ?_
      refine wp_skip ?_
      refine hK11 _ _ ?_
      refine c_seq (fun K13 hK13 => ?_)
      refine wp_region_lit ?_
      refine l_step rfl (o_val F (r_assign F rfl) rfl ?_); clear F a; intro a F
      refine l_nil ?_
      refine hK13 _ _ ?_
      refine c_seq (fun K14 hK14 => ?_)
      refine c_seq (fun K15 hK15 => ?_)
      refine wp_region_lit ?_
      refine l_step rfl (o_val F (r_move F rfl) rfl ?_); clear F a; intro a F
      refine l_step rfl (o_val F (r_neq_string F rfl rfl) rfl ?_); clear F a; intro a F
      refine l_nil ?_
      refine hK15 _ _ ?_
      refine c_cond F rfl (fun g66 => ?_) (fun g66 => ?_)
      · skip
        have e0 : qB.size = 1 := rfl
        have e1 : (ByteArray.mk #[59]).size = 1 := rfl
        have e2 : (ByteArray.mk #[61]).size = 1 := rfl
        have e3 : (ByteArray.mk #[48 + u]).size = 1 := rfl
        have hwt := want_t (u := u) (y := y) (by simpa using g66)
        refine wp_region_lit ?_
        refine l_step rfl (o_val F (r_move F rfl) rfl ?_); clear F a; intro a F
        refine l_step rfl (o_val F (r_add_string F rfl rfl (by rw [e0, e1]; omega)) rfl ?_); clear F a; intro a F
        refine l_step rfl (o_val F (r_move F rfl) rfl ?_); clear F a; intro a F
        refine l_step rfl (o_val F (r_add_u8 (x := 48) (y := u) F rfl rfl) rfl ?_); clear F a; intro a F
        refine l_step rfl (o_bslice1s M F slc_Bytes zer_u8 rfl rfl rfl ?_); clear F a; intro a W12 S12 G12 hg12 hl12 hn12 hs12 F
        have M := hg12.st
        have hlit := hg12.tip.rd
        have hlitlen := hl12
        refine l_step rfl (o_val F (r_conv_byte1 M.imm F slc_Bytes.und und_u8 und_string rfl hlit) rfl ?_); clear F a; intro a F
        refine l_step rfl (o_val F (r_add_string F rfl rfl (by simp only [ByteArray.size_append, e0, e1, e2, e3]; omega)) rfl ?_); clear F a; intro a F
        refine l_step rfl (o_val F (r_add_string F rfl rfl (by simp only [ByteArray.size_append, e0, e1, e2, e3]; omega)) rfl ?_); clear F a; intro a F
        refine l_step rfl (o_val F (r_move F rfl) rfl ?_); clear F a; intro a F
        refine l_step rfl (o_val F (r_add_string F rfl rfl (by simp only [ByteArray.size_append, e0, e1, e2, e3]; omega)) rfl ?_); clear F a; intro a F
        refine l_step rfl (o_val F (r_assign F rfl) rfl ?_); clear F a; intro a F
        refine l_nil ?_
        refine hK14 _ _ ?_
        refine c_cut (fun a W => ∃ (G : Ghost) (c12 : Nat) (t : ByteArray) (d2 : Sl), Frm 113 [(11, .string t), (13, d2.v), (12, .pointer (some ⟨c12, 0, none⟩)), (9, .pointer (some ⟨b2, 0, none⟩)), (8, .pointer (some ⟨b1, 0, none⟩))] a ∧ St [] w G0 W [⟨c12, 33, zBase.enc⟩, ⟨b2, 33, (aBase u y 4).enc⟩, ⟨b1, 35, rd2.enc⟩] G ∧ (decide (wantA u y = t) = true ∧ Rsl G d2 [⟨0, eB⟩, ⟨0, eB⟩])) ?_ ?_
        · skip
          refine c_drawM M [] mixed (fun M => ?_)
          have Ms := M
          have hq1 := Keeps.here M
          have hle1 := M.gle
          refine t_take (i := 0) F rfl rfl hq1 (fun _ ⟨_, _, M'⟩ => r_load M' F rfl (by repeat (first | exact List.mem_cons_self | apply List.mem_cons_of_mem)) agg_Base (seg_all rfl)) (fun _ _ _ h => h) (by kernel_rfl) (by kernel_rfl) (by kernel_rfl) (by kernel_rfl) ?_; clear F a; intro a F
          refine t_rdy2 (i := 1) (j := 8) (by kernel_rfl) (w_plain rfl rfl ?_) (w_plain rfl rfl ?_)
          · skip
            refine id (o_call M F rfl (c_paddocklaw6_op (s := 5) (k := 4) (a := 0) (d := eB) M.imm) rfl ?_); clear F a; intro a W13 v13 G13 hp13 M E13 F
            have hlit := hlit.mono E13.gl
            subst hp13
            have hle1 := hle1.trans E13.gl
            refine keepAnd (Keeps.mk hle1 M (by repeat (first | exact List.Sublist.refl _ | apply List.Sublist.cons_cons | apply List.Sublist.cons))) (fun hq1 => ?_)
            refine t_rdy2 (i := 2) (j := 8) (by kernel_rfl) (w_plain rfl rfl ?_) (w_plain rfl rfl ?_)
            · skip
              refine id (o_call M F rfl (c_paddocklaw6_op (s := 6) (k := 1) (a := 0) (d := zB) M.imm) rfl ?_); clear F a; intro a W14 v14 G14 hp14 M E14 F
              have hlit := hlit.mono E14.gl
              subst hp14
              have hle1 := hle1.trans E14.gl
              refine keepAnd (Keeps.mk hle1 M (by repeat (first | exact List.Sublist.refl _ | apply List.Sublist.cons_cons | apply List.Sublist.cons))) (fun hq1 => ?_)
              refine t_rdy2 (i := 3) (j := 8) (by kernel_rfl) (w_plain rfl rfl ?_) (w_plain rfl rfl ?_)
              · skip
                refine id (o_bslice (cs := (bOps).flatMap POp.enc) M F slc_Ops zer_Op rfl (fill2 _ _) rfl rfl (by decide) rfl ?_); clear F a; intro a W15 S15 G15 hg15 hl15 hn15 hs15 F
                have hlit := hlit.mono hg15.le
                have M := hg15.st
                have hops : Opl G15 S15 (bOps) := ⟨hg15.tip.rd, hl15, fun x => rfl⟩
                have hle1 := hle1.trans hg15.le
                refine keepAnd (Keeps.mk hle1 M (by repeat (first | exact List.Sublist.refl _ | apply List.Sublist.cons_cons | apply List.Sublist.cons))) (fun hq1 => ?_)
                refine t_rdy2 (i := 4) (j := 8) (by kernel_rfl) (w_plain rfl rfl ?_) (w_plain rfl rfl ?_)
                · skip
                  refine id (o_call M F rfl (c_objects_All (b := aBase u y 4) (ops := bOps) M.imm (aFew ha hx hy).few hops (by simp [bOps])) rfl ?_); clear F a; intro a W16 v16 G16 hp16 M E16 F
                  have hlit := hlit.mono E16.gl
                  obtain ⟨d2, rfl, hd2⟩ := hp16
                  simp only [rem_all] at F hd2
                  have hdl2 : d2.len = 2 := hd2.len
                  have hle1 := hle1.trans E16.gl
                  refine keepAnd (Keeps.mk hle1 M (by repeat (first | exact List.Sublist.refl _ | apply List.Sublist.cons_cons | apply List.Sublist.cons))) (fun hq1 => ?_)
                  refine t_take (i := 5) F rfl rfl hq1 (fun _ _ => r_move F rfl) (fun _ _ _ h => h) (by kernel_rfl) (by kernel_rfl) (by kernel_rfl) (by kernel_rfl) ?_; clear F a; intro a F
                  refine t_take (i := 6) F rfl rfl hq1 (fun _ _ => r_extract F rfl rfl) (fun _ _ _ h => h) (by kernel_rfl) (by kernel_rfl) (by kernel_rfl) (by kernel_rfl) ?_; clear F a; intro a F
                  refine t_take (i := 7) F rfl rfl hq1 (fun _ _ => r_extract F rfl rfl) (fun _ _ _ h => h) (by kernel_rfl) (by kernel_rfl) (by kernel_rfl) (by kernel_rfl) ?_; clear F a; intro a F
                  refine t_one (i := 8) (by kernel_rfl) rfl rfl (o_alloc M F zer_Base rfl ?_); clear F a; intro a W17 b3 M F
                  refine keepAnd (Keeps.mk hle1 M (by repeat (first | exact List.Sublist.refl _ | apply List.Sublist.cons_cons | apply List.Sublist.cons))) (fun hq1 => ?_)
                  refine t_one (i := 9) (by kernel_rfl) rfl rfl (o_storeA M F rfl rfl agg_Base.size (by repeat (first | exact Upd.here _ _ _ _ _ | apply Upd.there)) (by rfl) (by rfl) (by rfl) ?_); clear F a; intro a W18 M F
                  refine keepAnd (Keeps.mk hle1 M (by repeat (first | exact List.Sublist.refl _ | apply List.Sublist.cons_cons | apply List.Sublist.cons))) (fun hq1 => ?_)
                  refine t_take (i := 10) F rfl rfl hq1 (fun _ _ => r_assign F rfl) (fun _ _ _ h => h) (by kernel_rfl) (by kernel_rfl) (by kernel_rfl) (by kernel_rfl) ?_; clear F a; intro a F
                  refine t_done (by kernel_rfl) ?_ _
                  exact ⟨_, _, _, d2, (F.cons (F.cons (F.cons (F.cons (F.cons F.nil 8 rfl) 9 rfl) 12 rfl) 13 rfl) 11 rfl), M, ⟨hwt, hd2⟩⟩
                · skip
                  refine id (o_alloc M F zer_Base rfl ?_); clear F a; intro a W19 b4 M F
                  refine keepAnd (Keeps.mk hle1 M (by repeat (first | exact List.Sublist.refl _ | apply List.Sublist.cons_cons | apply List.Sublist.cons))) (fun hq1 => ?_)
                  refine t_one (i := 4) (by kernel_rfl) rfl rfl (o_call M F rfl (c_objects_All (b := aBase u y 4) (ops := bOps) M.imm (aFew ha hx hy).few hops (by simp [bOps])) rfl ?_); clear F a; intro a W20 v20 G20 hp20 M E20 F
                  have hlit := hlit.mono E20.gl
                  obtain ⟨d2, rfl, hd2⟩ := hp20
                  simp only [rem_all] at F hd2
                  have hdl2 : d2.len = 2 := hd2.len
                  have hle1 := hle1.trans E20.gl
                  refine keepAnd (Keeps.mk hle1 M (by repeat (first | exact List.Sublist.refl _ | apply List.Sublist.cons_cons | apply List.Sublist.cons))) (fun hq1 => ?_)
                  refine t_take (i := 5) F rfl rfl hq1 (fun _ _ => r_move F rfl) (fun _ _ _ h => h) (by kernel_rfl) (by kernel_rfl) (by kernel_rfl) (by kernel_rfl) ?_; clear F a; intro a F
                  refine t_take (i := 6) F rfl rfl hq1 (fun _ _ => r_extract F rfl rfl) (fun _ _ _ h => h) (by kernel_rfl) (by kernel_rfl) (by kernel_rfl) (by kernel_rfl) ?_; clear F a; intro a F
                  refine t_take (i := 7) F rfl rfl hq1 (fun _ _ => r_extract F rfl rfl) (fun _ _ _ h => h) (by kernel_rfl) (by kernel_rfl) (by kernel_rfl) (by kernel_rfl) ?_; clear F a; intro a F
                  refine t_one (i := 9) (by kernel_rfl) rfl rfl (o_storeA M F rfl rfl agg_Base.size (by repeat (first | exact Upd.here _ _ _ _ _ | apply Upd.there)) (by rfl) (by rfl) (by rfl) ?_); clear F a; intro a W21 M F
                  refine keepAnd (Keeps.mk hle1 M (by repeat (first | exact List.Sublist.refl _ | apply List.Sublist.cons_cons | apply List.Sublist.cons))) (fun hq1 => ?_)
                  refine t_take (i := 10) F rfl rfl hq1 (fun _ _ => r_assign F rfl) (fun _ _ _ h => h) (by kernel_rfl) (by kernel_rfl) (by kernel_rfl) (by kernel_rfl) ?_; clear F a; intro a F
                  refine t_done (by kernel_rfl) ?_ _
                  exact ⟨_, _, _, d2, (F.cons (F.cons (F.cons (F.cons (F.cons F.nil 8 rfl) 9 rfl) 12 rfl) 13 rfl) 11 rfl), M, ⟨hwt, hd2⟩⟩
              · skip
                refine id (o_alloc M F zer_Base rfl ?_); clear F a; intro a W22 b5 M F
                refine keepAnd (Keeps.mk hle1 M (by repeat (first | exact List.Sublist.refl _ | apply List.Sublist.cons_cons | apply List.Sublist.cons))) (fun hq1 => ?_)
                refine t_one (i := 3) (by kernel_rfl) rfl rfl (o_bslice (cs := (bOps).flatMap POp.enc) M F slc_Ops zer_Op rfl (fill2 _ _) rfl rfl (by decide) rfl ?_); clear F a; intro a W23 S23 G23 hg23 hl23 hn23 hs23 F
                have hlit := hlit.mono hg23.le
                have M := hg23.st
                have hops : Opl G23 S23 (bOps) := ⟨hg23.tip.rd, hl23, fun x => rfl⟩
                have hle1 := hle1.trans hg23.le
                refine keepAnd (Keeps.mk hle1 M (by repeat (first | exact List.Sublist.refl _ | apply List.Sublist.cons_cons | apply List.Sublist.cons))) (fun hq1 => ?_)
                refine t_one (i := 4) (by kernel_rfl) rfl rfl (o_call M F rfl (c_objects_All (b := aBase u y 4) (ops := bOps) M.imm (aFew ha hx hy).few hops (by simp [bOps])) rfl ?_); clear F a; intro a W24 v24 G24 hp24 M E24 F
                have hlit := hlit.mono E24.gl
                obtain ⟨d2, rfl, hd2⟩ := hp24
                simp only [rem_all] at F hd2
                have hdl2 : d2.len = 2 := hd2.len
                have hle1 := hle1.trans E24.gl
                refine keepAnd (Keeps.mk hle1 M (by repeat (first | exact List.Sublist.refl _ | apply List.Sublist.cons_cons | apply List.Sublist.cons))) (fun hq1 => ?_)
                refine t_take (i := 5) F rfl rfl hq1 (fun _ _ => r_move F rfl) (fun _ _ _ h => h) (by kernel_rfl) (by kernel_rfl) (by kernel_rfl) (by kernel_rfl) ?_; clear F a; intro a F
                refine t_take (i := 6) F rfl rfl hq1 (fun _ _ => r_extract F rfl rfl) (fun _ _ _ h => h) (by kernel_rfl) (by kernel_rfl) (by kernel_rfl) (by kernel_rfl) ?_; clear F a; intro a F
                refine t_take (i := 7) F rfl rfl hq1 (fun _ _ => r_extract F rfl rfl) (fun _ _ _ h => h) (by kernel_rfl) (by kernel_rfl) (by kernel_rfl) (by kernel_rfl) ?_; clear F a; intro a F
                refine t_one (i := 9) (by kernel_rfl) rfl rfl (o_storeA M F rfl rfl agg_Base.size (by repeat (first | exact Upd.here _ _ _ _ _ | apply Upd.there)) (by rfl) (by rfl) (by rfl) ?_); clear F a; intro a W25 M F
                refine keepAnd (Keeps.mk hle1 M (by repeat (first | exact List.Sublist.refl _ | apply List.Sublist.cons_cons | apply List.Sublist.cons))) (fun hq1 => ?_)
                refine t_take (i := 10) F rfl rfl hq1 (fun _ _ => r_assign F rfl) (fun _ _ _ h => h) (by kernel_rfl) (by kernel_rfl) (by kernel_rfl) (by kernel_rfl) ?_; clear F a; intro a F
                refine t_done (by kernel_rfl) ?_ _
                exact ⟨_, _, _, d2, (F.cons (F.cons (F.cons (F.cons (F.cons F.nil 8 rfl) 9 rfl) 12 rfl) 13 rfl) 11 rfl), M, ⟨hwt, hd2⟩⟩
            · skip
              refine id (o_alloc M F zer_Base rfl ?_); clear F a; intro a W26 b6 M F
              refine keepAnd (Keeps.mk hle1 M (by repeat (first | exact List.Sublist.refl _ | apply List.Sublist.cons_cons | apply List.Sublist.cons))) (fun hq1 => ?_)
              refine t_one (i := 2) (by kernel_rfl) rfl rfl (o_call M F rfl (c_paddocklaw6_op (s := 6) (k := 1) (a := 0) (d := zB) M.imm) rfl ?_); clear F a; intro a W27 v27 G27 hp27 M E27 F
              have hlit := hlit.mono E27.gl
              subst hp27
              have hle1 := hle1.trans E27.gl
              refine keepAnd (Keeps.mk hle1 M (by repeat (first | exact List.Sublist.refl _ | apply List.Sublist.cons_cons | apply List.Sublist.cons))) (fun hq1 => ?_)
              refine t_one (i := 3) (by kernel_rfl) rfl rfl (o_bslice (cs := (bOps).flatMap POp.enc) M F slc_Ops zer_Op rfl (fill2 _ _) rfl rfl (by decide) rfl ?_); clear F a; intro a W28 S28 G28 hg28 hl28 hn28 hs28 F
              have hlit := hlit.mono hg28.le
              have M := hg28.st
              have hops : Opl G28 S28 (bOps) := ⟨hg28.tip.rd, hl28, fun x => rfl⟩
              have hle1 := hle1.trans hg28.le
              refine keepAnd (Keeps.mk hle1 M (by repeat (first | exact List.Sublist.refl _ | apply List.Sublist.cons_cons | apply List.Sublist.cons))) (fun hq1 => ?_)
              refine t_one (i := 4) (by kernel_rfl) rfl rfl (o_call M F rfl (c_objects_All (b := aBase u y 4) (ops := bOps) M.imm (aFew ha hx hy).few hops (by simp [bOps])) rfl ?_); clear F a; intro a W29 v29 G29 hp29 M E29 F
              have hlit := hlit.mono E29.gl
              obtain ⟨d2, rfl, hd2⟩ := hp29
              simp only [rem_all] at F hd2
              have hdl2 : d2.len = 2 := hd2.len
              have hle1 := hle1.trans E29.gl
              refine keepAnd (Keeps.mk hle1 M (by repeat (first | exact List.Sublist.refl _ | apply List.Sublist.cons_cons | apply List.Sublist.cons))) (fun hq1 => ?_)
              refine t_take (i := 5) F rfl rfl hq1 (fun _ _ => r_move F rfl) (fun _ _ _ h => h) (by kernel_rfl) (by kernel_rfl) (by kernel_rfl) (by kernel_rfl) ?_; clear F a; intro a F
              refine t_take (i := 6) F rfl rfl hq1 (fun _ _ => r_extract F rfl rfl) (fun _ _ _ h => h) (by kernel_rfl) (by kernel_rfl) (by kernel_rfl) (by kernel_rfl) ?_; clear F a; intro a F
              refine t_take (i := 7) F rfl rfl hq1 (fun _ _ => r_extract F rfl rfl) (fun _ _ _ h => h) (by kernel_rfl) (by kernel_rfl) (by kernel_rfl) (by kernel_rfl) ?_; clear F a; intro a F
              refine t_one (i := 9) (by kernel_rfl) rfl rfl (o_storeA M F rfl rfl agg_Base.size (by repeat (first | exact Upd.here _ _ _ _ _ | apply Upd.there)) (by rfl) (by rfl) (by rfl) ?_); clear F a; intro a W30 M F
              refine keepAnd (Keeps.mk hle1 M (by repeat (first | exact List.Sublist.refl _ | apply List.Sublist.cons_cons | apply List.Sublist.cons))) (fun hq1 => ?_)
              refine t_take (i := 10) F rfl rfl hq1 (fun _ _ => r_assign F rfl) (fun _ _ _ h => h) (by kernel_rfl) (by kernel_rfl) (by kernel_rfl) (by kernel_rfl) ?_; clear F a; intro a F
              refine t_done (by kernel_rfl) ?_ _
              exact ⟨_, _, _, d2, (F.cons (F.cons (F.cons (F.cons (F.cons F.nil 8 rfl) 9 rfl) 12 rfl) 13 rfl) 11 rfl), M, ⟨hwt, hd2⟩⟩
          · skip
            refine id (o_alloc M F zer_Base rfl ?_); clear F a; intro a W31 b7 M F
            refine keepAnd (Keeps.mk hle1 M (by repeat (first | exact List.Sublist.refl _ | apply List.Sublist.cons_cons | apply List.Sublist.cons))) (fun hq1 => ?_)
            refine t_one (i := 1) (by kernel_rfl) rfl rfl (o_call M F rfl (c_paddocklaw6_op (s := 5) (k := 4) (a := 0) (d := eB) M.imm) rfl ?_); clear F a; intro a W32 v32 G32 hp32 M E32 F
            have hlit := hlit.mono E32.gl
            subst hp32
            have hle1 := hle1.trans E32.gl
            refine keepAnd (Keeps.mk hle1 M (by repeat (first | exact List.Sublist.refl _ | apply List.Sublist.cons_cons | apply List.Sublist.cons))) (fun hq1 => ?_)
            refine t_one (i := 2) (by kernel_rfl) rfl rfl (o_call M F rfl (c_paddocklaw6_op (s := 6) (k := 1) (a := 0) (d := zB) M.imm) rfl ?_); clear F a; intro a W33 v33 G33 hp33 M E33 F
            have hlit := hlit.mono E33.gl
            subst hp33
            have hle1 := hle1.trans E33.gl
            refine keepAnd (Keeps.mk hle1 M (by repeat (first | exact List.Sublist.refl _ | apply List.Sublist.cons_cons | apply List.Sublist.cons))) (fun hq1 => ?_)
            refine t_one (i := 3) (by kernel_rfl) rfl rfl (o_bslice (cs := (bOps).flatMap POp.enc) M F slc_Ops zer_Op rfl (fill2 _ _) rfl rfl (by decide) rfl ?_); clear F a; intro a W34 S34 G34 hg34 hl34 hn34 hs34 F
            have hlit := hlit.mono hg34.le
            have M := hg34.st
            have hops : Opl G34 S34 (bOps) := ⟨hg34.tip.rd, hl34, fun x => rfl⟩
            have hle1 := hle1.trans hg34.le
            refine keepAnd (Keeps.mk hle1 M (by repeat (first | exact List.Sublist.refl _ | apply List.Sublist.cons_cons | apply List.Sublist.cons))) (fun hq1 => ?_)
            refine t_one (i := 4) (by kernel_rfl) rfl rfl (o_call M F rfl (c_objects_All (b := aBase u y 4) (ops := bOps) M.imm (aFew ha hx hy).few hops (by simp [bOps])) rfl ?_); clear F a; intro a W35 v35 G35 hp35 M E35 F
            have hlit := hlit.mono E35.gl
            obtain ⟨d2, rfl, hd2⟩ := hp35
            simp only [rem_all] at F hd2
            have hdl2 : d2.len = 2 := hd2.len
            have hle1 := hle1.trans E35.gl
            refine keepAnd (Keeps.mk hle1 M (by repeat (first | exact List.Sublist.refl _ | apply List.Sublist.cons_cons | apply List.Sublist.cons))) (fun hq1 => ?_)
            refine t_take (i := 5) F rfl rfl hq1 (fun _ _ => r_move F rfl) (fun _ _ _ h => h) (by kernel_rfl) (by kernel_rfl) (by kernel_rfl) (by kernel_rfl) ?_; clear F a; intro a F
            refine t_take (i := 6) F rfl rfl hq1 (fun _ _ => r_extract F rfl rfl) (fun _ _ _ h => h) (by kernel_rfl) (by kernel_rfl) (by kernel_rfl) (by kernel_rfl) ?_; clear F a; intro a F
            refine t_take (i := 7) F rfl rfl hq1 (fun _ _ => r_extract F rfl rfl) (fun _ _ _ h => h) (by kernel_rfl) (by kernel_rfl) (by kernel_rfl) (by kernel_rfl) ?_; clear F a; intro a F
            refine t_one (i := 9) (by kernel_rfl) rfl rfl (o_storeA M F rfl rfl agg_Base.size (by repeat (first | exact Upd.here _ _ _ _ _ | apply Upd.there)) (by rfl) (by rfl) (by rfl) ?_); clear F a; intro a W36 M F
            refine keepAnd (Keeps.mk hle1 M (by repeat (first | exact List.Sublist.refl _ | apply List.Sublist.cons_cons | apply List.Sublist.cons))) (fun hq1 => ?_)
            refine t_take (i := 10) F rfl rfl hq1 (fun _ _ => r_assign F rfl) (fun _ _ _ h => h) (by kernel_rfl) (by kernel_rfl) (by kernel_rfl) (by kernel_rfl) ?_; clear F a; intro a F
            refine t_done (by kernel_rfl) ?_ _
            exact ⟨_, _, _, d2, (F.cons (F.cons (F.cons (F.cons (F.cons F.nil 8 rfl) 9 rfl) 12 rfl) 13 rfl) 11 rfl), M, ⟨hwt, hd2⟩⟩
        · clear F M a; intro a W hI; obtain ⟨G, c12, t, d2, F, M, hf⟩ := hI
          obtain ⟨hwt, hd2⟩ := hf
          have hdl2 : d2.len = 2 := hd2.len
          refine c_seq (fun K16 hK16 => ?_)
          refine wp_region_lit ?_
          refine l_step rfl (o_val F (r_load M F rfl (by repeat (first | exact List.mem_cons_self | apply List.mem_cons_of_mem)) agg_Base (seg_all rfl)) rfl ?_); clear F a; intro a F
          refine l_step rfl (o_val F (r_load M F rfl (by repeat (first | exact List.mem_cons_self | apply List.mem_cons_of_mem)) agg_Op (seg_all rfl)) rfl ?_); clear F a; intro a F
          refine l_step rfl (o_call M F rfl (c_objects_Read (b := aBase u y 4) (o := rd2) M.imm (aFew ha hx hy)) rfl ?_); clear F a; intro a W37 v37 G37 hp37 M E37 F
          have hd2 := hd2.mono E37.gl
          subst hp37
          simp only [read_a ha] at F
          refine l_step rfl (o_val F (r_field1 F rfl fld_Res_1 sca_string rfl) rfl ?_); clear F a; intro a F
          refine l_step rfl (o_val F (r_move F rfl) rfl ?_); clear F a; intro a F
          refine l_step rfl (o_val F (r_eql_string F rfl rfl) rfl ?_); clear F a; intro a F
          refine l_step rfl (o_val F (r_move F rfl) rfl ?_); clear F a; intro a F
          refine l_guard F rfl rfl rfl hwt (o_val F (r_move F rfl) rfl ?_); clear F a; intro a F
          obtain ⟨eb, eo, er, ha93, hG93, hS93⟩ := hd2.elem (i := 0) (x := ⟨0, eB⟩) rfl
          refine l_guard F rfl rfl rfl hwt (o_val F (r_indexSl F rfl rfl slc_Ress ha93 (by omega) (by omega)) rfl ?_); clear F a; intro a F
          refine l_guard F rfl rfl rfl hwt (o_val F (r_fieldAddr F rfl fld_Res_0) rfl ?_); clear F a; intro a F
          refine l_guard F rfl rfl rfl hwt (o_val F (r_loadr1 M F rfl hG93 sca_u8 (hS93.get rfl)) rfl ?_); clear F a; intro a F
          refine l_guard F rfl rfl rfl hwt (o_val F (r_eql_u8 F (y := 0) rfl rfl) rfl ?_); clear F a; intro a F
          refine l_step rfl (o_val F (r_pick_t F rfl hwt rfl) rfl ?_); clear F a; intro a F
          refine l_step rfl (o_val F (r_move F rfl) rfl ?_); clear F a; intro a F
          refine l_guard F rfl rfl rfl (by decide) (o_val F (r_fieldAddr F rfl fld_Base_0) rfl ?_); clear F a; intro a F
          refine l_guard F rfl rfl rfl (by decide) (o_val F (r_indexArr F rfl rfl arr_Objs (by omega) (by omega)) rfl ?_); clear F a; intro a F
          refine l_guard F rfl rfl rfl (by decide) (o_val F (r_fieldAddr F rfl fld_Obj_2) rfl ?_); clear F a; intro a F
          refine l_guard F rfl rfl rfl (by decide) (o_val F (r_load M F rfl (by repeat (first | exact List.mem_cons_self | apply List.mem_cons_of_mem)) agg_Attrs (g_Base_0_i_2 hk100)) rfl ?_); clear F a; intro a F
          refine l_guard F rfl rfl rfl (by decide) (o_val F (r_build F rfl b_Attrs) rfl ?_); clear F a; intro a F
          refine l_guard F rfl rfl rfl (by decide) (o_val F (r_eql_agg F rfl rfl rfl (by kernel_rfl) (eqv_Attrs (x := zBase.obj 3) (y := PObj.zero))) rfl ?_); clear F a; intro a F
          refine l_step rfl (o_val F (r_pick_t F rfl (by decide) rfl) rfl ?_); clear F a; intro a F
          refine l_step rfl (o_val F (r_move F rfl) rfl ?_); clear F a; intro a F
          refine l_guard F rfl rfl rfl zAttrs (o_val F (r_load M F rfl (by repeat (first | exact List.mem_cons_self | apply List.mem_cons_of_mem)) agg_Base (seg_all rfl)) rfl ?_); clear F a; intro a F
          refine l_guard F rfl rfl rfl zAttrs (o_val F (r_load M F rfl (by repeat (first | exact List.mem_cons_self | apply List.mem_cons_of_mem)) agg_Op (seg_all rfl)) rfl ?_); clear F a; intro a F
          refine l_guard F rfl rfl rfl zAttrs (o_call M F rfl (c_objects_Read (b := zBase) (o := rd2) M.imm (zShort ha hx hy)) rfl ?_); clear F a; intro a W38 v38 G38 hp38 M E38 F
          have hd2 := hd2.mono E38.gl
          subst hp38
          simp only [read_z] at F
          refine l_guard F rfl rfl rfl zAttrs (o_val F (r_field1 F rfl fld_Res_1 sca_string rfl) rfl ?_); clear F a; intro a F
          refine l_guard F rfl rfl rfl zAttrs (o_val F (r_eql_string F rfl rfl) rfl ?_); clear F a; intro a F
          refine l_step rfl (o_val F (r_pick_t F rfl zAttrs rfl) rfl ?_); clear F a; intro a F
          refine l_step rfl (o_val F (r_assign F rfl) rfl ?_); clear F a; intro a F
          refine l_nil ?_
          refine hK16 _ _ ?_
          refine wp_ret ?_
          exact ret1 Tryd.results4 M F (rv_tmp F rfl) ((congrArg Value.bool (by decide +kernel)))
      · skip
        have hwt := want_f (u := u) (y := y) (by simpa using g66)
        refine wp_skip ?_
        refine hK14 _ _ ?_
        refine c_cut (fun a W => ∃ (G : Ghost) (c12 : Nat) (t : ByteArray) (d2 : Sl), Frm 113 [(11, .string t), (13, d2.v), (12, .pointer (some ⟨c12, 0, none⟩)), (9, .pointer (some ⟨b2, 0, none⟩)), (8, .pointer (some ⟨b1, 0, none⟩))] a ∧ St [] w G0 W [⟨c12, 33, zBase.enc⟩, ⟨b2, 33, (aBase u y 4).enc⟩, ⟨b1, 35, rd2.enc⟩] G ∧ (decide (wantA u y = t) = true ∧ Rsl G d2 [⟨0, eB⟩, ⟨0, eB⟩])) ?_ ?_
        · skip
          refine c_drawM M [] mixed (fun M => ?_)
          have Ms := M
          have hq2 := Keeps.here M
          have hle2 := M.gle
          refine t_take (i := 0) F rfl rfl hq2 (fun _ ⟨_, _, M'⟩ => r_load M' F rfl (by repeat (first | exact List.mem_cons_self | apply List.mem_cons_of_mem)) agg_Base (seg_all rfl)) (fun _ _ _ h => h) (by kernel_rfl) (by kernel_rfl) (by kernel_rfl) (by kernel_rfl) ?_; clear F a; intro a F
          refine t_rdy2 (i := 1) (j := 8) (by kernel_rfl) (w_plain rfl rfl ?_) (w_plain rfl rfl ?_)
          · skip
            refine id (o_call M F rfl (c_paddocklaw6_op (s := 5) (k := 4) (a := 0) (d := eB) M.imm) rfl ?_); clear F a; intro a W39 v39 G39 hp39 M E39 F
            subst hp39
            have hle2 := hle2.trans E39.gl
            refine keepAnd (Keeps.mk hle2 M (by repeat (first | exact List.Sublist.refl _ | apply List.Sublist.cons_cons | apply List.Sublist.cons))) (fun hq2 => ?_)
            refine t_rdy2 (i := 2) (j := 8) (by kernel_rfl) (w_plain rfl rfl ?_) (w_plain rfl rfl ?_)
            · skip
              refine id (o_call M F rfl (c_paddocklaw6_op (s := 6) (k := 1) (a := 0) (d := zB) M.imm) rfl ?_); clear F a; intro a W40 v40 G40 hp40 M E40 F
              subst hp40
              have hle2 := hle2.trans E40.gl
              refine keepAnd (Keeps.mk hle2 M (by repeat (first | exact List.Sublist.refl _ | apply List.Sublist.cons_cons | apply List.Sublist.cons))) (fun hq2 => ?_)
              refine t_rdy2 (i := 3) (j := 8) (by kernel_rfl) (w_plain rfl rfl ?_) (w_plain rfl rfl ?_)
              · skip
                refine id (o_bslice (cs := (bOps).flatMap POp.enc) M F slc_Ops zer_Op rfl (fill2 _ _) rfl rfl (by decide) rfl ?_); clear F a; intro a W41 S41 G41 hg41 hl41 hn41 hs41 F
                have M := hg41.st
                have hops : Opl G41 S41 (bOps) := ⟨hg41.tip.rd, hl41, fun x => rfl⟩
                have hle2 := hle2.trans hg41.le
                refine keepAnd (Keeps.mk hle2 M (by repeat (first | exact List.Sublist.refl _ | apply List.Sublist.cons_cons | apply List.Sublist.cons))) (fun hq2 => ?_)
                refine t_rdy2 (i := 4) (j := 8) (by kernel_rfl) (w_plain rfl rfl ?_) (w_plain rfl rfl ?_)
                · skip
                  refine id (o_call M F rfl (c_objects_All (b := aBase u y 4) (ops := bOps) M.imm (aFew ha hx hy).few hops (by simp [bOps])) rfl ?_); clear F a; intro a W42 v42 G42 hp42 M E42 F
                  obtain ⟨d2, rfl, hd2⟩ := hp42
                  simp only [rem_all] at F hd2
                  have hdl2 : d2.len = 2 := hd2.len
                  have hle2 := hle2.trans E42.gl
                  refine keepAnd (Keeps.mk hle2 M (by repeat (first | exact List.Sublist.refl _ | apply List.Sublist.cons_cons | apply List.Sublist.cons))) (fun hq2 => ?_)
                  refine t_take (i := 5) F rfl rfl hq2 (fun _ _ => r_move F rfl) (fun _ _ _ h => h) (by kernel_rfl) (by kernel_rfl) (by kernel_rfl) (by kernel_rfl) ?_; clear F a; intro a F
                  refine t_take (i := 6) F rfl rfl hq2 (fun _ _ => r_extract F rfl rfl) (fun _ _ _ h => h) (by kernel_rfl) (by kernel_rfl) (by kernel_rfl) (by kernel_rfl) ?_; clear F a; intro a F
                  refine t_take (i := 7) F rfl rfl hq2 (fun _ _ => r_extract F rfl rfl) (fun _ _ _ h => h) (by kernel_rfl) (by kernel_rfl) (by kernel_rfl) (by kernel_rfl) ?_; clear F a; intro a F
                  refine t_one (i := 8) (by kernel_rfl) rfl rfl (o_alloc M F zer_Base rfl ?_); clear F a; intro a W43 b8 M F
                  refine keepAnd (Keeps.mk hle2 M (by repeat (first | exact List.Sublist.refl _ | apply List.Sublist.cons_cons | apply List.Sublist.cons))) (fun hq2 => ?_)
                  refine t_one (i := 9) (by kernel_rfl) rfl rfl (o_storeA M F rfl rfl agg_Base.size (by repeat (first | exact Upd.here _ _ _ _ _ | apply Upd.there)) (by rfl) (by rfl) (by rfl) ?_); clear F a; intro a W44 M F
                  refine keepAnd (Keeps.mk hle2 M (by repeat (first | exact List.Sublist.refl _ | apply List.Sublist.cons_cons | apply List.Sublist.cons))) (fun hq2 => ?_)
                  refine t_take (i := 10) F rfl rfl hq2 (fun _ _ => r_assign F rfl) (fun _ _ _ h => h) (by kernel_rfl) (by kernel_rfl) (by kernel_rfl) (by kernel_rfl) ?_; clear F a; intro a F
                  refine t_done (by kernel_rfl) ?_ _
                  exact ⟨_, _, _, d2, (F.cons (F.cons (F.cons (F.cons (F.cons F.nil 8 rfl) 9 rfl) 12 rfl) 13 rfl) 11 rfl), M, ⟨hwt, hd2⟩⟩
                · skip
                  refine id (o_alloc M F zer_Base rfl ?_); clear F a; intro a W45 b9 M F
                  refine keepAnd (Keeps.mk hle2 M (by repeat (first | exact List.Sublist.refl _ | apply List.Sublist.cons_cons | apply List.Sublist.cons))) (fun hq2 => ?_)
                  refine t_one (i := 4) (by kernel_rfl) rfl rfl (o_call M F rfl (c_objects_All (b := aBase u y 4) (ops := bOps) M.imm (aFew ha hx hy).few hops (by simp [bOps])) rfl ?_); clear F a; intro a W46 v46 G46 hp46 M E46 F
                  obtain ⟨d2, rfl, hd2⟩ := hp46
                  simp only [rem_all] at F hd2
                  have hdl2 : d2.len = 2 := hd2.len
                  have hle2 := hle2.trans E46.gl
                  refine keepAnd (Keeps.mk hle2 M (by repeat (first | exact List.Sublist.refl _ | apply List.Sublist.cons_cons | apply List.Sublist.cons))) (fun hq2 => ?_)
                  refine t_take (i := 5) F rfl rfl hq2 (fun _ _ => r_move F rfl) (fun _ _ _ h => h) (by kernel_rfl) (by kernel_rfl) (by kernel_rfl) (by kernel_rfl) ?_; clear F a; intro a F
                  refine t_take (i := 6) F rfl rfl hq2 (fun _ _ => r_extract F rfl rfl) (fun _ _ _ h => h) (by kernel_rfl) (by kernel_rfl) (by kernel_rfl) (by kernel_rfl) ?_; clear F a; intro a F
                  refine t_take (i := 7) F rfl rfl hq2 (fun _ _ => r_extract F rfl rfl) (fun _ _ _ h => h) (by kernel_rfl) (by kernel_rfl) (by kernel_rfl) (by kernel_rfl) ?_; clear F a; intro a F
                  refine t_one (i := 9) (by kernel_rfl) rfl rfl (o_storeA M F rfl rfl agg_Base.size (by repeat (first | exact Upd.here _ _ _ _ _ | apply Upd.there)) (by rfl) (by rfl) (by rfl) ?_); clear F a; intro a W47 M F
                  refine keepAnd (Keeps.mk hle2 M (by repeat (first | exact List.Sublist.refl _ | apply List.Sublist.cons_cons | apply List.Sublist.cons))) (fun hq2 => ?_)
                  refine t_take (i := 10) F rfl rfl hq2 (fun _ _ => r_assign F rfl) (fun _ _ _ h => h) (by kernel_rfl) (by kernel_rfl) (by kernel_rfl) (by kernel_rfl) ?_; clear F a; intro a F
                  refine t_done (by kernel_rfl) ?_ _
                  exact ⟨_, _, _, d2, (F.cons (F.cons (F.cons (F.cons (F.cons F.nil 8 rfl) 9 rfl) 12 rfl) 13 rfl) 11 rfl), M, ⟨hwt, hd2⟩⟩
              · skip
                refine id (o_alloc M F zer_Base rfl ?_); clear F a; intro a W48 b10 M F
                refine keepAnd (Keeps.mk hle2 M (by repeat (first | exact List.Sublist.refl _ | apply List.Sublist.cons_cons | apply List.Sublist.cons))) (fun hq2 => ?_)
                refine t_one (i := 3) (by kernel_rfl) rfl rfl (o_bslice (cs := (bOps).flatMap POp.enc) M F slc_Ops zer_Op rfl (fill2 _ _) rfl rfl (by decide) rfl ?_); clear F a; intro a W49 S49 G49 hg49 hl49 hn49 hs49 F
                have M := hg49.st
                have hops : Opl G49 S49 (bOps) := ⟨hg49.tip.rd, hl49, fun x => rfl⟩
                have hle2 := hle2.trans hg49.le
                refine keepAnd (Keeps.mk hle2 M (by repeat (first | exact List.Sublist.refl _ | apply List.Sublist.cons_cons | apply List.Sublist.cons))) (fun hq2 => ?_)
                refine t_one (i := 4) (by kernel_rfl) rfl rfl (o_call M F rfl (c_objects_All (b := aBase u y 4) (ops := bOps) M.imm (aFew ha hx hy).few hops (by simp [bOps])) rfl ?_); clear F a; intro a W50 v50 G50 hp50 M E50 F
                obtain ⟨d2, rfl, hd2⟩ := hp50
                simp only [rem_all] at F hd2
                have hdl2 : d2.len = 2 := hd2.len
                have hle2 := hle2.trans E50.gl
                refine keepAnd (Keeps.mk hle2 M (by repeat (first | exact List.Sublist.refl _ | apply List.Sublist.cons_cons | apply List.Sublist.cons))) (fun hq2 => ?_)
                refine t_take (i := 5) F rfl rfl hq2 (fun _ _ => r_move F rfl) (fun _ _ _ h => h) (by kernel_rfl) (by kernel_rfl) (by kernel_rfl) (by kernel_rfl) ?_; clear F a; intro a F
                refine t_take (i := 6) F rfl rfl hq2 (fun _ _ => r_extract F rfl rfl) (fun _ _ _ h => h) (by kernel_rfl) (by kernel_rfl) (by kernel_rfl) (by kernel_rfl) ?_; clear F a; intro a F
                refine t_take (i := 7) F rfl rfl hq2 (fun _ _ => r_extract F rfl rfl) (fun _ _ _ h => h) (by kernel_rfl) (by kernel_rfl) (by kernel_rfl) (by kernel_rfl) ?_; clear F a; intro a F
                refine t_one (i := 9) (by kernel_rfl) rfl rfl (o_storeA M F rfl rfl agg_Base.size (by repeat (first | exact Upd.here _ _ _ _ _ | apply Upd.there)) (by rfl) (by rfl) (by rfl) ?_); clear F a; intro a W51 M F
                refine keepAnd (Keeps.mk hle2 M (by repeat (first | exact List.Sublist.refl _ | apply List.Sublist.cons_cons | apply List.Sublist.cons))) (fun hq2 => ?_)
                refine t_take (i := 10) F rfl rfl hq2 (fun _ _ => r_assign F rfl) (fun _ _ _ h => h) (by kernel_rfl) (by kernel_rfl) (by kernel_rfl) (by kernel_rfl) ?_; clear F a; intro a F
                refine t_done (by kernel_rfl) ?_ _
                exact ⟨_, _, _, d2, (F.cons (F.cons (F.cons (F.cons (F.cons F.nil 8 rfl) 9 rfl) 12 rfl) 13 rfl) 11 rfl), M, ⟨hwt, hd2⟩⟩
            · skip
              refine id (o_alloc M F zer_Base rfl ?_); clear F a; intro a W52 b11 M F
              refine keepAnd (Keeps.mk hle2 M (by repeat (first | exact List.Sublist.refl _ | apply List.Sublist.cons_cons | apply List.Sublist.cons))) (fun hq2 => ?_)
              refine t_one (i := 2) (by kernel_rfl) rfl rfl (o_call M F rfl (c_paddocklaw6_op (s := 6) (k := 1) (a := 0) (d := zB) M.imm) rfl ?_); clear F a; intro a W53 v53 G53 hp53 M E53 F
              subst hp53
              have hle2 := hle2.trans E53.gl
              refine keepAnd (Keeps.mk hle2 M (by repeat (first | exact List.Sublist.refl _ | apply List.Sublist.cons_cons | apply List.Sublist.cons))) (fun hq2 => ?_)
              refine t_one (i := 3) (by kernel_rfl) rfl rfl (o_bslice (cs := (bOps).flatMap POp.enc) M F slc_Ops zer_Op rfl (fill2 _ _) rfl rfl (by decide) rfl ?_); clear F a; intro a W54 S54 G54 hg54 hl54 hn54 hs54 F
              have M := hg54.st
              have hops : Opl G54 S54 (bOps) := ⟨hg54.tip.rd, hl54, fun x => rfl⟩
              have hle2 := hle2.trans hg54.le
              refine keepAnd (Keeps.mk hle2 M (by repeat (first | exact List.Sublist.refl _ | apply List.Sublist.cons_cons | apply List.Sublist.cons))) (fun hq2 => ?_)
              refine t_one (i := 4) (by kernel_rfl) rfl rfl (o_call M F rfl (c_objects_All (b := aBase u y 4) (ops := bOps) M.imm (aFew ha hx hy).few hops (by simp [bOps])) rfl ?_); clear F a; intro a W55 v55 G55 hp55 M E55 F
              obtain ⟨d2, rfl, hd2⟩ := hp55
              simp only [rem_all] at F hd2
              have hdl2 : d2.len = 2 := hd2.len
              have hle2 := hle2.trans E55.gl
              refine keepAnd (Keeps.mk hle2 M (by repeat (first | exact List.Sublist.refl _ | apply List.Sublist.cons_cons | apply List.Sublist.cons))) (fun hq2 => ?_)
              refine t_take (i := 5) F rfl rfl hq2 (fun _ _ => r_move F rfl) (fun _ _ _ h => h) (by kernel_rfl) (by kernel_rfl) (by kernel_rfl) (by kernel_rfl) ?_; clear F a; intro a F
              refine t_take (i := 6) F rfl rfl hq2 (fun _ _ => r_extract F rfl rfl) (fun _ _ _ h => h) (by kernel_rfl) (by kernel_rfl) (by kernel_rfl) (by kernel_rfl) ?_; clear F a; intro a F
              refine t_take (i := 7) F rfl rfl hq2 (fun _ _ => r_extract F rfl rfl) (fun _ _ _ h => h) (by kernel_rfl) (by kernel_rfl) (by kernel_rfl) (by kernel_rfl) ?_; clear F a; intro a F
              refine t_one (i := 9) (by kernel_rfl) rfl rfl (o_storeA M F rfl rfl agg_Base.size (by repeat (first | exact Upd.here _ _ _ _ _ | apply Upd.there)) (by rfl) (by rfl) (by rfl) ?_); clear F a; intro a W56 M F
              refine keepAnd (Keeps.mk hle2 M (by repeat (first | exact List.Sublist.refl _ | apply List.Sublist.cons_cons | apply List.Sublist.cons))) (fun hq2 => ?_)
              refine t_take (i := 10) F rfl rfl hq2 (fun _ _ => r_assign F rfl) (fun _ _ _ h => h) (by kernel_rfl) (by kernel_rfl) (by kernel_rfl) (by kernel_rfl) ?_; clear F a; intro a F
              refine t_done (by kernel_rfl) ?_ _
              exact ⟨_, _, _, d2, (F.cons (F.cons (F.cons (F.cons (F.cons F.nil 8 rfl) 9 rfl) 12 rfl) 13 rfl) 11 rfl), M, ⟨hwt, hd2⟩⟩
          · skip
            refine id (o_alloc M F zer_Base rfl ?_); clear F a; intro a W57 b12 M F
            refine keepAnd (Keeps.mk hle2 M (by repeat (first | exact List.Sublist.refl _ | apply List.Sublist.cons_cons | apply List.Sublist.cons))) (fun hq2 => ?_)
            refine t_one (i := 1) (by kernel_rfl) rfl rfl (o_call M F rfl (c_paddocklaw6_op (s := 5) (k := 4) (a := 0) (d := eB) M.imm) rfl ?_); clear F a; intro a W58 v58 G58 hp58 M E58 F
            subst hp58
            have hle2 := hle2.trans E58.gl
            refine keepAnd (Keeps.mk hle2 M (by repeat (first | exact List.Sublist.refl _ | apply List.Sublist.cons_cons | apply List.Sublist.cons))) (fun hq2 => ?_)
            refine t_one (i := 2) (by kernel_rfl) rfl rfl (o_call M F rfl (c_paddocklaw6_op (s := 6) (k := 1) (a := 0) (d := zB) M.imm) rfl ?_); clear F a; intro a W59 v59 G59 hp59 M E59 F
            subst hp59
            have hle2 := hle2.trans E59.gl
            refine keepAnd (Keeps.mk hle2 M (by repeat (first | exact List.Sublist.refl _ | apply List.Sublist.cons_cons | apply List.Sublist.cons))) (fun hq2 => ?_)
            refine t_one (i := 3) (by kernel_rfl) rfl rfl (o_bslice (cs := (bOps).flatMap POp.enc) M F slc_Ops zer_Op rfl (fill2 _ _) rfl rfl (by decide) rfl ?_); clear F a; intro a W60 S60 G60 hg60 hl60 hn60 hs60 F
            have M := hg60.st
            have hops : Opl G60 S60 (bOps) := ⟨hg60.tip.rd, hl60, fun x => rfl⟩
            have hle2 := hle2.trans hg60.le
            refine keepAnd (Keeps.mk hle2 M (by repeat (first | exact List.Sublist.refl _ | apply List.Sublist.cons_cons | apply List.Sublist.cons))) (fun hq2 => ?_)
            refine t_one (i := 4) (by kernel_rfl) rfl rfl (o_call M F rfl (c_objects_All (b := aBase u y 4) (ops := bOps) M.imm (aFew ha hx hy).few hops (by simp [bOps])) rfl ?_); clear F a; intro a W61 v61 G61 hp61 M E61 F
            obtain ⟨d2, rfl, hd2⟩ := hp61
            simp only [rem_all] at F hd2
            have hdl2 : d2.len = 2 := hd2.len
            have hle2 := hle2.trans E61.gl
            refine keepAnd (Keeps.mk hle2 M (by repeat (first | exact List.Sublist.refl _ | apply List.Sublist.cons_cons | apply List.Sublist.cons))) (fun hq2 => ?_)
            refine t_take (i := 5) F rfl rfl hq2 (fun _ _ => r_move F rfl) (fun _ _ _ h => h) (by kernel_rfl) (by kernel_rfl) (by kernel_rfl) (by kernel_rfl) ?_; clear F a; intro a F
            refine t_take (i := 6) F rfl rfl hq2 (fun _ _ => r_extract F rfl rfl) (fun _ _ _ h => h) (by kernel_rfl) (by kernel_rfl) (by kernel_rfl) (by kernel_rfl) ?_; clear F a; intro a F
            refine t_take (i := 7) F rfl rfl hq2 (fun _ _ => r_extract F rfl rfl) (fun _ _ _ h => h) (by kernel_rfl) (by kernel_rfl) (by kernel_rfl) (by kernel_rfl) ?_; clear F a; intro a F
            refine t_one (i := 9) (by kernel_rfl) rfl rfl (o_storeA M F rfl rfl agg_Base.size (by repeat (first | exact Upd.here _ _ _ _ _ | apply Upd.there)) (by rfl) (by rfl) (by rfl) ?_); clear F a; intro a W62 M F
            refine keepAnd (Keeps.mk hle2 M (by repeat (first | exact List.Sublist.refl _ | apply List.Sublist.cons_cons | apply List.Sublist.cons))) (fun hq2 => ?_)
            refine t_take (i := 10) F rfl rfl hq2 (fun _ _ => r_assign F rfl) (fun _ _ _ h => h) (by kernel_rfl) (by kernel_rfl) (by kernel_rfl) (by kernel_rfl) ?_; clear F a; intro a F
            refine t_done (by kernel_rfl) ?_ _
            exact ⟨_, _, _, d2, (F.cons (F.cons (F.cons (F.cons (F.cons F.nil 8 rfl) 9 rfl) 12 rfl) 13 rfl) 11 rfl), M, ⟨hwt, hd2⟩⟩
        · clear F M a; intro a W hI; obtain ⟨G, c12, t, d2, F, M, hf⟩ := hI
          obtain ⟨hwt, hd2⟩ := hf
          have hdl2 : d2.len = 2 := hd2.len
          refine c_seq (fun K17 hK17 => ?_)
          refine wp_region_lit ?_
          refine l_step rfl (o_val F (r_load M F rfl (by repeat (first | exact List.mem_cons_self | apply List.mem_cons_of_mem)) agg_Base (seg_all rfl)) rfl ?_); clear F a; intro a F
          refine l_step rfl (o_val F (r_load M F rfl (by repeat (first | exact List.mem_cons_self | apply List.mem_cons_of_mem)) agg_Op (seg_all rfl)) rfl ?_); clear F a; intro a F
          refine l_step rfl (o_call M F rfl (c_objects_Read (b := aBase u y 4) (o := rd2) M.imm (aFew ha hx hy)) rfl ?_); clear F a; intro a W63 v63 G63 hp63 M E63 F
          have hd2 := hd2.mono E63.gl
          subst hp63
          simp only [read_a ha] at F
          refine l_step rfl (o_val F (r_field1 F rfl fld_Res_1 sca_string rfl) rfl ?_); clear F a; intro a F
          refine l_step rfl (o_val F (r_move F rfl) rfl ?_); clear F a; intro a F
          refine l_step rfl (o_val F (r_eql_string F rfl rfl) rfl ?_); clear F a; intro a F
          refine l_step rfl (o_val F (r_move F rfl) rfl ?_); clear F a; intro a F
          refine l_guard F rfl rfl rfl hwt (o_val F (r_move F rfl) rfl ?_); clear F a; intro a F
          obtain ⟨eb, eo, er, ha93, hG93, hS93⟩ := hd2.elem (i := 0) (x := ⟨0, eB⟩) rfl
          refine l_guard F rfl rfl rfl hwt (o_val F (r_indexSl F rfl rfl slc_Ress ha93 (by omega) (by omega)) rfl ?_); clear F a; intro a F
          refine l_guard F rfl rfl rfl hwt (o_val F (r_fieldAddr F rfl fld_Res_0) rfl ?_); clear F a; intro a F
          refine l_guard F rfl rfl rfl hwt (o_val F (r_loadr1 M F rfl hG93 sca_u8 (hS93.get rfl)) rfl ?_); clear F a; intro a F
          refine l_guard F rfl rfl rfl hwt (o_val F (r_eql_u8 F (y := 0) rfl rfl) rfl ?_); clear F a; intro a F
          refine l_step rfl (o_val F (r_pick_t F rfl hwt rfl) rfl ?_); clear F a; intro a F
          refine l_step rfl (o_val F (r_move F rfl) rfl ?_); clear F a; intro a F
          refine l_guard F rfl rfl rfl (by decide) (o_val F (r_fieldAddr F rfl fld_Base_0) rfl ?_); clear F a; intro a F
          refine l_guard F rfl rfl rfl (by decide) (o_val F (r_indexArr F rfl rfl arr_Objs (by omega) (by omega)) rfl ?_); clear F a; intro a F
          refine l_guard F rfl rfl rfl (by decide) (o_val F (r_fieldAddr F rfl fld_Obj_2) rfl ?_); clear F a; intro a F
          refine l_guard F rfl rfl rfl (by decide) (o_val F (r_load M F rfl (by repeat (first | exact List.mem_cons_self | apply List.mem_cons_of_mem)) agg_Attrs (g_Base_0_i_2 hk100)) rfl ?_); clear F a; intro a F
          refine l_guard F rfl rfl rfl (by decide) (o_val F (r_build F rfl b_Attrs) rfl ?_); clear F a; intro a F
          refine l_guard F rfl rfl rfl (by decide) (o_val F (r_eql_agg F rfl rfl rfl (by kernel_rfl) (eqv_Attrs (x := zBase.obj 3) (y := PObj.zero))) rfl ?_); clear F a; intro a F
          refine l_step rfl (o_val F (r_pick_t F rfl (by decide) rfl) rfl ?_); clear F a; intro a F
          refine l_step rfl (o_val F (r_move F rfl) rfl ?_); clear F a; intro a F
          refine l_guard F rfl rfl rfl zAttrs (o_val F (r_load M F rfl (by repeat (first | exact List.mem_cons_self | apply List.mem_cons_of_mem)) agg_Base (seg_all rfl)) rfl ?_); clear F a; intro a F
          refine l_guard F rfl rfl rfl zAttrs (o_val F (r_load M F rfl (by repeat (first | exact List.mem_cons_self | apply List.mem_cons_of_mem)) agg_Op (seg_all rfl)) rfl ?_); clear F a; intro a F
          refine l_guard F rfl rfl rfl zAttrs (o_call M F rfl (c_objects_Read (b := zBase) (o := rd2) M.imm (zShort ha hx hy)) rfl ?_); clear F a; intro a W64 v64 G64 hp64 M E64 F
          have hd2 := hd2.mono E64.gl
          subst hp64
          simp only [read_z] at F
          refine l_guard F rfl rfl rfl zAttrs (o_val F (r_field1 F rfl fld_Res_1 sca_string rfl) rfl ?_); clear F a; intro a F
          refine l_guard F rfl rfl rfl zAttrs (o_val F (r_eql_string F rfl rfl) rfl ?_); clear F a; intro a F
          refine l_step rfl (o_val F (r_pick_t F rfl zAttrs rfl) rfl ?_); clear F a; intro a F
          refine l_step rfl (o_val F (r_assign F rfl) rfl ?_); clear F a; intro a F
          refine l_nil ?_
          refine hK17 _ _ ?_
          refine wp_ret ?_
          exact ret1 Tryd.results4 M F (rv_tmp F rfl) ((congrArg Value.bool (by decide +kernel)))
end Go.Proofs.YtfkmaepcjognkaaDoor.Pad
