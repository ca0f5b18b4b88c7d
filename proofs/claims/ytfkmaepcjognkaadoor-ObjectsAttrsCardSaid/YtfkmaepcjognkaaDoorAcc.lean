/- What a box holds at a place, and behind a store; what is built; '==' of the program's structs. No condition. -/
import Derived.Test.YtfkmaepcjognkaaDoorTypes
import Derived.Test.YtfkmaepcjognkaaDoorEq
namespace Go.Proofs.YtfkmaepcjognkaaDoor.Pad
open Go Go.Proofs
theorem seg_all {cs : List Value} {k : Nat} (h : cs.length = k) : Seg cs 0 k cs := ⟨by simp [← h], h⟩
theorem p_all {cs vs : List Value} (h : cs.length = vs.length) : over cs 0 vs = vs := by simp [over, h]
theorem und_string : P.underlying 9 = some .string := Tryd.underlying9
theorem und_bool : P.underlying 4 = some .bool := Tryd.underlying4
theorem und_u8 : P.underlying 5 = some (.int .u8) := Tryd.underlying5
theorem und_u32 : P.underlying 26 = some (.int .u32) := Tryd.underlying26
theorem und_int : P.underlying 3 = some (.int .i64) := Tryd.underlying3

theorem g_Obj_2 {s : PObj} : Seg s.enc 2 3 s.encAttr := ⟨rfl, rfl⟩
theorem g_Last_1 {s : PLast} : Seg s.enc 1 2 s.r.enc := ⟨rfl, rfl⟩
theorem g_Base_0 {s : PBase} : Seg s.enc 0 30 s.encObjs := ⟨rfl, rfl⟩
theorem g_Base_1 {s : PBase} : Seg s.enc 30 9 s.encLasts := ⟨rfl, rfl⟩
theorem g_Entry_2 {s : PEntry} : Seg s.enc 2 6 s.op.enc := ⟨rfl, rfl⟩
theorem g_State_1 {s : GState} : Seg s.enc 1 39 s.base.enc := ⟨rfl, rfl⟩
theorem g_State_1_0 {s : GState} : Seg s.enc 1 30 s.base.encObjs := ⟨rfl, rfl⟩
theorem g_State_1_1 {s : GState} : Seg s.enc 31 9 s.base.encLasts := ⟨rfl, rfl⟩
theorem g_State_2 {s : GState} : Seg s.enc 40 8 s.tail.enc := ⟨rfl, rfl⟩
theorem g_State_2_2 {s : GState} : Seg s.enc 42 6 s.tail.op.enc := ⟨rfl, rfl⟩
theorem g_Base_0_i {s : PBase} {k : Nat} (h : k < 6) : Seg s.enc (0 + k * 5) 5 ((s.obj k).enc) := match k, h with | 0, _ => ⟨rfl, rfl⟩ | 1, _ => ⟨rfl, rfl⟩ | 2, _ => ⟨rfl, rfl⟩ | 3, _ => ⟨rfl, rfl⟩ | 4, _ => ⟨rfl, rfl⟩ | 5, _ => ⟨rfl, rfl⟩ | k + 6, h => absurd h (by omega)
theorem g_Base_0_i_0 {s : PBase} {k : Nat} (h : k < 6) : s.enc[0 + k * 5 + 0]? = some (.bool (s.obj k).there) := match k, h with | 0, _ => rfl | 1, _ => rfl | 2, _ => rfl | 3, _ => rfl | 4, _ => rfl | 5, _ => rfl | k + 6, h => absurd h (by omega)
theorem g_Base_0_i_1 {s : PBase} {k : Nat} (h : k < 6) : s.enc[0 + k * 5 + 1]? = some (.string (s.obj k).data) := match k, h with | 0, _ => rfl | 1, _ => rfl | 2, _ => rfl | 3, _ => rfl | 4, _ => rfl | 5, _ => rfl | k + 6, h => absurd h (by omega)
theorem g_Base_0_i_2 {s : PBase} {k : Nat} (h : k < 6) : Seg s.enc (0 + k * 5 + 2) 3 ((s.obj k).encAttr) := match k, h with | 0, _ => ⟨rfl, rfl⟩ | 1, _ => ⟨rfl, rfl⟩ | 2, _ => ⟨rfl, rfl⟩ | 3, _ => ⟨rfl, rfl⟩ | 4, _ => ⟨rfl, rfl⟩ | 5, _ => ⟨rfl, rfl⟩ | k + 6, h => absurd h (by omega)
theorem g_State_1_0_i {s : GState} {k : Nat} (h : k < 6) : Seg s.enc (1 + k * 5) 5 ((s.base.obj k).enc) := match k, h with | 0, _ => ⟨rfl, rfl⟩ | 1, _ => ⟨rfl, rfl⟩ | 2, _ => ⟨rfl, rfl⟩ | 3, _ => ⟨rfl, rfl⟩ | 4, _ => ⟨rfl, rfl⟩ | 5, _ => ⟨rfl, rfl⟩ | k + 6, h => absurd h (by omega)
theorem g_State_1_0_i_0 {s : GState} {k : Nat} (h : k < 6) : s.enc[1 + k * 5 + 0]? = some (.bool (s.base.obj k).there) := match k, h with | 0, _ => rfl | 1, _ => rfl | 2, _ => rfl | 3, _ => rfl | 4, _ => rfl | 5, _ => rfl | k + 6, h => absurd h (by omega)
theorem g_State_1_0_i_1 {s : GState} {k : Nat} (h : k < 6) : s.enc[1 + k * 5 + 1]? = some (.string (s.base.obj k).data) := match k, h with | 0, _ => rfl | 1, _ => rfl | 2, _ => rfl | 3, _ => rfl | 4, _ => rfl | 5, _ => rfl | k + 6, h => absurd h (by omega)
theorem g_State_1_0_i_2 {s : GState} {k : Nat} (h : k < 6) : Seg s.enc (1 + k * 5 + 2) 3 ((s.base.obj k).encAttr) := match k, h with | 0, _ => ⟨rfl, rfl⟩ | 1, _ => ⟨rfl, rfl⟩ | 2, _ => ⟨rfl, rfl⟩ | 3, _ => ⟨rfl, rfl⟩ | 4, _ => ⟨rfl, rfl⟩ | 5, _ => ⟨rfl, rfl⟩ | k + 6, h => absurd h (by omega)
theorem g_Base_1_i {s : PBase} {k : Nat} (h : k < 3) : Seg s.enc (30 + k * 3) 3 ((s.last k).enc) := match k, h with | 0, _ => ⟨rfl, rfl⟩ | 1, _ => ⟨rfl, rfl⟩ | 2, _ => ⟨rfl, rfl⟩ | k + 3, h => absurd h (by omega)
theorem g_Base_1_i_0 {s : PBase} {k : Nat} (h : k < 3) : s.enc[30 + k * 3 + 0]? = some (.int .u32 ((s.last k).seq.toNat : Int)) := match k, h with | 0, _ => rfl | 1, _ => rfl | 2, _ => rfl | k + 3, h => absurd h (by omega)
theorem g_Base_1_i_1 {s : PBase} {k : Nat} (h : k < 3) : Seg s.enc (30 + k * 3 + 1) 2 ((s.last k).r.enc) := match k, h with | 0, _ => ⟨rfl, rfl⟩ | 1, _ => ⟨rfl, rfl⟩ | 2, _ => ⟨rfl, rfl⟩ | k + 3, h => absurd h (by omega)
theorem g_Base_1_i_1_0 {s : PBase} {k : Nat} (h : k < 3) : s.enc[30 + k * 3 + 1 + 0]? = some (.int .u8 ((s.last k).r.code.toNat : Int)) := match k, h with | 0, _ => rfl | 1, _ => rfl | 2, _ => rfl | k + 3, h => absurd h (by omega)
theorem g_Base_1_i_1_1 {s : PBase} {k : Nat} (h : k < 3) : s.enc[30 + k * 3 + 1 + 1]? = some (.string (s.last k).r.data) := match k, h with | 0, _ => rfl | 1, _ => rfl | 2, _ => rfl | k + 3, h => absurd h (by omega)
theorem g_Obj_2_i {s : PObj} {k : Nat} (h : k < 3) : s.enc[2 + k * 1]? = some (.string (s.attr k)) := match k, h with | 0, _ => rfl | 1, _ => rfl | 2, _ => rfl | k + 3, h => absurd h (by omega)
theorem e_Objs {s : PBase} {k : Nat} (h : k < 6) : Seg s.encObjs (k * 5) 5 (s.obj k).enc := match k, h with | 0, _ => ⟨rfl, rfl⟩ | 1, _ => ⟨rfl, rfl⟩ | 2, _ => ⟨rfl, rfl⟩ | 3, _ => ⟨rfl, rfl⟩ | 4, _ => ⟨rfl, rfl⟩ | 5, _ => ⟨rfl, rfl⟩ | k + 6, h => absurd h (by omega)
theorem e_Lasts {s : PBase} {k : Nat} (h : k < 3) : Seg s.encLasts (k * 3) 3 (s.last k).enc := match k, h with | 0, _ => ⟨rfl, rfl⟩ | 1, _ => ⟨rfl, rfl⟩ | 2, _ => ⟨rfl, rfl⟩ | k + 3, h => absurd h (by omega)
theorem e_Attrs {s : PObj} {k : Nat} (h : k < 3) : s.encAttr[k]? = some (.string (s.attr k)) := match k, h with | 0, _ => rfl | 1, _ => rfl | 2, _ => rfl | k + 3, h => absurd h (by omega)
theorem p_Op_0 {s : POp} {x : UInt8} : s.enc.set 0 (.int .u8 (x.toNat : Int)) = POp.enc { s with client := x } := rfl
theorem p_Op_1 {s : POp} {x : UInt32} : s.enc.set 1 (.int .u32 (x.toNat : Int)) = POp.enc { s with seq := x } := rfl
theorem p_Op_2 {s : POp} {x : UInt8} : s.enc.set 2 (.int .u8 (x.toNat : Int)) = POp.enc { s with kind := x } := rfl
theorem p_Op_3 {s : POp} {x : UInt8} : s.enc.set 3 (.int .u8 (x.toNat : Int)) = POp.enc { s with obj := x } := rfl
theorem p_Op_4 {s : POp} {x : UInt8} : s.enc.set 4 (.int .u8 (x.toNat : Int)) = POp.enc { s with at_ := x } := rfl
theorem p_Op_5 {s : POp} {x : ByteArray} : s.enc.set 5 (.string x) = POp.enc { s with data := x } := rfl
theorem p_Obj_0 {s : PObj} {x : Bool} : s.enc.set 0 (.bool x) = PObj.enc { s with there := x } := rfl
theorem p_Obj_1 {s : PObj} {x : ByteArray} : s.enc.set 1 (.string x) = PObj.enc { s with data := x } := rfl
theorem p_Res_0 {s : PRes} {x : UInt8} : s.enc.set 0 (.int .u8 (x.toNat : Int)) = PRes.enc { s with code := x } := rfl
theorem p_Res_1 {s : PRes} {x : ByteArray} : s.enc.set 1 (.string x) = PRes.enc { s with data := x } := rfl
theorem p_Last_0 {s : PLast} {x : UInt32} : s.enc.set 0 (.int .u32 (x.toNat : Int)) = PLast.enc { s with seq := x } := rfl
theorem p_Last_1 {s : PLast} {x : PRes} : over s.enc 1 x.enc = PLast.enc { s with r := x } := rfl
theorem p_Entry_0 {s : PEntry} {x : UInt32} : s.enc.set 0 (.int .u32 (x.toNat : Int)) = PEntry.enc { s with since := x } := rfl
theorem p_Entry_1 {s : PEntry} {x : UInt32} : s.enc.set 1 (.int .u32 (x.toNat : Int)) = PEntry.enc { s with n := x } := rfl
theorem p_Entry_2 {s : PEntry} {x : POp} : over s.enc 2 x.enc = PEntry.enc { s with op := x } := rfl
theorem p_State_0 {s : GState} {x : UInt32} : s.enc.set 0 (.int .u32 (x.toNat : Int)) = GState.enc { s with started := x } := rfl
theorem p_State_1 {s : GState} {x : PBase} : over s.enc 1 x.enc = GState.enc { s with base := x } := rfl
theorem p_State_2 {s : GState} {x : PEntry} : over s.enc 40 x.enc = GState.enc { s with tail := x } := rfl
theorem p_State_3 {s : GState} {x : Sl} : s.enc.set 48 (Sl.v x) = GState.enc { s with log := x } := rfl
theorem p_Base_0_i {s : PBase} {x : PObj} {k : Nat} (h : k < 6) : over s.enc (0 + k * 5) x.enc = (s.setObj x k).enc := match k, h with | 0, _ => rfl | 1, _ => rfl | 2, _ => rfl | 3, _ => rfl | 4, _ => rfl | 5, _ => rfl | k + 6, h => absurd h (by omega)
theorem p_Base_1_i {s : PBase} {x : PLast} {k : Nat} (h : k < 3) : over s.enc (30 + k * 3) x.enc = (s.setLast x k).enc := match k, h with | 0, _ => rfl | 1, _ => rfl | 2, _ => rfl | k + 3, h => absurd h (by omega)
theorem p_Obj_2_i {s : PObj} {x : ByteArray} {k : Nat} (h : k < 3) : s.enc.set (2 + k * 1) (.string x) = (s.setAttr x k).enc := match k, h with | 0, _ => rfl | 1, _ => rfl | 2, _ => rfl | k + 3, h => absurd h (by omega)
theorem b_Op  : P.built 35 [] = some (⟨0, 0, 0, 0, 0, ⟨#[]⟩⟩ : POp).enc.toArray := by kernel_rfl
theorem b_Op_0_1_2 (x0 : UInt8) (x1 : UInt32) (x2 : UInt8) : P.built 35 [(0, (.int .u8 (x0.toNat : Int))), (1, (.int .u32 (x1.toNat : Int))), (2, (.int .u8 (x2.toNat : Int)))] = some (⟨x0, x1, x2, 0, 0, ⟨#[]⟩⟩ : POp).enc.toArray := by kernel_rfl
theorem b_Op_0_1_2_3 (x0 : UInt8) (x1 : UInt32) (x2 : UInt8) (x3 : UInt8) : P.built 35 [(0, (.int .u8 (x0.toNat : Int))), (1, (.int .u32 (x1.toNat : Int))), (2, (.int .u8 (x2.toNat : Int))), (3, (.int .u8 (x3.toNat : Int)))] = some (⟨x0, x1, x2, x3, 0, ⟨#[]⟩⟩ : POp).enc.toArray := by kernel_rfl
theorem b_Op_0_1_2_3_4_5 (x0 : UInt8) (x1 : UInt32) (x2 : UInt8) (x3 : UInt8) (x4 : UInt8) (x5 : ByteArray) : P.built 35 [(0, (.int .u8 (x0.toNat : Int))), (1, (.int .u32 (x1.toNat : Int))), (2, (.int .u8 (x2.toNat : Int))), (3, (.int .u8 (x3.toNat : Int))), (4, (.int .u8 (x4.toNat : Int))), (5, (.string x5))] = some (⟨x0, x1, x2, x3, x4, x5⟩ : POp).enc.toArray := by kernel_rfl
theorem b_Op_0_1_2_3_5 (x0 : UInt8) (x1 : UInt32) (x2 : UInt8) (x3 : UInt8) (x5 : ByteArray) : P.built 35 [(0, (.int .u8 (x0.toNat : Int))), (1, (.int .u32 (x1.toNat : Int))), (2, (.int .u8 (x2.toNat : Int))), (3, (.int .u8 (x3.toNat : Int))), (5, (.string x5))] = some (⟨x0, x1, x2, x3, 0, x5⟩ : POp).enc.toArray := by kernel_rfl
theorem b_Op_0_1_2_4_5 (x0 : UInt8) (x1 : UInt32) (x2 : UInt8) (x4 : UInt8) (x5 : ByteArray) : P.built 35 [(0, (.int .u8 (x0.toNat : Int))), (1, (.int .u32 (x1.toNat : Int))), (2, (.int .u8 (x2.toNat : Int))), (4, (.int .u8 (x4.toNat : Int))), (5, (.string x5))] = some (⟨x0, x1, x2, 0, x4, x5⟩ : POp).enc.toArray := by kernel_rfl
theorem b_Op_0_1_2_5 (x0 : UInt8) (x1 : UInt32) (x2 : UInt8) (x5 : ByteArray) : P.built 35 [(0, (.int .u8 (x0.toNat : Int))), (1, (.int .u32 (x1.toNat : Int))), (2, (.int .u8 (x2.toNat : Int))), (5, (.string x5))] = some (⟨x0, x1, x2, 0, 0, x5⟩ : POp).enc.toArray := by kernel_rfl
theorem b_Entry  : P.built 59 [] = some (⟨0, 0, POp.zero⟩ : PEntry).enc.toArray := by kernel_rfl
theorem b_Entry_0_1 (x0 : UInt32) (x1 : UInt32) : P.built 59 [(0, (.int .u32 (x0.toNat : Int))), (1, (.int .u32 (x1.toNat : Int)))] = some (⟨x0, x1, POp.zero⟩ : PEntry).enc.toArray := by kernel_rfl
theorem b_Entry_0_1_2 (x0 : UInt32) (x1 : UInt32) (x2 : POp) : P.built 59 [(0, (.int .u32 (x0.toNat : Int))), (1, (.int .u32 (x1.toNat : Int))), (2, agg x2.enc)] = some (⟨x0, x1, x2⟩ : PEntry).enc.toArray := by kernel_rfl
theorem b_Entry_1 (x1 : UInt32) : P.built 59 [(1, (.int .u32 (x1.toNat : Int)))] = some (⟨0, x1, POp.zero⟩ : PEntry).enc.toArray := by kernel_rfl
theorem b_Res  : P.built 28 [] = some (⟨0, ⟨#[]⟩⟩ : PRes).enc.toArray := by kernel_rfl
theorem b_Res_0 (x0 : UInt8) : P.built 28 [(0, (.int .u8 (x0.toNat : Int)))] = some (⟨x0, ⟨#[]⟩⟩ : PRes).enc.toArray := by kernel_rfl
theorem b_Res_1 (x1 : ByteArray) : P.built 28 [(1, (.string x1))] = some (⟨0, x1⟩ : PRes).enc.toArray := by kernel_rfl
theorem b_Last  : P.built 30 [] = some (⟨0, PRes.zero⟩ : PLast).enc.toArray := by kernel_rfl
theorem b_Last_0_1 (x0 : UInt32) (x1 : PRes) : P.built 30 [(0, (.int .u32 (x0.toNat : Int))), (1, agg x1.enc)] = some (⟨x0, x1⟩ : PLast).enc.toArray := by kernel_rfl
theorem b_Base  : P.built 33 [] = some PBase.zero.enc.toArray := by kernel_rfl
theorem b_Obj  : P.built 24 [] = some PObj.zero.enc.toArray := by kernel_rfl
theorem b_State  : P.built 61 [] = some (⟨0, PBase.zero, PEntry.zero, Sl.nil⟩ : GState).enc.toArray := by kernel_rfl
theorem b_State_0_2 (x0 : UInt32) (x2 : PEntry) : P.built 61 [(0, (.int .u32 (x0.toNat : Int))), (2, agg x2.enc)] = some (⟨x0, PBase.zero, x2, Sl.nil⟩ : GState).enc.toArray := by kernel_rfl
theorem b_State_0_3 (x0 : UInt32) (x3 : Sl) : P.built 61 [(0, (.int .u32 (x0.toNat : Int))), (3, (Sl.v x3))] = some (⟨x0, PBase.zero, PEntry.zero, x3⟩ : GState).enc.toArray := by kernel_rfl
theorem b_State_0 (x0 : UInt32) : P.built 61 [(0, (.int .u32 (x0.toNat : Int)))] = some (⟨x0, PBase.zero, PEntry.zero, Sl.nil⟩ : GState).enc.toArray := by kernel_rfl
theorem b_State_2 (x2 : PEntry) : P.built 61 [(2, agg x2.enc)] = some (⟨0, PBase.zero, x2, Sl.nil⟩ : GState).enc.toArray := by kernel_rfl
theorem b_State_3 (x3 : Sl) : P.built 61 [(3, (Sl.v x3))] = some (⟨0, PBase.zero, PEntry.zero, x3⟩ : GState).enc.toArray := by kernel_rfl
theorem eqv_Attrs {x y : PObj} : EqV P 22 2 (agg x.encAttr) (agg y.encAttr) (decide (x.a0 = y.a0) && (decide (x.a1 = y.a1) && (decide (x.a2 = y.a2) && true))) := EqV.array arr_Attrs (EqI.cons1 sca_string rfl rfl (eqv_string und_string) (EqI.cons1 sca_string rfl rfl (eqv_string und_string) (EqI.cons1 sca_string rfl rfl (eqv_string und_string) EqI.nil)))
theorem eqv_Op {x y : POp} : EqV P 35 2 (agg x.enc) (agg y.enc) (decide (x = y)) := by
  have h := EqV.struct (xs := x.enc) (ys := y.enc) Tryd.underlying35 (by kernel_rfl) (EqF.cons1 rfl sca_u8 rfl rfl ((eqv_u8 und_u8).up 0) (EqF.cons1 rfl sca_u32 rfl rfl ((eqv_u32 und_u32).up 0) (EqF.cons1 rfl sca_u8 rfl rfl ((eqv_u8 und_u8).up 0) (EqF.cons1 rfl sca_u8 rfl rfl ((eqv_u8 und_u8).up 0) (EqF.cons1 rfl sca_u8 rfl rfl ((eqv_u8 und_u8).up 0) (EqF.cons1 rfl sca_string rfl rfl ((eqv_string und_string).up 0) EqF.nil))))))
  refine cast (congrArg _ ?_) h
  cases x; cases y; rw [Bool.eq_iff_iff]; simp
theorem eqv_Obj {x y : PObj} : EqV P 24 3 (agg x.enc) (agg y.enc) (decide (x = y)) := by
  have h := EqV.struct (xs := x.enc) (ys := y.enc) Tryd.underlying24 (by kernel_rfl) (EqF.cons1 rfl sca_bool rfl rfl ((eqv_bool und_bool).up 1) (EqF.cons1 rfl sca_string rfl rfl ((eqv_string und_string).up 1) (EqF.cons rfl agg_Attrs g_Obj_2 g_Obj_2 (eqv_Attrs.up 0) EqF.nil)))
  refine cast (congrArg _ ?_) h
  cases x; cases y; rw [Bool.eq_iff_iff]; simp
theorem eqv_Res {x y : PRes} : EqV P 28 2 (agg x.enc) (agg y.enc) (decide (x = y)) := by
  have h := EqV.struct (xs := x.enc) (ys := y.enc) Tryd.underlying28 (by kernel_rfl) (EqF.cons1 rfl sca_u8 rfl rfl ((eqv_u8 und_u8).up 0) (EqF.cons1 rfl sca_string rfl rfl ((eqv_string und_string).up 0) EqF.nil))
  refine cast (congrArg _ ?_) h
  cases x; cases y; rw [Bool.eq_iff_iff]; simp
theorem eqv_Last {x y : PLast} : EqV P 30 3 (agg x.enc) (agg y.enc) (decide (x = y)) := by
  have h := EqV.struct (xs := x.enc) (ys := y.enc) Tryd.underlying30 (by kernel_rfl) (EqF.cons1 rfl sca_u32 rfl rfl ((eqv_u32 und_u32).up 1) (EqF.cons rfl agg_Res g_Last_1 g_Last_1 (eqv_Res.up 0) EqF.nil))
  refine cast (congrArg _ ?_) h
  cases x; cases y; rw [Bool.eq_iff_iff]; simp
theorem eqv_Entry {x y : PEntry} : EqV P 59 3 (agg x.enc) (agg y.enc) (decide (x = y)) := by
  have h := EqV.struct (xs := x.enc) (ys := y.enc) Tryd.underlying59 (by kernel_rfl) (EqF.cons1 rfl sca_u32 rfl rfl ((eqv_u32 und_u32).up 1) (EqF.cons1 rfl sca_u32 rfl rfl ((eqv_u32 und_u32).up 1) (EqF.cons rfl agg_Op g_Entry_2 g_Entry_2 (eqv_Op.up 0) EqF.nil)))
  refine cast (congrArg _ ?_) h
  cases x; cases y; rw [Bool.eq_iff_iff]; simp
theorem eqv_Objs {x y : PBase} : EqV P 25 4 (agg x.encObjs) (agg y.encObjs) (decide (x.o0 = y.o0) && (decide (x.o1 = y.o1) && (decide (x.o2 = y.o2) && (decide (x.o3 = y.o3) && (decide (x.o4 = y.o4) && (decide (x.o5 = y.o5) && (true))))))) := EqV.array arr_Objs (EqI.cons agg_Obj (us := x.o0.enc) (vs := y.o0.enc) ⟨rfl, rfl⟩ ⟨rfl, rfl⟩ eqv_Obj (EqI.cons agg_Obj (us := x.o1.enc) (vs := y.o1.enc) ⟨rfl, rfl⟩ ⟨rfl, rfl⟩ eqv_Obj (EqI.cons agg_Obj (us := x.o2.enc) (vs := y.o2.enc) ⟨rfl, rfl⟩ ⟨rfl, rfl⟩ eqv_Obj (EqI.cons agg_Obj (us := x.o3.enc) (vs := y.o3.enc) ⟨rfl, rfl⟩ ⟨rfl, rfl⟩ eqv_Obj (EqI.cons agg_Obj (us := x.o4.enc) (vs := y.o4.enc) ⟨rfl, rfl⟩ ⟨rfl, rfl⟩ eqv_Obj (EqI.cons agg_Obj (us := x.o5.enc) (vs := y.o5.enc) ⟨rfl, rfl⟩ ⟨rfl, rfl⟩ eqv_Obj EqI.nil))))))
theorem eqv_Lasts {x y : PBase} : EqV P 31 4 (agg x.encLasts) (agg y.encLasts) (decide (x.l0 = y.l0) && (decide (x.l1 = y.l1) && (decide (x.l2 = y.l2) && (true)))) := EqV.array arr_Lasts (EqI.cons agg_Last (us := x.l0.enc) (vs := y.l0.enc) ⟨rfl, rfl⟩ ⟨rfl, rfl⟩ eqv_Last (EqI.cons agg_Last (us := x.l1.enc) (vs := y.l1.enc) ⟨rfl, rfl⟩ ⟨rfl, rfl⟩ eqv_Last (EqI.cons agg_Last (us := x.l2.enc) (vs := y.l2.enc) ⟨rfl, rfl⟩ ⟨rfl, rfl⟩ eqv_Last EqI.nil)))
theorem eqv_Base {x y : PBase} : EqV P 33 5 (agg x.enc) (agg y.enc) (decide (x = y)) := by
  have h := EqV.struct (xs := x.enc) (ys := y.enc) Tryd.underlying33 (by kernel_rfl) (EqF.cons rfl agg_Objs g_Base_0 g_Base_0 (eqv_Objs.up 0) (EqF.cons rfl agg_Lasts g_Base_1 g_Base_1 (eqv_Lasts.up 0) EqF.nil))
  refine cast (congrArg _ ?_) h
  cases x; cases y; rw [Bool.eq_iff_iff]; simp [and_assoc]
section
variable {n : Nat} {l : Env} {a : Act} {W : World} {dst : Option Nat} {ty : TypeId} {ps : String} {af : Array Edge} {g : Option (Nat × Bool)} {T' : TypeId} {X Y : Operand}
theorem r_eql_Op (F : Frm n l a) {x y : POp} (hx : ev l X = some (agg x.enc)) (hy : ev l Y = some (agg y.enc)) : Run P ⟨dst, .binOp .eql 35 X Y T', ty, ps, af, g⟩ a W (.bool (decide (x = y))) W := r_eql_agg F hx hy rfl (by kernel_rfl) eqv_Op
theorem r_neq_Op (F : Frm n l a) {x y : POp} (hx : ev l X = some (agg x.enc)) (hy : ev l Y = some (agg y.enc)) : Run P ⟨dst, .binOp .neq 35 X Y T', ty, ps, af, g⟩ a W (.bool (!decide (x = y))) W := r_neq_agg F hx hy rfl (by kernel_rfl) eqv_Op
theorem r_eql_Obj (F : Frm n l a) {x y : PObj} (hx : ev l X = some (agg x.enc)) (hy : ev l Y = some (agg y.enc)) : Run P ⟨dst, .binOp .eql 24 X Y T', ty, ps, af, g⟩ a W (.bool (decide (x = y))) W := r_eql_agg F hx hy rfl (by kernel_rfl) eqv_Obj
theorem r_neq_Obj (F : Frm n l a) {x y : PObj} (hx : ev l X = some (agg x.enc)) (hy : ev l Y = some (agg y.enc)) : Run P ⟨dst, .binOp .neq 24 X Y T', ty, ps, af, g⟩ a W (.bool (!decide (x = y))) W := r_neq_agg F hx hy rfl (by kernel_rfl) eqv_Obj
theorem r_eql_Res (F : Frm n l a) {x y : PRes} (hx : ev l X = some (agg x.enc)) (hy : ev l Y = some (agg y.enc)) : Run P ⟨dst, .binOp .eql 28 X Y T', ty, ps, af, g⟩ a W (.bool (decide (x = y))) W := r_eql_agg F hx hy rfl (by kernel_rfl) eqv_Res
theorem r_neq_Res (F : Frm n l a) {x y : PRes} (hx : ev l X = some (agg x.enc)) (hy : ev l Y = some (agg y.enc)) : Run P ⟨dst, .binOp .neq 28 X Y T', ty, ps, af, g⟩ a W (.bool (!decide (x = y))) W := r_neq_agg F hx hy rfl (by kernel_rfl) eqv_Res
theorem r_eql_Last (F : Frm n l a) {x y : PLast} (hx : ev l X = some (agg x.enc)) (hy : ev l Y = some (agg y.enc)) : Run P ⟨dst, .binOp .eql 30 X Y T', ty, ps, af, g⟩ a W (.bool (decide (x = y))) W := r_eql_agg F hx hy rfl (by kernel_rfl) eqv_Last
theorem r_neq_Last (F : Frm n l a) {x y : PLast} (hx : ev l X = some (agg x.enc)) (hy : ev l Y = some (agg y.enc)) : Run P ⟨dst, .binOp .neq 30 X Y T', ty, ps, af, g⟩ a W (.bool (!decide (x = y))) W := r_neq_agg F hx hy rfl (by kernel_rfl) eqv_Last
theorem r_eql_Entry (F : Frm n l a) {x y : PEntry} (hx : ev l X = some (agg x.enc)) (hy : ev l Y = some (agg y.enc)) : Run P ⟨dst, .binOp .eql 59 X Y T', ty, ps, af, g⟩ a W (.bool (decide (x = y))) W := r_eql_agg F hx hy rfl (by kernel_rfl) eqv_Entry
theorem r_neq_Entry (F : Frm n l a) {x y : PEntry} (hx : ev l X = some (agg x.enc)) (hy : ev l Y = some (agg y.enc)) : Run P ⟨dst, .binOp .neq 59 X Y T', ty, ps, af, g⟩ a W (.bool (!decide (x = y))) W := r_neq_agg F hx hy rfl (by kernel_rfl) eqv_Entry
theorem r_eql_Base (F : Frm n l a) {x y : PBase} (hx : ev l X = some (agg x.enc)) (hy : ev l Y = some (agg y.enc)) : Run P ⟨dst, .binOp .eql 33 X Y T', ty, ps, af, g⟩ a W (.bool (decide (x = y))) W := r_eql_agg F hx hy rfl (by kernel_rfl) eqv_Base
theorem r_neq_Base (F : Frm n l a) {x y : PBase} (hx : ev l X = some (agg x.enc)) (hy : ev l Y = some (agg y.enc)) : Run P ⟨dst, .binOp .neq 33 X Y T', ty, ps, af, g⟩ a W (.bool (!decide (x = y))) W := r_neq_agg F hx hy rfl (by kernel_rfl) eqv_Base
end
theorem len_Op {s : POp} : s.enc.length = 6 := rfl
theorem len_Obj {s : PObj} : s.enc.length = 5 := rfl
theorem len_Res {s : PRes} : s.enc.length = 2 := rfl
theorem len_Last {s : PLast} : s.enc.length = 3 := rfl
theorem len_Base {s : PBase} : s.enc.length = 39 := rfl
theorem len_Entry {s : PEntry} : s.enc.length = 8 := rfl
theorem len_State {s : GState} : s.enc.length = 49 := rfl
theorem len_Diff {s : GDiff} : s.enc.length = 52 := rfl
end Go.Proofs.YtfkmaepcjognkaaDoor.Pad
