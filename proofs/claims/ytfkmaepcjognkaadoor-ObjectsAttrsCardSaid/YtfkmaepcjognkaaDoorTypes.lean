/- How the data lie in memory: encodings as rows of cells; what the walk asks of each type of the program. No condition. -/
import Derived.Test.YtfkmaepcjognkaaDoorLib3
import Derived.Test.YtfkmaepcjognkaaDoorPure
import Derived.Test.YtfkmaepcjognkaaDoorProg
namespace Go.Proofs.YtfkmaepcjognkaaDoor.Pad
open Go Go.Proofs
noncomputable abbrev P : Program := Tryd.prog
theorem mixed : P.follows .mixedOrders = true := by kernel_rfl
def POp.enc (o : POp) : List Value := [.int .u8 (o.client.toNat : Int), .int .u32 (o.seq.toNat : Int), .int .u8 (o.kind.toNat : Int), .int .u8 (o.obj.toNat : Int), .int .u8 (o.at_.toNat : Int), .string o.data]
def PObj.enc (x : PObj) : List Value := [.bool x.there, .string x.data, .string x.a0, .string x.a1, .string x.a2]
def PObj.encAttr (x : PObj) : List Value := [.string x.a0, .string x.a1, .string x.a2]
def PRes.enc (r : PRes) : List Value := [.int .u8 (r.code.toNat : Int), .string r.data]
def PLast.enc (l : PLast) : List Value := [.int .u32 (l.seq.toNat : Int), .int .u8 (l.r.code.toNat : Int), .string l.r.data]
def PBase.encObjs (b : PBase) : List Value := b.o0.enc ++ (b.o1.enc ++ (b.o2.enc ++ (b.o3.enc ++ (b.o4.enc ++ b.o5.enc))))
def PBase.encLasts (b : PBase) : List Value := b.l0.enc ++ (b.l1.enc ++ b.l2.enc)
def PBase.enc (b : PBase) : List Value := b.encObjs ++ b.encLasts
def PEntry.enc (e : PEntry) : List Value := [.int .u32 (e.since.toNat : Int), .int .u32 (e.n.toNat : Int)] ++ e.op.enc
/-- A state as the machine has it: its log a slice. -/
structure GState where
  started : UInt32
  base : PBase
  tail : PEntry
  log : Sl
def GState.enc (s : GState) : List Value := [.int .u32 (s.started.toNat : Int)] ++ (s.base.enc ++ (s.tail.enc ++ [s.log.v]))
structure GDiff where
  kind : Int
  from_ : UInt32
  log : Sl
  whole : GState
def GDiff.enc (d : GDiff) : List Value := [.int .i64 d.kind, .int .u32 (d.from_.toNat : Int), d.log.v] ++ d.whole.enc
abbrev agg (l : List Value) : Value := .agg l.toArray

theorem agg_Op : Agg P 35 6 := ⟨⟨_, Tryd.underlying35, rfl⟩, by kernel_rfl⟩
theorem agg_Attrs : Agg P 22 3 := ⟨⟨_, Tryd.underlying22, rfl⟩, by kernel_rfl⟩
theorem agg_Obj : Agg P 24 5 := ⟨⟨_, Tryd.underlying24, rfl⟩, by kernel_rfl⟩
theorem agg_Objs : Agg P 25 30 := ⟨⟨_, Tryd.underlying25, rfl⟩, by kernel_rfl⟩
theorem agg_Res : Agg P 28 2 := ⟨⟨_, Tryd.underlying28, rfl⟩, by kernel_rfl⟩
theorem agg_Last : Agg P 30 3 := ⟨⟨_, Tryd.underlying30, rfl⟩, by kernel_rfl⟩
theorem agg_Lasts : Agg P 31 9 := ⟨⟨_, Tryd.underlying31, rfl⟩, by kernel_rfl⟩
theorem agg_Base : Agg P 33 39 := ⟨⟨_, Tryd.underlying33, rfl⟩, by kernel_rfl⟩
theorem agg_Entry : Agg P 59 8 := ⟨⟨_, Tryd.underlying59, rfl⟩, by kernel_rfl⟩
theorem agg_State : Agg P 61 49 := ⟨⟨_, Tryd.underlying61, rfl⟩, by kernel_rfl⟩
theorem agg_Doer : Agg P 84 5 := ⟨⟨_, Tryd.underlying84, rfl⟩, by kernel_rfl⟩
theorem sca_bool : Sca P 4 := ⟨⟨_, Tryd.underlying4, rfl⟩, by kernel_rfl⟩
theorem sca_u8 : Sca P 5 := ⟨⟨_, Tryd.underlying5, rfl⟩, by kernel_rfl⟩
theorem sca_u32 : Sca P 26 := ⟨⟨_, Tryd.underlying26, rfl⟩, by kernel_rfl⟩
theorem sca_int : Sca P 3 := ⟨⟨_, Tryd.underlying3, rfl⟩, by kernel_rfl⟩
theorem sca_string : Sca P 9 := ⟨⟨_, Tryd.underlying9, rfl⟩, by kernel_rfl⟩
theorem sca_Entries : Sca P 56 := ⟨⟨_, Tryd.underlying56, rfl⟩, by kernel_rfl⟩
theorem sca_Errno : Sca P 66 := ⟨⟨_, Tryd.underlying66, rfl⟩, by kernel_rfl⟩
theorem fld_Op_0 : Fld P 35 0 0 5 := ⟨⟨_, _, Tryd.underlying35, rfl, rfl, rfl⟩, ⟨1, by kernel_rfl, by decide⟩⟩
theorem fld_Op_1 : Fld P 35 1 1 26 := ⟨⟨_, _, Tryd.underlying35, rfl, rfl, rfl⟩, ⟨1, by kernel_rfl, by decide⟩⟩
theorem fld_Op_2 : Fld P 35 2 2 5 := ⟨⟨_, _, Tryd.underlying35, rfl, rfl, rfl⟩, ⟨1, by kernel_rfl, by decide⟩⟩
theorem fld_Op_3 : Fld P 35 3 3 5 := ⟨⟨_, _, Tryd.underlying35, rfl, rfl, rfl⟩, ⟨1, by kernel_rfl, by decide⟩⟩
theorem fld_Op_4 : Fld P 35 4 4 5 := ⟨⟨_, _, Tryd.underlying35, rfl, rfl, rfl⟩, ⟨1, by kernel_rfl, by decide⟩⟩
theorem fld_Op_5 : Fld P 35 5 5 9 := ⟨⟨_, _, Tryd.underlying35, rfl, rfl, rfl⟩, ⟨1, by kernel_rfl, by decide⟩⟩
theorem fld_Obj_0 : Fld P 24 0 0 4 := ⟨⟨_, _, Tryd.underlying24, rfl, rfl, rfl⟩, ⟨1, by kernel_rfl, by decide⟩⟩
theorem fld_Obj_1 : Fld P 24 1 1 9 := ⟨⟨_, _, Tryd.underlying24, rfl, rfl, rfl⟩, ⟨1, by kernel_rfl, by decide⟩⟩
theorem fld_Obj_2 : Fld P 24 2 2 22 := ⟨⟨_, _, Tryd.underlying24, rfl, rfl, rfl⟩, ⟨3, by kernel_rfl, by decide⟩⟩
theorem fld_Res_0 : Fld P 28 0 0 5 := ⟨⟨_, _, Tryd.underlying28, rfl, rfl, rfl⟩, ⟨1, by kernel_rfl, by decide⟩⟩
theorem fld_Res_1 : Fld P 28 1 1 9 := ⟨⟨_, _, Tryd.underlying28, rfl, rfl, rfl⟩, ⟨1, by kernel_rfl, by decide⟩⟩
theorem fld_Last_0 : Fld P 30 0 0 26 := ⟨⟨_, _, Tryd.underlying30, rfl, rfl, rfl⟩, ⟨1, by kernel_rfl, by decide⟩⟩
theorem fld_Last_1 : Fld P 30 1 1 28 := ⟨⟨_, _, Tryd.underlying30, rfl, rfl, rfl⟩, ⟨2, by kernel_rfl, by decide⟩⟩
theorem fld_Base_0 : Fld P 33 0 0 25 := ⟨⟨_, _, Tryd.underlying33, rfl, rfl, rfl⟩, ⟨30, by kernel_rfl, by decide⟩⟩
theorem fld_Base_1 : Fld P 33 1 30 31 := ⟨⟨_, _, Tryd.underlying33, rfl, rfl, rfl⟩, ⟨9, by kernel_rfl, by decide⟩⟩
theorem fld_Entry_0 : Fld P 59 0 0 26 := ⟨⟨_, _, Tryd.underlying59, rfl, rfl, rfl⟩, ⟨1, by kernel_rfl, by decide⟩⟩
theorem fld_Entry_1 : Fld P 59 1 1 26 := ⟨⟨_, _, Tryd.underlying59, rfl, rfl, rfl⟩, ⟨1, by kernel_rfl, by decide⟩⟩
theorem fld_Entry_2 : Fld P 59 2 2 35 := ⟨⟨_, _, Tryd.underlying59, rfl, rfl, rfl⟩, ⟨6, by kernel_rfl, by decide⟩⟩
theorem fld_State_0 : Fld P 61 0 0 26 := ⟨⟨_, _, Tryd.underlying61, rfl, rfl, rfl⟩, ⟨1, by kernel_rfl, by decide⟩⟩
theorem fld_State_1 : Fld P 61 1 1 33 := ⟨⟨_, _, Tryd.underlying61, rfl, rfl, rfl⟩, ⟨39, by kernel_rfl, by decide⟩⟩
theorem fld_State_2 : Fld P 61 2 40 59 := ⟨⟨_, _, Tryd.underlying61, rfl, rfl, rfl⟩, ⟨8, by kernel_rfl, by decide⟩⟩
theorem fld_State_3 : Fld P 61 3 48 56 := ⟨⟨_, _, Tryd.underlying61, rfl, rfl, rfl⟩, ⟨1, by kernel_rfl, by decide⟩⟩
theorem fld_Doer_0 : Fld P 84 0 0 24 := ⟨⟨_, _, Tryd.underlying84, rfl, rfl, rfl⟩, ⟨5, by kernel_rfl, by decide⟩⟩
theorem arr_Attrs : Arr P 22 3 9 1 := ⟨Tryd.underlying22, by kernel_rfl⟩
theorem arr_Objs : Arr P 25 6 24 5 := ⟨Tryd.underlying25, by kernel_rfl⟩
theorem arr_Lasts : Arr P 31 3 30 3 := ⟨Tryd.underlying31, by kernel_rfl⟩
theorem slc_Entries : Slc P 56 59 8 := ⟨Tryd.underlying56, by kernel_rfl, by decide⟩
theorem slc_Ops : Slc P 49 35 6 := ⟨Tryd.underlying49, by kernel_rfl, by decide⟩
theorem slc_Ress : Slc P 45 28 2 := ⟨Tryd.underlying45, by kernel_rfl, by decide⟩
theorem zer_Op : Zer P 35 (agg (POp.enc POp.zero)) := ⟨by kernel_rfl⟩
theorem zer_Obj : Zer P 24 (agg (PObj.enc PObj.zero)) := ⟨by kernel_rfl⟩
theorem zer_Res : Zer P 28 (agg (PRes.enc PRes.zero)) := ⟨by kernel_rfl⟩
theorem zer_Last : Zer P 30 (agg (PLast.enc PLast.zero)) := ⟨by kernel_rfl⟩
theorem zer_Base : Zer P 33 (agg (PBase.enc PBase.zero)) := ⟨by kernel_rfl⟩
theorem zer_Entry : Zer P 59 (agg (PEntry.enc PEntry.zero)) := ⟨by kernel_rfl⟩
theorem zer_State : Zer P 61 (agg (GState.enc ⟨0, PBase.zero, PEntry.zero, Sl.nil⟩)) := ⟨by kernel_rfl⟩
theorem app_Entry : App P 59 8 40 := ⟨by kernel_rfl⟩
theorem app_Op : App P 35 6 32 := ⟨by kernel_rfl⟩
theorem app_Res : App P 28 2 24 := ⟨by kernel_rfl⟩
end Go.Proofs.YtfkmaepcjognkaaDoor.Pad
