/- How the data lie in memory: encodings as rows of cells; what the walk asks of each type of the program. No condition. -/
import Derived.Test.YtfkmaepcjognkaaLib3
import Derived.Test.YtfkmaepcjognkaaPure
import Derived.Test.YtfkmaepcjognkaaProg
namespace Go.Proofs.Ytfkmaepcjognkaa.Pad
open Go Go.Proofs
noncomputable abbrev P : Program := Try.prog
theorem mixed : P.follows .mixedOrders = true := by kernel_rfl
def POp.enc (o : POp) : List Value := [.int .u8 (o.client.toNat : Int), .int .u32 (o.seq.toNat : Int), .int .u8 (o.kind.toNat : Int), .int .u8 (o.obj.toNat : Int), .int .u8 (o.at_.toNat : Int), .string o.data]
def PObj.enc (x : PObj) : List Value := [.bool x.there, .string x.data, .string x.a0, .string x.a1, .string x.a2]
def PObj.encAttr (x : PObj) : List Value := [.string x.a0, .string x.a1, .string x.a2]
def PRes.enc (r : PRes) : List Value := [.int .u8 (r.code.toNat : Int), .string r.data]
def PLast.enc (l : PLast) : List Value := [.int .u32 (l.seq.toNat : Int), .int .u8 (l.r.code.toNat : Int), .string l.r.data]
def PBase.encObjs (b : PBase) : List Value := b.o0.enc ++ (b.o1.enc ++ (b.o2.enc ++ (b.o3.enc ++ (b.o4.enc ++ b.o5.enc))))
def PBase.encLasts (b : PBase) : List Value := b.l0.enc ++ (b.l1.enc ++ b.l2.enc)
def PBase.enc (b : PBase) : List Value := b.encObjs ++ b.encLasts
def PEntry.enc (e : PEntry) : List Value := [.int .u32 (e.since.toNat : Int), .int .u32 (e.n.toNat : Int)] ++ e.op.enc
/-- A state as the machine has it: its log a slice. -/
structure GState where
  started : UInt32
  base : PBase
  tail : PEntry
  log : Sl
def GState.enc (s : GState) : List Value := [.int .u32 (s.started.toNat : Int)] ++ (s.base.enc ++ (s.tail.enc ++ [s.log.v]))
structure GDiff where
  kind : Int
  from_ : UInt32
  log : Sl
  whole : GState
def GDiff.enc (d : GDiff) : List Value := [.int .i64 d.kind, .int .u32 (d.from_.toNat : Int), d.log.v] ++ d.whole.enc
abbrev agg (l : List Value) : Value := .agg l.toArray

theorem agg_Op : Agg P 25 6 := ⟨⟨_, Try.underlying25, rfl⟩, by kernel_rfl⟩
theorem agg_Attrs : Agg P 27 3 := ⟨⟨_, Try.underlying27, rfl⟩, by kernel_rfl⟩
theorem agg_Obj : Agg P 29 5 := ⟨⟨_, Try.underlying29, rfl⟩, by kernel_rfl⟩
theorem agg_Objs : Agg P 30 30 := ⟨⟨_, Try.underlying30, rfl⟩, by kernel_rfl⟩
theorem agg_Res : Agg P 32 2 := ⟨⟨_, Try.underlying32, rfl⟩, by kernel_rfl⟩
theorem agg_Last : Agg P 34 3 := ⟨⟨_, Try.underlying34, rfl⟩, by kernel_rfl⟩
theorem agg_Lasts : Agg P 35 9 := ⟨⟨_, Try.underlying35, rfl⟩, by kernel_rfl⟩
theorem agg_Base : Agg P 37 39 := ⟨⟨_, Try.underlying37, rfl⟩, by kernel_rfl⟩
theorem agg_Entry : Agg P 39 8 := ⟨⟨_, Try.underlying39, rfl⟩, by kernel_rfl⟩
theorem agg_State : Agg P 42 49 := ⟨⟨_, Try.underlying42, rfl⟩, by kernel_rfl⟩
theorem agg_Doer : Agg P 155 5 := ⟨⟨_, Try.underlying155, rfl⟩, by kernel_rfl⟩
theorem agg_Diff : Agg P 94 52 := ⟨⟨_, Try.underlying94, rfl⟩, by kernel_rfl⟩
theorem sca_bool : Sca P 4 := ⟨⟨_, Try.underlying4, rfl⟩, by kernel_rfl⟩
theorem sca_u8 : Sca P 5 := ⟨⟨_, Try.underlying5, rfl⟩, by kernel_rfl⟩
theorem sca_u32 : Sca P 23 := ⟨⟨_, Try.underlying23, rfl⟩, by kernel_rfl⟩
theorem sca_int : Sca P 3 := ⟨⟨_, Try.underlying3, rfl⟩, by kernel_rfl⟩
theorem sca_string : Sca P 9 := ⟨⟨_, Try.underlying9, rfl⟩, by kernel_rfl⟩
theorem sca_Entries : Sca P 40 := ⟨⟨_, Try.underlying40, rfl⟩, by kernel_rfl⟩
theorem sca_Errno : Sca P 47 := ⟨⟨_, Try.underlying47, rfl⟩, by kernel_rfl⟩
theorem fld_Op_0 : Fld P 25 0 0 5 := ⟨⟨_, _, Try.underlying25, rfl, rfl, rfl⟩, ⟨1, by kernel_rfl, by decide⟩⟩
theorem fld_Op_1 : Fld P 25 1 1 23 := ⟨⟨_, _, Try.underlying25, rfl, rfl, rfl⟩, ⟨1, by kernel_rfl, by decide⟩⟩
theorem fld_Op_2 : Fld P 25 2 2 5 := ⟨⟨_, _, Try.underlying25, rfl, rfl, rfl⟩, ⟨1, by kernel_rfl, by decide⟩⟩
theorem fld_Op_3 : Fld P 25 3 3 5 := ⟨⟨_, _, Try.underlying25, rfl, rfl, rfl⟩, ⟨1, by kernel_rfl, by decide⟩⟩
theorem fld_Op_4 : Fld P 25 4 4 5 := ⟨⟨_, _, Try.underlying25, rfl, rfl, rfl⟩, ⟨1, by kernel_rfl, by decide⟩⟩
theorem fld_Op_5 : Fld P 25 5 5 9 := ⟨⟨_, _, Try.underlying25, rfl, rfl, rfl⟩, ⟨1, by kernel_rfl, by decide⟩⟩
theorem fld_Obj_0 : Fld P 29 0 0 4 := ⟨⟨_, _, Try.underlying29, rfl, rfl, rfl⟩, ⟨1, by kernel_rfl, by decide⟩⟩
theorem fld_Obj_1 : Fld P 29 1 1 9 := ⟨⟨_, _, Try.underlying29, rfl, rfl, rfl⟩, ⟨1, by kernel_rfl, by decide⟩⟩
theorem fld_Obj_2 : Fld P 29 2 2 27 := ⟨⟨_, _, Try.underlying29, rfl, rfl, rfl⟩, ⟨3, by kernel_rfl, by decide⟩⟩
theorem fld_Res_0 : Fld P 32 0 0 5 := ⟨⟨_, _, Try.underlying32, rfl, rfl, rfl⟩, ⟨1, by kernel_rfl, by decide⟩⟩
theorem fld_Res_1 : Fld P 32 1 1 9 := ⟨⟨_, _, Try.underlying32, rfl, rfl, rfl⟩, ⟨1, by kernel_rfl, by decide⟩⟩
theorem fld_Last_0 : Fld P 34 0 0 23 := ⟨⟨_, _, Try.underlying34, rfl, rfl, rfl⟩, ⟨1, by kernel_rfl, by decide⟩⟩
theorem fld_Last_1 : Fld P 34 1 1 32 := ⟨⟨_, _, Try.underlying34, rfl, rfl, rfl⟩, ⟨2, by kernel_rfl, by decide⟩⟩
theorem fld_Base_0 : Fld P 37 0 0 30 := ⟨⟨_, _, Try.underlying37, rfl, rfl, rfl⟩, ⟨30, by kernel_rfl, by decide⟩⟩
theorem fld_Base_1 : Fld P 37 1 30 35 := ⟨⟨_, _, Try.underlying37, rfl, rfl, rfl⟩, ⟨9, by kernel_rfl, by decide⟩⟩
theorem fld_Entry_0 : Fld P 39 0 0 23 := ⟨⟨_, _, Try.underlying39, rfl, rfl, rfl⟩, ⟨1, by kernel_rfl, by decide⟩⟩
theorem fld_Entry_1 : Fld P 39 1 1 23 := ⟨⟨_, _, Try.underlying39, rfl, rfl, rfl⟩, ⟨1, by kernel_rfl, by decide⟩⟩
theorem fld_Entry_2 : Fld P 39 2 2 25 := ⟨⟨_, _, Try.underlying39, rfl, rfl, rfl⟩, ⟨6, by kernel_rfl, by decide⟩⟩
theorem fld_State_0 : Fld P 42 0 0 23 := ⟨⟨_, _, Try.underlying42, rfl, rfl, rfl⟩, ⟨1, by kernel_rfl, by decide⟩⟩
theorem fld_State_1 : Fld P 42 1 1 37 := ⟨⟨_, _, Try.underlying42, rfl, rfl, rfl⟩, ⟨39, by kernel_rfl, by decide⟩⟩
theorem fld_State_2 : Fld P 42 2 40 39 := ⟨⟨_, _, Try.underlying42, rfl, rfl, rfl⟩, ⟨8, by kernel_rfl, by decide⟩⟩
theorem fld_State_3 : Fld P 42 3 48 40 := ⟨⟨_, _, Try.underlying42, rfl, rfl, rfl⟩, ⟨1, by kernel_rfl, by decide⟩⟩
theorem fld_Doer_0 : Fld P 155 0 0 29 := ⟨⟨_, _, Try.underlying155, rfl, rfl, rfl⟩, ⟨5, by kernel_rfl, by decide⟩⟩
theorem fld_Diff_0 : Fld P 94 0 0 3 := ⟨⟨_, _, Try.underlying94, rfl, rfl, rfl⟩, ⟨1, by kernel_rfl, by decide⟩⟩
theorem fld_Diff_1 : Fld P 94 1 1 23 := ⟨⟨_, _, Try.underlying94, rfl, rfl, rfl⟩, ⟨1, by kernel_rfl, by decide⟩⟩
theorem fld_Diff_2 : Fld P 94 2 2 40 := ⟨⟨_, _, Try.underlying94, rfl, rfl, rfl⟩, ⟨1, by kernel_rfl, by decide⟩⟩
theorem fld_Diff_3 : Fld P 94 3 3 42 := ⟨⟨_, _, Try.underlying94, rfl, rfl, rfl⟩, ⟨49, by kernel_rfl, by decide⟩⟩
theorem arr_Attrs : Arr P 27 3 9 1 := ⟨Try.underlying27, by kernel_rfl⟩
theorem arr_Objs : Arr P 30 6 29 5 := ⟨Try.underlying30, by kernel_rfl⟩
theorem arr_Lasts : Arr P 35 3 34 3 := ⟨Try.underlying35, by kernel_rfl⟩
theorem slc_Entries : Slc P 40 39 8 := ⟨Try.underlying40, by kernel_rfl, by decide⟩
theorem slc_Ops : Slc P 22 25 6 := ⟨Try.underlying22, by kernel_rfl, by decide⟩
theorem slc_Ress : Slc P 56 32 2 := ⟨Try.underlying56, by kernel_rfl, by decide⟩
theorem zer_Op : Zer P 25 (agg (POp.enc POp.zero)) := ⟨by kernel_rfl⟩
theorem zer_Obj : Zer P 29 (agg (PObj.enc PObj.zero)) := ⟨by kernel_rfl⟩
theorem zer_Res : Zer P 32 (agg (PRes.enc PRes.zero)) := ⟨by kernel_rfl⟩
theorem zer_Last : Zer P 34 (agg (PLast.enc PLast.zero)) := ⟨by kernel_rfl⟩
theorem zer_Base : Zer P 37 (agg (PBase.enc PBase.zero)) := ⟨by kernel_rfl⟩
theorem zer_Entry : Zer P 39 (agg (PEntry.enc PEntry.zero)) := ⟨by kernel_rfl⟩
theorem zer_State : Zer P 42 (agg (GState.enc ⟨0, PBase.zero, PEntry.zero, Sl.nil⟩)) := ⟨by kernel_rfl⟩
theorem zer_Diff : Zer P 94 (agg (GDiff.enc ⟨0, 0, Sl.nil, ⟨0, PBase.zero, PEntry.zero, Sl.nil⟩⟩)) := ⟨by kernel_rfl⟩
theorem app_Entry : App P 39 8 40 := ⟨by kernel_rfl⟩
theorem app_Op : App P 25 6 32 := ⟨by kernel_rfl⟩
theorem app_Res : App P 32 2 24 := ⟨by kernel_rfl⟩
end Go.Proofs.Ytfkmaepcjognkaa.Pad
