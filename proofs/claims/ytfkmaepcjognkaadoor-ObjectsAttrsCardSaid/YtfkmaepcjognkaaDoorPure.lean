/- The data of the program as plain structures: operations, objects, results, bases, entries. No condition. -/
namespace Go.Proofs.YtfkmaepcjognkaaDoor.Pad
structure POp where
  client : UInt8
  seq : UInt32
  kind : UInt8
  obj : UInt8
  at_ : UInt8
  data : ByteArray
deriving DecidableEq
structure PObj where
  there : Bool
  data : ByteArray
  a0 : ByteArray
  a1 : ByteArray
  a2 : ByteArray
deriving DecidableEq
structure PRes where
  code : UInt8
  data : ByteArray
deriving DecidableEq
structure PLast where
  seq : UInt32
  r : PRes
deriving DecidableEq
structure PBase where
  o0 : PObj
  o1 : PObj
  o2 : PObj
  o3 : PObj
  o4 : PObj
  o5 : PObj
  l0 : PLast
  l1 : PLast
  l2 : PLast
deriving DecidableEq
structure PEntry where
  since : UInt32
  n : UInt32
  op : POp
deriving DecidableEq
def POp.zero : POp := ⟨0, 0, 0, 0, 0, ⟨#[]⟩⟩
def PObj.zero : PObj := ⟨false, ⟨#[]⟩, ⟨#[]⟩, ⟨#[]⟩, ⟨#[]⟩⟩
def PRes.zero : PRes := ⟨0, ⟨#[]⟩⟩
def PLast.zero : PLast := ⟨0, PRes.zero⟩
def PBase.zero : PBase := ⟨PObj.zero, PObj.zero, PObj.zero, PObj.zero, PObj.zero, PObj.zero, PLast.zero, PLast.zero, PLast.zero⟩
def PEntry.zero : PEntry := ⟨0, 0, POp.zero⟩
/-- Attribute i. -/
def PObj.attr (x : PObj) : Nat → ByteArray
  | 0 => x.a0
  | 1 => x.a1
  | _ => x.a2
def PObj.setAttr (x : PObj) (d : ByteArray) : Nat → PObj
  | 0 => { x with a0 := d }
  | 1 => { x with a1 := d }
  | _ => { x with a2 := d }
/-- Object i. -/
def PBase.obj (b : PBase) : Nat → PObj
  | 0 => b.o0
  | 1 => b.o1
  | 2 => b.o2
  | 3 => b.o3
  | 4 => b.o4
  | _ => b.o5
def PBase.setObj (b : PBase) (x : PObj) : Nat → PBase
  | 0 => { b with o0 := x }
  | 1 => { b with o1 := x }
  | 2 => { b with o2 := x }
  | 3 => { b with o3 := x }
  | 4 => { b with o4 := x }
  | _ => { b with o5 := x }
/-- The last operation of client i + 1. -/
def PBase.last (b : PBase) : Nat → PLast
  | 0 => b.l0
  | 1 => b.l1
  | _ => b.l2
def PBase.setLast (b : PBase) (x : PLast) : Nat → PBase
  | 0 => { b with l0 := x }
  | 1 => { b with l1 := x }
  | _ => { b with l2 := x }
/-- A state. -/
structure PState where
  started : UInt32
  base : PBase
  tail : PEntry
  log : List PEntry
deriving DecidableEq
def PState.zero : PState := ⟨0, PBase.zero, PEntry.zero, []⟩
/-- A difference. -/
structure PDiff where
  kind : Int
  from_ : UInt32
  log : List PEntry
  whole : PState
deriving DecidableEq
def PDiff.zero : PDiff := ⟨0, 0, [], PState.zero⟩
end Go.Proofs.YtfkmaepcjognkaaDoor.Pad
