/- strings.Repeat by the shelf's contract (the laying as the shelf's program printed it). The count is at least nought, the result no longer than one allocation. -/
import Derived.Test.YtfkmaepcjognkaaDoorAcc
import Derived.Test.YtfkmaepcjognkaaDoorLib4
import Derived.Lib.Repeat
import Derived.Shelf.Strings.Repeat
namespace Go.Proofs.YtfkmaepcjognkaaDoor.Pad
open Go Go.Proofs Go.Shelf
set_option linter.unusedVariables false
def lays105_ren : Go.Shelf.Ren := ⟨fun | 105 => 69 | 212 => 74 | 99 => 75 | 165 => 76 | 166 => 77 | 170 => 78 | 169 => 79 | 263 => 85 | 264 => 86 | 206 => 87 | 240 => 88 | 241 => 89 | 276 => 92 | 277 => 93 | n => n, fun | 9 => 9 | 3 => 3 | 4 => 4 | 20 => 20 | 0 => 0 | 46 => 116 | 109 => 127 | 5 => 5 | 72 => 132 | 76 => 136 | 51 => 26 | 146 => 110 | 53 => 103 | 148 => 147 | 70 => 130 | 37 => 50 | 75 => 135 | 127 => 149 | 164 => 151 | 80 => 139 | n => n, fun | n => n⟩
theorem lays105 : Go.Proofs.Lays.n105 Tryd.prog lays105_ren := {
  mixed := by kernel_rfl
  f99 := Tryd.func75.trans (congrArg some (by kernel_rfl))
  f105 := Tryd.func69.trans (congrArg some (by kernel_rfl))
  f165 := Tryd.func76.trans (congrArg some (by kernel_rfl))
  f166 := Tryd.func77.trans (congrArg some (by kernel_rfl))
  f169 := Tryd.func79.trans (congrArg some (by kernel_rfl))
  f170 := Tryd.func78.trans (congrArg some (by kernel_rfl))
  f206 := Tryd.func87.trans (congrArg some (by kernel_rfl))
  f212 := Tryd.func74.trans (congrArg some (by kernel_rfl))
  f240 := Tryd.func88.trans (congrArg some (by kernel_rfl))
  f241 := Tryd.func89.trans (congrArg some (by kernel_rfl))
  f263 := Tryd.func85.trans (congrArg some (by kernel_rfl))
  f264 := Tryd.func86.trans (congrArg some (by kernel_rfl))
  f276 := Tryd.func92.trans (congrArg some (by kernel_rfl))
  f277 := Tryd.func93.trans (congrArg some (by kernel_rfl))
  t0 := Tryd.underlying0
  a0 := Tryd.isAgg0
  z0 := Tryd.sizeOf0
  v0 := Tryd.zeroValue0
  t3 := Tryd.underlying3
  a3 := Tryd.isAgg3
  z3 := Tryd.sizeOf3
  v3 := Tryd.zeroValue3
  t4 := Tryd.underlying4
  a4 := Tryd.isAgg4
  z4 := Tryd.sizeOf4
  v4 := Tryd.zeroValue4
  t5 := Tryd.underlying5
  a5 := Tryd.isAgg5
  z5 := Tryd.sizeOf5
  v5 := Tryd.zeroValue5
  t9 := Tryd.underlying9
  a9 := Tryd.isAgg9
  z9 := Tryd.sizeOf9
  v9 := Tryd.zeroValue9
  t20 := Tryd.underlying20
  a20 := Tryd.isAgg20
  z20 := Tryd.sizeOf20
  v20 := Tryd.zeroValue20
  t37 := Tryd.underlying50
  a37 := Tryd.isAgg50
  z37 := Tryd.sizeOf50
  v37 := Tryd.zeroValue50
  t46 := Tryd.underlying116
  a46 := Tryd.isAgg116
  z46 := Tryd.sizeOf116
  v46 := Tryd.zeroValue116
  t51 := Tryd.underlying26
  a51 := Tryd.isAgg26
  z51 := Tryd.sizeOf26
  v51 := Tryd.zeroValue26
  t53 := Tryd.underlying103
  a53 := Tryd.isAgg103
  z53 := Tryd.sizeOf103
  v53 := Tryd.zeroValue103
  t70 := Tryd.underlying130
  a70 := Tryd.isAgg130
  z70 := Tryd.sizeOf130
  v70 := Tryd.zeroValue130
  t72 := Tryd.underlying132
  a72 := Tryd.isAgg132
  z72 := Tryd.sizeOf132
  v72 := Tryd.zeroValue132
  t75 := Tryd.underlying135
  a75 := Tryd.isAgg135
  z75 := Tryd.sizeOf135
  v75 := Tryd.zeroValue135
  t76 := Tryd.underlying136
  a76 := Tryd.isAgg136
  z76 := Tryd.sizeOf136
  v76 := Tryd.zeroValue136
  t109 := Tryd.underlying127
  a109 := Tryd.isAgg127
  z109 := Tryd.sizeOf127
  v109 := Tryd.zeroValue127
  t127 := Tryd.underlying149
  a127 := Tryd.isAgg149
  z127 := Tryd.sizeOf149
  v127 := Tryd.zeroValue149
  t146 := Tryd.underlying110
  a146 := Tryd.isAgg110
  z146 := Tryd.sizeOf110
  v146 := Tryd.zeroValue110
  t148 := Tryd.underlying147
  a148 := Tryd.isAgg147
  z148 := Tryd.sizeOf147
  v148 := Tryd.zeroValue147
  t164 := Tryd.underlying151
  a164 := Tryd.isAgg151
  z164 := Tryd.sizeOf151
  v164 := Tryd.zeroValue151 }
theorem Builder_Extra_105 : Builder.Extra Tryd.prog lays105_ren := {
  sizeBuilder := by kernel_rfl
  liesBuilder := by kernel_rfl
  t5 := Tryd.underlying5
  a5 := Tryd.isAgg5
  z5 := Tryd.sizeOf5
  v5 := Tryd.zeroValue5
  infoByte := by kernel_rfl
  cellsByte := by kernel_rfl
  sizeByte := by kernel_rfl
  neB5 := by decide }

theorem c_of_below {f : Nat} {fn : Func} {vs : List Value} {w : World} {G0 : Ghost} (hI : Imm G0 w) {v0 : Value} (hf : P.funcs[f]? = some fn) (hn : (fn.name == "runtime.NumGoroutine") = false) (hb : fn.body.isNone = false)
    (h : Calls P f vs.toArray w fun e w' => e = .returned v0 ∧ RowKit.Below w.heap.size w w') : Ret P f vs [] w G0 (fun G W v => v = v0) := by
  refine ⟨⟨fn, hf, hn, hb⟩, h.mono fun e W ⟨he, hB⟩ => ⟨v0, G0, he, ⟨Gle.refl _, hI.same fun k hk _ => hB.block k hk, ⟨hB.os, hB.tape, hB.output, hB.size, fun k hk _ => hB.block k hk⟩, fun _ _ _ => rfl⟩, rfl⟩⟩
theorem c_strings_Repeat {w : World} {G0 : Ghost} (hI : Imm G0 w) {s : ByteArray} {c : Int} (h0 : 0 ≤ c) (hc : s.size * c.toNat ≤ 140737488355328) (hm : c ≤ 9223372036854775807) : Ret P 69 [.string s, .int .i64 c] [] w G0 (fun G W v => v = .string ⟨(Lib.repeatL s.data.toList c.toNat).toArray⟩) := by
  obtain ⟨n, rfl⟩ : ∃ n : Nat, c = (n : Int) := ⟨c.toNat, by omega⟩
  exact c_of_below hI Tryd.func69 rfl rfl (Any.strings_Repeat lays105 Builder_Extra_105 s n w (by omega) (by simpa using hc))
end Go.Proofs.YtfkmaepcjognkaaDoor.Pad
