/- strings.Repeat by the shelf's contract (the laying as the shelf's program printed it). The count is at least nought, the result no longer than one allocation. -/
import Derived.Test.YtfkmaepcjognkaaAcc
import Derived.Test.YtfkmaepcjognkaaLib4
import Derived.Lib.Repeat
import Derived.Shelf.Strings.Repeat
namespace Go.Proofs.Ytfkmaepcjognkaa.Pad
open Go Go.Proofs Go.Shelf
set_option linter.unusedVariables false
def lays105_ren : Go.Shelf.Ren := ⟨fun | 105 => 134 | 212 => 139 | 99 => 140 | 165 => 141 | 166 => 142 | 170 => 143 | 169 => 144 | 263 => 148 | 264 => 149 | 206 => 150 | 240 => 151 | 241 => 152 | 276 => 155 | 277 => 156 | n => n, fun | 9 => 9 | 3 => 3 | 4 => 4 | 20 => 20 | 0 => 0 | 46 => 191 | 109 => 192 | 5 => 5 | 72 => 198 | 76 => 201 | 51 => 23 | 146 => 45 | 53 => 209 | 148 => 210 | 70 => 195 | 37 => 196 | 75 => 200 | 127 => 212 | 164 => 215 | 80 => 204 | n => n, fun | n => n⟩
theorem lays105 : Go.Proofs.Lays.n105 Try.prog lays105_ren := {
  mixed := by kernel_rfl
  f99 := Try.func140.trans (congrArg some (by kernel_rfl))
  f105 := Try.func134.trans (congrArg some (by kernel_rfl))
  f165 := Try.func141.trans (congrArg some (by kernel_rfl))
  f166 := Try.func142.trans (congrArg some (by kernel_rfl))
  f169 := Try.func144.trans (congrArg some (by kernel_rfl))
  f170 := Try.func143.trans (congrArg some (by kernel_rfl))
  f206 := Try.func150.trans (congrArg some (by kernel_rfl))
  f212 := Try.func139.trans (congrArg some (by kernel_rfl))
  f240 := Try.func151.trans (congrArg some (by kernel_rfl))
  f241 := Try.func152.trans (congrArg some (by kernel_rfl))
  f263 := Try.func148.trans (congrArg some (by kernel_rfl))
  f264 := Try.func149.trans (congrArg some (by kernel_rfl))
  f276 := Try.func155.trans (congrArg some (by kernel_rfl))
  f277 := Try.func156.trans (congrArg some (by kernel_rfl))
  t0 := Try.underlying0
  a0 := Try.isAgg0
  z0 := Try.sizeOf0
  v0 := Try.zeroValue0
  t3 := Try.underlying3
  a3 := Try.isAgg3
  z3 := Try.sizeOf3
  v3 := Try.zeroValue3
  t4 := Try.underlying4
  a4 := Try.isAgg4
  z4 := Try.sizeOf4
  v4 := Try.zeroValue4
  t5 := Try.underlying5
  a5 := Try.isAgg5
  z5 := Try.sizeOf5
  v5 := Try.zeroValue5
  t9 := Try.underlying9
  a9 := Try.isAgg9
  z9 := Try.sizeOf9
  v9 := Try.zeroValue9
  t20 := Try.underlying20
  a20 := Try.isAgg20
  z20 := Try.sizeOf20
  v20 := Try.zeroValue20
  t37 := Try.underlying196
  a37 := Try.isAgg196
  z37 := Try.sizeOf196
  v37 := Try.zeroValue196
  t46 := Try.underlying191
  a46 := Try.isAgg191
  z46 := Try.sizeOf191
  v46 := Try.zeroValue191
  t51 := Try.underlying23
  a51 := Try.isAgg23
  z51 := Try.sizeOf23
  v51 := Try.zeroValue23
  t53 := Try.underlying209
  a53 := Try.isAgg209
  z53 := Try.sizeOf209
  v53 := Try.zeroValue209
  t70 := Try.underlying195
  a70 := Try.isAgg195
  z70 := Try.sizeOf195
  v70 := Try.zeroValue195
  t72 := Try.underlying198
  a72 := Try.isAgg198
  z72 := Try.sizeOf198
  v72 := Try.zeroValue198
  t75 := Try.underlying200
  a75 := Try.isAgg200
  z75 := Try.sizeOf200
  v75 := Try.zeroValue200
  t76 := Try.underlying201
  a76 := Try.isAgg201
  z76 := Try.sizeOf201
  v76 := Try.zeroValue201
  t109 := Try.underlying192
  a109 := Try.isAgg192
  z109 := Try.sizeOf192
  v109 := Try.zeroValue192
  t127 := Try.underlying212
  a127 := Try.isAgg212
  z127 := Try.sizeOf212
  v127 := Try.zeroValue212
  t146 := Try.underlying45
  a146 := Try.isAgg45
  z146 := Try.sizeOf45
  v146 := Try.zeroValue45
  t148 := Try.underlying210
  a148 := Try.isAgg210
  z148 := Try.sizeOf210
  v148 := Try.zeroValue210
  t164 := Try.underlying215
  a164 := Try.isAgg215
  z164 := Try.sizeOf215
  v164 := Try.zeroValue215 }
theorem Builder_Extra_105 : Builder.Extra Try.prog lays105_ren := {
  sizeBuilder := by kernel_rfl
  liesBuilder := by kernel_rfl
  t5 := Try.underlying5
  a5 := Try.isAgg5
  z5 := Try.sizeOf5
  v5 := Try.zeroValue5
  infoByte := by kernel_rfl
  cellsByte := by kernel_rfl
  sizeByte := by kernel_rfl
  neB5 := by decide }

theorem c_of_below {f : Nat} {fn : Func} {vs : List Value} {w : World} {G0 : Ghost} (hI : Imm G0 w) {v0 : Value} (hf : P.funcs[f]? = some fn) (hn : (fn.name == "runtime.NumGoroutine") = false) (hb : fn.body.isNone = false)
    (h : Calls P f vs.toArray w fun e w' => e = .returned v0 ∧ RowKit.Below w.heap.size w w') : Ret P f vs [] w G0 (fun G W v => v = v0) := by
  refine ⟨⟨fn, hf, hn, hb⟩, h.mono fun e W ⟨he, hB⟩ => ⟨v0, G0, he, ⟨Gle.refl _, hI.same fun k hk _ => hB.block k hk, ⟨hB.os, hB.tape, hB.output, hB.size, fun k hk _ => hB.block k hk⟩, fun _ _ _ => rfl⟩, rfl⟩⟩
theorem c_strings_Repeat {w : World} {G0 : Ghost} (hI : Imm G0 w) {s : ByteArray} {c : Int} (h0 : 0 ≤ c) (hc : s.size * c.toNat ≤ 140737488355328) (hm : c ≤ 9223372036854775807) : Ret P 134 [.string s, .int .i64 c] [] w G0 (fun G W v => v = .string ⟨(Lib.repeatL s.data.toList c.toNat).toArray⟩) := by
  obtain ⟨n, rfl⟩ : ∃ n : Nat, c = (n : Int) := ⟨c.toNat, by omega⟩
  exact c_of_below hI Try.func134 rfl rfl (Any.strings_Repeat lays105 Builder_Extra_105 s n w (by omega) (by simpa using hc))
end Go.Proofs.Ytfkmaepcjognkaa.Pad
