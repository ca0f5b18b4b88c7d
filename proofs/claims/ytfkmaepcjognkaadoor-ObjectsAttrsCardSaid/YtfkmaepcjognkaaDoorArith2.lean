/- Shifts, bits, quotients, further conversions in a walk. The numbers are small where it is said. -/
import Derived.Test.YtfkmaepcjognkaaDoorArith
namespace Go.Proofs.YtfkmaepcjognkaaDoor.Pad
open Go
set_option linter.unusedSimpArgs false
set_option linter.unusedVariables false
section
variable {P : Program} {n : Nat} {l : Env} {a : Act} {W : World} {dst : Option Nat} {ty : TypeId} {ps : String} {af : Array Edge} {g : Option (Nat × Bool)} {T T' : TypeId} {X Y : Operand}
theorem run_int2 {F : Frm n l a} {b : BinOp} {k k' : IntKind} {x y : Int} {v : Value} (hx : ev l X = some (.int k x)) (hy : ev l Y = some (.int k' y)) (hb : b = .shl ∨ b = .shr) (h : (Go.binOp b T (.int k x) (.int k' y)).run P W = .ok v W) : Run P ⟨dst, .binOp b T X Y T', ty, ps, af, g⟩ a W v W := by
  simp only [Run, execOp, F.eval hx, F.eval hy]
  have h2 : (eqGuard b T X Y (.int k x) (.int k' y)).run P W = .ok () W := by rcases hb with rfl | rfl <;> simp [eqGuard]
  simp [h2, h]
theorem r_shr_u64 (F : Frm n l a) {x y : UInt64} {k' : IntKind} (hx : ev l X = some (.int .u64 (x.toNat : Int))) (hy : ev l Y = some (.int k' (y.toNat : Int))) (h : y.toNat < 64) : Run P ⟨dst, .binOp .shr T X Y T', ty, ps, af, g⟩ a W (.int .u64 ((x >>> y).toNat : Int)) W := by
  refine run_int2 (F := F) hx hy (.inr rfl) ?_
  have e : ((x.toNat : Int).fdiv (2 ^ y.toNat)) = ((x >>> y).toNat : Int) := by
    rw [UInt64.toNat_shiftRight, Nat.mod_eq_of_lt h, Nat.shiftRight_eq_div_pow, Int.fdiv_eq_ediv_of_nonneg _ (Int.le_of_lt (Int.pow_pos (by decide)))]
    rw [Int.natCast_ediv, Int.natCast_pow]; rfl
  have h0 : ¬ ((y.toNat : Int) < 0) := by omega
  have hm : min y.toNat 64 = y.toNat := by omega
  simp [Go.binOp, Op.shift, h0, IntKind.bits, hm, e]
theorem r_shr_u32 (F : Frm n l a) {x y : UInt32} {k' : IntKind} (hx : ev l X = some (.int .u32 (x.toNat : Int))) (hy : ev l Y = some (.int k' (y.toNat : Int))) (h : y.toNat < 32) : Run P ⟨dst, .binOp .shr T X Y T', ty, ps, af, g⟩ a W (.int .u32 ((x >>> y).toNat : Int)) W := by
  refine run_int2 (F := F) hx hy (.inr rfl) ?_
  have e : ((x.toNat : Int).fdiv (2 ^ y.toNat)) = ((x >>> y).toNat : Int) := by
    rw [UInt32.toNat_shiftRight, Nat.mod_eq_of_lt h, Nat.shiftRight_eq_div_pow, Int.fdiv_eq_ediv_of_nonneg _ (Int.le_of_lt (Int.pow_pos (by decide)))]
    rw [Int.natCast_ediv, Int.natCast_pow]; rfl
  have h0 : ¬ ((y.toNat : Int) < 0) := by omega
  have hm : min y.toNat 32 = y.toNat := by omega
  simp [Go.binOp, Op.shift, h0, IntKind.bits, hm, e]
theorem r_shl_u64 (F : Frm n l a) {x : UInt64} {k' : IntKind} {y : Int} (hx : ev l X = some (.int .u64 (x.toNat : Int))) (hy : ev l Y = some (.int k' y)) (h0 : 0 ≤ y) (h : y < 64) : Run P ⟨dst, .binOp .shl T X Y T', ty, ps, af, g⟩ a W (.int .u64 ((x <<< (UInt64.ofNat y.toNat)).toNat : Int)) W := by
  refine run_int2 (F := F) hx hy (.inl rfl) ?_
  have hy2 : (UInt64.ofNat y.toNat).toNat = y.toNat := by rw [UInt64.toNat_ofNat']; exact Nat.mod_eq_of_lt (by omega)
  have e : IntKind.u64.wrap ((x.toNat : Int) * 2 ^ y.toNat) = ((x <<< (UInt64.ofNat y.toNat)).toNat : Int) := by
    rw [wrap_u64, UInt64.toNat_shiftLeft, hy2, Nat.mod_eq_of_lt (by omega : y.toNat < 64), Nat.shiftLeft_eq]
    have : ((x.toNat : Int) * 2 ^ y.toNat) = ((x.toNat * 2 ^ y.toNat : Nat) : Int) := by rw [Int.natCast_mul, Int.natCast_pow]; rfl
    rw [this]
    exact (Int.natCast_emod _ _).symm
  have h1 : ¬ (y < 0) := by omega
  have hm : min y.toNat 64 = y.toNat := by omega
  simp [Go.binOp, Op.shift, h1, IntKind.bits, hm, e]
theorem r_shl_i64 (F : Frm n l a) {x : Int} {k' : IntKind} {y : Nat} (hx : ev l X = some (.int .i64 x)) (hy : ev l Y = some (.int k' (y : Int))) (hy0 : y < 64) (h : -9223372036854775808 ≤ x * 2 ^ y ∧ x * 2 ^ y ≤ 9223372036854775807) : Run P ⟨dst, .binOp .shl T X Y T', ty, ps, af, g⟩ a W (.int .i64 (x * 2 ^ y)) W := by
  refine run_int2 (F := F) hx hy (.inl rfl) ?_
  have h1 : ¬ ((y : Int) < 0) := by omega
  have hm : min y 64 = y := by omega
  have e := wrap_i64 (x * 2 ^ y) h.1 h.2
  simp only [Go.binOp, Op.shift, if_neg h1, Int.toNat_natCast, IntKind.bits, hm, e]; rfl
theorem r_shl1_i64 (F : Frm n l a) {z : Nat} {k' : IntKind} (hx : ev l X = some (.int .i64 (z : Int))) (hy : ev l Y = some (.int k' 1)) (hz : z < 1000000) : Run P ⟨dst, .binOp .shl T X Y T', ty, ps, af, g⟩ a W (.int .i64 (2 * (z : Int))) W := by
  have h := r_shl_i64 (dst := dst) (ty := ty) (ps := ps) (af := af) (g := g) (W := W) (P := P) (T := T) (T' := T') F (y := 1) hx hy (by decide) (by omega)
  rw [show (z : Int) * 2 ^ 1 = 2 * (z : Int) by omega] at h
  exact h
theorem ofInt_nat (k : Nat) (x : Nat) : (BitVec.ofInt k (x : Int)).toNat = x % 2 ^ k := by
  rw [BitVec.toNat_ofInt]
  have : ((x : Int) % ((2 ^ k : Nat) : Int)) = ((x % 2 ^ k : Nat) : Int) := (Int.natCast_emod _ _).symm
  rw [this]; rfl
theorem r_xor_u64 (F : Frm n l a) {x y : UInt64} (hx : ev l X = some (.int .u64 (x.toNat : Int))) (hy : ev l Y = some (.int .u64 (y.toNat : Int))) : Run P ⟨dst, .binOp .xor T X Y T', ty, ps, af, g⟩ a W (.int .u64 ((x ^^^ y).toNat : Int)) W := by
  refine run_int (F := F) hx hy ?_
  have hx1 := x.toNat_lt
  have hy1 := y.toNat_lt
  have e : IntKind.u64.wrap (((BitVec.ofInt 64 (x.toNat : Int) ^^^ BitVec.ofInt 64 (y.toNat : Int)).toNat : Nat) : Int) = ((x ^^^ y).toNat : Int) := by
    have h2 := (x ^^^ y).toNat_lt
    rw [BitVec.toNat_xor, ofInt_nat, ofInt_nat, Nat.mod_eq_of_lt hx1, Nat.mod_eq_of_lt hy1, ← UInt64.toNat_xor, wrap_u64]
    omega
  simp only [Go.binOp, ne_eq, not_true_eq_false, if_false, Op.intBits, IntKind.bits]
  exact congrArg (fun z => Result.ok (Value.int _ z) W) e
theorem r_or1_i64 (F : Frm n l a) {z : Nat} (hx : ev l X = some (.int .i64 (2 * (z : Int)))) (hy : ev l Y = some (.int .i64 1)) (hz : z < 1000000) : Run P ⟨dst, .binOp .or T X Y T', ty, ps, af, g⟩ a W (.int .i64 (2 * (z : Int) + 1)) W := by
  refine run_int (F := F) hx hy ?_
  have e : IntKind.i64.wrap (((BitVec.ofInt 64 (2 * (z : Int)) ||| BitVec.ofInt 64 1).toNat : Nat) : Int) = 2 * (z : Int) + 1 := by
    have h1 : (2 * (z : Int)) = ((2 * z : Nat) : Int) := by omega
    have h2 := ofInt_nat 64 (2 * z)
    have h3 : (BitVec.ofInt 64 1).toNat = 1 := ofInt_nat 64 1
    have h4 : 2 * z ||| 1 = 2 * z + 1 := (Nat.two_pow_add_eq_or_of_lt (i := 1) (b := 1) (by decide) z).symm
    rw [h1, BitVec.toNat_or, h2, h3, Nat.mod_eq_of_lt (by omega), h4, wrap_i64 _ (by omega) (by omega)]
    omega
  simp only [Go.binOp, ne_eq, not_true_eq_false, if_false, Op.intBits, IntKind.bits]
  exact congrArg (fun z => Result.ok (Value.int _ z) W) e
theorem r_quo_i64 (F : Frm n l a) {x y : Int} (hx : ev l X = some (.int .i64 x)) (hy : ev l Y = some (.int .i64 y)) (hx0 : 0 ≤ x) (hx1 : x ≤ 9223372036854775807) (hy0 : 0 < y) : Run P ⟨dst, .binOp .quo T X Y T', ty, ps, af, g⟩ a W (.int .i64 (x / y)) W := by
  refine run_int (F := F) hx hy ?_
  have hz : ¬ (y = 0) := by omega
  have h1 : 0 ≤ x / y := Int.ediv_nonneg hx0 (by omega)
  have h2 : x / y ≤ x := Int.ediv_le_self _ hx0
  have e := wrap_i64 (x / y) (by omega) (by omega)
  simp only [Go.binOp, ne_eq, not_true_eq_false, if_false, Op.intDiv, if_neg hz, Int.tdiv_eq_ediv_of_nonneg hx0, e]; rfl
theorem r_neg_i64 (F : Frm n l a) {x : Int} (hx : ev l X = some (.int .i64 x)) (h0 : 0 ≤ x) (h1 : x ≤ 9223372036854775807) : Run P ⟨dst, .unOp .neg T X, ty, ps, af, g⟩ a W (.int .i64 (-x)) W := by
  have e := wrap_i64 (0 - x) (by omega) (by omega)
  simp [Run, execOp, F.eval hx, Op.unary, Op.intArith]
  rw [show (-x) = 0 - x by omega, e]
theorem r_conv_u32_u64 (F : Frm n l a) {x : UInt32} {S D : TypeId} {d : TypeDesc} (hS : P.underlying S = some d) (hD : P.underlying D = some (.int .u64)) (hx : ev l X = some (.int .u32 (x.toNat : Int))) : Run P ⟨dst, .convert S D X, ty, ps, af, g⟩ a W (.int .u64 (x.toUInt64.toNat : Int)) W := by
  have h := run_conv (F := F) (dst := dst) (ty := ty) (ps := ps) (af := af) (g := g) (W := W) hS hD hx
  have := x.toNat_lt
  rwa [wrap_u64, show ((x.toNat : Int) % 18446744073709551616) = (x.toUInt64.toNat : Int) by rw [UInt32.toNat_toUInt64]; omega] at h
theorem r_conv_u64_u32 (F : Frm n l a) {x : UInt64} {S D : TypeId} {d : TypeDesc} (hS : P.underlying S = some d) (hD : P.underlying D = some (.int .u32)) (hx : ev l X = some (.int .u64 (x.toNat : Int))) : Run P ⟨dst, .convert S D X, ty, ps, af, g⟩ a W (.int .u32 (x.toUInt32.toNat : Int)) W := by
  have h := run_conv (F := F) (dst := dst) (ty := ty) (ps := ps) (af := af) (g := g) (W := W) hS hD hx
  rwa [wrap_u32, show ((x.toNat : Int) % 4294967296) = (x.toUInt32.toNat : Int) by rw [UInt64.toNat_toUInt32]; omega] at h
theorem r_conv_u32_u8 (F : Frm n l a) {x : UInt32} {S D : TypeId} {d : TypeDesc} (hS : P.underlying S = some d) (hD : P.underlying D = some (.int .u8)) (hx : ev l X = some (.int .u32 (x.toNat : Int))) : Run P ⟨dst, .convert S D X, ty, ps, af, g⟩ a W (.int .u8 (x.toUInt8.toNat : Int)) W := by
  have h := run_conv (F := F) (dst := dst) (ty := ty) (ps := ps) (af := af) (g := g) (W := W) hS hD hx
  rwa [wrap_u8, show ((x.toNat : Int) % 256) = (x.toUInt8.toNat : Int) by rw [UInt32.toNat_toUInt8]; omega] at h
theorem r_conv_u64_u8 (F : Frm n l a) {x : UInt64} {S D : TypeId} {d : TypeDesc} (hS : P.underlying S = some d) (hD : P.underlying D = some (.int .u8)) (hx : ev l X = some (.int .u64 (x.toNat : Int))) : Run P ⟨dst, .convert S D X, ty, ps, af, g⟩ a W (.int .u8 (x.toUInt8.toNat : Int)) W := by
  have h := run_conv (F := F) (dst := dst) (ty := ty) (ps := ps) (af := af) (g := g) (W := W) hS hD hx
  rwa [wrap_u8, show ((x.toNat : Int) % 256) = (x.toUInt8.toNat : Int) by rw [UInt64.toNat_toUInt8]; omega] at h
theorem r_conv_u8_u64 (F : Frm n l a) {x : UInt8} {S D : TypeId} {d : TypeDesc} (hS : P.underlying S = some d) (hD : P.underlying D = some (.int .u64)) (hx : ev l X = some (.int .u8 (x.toNat : Int))) : Run P ⟨dst, .convert S D X, ty, ps, af, g⟩ a W (.int .u64 (x.toUInt64.toNat : Int)) W := by
  have h := run_conv (F := F) (dst := dst) (ty := ty) (ps := ps) (af := af) (g := g) (W := W) hS hD hx
  have := x.toNat_lt
  rwa [wrap_u64, show ((x.toNat : Int) % 18446744073709551616) = (x.toUInt64.toNat : Int) by rw [UInt8.toNat_toUInt64]; omega] at h
theorem r_conv_i64_u32 (F : Frm n l a) {x : Nat} {S D : TypeId} {d : TypeDesc} (hS : P.underlying S = some d) (hD : P.underlying D = some (.int .u32)) (hx : ev l X = some (.int .i64 (x : Int))) : Run P ⟨dst, .convert S D X, ty, ps, af, g⟩ a W (.int .u32 ((UInt32.ofNat x).toNat : Int)) W := by
  have h := run_conv (F := F) (dst := dst) (ty := ty) (ps := ps) (af := af) (g := g) (W := W) hS hD hx
  rwa [wrap_u32, show ((x : Int) % 4294967296) = ((UInt32.ofNat x).toNat : Int) by rw [UInt32.toNat_ofNat']; omega] at h
theorem r_conv_i64_u8 (F : Frm n l a) {x : Nat} {S D : TypeId} {d : TypeDesc} (hS : P.underlying S = some d) (hD : P.underlying D = some (.int .u8)) (hx : ev l X = some (.int .i64 (x : Int))) : Run P ⟨dst, .convert S D X, ty, ps, af, g⟩ a W (.int .u8 ((UInt8.ofNat x).toNat : Int)) W := by
  have h := run_conv (F := F) (dst := dst) (ty := ty) (ps := ps) (af := af) (g := g) (W := W) hS hD hx
  rwa [wrap_u8, show ((x : Int) % 256) = ((UInt8.ofNat x).toNat : Int) by rw [UInt8.toNat_ofNat']; omega] at h
theorem r_conv_i64_i64 (F : Frm n l a) {x : Int} {S D : TypeId} {d : TypeDesc} (hS : P.underlying S = some d) (hD : P.underlying D = some (.int .i64)) (hx : ev l X = some (.int .i64 x)) (h0 : -9223372036854775808 ≤ x) (h1 : x ≤ 9223372036854775807) : Run P ⟨dst, .convert S D X, ty, ps, af, g⟩ a W (.int .i64 x) W := by
  have h := run_conv (F := F) (dst := dst) (ty := ty) (ps := ps) (af := af) (g := g) (W := W) hS hD hx
  rwa [wrap_i64 _ h0 h1] at h
theorem r_index_str (F : Frm n l a) {T : TypeId} {s : ByteArray} {kd : IntKind} {i : Nat} {b : UInt8} (hT : P.underlying T = some .string) (hx : ev l X = some (.string s)) (hy : ev l Y = some (.int kd (i : Int))) (hb : s[i]? = some b) : Run P ⟨dst, .index T X Y, ty, ps, af, g⟩ a W (.int .u8 (b.toNat : Int)) W := by
  have h0 : (0 : Int) ≤ (i : Int) := by omega
  simp [Run, execOp, F.eval hx, F.eval hy, Instr.index, asIntOf, run_underlying hT, h0, hb]
theorem r_max_u32 (F : Frm n l a) {x y : UInt32} {ts : Array TypeId} (hx : ev l X = some (.int .u32 (x.toNat : Int))) (hy : ev l Y = some (.int .u32 (y.toNat : Int))) : Run P ⟨dst, .call { callee := .builtin .max, args := #[X, Y], argTypes := ts }, ty, ps, af, g⟩ a W (.int .u32 ((if x < y then y else x).toNat : Int)) W := by
  have e : ((x.toNat : Int) < (y.toNat : Int)) ↔ x < y := by rw [UInt32.lt_iff_toNat_lt]; omega
  by_cases h : x < y
  · simp [Run, execOp, resolve, invoke, builtin, F.eval hx, F.eval hy, Builtin.max_, Builtin.max2, e, h]
  · simp [Run, execOp, resolve, invoke, builtin, F.eval hx, F.eval hy, Builtin.max_, Builtin.max2, e, h]
theorem r_min_u32 (F : Frm n l a) {x y : UInt32} {ts : Array TypeId} (hx : ev l X = some (.int .u32 (x.toNat : Int))) (hy : ev l Y = some (.int .u32 (y.toNat : Int))) : Run P ⟨dst, .call { callee := .builtin .min, args := #[X, Y], argTypes := ts }, ty, ps, af, g⟩ a W (.int .u32 ((if y < x then y else x).toNat : Int)) W := by
  have e : ((y.toNat : Int) < (x.toNat : Int)) ↔ y < x := by rw [UInt32.lt_iff_toNat_lt]; omega
  by_cases h : y < x
  · simp [Run, execOp, resolve, invoke, builtin, F.eval hx, F.eval hy, Builtin.min_, Builtin.min2, e, h]
  · simp [Run, execOp, resolve, invoke, builtin, F.eval hx, F.eval hy, Builtin.min_, Builtin.min2, e, h]
end
end Go.Proofs.YtfkmaepcjognkaaDoor.Pad
