/- Numbers, bools and strings in a walk: one lemma an operation. No condition. -/
import Derived.Test.YtfkmaepcjognkaaDoorLib3
namespace Go.Proofs.YtfkmaepcjognkaaDoor.Pad
open Go
set_option linter.unusedSimpArgs false
section
variable {P : Program} {n : Nat} {l : Env} {a : Act} {W : World} {dst : Option Nat} {ty : TypeId} {ps : String} {af : Array Edge} {g : Option (Nat × Bool)} {T T' : TypeId} {X Y : Operand}
theorem run_int {F : Frm n l a} {b : BinOp} {k : IntKind} {x y : Int} {v : Value} (hx : ev l X = some (.int k x)) (hy : ev l Y = some (.int k y)) (h : (Go.binOp b T (.int k x) (.int k y)).run P W = .ok v W) : Run P ⟨dst, .binOp b T X Y T', ty, ps, af, g⟩ a W v W := by
  simp only [Run, execOp, F.eval hx, F.eval hy]
  have h2 : (eqGuard b T X Y (.int k x) (.int k y)).run P W = .ok () W := by cases b <;> simp [eqGuard]
  simp [h2, h]
theorem wrap_u8 (z : Int) : IntKind.u8.wrap z = z % 256 := by simp [IntKind.wrap, IntKind.bits, IntKind.signed]
theorem wrap_u32 (z : Int) : IntKind.u32.wrap z = z % 4294967296 := by simp [IntKind.wrap, IntKind.bits, IntKind.signed]
theorem wrap_u64 (z : Int) : IntKind.u64.wrap z = z % 18446744073709551616 := by simp [IntKind.wrap, IntKind.bits, IntKind.signed]
theorem wrap_i64 (z : Int) (h0 : -9223372036854775808 ≤ z) (h1 : z ≤ 9223372036854775807) : IntKind.i64.wrap z = z := by
  simp only [IntKind.wrap, IntKind.bits, IntKind.signed, Bool.true_and, decide_eq_true_eq]
  split <;> rename_i h <;> simp at h ⊢ <;> omega

theorem r_eql_u8 (F : Frm n l a) {x y : UInt8} (hx : ev l X = some (.int .u8 (x.toNat : Int))) (hy : ev l Y = some (.int .u8 (y.toNat : Int))) : Run P ⟨dst, .binOp .eql T X Y T', ty, ps, af, g⟩ a W (.bool (decide (x = y))) W := by
  refine run_int (F := F) hx hy ?_
  have h : ((x.toNat : Int) == (y.toNat : Int)) = decide (x = y) := by rw [Bool.eq_iff_iff]; simp [← UInt8.toNat_inj]; omega
  simp [Go.binOp, Op.intCmp, bne, h]
theorem r_neq_u8 (F : Frm n l a) {x y : UInt8} (hx : ev l X = some (.int .u8 (x.toNat : Int))) (hy : ev l Y = some (.int .u8 (y.toNat : Int))) : Run P ⟨dst, .binOp .neq T X Y T', ty, ps, af, g⟩ a W (.bool (!decide (x = y))) W := by
  refine run_int (F := F) hx hy ?_
  have h : ((x.toNat : Int) == (y.toNat : Int)) = decide (x = y) := by rw [Bool.eq_iff_iff]; simp [← UInt8.toNat_inj]; omega
  simp [Go.binOp, Op.intCmp, bne, h]
theorem r_lss_u8 (F : Frm n l a) {x y : UInt8} (hx : ev l X = some (.int .u8 (x.toNat : Int))) (hy : ev l Y = some (.int .u8 (y.toNat : Int))) : Run P ⟨dst, .binOp .lss T X Y T', ty, ps, af, g⟩ a W (.bool (decide (x < y))) W := by
  refine run_int (F := F) hx hy ?_
  simp [Go.binOp, Op.intCmp, UInt8.lt_iff_toNat_lt, UInt8.le_iff_toNat_le]
theorem r_leq_u8 (F : Frm n l a) {x y : UInt8} (hx : ev l X = some (.int .u8 (x.toNat : Int))) (hy : ev l Y = some (.int .u8 (y.toNat : Int))) : Run P ⟨dst, .binOp .leq T X Y T', ty, ps, af, g⟩ a W (.bool (decide (x ≤ y))) W := by
  refine run_int (F := F) hx hy ?_
  simp [Go.binOp, Op.intCmp, UInt8.lt_iff_toNat_lt, UInt8.le_iff_toNat_le]
theorem r_gtr_u8 (F : Frm n l a) {x y : UInt8} (hx : ev l X = some (.int .u8 (x.toNat : Int))) (hy : ev l Y = some (.int .u8 (y.toNat : Int))) : Run P ⟨dst, .binOp .gtr T X Y T', ty, ps, af, g⟩ a W (.bool (decide (y < x))) W := by
  refine run_int (F := F) hx hy ?_
  simp [Go.binOp, Op.intCmp, UInt8.lt_iff_toNat_lt, UInt8.le_iff_toNat_le]
theorem r_geq_u8 (F : Frm n l a) {x y : UInt8} (hx : ev l X = some (.int .u8 (x.toNat : Int))) (hy : ev l Y = some (.int .u8 (y.toNat : Int))) : Run P ⟨dst, .binOp .geq T X Y T', ty, ps, af, g⟩ a W (.bool (decide (y ≤ x))) W := by
  refine run_int (F := F) hx hy ?_
  simp [Go.binOp, Op.intCmp, UInt8.lt_iff_toNat_lt, UInt8.le_iff_toNat_le]
theorem r_add_u8 (F : Frm n l a) {x y : UInt8} (hx : ev l X = some (.int .u8 (x.toNat : Int))) (hy : ev l Y = some (.int .u8 (y.toNat : Int))) : Run P ⟨dst, .binOp .add T X Y T', ty, ps, af, g⟩ a W (.int .u8 ((x + y).toNat : Int)) W := by
  refine run_int (F := F) hx hy ?_
  have h : IntKind.u8.wrap ((x.toNat : Int) + (y.toNat : Int)) = ((x + y).toNat : Int) := by
    have hx1 := x.toNat_lt; have hy1 := y.toNat_lt
    rw [wrap_u8, UInt8.toNat_add]; omega
  simp [Go.binOp, Op.intArith, h]
theorem r_sub_u8 (F : Frm n l a) {x y : UInt8} (hx : ev l X = some (.int .u8 (x.toNat : Int))) (hy : ev l Y = some (.int .u8 (y.toNat : Int))) : Run P ⟨dst, .binOp .sub T X Y T', ty, ps, af, g⟩ a W (.int .u8 ((x - y).toNat : Int)) W := by
  refine run_int (F := F) hx hy ?_
  have h : IntKind.u8.wrap ((x.toNat : Int) - (y.toNat : Int)) = ((x - y).toNat : Int) := by
    have hx1 := x.toNat_lt; have hy1 := y.toNat_lt
    rw [wrap_u8, UInt8.toNat_sub]; omega
  simp [Go.binOp, Op.intArith, h]
theorem r_mul_u8 (F : Frm n l a) {x y : UInt8} (hx : ev l X = some (.int .u8 (x.toNat : Int))) (hy : ev l Y = some (.int .u8 (y.toNat : Int))) : Run P ⟨dst, .binOp .mul T X Y T', ty, ps, af, g⟩ a W (.int .u8 ((x * y).toNat : Int)) W := by
  refine run_int (F := F) hx hy ?_
  have h : IntKind.u8.wrap ((x.toNat : Int) * (y.toNat : Int)) = ((x * y).toNat : Int) := by
    have hx1 := x.toNat_lt; have hy1 := y.toNat_lt
    rw [wrap_u8, UInt8.toNat_mul, ← Int.natCast_mul]; exact (Int.natCast_emod _ _).symm
  simp [Go.binOp, Op.intArith, h]
theorem r_rem_u8 (F : Frm n l a) {x y : UInt8} (hx : ev l X = some (.int .u8 (x.toNat : Int))) (hy : ev l Y = some (.int .u8 (y.toNat : Int))) (hy0 : y.toNat ≠ 0) : Run P ⟨dst, .binOp .rem T X Y T', ty, ps, af, g⟩ a W (.int .u8 ((x % y).toNat : Int)) W := by
  refine run_int (F := F) hx hy ?_
  have h : Int.tmod (x.toNat : Int) (y.toNat : Int) = ((x % y).toNat : Int) := by rw [UInt8.toNat_mod]; rfl
  have hz : ¬ ((y.toNat : Int) = 0) := by omega
  simp only [Go.binOp, ne_eq, not_true_eq_false, if_false, Op.intDiv, if_neg hz, h]; rfl
theorem r_eql_u32 (F : Frm n l a) {x y : UInt32} (hx : ev l X = some (.int .u32 (x.toNat : Int))) (hy : ev l Y = some (.int .u32 (y.toNat : Int))) : Run P ⟨dst, .binOp .eql T X Y T', ty, ps, af, g⟩ a W (.bool (decide (x = y))) W := by
  refine run_int (F := F) hx hy ?_
  have h : ((x.toNat : Int) == (y.toNat : Int)) = decide (x = y) := by rw [Bool.eq_iff_iff]; simp [← UInt32.toNat_inj]; omega
  simp [Go.binOp, Op.intCmp, bne, h]
theorem r_neq_u32 (F : Frm n l a) {x y : UInt32} (hx : ev l X = some (.int .u32 (x.toNat : Int))) (hy : ev l Y = some (.int .u32 (y.toNat : Int))) : Run P ⟨dst, .binOp .neq T X Y T', ty, ps, af, g⟩ a W (.bool (!decide (x = y))) W := by
  refine run_int (F := F) hx hy ?_
  have h : ((x.toNat : Int) == (y.toNat : Int)) = decide (x = y) := by rw [Bool.eq_iff_iff]; simp [← UInt32.toNat_inj]; omega
  simp [Go.binOp, Op.intCmp, bne, h]
theorem r_lss_u32 (F : Frm n l a) {x y : UInt32} (hx : ev l X = some (.int .u32 (x.toNat : Int))) (hy : ev l Y = some (.int .u32 (y.toNat : Int))) : Run P ⟨dst, .binOp .lss T X Y T', ty, ps, af, g⟩ a W (.bool (decide (x < y))) W := by
  refine run_int (F := F) hx hy ?_
  simp [Go.binOp, Op.intCmp, UInt32.lt_iff_toNat_lt, UInt32.le_iff_toNat_le]
theorem r_leq_u32 (F : Frm n l a) {x y : UInt32} (hx : ev l X = some (.int .u32 (x.toNat : Int))) (hy : ev l Y = some (.int .u32 (y.toNat : Int))) : Run P ⟨dst, .binOp .leq T X Y T', ty, ps, af, g⟩ a W (.bool (decide (x ≤ y))) W := by
  refine run_int (F := F) hx hy ?_
  simp [Go.binOp, Op.intCmp, UInt32.lt_iff_toNat_lt, UInt32.le_iff_toNat_le]
theorem r_gtr_u32 (F : Frm n l a) {x y : UInt32} (hx : ev l X = some (.int .u32 (x.toNat : Int))) (hy : ev l Y = some (.int .u32 (y.toNat : Int))) : Run P ⟨dst, .binOp .gtr T X Y T', ty, ps, af, g⟩ a W (.bool (decide (y < x))) W := by
  refine run_int (F := F) hx hy ?_
  simp [Go.binOp, Op.intCmp, UInt32.lt_iff_toNat_lt, UInt32.le_iff_toNat_le]
theorem r_geq_u32 (F : Frm n l a) {x y : UInt32} (hx : ev l X = some (.int .u32 (x.toNat : Int))) (hy : ev l Y = some (.int .u32 (y.toNat : Int))) : Run P ⟨dst, .binOp .geq T X Y T', ty, ps, af, g⟩ a W (.bool (decide (y ≤ x))) W := by
  refine run_int (F := F) hx hy ?_
  simp [Go.binOp, Op.intCmp, UInt32.lt_iff_toNat_lt, UInt32.le_iff_toNat_le]
theorem r_add_u32 (F : Frm n l a) {x y : UInt32} (hx : ev l X = some (.int .u32 (x.toNat : Int))) (hy : ev l Y = some (.int .u32 (y.toNat : Int))) : Run P ⟨dst, .binOp .add T X Y T', ty, ps, af, g⟩ a W (.int .u32 ((x + y).toNat : Int)) W := by
  refine run_int (F := F) hx hy ?_
  have h : IntKind.u32.wrap ((x.toNat : Int) + (y.toNat : Int)) = ((x + y).toNat : Int) := by
    have hx1 := x.toNat_lt; have hy1 := y.toNat_lt
    rw [wrap_u32, UInt32.toNat_add]; omega
  simp [Go.binOp, Op.intArith, h]
theorem r_sub_u32 (F : Frm n l a) {x y : UInt32} (hx : ev l X = some (.int .u32 (x.toNat : Int))) (hy : ev l Y = some (.int .u32 (y.toNat : Int))) : Run P ⟨dst, .binOp .sub T X Y T', ty, ps, af, g⟩ a W (.int .u32 ((x - y).toNat : Int)) W := by
  refine run_int (F := F) hx hy ?_
  have h : IntKind.u32.wrap ((x.toNat : Int) - (y.toNat : Int)) = ((x - y).toNat : Int) := by
    have hx1 := x.toNat_lt; have hy1 := y.toNat_lt
    rw [wrap_u32, UInt32.toNat_sub]; omega
  simp [Go.binOp, Op.intArith, h]
theorem r_mul_u32 (F : Frm n l a) {x y : UInt32} (hx : ev l X = some (.int .u32 (x.toNat : Int))) (hy : ev l Y = some (.int .u32 (y.toNat : Int))) : Run P ⟨dst, .binOp .mul T X Y T', ty, ps, af, g⟩ a W (.int .u32 ((x * y).toNat : Int)) W := by
  refine run_int (F := F) hx hy ?_
  have h : IntKind.u32.wrap ((x.toNat : Int) * (y.toNat : Int)) = ((x * y).toNat : Int) := by
    have hx1 := x.toNat_lt; have hy1 := y.toNat_lt
    rw [wrap_u32, UInt32.toNat_mul, ← Int.natCast_mul]; exact (Int.natCast_emod _ _).symm
  simp [Go.binOp, Op.intArith, h]
theorem r_rem_u32 (F : Frm n l a) {x y : UInt32} (hx : ev l X = some (.int .u32 (x.toNat : Int))) (hy : ev l Y = some (.int .u32 (y.toNat : Int))) (hy0 : y.toNat ≠ 0) : Run P ⟨dst, .binOp .rem T X Y T', ty, ps, af, g⟩ a W (.int .u32 ((x % y).toNat : Int)) W := by
  refine run_int (F := F) hx hy ?_
  have h : Int.tmod (x.toNat : Int) (y.toNat : Int) = ((x % y).toNat : Int) := by rw [UInt32.toNat_mod]; rfl
  have hz : ¬ ((y.toNat : Int) = 0) := by omega
  simp only [Go.binOp, ne_eq, not_true_eq_false, if_false, Op.intDiv, if_neg hz, h]; rfl
theorem r_eql_u64 (F : Frm n l a) {x y : UInt64} (hx : ev l X = some (.int .u64 (x.toNat : Int))) (hy : ev l Y = some (.int .u64 (y.toNat : Int))) : Run P ⟨dst, .binOp .eql T X Y T', ty, ps, af, g⟩ a W (.bool (decide (x = y))) W := by
  refine run_int (F := F) hx hy ?_
  have h : ((x.toNat : Int) == (y.toNat : Int)) = decide (x = y) := by rw [Bool.eq_iff_iff]; simp [← UInt64.toNat_inj]; omega
  simp [Go.binOp, Op.intCmp, bne, h]
theorem r_neq_u64 (F : Frm n l a) {x y : UInt64} (hx : ev l X = some (.int .u64 (x.toNat : Int))) (hy : ev l Y = some (.int .u64 (y.toNat : Int))) : Run P ⟨dst, .binOp .neq T X Y T', ty, ps, af, g⟩ a W (.bool (!decide (x = y))) W := by
  refine run_int (F := F) hx hy ?_
  have h : ((x.toNat : Int) == (y.toNat : Int)) = decide (x = y) := by rw [Bool.eq_iff_iff]; simp [← UInt64.toNat_inj]; omega
  simp [Go.binOp, Op.intCmp, bne, h]
theorem r_lss_u64 (F : Frm n l a) {x y : UInt64} (hx : ev l X = some (.int .u64 (x.toNat : Int))) (hy : ev l Y = some (.int .u64 (y.toNat : Int))) : Run P ⟨dst, .binOp .lss T X Y T', ty, ps, af, g⟩ a W (.bool (decide (x < y))) W := by
  refine run_int (F := F) hx hy ?_
  simp [Go.binOp, Op.intCmp, UInt64.lt_iff_toNat_lt, UInt64.le_iff_toNat_le]
theorem r_leq_u64 (F : Frm n l a) {x y : UInt64} (hx : ev l X = some (.int .u64 (x.toNat : Int))) (hy : ev l Y = some (.int .u64 (y.toNat : Int))) : Run P ⟨dst, .binOp .leq T X Y T', ty, ps, af, g⟩ a W (.bool (decide (x ≤ y))) W := by
  refine run_int (F := F) hx hy ?_
  simp [Go.binOp, Op.intCmp, UInt64.lt_iff_toNat_lt, UInt64.le_iff_toNat_le]
theorem r_gtr_u64 (F : Frm n l a) {x y : UInt64} (hx : ev l X = some (.int .u64 (x.toNat : Int))) (hy : ev l Y = some (.int .u64 (y.toNat : Int))) : Run P ⟨dst, .binOp .gtr T X Y T', ty, ps, af, g⟩ a W (.bool (decide (y < x))) W := by
  refine run_int (F := F) hx hy ?_
  simp [Go.binOp, Op.intCmp, UInt64.lt_iff_toNat_lt, UInt64.le_iff_toNat_le]
theorem r_geq_u64 (F : Frm n l a) {x y : UInt64} (hx : ev l X = some (.int .u64 (x.toNat : Int))) (hy : ev l Y = some (.int .u64 (y.toNat : Int))) : Run P ⟨dst, .binOp .geq T X Y T', ty, ps, af, g⟩ a W (.bool (decide (y ≤ x))) W := by
  refine run_int (F := F) hx hy ?_
  simp [Go.binOp, Op.intCmp, UInt64.lt_iff_toNat_lt, UInt64.le_iff_toNat_le]
theorem r_add_u64 (F : Frm n l a) {x y : UInt64} (hx : ev l X = some (.int .u64 (x.toNat : Int))) (hy : ev l Y = some (.int .u64 (y.toNat : Int))) : Run P ⟨dst, .binOp .add T X Y T', ty, ps, af, g⟩ a W (.int .u64 ((x + y).toNat : Int)) W := by
  refine run_int (F := F) hx hy ?_
  have h : IntKind.u64.wrap ((x.toNat : Int) + (y.toNat : Int)) = ((x + y).toNat : Int) := by
    have hx1 := x.toNat_lt; have hy1 := y.toNat_lt
    rw [wrap_u64, UInt64.toNat_add]; omega
  simp [Go.binOp, Op.intArith, h]
theorem r_sub_u64 (F : Frm n l a) {x y : UInt64} (hx : ev l X = some (.int .u64 (x.toNat : Int))) (hy : ev l Y = some (.int .u64 (y.toNat : Int))) : Run P ⟨dst, .binOp .sub T X Y T', ty, ps, af, g⟩ a W (.int .u64 ((x - y).toNat : Int)) W := by
  refine run_int (F := F) hx hy ?_
  have h : IntKind.u64.wrap ((x.toNat : Int) - (y.toNat : Int)) = ((x - y).toNat : Int) := by
    have hx1 := x.toNat_lt; have hy1 := y.toNat_lt
    rw [wrap_u64, UInt64.toNat_sub]; omega
  simp [Go.binOp, Op.intArith, h]
theorem r_mul_u64 (F : Frm n l a) {x y : UInt64} (hx : ev l X = some (.int .u64 (x.toNat : Int))) (hy : ev l Y = some (.int .u64 (y.toNat : Int))) : Run P ⟨dst, .binOp .mul T X Y T', ty, ps, af, g⟩ a W (.int .u64 ((x * y).toNat : Int)) W := by
  refine run_int (F := F) hx hy ?_
  have h : IntKind.u64.wrap ((x.toNat : Int) * (y.toNat : Int)) = ((x * y).toNat : Int) := by
    have hx1 := x.toNat_lt; have hy1 := y.toNat_lt
    rw [wrap_u64, UInt64.toNat_mul, ← Int.natCast_mul]; exact (Int.natCast_emod _ _).symm
  simp [Go.binOp, Op.intArith, h]
theorem r_rem_u64 (F : Frm n l a) {x y : UInt64} (hx : ev l X = some (.int .u64 (x.toNat : Int))) (hy : ev l Y = some (.int .u64 (y.toNat : Int))) (hy0 : y.toNat ≠ 0) : Run P ⟨dst, .binOp .rem T X Y T', ty, ps, af, g⟩ a W (.int .u64 ((x % y).toNat : Int)) W := by
  refine run_int (F := F) hx hy ?_
  have h : Int.tmod (x.toNat : Int) (y.toNat : Int) = ((x % y).toNat : Int) := by rw [UInt64.toNat_mod]; rfl
  have hz : ¬ ((y.toNat : Int) = 0) := by omega
  simp only [Go.binOp, ne_eq, not_true_eq_false, if_false, Op.intDiv, if_neg hz, h]; rfl
theorem r_eql_i64 (F : Frm n l a) {x y : Int} (hx : ev l X = some (.int .i64 x)) (hy : ev l Y = some (.int .i64 y)) : Run P ⟨dst, .binOp .eql T X Y T', ty, ps, af, g⟩ a W (.bool (decide (x = y))) W := by
  refine run_int (F := F) hx hy ?_
  have h : (x == y) = decide (x = y) := by rw [Bool.eq_iff_iff]; simp
  simp [Go.binOp, Op.intCmp, bne, h]
theorem r_neq_i64 (F : Frm n l a) {x y : Int} (hx : ev l X = some (.int .i64 x)) (hy : ev l Y = some (.int .i64 y)) : Run P ⟨dst, .binOp .neq T X Y T', ty, ps, af, g⟩ a W (.bool (!decide (x = y))) W := by
  refine run_int (F := F) hx hy ?_
  have h : (x == y) = decide (x = y) := by rw [Bool.eq_iff_iff]; simp
  simp [Go.binOp, Op.intCmp, bne, h]
theorem r_lss_i64 (F : Frm n l a) {x y : Int} (hx : ev l X = some (.int .i64 x)) (hy : ev l Y = some (.int .i64 y)) : Run P ⟨dst, .binOp .lss T X Y T', ty, ps, af, g⟩ a W (.bool (decide (x < y))) W := by
  refine run_int (F := F) hx hy ?_
  simp [Go.binOp, Op.intCmp]
theorem r_leq_i64 (F : Frm n l a) {x y : Int} (hx : ev l X = some (.int .i64 x)) (hy : ev l Y = some (.int .i64 y)) : Run P ⟨dst, .binOp .leq T X Y T', ty, ps, af, g⟩ a W (.bool (decide (x ≤ y))) W := by
  refine run_int (F := F) hx hy ?_
  simp [Go.binOp, Op.intCmp]
theorem r_gtr_i64 (F : Frm n l a) {x y : Int} (hx : ev l X = some (.int .i64 x)) (hy : ev l Y = some (.int .i64 y)) : Run P ⟨dst, .binOp .gtr T X Y T', ty, ps, af, g⟩ a W (.bool (decide (y < x))) W := by
  refine run_int (F := F) hx hy ?_
  simp [Go.binOp, Op.intCmp]
theorem r_geq_i64 (F : Frm n l a) {x y : Int} (hx : ev l X = some (.int .i64 x)) (hy : ev l Y = some (.int .i64 y)) : Run P ⟨dst, .binOp .geq T X Y T', ty, ps, af, g⟩ a W (.bool (decide (y ≤ x))) W := by
  refine run_int (F := F) hx hy ?_
  simp [Go.binOp, Op.intCmp]
theorem r_add_i64 (F : Frm n l a) {x y : Int} (hx : ev l X = some (.int .i64 x)) (hy : ev l Y = some (.int .i64 y)) (h : -9223372036854775808 ≤ x + y ∧ x + y ≤ 9223372036854775807) : Run P ⟨dst, .binOp .add T X Y T', ty, ps, af, g⟩ a W (.int .i64 (x + y)) W := by
  refine run_int (F := F) hx hy ?_
  simp [Go.binOp, Op.intArith, wrap_i64 _ h.1 h.2]
theorem r_sub_i64 (F : Frm n l a) {x y : Int} (hx : ev l X = some (.int .i64 x)) (hy : ev l Y = some (.int .i64 y)) (h : -9223372036854775808 ≤ x - y ∧ x - y ≤ 9223372036854775807) : Run P ⟨dst, .binOp .sub T X Y T', ty, ps, af, g⟩ a W (.int .i64 (x - y)) W := by
  refine run_int (F := F) hx hy ?_
  simp [Go.binOp, Op.intArith, wrap_i64 _ h.1 h.2]
theorem r_mul_i64 (F : Frm n l a) {x y : Int} (hx : ev l X = some (.int .i64 x)) (hy : ev l Y = some (.int .i64 y)) (h : -9223372036854775808 ≤ x * y ∧ x * y ≤ 9223372036854775807) : Run P ⟨dst, .binOp .mul T X Y T', ty, ps, af, g⟩ a W (.int .i64 (x * y)) W := by
  refine run_int (F := F) hx hy ?_
  simp [Go.binOp, Op.intArith, wrap_i64 _ h.1 h.2]
theorem r_rem_i64 (F : Frm n l a) {x y : Int} (hx : ev l X = some (.int .i64 x)) (hy : ev l Y = some (.int .i64 y)) (hx0 : 0 ≤ x) (hy0 : 0 < y) : Run P ⟨dst, .binOp .rem T X Y T', ty, ps, af, g⟩ a W (.int .i64 (x % y)) W := by
  refine run_int (F := F) hx hy ?_
  have hz : ¬ (y = 0) := by omega
  simp only [Go.binOp, ne_eq, not_true_eq_false, if_false, Op.intDiv, if_neg hz, Int.tmod_eq_emod_of_nonneg hx0]; rfl
theorem r_eql_bool (F : Frm n l a) {x y : Bool} (hT : P.underlying T = some .bool) (hx : ev l X = some (.bool x)) (hy : ev l Y = some (.bool y)) : Run P ⟨dst, .binOp .eql T X Y T', ty, ps, af, g⟩ a W (.bool (x == y)) W := by
  simp [Run, execOp, F.eval hx, F.eval hy, eqGuard, Go.binOp, Op.equal, Op.maxDepth, run_equalIn_bool' W 9999 T x y hT]
theorem r_neq_bool (F : Frm n l a) {x y : Bool} (hT : P.underlying T = some .bool) (hx : ev l X = some (.bool x)) (hy : ev l Y = some (.bool y)) : Run P ⟨dst, .binOp .neq T X Y T', ty, ps, af, g⟩ a W (.bool (x != y)) W := by
  simp [Run, execOp, F.eval hx, F.eval hy, eqGuard, Go.binOp, Op.equal, Op.maxDepth, run_equalIn_bool' W 9999 T x y hT, bne]
theorem str_eq (x y : ByteArray) : (x.toList == y.toList) = decide (x = y) := by
  rw [← beq_toListBytes, Bool.eq_iff_iff]
  obtain ⟨⟨x⟩⟩ := x
  obtain ⟨⟨y⟩⟩ := y
  simp only [decide_eq_true_eq, ByteArray.mk.injEq]
  exact beq_iff_eq (a := (⟨x⟩ : Array UInt8)) (b := ⟨y⟩)
theorem r_eql_string (F : Frm n l a) {x y : ByteArray} (hx : ev l X = some (.string x)) (hy : ev l Y = some (.string y)) : Run P ⟨dst, .binOp .eql T X Y T', ty, ps, af, g⟩ a W (.bool (decide (x = y))) W := by
  simp [Run, execOp, F.eval hx, F.eval hy, eqGuard, Go.binOp, Op.stringOp, str_eq]
theorem r_neq_string (F : Frm n l a) {x y : ByteArray} (hx : ev l X = some (.string x)) (hy : ev l Y = some (.string y)) : Run P ⟨dst, .binOp .neq T X Y T', ty, ps, af, g⟩ a W (.bool (!decide (x = y))) W := by
  simp [Run, execOp, F.eval hx, F.eval hy, eqGuard, Go.binOp, Op.stringOp, str_eq]
theorem r_add_string (F : Frm n l a) {x y : ByteArray} (hx : ev l X = some (.string x)) (hy : ev l Y = some (.string y)) (h : x.size + y.size ≤ 9223372036854775807) : Run P ⟨dst, .binOp .add T X Y T', ty, ps, af, g⟩ a W (.string (x ++ y)) W := by
  have h' : ¬ (9223372036854775807 < (x.size : Int) + (y.size : Int)) := by omega
  simp [Run, execOp, F.eval hx, F.eval hy, eqGuard, Go.binOp, Op.stringOp, IntKind.max, IntKind.bits, IntKind.signed, h']
theorem run_conv {F : Frm n l a} {k k' : IntKind} {x : Int} {S D : TypeId} {d : TypeDesc} (hS : P.underlying S = some d) (hD : P.underlying D = some (.int k')) (hx : ev l X = some (.int k x)) : Run P ⟨dst, .convert S D X, ty, ps, af, g⟩ a W (.int k' (k'.wrap x)) W := by
  simp [Run, execOp, F.eval hx, Go.convert, run_underlying hS, run_underlying hD, Conv.intToInt]
theorem r_conv_u8_i64 (F : Frm n l a) {x : UInt8} {S D : TypeId} {d : TypeDesc} (hS : P.underlying S = some d) (hD : P.underlying D = some (.int .i64)) (hx : ev l X = some (.int .u8 (x.toNat : Int))) : Run P ⟨dst, .convert S D X, ty, ps, af, g⟩ a W (.int .i64 (x.toNat : Int)) W := by
  have h := run_conv (F := F) (dst := dst) (ty := ty) (ps := ps) (af := af) (g := g) (W := W) hS hD hx
  have := x.toNat_lt
  rwa [wrap_i64 _ (by omega) (by omega)] at h
theorem r_conv_u32_i64 (F : Frm n l a) {x : UInt32} {S D : TypeId} {d : TypeDesc} (hS : P.underlying S = some d) (hD : P.underlying D = some (.int .i64)) (hx : ev l X = some (.int .u32 (x.toNat : Int))) : Run P ⟨dst, .convert S D X, ty, ps, af, g⟩ a W (.int .i64 (x.toNat : Int)) W := by
  have h := run_conv (F := F) (dst := dst) (ty := ty) (ps := ps) (af := af) (g := g) (W := W) hS hD hx
  have := x.toNat_lt
  rwa [wrap_i64 _ (by omega) (by omega)] at h
theorem r_conv_u8_u32 (F : Frm n l a) {x : UInt8} {S D : TypeId} {d : TypeDesc} (hS : P.underlying S = some d) (hD : P.underlying D = some (.int .u32)) (hx : ev l X = some (.int .u8 (x.toNat : Int))) : Run P ⟨dst, .convert S D X, ty, ps, af, g⟩ a W (.int .u32 (x.toUInt32.toNat : Int)) W := by
  have h := run_conv (F := F) (dst := dst) (ty := ty) (ps := ps) (af := af) (g := g) (W := W) hS hD hx
  have := x.toNat_lt
  rwa [wrap_u32, show ((x.toNat : Int) % 4294967296) = (x.toUInt32.toNat : Int) by rw [UInt8.toNat_toUInt32]; omega] at h
theorem r_max_i64 (F : Frm n l a) {x y : Int} {ts : Array TypeId} (hx : ev l X = some (.int .i64 x)) (hy : ev l Y = some (.int .i64 y)) : Run P ⟨dst, .call { callee := .builtin .max, args := #[X, Y], argTypes := ts }, ty, ps, af, g⟩ a W (.int .i64 (if x < y then y else x)) W := by
  simp [Run, execOp, resolve, invoke, builtin, F.eval hx, F.eval hy, Builtin.max_, Builtin.max2]
theorem r_min_i64 (F : Frm n l a) {x y : Int} {ts : Array TypeId} (hx : ev l X = some (.int .i64 x)) (hy : ev l Y = some (.int .i64 y)) : Run P ⟨dst, .call { callee := .builtin .min, args := #[X, Y], argTypes := ts }, ty, ps, af, g⟩ a W (.int .i64 (if y < x then y else x)) W := by
  simp [Run, execOp, resolve, invoke, builtin, F.eval hx, F.eval hy, Builtin.min_, Builtin.min2]
end
end Go.Proofs.YtfkmaepcjognkaaDoor.Pad
