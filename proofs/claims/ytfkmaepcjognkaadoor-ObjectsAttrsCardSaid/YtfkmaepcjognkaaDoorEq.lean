/- '==' of structs and arrays. No condition. -/
import Derived.Test.YtfkmaepcjognkaaDoorArith
import Derived.ChangeKeysEq
namespace Go.Proofs.YtfkmaepcjognkaaDoor.Pad
open Go
section
variable {P : Program} {T E : TypeId} {d0 : Nat}
def EqV (P : Program) (T : TypeId) (d0 : Nat) (a b : Value) (r : Bool) : Prop := ∀ d W, (Op.equalIn (d + d0) T a b).run P W = .ok r W
def EqF (P : Program) (d0 : Nat) (xs ys : List Value) (fs : List Field) (r : Bool) : Prop := ∀ d W, (Op.eqFields (d + d0) xs.toArray ys.toArray fs).run P W = .ok r W
def EqI (P : Program) (E : TypeId) (k d0 : Nat) (xs ys : List Value) (is : List Nat) (r : Bool) : Prop := ∀ d W, (Op.eqItems (d + d0) E k xs.toArray ys.toArray is).run P W = .ok r W
theorem EqV.up {a b : Value} {r : Bool} (h : EqV P T d0 a b r) (k : Nat) : EqV P T (d0 + k) a b r := fun d W => by
  rw [show d + (d0 + k) = (d + k) + d0 by omega]; exact h _ W
theorem eqv_int {k k' : IntKind} {x y : Int} (hT : P.underlying T = some (.int k')) : EqV P T 1 (.int k x) (.int k y) (x == y) := fun d W => run_equalIn_int W d T k k' x y hT
theorem eqv_u8 {k' : IntKind} {x y : UInt8} (hT : P.underlying T = some (.int k')) : EqV P T 1 (.int .u8 (x.toNat : Int)) (.int .u8 (y.toNat : Int)) (decide (x = y)) := fun d W => by
  rw [eqv_int hT d W]; congr 1; rw [Bool.eq_iff_iff]; simp [← UInt8.toNat_inj]; omega
theorem eqv_u32 {k' : IntKind} {x y : UInt32} (hT : P.underlying T = some (.int k')) : EqV P T 1 (.int .u32 (x.toNat : Int)) (.int .u32 (y.toNat : Int)) (decide (x = y)) := fun d W => by
  rw [eqv_int hT d W]; congr 1; rw [Bool.eq_iff_iff]; simp [← UInt32.toNat_inj]; omega
theorem eqv_i64 {k' : IntKind} {x y : Int} (hT : P.underlying T = some (.int k')) : EqV P T 1 (.int .i64 x) (.int .i64 y) (decide (x = y)) := fun d W => by
  rw [eqv_int hT d W]; rfl
theorem eqv_bool {x y : Bool} (hT : P.underlying T = some .bool) : EqV P T 1 (.bool x) (.bool y) (decide (x = y)) := fun d W => by
  rw [run_equalIn_bool' W d T x y hT]; cases x <;> cases y <;> rfl
theorem eqv_string {x y : ByteArray} (hT : P.underlying T = some .string) : EqV P T 1 (.string x) (.string y) (decide (x = y)) := fun d W => by
  rw [run_equalIn_string W d T x y hT, str_eq]
theorem part_sca {cs : List Value} {o : Nat} {v : Value} {W : World} (h : Sca P T) (hv : cs[o]? = some v) : (part T cs.toArray o).run P W = .ok v W := by
  obtain ⟨d, hd, hd'⟩ := h.und
  simp [part, run_isAgg hd, hd', hv]
theorem part_agg {cs vs : List Value} {o k : Nat} {W : World} (h : Agg P T k) (hv : Seg cs o k vs) : (part T cs.toArray o).run P W = .ok (.agg vs.toArray) W := by
  obtain ⟨d, hd, hd'⟩ := h.und
  simp [part, run_isAgg hd, hd', run_size h.size]
  exact hv.eq
theorem EqF.nil {xs ys : List Value} : EqF P d0 xs ys [] true := fun d W => by simp [Op.eqFields]
theorem EqF.cons1 {xs ys : List Value} {f : Field} {fs : List Field} {a b : Value} {r s : Bool} (hn : (f.name == "_") = false) (h : Sca P f.type) (hx : xs[f.offset]? = some a) (hy : ys[f.offset]? = some b) (he : EqV P f.type d0 a b r) (hs : EqF P d0 xs ys fs s) : EqF P d0 xs ys (f :: fs) (r && s) := fun d W => by
  have hn' : f.name ≠ "_" := by simpa using hn
  simp only [Op.eqFields, if_pos hn', Sem.run_bind, part_sca h hx, part_sca h hy, Result.andThen_ok, he d W]
  cases r
  · simp
  · simpa using hs d W
theorem EqF.cons {xs ys us vs : List Value} {k : Nat} {f : Field} {fs : List Field} {r s : Bool} (hn : (f.name == "_") = false) (h : Agg P f.type k) (hx : Seg xs f.offset k us) (hy : Seg ys f.offset k vs) (he : EqV P f.type d0 (.agg us.toArray) (.agg vs.toArray) r) (hs : EqF P d0 xs ys fs s) : EqF P d0 xs ys (f :: fs) (r && s) := fun d W => by
  have hn' : f.name ≠ "_" := by simpa using hn
  simp only [Op.eqFields, if_pos hn', Sem.run_bind, part_agg h hx, part_agg h hy, Result.andThen_ok, he d W]
  cases r
  · simp
  · simpa using hs d W
theorem EqV.struct {fs : Array Field} {xs ys : List Value} {r : Bool} (hu : P.underlying T = some (.struct fs)) (hp : P.stoodInHeld T = false) (h : EqF P d0 xs ys fs.toList r) : EqV P T (d0 + 1) (.agg xs.toArray) (.agg ys.toArray) r := fun d W => by
  have hf : P.fieldsOf T = fs := by simp [Program.fieldsOf, hu]
  rw [show d + (d0 + 1) = (d + d0) + 1 by omega, run_equalIn_struct (P := P) W (d + d0) T _ _ (by rw [hf]; exact hu) hp, hf]
  exact h d W
theorem EqI.nil {k : Nat} {xs ys : List Value} : EqI P E k d0 xs ys [] true := fun d W => by simp [Op.eqItems]
theorem EqI.cons1 {k : Nat} {xs ys : List Value} {i : Nat} {is : List Nat} {a b : Value} {r s : Bool} (h : Sca P E) (hx : xs[i * k]? = some a) (hy : ys[i * k]? = some b) (he : EqV P E d0 a b r) (hs : EqI P E k d0 xs ys is s) : EqI P E k d0 xs ys (i :: is) (r && s) := fun d W => by
  simp only [Op.eqItems, Sem.run_bind, part_sca h hx, part_sca h hy, Result.andThen_ok, he d W]
  cases r
  · simp
  · simpa using hs d W
theorem EqI.cons {k : Nat} {xs ys us vs : List Value} {i : Nat} {is : List Nat} {r s : Bool} (h : Agg P E k) (hx : Seg xs (i * k) k us) (hy : Seg ys (i * k) k vs) (he : EqV P E d0 (.agg us.toArray) (.agg vs.toArray) r) (hs : EqI P E k d0 xs ys is s) : EqI P E k d0 xs ys (i :: is) (r && s) := fun d W => by
  simp only [Op.eqItems, Sem.run_bind, part_agg h hx, part_agg h hy, Result.andThen_ok, he d W]
  cases r
  · simp
  · simpa using hs d W
theorem EqV.array {n k : Nat} {xs ys : List Value} {r : Bool} (ha : Arr P T n E k) (h : EqI P E k d0 xs ys (List.range n) r) : EqV P T (d0 + 1) (.agg xs.toArray) (.agg ys.toArray) r := fun d W => by
  obtain ⟨i, hi, hk⟩ := info_of_size ha.size
  have hc : P.cellsOf E = k := by simp [Program.cellsOf, hi, hk]
  rw [show d + (d0 + 1) = (d + d0) + 1 by omega, run_equalIn_array W (d + d0) _ _ ha.und hi, hc]
  exact h d W
section
variable {n : Nat} {l : Env} {a : Act} {W : World} {dst : Option Nat} {ty : TypeId} {ps : String} {af : Array Edge} {g : Option (Nat × Bool)} {T' : TypeId} {X Y : Operand}
theorem r_eql_agg (F : Frm n l a) {xs ys : List Value} {r : Bool} (hx : ev l X = some (.agg xs.toArray)) (hy : ev l Y = some (.agg ys.toArray)) (hd : Nat.ble d0 10000 = true) (hm : P.eqGuardType P.depth T = false) (h : EqV P T d0 (.agg xs.toArray) (.agg ys.toArray) r) : Run P ⟨dst, .binOp .eql T X Y T', ty, ps, af, g⟩ a W (.bool r) W := by
  have hd' := Nat.le_of_ble_eq_true hd
  have h2 := h (10000 - d0) W
  rw [Nat.sub_add_cancel hd'] at h2
  simp [Run, execOp, F.eval hx, F.eval hy, run_eqGuard_agg, hm, run_eql_struct, h2]
theorem r_neq_agg (F : Frm n l a) {xs ys : List Value} {r : Bool} (hx : ev l X = some (.agg xs.toArray)) (hy : ev l Y = some (.agg ys.toArray)) (hd : Nat.ble d0 10000 = true) (hm : P.eqGuardType P.depth T = false) (h : EqV P T d0 (.agg xs.toArray) (.agg ys.toArray) r) : Run P ⟨dst, .binOp .neq T X Y T', ty, ps, af, g⟩ a W (.bool !r) W := by
  have hd' := Nat.le_of_ble_eq_true hd
  have h2 := h (10000 - d0) W
  rw [Nat.sub_add_cancel hd'] at h2
  simp [Run, execOp, F.eval hx, F.eval hy, run_eqGuard_agg, hm, run_neq_struct, h2]
end
end
end Go.Proofs.YtfkmaepcjognkaaDoor.Pad
