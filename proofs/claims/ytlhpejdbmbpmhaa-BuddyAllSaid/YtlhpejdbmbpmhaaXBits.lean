/- Words of ours on bytes as bits: how many are 1, the lowest one; tables as the library has them. -/
import Derived.Test.YtlhpejdbmbpmhaaXWords
namespace Go.Proofs.Ytlhpejdbmbpmhaa.X
open Go Go.RowKit Go.Proofs.YtlhpejdbmbpmhaaW.PrintWords Go.Proofs.YtlhpejdbmbpmhaaW.PrintLast Go.Proofs.YtlhpejdbmbpmhaaW.PrintMore
/-- How many of a byte's bits are 1; the place of the lowest. -/
def pop8 (n : Nat) : Nat := ((List.range 8).filter fun i => n.testBit i).length
def low8 (n : Nat) : Nat := ((List.range 8).find? fun i => n.testBit i).getD 8
theorem byte_fin {a : Int} (h0 : 0 ≤ a) (h1 : a < 256) : ∃ n : Fin 256, a = ((n.val : Nat) : Int) := ⟨⟨a.toNat, by omega⟩, by simp; omega⟩
/-- What a box of one number holds. -/
def boxed (B : Nat) (w : World) : Int := match w.cell? ⟨B, 0, none⟩ with | some (.int _ z) => z | _ => 0
theorem boxed_blk {w : World} {B : Nat} {k : IntKind} {z : Int} {t : TypeId} (h : Blk w B #[.int k z] t) : boxed B w = z := by
  unfold boxed
  rw [h.cell 0 (.int k z) rfl]
theorem i64_wrap {z : Int} (h0 : -9223372036854775808 ≤ z) (h1 : z ≤ 9223372036854775807) : IntKind.i64.wrap z = z := by
  rw [i64_w]
  unfold wrap64
  omega
theorem and7 {f : Int} (h0 : 0 ≤ f) (h1 : f ≤ 9223372036854775807) : Go.bits .and .i64 f 7 = f % 8 := by
  obtain ⟨n, rfl⟩ := Int.eq_ofNat_of_zero_le h0
  show IntKind.i64.wrap (((BitVec.ofInt 64 (n : Int)) &&& (BitVec.ofInt 64 7)).toNat : Int) = _
  have : ((BitVec.ofInt 64 (n : Int)) &&& (BitVec.ofInt 64 7)).toNat = n % 8 := by
    rw [BitVec.toNat_and, BitVec.ofInt_natCast, BitVec.toNat_ofNat, Nat.mod_eq_of_lt (by omega)]
    show n &&& (2 ^ 3 - 1) = _
    rw [Nat.and_two_pow_sub_one_eq_mod]
  rw [this, i64_wrap (by omega) (by omega)]
  omega
theorem Blk.alloc {w : World} {g : Nat} {cs : Array Value} {t : TypeId} (h : Blk w g cs t) (o : Obj) : Blk (w.alloc o) g cs t := h.below ((Below.refl (g + 1) w).alloc h.lt o) (by omega)
theorem Blk.other {w : World} {g : Nat} {cs : Array Value} {t : TypeId} (h : Blk w g cs t) {g' : Nat} (hne : g ≠ g') (i : Nat) (u : Value) : Blk (w.setCell ⟨g', i, none⟩ u) g cs t := blk_far h hne u
theorem and_u8_range (x y : Int) : 0 ≤ Go.bits .and .u8 x y ∧ Go.bits .and .u8 x y < 256 := by
  have : Go.bits .and .u8 x y = IntKind.u8.wrap (((BitVec.ofInt 8 x) &&& (BitVec.ofInt 8 y)).toNat : Int) := rfl
  rw [this, IntKind.wrap_u8]
  omega
end Go.Proofs.Ytlhpejdbmbpmhaa.X
