/- Products of 128 bits: the kit's bits.Mul64 at this program's numbers. Conditions: none. -/
import Derived.Test.YtecfbhenljkaaaaCbsA
import Derived.Shelf.Bits.Mul64
set_option linter.all false
set_option linter.deprecated false
namespace Go.Proofs.Ytecfbhenljkaaaa
open Go.Sep Go.Shelf
variable [B0 : Base]
def renB : Go.Shelf.Ren := ⟨fun _ => 31, fun t => if t = 46 then 65 else 54, fun x => x⟩
theorem laysB : Lays.n264 Try.prog renB where
  mixed := by kernel_rfl
  f264 := by kernel_rfl
  t46 := by kernel_rfl
  a46 := fun w => by rfl
  z46 := fun w => by rfl
  v46 := fun w => by rfl
  t53 := by kernel_rfl
  a53 := fun w => by rfl
  z53 := fun w => by rfl
  v53 := fun w => by rfl
theorem mul64_nat (x y : Nat) (hx : x < 18446744073709551616) (hy : y < 18446744073709551616) (R : List HP) :
    Called Try.prog 31 [u64 x, u64 y] R (is (.tuple #[u64 ((x * y / 18446744073709551616 : Nat) : Int), u64 ((x * y % 18446744073709551616 : Nat) : Int)]) R) :=
  ⟨fun w hw => (Any.bits_Mul64 laysB x y hx hy w).mono fun e w' h => ⟨_, h.1, R, ⟨rfl, rfl⟩, by rw [h.2]; exact hw⟩⟩
/-- The product of two numbers that are no less than 0: its halves. -/
theorem mul64_ok (x y : Int) (hx0 : 0 ≤ x) (hx : x < 18446744073709551616) (hy0 : 0 ≤ y) (hy : y < 18446744073709551616) (R : List HP) :
    Called Try.prog 31 [u64 x, u64 y] R (is (.tuple #[u64 (x * y / 18446744073709551616), u64 (x * y % 18446744073709551616)]) R) := by
  obtain ⟨a, rfl⟩ := Int.eq_ofNat_of_zero_le hx0
  obtain ⟨b, rfl⟩ := Int.eq_ofNat_of_zero_le hy0
  have := mul64_nat a b (by omega) (by omega) R
  simpa using this
end Go.Proofs.Ytecfbhenljkaaaa
