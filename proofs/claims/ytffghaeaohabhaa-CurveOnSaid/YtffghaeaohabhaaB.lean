/-
  The walk's ground for the functions of this program: the order of evaluation that the model follows, the body-less sums with carry.
-/
import Derived.Test.YtffghaeaohabhaaTy
import Derived.Test.YtffghaeaohabhaaV
import Derived.Test.YtffghaeaohabhaaOp2
namespace Go.Proofs.Ytffghaeaohabhaa.AW
open Go

theorem mo : Try.prog.follows .mixedOrders = true := by kernel_rfl

/-- the carry, and the sum -/
def addC (x y c : UInt64) : UInt64 := UInt64.ofNat ((x.toNat + y.toNat + c.toNat) / 18446744073709551616)
def subB (x y b : UInt64) : UInt64 := if x.toNat < y.toNat + b.toNat then 1 else 0

theorem add64 (x y c : UInt64) (hc : c.toNat ≤ 1) : ExtV Try.prog 98 [u64 x, u64 y, u64 c] (.tuple #[u64 (x + y + c), u64 (addC x y c)]) := by
  intro w
  have hx := u64_lt x; have hy := u64_lt y
  rw [run_callFunc_extern Try.func98 (by kernel_rfl) (by kernel_rfl) (by kernel_rfl) (e := add64Entry) (by kernel_rfl), run_add64 _ _ _ (by omega) (by omega) (by omega) (by omega)]
  simp only [Result.andThen]
  have h1 : ((x.toNat : Int) + y.toNat + c.toNat) % 18446744073709551616 = ((x + y + c).toNat : Int) := by
    rw [UInt64.toNat_add, UInt64.toNat_add]; omega
  have h2 : ((x.toNat : Int) + y.toNat + c.toNat) / 18446744073709551616 = ((addC x y c).toNat : Int) := by
    unfold addC
    rw [UInt64.toNat_ofNat_of_lt' (by show _ < 18446744073709551616; omega)]; omega
  rw [h1, h2]

def sub64E : Array Value → Sem Value := fun args => do
  let (x, y, b) ← Extern.MathBitsCarry.three "Sub64" args
  pure (Extern.MathBitsCarry.pair ((x + Extern.MathBitsCarry.m64 - y - b) % Extern.MathBitsCarry.m64) (if x < y + b then 1 else 0))

theorem run_sub64' {P : Program} (x y b : Nat) (hb : b ≤ 1) (w : World) :
    (sub64E #[.int .u64 x, .int .u64 y, .int .u64 b]).run P w =
      .ok (.tuple #[.int .u64 (((x + 18446744073709551616 - y - b) % 18446744073709551616 : Nat) : Int), .int .u64 ((if x < y + b then 1 else 0 : Nat) : Int)]) w := by
  have : b = 0 ∨ b = 1 := by omega
  rcases this with rfl | rfl <;> rfl

theorem sub64 (x y b : UInt64) (hb : b.toNat ≤ 1) : ExtV Try.prog 156 [u64 x, u64 y, u64 b] (.tuple #[u64 (x - y - b), u64 (subB x y b)]) := by
  intro w
  have hx := x.toNat_lt; have hy := y.toNat_lt
  rw [run_callFunc_extern Try.func156 (by kernel_rfl) (by kernel_rfl) (by kernel_rfl) (e := sub64E) (by kernel_rfl), run_sub64' _ _ _ hb]
  simp only [Result.andThen]
  have h1 : (x.toNat + 18446744073709551616 - y.toNat - b.toNat) % 18446744073709551616 = (x - y - b).toNat := by
    rw [UInt64.toNat_sub, UInt64.toNat_sub]; omega
  have h2 : (if x.toNat < y.toNat + b.toNat then 1 else 0 : Nat) = (subB x y b).toNat := by
    unfold subB; split <;> rfl
  rw [h1, h2]

theorem subB_le (x y b : UInt64) : (subB x y b).toNat ≤ 1 := by unfold subB; split <;> decide
theorem addC_le (x y c : UInt64) (hc : c.toNat ≤ 1) : (addC x y c).toNat ≤ 1 := by
  have hx := x.toNat_lt; have hy := y.toNat_lt
  unfold addC
  rw [UInt64.toNat_ofNat_of_lt' (by show _ < 18446744073709551616; omega)]; omega

attribute [irreducible] subB addC
end Go.Proofs.Ytffghaeaohabhaa.AW
