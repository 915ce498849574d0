/-
  The field of 2^255 - 19 elements and the curve's sums: no divisor is 0, sums are on the curve, hang on no order and no grouping. No program in sight.
-/
import Derived.Test.YtffghaeaohabhaaM1
namespace Go.Proofs.Ytffghaeaohabhaa.NT
set_option maxRecDepth 100000

def P : Nat := 57896044618658097711785492504343953926634992332820282019728792003956564819949
theorem P_eq : P = 57896044618658097711785492504343953926634992332820282019728792003956564819949 := rfl
theorem P_prime : IsPrime P := prime25519
theorem P_pos : 0 < P := by rw [P_eq]; decide
theorem P_big : 1000000 < P := by rw [P_eq]; decide
instance : NeZero P := ⟨Nat.ne_of_gt P_pos⟩
attribute [irreducible] P
abbrev F := Fin P

theorem F_ext {a b : F} (h : a.val = b.val) : a = b := Fin.ext h

def fpow (x : F) : Nat → F
  | 0 => 1
  | n + 1 => fpow x n * x

theorem one_val : (1 : F).val = 1 := by
  show 1 % P = 1
  exact Nat.mod_eq_of_lt (by have := P_big; omega)
theorem zero_val : (0 : F).val = 0 := by
  show 0 % P = 0
  exact Nat.zero_mod P
theorem mul_val (x y : F) : (x * y).val = x.val * y.val % P := Fin.val_mul x y
theorem add_val (x y : F) : (x + y).val = (x.val + y.val) % P := Fin.val_add x y

theorem fpow_val (x : F) : ∀ n : Nat, (fpow x n).val = x.val ^ n % P
  | 0 => by simp only [fpow, Nat.pow_zero]; exact one_val.trans (Nat.mod_eq_of_lt (by have := P_big; omega)).symm
  | n + 1 => by simp only [fpow]; rw [mul_val, fpow_val x n, Nat.mod_mul_mod, ← Nat.pow_succ]

theorem ne_zero_val {x : F} (h : x ≠ 0) : ¬ P ∣ x.val := fun hd => by
  by_cases h0 : x.val = 0
  · exact h (F_ext (h0.trans zero_val.symm))
  · have := Nat.le_of_dvd (by omega) hd
    have := x.isLt
    omega

def finv (x : F) : F := fpow x (P - 2)
theorem mul_finv {x : F} (h : x ≠ 0) : x * finv x = 1 := by
  refine F_ext ?_
  have hP := P_big
  rw [mul_val, one_val, finv, fpow_val, Nat.mul_mod_mod, Nat.mul_comm, ← Nat.pow_succ]
  rw [show Nat.succ (P - 2) = P - 1 by omega]
  exact fermat P_prime (ne_zero_val h)

theorem fmul_eq_zero {x y : F} (h : x * y = 0) : x = 0 ∨ y = 0 := by
  by_cases hx : x = 0
  · exact .inl hx
  · have h1 := mul_finv hx
    refine .inr ?_
    have : y = (x * finv x) * y := by rw [h1]; grobner
    grobner

theorem fcancel {a b c : F} (ha : a ≠ 0) (h : a * b = a * c) : b = c := by
  have h1 := mul_finv ha
  grobner

theorem fmul_ne_zero {x y : F} (hx : x ≠ 0) (hy : y ≠ 0) : x * y ≠ 0 := fun h => (fmul_eq_zero h).elim hx hy

theorem natF_ne {n : Nat} (h0 : n ≠ 0) (h : n < 1000000) : (Fin.ofNat P n : F) ≠ 0 := fun e => by
  have := congrArg Fin.val e
  rw [zero_val] at this
  have h2 : n % P = 0 := this
  rw [Nat.mod_eq_of_lt (by have := P_big; omega)] at h2
  exact h0 h2

theorem two_ne : (2 : F) ≠ 0 := natF_ne (n := 2) (by decide) (by decide)

/-! ### the identities -/
theorem sum_on (x1 y1 x2 y2 d : F) (h1 : y1*y1 - x1*x1 - 1 - d*x1*x1*y1*y1 = 0) (h2 : y2*y2 - x2*x2 - 1 - d*x2*x2*y2*y2 = 0) :
    ((y1*y2+x1*x2)*(1+d*x1*x2*y1*y2))*((y1*y2+x1*x2)*(1+d*x1*x2*y1*y2)) - ((x1*y2+x2*y1)*(1-d*x1*x2*y1*y2))*((x1*y2+x2*y1)*(1-d*x1*x2*y1*y2)) - ((1+d*x1*x2*y1*y2)*(1-d*x1*x2*y1*y2))*((1+d*x1*x2*y1*y2)*(1-d*x1*x2*y1*y2)) - d*((x1*y2+x2*y1)*(y1*y2+x1*x2))*((x1*y2+x2*y1)*(y1*y2+x1*x2)) = 0 := by
  have key : ((y1*y2+x1*x2)*(1+d*x1*x2*y1*y2))*((y1*y2+x1*x2)*(1+d*x1*x2*y1*y2)) - ((x1*y2+x2*y1)*(1-d*x1*x2*y1*y2))*((x1*y2+x2*y1)*(1-d*x1*x2*y1*y2)) - ((1+d*x1*x2*y1*y2)*(1-d*x1*x2*y1*y2))*((1+d*x1*x2*y1*y2)*(1-d*x1*x2*y1*y2)) - d*((x1*y2+x2*y1)*(y1*y2+x1*x2))*((x1*y2+x2*y1)*(y1*y2+x1*x2)) =
      (d*d*d*x1*x1*y1*y1*x2*x2*x2*x2*y2*y2*y2*y2 - d*d*x1*x1*x2*x2*x2*x2*y2*y2*y2*y2 + d*d*y1*y1*x2*x2*x2*x2*y2*y2*y2*y2 - d*d*x2*x2*x2*x2*y2*y2*y2*y2 - d*x1*x1*x2*x2*x2*x2*y2*y2 + d*x1*x1*x2*x2*y2*y2*y2*y2 + d*y1*y1*x2*x2*x2*x2*y2*y2 - d*y1*y1*x2*x2*y2*y2*y2*y2 - 2*d*x2*x2*x2*x2*y2*y2*y2*y2 - 2*d*x2*x2*y2*y2 - 2*x2*x2*x2*x2*y2*y2 + x2*x2*x2*x2 + 2*x2*x2*y2*y2*y2*y2 - 4*x2*x2*y2*y2 + y2*y2*y2*y2) * (y1*y1 - x1*x1 - 1 - d*x1*x1*y1*y1) + (d*x1*x1*x1*x1*x2*x2*y2*y2 + 2*d*x1*x1*x2*x2*y2*y2 + d*y1*y1*y1*y1*x2*x2*y2*y2 - 2*d*y1*y1*x2*x2*y2*y2 + d*x2*x2*y2*y2 + 2*x1*x1*x2*x2*y2*y2 - x1*x1*x2*x2 + x1*x1*y2*y2 - 2*y1*y1*x2*x2*y2*y2 + y1*y1*x2*x2 - y1*y1*y2*y2 + 2*x2*x2*y2*y2 - x2*x2 + y2*y2 + 1) * (y2*y2 - x2*x2 - 1 - d*x2*x2*y2*y2) := by grobner
  rw [key, h1, h2]; grobner

theorem assoc_x (x1 y1 x2 y2 x3 y3 d : F) (h1 : y1*y1 - x1*x1 - 1 - d*x1*x1*y1*y1 = 0) (h2 : y2*y2 - x2*x2 - 1 - d*x2*x2*y2*y2 = 0) (h3 : y3*y3 - x3*x3 - 1 - d*x3*x3*y3*y3 = 0) :
    ((x1*y2+x2*y1)*(1-(d*x1*x2*y1*y2))*y3+x3*((y1*y2+x1*x2)*(1+(d*x1*x2*y1*y2)))) * ((1+(d*x2*x3*y2*y3))*(1-(d*x2*x3*y2*y3))+d*x1*y1*(x2*y3+x3*y2)*(y2*y3+x2*x3)) - (x1*((y2*y3+x2*x3)*(1+(d*x2*x3*y2*y3)))+(x2*y3+x3*y2)*(1-(d*x2*x3*y2*y3))*y1) * ((1+(d*x1*x2*y1*y2))*(1-(d*x1*x2*y1*y2))+d*(x1*y2+x2*y1)*(y1*y2+x1*x2)*x3*y3) = 0 := by
  have key : ((x1*y2+x2*y1)*(1-(d*x1*x2*y1*y2))*y3+x3*((y1*y2+x1*x2)*(1+(d*x1*x2*y1*y2)))) * ((1+(d*x2*x3*y2*y3))*(1-(d*x2*x3*y2*y3))+d*x1*y1*(x2*y3+x3*y2)*(y2*y3+x2*x3)) - (x1*((y2*y3+x2*x3)*(1+(d*x2*x3*y2*y3)))+(x2*y3+x3*y2)*(1-(d*x2*x3*y2*y3))*y1) * ((1+(d*x1*x2*y1*y2))*(1-(d*x1*x2*y1*y2))+d*(x1*y2+x2*y1)*(y1*y2+x1*x2)*x3*y3) =
      (0 - d*d*x1*x2*x2*x2*x2*y2*y2*y2*x3*x3*y3 - d*d*x1*x2*x2*x2*y2*y2*y2*y2*x3*y3*y3 + d*d*y1*x2*x2*x2*x2*y2*y2*y2*x3*y3*y3 + d*d*y1*x2*x2*x2*y2*y2*y2*y2*x3*x3*y3 - d*x1*x2*x2*x2*x2*y2*x3*x3*y3 - d*x1*x2*x2*x2*y2*y2*x3*x3*x3 - d*x1*x2*x2*x2*y2*y2*x3 + d*x1*x2*x2*y2*y2*y2*y3*y3*y3 - d*x1*x2*x2*y2*y2*y2*y3 + d*x1*x2*y2*y2*y2*y2*x3*y3*y3 + d*y1*x2*x2*x2*x2*y2*x3*y3*y3 + d*y1*x2*x2*x2*y2*y2*y3*y3*y3 - d*y1*x2*x2*x2*y2*y2*y3 - d*y1*x2*x2*y2*y2*y2*x3*x3*x3 - d*y1*x2*x2*y2*y2*y2*x3 - d*y1*x2*y2*y2*y2*y2*x3*x3*y3) * (y1*y1 - x1*x1 - 1 - d*x1*x1*y1*y1) + (d*d*x1*x1*y1*x2*x2*y2*x3*x3*x3*y3*y3 - d*d*x1*x1*y1*x2*y2*y2*x3*x3*y3*y3*y3 - d*d*x1*y1*y1*x2*x2*y2*x3*x3*y3*y3*y3 + d*d*x1*y1*y1*x2*y2*y2*x3*x3*x3*y3*y3 + d*x1*x1*x1*x2*x2*y2*x3*x3*y3 + d*x1*x1*x1*x2*y2*y2*x3*y3*y3 + d*x1*x1*x1*x2*x3*x3*x3*y3*y3 + d*x1*x1*x1*y2*x3*x3*y3*y3*y3 - d*x1*x1*y1*x2*x2*y2*x3*y3*y3 - d*x1*x1*y1*x2*y2*y2*x3*x3*y3 + d*x1*x1*y1*x2*x3*x3*y3*y3*y3 + d*x1*x1*y1*y2*x3*x3*x3*y3*y3 - d*x1*y1*y1*x2*x2*y2*x3*x3*y3 - d*x1*y1*y1*x2*y2*y2*x3*y3*y3 - d*x1*y1*y1*x2*x3*x3*x3*y3*y3 - d*x1*y1*y1*y2*x3*x3*y3*y3*y3 + d*x1*x2*x2*y2*x3*x3*y3 + d*x1*x2*y2*y2*x3*y3*y3 + d*x1*x2*x3*x3*x3*y3*y3 + d*x1*y2*x3*x3*y3*y3*y3 + d*y1*y1*y1*x2*x2*y2*x3*y3*y3 + d*y1*y1*y1*x2*y2*y2*x3*x3*y3 - d*y1*y1*y1*x2*x3*x3*y3*y3*y3 - d*y1*y1*y1*y2*x3*x3*x3*y3*y3 - d*y1*x2*x2*y2*x3*y3*y3 - d*y1*x2*y2*y2*x3*x3*y3 + d*y1*x2*x3*x3*y3*y3*y3 + d*y1*y2*x3*x3*x3*y3*y3 + x1*x1*x1*x2*x3*x3*x3 - x1*x1*x1*x2*x3*y3*y3 + x1*x1*x1*x2*x3 + x1*x1*x1*y2*x3*x3*y3 - x1*x1*x1*y2*y3*y3*y3 + x1*x1*x1*y2*y3 + x1*x1*y1*x2*x3*x3*y3 - x1*x1*y1*x2*y3*y3*y3 + x1*x1*y1*x2*y3 + x1*x1*y1*y2*x3*x3*x3 - x1*x1*y1*y2*x3*y3*y3 + x1*x1*y1*y2*x3 - x1*y1*y1*x2*x3*x3*x3 + x1*y1*y1*x2*x3*y3*y3 - x1*y1*y1*x2*x3 - x1*y1*y1*y2*x3*x3*y3 + x1*y1*y1*y2*y3*y3*y3 - x1*y1*y1*y2*y3 + x1*x2*x3*x3*x3 - x1*x2*x3*y3*y3 + x1*x2*x3 + x1*y2*x3*x3*y3 - x1*y2*y3*y3*y3 + x1*y2*y3 - y1*y1*y1*x2*x3*x3*y3 + y1*y1*y1*x2*y3*y3*y3 - y1*y1*y1*x2*y3 - y1*y1*y1*y2*x3*x3*x3 + y1*y1*y1*y2*x3*y3*y3 - y1*y1*y1*y2*x3 + y1*x2*x3*x3*y3 - y1*x2*y3*y3*y3 + y1*x2*y3 + y1*y2*x3*x3*x3 - y1*y2*x3*y3*y3 + y1*y2*x3) * (y2*y2 - x2*x2 - 1 - d*x2*x2*y2*y2) + (0 - d*x1*x1*y1*x2*x2*y2*x3 + d*x1*x1*y1*x2*y2*y2*y3 + d*x1*y1*y1*x2*x2*y2*y3 - d*x1*y1*y1*x2*y2*y2*x3 - x1*x1*x1*x2*x2*x2*x3 - x1*x1*x1*x2*x2*y2*y3 + x1*x1*x1*x2*y2*y2*x3 - x1*x1*x1*x2*x3 + x1*x1*x1*y2*y2*y2*y3 - x1*x1*x1*y2*y3 - x1*x1*y1*x2*x2*x2*y3 - x1*x1*y1*x2*x2*y2*x3 + x1*x1*y1*x2*y2*y2*y3 - x1*x1*y1*x2*y3 + x1*x1*y1*y2*y2*y2*x3 - x1*x1*y1*y2*x3 + x1*y1*y1*x2*x2*x2*x3 + x1*y1*y1*x2*x2*y2*y3 - x1*y1*y1*x2*y2*y2*x3 + x1*y1*y1*x2*x3 - x1*y1*y1*y2*y2*y2*y3 + x1*y1*y1*y2*y3 - x1*x2*x2*x2*x3 - x1*x2*x2*y2*y3 + x1*x2*y2*y2*x3 - x1*x2*x3 + x1*y2*y2*y2*y3 - x1*y2*y3 + y1*y1*y1*x2*x2*x2*y3 + y1*y1*y1*x2*x2*y2*x3 - y1*y1*y1*x2*y2*y2*y3 + y1*y1*y1*x2*y3 - y1*y1*y1*y2*y2*y2*x3 + y1*y1*y1*y2*x3 - y1*x2*x2*x2*y3 - y1*x2*x2*y2*x3 + y1*x2*y2*y2*y3 - y1*x2*y3 + y1*y2*y2*y2*x3 - y1*y2*x3) * (y3*y3 - x3*x3 - 1 - d*x3*x3*y3*y3) := by grobner
  rw [key, h1, h2, h3]; grobner

theorem assoc_y (x1 y1 x2 y2 x3 y3 d : F) (h1 : y1*y1 - x1*x1 - 1 - d*x1*x1*y1*y1 = 0) (h2 : y2*y2 - x2*x2 - 1 - d*x2*x2*y2*y2 = 0) (h3 : y3*y3 - x3*x3 - 1 - d*x3*x3*y3*y3 = 0) :
    ((y1*y2+x1*x2)*(1+(d*x1*x2*y1*y2))*y3+(x1*y2+x2*y1)*(1-(d*x1*x2*y1*y2))*x3) * ((1+(d*x2*x3*y2*y3))*(1-(d*x2*x3*y2*y3))-d*x1*y1*(x2*y3+x3*y2)*(y2*y3+x2*x3)) - (y1*((y2*y3+x2*x3)*(1+(d*x2*x3*y2*y3)))+x1*((x2*y3+x3*y2)*(1-(d*x2*x3*y2*y3)))) * ((1+(d*x1*x2*y1*y2))*(1-(d*x1*x2*y1*y2))-d*(x1*y2+x2*y1)*(y1*y2+x1*x2)*x3*y3) = 0 := by
  have key : ((y1*y2+x1*x2)*(1+(d*x1*x2*y1*y2))*y3+(x1*y2+x2*y1)*(1-(d*x1*x2*y1*y2))*x3) * ((1+(d*x2*x3*y2*y3))*(1-(d*x2*x3*y2*y3))-d*x1*y1*(x2*y3+x3*y2)*(y2*y3+x2*x3)) - (y1*((y2*y3+x2*x3)*(1+(d*x2*x3*y2*y3)))+x1*((x2*y3+x3*y2)*(1-(d*x2*x3*y2*y3)))) * ((1+(d*x1*x2*y1*y2))*(1-(d*x1*x2*y1*y2))-d*(x1*y2+x2*y1)*(y1*y2+x1*x2)*x3*y3) =
      (d*d*x1*x2*x2*x2*x2*y2*y2*y2*x3*y3*y3 + d*d*x1*x2*x2*x2*y2*y2*y2*y2*x3*x3*y3 - d*d*y1*x2*x2*x2*x2*y2*y2*y2*x3*x3*y3 - d*d*y1*x2*x2*x2*y2*y2*y2*y2*x3*y3*y3 + d*x1*x2*x2*x2*x2*y2*x3*y3*y3 + d*x1*x2*x2*x2*y2*y2*y3*y3*y3 - d*x1*x2*x2*x2*y2*y2*y3 - d*x1*x2*x2*y2*y2*y2*x3*x3*x3 - d*x1*x2*x2*y2*y2*y2*x3 - d*x1*x2*y2*y2*y2*y2*x3*x3*y3 - d*y1*x2*x2*x2*x2*y2*x3*x3*y3 - d*y1*x2*x2*x2*y2*y2*x3*x3*x3 - d*y1*x2*x2*x2*y2*y2*x3 + d*y1*x2*x2*y2*y2*y2*y3*y3*y3 - d*y1*x2*x2*y2*y2*y2*y3 + d*y1*x2*y2*y2*y2*y2*x3*y3*y3) * (y1*y1 - x1*x1 - 1 - d*x1*x1*y1*y1) + (d*d*x1*x1*y1*x2*x2*y2*x3*x3*y3*y3*y3 - d*d*x1*x1*y1*x2*y2*y2*x3*x3*x3*y3*y3 - d*d*x1*y1*y1*x2*x2*y2*x3*x3*x3*y3*y3 + d*d*x1*y1*y1*x2*y2*y2*x3*x3*y3*y3*y3 - d*x1*x1*x1*x2*x2*y2*x3*y3*y3 - d*x1*x1*x1*x2*y2*y2*x3*x3*y3 + d*x1*x1*x1*x2*x3*x3*y3*y3*y3 + d*x1*x1*x1*y2*x3*x3*x3*y3*y3 + d*x1*x1*y1*x2*x2*y2*x3*x3*y3 + d*x1*x1*y1*x2*y2*y2*x3*y3*y3 + d*x1*x1*y1*x2*x3*x3*x3*y3*y3 + d*x1*x1*y1*y2*x3*x3*y3*y3*y3 + d*x1*y1*y1*x2*x2*y2*x3*y3*y3 + d*x1*y1*y1*x2*y2*y2*x3*x3*y3 - d*x1*y1*y1*x2*x3*x3*y3*y3*y3 - d*x1*y1*y1*y2*x3*x3*x3*y3*y3 - d*x1*x2*x2*y2*x3*y3*y3 - d*x1*x2*y2*y2*x3*x3*y3 + d*x1*x2*x3*x3*y3*y3*y3 + d*x1*y2*x3*x3*x3*y3*y3 - d*y1*y1*y1*x2*x2*y2*x3*x3*y3 - d*y1*y1*y1*x2*y2*y2*x3*y3*y3 - d*y1*y1*y1*x2*x3*x3*x3*y3*y3 - d*y1*y1*y1*y2*x3*x3*y3*y3*y3 + d*y1*x2*x2*y2*x3*x3*y3 + d*y1*x2*y2*y2*x3*y3*y3 + d*y1*x2*x3*x3*x3*y3*y3 + d*y1*y2*x3*x3*y3*y3*y3 + x1*x1*x1*x2*x3*x3*y3 - x1*x1*x1*x2*y3*y3*y3 + x1*x1*x1*x2*y3 + x1*x1*x1*y2*x3*x3*x3 - x1*x1*x1*y2*x3*y3*y3 + x1*x1*x1*y2*x3 + x1*x1*y1*x2*x3*x3*x3 - x1*x1*y1*x2*x3*y3*y3 + x1*x1*y1*x2*x3 + x1*x1*y1*y2*x3*x3*y3 - x1*x1*y1*y2*y3*y3*y3 + x1*x1*y1*y2*y3 - x1*y1*y1*x2*x3*x3*y3 + x1*y1*y1*x2*y3*y3*y3 - x1*y1*y1*x2*y3 - x1*y1*y1*y2*x3*x3*x3 + x1*y1*y1*y2*x3*y3*y3 - x1*y1*y1*y2*x3 + x1*x2*x3*x3*y3 - x1*x2*y3*y3*y3 + x1*x2*y3 + x1*y2*x3*x3*x3 - x1*y2*x3*y3*y3 + x1*y2*x3 - y1*y1*y1*x2*x3*x3*x3 + y1*y1*y1*x2*x3*y3*y3 - y1*y1*y1*x2*x3 - y1*y1*y1*y2*x3*x3*y3 + y1*y1*y1*y2*y3*y3*y3 - y1*y1*y1*y2*y3 + y1*x2*x3*x3*x3 - y1*x2*x3*y3*y3 + y1*x2*x3 + y1*y2*x3*x3*y3 - y1*y2*y3*y3*y3 + y1*y2*y3) * (y2*y2 - x2*x2 - 1 - d*x2*x2*y2*y2) + (0 - d*x1*x1*y1*x2*x2*y2*y3 + d*x1*x1*y1*x2*y2*y2*x3 + d*x1*y1*y1*x2*x2*y2*x3 - d*x1*y1*y1*x2*y2*y2*y3 - x1*x1*x1*x2*x2*x2*y3 - x1*x1*x1*x2*x2*y2*x3 + x1*x1*x1*x2*y2*y2*y3 - x1*x1*x1*x2*y3 + x1*x1*x1*y2*y2*y2*x3 - x1*x1*x1*y2*x3 - x1*x1*y1*x2*x2*x2*x3 - x1*x1*y1*x2*x2*y2*y3 + x1*x1*y1*x2*y2*y2*x3 - x1*x1*y1*x2*x3 + x1*x1*y1*y2*y2*y2*y3 - x1*x1*y1*y2*y3 + x1*y1*y1*x2*x2*x2*y3 + x1*y1*y1*x2*x2*y2*x3 - x1*y1*y1*x2*y2*y2*y3 + x1*y1*y1*x2*y3 - x1*y1*y1*y2*y2*y2*x3 + x1*y1*y1*y2*x3 - x1*x2*x2*x2*y3 - x1*x2*x2*y2*x3 + x1*x2*y2*y2*y3 - x1*x2*y3 + x1*y2*y2*y2*x3 - x1*y2*x3 + y1*y1*y1*x2*x2*x2*x3 + y1*y1*y1*x2*x2*y2*y3 - y1*y1*y1*x2*y2*y2*x3 + y1*y1*y1*x2*x3 - y1*y1*y1*y2*y2*y2*y3 + y1*y1*y1*y2*y3 - y1*x2*x2*x2*x3 - y1*x2*x2*y2*y3 + y1*x2*y2*y2*x3 - y1*x2*x3 + y1*y2*y2*y2*y3 - y1*y2*y3) * (y3*y3 - x3*x3 - 1 - d*x3*x3*y3*y3) := by grobner
  rw [key, h1, h2, h3]; grobner
end Go.Proofs.Ytffghaeaohabhaa.NT
