/-
  Rows of numbers as functions; numbers by digits of 16 bits.
-/
import Derived.Test.YtffghaeaohabhaaR16
namespace Go.Proofs.Ytffghaeaohabhaa.AW
open Go NT

def fA (n : Nat) (f : Nat → Nat) : List Value := (List.range n).map fun j => i64 ((f j : Nat) : Int)
def upd (f : Nat → Nat) (i v : Nat) : Nat → Nat := fun j => if j = i then v else f j
theorem upd_at (f : Nat → Nat) (i v : Nat) : upd f i v i = v := if_pos rfl
theorem upd_ne {f : Nat → Nat} {i v j : Nat} (h : j ≠ i) : upd f i v j = f j := if_neg h

theorem fA_len (n : Nat) (f : Nat → Nat) : (fA n f).length = n := by simp [fA]
theorem fA_one (n : Nat) (f : Nat → Nat) : (fA n f).all Value.oneCell' = true := by simp [fA, Value.oneCell']
theorem fA_get {n i : Nat} (f : Nat → Nat) (h : i < n) : (fA n f)[i]? = some (i64 (f i)) := by simp [fA, h]
theorem fA_set {n i : Nat} (f : Nat → Nat) (v : Nat) : (fA n f).set i (i64 (v : Int)) = fA n (upd f i v) := by
  apply List.ext_getElem?
  intro j
  by_cases hj : j < n
  · rw [fA_get _ hj]
    by_cases h : j = i
    · subst h
      rw [List.getElem?_set_self (by rw [fA_len]; exact hj), upd_at]
    · rw [List.getElem?_set_ne (Ne.symm h), fA_get _ hj, upd_ne h]
  · rw [List.getElem?_eq_none (by simp [fA]; omega), List.getElem?_eq_none (by simp [fA]; omega)]
theorem fA_congr {n : Nat} {f g : Nat → Nat} (h : ∀ j, j < n → f j = g j) : fA n f = fA n g := by
  unfold fA
  apply List.map_congr_left
  intro j hj
  rw [h j (List.mem_range.1 hj)]
theorem fA_zero (n : Nat) : List.replicate n (Value.int .i64 0) = fA n (fun _ => 0) := by
  apply List.ext_getElem?
  intro j
  by_cases hj : j < n
  · rw [fA_get _ hj, List.getElem?_replicate, if_pos hj]; rfl
  · rw [List.getElem?_eq_none (by simp; omega), List.getElem?_eq_none (by simp [fA]; omega)]
attribute [irreducible] fA

def valW : Nat → (Nat → Nat) → Nat
  | 0, _ => 0
  | n + 1, f => valW n f + f n * 65536 ^ n

theorem valW_congr : ∀ {n : Nat} {f g : Nat → Nat}, (∀ j, j < n → f j = g j) → valW n f = valW n g
  | 0, _, _, _ => rfl
  | n + 1, f, g, h => by rw [valW, valW, valW_congr (fun j hj => h j (by omega)), h n (by omega)]
theorem valW_zero : ∀ n, valW n (fun _ => 0) = 0
  | 0 => rfl
  | n + 1 => by rw [valW, valW_zero n, Nat.zero_mul]
theorem valW_upd : ∀ {n j : Nat} (f : Nat → Nat) (v : Nat), j < n → valW n (upd f j v) + f j * 65536 ^ j = valW n f + v * 65536 ^ j
  | n + 1, j, f, v, h => by
    rw [valW, valW]
    by_cases hj : j = n
    · subst hj
      rw [upd_at, valW_congr (g := f) (fun k hk => upd_ne (by omega))]
      omega
    · have := valW_upd (n := n) (j := j) f v (by omega)
      rw [upd_ne (show n ≠ j by omega)]
      omega
theorem valW_lt : ∀ {n : Nat} {f : Nat → Nat}, (∀ j, j < n → f j < 65536) → valW n f < 65536 ^ n
  | 0, _, _ => Nat.one_pos
  | n + 1, f, h => by
    have h1 := valW_lt (n := n) (f := f) (fun j hj => h j (by omega))
    have h2 := h n (by omega)
    rw [valW, Nat.pow_succ]
    have h3 : f n * 65536 ^ n ≤ 65535 * 65536 ^ n := Nat.mul_le_mul_right _ (by omega)
    omega
theorem valW_le : ∀ {n : Nat} {f : Nat → Nat} {b : Nat}, (∀ j, j < n → f j ≤ b) → valW n f ≤ 2 * b * 65536 ^ n
  | 0, _, _, _ => Nat.zero_le _
  | n + 1, f, b, h => by
    have h1 := valW_le (n := n) (f := f) (b := b) (fun j hj => h j (by omega))
    have h2 : f n * 65536 ^ n ≤ b * 65536 ^ n := Nat.mul_le_mul_right _ (h n (by omega))
    rw [valW, Nat.pow_succ]
    generalize 65536 ^ n = q at *
    have e1 : 2 * b * q = 2 * (b * q) := Nat.mul_assoc ..
    have e2 : 2 * b * (q * 65536) = 65536 * (2 * (b * q)) := by rw [← Nat.mul_assoc, e1, Nat.mul_comm]
    rw [e2]
    rw [e1] at h1
    omega

/-- digits of 16 bits -/
def dw (n i : Nat) : Nat := n / 65536 ^ i % 65536
theorem dw_lt (n i : Nat) : dw n i < 65536 := Nat.mod_lt _ (by decide)
theorem dw_step (n k : Nat) : n % 65536 ^ (k + 1) = n % 65536 ^ k + 65536 ^ k * dw n k := Nat.mod_pow_succ ..
theorem pow_two (i : Nat) : (65536 : Nat) ^ i = 256 ^ (2 * i) := by rw [Nat.pow_mul]
theorem dw_dg (n i : Nat) : dw n i = dg n (2 * i) + 256 * dg n (2 * i + 1) := by
  unfold dw dg
  rw [pow_two, Nat.pow_succ, ← Nat.div_div_eq_div_mul]
  generalize n / 256 ^ (2 * i) = q
  omega

theorem wrow_step {U a B i k : Nat} : U + 65536 ^ i * (a * (B % 65536 ^ k)) + 65536 ^ (i + k) * (a * dw B k) = U + 65536 ^ i * (a * (B % 65536 ^ (k + 1))) := by
  rw [dw_step, Nat.mul_add a, Nat.mul_add (65536 ^ i), Nat.pow_add, Nat.add_assoc]
  congr 2
  rw [Nat.mul_assoc (65536 ^ i)]
  congr 1
  rw [Nat.mul_left_comm]
theorem wrow_done {A B i : Nat} : (A % 65536 ^ i) * B + 65536 ^ i * (dw A i * B) = (A % 65536 ^ (i + 1)) * B := by
  rw [dw_step, Nat.add_mul, Nat.mul_assoc]

/-! folding -/
abbrev H256 : Nat := 115792089237316195423570985008687907853269984665640564039457584007913129639936
theorem pow16 : (65536 : Nat) ^ 16 = H256 := by decide +kernel
def stepV (V : Nat) : Nat := V % H256 + 38 * (V / H256)
def itV : Nat → Nat → Nat
  | 0, V => V
  | r + 1, V => stepV (itV r V)
theorem P_256 : 2 * P + 38 = H256 := by rw [P_eq]
theorem fold38 (V h l : Nat) (e : V = l + H256 * h) : (l + 38 * h) % P = V % P := by
  have : V = l + 38 * h + P * (2 * h) := by
    rw [e, ← P_256, Nat.add_mul, Nat.mul_comm 2 P, Nat.mul_assoc]
    omega
  rw [this, Nat.add_mul_mod_self_left]
theorem stepV_mod (V : Nat) : stepV V % P = V % P := fold38 V _ _ (Nat.mod_add_div V H256).symm
theorem itV_mod (V : Nat) : ∀ r, itV r V % P = V % P
  | 0 => rfl
  | r + 1 => by rw [itV, stepV_mod, itV_mod V r]
theorem itV_two {V : Nat} (h : V < H256 * 17592186044416) : itV 2 V < H256 := by
  show stepV (stepV V) < _
  unfold stepV
  have h1 : V / H256 < 17592186044416 := Nat.div_lt_of_lt_mul h
  have h2 : V % H256 < H256 := Nat.mod_lt _ (by decide)
  generalize V % H256 = l at *
  generalize V / H256 = q at *
  have h3 : (l + 38 * q) / H256 ≤ 1 := by unfold H256 at *; omega
  rcases Nat.lt_or_ge (l + 38 * q) H256 with h4 | h4
  · rw [Nat.mod_eq_of_lt h4, Nat.div_eq_of_lt h4]; omega
  · have h5 : (l + 38 * q) / H256 = 1 := by
      have : 1 ≤ (l + 38 * q) / H256 := Nat.div_pos h4 (by decide)
      omega
    rw [h5]
    unfold H256 at *
    omega

theorem valW_shift (f : Nat → Nat) (m : Nat) : ∀ n, valW (m + n) f = valW m f + 65536 ^ m * valW n (fun j => f (m + j))
  | 0 => by simp [valW]
  | n + 1 => by
    rw [← Nat.add_assoc, valW, valW_shift f m n, valW, Nat.mul_add, Nat.pow_add, Nat.add_assoc]
    congr 2
    rw [Nat.mul_left_comm]
theorem valW_lin (f g : Nat → Nat) (c : Nat) : ∀ n, valW n (fun j => f j + c * g j) = valW n f + c * valW n g
  | 0 => rfl
  | n + 1 => by
    rw [valW, valW_lin f g c n, valW, valW, Nat.mul_add, Nat.add_mul, Nat.mul_assoc]
    omega
end Go.Proofs.Ytffghaeaohabhaa.AW
