/-
  Numbers as rows of words and bytes, the lowest first; sums, differences and products of rows of words. No program in sight.
-/
import Derived.Test.YtffghaeaohabhaaM4
namespace Go.Proofs.Ytffghaeaohabhaa.NT
set_option maxRecDepth 100000

def n64 : List UInt64 → Nat
  | [] => 0
  | x :: r => x.toNat + 18446744073709551616 * n64 r
def w64 : Nat → Nat → List UInt64
  | 0, _ => []
  | k + 1, n => UInt64.ofNat n :: w64 k (n / 18446744073709551616)
def n8 : List UInt8 → Nat
  | [] => 0
  | x :: r => x.toNat + 256 * n8 r
def b8 : Nat → Nat → List UInt8
  | 0, _ => []
  | k + 1, n => UInt8.ofNat n :: b8 k (n / 256)

theorem w64_len : ∀ k n, (w64 k n).length = k
  | 0, _ => rfl
  | k + 1, n => by simp [w64, w64_len k]
theorem b8_len : ∀ k n, (b8 k n).length = k
  | 0, _ => rfl
  | k + 1, n => by simp [b8, b8_len k]

theorem w64_n64 : ∀ (l : List UInt64), w64 l.length (n64 l) = l
  | [] => rfl
  | x :: r => by
    have h := x.toNat_lt
    simp only [List.length_cons, w64, n64]
    have e1 : (x.toNat + 18446744073709551616 * n64 r) / 18446744073709551616 = n64 r := by omega
    have e2 : UInt64.ofNat (x.toNat + 18446744073709551616 * n64 r) = x := by
      apply UInt64.toNat_inj.1
      show (x.toNat + 18446744073709551616 * n64 r) % 18446744073709551616 = _
      omega
    rw [e1, e2, w64_n64 r]
theorem b8_n8 : ∀ (l : List UInt8), b8 l.length (n8 l) = l
  | [] => rfl
  | x :: r => by
    have h := x.toNat_lt
    simp only [List.length_cons, b8, n8]
    have e1 : (x.toNat + 256 * n8 r) / 256 = n8 r := by omega
    have e2 : UInt8.ofNat (x.toNat + 256 * n8 r) = x := by
      apply UInt8.toNat_inj.1
      show (x.toNat + 256 * n8 r) % 256 = _
      omega
    rw [e1, e2, b8_n8 r]

theorem n64_w64 : ∀ (k n : Nat), n < 18446744073709551616 ^ k → n64 (w64 k n) = n
  | 0, n, h => by simp at h; subst h; rfl
  | k + 1, n, h => by
    have h1 : n / 18446744073709551616 < 18446744073709551616 ^ k := by rw [Nat.div_lt_iff_lt_mul (by decide), ← Nat.pow_succ]; exact h
    simp only [w64, n64, n64_w64 k _ h1]
    show n % 18446744073709551616 + _ = _
    omega
theorem n8_b8 : ∀ (k n : Nat), n < 256 ^ k → n8 (b8 k n) = n
  | 0, n, h => by simp at h; subst h; rfl
  | k + 1, n, h => by
    have h1 : n / 256 < 256 ^ k := by rw [Nat.div_lt_iff_lt_mul (by decide), ← Nat.pow_succ]; exact h
    simp only [b8, n8, n8_b8 k _ h1]
    show n % 256 + _ = _
    omega

theorem n64_lt : ∀ (l : List UInt64), n64 l < 18446744073709551616 ^ l.length
  | [] => by simp [n64]
  | x :: r => by
    have h := x.toNat_lt
    have ih := n64_lt r
    simp only [n64, List.length_cons, Nat.pow_succ]
    omega
theorem n8_lt : ∀ (l : List UInt8), n8 l < 256 ^ l.length
  | [] => by simp [n8]
  | x :: r => by
    have h := x.toNat_lt
    have ih := n8_lt r
    simp only [n8, List.length_cons, Nat.pow_succ]
    omega

theorem w64_of {l : List UInt64} {k n : Nat} (hl : l.length = k) (hn : n64 l = n) : l = w64 k n := by subst hl hn; exact (w64_n64 l).symm
theorem b8_of {l : List UInt8} {k n : Nat} (hl : l.length = k) (hn : n8 l = n) : l = b8 k n := by subst hl hn; exact (b8_n8 l).symm
theorem b8_inj {k a b : Nat} (ha : a < 256 ^ k) (hb : b < 256 ^ k) (h : b8 k a = b8 k b) : a = b := by
  rw [← n8_b8 k a ha, ← n8_b8 k b hb, h]
theorem w64_inj {k a b : Nat} (ha : a < 18446744073709551616 ^ k) (hb : b < 18446744073709551616 ^ k) (h : w64 k a = w64 k b) : a = b := by
  rw [← n64_w64 k a ha, ← n64_w64 k b hb, h]

theorem n64_app : ∀ (a b : List UInt64), n64 (a ++ b) = n64 a + 18446744073709551616 ^ a.length * n64 b
  | [], b => by simp [n64]
  | x :: r, b => by
    simp only [List.cons_append, n64, n64_app r b, List.length_cons, Nat.pow_succ]
    rw [Nat.mul_add, Nat.add_assoc, ← Nat.mul_assoc, Nat.mul_comm 18446744073709551616 (18446744073709551616 ^ r.length)]

/-! ### carries: c = 0 or 1 -/
structure AddOk (x y c s d : UInt64) : Prop where
  le : d.toNat ≤ 1
  eq : s.toNat + 18446744073709551616 * d.toNat = x.toNat + y.toNat + c.toNat
structure SubOk (x y b s d : UInt64) : Prop where
  le : d.toNat ≤ 1
  eq : x.toNat + 18446744073709551616 * d.toNat = y.toNat + b.toNat + s.toNat
structure MulOk (x y h l : UInt64) : Prop where
  eq : l.toNat + 18446744073709551616 * h.toNat = x.toNat * y.toNat

theorem add4 {x0 x1 x2 x3 y0 y1 y2 y3 c0 s0 s1 s2 s3 d0 d1 d2 d3 : UInt64} (h0 : AddOk x0 y0 c0 s0 d0) (h1 : AddOk x1 y1 d0 s1 d1) (h2 : AddOk x2 y2 d1 s2 d2) (h3 : AddOk x3 y3 d2 s3 d3) :
    n64 [s0, s1, s2, s3] + 18446744073709551616 ^ 4 * d3.toNat = n64 [x0, x1, x2, x3] + n64 [y0, y1, y2, y3] + c0.toNat := by
  have a0 := h0.eq; have a1 := h1.eq; have a2 := h2.eq; have a3 := h3.eq
  simp only [n64]
  omega

theorem sub4 {x0 x1 x2 x3 y0 y1 y2 y3 c0 s0 s1 s2 s3 d0 d1 d2 d3 : UInt64} (h0 : SubOk x0 y0 c0 s0 d0) (h1 : SubOk x1 y1 d0 s1 d1) (h2 : SubOk x2 y2 d1 s2 d2) (h3 : SubOk x3 y3 d2 s3 d3) :
    n64 [x0, x1, x2, x3] + 18446744073709551616 ^ 4 * d3.toNat = n64 [y0, y1, y2, y3] + c0.toNat + n64 [s0, s1, s2, s3] := by
  have a0 := h0.eq; have a1 := h1.eq; have a2 := h2.eq; have a3 := h3.eq
  simp only [n64]
  omega

theorem split4 (l : List UInt64) (h : l.length = 4) : ∃ a b c d, l = [a, b, c, d] := by
  match l, h with
  | [a, b, c, d], _ => exact ⟨a, b, c, d, rfl⟩

theorem pow4 : (18446744073709551616 : Nat) ^ 4 = 115792089237316195423570985008687907853269984665640564039457584007913129639936 := by decide

/-- bits of an exponent, told by a function, the highest first -/
def expL (bf : Nat → Bool) : Nat → Nat → Nat
  | 0, acc => acc
  | i + 1, acc => expL bf i (2 * acc + (bf i).toNat)

theorem expL_acc (bf : Nat → Bool) : ∀ (i acc : Nat), expL bf i acc = acc * 2 ^ i + expL bf i 0
  | 0, acc => by simp [expL]
  | i + 1, acc => by
    simp only [expL]
    rw [expL_acc bf i (2 * acc + (bf i).toNat), expL_acc bf i (2 * 0 + (bf i).toNat), Nat.pow_succ]
    rw [Nat.mul_zero, Nat.zero_add, Nat.add_mul, Nat.mul_comm 2 acc, Nat.mul_assoc, Nat.mul_comm 2 (2 ^ i)]
    omega

theorem expL_bits (N : Nat) : ∀ i : Nat, expL (fun j => N / 2 ^ j % 2 == 1) i 0 = N % 2 ^ i
  | 0 => by simp [expL, Nat.mod_one]
  | i + 1 => by
    simp only [expL]
    rw [expL_acc, expL_bits N i, Nat.mod_pow_succ]
    have : N / 2 ^ i % 2 < 2 := Nat.mod_lt _ (by decide)
    have h : N / 2 ^ i % 2 = 0 ∨ N / 2 ^ i % 2 = 1 := by omega
    rcases h with h | h <;> rw [h] <;> simp <;> omega

/-! ### rows of words, place by place -/
theorem n64_set : ∀ (l : List UInt64) (j : Nat) (v : UInt64), j < l.length → n64 (l.set j v) + (l.getD j 0).toNat * 18446744073709551616 ^ j = n64 l + v.toNat * 18446744073709551616 ^ j
  | [], j, v, h => by simp at h
  | x :: r, 0, v, h => by simp [n64]; omega
  | x :: r, j + 1, v, h => by
    have ih := n64_set r j v (by simpa using h)
    simp only [List.set_cons_succ, n64, List.getD_cons_succ, Nat.pow_succ]
    generalize 18446744073709551616 ^ j = W at *
    have e1 : ∀ q : Nat, q * (W * 18446744073709551616) = 18446744073709551616 * (q * W) := fun q => by rw [← Nat.mul_assoc, Nat.mul_comm]
    rw [e1, e1]
    generalize (r.getD j 0).toNat * W = A at *
    generalize v.toNat * W = C at *
    omega

theorem n64_take : ∀ (l : List UInt64) (k : Nat), k < l.length → n64 (l.take (k + 1)) = n64 (l.take k) + (l.getD k 0).toNat * 18446744073709551616 ^ k
  | [], k, h => by simp at h
  | x :: r, 0, h => by simp [n64]
  | x :: r, k + 1, h => by
    have ih := n64_take r k (by simpa using h)
    simp only [List.take_succ_cons, n64, List.getD_cons_succ, Nat.pow_succ] at ih ⊢
    rw [ih]
    generalize 18446744073709551616 ^ k = W at *
    have e1 : ∀ q : Nat, q * (W * 18446744073709551616) = 18446744073709551616 * (q * W) := fun q => by rw [← Nat.mul_assoc, Nat.mul_comm]
    rw [e1, Nat.mul_add]; omega

theorem n64_rep (n : Nat) : n64 (List.replicate n 0) = 0 := by
  induction n with
  | zero => rfl
  | succ n ih => simp [List.replicate_succ, n64, ih]

/-- a product, and two more -/
theorem mac {m y h l w c l1 l2 c1 c2 : UInt64} (hm : MulOk m y h l) (h1 : AddOk l w 0 l1 c1) (h2 : AddOk l1 c 0 l2 c2) :
    l2.toNat + 18446744073709551616 * (h + c1 + c2).toNat = m.toNat * y.toNat + w.toNat + c.toNat := by
  have e0 := hm.eq; have e1 := h1.eq; have e2 := h2.eq
  have a := m.toNat_lt; have b := y.toNat_lt; have d := w.toNat_lt; have e := c.toNat_lt; have f := l2.toNat_lt
  have hp : m.toNat * y.toNat ≤ 18446744073709551615 * 18446744073709551615 := Nat.mul_le_mul (by omega) (by omega)
  generalize m.toNat * y.toNat = p at *
  have z : (0 : UInt64).toNat = 0 := rfl
  have hs : (h + c1 + c2).toNat = h.toNat + c1.toNat + c2.toNat := by
    rw [UInt64.toNat_add, UInt64.toNat_add]
    omega
  rw [hs]
  omega

/-- a row of a product under way -/
structure MRow (y : List UInt64) (m : UInt64) (W0 W : List UInt64) (i k : Nat) (c : UInt64) : Prop where
  len : W.length = 8
  val : n64 W + c.toNat * 18446744073709551616 ^ (i + k) = n64 W0 + m.toNat * n64 (y.take k) * 18446744073709551616 ^ i
  zero : ∀ j, i + k ≤ j → W.getD j 0 = W0.getD j 0

theorem getD_set_ne {l : List UInt64} {i j : Nat} {v : UInt64} (h : i ≠ j) : (l.set i v).getD j 0 = l.getD j 0 := by
  simp only [List.getD_eq_getElem?_getD]
  rw [List.getElem?_set_ne h]

theorem MRow.step {y : List UInt64} {m : UInt64} {W0 W : List UInt64} {i k : Nat} {c l2 c' : UInt64} (h : MRow y m W0 W i k c) (hy : k < y.length) (hi : i + k < 8)
    (he : l2.toNat + 18446744073709551616 * c'.toNat = m.toNat * (y.getD k 0).toNat + (W.getD (i + k) 0).toNat + c.toNat) : MRow y m W0 (W.set (i + k) l2) i (k + 1) c' := by
  obtain ⟨h1, h2, h3⟩ := h
  refine ⟨by simp [h1], ?_, fun j hj => by rw [getD_set_ne (by omega)]; exact h3 j (by omega)⟩
  have hs := n64_set W (i + k) l2 (by omega)
  rw [n64_take y k hy]
  generalize n64 (W.set (i + k) l2) = V at *
  generalize (W.getD (i + k) 0).toNat = w at *
  generalize (y.getD k 0).toNat = Y at *
  generalize n64 (y.take k) = T at *
  generalize m.toNat = M at *
  generalize l2.toNat = L at *
  generalize c'.toNat = C' at *
  generalize c.toNat = C at *
  have e1 : (18446744073709551616 : Nat) ^ (i + (k + 1)) = 18446744073709551616 * 18446744073709551616 ^ (i + k) := by rw [← Nat.add_assoc, Nat.pow_succ, Nat.mul_comm]
  have e2 : (18446744073709551616 : Nat) ^ (i + k) = 18446744073709551616 ^ k * 18446744073709551616 ^ i := by rw [Nat.add_comm, Nat.pow_add]
  have e3 : M * (T + Y * 18446744073709551616 ^ k) * 18446744073709551616 ^ i = M * T * 18446744073709551616 ^ i + M * Y * 18446744073709551616 ^ (i + k) := by
    rw [e2, Nat.mul_add, Nat.add_mul]; congr 1; simp only [Nat.mul_assoc]
  rw [e1, e3]
  generalize (18446744073709551616 : Nat) ^ (i + k) = W' at *
  have e4 : C' * (18446744073709551616 * W') = (18446744073709551616 * C') * W' := by rw [← Nat.mul_assoc, Nat.mul_comm C']
  rw [e4]
  have e5 : L * W' + 18446744073709551616 * C' * W' = M * Y * W' + w * W' + C * W' := by rw [← Nat.add_mul, he, Nat.add_mul, Nat.add_mul]
  omega

theorem MRow.last {y : List UInt64} {m : UInt64} {W0 W : List UInt64} {i : Nat} {c : UInt64} (h : MRow y m W0 W i 4 c) (hy : y.length = 4) (hi : i + 4 < 8) (hz : W0.getD (i + 4) 0 = 0) :
    (W.set (i + 4) c).length = 8 ∧ n64 (W.set (i + 4) c) = n64 W0 + m.toNat * n64 y * 18446744073709551616 ^ i ∧ ∀ j, i + 5 ≤ j → (W.set (i + 4) c).getD j 0 = W0.getD j 0 := by
  obtain ⟨h1, h2, h3⟩ := h
  refine ⟨by simp [h1], ?_, fun j hj => by rw [getD_set_ne (by omega)]; exact h3 j (by omega)⟩
  have hs := n64_set W (i + 4) c (by omega)
  rw [h3 (i + 4) (Nat.le_refl _), hz] at hs
  rw [List.take_of_length_le (by omega)] at h2
  have z : (0 : UInt64).toNat = 0 := rfl
  rw [z, Nat.zero_mul] at hs
  omega
end Go.Proofs.Ytffghaeaohabhaa.NT
