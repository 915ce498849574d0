/-
  Words of bytes and bytes of words; the field's elements as 32 bytes. No program in sight.
-/
import Derived.Test.YtffghaeaohabhaaM5
namespace Go.Proofs.Ytffghaeaohabhaa.NT
set_option maxRecDepth 100000

theorem n8_app : ∀ (a b : List UInt8), n8 (a ++ b) = n8 a + 256 ^ a.length * n8 b
  | [], b => by simp [n8]
  | x :: r, b => by
    simp only [List.cons_append, n8, n8_app r b, List.length_cons, Nat.pow_succ]
    rw [Nat.mul_add, Nat.add_assoc, ← Nat.mul_assoc, Nat.mul_comm 256 (256 ^ r.length)]

theorem n8_chunk (a : List UInt8) (m n : Nat) (h : m < a.length) : n8 ((a.drop m).take (n + 1)) = (a.getD m 0).toNat + 256 * n8 ((a.drop (m + 1)).take n) := by
  rw [List.drop_eq_getElem_cons h]
  simp only [List.take_succ_cons, n8]
  simp [List.getD, List.getElem?_eq_getElem h]

/-- a byte comes in below -/
theorem word_step (v : UInt64) (b : UInt8) (hv : v.toNat < 72057594037927936) : ((v <<< UInt64.ofNat 8) ||| b.toUInt64).toNat = b.toNat + 256 * v.toNat := by
  have hb := b.toNat_lt
  rw [UInt64.toNat_or, UInt64.toNat_shiftLeft]
  have e1 : (UInt64.ofNat 8).toNat % 64 = 8 := rfl
  have e2 : b.toUInt64.toNat = b.toNat := rfl
  rw [e1, e2, Nat.shiftLeft_eq, Nat.mod_eq_of_lt (by omega)]
  have := Nat.shiftLeft_add_eq_or_of_lt (a := v.toNat) (b := b.toNat) (i := 8) (by omega)
  rw [Nat.shiftLeft_eq] at this
  omega

theorem words_of (a : List UInt8) (ha : a.length = 32) (o : List UInt64) (ho : o.length = 4) (h : ∀ j, j < 4 → (o.getD j 0).toNat = n8 ((a.drop (8 * j)).take 8)) : o = w64 4 (n8 a) := by
  refine w64_of ho ?_
  obtain ⟨o0, o1, o2, o3, rfl⟩ := split4 o ho
  have h0 := h 0 (by decide); have h1 := h 1 (by decide); have h2 := h 2 (by decide); have h3 := h 3 (by decide)
  simp only [List.getD_cons_zero, List.getD_cons_succ] at h0 h1 h2 h3
  simp only [n64, h0, h1, h2, h3]
  have sp : ∀ (l : List UInt8), 8 ≤ l.length → n8 l = n8 (l.take 8) + 18446744073709551616 * n8 (l.drop 8) := fun l hl => by
    have := n8_app (l.take 8) (l.drop 8)
    rw [List.take_append_drop, List.length_take, Nat.min_eq_left hl] at this
    rw [this]
  have a0 := sp a (by omega)
  have a1 := sp (a.drop 8) (by simp [ha])
  have a2 := sp ((a.drop 8).drop 8) (by simp [ha])
  have a3 := sp (((a.drop 8).drop 8).drop 8) (by simp [ha])
  have a4 : (((a.drop 8).drop 8).drop 8).drop 8 = [] := List.eq_nil_of_length_eq_zero (by simp [ha])
  rw [a4] at a3
  simp only [List.drop_drop] at a0 a1 a2 a3
  simp only [List.drop_zero, Nat.mul_zero, Nat.mul_one]
  rw [a0, a1, a2, a3]
  rfl

theorem b8_snoc : ∀ (n X : Nat), b8 (n + 1) X = b8 n X ++ [UInt8.ofNat (X / 256 ^ n)]
  | 0, X => by simp [b8]
  | n + 1, X => by
    have ih := b8_snoc n (X / 256)
    rw [b8, ih, b8, Nat.div_div_eq_div_mul, Nat.pow_succ, Nat.mul_comm 256]
    rfl

theorem w64_getD : ∀ (k n i : Nat), i < k → (w64 k n).getD i 0 = UInt64.ofNat (n / 18446744073709551616 ^ i)
  | 0, n, i, h => by omega
  | k + 1, n, 0, h => by simp [w64]
  | k + 1, n, i + 1, h => by
    simp only [w64, List.getD_cons_succ]
    rw [w64_getD k _ i (by omega), Nat.div_div_eq_div_mul, Nat.pow_succ, Nat.mul_comm 18446744073709551616]

theorem word_byte (X i k : Nat) (hi : i < 4) (hk : k < 8) : (((w64 4 X).getD i 0) >>> UInt64.ofNat (8 * k)).toUInt8 = UInt8.ofNat (X / 256 ^ (8 * i + k)) := by
  rw [w64_getD 4 X i hi]
  apply UInt8.toNat_inj.1
  show (UInt64.ofNat (X / 18446744073709551616 ^ i) >>> UInt64.ofNat (8 * k)).toNat % 256 = (X / 256 ^ (8 * i + k)) % 256
  rw [UInt64.toNat_shiftRight]
  have e1 : (UInt64.ofNat (8 * k)).toNat % 64 = 8 * k := by
    rw [UInt64.toNat_ofNat_of_lt' (by show 8 * k < 18446744073709551616; omega)]; omega
  have e2 : (UInt64.ofNat (X / 18446744073709551616 ^ i)).toNat = X / 18446744073709551616 ^ i % 18446744073709551616 := rfl
  rw [e1, e2, Nat.shiftRight_eq_div_pow]
  have e3 : X / 256 ^ (8 * i + k) = X / 18446744073709551616 ^ i / 2 ^ (8 * k) := by
    rw [Nat.div_div_eq_div_mul]
    congr 1
    rw [show (256 : Nat) = 2 ^ 8 from rfl, ← Nat.pow_mul, show (18446744073709551616 : Nat) = 2 ^ 64 from rfl, ← Nat.pow_mul, ← Nat.pow_add]
    congr 1; omega
  rw [e3]
  generalize X / 18446744073709551616 ^ i = Y
  have : ∀ k : Nat, k < 8 → Y % 18446744073709551616 / 2 ^ (8 * k) % 256 = Y / 2 ^ (8 * k) % 256 := by
    intro k hk
    match k, hk with
    | 0, _ => omega
    | 1, _ => omega
    | 2, _ => omega
    | 3, _ => omega
    | 4, _ => omega
    | 5, _ => omega
    | 6, _ => omega
    | 7, _ => omega
    | n + 8, h => omega
  exact this k hk

/-- the bytes of an element -/
def bF (a : F) : List UInt8 := b8 32 a.val
theorem bF_len (a : F) : (bF a).length = 32 := b8_len 32 _
theorem F_lt256 (a : F) : a.val < 256 ^ 32 := Nat.lt_trans a.isLt (by rw [P_eq]; decide)
theorem bF_inj {a b : F} (h : bF a = bF b) : a = b := F_ext (b8_inj (F_lt256 a) (F_lt256 b) h)
theorem n8_bF (a : F) : n8 (bF a) = a.val := n8_b8 32 _ (F_lt256 a)
/-- 32 bytes below P are an element's -/
theorem bF_of (l : List UInt8) (hl : l.length = 32) (h : n8 l < P) : l = bF (mkF (n8 l)) := by
  unfold bF
  rw [mkF_lt h]
  exact b8_of hl rfl
end Go.Proofs.Ytffghaeaohabhaa.NT
