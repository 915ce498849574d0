/-
  Numbers as bytes without leading noughts.
-/
import Derived.Test.YtffghaeaohabhaaM7
namespace Go.Proofs.Ytffghaeaohabhaa.AW
open NT

def natF : Nat → Nat → List UInt8
  | 0, _ => []
  | k + 1, n => if n = 0 then [] else UInt8.ofNat n :: natF k (n / 256)
/-- a number's bytes, the least first, the last not nought -/
def nat8 (n : Nat) : List UInt8 := natF n n

theorem natF_more : ∀ (k n m : Nat), n ≤ k → n ≤ m → natF k n = natF m n
  | 0, n, m, h, _ => by
    obtain rfl : n = 0 := by omega
    cases m <;> rfl
  | k + 1, n, m, h, h' => by
    cases m with
    | zero => obtain rfl : n = 0 := by omega
              rfl
    | succ m =>
      simp only [natF]
      by_cases h0 : n = 0
      · rw [if_pos h0, if_pos h0]
      · rw [if_neg h0, if_neg h0, natF_more k (n / 256) m (by omega) (by omega)]
theorem nat8_zero : nat8 0 = [] := rfl
theorem nat8_succ {n : Nat} (h : n ≠ 0) : nat8 n = UInt8.ofNat n :: nat8 (n / 256) := by
  obtain ⟨k, rfl⟩ : ∃ k, n = k + 1 := ⟨n - 1, by omega⟩
  show natF (k + 1) (k + 1) = _
  rw [natF, if_neg h]
  congr 1
  exact natF_more _ _ _ (by omega) (by omega)
attribute [irreducible] nat8

theorem n8_nat8 (n : Nat) : n8 (nat8 n) = n := by
  induction n using Nat.strongRecOn with
  | ind n ih =>
    by_cases h : n = 0
    · subst h; rw [nat8_zero]; rfl
    · rw [nat8_succ h, n8, ih (n / 256) (by omega), UInt8.toNat_ofNat']
      show n % 256 + 256 * (n / 256) = n
      omega

theorem nat8_len (n : Nat) : ∀ k, n < 256 ^ k → (nat8 n).length ≤ k := by
  induction n using Nat.strongRecOn with
  | ind n ih =>
    intro k hk
    by_cases h : n = 0
    · subst h; rw [nat8_zero]; exact Nat.zero_le _
    · rw [nat8_succ h, List.length_cons]
      cases k with
      | zero => rw [Nat.pow_zero] at hk; omega
      | succ k =>
        have := ih (n / 256) (by omega) k (by rw [Nat.pow_succ] at hk; omega)
        omega

theorem n8_lt' : ∀ l : List UInt8, n8 l < 256 ^ l.length
  | [] => by decide
  | x :: r => by
    have h := n8_lt' r
    have hx := x.toNat_lt
    simp only [n8, List.length_cons, Nat.pow_succ]
    omega

theorem nat8_len' {n k : Nat} (h : (nat8 n).length ≤ k) : n < 256 ^ k := by
  have h1 := n8_lt' (nat8 n)
  rw [n8_nat8] at h1
  exact Nat.lt_of_lt_of_le h1 (Nat.pow_le_pow_right (by decide) h)

theorem nat8_of : ∀ (L : List UInt8), (∀ k, L.length = k + 1 → L.getD k 0 ≠ 0) → nat8 (n8 L) = L
  | [], _ => nat8_zero
  | x :: r, h => by
    have hr : nat8 (n8 r) = r := nat8_of r fun k hk => by
      have := h (k + 1) (by simp [hk])
      rwa [List.getD_cons_succ] at this
    have hx := x.toNat_lt
    have hne : n8 (x :: r) ≠ 0 := by
      simp only [n8]
      cases r with
      | nil =>
        have := h 0 rfl
        rw [List.getD_cons_zero] at this
        intro e
        refine this (UInt8.toNat_inj.1 ?_)
        show x.toNat = 0
        simp only [n8] at e
        omega
      | cons y s =>
        intro e
        have e0 : n8 (y :: s) = 0 := by omega
        rw [e0, nat8_zero] at hr
        cases hr
    rw [nat8_succ hne]
    simp only [n8]
    congr 1
    · apply UInt8.toNat_inj.1
      rw [UInt8.toNat_ofNat']
      show (x.toNat + 256 * n8 r) % 256 = _
      omega
    · rw [show (x.toNat + 256 * n8 r) / 256 = n8 r by omega, hr]

theorem n8_digit : ∀ (l : List UInt8) (i : Nat), (l.getD i 0).toNat = n8 l / 256 ^ i % 256
  | [], i => by
    show 0 = 0 / _ % 256
    rw [Nat.zero_div]
  | x :: r, 0 => by
    have hx := x.toNat_lt
    rw [List.getD_cons_zero, Nat.pow_zero, Nat.div_one, n8]
    omega
  | x :: r, i + 1 => by
    have hx := x.toNat_lt
    rw [List.getD_cons_succ, n8_digit r i, Nat.pow_succ, Nat.mul_comm, ← Nat.div_div_eq_div_mul, n8, show (x.toNat + 256 * n8 r) / 256 = n8 r by omega]

theorem n8_split (A : List UInt8) (k : Nat) (hk : k ≤ A.length) : n8 A = n8 (A.take k) + 256 ^ k * n8 (A.drop k) := by
  have h := n8_app (A.take k) (A.drop k)
  rw [List.take_append_drop, List.length_take, Nat.min_eq_left hk] at h
  exact h
theorem n8_take (A : List UInt8) (k : Nat) (hk : k ≤ A.length) : n8 (A.take k) = n8 A % 256 ^ k := by
  have h1 := n8_split A k hk
  have h2 := n8_lt' (A.take k)
  rw [List.length_take, Nat.min_eq_left hk] at h2
  rw [h1, Nat.add_mul_mod_self_left, Nat.mod_eq_of_lt h2]
theorem n8_drop (A : List UInt8) (k : Nat) (hk : k ≤ A.length) : n8 (A.drop k) = n8 A / 256 ^ k := by
  have h1 := n8_split A k hk
  have h2 := n8_lt' (A.take k)
  rw [List.length_take, Nat.min_eq_left hk] at h2
  rw [h1, Nat.add_mul_div_left _ _ (Nat.pow_pos (by decide)), Nat.div_eq_of_lt h2, Nat.zero_add]

/-- taking the noughts off -/
theorem norm_take (A : List UInt8) (k : Nat) (hk : k ≤ A.length) (hz : n8 A < 256 ^ k) (hl : ∀ j, k = j + 1 → A.getD j 0 ≠ 0) : A.take k = nat8 (n8 A) := by
  have e : n8 (A.take k) = n8 A := by rw [n8_take A k hk, Nat.mod_eq_of_lt hz]
  rw [← e]
  refine (nat8_of _ fun j hj => ?_).symm
  rw [List.length_take, Nat.min_eq_left hk] at hj
  have := hl j hj
  rw [List.getD_eq_getElem?_getD, List.getElem?_take, if_pos (by omega), ← List.getD_eq_getElem?_getD]
  exact this

theorem nat8_top {n j : Nat} (h : (nat8 n).length = j + 1) : (nat8 n).getD j 0 ≠ 0 := by
  induction n using Nat.strongRecOn generalizing j with
  | ind n ih =>
    by_cases h0 : n = 0
    · subst h0; rw [nat8_zero] at h; cases h
    · rw [nat8_succ h0] at h ⊢
      cases j with
      | zero =>
        rw [List.getD_cons_zero]
        have hl : nat8 (n / 256) = [] := List.length_eq_zero_iff.1 (by simpa using h)
        have h1 := n8_nat8 (n / 256)
        rw [hl] at h1
        intro e
        have := congrArg UInt8.toNat e
        rw [UInt8.toNat_ofNat'] at this
        have h2 : n % 256 = 0 := this
        have h3 : 0 = n / 256 := h1
        omega
      | succ j =>
        rw [List.getD_cons_succ]
        exact ih (n / 256) (by omega) (by simpa using h)

theorem cmp_lt {a b q : Nat} (h : a / (q * 256) = b / (q * 256)) (hd : a / q % 256 < b / q % 256) : a < b := by
  rw [← Nat.div_div_eq_div_mul, ← Nat.div_div_eq_div_mul] at h
  have h1 : a / q < b / q := by omega
  rcases Nat.lt_or_ge a b with h2 | h2
  · exact h2
  · exact absurd (Nat.div_le_div_right (c := q) h2) (by omega)
theorem cmp_eq {a b q : Nat} (h : a / (q * 256) = b / (q * 256)) (hd : a / q % 256 = b / q % 256) : a / q = b / q := by
  rw [← Nat.div_div_eq_div_mul, ← Nat.div_div_eq_div_mul] at h
  omega

def cmpN (a b : Nat) : Int := if a < b then -1 else if b < a then 1 else 0

theorem b8_nat8 (n k : Nat) (h : n < 256 ^ k) : nat8 n ++ List.replicate (k - (nat8 n).length) 0 = b8 k n := by
  have hl := nat8_len n k h
  have e : n8 (nat8 n ++ List.replicate (k - (nat8 n).length) 0) = n := by
    rw [n8_app, n8_nat8]
    have : ∀ j, n8 (List.replicate j 0) = 0 := fun j => by
      induction j with
      | zero => rfl
      | succ j ih => rw [List.replicate_succ, n8, ih]; rfl
    rw [this, Nat.mul_zero, Nat.add_zero]
  have := b8_n8 (nat8 n ++ List.replicate (k - (nat8 n).length) 0)
  rw [e, List.length_append, List.length_replicate, show (nat8 n).length + (k - (nat8 n).length) = k by omega] at this
  exact this.symm
end Go.Proofs.Ytffghaeaohabhaa.AW
