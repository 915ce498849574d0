/-
  Numbers as rows of digits of 16 bits: sums, products, comparison. No program in sight.
-/
import Derived.Test.YtffghaeaohabhaaM1
namespace Go.Proofs.Ytffghaeaohabhaa.NT

def val16 : List Nat → Nat
  | [] => 0
  | x :: r => x + 65536 * val16 r

theorem val16_app : ∀ (a b : List Nat), val16 (a ++ b) = val16 a + 65536 ^ a.length * val16 b
  | [], b => by simp [val16]
  | x :: r, b => by
    simp only [List.cons_append, val16, val16_app r b, List.length_cons, Nat.pow_succ]
    rw [Nat.mul_add, Nat.add_assoc, ← Nat.mul_assoc, Nat.mul_comm 65536 (65536 ^ r.length)]

theorem val16_set : ∀ (l : List Nat) (j v : Nat), j < l.length → val16 (l.set j v) + l.getD j 0 * 65536 ^ j = val16 l + v * 65536 ^ j
  | [], j, v, h => by simp at h
  | x :: r, 0, v, h => by simp [val16]; omega
  | x :: r, j + 1, v, h => by
    have ih := val16_set r j v (by simpa using h)
    simp only [List.set_cons_succ, val16, List.getD_cons_succ, Nat.pow_succ]
    generalize 65536 ^ j = W at *
    have e1 : ∀ q : Nat, q * (W * 65536) = 65536 * (q * W) := fun q => by rw [← Nat.mul_assoc, Nat.mul_comm]
    rw [e1, e1]
    generalize r.getD j 0 * W = A at *
    generalize v * W = C at *
    omega

theorem val16_take : ∀ (l : List Nat) (k : Nat), k < l.length → val16 (l.take (k + 1)) = val16 (l.take k) + l.getD k 0 * 65536 ^ k
  | [], k, h => by simp at h
  | x :: r, 0, h => by simp [val16]
  | x :: r, k + 1, h => by
    have ih := val16_take r k (by simpa using h)
    simp only [List.take_succ_cons, val16, List.getD_cons_succ, Nat.pow_succ] at ih ⊢
    rw [ih]
    generalize 65536 ^ k = W at *
    have e1 : ∀ q : Nat, q * (W * 65536) = 65536 * (q * W) := fun q => by rw [← Nat.mul_assoc, Nat.mul_comm]
    rw [e1, Nat.mul_add]; omega

theorem val16_rep (n : Nat) : val16 (List.replicate n 0) = 0 := by
  induction n with
  | zero => rfl
  | succ n ih => simp [List.replicate_succ, val16, ih]

/-- the number of digits told by a function, the lowest n -/
def valN (f : Nat → Nat) : Nat → Nat
  | 0 => 0
  | n + 1 => valN f n + f n * 65536 ^ n

theorem valN_lt {f : Nat → Nat} : ∀ {n : Nat}, (∀ i, i < n → f i < 65536) → valN f n < 65536 ^ n
  | 0, _ => by simp [valN]
  | n + 1, h => by
    have ih := valN_lt (f := f) (n := n) (fun i hi => h i (by omega))
    have h1 := h n (by omega)
    simp only [valN, Nat.pow_succ]
    have := Nat.mul_le_mul_right (65536 ^ n) (show f n ≤ 65535 by omega)
    omega

theorem valN_congr {f g : Nat → Nat} : ∀ {n : Nat}, (∀ i, i < n → f i = g i) → valN f n = valN g n
  | 0, _ => rfl
  | n + 1, h => by simp only [valN]; rw [valN_congr (n := n) (fun i hi => h i (by omega)), h n (by omega)]

theorem valN_gt {f g : Nat → Nat} : ∀ {n i : Nat}, i < n → (∀ j, j < n → g j < 65536) → (∀ j, i < j → j < n → f j = g j) → g i < f i → valN g n < valN f n
  | 0, i, h, _, _, _ => by omega
  | n + 1, i, h, hb, he, hlt => by
    simp only [valN]
    by_cases hi : i = n
    · subst hi
      have h1 := valN_lt (f := g) (n := i) (fun j hj => hb j (by omega))
      have h2 := Nat.mul_le_mul_right (65536 ^ i) (show g i + 1 ≤ f i by omega)
      rw [Nat.add_mul, Nat.one_mul] at h2
      omega
    · have ih := valN_gt (f := f) (g := g) (n := n) (i := i) (by omega) (fun j hj => hb j (by omega)) (fun j h1 h2 => he j h1 (by omega)) hlt
      rw [he n (by omega) (by omega)]
      omega

theorem val16_valN : ∀ (l : List Nat) (n : Nat), l.length ≤ n → val16 l = valN (fun i => l.getD i 0) n := by
  have key : ∀ (l : List Nat) (k : Nat), k ≤ l.length → val16 (l.take k) = valN (fun i => l.getD i 0) k := by
    intro l k
    induction k with
    | zero => intro _; simp [val16, valN]
    | succ k ih => intro hk; rw [val16_take l k (by omega), ih (by omega)]; rfl
  intro l n hn
  obtain ⟨d, rfl⟩ := Nat.exists_eq_add_of_le hn
  induction d with
  | zero => have := key l l.length (Nat.le_refl _); rw [List.take_length] at this; exact this
  | succ d ih =>
    rw [← Nat.add_assoc]
    simp only [valN]
    rw [← ih (by omega)]
    have : l.getD (l.length + d) 0 = 0 := by simp [List.getD]
    rw [this]; simp

theorem getD_lt {l : List Nat} (h : ∀ x, x ∈ l → x < 65536) (i : Nat) : l.getD i 0 < 65536 := by
  rw [List.getD_eq_getElem?_getD]
  cases hi : l[i]? with
  | none => simp
  | some x => simpa using h x (List.mem_of_getElem? hi)

/-- the digits of 16 bits -/
def digS : Nat → Nat → List Nat
  | 0, _ => []
  | f + 1, x => if x = 0 then [] else x % 65536 :: digS f (x / 65536)

theorem digS_lt : ∀ (f x : Nat), ∀ y, y ∈ digS f x → y < 65536
  | 0, x, y, h => by simp [digS] at h
  | f + 1, x, y, h => by
    simp only [digS] at h
    split at h
    · simp at h
    · rcases List.mem_cons.1 h with rfl | h
      · exact Nat.mod_lt _ (by decide)
      · exact digS_lt f _ y h
theorem digS_val : ∀ (f x : Nat), x < 65536 ^ f → val16 (digS f x) = x
  | 0, x, h => by simp at h; subst h; rfl
  | f + 1, x, h => by
    simp only [digS]
    split
    · rename_i h0; subst h0; rfl
    · have h1 : x / 65536 < 65536 ^ f := by rw [Nat.div_lt_iff_lt_mul (by decide), ← Nat.pow_succ]; exact h
      simp only [val16, digS_val f _ h1]
      exact Nat.mod_add_div x 65536
theorem digS_len : ∀ (f x : Nat), (digS f x).length ≤ f
  | 0, x => by simp [digS]
  | f + 1, x => by
    simp only [digS]
    split
    · simp
    · have := digS_len f (x / 65536); simp; omega

/-- bit by bit from 2^(f-1) on: the greatest with x^power at most p 2^(32 power) -/
def fracL (p pw : Nat) : Nat → Nat → Nat
  | 0, root => root
  | f + 1, root => fracL p pw f (if p * 2 ^ (32 * pw) < (root + 2 ^ f) ^ pw then root else root + 2 ^ f)
end Go.Proofs.Ytffghaeaohabhaa.NT
