/-
  Points as 32 bytes: y, and the lowest bit of x in the highest place. No program in sight.
-/
import Derived.Test.YtffghaeaohabhaaM6
namespace Go.Proofs.Ytffghaeaohabhaa.NT
set_option maxRecDepth 100000

theorem b8_getD : ∀ (k n i : Nat), i < k → (b8 k n).getD i 0 = UInt8.ofNat (n / 256 ^ i)
  | 0, n, i, h => by omega
  | k + 1, n, 0, h => by simp [b8]
  | k + 1, n, i + 1, h => by
    simp only [b8, List.getD_cons_succ]
    rw [b8_getD k _ i (by omega), Nat.div_div_eq_div_mul, Nat.pow_succ, Nat.mul_comm 256]

theorem n8_set : ∀ (l : List UInt8) (j : Nat) (v : UInt8), j < l.length → n8 (l.set j v) + (l.getD j 0).toNat * 256 ^ j = n8 l + v.toNat * 256 ^ j
  | [], j, v, h => by simp at h
  | x :: r, 0, v, h => by simp [n8]; omega
  | x :: r, j + 1, v, h => by
    have ih := n8_set r j v (by simpa using h)
    simp only [List.set_cons_succ, n8, List.getD_cons_succ, Nat.pow_succ]
    generalize 256 ^ j = W at *
    have e1 : ∀ q : Nat, q * (W * 256) = 256 * (q * W) := fun q => by rw [← Nat.mul_assoc, Nat.mul_comm]
    rw [e1, e1]
    generalize (r.getD j 0).toNat * W = A at *
    generalize v.toNat * W = C at *
    omega

theorem top_split (l : List UInt8) (hl : l.length = 32) : n8 l = n8 (l.take 31) + 452312848583266388373324160190187140051835877600158453279131187530910662656 * (l.getD 31 0).toNat ∧ n8 (l.take 31) < 452312848583266388373324160190187140051835877600158453279131187530910662656 := by
  have h1 := n8_app (l.take 31) (l.drop 31)
  rw [List.take_append_drop] at h1
  have h2 : l.drop 31 = [l.getD 31 0] := by
    rw [List.drop_eq_getElem_cons (by omega)]
    have : l.drop 32 = [] := List.drop_of_length_le (by omega)
    rw [this]; simp [List.getD, List.getElem?_eq_getElem (show 31 < l.length by omega)]
  have h3 : (l.take 31).length = 31 := by simp [hl]
  have h4 := n8_lt (l.take 31)
  rw [h3] at h1 h4
  have e : (256 : Nat) ^ 31 = 452312848583266388373324160190187140051835877600158453279131187530910662656 := by decide
  rw [e] at h1 h4
  rw [h2] at h1
  simp only [n8, Nat.mul_zero, Nat.add_zero] at h1
  exact ⟨h1, h4⟩

abbrev H255 : Nat := 57896044618658097711785492504343953926634992332820282019728792003956564819968

/-- the bytes that a point packs as -/
def packB (p : Pt) : List UInt8 := b8 32 (p.y.val + 57896044618658097711785492504343953926634992332820282019728792003956564819968 * (p.x.val % 2))

theorem P_255 : P < 57896044618658097711785492504343953926634992332820282019728792003956564819968 := by rw [P_eq]; decide

theorem or_top (t e : Nat) (ht : t < 128) (he : e < 2) : t ||| (e * 128 % 256) = t + 128 * e := by
  have h1 : e * 128 % 256 = e * 2 ^ 7 := by omega
  rw [h1, Nat.or_comm]
  have := Nat.shiftLeft_add_eq_or_of_lt (a := e) (b := t) (i := 7) (by omega)
  rw [Nat.shiftLeft_eq] at this
  omega

theorem pack_set (p : Pt) : (bF p.y).set 31 ((bF p.y).getD 31 0 ||| (((bF p.x).getD 0 0 &&& 1) <<< UInt8.ofNat 7)) = packB p := by
  have hy := p.y.isLt
  have hP := P_255
  have hlen := bF_len p.y
  obtain ⟨h1, h2⟩ := top_split (bF p.y) hlen
  rw [n8_bF] at h1
  have hx0 : ((bF p.x).getD 0 0 &&& 1).toNat = p.x.val % 2 := by
    unfold bF
    rw [b8_getD 32 _ 0 (by decide), Nat.pow_zero, Nat.div_one, UInt8.toNat_and]
    have e3 : (1 : UInt8).toNat = 2 ^ 1 - 1 := rfl
    rw [e3, Nat.and_two_pow_sub_one_eq_mod]
    show p.x.val % 256 % 2 ^ 1 = _
    omega
  have hs := n8_set (bF p.y) 31 ((bF p.y).getD 31 0 ||| (((bF p.x).getD 0 0 &&& 1) <<< UInt8.ofNat 7)) (by omega)
  have hv : ((bF p.y).getD 31 0 ||| (((bF p.x).getD 0 0 &&& 1) <<< UInt8.ofNat 7)).toNat = ((bF p.y).getD 31 0).toNat + 128 * (p.x.val % 2) := by
    rw [UInt8.toNat_or, UInt8.toNat_shiftLeft, hx0]
    have e1 : (UInt8.ofNat 7).toNat % 8 = 7 := rfl
    rw [e1, Nat.shiftLeft_eq]
    exact or_top _ _ (by omega) (Nat.mod_lt _ (by decide))
  rw [hv, n8_bF] at hs
  have e : (256 : Nat) ^ 31 = 452312848583266388373324160190187140051835877600158453279131187530910662656 := by decide
  rw [e] at hs
  refine b8_of (by simp [hlen]) ?_
  generalize n8 ((bF p.y).set 31 ((bF p.y).getD 31 0 ||| (((bF p.x).getD 0 0 &&& 1) <<< UInt8.ofNat 7))) = N at *
  generalize ((bF p.y).getD 31 0).toNat = t at *
  generalize p.y.val = y at *
  generalize p.x.val % 2 = e at *
  omega

theorem packB_len (p : Pt) : (packB p).length = 32 := b8_len 32 _
theorem packB_n8 (p : Pt) : n8 (packB p) = p.y.val + 57896044618658097711785492504343953926634992332820282019728792003956564819968 * (p.x.val % 2) := by
  have hy := p.y.isLt
  have hP := P_255
  refine n8_b8 32 _ ?_
  have : p.x.val % 2 < 2 := Nat.mod_lt _ (by decide)
  have e : (256 : Nat) ^ 32 = 115792089237316195423570985008687907853269984665640564039457584007913129639936 := by decide
  omega

/-- without the highest bit -/
theorem low_bits (l : List UInt8) (hl : l.length = 32) : n8 (l.set 31 (l.getD 31 0 &&& 127)) = n8 l % 57896044618658097711785492504343953926634992332820282019728792003956564819968 := by
  obtain ⟨h1, h2⟩ := top_split l hl
  have hs := n8_set l 31 (l.getD 31 0 &&& 127) (by omega)
  have hv : (l.getD 31 0 &&& 127).toNat = (l.getD 31 0).toNat % 128 := by
    rw [UInt8.toNat_and]
    exact Nat.and_two_pow_sub_one_eq_mod _ 7
  have hb := (l.getD 31 0).toNat_lt
  rw [hv] at hs
  have e : (256 : Nat) ^ 31 = 452312848583266388373324160190187140051835877600158453279131187530910662656 := by decide
  rw [e] at hs
  generalize n8 (l.set 31 (l.getD 31 0 &&& 127)) = N at *
  generalize (l.getD 31 0).toNat = t at *
  omega

theorem top_bit (l : List UInt8) (hl : l.length = 32) : ((l.getD 31 0) >>> UInt8.ofNat 7).toNat = n8 l / 57896044618658097711785492504343953926634992332820282019728792003956564819968 := by
  obtain ⟨h1, h2⟩ := top_split l hl
  have hb := (l.getD 31 0).toNat_lt
  rw [UInt8.toNat_shiftRight]
  have e1 : (UInt8.ofNat 7).toNat % 8 = 7 := rfl
  rw [e1, Nat.shiftRight_eq_div_pow]
  generalize (l.getD 31 0).toNat = t at *
  omega

/-- what 32 bytes are told as -/
def toldB (l : List UInt8) : Option Pt :=
  if n8 l % 57896044618658097711785492504343953926634992332820282019728792003956564819968 < P then
    unpackS (mkF (n8 l % 57896044618658097711785492504343953926634992332820282019728792003956564819968)) (n8 l / 57896044618658097711785492504343953926634992332820282019728792003956564819968 == 1)
  else none

theorem toldB_some {l : List UInt8} (hl : l.length = 32) {p : Pt} (h : toldB l = some p) : p.on ∧ packB p = l := by
  unfold toldB at h
  split at h
  · rename_i hlt
    obtain ⟨h1, h2, h3⟩ := unpackS_some h
    refine ⟨h1, ?_⟩
    have hn := n8_lt l
    have e : (256 : Nat) ^ 32 = 115792089237316195423570985008687907853269984665640564039457584007913129639936 := by decide
    rw [hl, e] at hn
    have hq : n8 l / 57896044618658097711785492504343953926634992332820282019728792003956564819968 = 0 ∨ n8 l / 57896044618658097711785492504343953926634992332820282019728792003956564819968 = 1 := by omega
    have hodd : (n8 l / 57896044618658097711785492504343953926634992332820282019728792003956564819968 == 1).toNat = n8 l / 57896044618658097711785492504343953926634992332820282019728792003956564819968 := by
      rcases hq with h | h <;> rw [h] <;> rfl
    rw [hodd] at h3
    refine (b8_of hl ?_).symm
    rw [h2, mkF_lt hlt, h3]
    omega
  · cases h

theorem toldB_of {p : Pt} (hp : p.on) : toldB (packB p) = some p := by
  have hn := packB_n8 p
  have hy := p.y.isLt
  have hP := P_255
  have hm : p.x.val % 2 < 2 := Nat.mod_lt _ (by decide)
  have e1 : n8 (packB p) % 57896044618658097711785492504343953926634992332820282019728792003956564819968 = p.y.val := by omega
  have e2 : n8 (packB p) / 57896044618658097711785492504343953926634992332820282019728792003956564819968 = p.x.val % 2 := by omega
  unfold toldB
  rw [e1, e2, if_pos hy]
  have e3 : mkF p.y.val = p.y := F_ext (mkF_lt hy)
  rw [e3]
  refine unpackS_of hp ?_
  have : p.x.val % 2 = 0 ∨ p.x.val % 2 = 1 := by omega
  rcases this with h | h <;> rw [h] <;> rfl
end Go.Proofs.Ytffghaeaohabhaa.NT
