/-
  Words and bytes as Lean's own fixed-width numbers, in the walk's spelling.
-/
import Derived.Test.YtffghaeaohabhaaOp
namespace Go.Proofs.Ytffghaeaohabhaa.AW
open Go

abbrev u8 (x : UInt8) : Value := .int .u8 (x.toNat : Int)
abbrev u32 (x : UInt32) : Value := .int .u32 (x.toNat : Int)
abbrev u64 (x : UInt64) : Value := .int .u64 (x.toNat : Int)
abbrev i64 (x : Int) : Value := .int .i64 x
abbrev u8s (l : List UInt8) : List Value := l.map u8
abbrev u32s (l : List UInt32) : List Value := l.map u32
abbrev u64s (l : List UInt64) : List Value := l.map u64

theorem u64_lt (x : UInt64) : (x.toNat : Int) < 18446744073709551616 := by have := x.toNat_lt; omega
theorem u32_lt (x : UInt32) : (x.toNat : Int) < 4294967296 := by have := x.toNat_lt; omega
theorem u8_lt (x : UInt8) : (x.toNat : Int) < 256 := by have := x.toNat_lt; omega

theorem wrap_uns {k : IntKind} (h : k.signed = false) (n : Int) : k.wrap n = n % (2 ^ k.bits : Int) := by
  unfold IntKind.wrap
  simp only [h, Bool.false_and]
  rfl
theorem wrap_u64_mod (n : Int) : IntKind.u64.wrap n = n % 18446744073709551616 := wrap_uns rfl n
theorem wrap_u32_mod (n : Int) : IntKind.u32.wrap n = n % 4294967296 := wrap_uns rfl n
theorem wrap_u8_mod (n : Int) : IntKind.u8.wrap n = n % 256 := wrap_uns rfl n

theorem cast_mul_mod (a b m : Nat) : ((a : Int) * (b : Int)) % (m : Int) = ((a * b % m : Nat) : Int) := by
  rw [← Int.natCast_mul, Int.natCast_emod]
theorem cast_mul_pow_mod (a n m : Nat) : ((a : Int) * 2 ^ n) % (m : Int) = ((a * 2 ^ n % m : Nat) : Int) := by
  have : (2 : Int) ^ n = ((2 ^ n : Nat) : Int) := by rw [Int.natCast_pow]; rfl
  rw [this, cast_mul_mod]
theorem cast_div_pow (a n : Nat) : (a : Int) / 2 ^ n = ((a / 2 ^ n : Nat) : Int) := by
  have : (2 : Int) ^ n = ((2 ^ n : Nat) : Int) := by rw [Int.natCast_pow]; rfl
  rw [this, Int.natCast_ediv]

/-! ### 64 bits -/
theorem u64_add (x y : UInt64) : IntKind.u64.wrap ((x.toNat : Int) + (y.toNat : Int)) = ((x + y).toNat : Int) := by
  rw [wrap_u64_mod, UInt64.toNat_add]; omega
theorem u64_sub (x y : UInt64) : IntKind.u64.wrap ((x.toNat : Int) - (y.toNat : Int)) = ((x - y).toNat : Int) := by
  rw [wrap_u64_mod, UInt64.toNat_sub]; have := u64_lt x; have := u64_lt y; omega
theorem u64_mul (x y : UInt64) : IntKind.u64.wrap ((x.toNat : Int) * (y.toNat : Int)) = ((x * y).toNat : Int) := by
  rw [wrap_u64_mod, UInt64.toNat_mul]; exact cast_mul_mod x.toNat y.toNat 18446744073709551616
theorem u64_wrap (x : UInt64) : IntKind.u64.wrap (x.toNat : Int) = (x.toNat : Int) := by
  rw [wrap_u64_mod]; have := u64_lt x; omega
theorem u64_bv (x : UInt64) : BitVec.ofInt IntKind.u64.bits (x.toNat : Int) = x.toBitVec := by
  show BitVec.ofInt 64 ((x.toBitVec.toNat : Nat) : Int) = x.toBitVec
  simp
theorem u64_and (x y : UInt64) : andv .u64 (x.toNat : Int) (y.toNat : Int) = ((x &&& y).toNat : Int) := by
  unfold andv; rw [u64_bv, u64_bv]; exact u64_wrap (x &&& y)
theorem u64_or (x y : UInt64) : orv .u64 (x.toNat : Int) (y.toNat : Int) = ((x ||| y).toNat : Int) := by
  unfold orv; rw [u64_bv, u64_bv]; exact u64_wrap (x ||| y)
theorem u64_xor (x y : UInt64) : xorv .u64 (x.toNat : Int) (y.toNat : Int) = ((x ^^^ y).toNat : Int) := by
  unfold xorv; rw [u64_bv, u64_bv]; exact u64_wrap (x ^^^ y)
theorem u64_compl (x : UInt64) : xorv .u64 (if IntKind.u64.signed then -1 else IntKind.u64.max) (x.toNat : Int) = ((~~~ x).toNat : Int) := by
  have h : xorv .u64 (if IntKind.u64.signed then -1 else IntKind.u64.max) (x.toNat : Int) = xorv .u64 (((-1 : UInt64).toNat : Nat) : Int) (x.toNat : Int) := rfl
  rw [h, u64_xor]
  have e : (-1 : UInt64) ^^^ x = ~~~ x := by
    apply UInt64.toBitVec_inj.1
    simp [UInt64.toBitVec_not]
  rw [e]
theorem u64_shl (x : UInt64) (n : Nat) (h : n < 64) : shlv .u64 (x.toNat : Int) (n : Int) = ((x <<< UInt64.ofNat n).toNat : Int) := by
  unfold shlv
  rw [wrap_u64_mod, UInt64.toNat_shiftLeft]
  have hm : min (n : Int).toNat IntKind.u64.bits = n := by show min (n : Int).toNat 64 = n; simp; omega
  rw [hm]
  have hn : (UInt64.ofNat n).toNat % 64 = n := by rw [UInt64.toNat_ofNat_of_lt' (by show n < 18446744073709551616; omega)]; omega
  rw [hn, Nat.shiftLeft_eq]
  exact cast_mul_pow_mod x.toNat n _
theorem u64_shr (x : UInt64) (n : Nat) (h : n < 64) : shrv .u64 (x.toNat : Int) (n : Int) = ((x >>> UInt64.ofNat n).toNat : Int) := by
  unfold shrv
  rw [UInt64.toNat_shiftRight]
  have hm : min (n : Int).toNat IntKind.u64.bits = n := by show min (n : Int).toNat 64 = n; simp; omega
  rw [hm]
  have hn : (UInt64.ofNat n).toNat % 64 = n := by rw [UInt64.toNat_ofNat_of_lt' (by show n < 18446744073709551616; omega)]; omega
  rw [hn, Nat.shiftRight_eq_div_pow]
  rw [Int.fdiv_eq_ediv_of_nonneg _ (by exact Int.le_of_lt (Int.pow_pos (by decide)))]
  exact cast_div_pow x.toNat n

/-! ### 32 bits -/
theorem u32_add (x y : UInt32) : IntKind.u32.wrap ((x.toNat : Int) + (y.toNat : Int)) = ((x + y).toNat : Int) := by
  rw [wrap_u32_mod, UInt32.toNat_add]; omega
theorem u32_sub (x y : UInt32) : IntKind.u32.wrap ((x.toNat : Int) - (y.toNat : Int)) = ((x - y).toNat : Int) := by
  rw [wrap_u32_mod, UInt32.toNat_sub]; have := u32_lt x; have := u32_lt y; omega
theorem u32_mul (x y : UInt32) : IntKind.u32.wrap ((x.toNat : Int) * (y.toNat : Int)) = ((x * y).toNat : Int) := by
  rw [wrap_u32_mod, UInt32.toNat_mul]; exact cast_mul_mod x.toNat y.toNat 4294967296
theorem u32_wrap (x : UInt32) : IntKind.u32.wrap (x.toNat : Int) = (x.toNat : Int) := by
  rw [wrap_u32_mod]; have := u32_lt x; omega
theorem u32_bv (x : UInt32) : BitVec.ofInt IntKind.u32.bits (x.toNat : Int) = x.toBitVec := by
  show BitVec.ofInt 32 ((x.toBitVec.toNat : Nat) : Int) = x.toBitVec
  simp
theorem u32_and (x y : UInt32) : andv .u32 (x.toNat : Int) (y.toNat : Int) = ((x &&& y).toNat : Int) := by
  unfold andv; rw [u32_bv, u32_bv]; exact u32_wrap (x &&& y)
theorem u32_or (x y : UInt32) : orv .u32 (x.toNat : Int) (y.toNat : Int) = ((x ||| y).toNat : Int) := by
  unfold orv; rw [u32_bv, u32_bv]; exact u32_wrap (x ||| y)
theorem u32_xor (x y : UInt32) : xorv .u32 (x.toNat : Int) (y.toNat : Int) = ((x ^^^ y).toNat : Int) := by
  unfold xorv; rw [u32_bv, u32_bv]; exact u32_wrap (x ^^^ y)
theorem u32_compl (x : UInt32) : xorv .u32 (if IntKind.u32.signed then -1 else IntKind.u32.max) (x.toNat : Int) = ((~~~ x).toNat : Int) := by
  have h : xorv .u32 (if IntKind.u32.signed then -1 else IntKind.u32.max) (x.toNat : Int) = xorv .u32 (((-1 : UInt32).toNat : Nat) : Int) (x.toNat : Int) := rfl
  rw [h, u32_xor]
  have e : (-1 : UInt32) ^^^ x = ~~~ x := by
    apply UInt32.toBitVec_inj.1
    simp [UInt32.toBitVec_not]
  rw [e]
theorem u32_shl (x : UInt32) (n : Nat) (h : n < 32) : shlv .u32 (x.toNat : Int) (n : Int) = ((x <<< UInt32.ofNat n).toNat : Int) := by
  unfold shlv
  rw [wrap_u32_mod, UInt32.toNat_shiftLeft]
  have hm : min (n : Int).toNat IntKind.u32.bits = n := by show min (n : Int).toNat 32 = n; simp; omega
  rw [hm]
  have hn : (UInt32.ofNat n).toNat % 32 = n := by rw [UInt32.toNat_ofNat_of_lt' (by show n < 4294967296; omega)]; omega
  rw [hn, Nat.shiftLeft_eq]
  exact cast_mul_pow_mod x.toNat n _
theorem u32_shr (x : UInt32) (n : Nat) (h : n < 32) : shrv .u32 (x.toNat : Int) (n : Int) = ((x >>> UInt32.ofNat n).toNat : Int) := by
  unfold shrv
  rw [UInt32.toNat_shiftRight]
  have hm : min (n : Int).toNat IntKind.u32.bits = n := by show min (n : Int).toNat 32 = n; simp; omega
  rw [hm]
  have hn : (UInt32.ofNat n).toNat % 32 = n := by rw [UInt32.toNat_ofNat_of_lt' (by show n < 4294967296; omega)]; omega
  rw [hn, Nat.shiftRight_eq_div_pow]
  rw [Int.fdiv_eq_ediv_of_nonneg _ (by exact Int.le_of_lt (Int.pow_pos (by decide)))]
  exact cast_div_pow x.toNat n

/-! ### 8 bits -/
theorem u8_add (x y : UInt8) : IntKind.u8.wrap ((x.toNat : Int) + (y.toNat : Int)) = ((x + y).toNat : Int) := by
  rw [wrap_u8_mod, UInt8.toNat_add]; omega
theorem u8_sub (x y : UInt8) : IntKind.u8.wrap ((x.toNat : Int) - (y.toNat : Int)) = ((x - y).toNat : Int) := by
  rw [wrap_u8_mod, UInt8.toNat_sub]; have := u8_lt x; have := u8_lt y; omega
theorem u8_mul (x y : UInt8) : IntKind.u8.wrap ((x.toNat : Int) * (y.toNat : Int)) = ((x * y).toNat : Int) := by
  rw [wrap_u8_mod, UInt8.toNat_mul]; exact cast_mul_mod x.toNat y.toNat 256
theorem u8_wrap (x : UInt8) : IntKind.u8.wrap (x.toNat : Int) = (x.toNat : Int) := by
  rw [wrap_u8_mod]; have := u8_lt x; omega
theorem u8_bv (x : UInt8) : BitVec.ofInt IntKind.u8.bits (x.toNat : Int) = x.toBitVec := by
  show BitVec.ofInt 8 ((x.toBitVec.toNat : Nat) : Int) = x.toBitVec
  simp
theorem u8_and (x y : UInt8) : andv .u8 (x.toNat : Int) (y.toNat : Int) = ((x &&& y).toNat : Int) := by
  unfold andv; rw [u8_bv, u8_bv]; exact u8_wrap (x &&& y)
theorem u8_or (x y : UInt8) : orv .u8 (x.toNat : Int) (y.toNat : Int) = ((x ||| y).toNat : Int) := by
  unfold orv; rw [u8_bv, u8_bv]; exact u8_wrap (x ||| y)
theorem u8_xor (x y : UInt8) : xorv .u8 (x.toNat : Int) (y.toNat : Int) = ((x ^^^ y).toNat : Int) := by
  unfold xorv; rw [u8_bv, u8_bv]; exact u8_wrap (x ^^^ y)
theorem u8_compl (x : UInt8) : xorv .u8 (if IntKind.u8.signed then -1 else IntKind.u8.max) (x.toNat : Int) = ((~~~ x).toNat : Int) := by
  have h : xorv .u8 (if IntKind.u8.signed then -1 else IntKind.u8.max) (x.toNat : Int) = xorv .u8 (((-1 : UInt8).toNat : Nat) : Int) (x.toNat : Int) := rfl
  rw [h, u8_xor]
  have e : (-1 : UInt8) ^^^ x = ~~~ x := by
    apply UInt8.toBitVec_inj.1
    simp [UInt8.toBitVec_not]
  rw [e]
theorem u8_shl (x : UInt8) (n : Nat) (h : n < 8) : shlv .u8 (x.toNat : Int) (n : Int) = ((x <<< UInt8.ofNat n).toNat : Int) := by
  unfold shlv
  rw [wrap_u8_mod, UInt8.toNat_shiftLeft]
  have hm : min (n : Int).toNat IntKind.u8.bits = n := by show min (n : Int).toNat 8 = n; simp; omega
  rw [hm]
  have hn : (UInt8.ofNat n).toNat % 8 = n := by rw [UInt8.toNat_ofNat_of_lt' (by show n < 256; omega)]; omega
  rw [hn, Nat.shiftLeft_eq]
  exact cast_mul_pow_mod x.toNat n _
theorem u8_shr (x : UInt8) (n : Nat) (h : n < 8) : shrv .u8 (x.toNat : Int) (n : Int) = ((x >>> UInt8.ofNat n).toNat : Int) := by
  unfold shrv
  rw [UInt8.toNat_shiftRight]
  have hm : min (n : Int).toNat IntKind.u8.bits = n := by show min (n : Int).toNat 8 = n; simp; omega
  rw [hm]
  have hn : (UInt8.ofNat n).toNat % 8 = n := by rw [UInt8.toNat_ofNat_of_lt' (by show n < 256; omega)]; omega
  rw [hn, Nat.shiftRight_eq_div_pow]
  rw [Int.fdiv_eq_ediv_of_nonneg _ (by exact Int.le_of_lt (Int.pow_pos (by decide)))]
  exact cast_div_pow x.toNat n

/-! ### conversions -/
theorem conv_u8_u32 (x : UInt8) : IntKind.u32.wrap (x.toNat : Int) = ((x.toUInt32).toNat : Int) := by
  rw [wrap_u32_mod]; have := u8_lt x
  have e : (x.toUInt32).toNat = x.toNat % 4294967296 := by have h : (x.toUInt32).toNat = x.toNat := rfl; omega
  rw [e]; omega
theorem conv_u8_u64 (x : UInt8) : IntKind.u64.wrap (x.toNat : Int) = ((x.toUInt64).toNat : Int) := by
  rw [wrap_u64_mod]; have := u8_lt x
  have e : (x.toUInt64).toNat = x.toNat % 18446744073709551616 := by have h : (x.toUInt64).toNat = x.toNat := rfl; omega
  rw [e]; omega
theorem conv_u32_u8 (x : UInt32) : IntKind.u8.wrap (x.toNat : Int) = ((x.toUInt8).toNat : Int) := by
  rw [wrap_u8_mod]; have := u32_lt x
  have e : (x.toUInt8).toNat = x.toNat % 256 := by rfl
  rw [e]; omega
theorem conv_u32_u64 (x : UInt32) : IntKind.u64.wrap (x.toNat : Int) = ((x.toUInt64).toNat : Int) := by
  rw [wrap_u64_mod]; have := u32_lt x
  have e : (x.toUInt64).toNat = x.toNat % 18446744073709551616 := by have h : (x.toUInt64).toNat = x.toNat := rfl; omega
  rw [e]; omega
theorem conv_u64_u8 (x : UInt64) : IntKind.u8.wrap (x.toNat : Int) = ((x.toUInt8).toNat : Int) := by
  rw [wrap_u8_mod]; have := u64_lt x
  have e : (x.toUInt8).toNat = x.toNat % 256 := by rfl
  rw [e]; omega
theorem conv_u64_u32 (x : UInt64) : IntKind.u32.wrap (x.toNat : Int) = ((x.toUInt32).toNat : Int) := by
  rw [wrap_u32_mod]; have := u64_lt x
  have e : (x.toUInt32).toNat = x.toNat % 4294967296 := by rfl
  rw [e]; omega
theorem conv_u8_u8 (x : UInt8) : IntKind.u8.wrap (x.toNat : Int) = (x.toNat : Int) := u8_wrap x
theorem conv_u8_i64 (x : UInt8) : IntKind.i64.wrap (x.toNat : Int) = (x.toNat : Int) := by have := u8_lt x; exact wrap_i64 (by omega) (by omega)
theorem conv_u32_u32 (x : UInt32) : IntKind.u32.wrap (x.toNat : Int) = (x.toNat : Int) := u32_wrap x
theorem conv_u32_i64 (x : UInt32) : IntKind.i64.wrap (x.toNat : Int) = (x.toNat : Int) := by have := u32_lt x; exact wrap_i64 (by omega) (by omega)
theorem conv_u64_u64 (x : UInt64) : IntKind.u64.wrap (x.toNat : Int) = (x.toNat : Int) := u64_wrap x
theorem conv_i64_i64 {n : Int} (h : -9223372036854775808 ≤ n) (h' : n ≤ 9223372036854775807) : IntKind.i64.wrap n = n := wrap_i64 h h'
end Go.Proofs.Ytffghaeaohabhaa.AW
