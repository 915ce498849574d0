import Derived.Test.YtffghaeaohabhaaB
import Derived.Lib.Mul64
namespace Go.Proofs.Ytffghaeaohabhaa.AW
open Go
set_option maxRecDepth 100000

/-! ### math/bits -/
def mulHi (x y : UInt64) : UInt64 :=
  let x0 := x &&& 4294967295
  let x1 := x >>> UInt64.ofNat 32
  let y0 := y &&& 4294967295
  let y1 := y >>> UInt64.ofNat 32
  let w0 := x0 * y0
  let t := x1 * y0 + w0 >>> UInt64.ofNat 32
  let w1 := t &&& 4294967295
  let w2 := t >>> UInt64.ofNat 32
  let w1 := w1 + x0 * y1
  x1 * y1 + w2 + w1 >>> UInt64.ofNat 32

theorem mulHi_nat (x y : UInt64) : (mulHi x y).toNat = x.toNat * y.toNat / 18446744073709551616 := by
  obtain ⟨h1, h2, h3, h4⟩ := Lib.mul64_hi x.toNat y.toNat x.toNat_lt y.toNat_lt
  have hand : ∀ z : UInt64, (z &&& 4294967295).toNat = z.toNat % 4294967296 := fun z => by
    rw [UInt64.toNat_and]; exact Nat.and_two_pow_sub_one_eq_mod z.toNat 32
  have hshr : ∀ z : UInt64, (z >>> UInt64.ofNat 32).toNat = z.toNat / 4294967296 := fun z => by
    rw [UInt64.toNat_shiftRight]
    show z.toNat >>> (32 % 64) = _
    rw [Nat.shiftRight_eq_div_pow]
  have hx := x.toNat_lt; have hy := y.toNat_lt
  unfold mulHi
  simp only [UInt64.toNat_add, UInt64.toNat_mul, hand, hshr]
  rw [← h4]
  have e1 := Nat.mod_eq_of_lt h1
  simp only [e1] at *
  have h5 : (x.toNat / 4294967296) * (y.toNat % 4294967296) < 18446744073709551616 := by omega
  have h6 : (x.toNat % 4294967296) * (y.toNat / 4294967296) < 18446744073709551616 := by omega
  have h7 : x.toNat * y.toNat / 18446744073709551616 < 18446744073709551616 := by
    rw [Nat.div_lt_iff_lt_mul (by decide)]
    exact Nat.mul_lt_mul'' hx hy
  have h8 : (x.toNat / 4294967296) * (y.toNat / 4294967296) < 18446744073709551616 := by omega
  generalize (x.toNat / 4294967296) * (y.toNat / 4294967296) = a at *
  generalize (x.toNat / 4294967296) * (y.toNat % 4294967296) = b at *
  generalize (x.toNat % 4294967296) * (y.toNat / 4294967296) = c at *
  generalize (x.toNat % 4294967296) * (y.toNat % 4294967296) = d at *
  omega

theorem f101_mul64 (x y : UInt64) : FnR Try.prog 101 [u64 x, u64 y] [] (.tuple #[u64 (mulHi x y), u64 (x * y)]) := by
  refine fnR_of 51 rfl Try.func101 rfl (by kernel_rfl) rfl (by simp) fun w => ?_
  refine Wp.seq ?_
  refine Wp.reg allGen ?_
  refine Tr.assign (v := u64 0) rfl rfl trivial rfl ?_
  refine Tr.assign (v := u64 0) rfl rfl trivial rfl ?_
  refine Tr.nil ?_ (fun _ => rfl) (List.Perm.refl _)
  refine Wp.seq ?_
  refine Wp.reg allGen ?_
  refine Tr.move rfl rfl trivial rfl ?_
  refine Tr.band (b := ((4294967295 : UInt64).toNat : Int)) rfl rfl (by first | exact u64_and _ _ | rfl) rfl trivial rfl ?_
  refine Tr.assign rfl rfl trivial rfl ?_
  refine Tr.nil ?_ (fun _ => rfl) (List.Perm.refl _)
  refine Wp.seq ?_
  refine Wp.reg allGen ?_
  refine Tr.move rfl rfl trivial rfl ?_
  refine Tr.shr rfl rfl (by omega) (by first | exact u64_shr _ 32 (by decide) | rfl) rfl trivial rfl ?_
  refine Tr.assign rfl rfl trivial rfl ?_
  refine Tr.nil ?_ (fun _ => rfl) (List.Perm.refl _)
  refine Wp.seq ?_
  refine Wp.reg allGen ?_
  refine Tr.move rfl rfl trivial rfl ?_
  refine Tr.band (b := ((4294967295 : UInt64).toNat : Int)) rfl rfl (by first | exact u64_and _ _ | rfl) rfl trivial rfl ?_
  refine Tr.assign rfl rfl trivial rfl ?_
  refine Tr.nil ?_ (fun _ => rfl) (List.Perm.refl _)
  refine Wp.seq ?_
  refine Wp.reg allGen ?_
  refine Tr.move rfl rfl trivial rfl ?_
  refine Tr.shr rfl rfl (by omega) (by first | exact u64_shr _ 32 (by decide) | rfl) rfl trivial rfl ?_
  refine Tr.assign rfl rfl trivial rfl ?_
  refine Tr.nil ?_ (fun _ => rfl) (List.Perm.refl _)
  refine Wp.seq ?_
  refine Wp.reg allGen ?_
  refine Tr.move rfl rfl trivial rfl ?_
  refine Tr.move rfl rfl trivial rfl ?_
  refine Tr.mul rfl rfl (by first | exact u64_mul _ _ | exact wrap_u64 (by omega) (by omega) | rfl) rfl trivial rfl ?_
  refine Tr.assign rfl rfl trivial rfl ?_
  refine Tr.nil ?_ (fun _ => rfl) (List.Perm.refl _)
  refine Wp.seq ?_
  refine Wp.reg allGen ?_
  refine Tr.move rfl rfl trivial rfl ?_
  refine Tr.move rfl rfl trivial rfl ?_
  refine Tr.mul rfl rfl (by first | exact u64_mul _ _ | exact wrap_u64 (by omega) (by omega) | rfl) rfl trivial rfl ?_
  refine Tr.move rfl rfl trivial rfl ?_
  refine Tr.shr rfl rfl (by omega) (by first | exact u64_shr _ 32 (by decide) | rfl) rfl trivial rfl ?_
  refine Tr.add rfl rfl (by first | exact u64_add _ _ | exact wrap_u64 (by omega) (by omega) | rfl) rfl trivial rfl ?_
  refine Tr.assign rfl rfl trivial rfl ?_
  refine Tr.nil ?_ (fun _ => rfl) (List.Perm.refl _)
  refine Wp.seq ?_
  refine Wp.reg allGen ?_
  refine Tr.move rfl rfl trivial rfl ?_
  refine Tr.band (b := ((4294967295 : UInt64).toNat : Int)) rfl rfl (by first | exact u64_and _ _ | rfl) rfl trivial rfl ?_
  refine Tr.assign rfl rfl trivial rfl ?_
  refine Tr.nil ?_ (fun _ => rfl) (List.Perm.refl _)
  refine Wp.seq ?_
  refine Wp.reg allGen ?_
  refine Tr.move rfl rfl trivial rfl ?_
  refine Tr.shr rfl rfl (by omega) (by first | exact u64_shr _ 32 (by decide) | rfl) rfl trivial rfl ?_
  refine Tr.assign rfl rfl trivial rfl ?_
  refine Tr.nil ?_ (fun _ => rfl) (List.Perm.refl _)
  refine Wp.seq ?_
  refine Wp.reg allGen ?_
  refine Tr.move rfl rfl trivial rfl ?_
  refine Tr.move rfl rfl trivial rfl ?_
  refine Tr.move rfl rfl trivial rfl ?_
  refine Tr.mul rfl rfl (by first | exact u64_mul _ _ | exact wrap_u64 (by omega) (by omega) | rfl) rfl trivial rfl ?_
  refine Tr.add rfl rfl (by first | exact u64_add _ _ | exact wrap_u64 (by omega) (by omega) | rfl) rfl trivial rfl ?_
  refine Tr.assign rfl rfl trivial rfl ?_
  refine Tr.nil ?_ (fun _ => rfl) (List.Perm.refl _)
  refine Wp.seq ?_
  refine Wp.reg allGen ?_
  refine Tr.move rfl rfl trivial rfl ?_
  refine Tr.move rfl rfl trivial rfl ?_
  refine Tr.mul rfl rfl (by first | exact u64_mul _ _ | exact wrap_u64 (by omega) (by omega) | rfl) rfl trivial rfl ?_
  refine Tr.move rfl rfl trivial rfl ?_
  refine Tr.add rfl rfl (by first | exact u64_add _ _ | exact wrap_u64 (by omega) (by omega) | rfl) rfl trivial rfl ?_
  refine Tr.move rfl rfl trivial rfl ?_
  refine Tr.shr rfl rfl (by omega) (by first | exact u64_shr _ 32 (by decide) | rfl) rfl trivial rfl ?_
  refine Tr.add rfl rfl (by first | exact u64_add _ _ | exact wrap_u64 (by omega) (by omega) | rfl) rfl trivial rfl ?_
  refine Tr.assign rfl rfl trivial rfl ?_
  refine Tr.nil ?_ (fun _ => rfl) (List.Perm.refl _)
  refine Wp.seq ?_
  refine Wp.reg allGen ?_
  refine Tr.move rfl rfl trivial rfl ?_
  refine Tr.move rfl rfl trivial rfl ?_
  refine Tr.mul rfl rfl (by first | exact u64_mul _ _ | exact wrap_u64 (by omega) (by omega) | rfl) rfl trivial rfl ?_
  refine Tr.assign rfl rfl trivial rfl ?_
  refine Tr.nil ?_ (fun _ => rfl) (List.Perm.refl _)
  refine Wp.ret ?_
  refine ⟨by first | exact .inl rfl | exact .inr rfl, ?_⟩
  exact .r2 rfl (RvIs.tmp rfl) (RvIs.tmp rfl)

def rotr (x : UInt32) (n : Nat) : UInt32 := (x <<< UInt32.ofNat (32 - n)) ||| (x >>> UInt32.ofNat n)

theorem rot_and : ∀ n : Nat, n < 32 → 0 < n → andv .u64 (18446744073709551616 - (n : Int)) ((31 : UInt64).toNat : Int) = ((32 - n : Nat) : Int) := by decide +kernel

theorem f150_rotl (x : UInt32) (n : Nat) (h0 : 0 < n) (h : n < 32) : FnR Try.prog 150 [u32 x, i64 (-(n : Int))] [] (u32 (rotr x n)) := by
  have hc : IntKind.u64.wrap (-(n : Int)) = 18446744073709551616 - (n : Int) := by rw [wrap_u64_mod]; omega
  have hs : IntKind.u64.wrap (32 - ((32 - n : Nat) : Int)) = (n : Int) := by rw [wrap_u64_mod]; omega
  refine fnR_of 17 rfl Try.func150 rfl (by kernel_rfl) rfl (by simp) fun w => ?_
  refine Wp.seq ?_
  refine Wp.reg allGen ?_
  refine Tr.assign (v := u32 0) rfl rfl trivial rfl ?_
  refine Tr.nil ?_ (fun _ => rfl) (List.Perm.refl _)
  refine Wp.seq ?_
  refine Wp.reg allGen ?_
  refine Tr.move rfl rfl trivial rfl ?_
  refine Tr.conv tab rfl rfl rfl rfl hc rfl trivial rfl ?_
  refine Tr.band (b := ((31 : UInt64).toNat : Int)) rfl rfl (rot_and n h h0) rfl trivial rfl ?_
  refine Tr.assign rfl rfl trivial rfl ?_
  refine Tr.nil ?_ (fun _ => rfl) (List.Perm.refl _)
  refine Wp.seq ?_
  refine Wp.reg allGen ?_
  refine Tr.move rfl rfl trivial rfl ?_
  refine Tr.move rfl rfl trivial rfl ?_
  refine Tr.shl rfl rfl (by omega) (u32_shl _ _ (by omega)) rfl trivial rfl ?_
  refine Tr.move rfl rfl trivial rfl ?_
  refine Tr.move rfl rfl trivial rfl ?_
  refine Tr.sub rfl rfl hs rfl trivial rfl ?_
  refine Tr.shr rfl rfl (by omega) (u32_shr _ _ (by omega)) rfl trivial rfl ?_
  refine Tr.bor rfl rfl (by first | exact u32_or _ _ | rfl) rfl trivial rfl ?_
  refine Tr.assign rfl rfl trivial rfl ?_
  refine Tr.nil ?_ (fun _ => rfl) (List.Perm.refl _)
  refine Wp.ret ?_
  refine ⟨by first | exact .inl rfl | exact .inr rfl, ?_⟩
  exact .r1 rfl (RvIs.tmp rfl)

theorem f116_rotr (x : UInt32) (n : Nat) (h0 : 0 < n) (h : n < 32) : FnR Try.prog 116 [u32 x, i64 (n : Int)] [] (u32 (rotr x n)) := by
  refine fnR_of 9 rfl Try.func116 rfl (by kernel_rfl) rfl (by simp) fun w => ?_
  refine Wp.seq ?_
  refine Wp.reg allGen ?_
  refine Tr.assign (v := u32 0) rfl rfl trivial rfl ?_
  refine Tr.nil ?_ (fun _ => rfl) (List.Perm.refl _)
  refine Wp.seq ?_
  refine Wp.reg allGen ?_
  refine Tr.move rfl rfl trivial rfl ?_
  refine Tr.move rfl rfl trivial rfl ?_
  refine Tr.neg (r := -(n : Int)) rfl (by rw [Int.zero_sub]; exact wrap_i64 (by omega) (by omega)) rfl trivial rfl ?_
  refine Tr.call rfl (f150_rotl x n h0 h) (by repeat (first | exact Has.nil | refine Has.cons (by first | exact (.head _) | exact (.tail _ (.head _)) | exact (.tail _ (.tail _ (.head _))) | exact (.tail _ (.tail _ (.tail _ (.head _)))) | exact (.tail _ (.tail _ (.tail _ (.tail _ (.head _))))) | exact (.tail _ (.tail _ (.tail _ (.tail _ (.tail _ (.head _)))))) | exact (.tail _ (.tail _ (.tail _ (.tail _ (.tail _ (.tail _ (.head _))))))) | exact (.tail _ (.tail _ (.tail _ (.tail _ (.tail _ (.tail _ (.tail _ (.head _)))))))) | exact (.tail _ (.tail _ (.tail _ (.tail _ (.tail _ (.tail _ (.tail _ (.tail _ (.head _))))))))) | exact (.tail _ (.tail _ (.tail _ (.tail _ (.tail _ (.tail _ (.tail _ (.tail _ (.tail _ (.head _))))))))))) ?_)) rfl trivial rfl ?_
  refine Tr.assign rfl rfl trivial rfl ?_
  refine Tr.nil ?_ (fun _ => rfl) (List.Perm.refl _)
  refine Wp.ret ?_
  refine ⟨by first | exact .inl rfl | exact .inr rfl, ?_⟩
  exact .r1 rfl (RvIs.tmp rfl)
attribute [irreducible] rotr mulHi
end Go.Proofs.Ytffghaeaohabhaa.AW
