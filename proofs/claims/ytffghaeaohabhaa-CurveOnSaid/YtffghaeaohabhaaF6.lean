import Derived.Test.YtffghaeaohabhaaF5
namespace Go.Proofs.Ytffghaeaohabhaa.AW
open Go NT
set_option maxRecDepth 100000

theorem word_bit (X i : Nat) (hi : i < 256) : ((((w64 4 X).getD (i / 64) 0) >>> UInt64.ofNat (i % 64)) &&& 1).toNat = X / 2 ^ i % 2 := by
  rw [w64_getD 4 X (i / 64) (by omega), UInt64.toNat_and, UInt64.toNat_shiftRight]
  have e1 : (UInt64.ofNat (i % 64)).toNat % 64 = i % 64 := by
    rw [UInt64.toNat_ofNat_of_lt' (by show i % 64 < 18446744073709551616; omega)]; omega
  have e2 : (UInt64.ofNat (X / 18446744073709551616 ^ (i / 64))).toNat = X / 18446744073709551616 ^ (i / 64) % 2 ^ 64 := rfl
  have e3 : (1 : UInt64).toNat = 2 ^ 1 - 1 := rfl
  rw [e1, e2, e3, Nat.and_two_pow_sub_one_eq_mod, Nat.shiftRight_eq_div_pow]
  have e4 : X / 2 ^ i = X / 18446744073709551616 ^ (i / 64) / 2 ^ (i % 64) := by
    rw [Nat.div_div_eq_div_mul]
    congr 1
    rw [show (18446744073709551616 : Nat) = 2 ^ 64 from rfl, ← Nat.pow_mul, ← Nat.pow_add]
    congr 1; omega
  rw [e4]
  generalize X / 18446744073709551616 ^ (i / 64) = Y
  have hr : i % 64 < 64 := Nat.mod_lt _ (by decide)
  generalize i % 64 = r at *
  have hd : Y % 2 ^ 64 / 2 ^ r = Y / 2 ^ r % 2 ^ (64 - r) := by
    have := Nat.mod_mul_right_div_self Y (2 ^ r) (2 ^ (64 - r))
    rw [← Nat.pow_add, show r + (64 - r) = 64 by omega] at this
    exact this
  rw [hd, Nat.pow_one, show 64 - r = (63 - r) + 1 by omega]
  exact Nat.mod_mod_of_dvd _ (by rw [Nat.pow_succ]; exact Nat.dvd_mul_left _ _)

theorem f157_bit (X i : Nat) (hi : i < 256) : FnR Try.prog 157 [el X, i64 (i : Int)] [] (.bool (X / 2 ^ i % 2 == 1)) := by
  have hb := word_bit X i hi
  have hq : IntKind.i64.wrap ((i : Int).tdiv 64) = ((i / 64 : Nat) : Int) := by
    rw [Int.tdiv_eq_ediv_of_nonneg (by omega)]; exact (wrap_i64 (by omega) (by omega)).trans (by omega)
  have hr : (i : Int).tmod 64 = ((i % 64 : Nat) : Int) := by rw [Int.tmod_eq_emod_of_nonneg (by omega)]; omega
  have gx := at_get u64 (At.all (u64s (w64 4 X))) 0 (j := i / 64) (by rw [w64_len]; omega) (k := ((i / 64 : Nat) : Int)) rfl
  rw [Nat.zero_add] at gx
  generalize (w64 4 X).getD (i / 64) 0 = wd at *
  have hsh : shrv .u64 (wd.toNat : Int) ((i % 64 : Nat) : Int) = ((wd >>> UInt64.ofNat (i % 64)).toNat : Int) := u64_shr _ _ (by omega)
  generalize wd >>> UInt64.ofNat (i % 64) = s at *
  have he : (((s &&& 1).toNat : Int) == 1) = (X / 2 ^ i % 2 == 1) := by
    rw [hb]
    have : X / 2 ^ i % 2 < 2 := Nat.mod_lt _ (by decide)
    generalize X / 2 ^ i % 2 = q at *
    have : q = 0 ∨ q = 1 := by omega
    rcases this with rfl | rfl <;> rfl
  rw [← he]
  refine fnR_of 14 rfl Try.func157 rfl (by kernel_rfl) rfl (by simp) fun w => ?_
  refine Wp.seq ?_
  refine Wp.reg allGen ?_
  refine Tr.boxA rfl rfl trivial rfl (fun B2 _ => ?_)
  refine Tr.assign rfl rfl trivial rfl ?_
  refine Tr.nil ?_ (fun _ => rfl) (List.Perm.refl _)
  refine Wp.seq ?_
  refine Wp.reg allGen ?_
  refine Tr.move rfl rfl trivial rfl ?_
  refine Tr.quo rfl rfl (by omega) hq rfl trivial rfl ?_
  first | refine Tr.indexAddr01 tab rfl rfl rfl rfl rfl (by omega) (by omega) rfl trivial rfl ?_ | refine Tr.indexAddr1 tab rfl rfl rfl rfl rfl (by omega) (by omega) rfl trivial rfl ?_
  refine Tr.loadS tab rfl rfl rfl (by repeat (first | exact .head _ | refine .tail _ ?_ | refine List.mem_append_right _ ?_)) gx rfl trivial rfl ?_
  refine Tr.move rfl rfl trivial rfl ?_
  refine Tr.rem rfl rfl (by omega) hr rfl trivial rfl ?_
  refine Tr.shr rfl rfl (by omega) hsh rfl trivial rfl ?_
  refine Tr.band (b := ((1 : UInt64).toNat : Int)) rfl rfl (u64_and s 1) rfl trivial rfl ?_
  refine Tr.eql rfl rfl rfl rfl trivial rfl ?_
  refine Tr.assign rfl rfl trivial rfl ?_
  refine Tr.nil ?_ (fun _ => rfl) (List.Perm.refl _)
  refine Wp.ret ?_
  refine ⟨by first | exact .inl rfl | exact .inr rfl, ?_⟩
  exact .r1 rfl (RvIs.tmp rfl)

theorem f135_bit (i : Nat) : FnR Try.prog 135 [i64 (i : Int)] [] (.bool (decide (0 < i))) := by
  have he : decide ((0 : Int) < (i : Int)) = decide (0 < i) := by
    by_cases h : 0 < i
    · rw [decide_eq_true h, decide_eq_true (by omega)]
    · rw [decide_eq_false h, decide_eq_false (by omega)]
  refine fnR_of 5 rfl Try.func135 rfl (by kernel_rfl) rfl (by simp) fun w => ?_
  refine Wp.seq ?_
  refine Wp.reg allGen ?_
  refine Tr.assign rfl rfl trivial rfl ?_
  refine Tr.nil ?_ (fun _ => rfl) (List.Perm.refl _)
  refine Wp.seq ?_
  refine Wp.reg allGen ?_
  refine Tr.move rfl rfl trivial rfl ?_
  refine Tr.gtr rfl rfl he rfl trivial rfl ?_
  refine Tr.assign rfl rfl trivial rfl ?_
  refine Tr.nil ?_ (fun _ => rfl) (List.Perm.refl _)
  refine Wp.ret ?_
  refine ⟨by first | exact .inl rfl | exact .inr rfl, ?_⟩
  exact .r1 rfl (RvIs.tmp rfl)
theorem f137_bit (i : Nat) : FnR Try.prog 137 [i64 (i : Int)] [] (.bool (i != 2)) := by
  have he : ((i : Int) != 2) = (i != 2) := by
    by_cases h : i = 2
    · subst h; rfl
    · rw [bne_iff_ne.2 h, bne_iff_ne.2 (by omega)]
  refine fnR_of 5 rfl Try.func137 rfl (by kernel_rfl) rfl (by simp) fun w => ?_
  refine Wp.seq ?_
  refine Wp.reg allGen ?_
  refine Tr.assign rfl rfl trivial rfl ?_
  refine Tr.nil ?_ (fun _ => rfl) (List.Perm.refl _)
  refine Wp.seq ?_
  refine Wp.reg allGen ?_
  refine Tr.move rfl rfl trivial rfl ?_
  refine Tr.neq rfl rfl he rfl trivial rfl ?_
  refine Tr.assign rfl rfl trivial rfl ?_
  refine Tr.nil ?_ (fun _ => rfl) (List.Perm.refl _)
  refine Wp.ret ?_
  refine ⟨by first | exact .inl rfl | exact .inr rfl, ?_⟩
  exact .r1 rfl (RvIs.tmp rfl)

theorem zero8 : u8s (List.replicate 32 (0 : UInt8)) = List.replicate 32 (Value.int .u8 0) := by simp
theorem bF_zero : bF 0 = List.replicate 32 0 := by unfold bF; rw [zero_val]; rfl
theorem finv_zero : finv 0 = 0 := by unfold finv; exact fpow_zero (by rw [P_eq]; decide)

theorem exp_inv : expL (fun j => (P - 2) / 2 ^ j % 2 == 1) 255 0 = P - 2 := by
  rw [expL_bits, Nat.mod_eq_of_lt (by rw [P_eq]; decide)]
theorem exp_root : expL (fun i => decide (0 < i)) 252 0 = (P + 3) / 8 := by rw [P_eq]; decide +kernel
theorem exp_im : expL (fun i => i != 2) 253 0 = (P - 1) / 4 := by rw [P_eq]; decide +kernel

theorem two_words : [u64 2, u64 0, u64 0, u64 0] = u64s (w64 4 (2 : F).val) := by
  have : (2 : F).val = 2 := mkF_lt (n := 2) (by have := P_big; omega)
  rw [this]; rfl

theorem less_two (p : Nat) (h : p < 115792089237316195423570985008687907853269984665640564039457584007913129639936) (h2 : 2 ≤ p) : (p + 115792089237316195423570985008687907853269984665640564039457584007913129639936 - 2) % 115792089237316195423570985008687907853269984665640564039457584007913129639936 = p - 2 := by omega

theorem f133_inv (a : F) : FnR Try.prog 133 [bv a] [] (.tuple #[bv (finv a), i64 (if a = 0 then 20 else 0)]) := by
  have h0 : bF a = List.replicate 32 0 ↔ a = 0 := ⟨fun h => bF_inj (h.trans bF_zero.symm), fun h => by rw [h, bF_zero]⟩
  by_cases ha : a = 0
  · rw [if_pos ha]
    subst ha
    rw [finv_zero]
    show FnR _ _ _ _ (.tuple #[.agg (u8s (bF 0)).toArray, _])
    rw [bF_zero]
    have h92 := f92_el 0
    have hb : bv 0 = .agg (u8s (List.replicate 32 0)).toArray := by show Value.agg (u8s (bF 0)).toArray = _; rw [bF_zero]
    rw [hb] at h92 ⊢
    refine fnR_of 28 rfl Try.func133 rfl (by kernel_rfl) rfl (by simp) fun w => ?_
    refine Wp.seq ?_
    refine Wp.reg allGen ?_
    refine Tr.boxA rfl rfl trivial rfl (fun B1 _ => ?_)
    refine Tr.alloc tab rfl rfl trivial rfl (fun B2 _ => ?_)
    refine Tr.assign rfl rfl trivial rfl ?_
    refine Tr.nil ?_ (fun _ => rfl) (List.Perm.refl _)
    refine Wp.seq ?_
    refine Wp.block ?_
    refine Wp.seq ?_
    refine Wp.reg allGen ?_
    refine Tr.loadA tab rfl rfl rfl (by repeat (first | exact .head _ | refine .tail _ ?_ | refine List.mem_append_right _ ?_)) (At.all _) rfl rfl trivial rfl ?_
    refine Tr.call rfl h92 (by repeat (first | exact Has.nil | refine Has.cons (by repeat (first | exact .head _ | refine .tail _ ?_ | refine List.mem_append_right _ ?_)) ?_)) rfl trivial rfl ?_
    refine Tr.not rfl rfl rfl trivial rfl ?_
    refine Tr.assign rfl rfl trivial rfl ?_
    refine Tr.nil ?_ (fun _ => rfl) (List.Perm.refl _)
    refine Wp.condF rfl ?_
    refine Wp.seq ?_
    refine Wp.reg allGen ?_
    refine Tr.loadA tab rfl rfl rfl (by repeat (first | exact .head _ | refine .tail _ ?_ | refine List.mem_append_right _ ?_)) (At.all _) rfl rfl trivial rfl ?_
    refine Tr.buildA tab rfl rfl rfl rfl (by simp [fillC, splice, vcells, Value.cells, zrep_one]; rfl) rfl trivial rfl ?_
    refine Tr.eql8 (l := List.replicate 32 0) (m := List.replicate 32 0) (r := true) tab rfl rfl rfl rfl rfl rfl rfl rfl rfl (by kernel_rfl) (decide_eq_true rfl) rfl trivial rfl ?_
    refine Tr.assign rfl rfl trivial rfl ?_
    refine Tr.nil ?_ (fun _ => rfl) (List.Perm.refl _)
    refine Wp.condT rfl ?_
    refine Wp.seq ?_
    refine Wp.reg allGen ?_
    refine Tr.buildA tab rfl rfl rfl rfl (by simp [fillC, splice, vcells, Value.cells, zrep_one]; rfl) rfl trivial rfl ?_
    refine Tr.storeA tab rfl rfl rfl (by repeat (first | exact .here | apply MU.there | apply MU.app)) (by first | with_reducible rfl | with_reducible assumption | (simp; done) | (simp; omega) | rfl) (by first | with_reducible rfl | with_reducible assumption | (simp; done) | (simp; omega) | rfl) (by first | with_reducible assumption | rfl | (simp [Value.oneCell']; done)) trivial rfl ?_
    refine Tr.assign rfl rfl trivial rfl ?_
    refine Tr.nil ?_ (fun _ => rfl) (List.Perm.refl _)
    refine Wp.ret ?_
    exact ⟨.inr rfl, .r2 rfl (RvIs.cellA tab rfl rfl rfl (by repeat (first | exact .head _ | refine .tail _ ?_ | refine List.mem_append_right _ ?_)) (At.all _) rfl) (RvIs.tmp rfl)⟩
  · rw [if_neg ha]
    have hP := P_big
    have h2 : (2 : F).val = 2 := mkF_lt (n := 2) (by omega)
    have hle := f130_less P 2 P_lt (by decide)
    rw [less_two P P_lt (by omega)] at hle
    have h2w := two_words
    rw [h2] at h2w
    have hpw := f134_power a 255 (by decide) 157 [el (P - 2)] [] (fun j => (P - 2) / 2 ^ j % 2 == 1) (fun i hi => f157_bit (P - 2) i (by omega))
    rw [exp_inv] at hpw
    have hby := f139_bytes (finv a).val
    have hne : decide (bF a = List.replicate 32 0) = false := decide_eq_false fun h => ha (h0.1 h)
    refine fnR_of 28 rfl Try.func133 rfl (by kernel_rfl) rfl (by simp) fun w => ?_
    refine Wp.seq ?_
    refine Wp.reg allGen ?_
    refine Tr.boxA rfl rfl trivial rfl (fun B1 _ => ?_)
    refine Tr.alloc tab rfl rfl trivial rfl (fun B2 _ => ?_)
    refine Tr.assign rfl rfl trivial rfl ?_
    refine Tr.nil ?_ (fun _ => rfl) (List.Perm.refl _)
    refine Wp.seq ?_
    refine Wp.block ?_
    refine Wp.seq ?_
    refine Wp.reg allGen ?_
    refine Tr.loadA tab rfl rfl rfl (by repeat (first | exact .head _ | refine .tail _ ?_ | refine List.mem_append_right _ ?_)) (At.all _) (bu_len _) rfl trivial rfl ?_
    refine Tr.call rfl (f92_el a) (by repeat (first | exact Has.nil | refine Has.cons (by repeat (first | exact .head _ | refine .tail _ ?_ | refine List.mem_append_right _ ?_)) ?_)) rfl trivial rfl ?_
    refine Tr.not rfl rfl rfl trivial rfl ?_
    refine Tr.assign rfl rfl trivial rfl ?_
    refine Tr.nil ?_ (fun _ => rfl) (List.Perm.refl _)
    refine Wp.condF rfl ?_
    refine Wp.seq ?_
    refine Wp.reg allGen ?_
    refine Tr.loadA tab rfl rfl rfl (by repeat (first | exact .head _ | refine .tail _ ?_ | refine List.mem_append_right _ ?_)) (At.all _) (bu_len _) rfl trivial rfl ?_
    refine Tr.buildA tab rfl rfl rfl rfl (by simp [fillC, splice, vcells, Value.cells, zrep_one]; rfl) rfl trivial rfl ?_
    refine Tr.eql8 (l := bF a) (m := List.replicate 32 0) (r := false) tab rfl rfl rfl rfl rfl rfl rfl (bF_len a) rfl (by kernel_rfl) hne rfl trivial rfl ?_
    refine Tr.assign rfl rfl trivial rfl ?_
    refine Tr.nil ?_ (fun _ => rfl) (List.Perm.refl _)
    refine Wp.condF rfl ?_
    refine Wp.skip ?_
    refine Wp.seq ?_
    refine Wp.reg allGen ?_
    refine Tr.call rfl f131_prime (by repeat (first | exact Has.nil | refine Has.cons (by repeat (first | exact .head _ | refine .tail _ ?_ | refine List.mem_append_right _ ?_)) ?_)) rfl trivial rfl ?_
    refine Tr.buildA (cs := u64s (w64 4 2)) tab rfl rfl rfl rfl (by rw [← h2w]; rfl) rfl trivial rfl ?_
    refine Tr.call rfl hle (by repeat (first | exact Has.nil | refine Has.cons (by repeat (first | exact .head _ | refine .tail _ ?_ | refine List.mem_append_right _ ?_)) ?_)) rfl trivial rfl ?_
    refine Tr.move rfl rfl trivial rfl ?_
    refine Tr.extract rfl rfl rfl trivial rfl ?_
    refine Tr.extract rfl rfl rfl trivial rfl ?_
    refine Tr.alloc tab rfl rfl trivial rfl (fun B4 _ => ?_)
    refine Tr.storeA tab rfl rfl rfl (by repeat (first | exact .here | apply MU.there | apply MU.app)) (by exact el_len _) (by exact el_len _) (el_one _) trivial rfl ?_
    refine Tr.assign rfl rfl trivial rfl ?_
    refine Tr.nil ?_ (fun _ => rfl) (List.Perm.refl _)
    refine Wp.seq ?_
    refine Wp.regE kindOf mo (by kernel_rfl) ?_
    refine Tr.loadA tab rfl rfl rfl (by repeat (first | exact .head _ | refine .tail _ ?_ | refine List.mem_append_right _ ?_)) (At.all _) (bu_len _) rfl trivial rfl ?_
    refine Tr.call rfl (f129_el a) (by repeat (first | exact Has.nil | refine Has.cons (by repeat (first | exact .head _ | refine .tail _ ?_ | refine List.mem_append_right _ ?_)) ?_)) rfl trivial rfl ?_
    refine Tr.loadA tab rfl rfl rfl (by repeat (first | exact .head _ | refine .tail _ ?_ | refine List.mem_append_right _ ?_)) (At.all _) (el_len _) rfl trivial rfl ?_
    refine Tr.makeFuncF rfl rfl trivial rfl ?_
    refine Tr.call rfl hpw (by repeat (first | exact Has.nil | refine Has.cons (by repeat (first | exact .head _ | refine .tail _ ?_ | refine List.mem_append_right _ ?_)) ?_)) rfl trivial rfl ?_
    refine Tr.call rfl hby (by repeat (first | exact Has.nil | refine Has.cons (by repeat (first | exact .head _ | refine .tail _ ?_ | refine List.mem_append_right _ ?_)) ?_)) rfl trivial rfl ?_
    refine Tr.storeA tab rfl rfl rfl (by repeat (first | exact .here | apply MU.there | apply MU.app)) (by exact bu_len (finv a)) (by exact bu_len (finv a)) (bu_one _) trivial rfl ?_
    refine Tr.assign rfl rfl trivial rfl ?_
    refine Tr.nil ?_ (fun _ => rfl) (List.Perm.refl _)
    refine Wp.ret ?_
    exact ⟨.inr rfl, .r2 rfl (RvIs.cellA tab rfl rfl rfl (by repeat (first | exact .head _ | refine .tail _ ?_ | refine List.mem_append_right _ ?_)) (At.all _) (bu_len (finv a))) (RvIs.tmp rfl)⟩
end Go.Proofs.Ytffghaeaohabhaa.AW
