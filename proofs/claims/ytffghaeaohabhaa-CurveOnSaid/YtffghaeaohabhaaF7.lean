import Derived.Test.YtffghaeaohabhaaF6
namespace Go.Proofs.Ytffghaeaohabhaa.AW
open Go NT
set_option maxRecDepth 100000

theorem neg_val2 (r : F) : (-r).val = (P - r.val) % P := by
  have h : -r = 0 - r := by grobner
  rw [h, sub_val, zero_val, Nat.zero_add, Nat.mod_mod]

theorem odd_word (r : F) : ((((w64 4 r.val).getD 0 0 &&& 1).toNat : Int) == 1) = decide (r.val % 2 = 1) := by
  have hb := word_bit r.val 0 (by decide)
  have e : ((w64 4 r.val).getD (0 / 64) 0) >>> UInt64.ofNat (0 % 64) = (w64 4 r.val).getD 0 0 := by
    show (w64 4 r.val).getD 0 0 >>> (0 : UInt64) = _
    exact UInt64.shiftRight_zero
  rw [e, Nat.pow_zero, Nat.div_one] at hb
  rw [hb]
  have : r.val % 2 < 2 := Nat.mod_lt _ (by decide)
  generalize r.val % 2 = q at *
  have : q = 0 ∨ q = 1 := by omega
  rcases this with rfl | rfl <;> rfl

theorem words_ne {a b : F} (h : a ≠ b) : (!decide (w64 4 a.val = w64 4 b.val)) = true := by
  rw [decide_eq_false fun e => h (F_ext (w64_inj (by rw [pow4]; exact F_lt a) (by rw [pow4]; exact F_lt b) e))]; rfl
theorem words_eq {a b : F} (h : a = b) : (!decide (w64 4 a.val = w64 4 b.val)) = false := by
  rw [decide_eq_true (by rw [h])]; rfl

section
variable (a : F)

theorem f96_a0 (h1 : fpow a ((P + 3) / 8) * fpow a ((P + 3) / 8) = a) (h3 : (fpow a ((P + 3) / 8)).val % 2 ≠ 1) : FnR Try.prog 96 [bv a] [] (.tuple #[bv ((fpow a ((P + 3) / 8))), .bool true, i64 0]) := by
  have hpw := f134_power a 252 (by decide) 135 [] [] (fun i => decide (0 < i)) (fun i _ => f135_bit i)
  rw [exp_root] at hpw
  have hsq := f136_mul (fpow a ((P + 3) / 8)).val (fpow a ((P + 3) / 8)).val (F_lt _) (F_lt _)
  rw [← mul_val] at hsq
  have hodd := odd_word (fpow a ((P + 3) / 8))
  rw [decide_eq_false h3] at hodd
  have hby := f139_bytes (fpow a ((P + 3) / 8)).val
  generalize fpow a ((P + 3) / 8) = r0 at *
  have gx := at_get u64 (At.all (u64s (w64 4 r0.val))) 0 (j := 0) (by rw [w64_len]; decide) (k := 0) rfl
  rw [Nat.zero_add] at gx
  generalize (w64 4 r0.val).getD 0 0 = wd at *
  refine fnR_of 38 rfl Try.func96 rfl (by kernel_rfl) rfl (by simp) fun w => ?_
  refine Wp.seq ?_
  refine Wp.reg allGen ?_
  refine Tr.boxA rfl rfl trivial rfl (fun B1 _ => ?_)
  refine Tr.alloc tab rfl rfl trivial rfl (fun B2 _ => ?_)
  refine Tr.assign rfl rfl trivial rfl ?_
  refine Tr.assign rfl rfl trivial rfl ?_
  refine Tr.nil ?_ (fun _ => rfl) (List.Perm.refl _)
  refine Wp.seq ?_
  refine Wp.seq ?_
  refine Wp.reg allGen ?_
  refine Tr.loadA tab rfl rfl rfl (by repeat (first | exact .head _ | refine .tail _ ?_ | refine List.mem_append_right _ ?_)) (by first | exact At.all _ | with_reducible assumption | assumption) (by first | with_reducible rfl | with_reducible assumption | with_reducible exact el_len _ | with_reducible exact bu_len _ | (simp; done) | (simp; omega) | exact el_len _ | exact bu_len _ | rw [el_len, el_len] | rw [bu_len, bu_len] | rfl) rfl trivial rfl ?_
  refine Tr.call rfl (f92_el a) (by repeat (first | exact Has.nil | refine Has.cons (by repeat (first | exact .head _ | refine .tail _ ?_ | refine List.mem_append_right _ ?_)) ?_)) rfl trivial rfl ?_
  refine Tr.not rfl rfl rfl trivial rfl ?_
  refine Tr.nil ?_ (fun _ => rfl) (List.Perm.refl _)
  refine Wp.condF rfl ?_
  refine Wp.skip ?_
  refine Wp.seq ?_
  refine Wp.reg allGen ?_
  refine Tr.loadA tab rfl rfl rfl (by repeat (first | exact .head _ | refine .tail _ ?_ | refine List.mem_append_right _ ?_)) (by first | exact At.all _ | with_reducible assumption | assumption) (by first | with_reducible rfl | with_reducible assumption | with_reducible exact el_len _ | with_reducible exact bu_len _ | (simp; done) | (simp; omega) | exact el_len _ | exact bu_len _ | rw [el_len, el_len] | rw [bu_len, bu_len] | rfl) rfl trivial rfl ?_
  refine Tr.call rfl (f129_el a) (by repeat (first | exact Has.nil | refine Has.cons (by repeat (first | exact .head _ | refine .tail _ ?_ | refine List.mem_append_right _ ?_)) ?_)) rfl trivial rfl ?_
  refine Tr.alloc tab rfl rfl trivial rfl (fun B5 _ => ?_)
  refine Tr.storeA tab rfl rfl rfl (by repeat (first | exact .here | apply MU.there | apply MU.app)) (by first | with_reducible rfl | with_reducible assumption | with_reducible exact el_len _ | with_reducible exact bu_len _ | (simp; done) | (simp; omega) | exact el_len _ | exact bu_len _ | rw [el_len, el_len] | rw [bu_len, bu_len] | rfl) (by first | with_reducible rfl | with_reducible assumption | with_reducible exact el_len _ | with_reducible exact bu_len _ | (simp; done) | (simp; omega) | exact el_len _ | exact bu_len _ | rw [el_len, el_len] | rw [bu_len, bu_len] | rfl) (by first | with_reducible assumption | exact el_one _ | exact bu_one _ | rfl | (simp [Value.oneCell']; done)) trivial rfl ?_
  refine Tr.nil ?_ (fun _ => rfl) (List.Perm.refl _)
  refine Wp.seq ?_
  refine Wp.reg allGen ?_
  refine Tr.loadA tab rfl rfl rfl (by repeat (first | exact .head _ | refine .tail _ ?_ | refine List.mem_append_right _ ?_)) (by first | exact At.all _ | with_reducible assumption | assumption) (by first | with_reducible rfl | with_reducible assumption | with_reducible exact el_len _ | with_reducible exact bu_len _ | (simp; done) | (simp; omega) | exact el_len _ | exact bu_len _ | rw [el_len, el_len] | rw [bu_len, bu_len] | rfl) rfl trivial rfl ?_
  refine Tr.call rfl hpw (by repeat (first | exact Has.nil | refine Has.cons (by repeat (first | exact .head _ | refine .tail _ ?_ | refine List.mem_append_right _ ?_)) ?_)) rfl trivial rfl ?_
  refine Tr.alloc tab rfl rfl trivial rfl (fun B6 _ => ?_)
  refine Tr.storeA tab rfl rfl rfl (by repeat (first | exact .here | apply MU.there | apply MU.app)) (by first | with_reducible rfl | with_reducible assumption | with_reducible exact el_len _ | with_reducible exact bu_len _ | (simp; done) | (simp; omega) | exact el_len _ | exact bu_len _ | rw [el_len, el_len] | rw [bu_len, bu_len] | rfl) (by first | with_reducible rfl | with_reducible assumption | with_reducible exact el_len _ | with_reducible exact bu_len _ | (simp; done) | (simp; omega) | exact el_len _ | exact bu_len _ | rw [el_len, el_len] | rw [bu_len, bu_len] | rfl) (by first | with_reducible assumption | exact el_one _ | exact bu_one _ | rfl | (simp [Value.oneCell']; done)) trivial rfl ?_
  refine Tr.nil ?_ (fun _ => rfl) (List.Perm.refl _)
  refine Wp.seq ?_
  refine Wp.seq ?_
  refine Wp.regE kindOf mo (by kernel_rfl) ?_
  refine Tr.loadA tab rfl rfl rfl (by repeat (first | exact .head _ | refine .tail _ ?_ | refine List.mem_append_right _ ?_)) (by first | exact At.all _ | with_reducible assumption | assumption) (by first | with_reducible rfl | with_reducible assumption | with_reducible exact el_len _ | with_reducible exact bu_len _ | (simp; done) | (simp; omega) | exact el_len _ | exact bu_len _ | rw [el_len, el_len] | rw [bu_len, bu_len] | rfl) rfl trivial rfl ?_
  refine Tr.loadA tab rfl rfl rfl (by repeat (first | exact .head _ | refine .tail _ ?_ | refine List.mem_append_right _ ?_)) (by first | exact At.all _ | with_reducible assumption | assumption) (by first | with_reducible rfl | with_reducible assumption | with_reducible exact el_len _ | with_reducible exact bu_len _ | (simp; done) | (simp; omega) | exact el_len _ | exact bu_len _ | rw [el_len, el_len] | rw [bu_len, bu_len] | rfl) rfl trivial rfl ?_
  refine Tr.call rfl hsq (by repeat (first | exact Has.nil | refine Has.cons (by repeat (first | exact .head _ | refine .tail _ ?_ | refine List.mem_append_right _ ?_)) ?_)) rfl trivial rfl ?_
  refine Tr.loadA tab rfl rfl rfl (by repeat (first | exact .head _ | refine .tail _ ?_ | refine List.mem_append_right _ ?_)) (by first | exact At.all _ | with_reducible assumption | assumption) (by first | with_reducible rfl | with_reducible assumption | with_reducible exact el_len _ | with_reducible exact bu_len _ | (simp; done) | (simp; omega) | exact el_len _ | exact bu_len _ | rw [el_len, el_len] | rw [bu_len, bu_len] | rfl) rfl trivial rfl ?_
  refine Tr.neq64 (l := w64 4 (r0 * r0).val) (m := w64 4 a.val) (r := false) tab rfl rfl rfl rfl rfl rfl rfl (w64_len _ _) (w64_len _ _) (by kernel_rfl) (words_eq h1) rfl trivial rfl ?_
  refine Tr.nil ?_ (fun _ => rfl) (List.Perm.refl _)
  refine Wp.condF rfl ?_
  refine Wp.skip ?_
  refine Wp.seq ?_
  refine Wp.seq ?_
  refine Wp.regE kindOf mo (by kernel_rfl) ?_
  refine Tr.loadA tab rfl rfl rfl (by repeat (first | exact .head _ | refine .tail _ ?_ | refine List.mem_append_right _ ?_)) (by first | exact At.all _ | with_reducible assumption | assumption) (by first | with_reducible rfl | with_reducible assumption | with_reducible exact el_len _ | with_reducible exact bu_len _ | (simp; done) | (simp; omega) | exact el_len _ | exact bu_len _ | rw [el_len, el_len] | rw [bu_len, bu_len] | rfl) rfl trivial rfl ?_
  refine Tr.loadA tab rfl rfl rfl (by repeat (first | exact .head _ | refine .tail _ ?_ | refine List.mem_append_right _ ?_)) (by first | exact At.all _ | with_reducible assumption | assumption) (by first | with_reducible rfl | with_reducible assumption | with_reducible exact el_len _ | with_reducible exact bu_len _ | (simp; done) | (simp; omega) | exact el_len _ | exact bu_len _ | rw [el_len, el_len] | rw [bu_len, bu_len] | rfl) rfl trivial rfl ?_
  refine Tr.call rfl hsq (by repeat (first | exact Has.nil | refine Has.cons (by repeat (first | exact .head _ | refine .tail _ ?_ | refine List.mem_append_right _ ?_)) ?_)) rfl trivial rfl ?_
  refine Tr.loadA tab rfl rfl rfl (by repeat (first | exact .head _ | refine .tail _ ?_ | refine List.mem_append_right _ ?_)) (by first | exact At.all _ | with_reducible assumption | assumption) (by first | with_reducible rfl | with_reducible assumption | with_reducible exact el_len _ | with_reducible exact bu_len _ | (simp; done) | (simp; omega) | exact el_len _ | exact bu_len _ | rw [el_len, el_len] | rw [bu_len, bu_len] | rfl) rfl trivial rfl ?_
  refine Tr.neq64 (l := w64 4 (r0 * r0).val) (m := w64 4 a.val) (r := false) tab rfl rfl rfl rfl rfl rfl rfl (w64_len _ _) (w64_len _ _) (by kernel_rfl) (words_eq h1) rfl trivial rfl ?_
  refine Tr.nil ?_ (fun _ => rfl) (List.Perm.refl _)
  refine Wp.condF rfl ?_
  refine Wp.skip ?_
  refine Wp.seq ?_
  refine Wp.seq ?_
  refine Wp.reg allGen ?_
  first | refine Tr.indexAddr01 tab rfl rfl rfl rfl rfl (by omega) (by omega) rfl trivial rfl ?_ | refine Tr.indexAddr1 tab rfl rfl rfl rfl rfl (by omega) (by omega) rfl trivial rfl ?_
  refine Tr.loadS tab rfl rfl rfl (by repeat (first | exact .head _ | refine .tail _ ?_ | refine List.mem_append_right _ ?_)) gx rfl trivial rfl ?_
  refine Tr.band (b := ((1 : UInt64).toNat : Int)) rfl rfl (u64_and wd 1) rfl trivial rfl ?_
  refine Tr.eql rfl rfl hodd rfl trivial rfl ?_
  refine Tr.nil ?_ (fun _ => rfl) (List.Perm.refl _)
  refine Wp.condF rfl ?_
  refine Wp.skip ?_
  refine Wp.seq ?_
  refine Wp.reg allGen ?_
  refine Tr.loadA tab rfl rfl rfl (by repeat (first | exact .head _ | refine .tail _ ?_ | refine List.mem_append_right _ ?_)) (by first | exact At.all _ | with_reducible assumption | assumption) (by first | with_reducible rfl | with_reducible assumption | with_reducible exact el_len _ | with_reducible exact bu_len _ | (simp; done) | (simp; omega) | exact el_len _ | exact bu_len _ | rw [el_len, el_len] | rw [bu_len, bu_len] | rfl) rfl trivial rfl ?_
  refine Tr.call rfl hby (by repeat (first | exact Has.nil | refine Has.cons (by repeat (first | exact .head _ | refine .tail _ ?_ | refine List.mem_append_right _ ?_)) ?_)) rfl trivial rfl ?_
  refine Tr.storeA tab rfl rfl rfl (by repeat (first | exact .here | apply MU.there | apply MU.app)) (by first | with_reducible rfl | with_reducible assumption | with_reducible exact el_len _ | with_reducible exact bu_len _ | (simp; done) | (simp; omega) | exact el_len _ | exact bu_len _ | rw [el_len, el_len] | rw [bu_len, bu_len] | rfl) (by first | with_reducible rfl | with_reducible assumption | with_reducible exact el_len _ | with_reducible exact bu_len _ | (simp; done) | (simp; omega) | exact el_len _ | exact bu_len _ | rw [el_len, el_len] | rw [bu_len, bu_len] | rfl) (by first | with_reducible assumption | exact el_one _ | exact bu_one _ | rfl | (simp [Value.oneCell']; done)) trivial rfl ?_
  refine Tr.assign rfl rfl trivial rfl ?_
  refine Tr.assign rfl rfl trivial rfl ?_
  refine Tr.nil ?_ (fun _ => rfl) (List.Perm.refl _)
  refine Wp.ret ?_
  exact ⟨.inr rfl, .r3 rfl (RvIs.cellA tab rfl rfl rfl (by repeat (first | exact .head _ | refine .tail _ ?_ | refine List.mem_append_right _ ?_)) (At.all _) (bu_len _)) (RvIs.tmp rfl) (RvIs.tmp rfl)⟩

theorem f96_a1 (h1 : fpow a ((P + 3) / 8) * fpow a ((P + 3) / 8) = a) (h3 : (fpow a ((P + 3) / 8)).val % 2 = 1) : FnR Try.prog 96 [bv a] [] (.tuple #[bv (-(fpow a ((P + 3) / 8))), .bool true, i64 0]) := by
  have hpw := f134_power a 252 (by decide) 135 [] [] (fun i => decide (0 < i)) (fun i _ => f135_bit i)
  rw [exp_root] at hpw
  have hsq := f136_mul (fpow a ((P + 3) / 8)).val (fpow a ((P + 3) / 8)).val (F_lt _) (F_lt _)
  rw [← mul_val] at hsq
  have hodd := odd_word (fpow a ((P + 3) / 8))
  rw [decide_eq_true h3] at hodd
  have hng := f138_neg (fpow a ((P + 3) / 8)).val (Nat.le_of_lt (Fin.isLt _))
  rw [← neg_val2] at hng
  have hby := f139_bytes (-(fpow a ((P + 3) / 8))).val
  generalize fpow a ((P + 3) / 8) = r0 at *
  have gx := at_get u64 (At.all (u64s (w64 4 r0.val))) 0 (j := 0) (by rw [w64_len]; decide) (k := 0) rfl
  rw [Nat.zero_add] at gx
  generalize (w64 4 r0.val).getD 0 0 = wd at *
  refine fnR_of 38 rfl Try.func96 rfl (by kernel_rfl) rfl (by simp) fun w => ?_
  refine Wp.seq ?_
  refine Wp.reg allGen ?_
  refine Tr.boxA rfl rfl trivial rfl (fun B1 _ => ?_)
  refine Tr.alloc tab rfl rfl trivial rfl (fun B2 _ => ?_)
  refine Tr.assign rfl rfl trivial rfl ?_
  refine Tr.assign rfl rfl trivial rfl ?_
  refine Tr.nil ?_ (fun _ => rfl) (List.Perm.refl _)
  refine Wp.seq ?_
  refine Wp.seq ?_
  refine Wp.reg allGen ?_
  refine Tr.loadA tab rfl rfl rfl (by repeat (first | exact .head _ | refine .tail _ ?_ | refine List.mem_append_right _ ?_)) (by first | exact At.all _ | with_reducible assumption | assumption) (by first | with_reducible rfl | with_reducible assumption | with_reducible exact el_len _ | with_reducible exact bu_len _ | (simp; done) | (simp; omega) | exact el_len _ | exact bu_len _ | rw [el_len, el_len] | rw [bu_len, bu_len] | rfl) rfl trivial rfl ?_
  refine Tr.call rfl (f92_el a) (by repeat (first | exact Has.nil | refine Has.cons (by repeat (first | exact .head _ | refine .tail _ ?_ | refine List.mem_append_right _ ?_)) ?_)) rfl trivial rfl ?_
  refine Tr.not rfl rfl rfl trivial rfl ?_
  refine Tr.nil ?_ (fun _ => rfl) (List.Perm.refl _)
  refine Wp.condF rfl ?_
  refine Wp.skip ?_
  refine Wp.seq ?_
  refine Wp.reg allGen ?_
  refine Tr.loadA tab rfl rfl rfl (by repeat (first | exact .head _ | refine .tail _ ?_ | refine List.mem_append_right _ ?_)) (by first | exact At.all _ | with_reducible assumption | assumption) (by first | with_reducible rfl | with_reducible assumption | with_reducible exact el_len _ | with_reducible exact bu_len _ | (simp; done) | (simp; omega) | exact el_len _ | exact bu_len _ | rw [el_len, el_len] | rw [bu_len, bu_len] | rfl) rfl trivial rfl ?_
  refine Tr.call rfl (f129_el a) (by repeat (first | exact Has.nil | refine Has.cons (by repeat (first | exact .head _ | refine .tail _ ?_ | refine List.mem_append_right _ ?_)) ?_)) rfl trivial rfl ?_
  refine Tr.alloc tab rfl rfl trivial rfl (fun B5 _ => ?_)
  refine Tr.storeA tab rfl rfl rfl (by repeat (first | exact .here | apply MU.there | apply MU.app)) (by first | with_reducible rfl | with_reducible assumption | with_reducible exact el_len _ | with_reducible exact bu_len _ | (simp; done) | (simp; omega) | exact el_len _ | exact bu_len _ | rw [el_len, el_len] | rw [bu_len, bu_len] | rfl) (by first | with_reducible rfl | with_reducible assumption | with_reducible exact el_len _ | with_reducible exact bu_len _ | (simp; done) | (simp; omega) | exact el_len _ | exact bu_len _ | rw [el_len, el_len] | rw [bu_len, bu_len] | rfl) (by first | with_reducible assumption | exact el_one _ | exact bu_one _ | rfl | (simp [Value.oneCell']; done)) trivial rfl ?_
  refine Tr.nil ?_ (fun _ => rfl) (List.Perm.refl _)
  refine Wp.seq ?_
  refine Wp.reg allGen ?_
  refine Tr.loadA tab rfl rfl rfl (by repeat (first | exact .head _ | refine .tail _ ?_ | refine List.mem_append_right _ ?_)) (by first | exact At.all _ | with_reducible assumption | assumption) (by first | with_reducible rfl | with_reducible assumption | with_reducible exact el_len _ | with_reducible exact bu_len _ | (simp; done) | (simp; omega) | exact el_len _ | exact bu_len _ | rw [el_len, el_len] | rw [bu_len, bu_len] | rfl) rfl trivial rfl ?_
  refine Tr.call rfl hpw (by repeat (first | exact Has.nil | refine Has.cons (by repeat (first | exact .head _ | refine .tail _ ?_ | refine List.mem_append_right _ ?_)) ?_)) rfl trivial rfl ?_
  refine Tr.alloc tab rfl rfl trivial rfl (fun B6 _ => ?_)
  refine Tr.storeA tab rfl rfl rfl (by repeat (first | exact .here | apply MU.there | apply MU.app)) (by first | with_reducible rfl | with_reducible assumption | with_reducible exact el_len _ | with_reducible exact bu_len _ | (simp; done) | (simp; omega) | exact el_len _ | exact bu_len _ | rw [el_len, el_len] | rw [bu_len, bu_len] | rfl) (by first | with_reducible rfl | with_reducible assumption | with_reducible exact el_len _ | with_reducible exact bu_len _ | (simp; done) | (simp; omega) | exact el_len _ | exact bu_len _ | rw [el_len, el_len] | rw [bu_len, bu_len] | rfl) (by first | with_reducible assumption | exact el_one _ | exact bu_one _ | rfl | (simp [Value.oneCell']; done)) trivial rfl ?_
  refine Tr.nil ?_ (fun _ => rfl) (List.Perm.refl _)
  refine Wp.seq ?_
  refine Wp.seq ?_
  refine Wp.regE kindOf mo (by kernel_rfl) ?_
  refine Tr.loadA tab rfl rfl rfl (by repeat (first | exact .head _ | refine .tail _ ?_ | refine List.mem_append_right _ ?_)) (by first | exact At.all _ | with_reducible assumption | assumption) (by first | with_reducible rfl | with_reducible assumption | with_reducible exact el_len _ | with_reducible exact bu_len _ | (simp; done) | (simp; omega) | exact el_len _ | exact bu_len _ | rw [el_len, el_len] | rw [bu_len, bu_len] | rfl) rfl trivial rfl ?_
  refine Tr.loadA tab rfl rfl rfl (by repeat (first | exact .head _ | refine .tail _ ?_ | refine List.mem_append_right _ ?_)) (by first | exact At.all _ | with_reducible assumption | assumption) (by first | with_reducible rfl | with_reducible assumption | with_reducible exact el_len _ | with_reducible exact bu_len _ | (simp; done) | (simp; omega) | exact el_len _ | exact bu_len _ | rw [el_len, el_len] | rw [bu_len, bu_len] | rfl) rfl trivial rfl ?_
  refine Tr.call rfl hsq (by repeat (first | exact Has.nil | refine Has.cons (by repeat (first | exact .head _ | refine .tail _ ?_ | refine List.mem_append_right _ ?_)) ?_)) rfl trivial rfl ?_
  refine Tr.loadA tab rfl rfl rfl (by repeat (first | exact .head _ | refine .tail _ ?_ | refine List.mem_append_right _ ?_)) (by first | exact At.all _ | with_reducible assumption | assumption) (by first | with_reducible rfl | with_reducible assumption | with_reducible exact el_len _ | with_reducible exact bu_len _ | (simp; done) | (simp; omega) | exact el_len _ | exact bu_len _ | rw [el_len, el_len] | rw [bu_len, bu_len] | rfl) rfl trivial rfl ?_
  refine Tr.neq64 (l := w64 4 (r0 * r0).val) (m := w64 4 a.val) (r := false) tab rfl rfl rfl rfl rfl rfl rfl (w64_len _ _) (w64_len _ _) (by kernel_rfl) (words_eq h1) rfl trivial rfl ?_
  refine Tr.nil ?_ (fun _ => rfl) (List.Perm.refl _)
  refine Wp.condF rfl ?_
  refine Wp.skip ?_
  refine Wp.seq ?_
  refine Wp.seq ?_
  refine Wp.regE kindOf mo (by kernel_rfl) ?_
  refine Tr.loadA tab rfl rfl rfl (by repeat (first | exact .head _ | refine .tail _ ?_ | refine List.mem_append_right _ ?_)) (by first | exact At.all _ | with_reducible assumption | assumption) (by first | with_reducible rfl | with_reducible assumption | with_reducible exact el_len _ | with_reducible exact bu_len _ | (simp; done) | (simp; omega) | exact el_len _ | exact bu_len _ | rw [el_len, el_len] | rw [bu_len, bu_len] | rfl) rfl trivial rfl ?_
  refine Tr.loadA tab rfl rfl rfl (by repeat (first | exact .head _ | refine .tail _ ?_ | refine List.mem_append_right _ ?_)) (by first | exact At.all _ | with_reducible assumption | assumption) (by first | with_reducible rfl | with_reducible assumption | with_reducible exact el_len _ | with_reducible exact bu_len _ | (simp; done) | (simp; omega) | exact el_len _ | exact bu_len _ | rw [el_len, el_len] | rw [bu_len, bu_len] | rfl) rfl trivial rfl ?_
  refine Tr.call rfl hsq (by repeat (first | exact Has.nil | refine Has.cons (by repeat (first | exact .head _ | refine .tail _ ?_ | refine List.mem_append_right _ ?_)) ?_)) rfl trivial rfl ?_
  refine Tr.loadA tab rfl rfl rfl (by repeat (first | exact .head _ | refine .tail _ ?_ | refine List.mem_append_right _ ?_)) (by first | exact At.all _ | with_reducible assumption | assumption) (by first | with_reducible rfl | with_reducible assumption | with_reducible exact el_len _ | with_reducible exact bu_len _ | (simp; done) | (simp; omega) | exact el_len _ | exact bu_len _ | rw [el_len, el_len] | rw [bu_len, bu_len] | rfl) rfl trivial rfl ?_
  refine Tr.neq64 (l := w64 4 (r0 * r0).val) (m := w64 4 a.val) (r := false) tab rfl rfl rfl rfl rfl rfl rfl (w64_len _ _) (w64_len _ _) (by kernel_rfl) (words_eq h1) rfl trivial rfl ?_
  refine Tr.nil ?_ (fun _ => rfl) (List.Perm.refl _)
  refine Wp.condF rfl ?_
  refine Wp.skip ?_
  refine Wp.seq ?_
  refine Wp.seq ?_
  refine Wp.reg allGen ?_
  first | refine Tr.indexAddr01 tab rfl rfl rfl rfl rfl (by omega) (by omega) rfl trivial rfl ?_ | refine Tr.indexAddr1 tab rfl rfl rfl rfl rfl (by omega) (by omega) rfl trivial rfl ?_
  refine Tr.loadS tab rfl rfl rfl (by repeat (first | exact .head _ | refine .tail _ ?_ | refine List.mem_append_right _ ?_)) gx rfl trivial rfl ?_
  refine Tr.band (b := ((1 : UInt64).toNat : Int)) rfl rfl (u64_and wd 1) rfl trivial rfl ?_
  refine Tr.eql rfl rfl hodd rfl trivial rfl ?_
  refine Tr.nil ?_ (fun _ => rfl) (List.Perm.refl _)
  refine Wp.condT rfl ?_
  refine Wp.reg allGen ?_
  refine Tr.loadA tab rfl rfl rfl (by repeat (first | exact .head _ | refine .tail _ ?_ | refine List.mem_append_right _ ?_)) (by first | exact At.all _ | with_reducible assumption | assumption) (by first | with_reducible rfl | with_reducible assumption | with_reducible exact el_len _ | with_reducible exact bu_len _ | (simp; done) | (simp; omega) | exact el_len _ | exact bu_len _ | rw [el_len, el_len] | rw [bu_len, bu_len] | rfl) rfl trivial rfl ?_
  refine Tr.call rfl hng (by repeat (first | exact Has.nil | refine Has.cons (by repeat (first | exact .head _ | refine .tail _ ?_ | refine List.mem_append_right _ ?_)) ?_)) rfl trivial rfl ?_
  refine Tr.storeA tab rfl rfl rfl (by repeat (first | exact .here | apply MU.there | apply MU.app)) (by first | with_reducible rfl | with_reducible assumption | with_reducible exact el_len _ | with_reducible exact bu_len _ | (simp; done) | (simp; omega) | exact el_len _ | exact bu_len _ | rw [el_len, el_len] | rw [bu_len, bu_len] | rfl) (by first | with_reducible rfl | with_reducible assumption | with_reducible exact el_len _ | with_reducible exact bu_len _ | (simp; done) | (simp; omega) | exact el_len _ | exact bu_len _ | rw [el_len, el_len] | rw [bu_len, bu_len] | rfl) (by first | with_reducible assumption | exact el_one _ | exact bu_one _ | rfl | (simp [Value.oneCell']; done)) trivial rfl ?_
  refine Tr.nil ?_ (fun _ => rfl) (List.Perm.refl _)
  refine Wp.seq ?_
  refine Wp.reg allGen ?_
  refine Tr.loadA tab rfl rfl rfl (by repeat (first | exact .head _ | refine .tail _ ?_ | refine List.mem_append_right _ ?_)) (by first | exact At.all _ | with_reducible assumption | assumption) (by first | with_reducible rfl | with_reducible assumption | with_reducible exact el_len _ | with_reducible exact bu_len _ | (simp; done) | (simp; omega) | exact el_len _ | exact bu_len _ | rw [el_len, el_len] | rw [bu_len, bu_len] | rfl) rfl trivial rfl ?_
  refine Tr.call rfl hby (by repeat (first | exact Has.nil | refine Has.cons (by repeat (first | exact .head _ | refine .tail _ ?_ | refine List.mem_append_right _ ?_)) ?_)) rfl trivial rfl ?_
  refine Tr.storeA tab rfl rfl rfl (by repeat (first | exact .here | apply MU.there | apply MU.app)) (by first | with_reducible rfl | with_reducible assumption | with_reducible exact el_len _ | with_reducible exact bu_len _ | (simp; done) | (simp; omega) | exact el_len _ | exact bu_len _ | rw [el_len, el_len] | rw [bu_len, bu_len] | rfl) (by first | with_reducible rfl | with_reducible assumption | with_reducible exact el_len _ | with_reducible exact bu_len _ | (simp; done) | (simp; omega) | exact el_len _ | exact bu_len _ | rw [el_len, el_len] | rw [bu_len, bu_len] | rfl) (by first | with_reducible assumption | exact el_one _ | exact bu_one _ | rfl | (simp [Value.oneCell']; done)) trivial rfl ?_
  refine Tr.assign rfl rfl trivial rfl ?_
  refine Tr.assign rfl rfl trivial rfl ?_
  refine Tr.nil ?_ (fun _ => rfl) (List.Perm.refl _)
  refine Wp.ret ?_
  exact ⟨.inr rfl, .r3 rfl (RvIs.cellA tab rfl rfl rfl (by repeat (first | exact .head _ | refine .tail _ ?_ | refine List.mem_append_right _ ?_)) (At.all _) (bu_len _)) (RvIs.tmp rfl) (RvIs.tmp rfl)⟩

theorem f96_b0 (h1 : fpow a ((P + 3) / 8) * fpow a ((P + 3) / 8) ≠ a) (h2 : (fpow a ((P + 3) / 8) * im1) * (fpow a ((P + 3) / 8) * im1) = a) (h3 : (fpow a ((P + 3) / 8) * im1).val % 2 ≠ 1) : FnR Try.prog 96 [bv a] [] (.tuple #[bv ((fpow a ((P + 3) / 8) * im1)), .bool true, i64 0]) := by
  have hpw := f134_power a 252 (by decide) 135 [] [] (fun i => decide (0 < i)) (fun i _ => f135_bit i)
  rw [exp_root] at hpw
  have hsq := f136_mul (fpow a ((P + 3) / 8)).val (fpow a ((P + 3) / 8)).val (F_lt _) (F_lt _)
  rw [← mul_val] at hsq
  have him := f134_power 2 253 (by decide) 137 [] [] (fun i => i != 2) (fun i _ => f137_bit i)
  rw [exp_im, show fpow 2 ((P - 1) / 4) = im1 from rfl] at him
  have hmi := f136_mul (fpow a ((P + 3) / 8)).val im1.val (F_lt _) (F_lt _)
  rw [← mul_val] at hmi
  have hsq2 := f136_mul (fpow a ((P + 3) / 8) * im1).val (fpow a ((P + 3) / 8) * im1).val (F_lt _) (F_lt _)
  rw [← mul_val] at hsq2
  have h2w := two_words
  have hodd := odd_word (fpow a ((P + 3) / 8) * im1)
  rw [decide_eq_false h3] at hodd
  have hby := f139_bytes (fpow a ((P + 3) / 8) * im1).val
  generalize fpow a ((P + 3) / 8) = r0 at *
  generalize im1 = im at *
  generalize hR : r0 * im = R at *
  have gx := at_get u64 (At.all (u64s (w64 4 R.val))) 0 (j := 0) (by rw [w64_len]; decide) (k := 0) rfl
  rw [Nat.zero_add] at gx
  generalize (w64 4 R.val).getD 0 0 = wd at *
  refine fnR_of 38 rfl Try.func96 rfl (by kernel_rfl) rfl (by simp) fun w => ?_
  refine Wp.seq ?_
  refine Wp.reg allGen ?_
  refine Tr.boxA rfl rfl trivial rfl (fun B1 _ => ?_)
  refine Tr.alloc tab rfl rfl trivial rfl (fun B2 _ => ?_)
  refine Tr.assign rfl rfl trivial rfl ?_
  refine Tr.assign rfl rfl trivial rfl ?_
  refine Tr.nil ?_ (fun _ => rfl) (List.Perm.refl _)
  refine Wp.seq ?_
  refine Wp.seq ?_
  refine Wp.reg allGen ?_
  refine Tr.loadA tab rfl rfl rfl (by repeat (first | exact .head _ | refine .tail _ ?_ | refine List.mem_append_right _ ?_)) (by first | exact At.all _ | with_reducible assumption | assumption) (by first | with_reducible rfl | with_reducible assumption | with_reducible exact el_len _ | with_reducible exact bu_len _ | (simp; done) | (simp; omega) | exact el_len _ | exact bu_len _ | rw [el_len, el_len] | rw [bu_len, bu_len] | rfl) rfl trivial rfl ?_
  refine Tr.call rfl (f92_el a) (by repeat (first | exact Has.nil | refine Has.cons (by repeat (first | exact .head _ | refine .tail _ ?_ | refine List.mem_append_right _ ?_)) ?_)) rfl trivial rfl ?_
  refine Tr.not rfl rfl rfl trivial rfl ?_
  refine Tr.nil ?_ (fun _ => rfl) (List.Perm.refl _)
  refine Wp.condF rfl ?_
  refine Wp.skip ?_
  refine Wp.seq ?_
  refine Wp.reg allGen ?_
  refine Tr.loadA tab rfl rfl rfl (by repeat (first | exact .head _ | refine .tail _ ?_ | refine List.mem_append_right _ ?_)) (by first | exact At.all _ | with_reducible assumption | assumption) (by first | with_reducible rfl | with_reducible assumption | with_reducible exact el_len _ | with_reducible exact bu_len _ | (simp; done) | (simp; omega) | exact el_len _ | exact bu_len _ | rw [el_len, el_len] | rw [bu_len, bu_len] | rfl) rfl trivial rfl ?_
  refine Tr.call rfl (f129_el a) (by repeat (first | exact Has.nil | refine Has.cons (by repeat (first | exact .head _ | refine .tail _ ?_ | refine List.mem_append_right _ ?_)) ?_)) rfl trivial rfl ?_
  refine Tr.alloc tab rfl rfl trivial rfl (fun B5 _ => ?_)
  refine Tr.storeA tab rfl rfl rfl (by repeat (first | exact .here | apply MU.there | apply MU.app)) (by first | with_reducible rfl | with_reducible assumption | with_reducible exact el_len _ | with_reducible exact bu_len _ | (simp; done) | (simp; omega) | exact el_len _ | exact bu_len _ | rw [el_len, el_len] | rw [bu_len, bu_len] | rfl) (by first | with_reducible rfl | with_reducible assumption | with_reducible exact el_len _ | with_reducible exact bu_len _ | (simp; done) | (simp; omega) | exact el_len _ | exact bu_len _ | rw [el_len, el_len] | rw [bu_len, bu_len] | rfl) (by first | with_reducible assumption | exact el_one _ | exact bu_one _ | rfl | (simp [Value.oneCell']; done)) trivial rfl ?_
  refine Tr.nil ?_ (fun _ => rfl) (List.Perm.refl _)
  refine Wp.seq ?_
  refine Wp.reg allGen ?_
  refine Tr.loadA tab rfl rfl rfl (by repeat (first | exact .head _ | refine .tail _ ?_ | refine List.mem_append_right _ ?_)) (by first | exact At.all _ | with_reducible assumption | assumption) (by first | with_reducible rfl | with_reducible assumption | with_reducible exact el_len _ | with_reducible exact bu_len _ | (simp; done) | (simp; omega) | exact el_len _ | exact bu_len _ | rw [el_len, el_len] | rw [bu_len, bu_len] | rfl) rfl trivial rfl ?_
  refine Tr.call rfl hpw (by repeat (first | exact Has.nil | refine Has.cons (by repeat (first | exact .head _ | refine .tail _ ?_ | refine List.mem_append_right _ ?_)) ?_)) rfl trivial rfl ?_
  refine Tr.alloc tab rfl rfl trivial rfl (fun B6 _ => ?_)
  refine Tr.storeA tab rfl rfl rfl (by repeat (first | exact .here | apply MU.there | apply MU.app)) (by first | with_reducible rfl | with_reducible assumption | with_reducible exact el_len _ | with_reducible exact bu_len _ | (simp; done) | (simp; omega) | exact el_len _ | exact bu_len _ | rw [el_len, el_len] | rw [bu_len, bu_len] | rfl) (by first | with_reducible rfl | with_reducible assumption | with_reducible exact el_len _ | with_reducible exact bu_len _ | (simp; done) | (simp; omega) | exact el_len _ | exact bu_len _ | rw [el_len, el_len] | rw [bu_len, bu_len] | rfl) (by first | with_reducible assumption | exact el_one _ | exact bu_one _ | rfl | (simp [Value.oneCell']; done)) trivial rfl ?_
  refine Tr.nil ?_ (fun _ => rfl) (List.Perm.refl _)
  refine Wp.seq ?_
  refine Wp.seq ?_
  refine Wp.regE kindOf mo (by kernel_rfl) ?_
  refine Tr.loadA tab rfl rfl rfl (by repeat (first | exact .head _ | refine .tail _ ?_ | refine List.mem_append_right _ ?_)) (by first | exact At.all _ | with_reducible assumption | assumption) (by first | with_reducible rfl | with_reducible assumption | with_reducible exact el_len _ | with_reducible exact bu_len _ | (simp; done) | (simp; omega) | exact el_len _ | exact bu_len _ | rw [el_len, el_len] | rw [bu_len, bu_len] | rfl) rfl trivial rfl ?_
  refine Tr.loadA tab rfl rfl rfl (by repeat (first | exact .head _ | refine .tail _ ?_ | refine List.mem_append_right _ ?_)) (by first | exact At.all _ | with_reducible assumption | assumption) (by first | with_reducible rfl | with_reducible assumption | with_reducible exact el_len _ | with_reducible exact bu_len _ | (simp; done) | (simp; omega) | exact el_len _ | exact bu_len _ | rw [el_len, el_len] | rw [bu_len, bu_len] | rfl) rfl trivial rfl ?_
  refine Tr.call rfl hsq (by repeat (first | exact Has.nil | refine Has.cons (by repeat (first | exact .head _ | refine .tail _ ?_ | refine List.mem_append_right _ ?_)) ?_)) rfl trivial rfl ?_
  refine Tr.loadA tab rfl rfl rfl (by repeat (first | exact .head _ | refine .tail _ ?_ | refine List.mem_append_right _ ?_)) (by first | exact At.all _ | with_reducible assumption | assumption) (by first | with_reducible rfl | with_reducible assumption | with_reducible exact el_len _ | with_reducible exact bu_len _ | (simp; done) | (simp; omega) | exact el_len _ | exact bu_len _ | rw [el_len, el_len] | rw [bu_len, bu_len] | rfl) rfl trivial rfl ?_
  refine Tr.neq64 (l := w64 4 (r0 * r0).val) (m := w64 4 a.val) (r := true) tab rfl rfl rfl rfl rfl rfl rfl (w64_len _ _) (w64_len _ _) (by kernel_rfl) (words_ne h1) rfl trivial rfl ?_
  refine Tr.nil ?_ (fun _ => rfl) (List.Perm.refl _)
  refine Wp.condT rfl ?_
  refine Wp.regE kindOf mo (by kernel_rfl) ?_
  refine Tr.loadA tab rfl rfl rfl (by repeat (first | exact .head _ | refine .tail _ ?_ | refine List.mem_append_right _ ?_)) (by first | exact At.all _ | with_reducible assumption | assumption) (by first | with_reducible rfl | with_reducible assumption | with_reducible exact el_len _ | with_reducible exact bu_len _ | (simp; done) | (simp; omega) | exact el_len _ | exact bu_len _ | rw [el_len, el_len] | rw [bu_len, bu_len] | rfl) rfl trivial rfl ?_
  refine Tr.buildA (cs := u64s (w64 4 (2 : F).val)) tab rfl rfl rfl rfl (by rw [← h2w]; rfl) rfl trivial rfl ?_
  refine Tr.call rfl him (by repeat (first | exact Has.nil | refine Has.cons (by repeat (first | exact .head _ | refine .tail _ ?_ | refine List.mem_append_right _ ?_)) ?_)) rfl trivial rfl ?_
  refine Tr.call rfl hmi (by repeat (first | exact Has.nil | refine Has.cons (by repeat (first | exact .head _ | refine .tail _ ?_ | refine List.mem_append_right _ ?_)) ?_)) rfl trivial rfl ?_
  refine Tr.storeA tab rfl rfl rfl (by repeat (first | exact .here | apply MU.there | apply MU.app)) (by first | with_reducible rfl | with_reducible assumption | with_reducible exact el_len _ | with_reducible exact bu_len _ | (simp; done) | (simp; omega) | exact el_len _ | exact bu_len _ | rw [el_len, el_len] | rw [bu_len, bu_len] | rfl) (by first | with_reducible rfl | with_reducible assumption | with_reducible exact el_len _ | with_reducible exact bu_len _ | (simp; done) | (simp; omega) | exact el_len _ | exact bu_len _ | rw [el_len, el_len] | rw [bu_len, bu_len] | rfl) (by first | with_reducible assumption | exact el_one _ | exact bu_one _ | rfl | (simp [Value.oneCell']; done)) trivial rfl ?_
  refine Tr.nil ?_ (fun _ => rfl) (List.Perm.refl _)
  refine Wp.seq ?_
  refine Wp.seq ?_
  refine Wp.regE kindOf mo (by kernel_rfl) ?_
  refine Tr.loadA tab rfl rfl rfl (by repeat (first | exact .head _ | refine .tail _ ?_ | refine List.mem_append_right _ ?_)) (by first | exact At.all _ | with_reducible assumption | assumption) (by first | with_reducible rfl | with_reducible assumption | with_reducible exact el_len _ | with_reducible exact bu_len _ | (simp; done) | (simp; omega) | exact el_len _ | exact bu_len _ | rw [el_len, el_len] | rw [bu_len, bu_len] | rfl) rfl trivial rfl ?_
  refine Tr.loadA tab rfl rfl rfl (by repeat (first | exact .head _ | refine .tail _ ?_ | refine List.mem_append_right _ ?_)) (by first | exact At.all _ | with_reducible assumption | assumption) (by first | with_reducible rfl | with_reducible assumption | with_reducible exact el_len _ | with_reducible exact bu_len _ | (simp; done) | (simp; omega) | exact el_len _ | exact bu_len _ | rw [el_len, el_len] | rw [bu_len, bu_len] | rfl) rfl trivial rfl ?_
  refine Tr.call rfl hsq2 (by repeat (first | exact Has.nil | refine Has.cons (by repeat (first | exact .head _ | refine .tail _ ?_ | refine List.mem_append_right _ ?_)) ?_)) rfl trivial rfl ?_
  refine Tr.loadA tab rfl rfl rfl (by repeat (first | exact .head _ | refine .tail _ ?_ | refine List.mem_append_right _ ?_)) (by first | exact At.all _ | with_reducible assumption | assumption) (by first | with_reducible rfl | with_reducible assumption | with_reducible exact el_len _ | with_reducible exact bu_len _ | (simp; done) | (simp; omega) | exact el_len _ | exact bu_len _ | rw [el_len, el_len] | rw [bu_len, bu_len] | rfl) rfl trivial rfl ?_
  refine Tr.neq64 (l := w64 4 (R * R).val) (m := w64 4 a.val) (r := false) tab rfl rfl rfl rfl rfl rfl rfl (w64_len _ _) (w64_len _ _) (by kernel_rfl) (words_eq h2) rfl trivial rfl ?_
  refine Tr.nil ?_ (fun _ => rfl) (List.Perm.refl _)
  refine Wp.condF rfl ?_
  refine Wp.skip ?_
  refine Wp.seq ?_
  refine Wp.seq ?_
  refine Wp.reg allGen ?_
  first | refine Tr.indexAddr01 tab rfl rfl rfl rfl rfl (by omega) (by omega) rfl trivial rfl ?_ | refine Tr.indexAddr1 tab rfl rfl rfl rfl rfl (by omega) (by omega) rfl trivial rfl ?_
  refine Tr.loadS tab rfl rfl rfl (by repeat (first | exact .head _ | refine .tail _ ?_ | refine List.mem_append_right _ ?_)) gx rfl trivial rfl ?_
  refine Tr.band (b := ((1 : UInt64).toNat : Int)) rfl rfl (u64_and wd 1) rfl trivial rfl ?_
  refine Tr.eql rfl rfl hodd rfl trivial rfl ?_
  refine Tr.nil ?_ (fun _ => rfl) (List.Perm.refl _)
  refine Wp.condF rfl ?_
  refine Wp.skip ?_
  refine Wp.seq ?_
  refine Wp.reg allGen ?_
  refine Tr.loadA tab rfl rfl rfl (by repeat (first | exact .head _ | refine .tail _ ?_ | refine List.mem_append_right _ ?_)) (by first | exact At.all _ | with_reducible assumption | assumption) (by first | with_reducible rfl | with_reducible assumption | with_reducible exact el_len _ | with_reducible exact bu_len _ | (simp; done) | (simp; omega) | exact el_len _ | exact bu_len _ | rw [el_len, el_len] | rw [bu_len, bu_len] | rfl) rfl trivial rfl ?_
  refine Tr.call rfl hby (by repeat (first | exact Has.nil | refine Has.cons (by repeat (first | exact .head _ | refine .tail _ ?_ | refine List.mem_append_right _ ?_)) ?_)) rfl trivial rfl ?_
  refine Tr.storeA tab rfl rfl rfl (by repeat (first | exact .here | apply MU.there | apply MU.app)) (by first | with_reducible rfl | with_reducible assumption | with_reducible exact el_len _ | with_reducible exact bu_len _ | (simp; done) | (simp; omega) | exact el_len _ | exact bu_len _ | rw [el_len, el_len] | rw [bu_len, bu_len] | rfl) (by first | with_reducible rfl | with_reducible assumption | with_reducible exact el_len _ | with_reducible exact bu_len _ | (simp; done) | (simp; omega) | exact el_len _ | exact bu_len _ | rw [el_len, el_len] | rw [bu_len, bu_len] | rfl) (by first | with_reducible assumption | exact el_one _ | exact bu_one _ | rfl | (simp [Value.oneCell']; done)) trivial rfl ?_
  refine Tr.assign rfl rfl trivial rfl ?_
  refine Tr.assign rfl rfl trivial rfl ?_
  refine Tr.nil ?_ (fun _ => rfl) (List.Perm.refl _)
  refine Wp.ret ?_
  exact ⟨.inr rfl, .r3 rfl (RvIs.cellA tab rfl rfl rfl (by repeat (first | exact .head _ | refine .tail _ ?_ | refine List.mem_append_right _ ?_)) (At.all _) (bu_len _)) (RvIs.tmp rfl) (RvIs.tmp rfl)⟩

theorem f96_b1 (h1 : fpow a ((P + 3) / 8) * fpow a ((P + 3) / 8) ≠ a) (h2 : (fpow a ((P + 3) / 8) * im1) * (fpow a ((P + 3) / 8) * im1) = a) (h3 : (fpow a ((P + 3) / 8) * im1).val % 2 = 1) : FnR Try.prog 96 [bv a] [] (.tuple #[bv (-(fpow a ((P + 3) / 8) * im1)), .bool true, i64 0]) := by
  have hpw := f134_power a 252 (by decide) 135 [] [] (fun i => decide (0 < i)) (fun i _ => f135_bit i)
  rw [exp_root] at hpw
  have hsq := f136_mul (fpow a ((P + 3) / 8)).val (fpow a ((P + 3) / 8)).val (F_lt _) (F_lt _)
  rw [← mul_val] at hsq
  have him := f134_power 2 253 (by decide) 137 [] [] (fun i => i != 2) (fun i _ => f137_bit i)
  rw [exp_im, show fpow 2 ((P - 1) / 4) = im1 from rfl] at him
  have hmi := f136_mul (fpow a ((P + 3) / 8)).val im1.val (F_lt _) (F_lt _)
  rw [← mul_val] at hmi
  have hsq2 := f136_mul (fpow a ((P + 3) / 8) * im1).val (fpow a ((P + 3) / 8) * im1).val (F_lt _) (F_lt _)
  rw [← mul_val] at hsq2
  have h2w := two_words
  have hodd := odd_word (fpow a ((P + 3) / 8) * im1)
  rw [decide_eq_true h3] at hodd
  have hng := f138_neg (fpow a ((P + 3) / 8) * im1).val (Nat.le_of_lt (Fin.isLt _))
  rw [← neg_val2] at hng
  have hby := f139_bytes (-(fpow a ((P + 3) / 8) * im1)).val
  generalize fpow a ((P + 3) / 8) = r0 at *
  generalize im1 = im at *
  generalize hR : r0 * im = R at *
  have gx := at_get u64 (At.all (u64s (w64 4 R.val))) 0 (j := 0) (by rw [w64_len]; decide) (k := 0) rfl
  rw [Nat.zero_add] at gx
  generalize (w64 4 R.val).getD 0 0 = wd at *
  refine fnR_of 38 rfl Try.func96 rfl (by kernel_rfl) rfl (by simp) fun w => ?_
  refine Wp.seq ?_
  refine Wp.reg allGen ?_
  refine Tr.boxA rfl rfl trivial rfl (fun B1 _ => ?_)
  refine Tr.alloc tab rfl rfl trivial rfl (fun B2 _ => ?_)
  refine Tr.assign rfl rfl trivial rfl ?_
  refine Tr.assign rfl rfl trivial rfl ?_
  refine Tr.nil ?_ (fun _ => rfl) (List.Perm.refl _)
  refine Wp.seq ?_
  refine Wp.seq ?_
  refine Wp.reg allGen ?_
  refine Tr.loadA tab rfl rfl rfl (by repeat (first | exact .head _ | refine .tail _ ?_ | refine List.mem_append_right _ ?_)) (by first | exact At.all _ | with_reducible assumption | assumption) (by first | with_reducible rfl | with_reducible assumption | with_reducible exact el_len _ | with_reducible exact bu_len _ | (simp; done) | (simp; omega) | exact el_len _ | exact bu_len _ | rw [el_len, el_len] | rw [bu_len, bu_len] | rfl) rfl trivial rfl ?_
  refine Tr.call rfl (f92_el a) (by repeat (first | exact Has.nil | refine Has.cons (by repeat (first | exact .head _ | refine .tail _ ?_ | refine List.mem_append_right _ ?_)) ?_)) rfl trivial rfl ?_
  refine Tr.not rfl rfl rfl trivial rfl ?_
  refine Tr.nil ?_ (fun _ => rfl) (List.Perm.refl _)
  refine Wp.condF rfl ?_
  refine Wp.skip ?_
  refine Wp.seq ?_
  refine Wp.reg allGen ?_
  refine Tr.loadA tab rfl rfl rfl (by repeat (first | exact .head _ | refine .tail _ ?_ | refine List.mem_append_right _ ?_)) (by first | exact At.all _ | with_reducible assumption | assumption) (by first | with_reducible rfl | with_reducible assumption | with_reducible exact el_len _ | with_reducible exact bu_len _ | (simp; done) | (simp; omega) | exact el_len _ | exact bu_len _ | rw [el_len, el_len] | rw [bu_len, bu_len] | rfl) rfl trivial rfl ?_
  refine Tr.call rfl (f129_el a) (by repeat (first | exact Has.nil | refine Has.cons (by repeat (first | exact .head _ | refine .tail _ ?_ | refine List.mem_append_right _ ?_)) ?_)) rfl trivial rfl ?_
  refine Tr.alloc tab rfl rfl trivial rfl (fun B5 _ => ?_)
  refine Tr.storeA tab rfl rfl rfl (by repeat (first | exact .here | apply MU.there | apply MU.app)) (by first | with_reducible rfl | with_reducible assumption | with_reducible exact el_len _ | with_reducible exact bu_len _ | (simp; done) | (simp; omega) | exact el_len _ | exact bu_len _ | rw [el_len, el_len] | rw [bu_len, bu_len] | rfl) (by first | with_reducible rfl | with_reducible assumption | with_reducible exact el_len _ | with_reducible exact bu_len _ | (simp; done) | (simp; omega) | exact el_len _ | exact bu_len _ | rw [el_len, el_len] | rw [bu_len, bu_len] | rfl) (by first | with_reducible assumption | exact el_one _ | exact bu_one _ | rfl | (simp [Value.oneCell']; done)) trivial rfl ?_
  refine Tr.nil ?_ (fun _ => rfl) (List.Perm.refl _)
  refine Wp.seq ?_
  refine Wp.reg allGen ?_
  refine Tr.loadA tab rfl rfl rfl (by repeat (first | exact .head _ | refine .tail _ ?_ | refine List.mem_append_right _ ?_)) (by first | exact At.all _ | with_reducible assumption | assumption) (by first | with_reducible rfl | with_reducible assumption | with_reducible exact el_len _ | with_reducible exact bu_len _ | (simp; done) | (simp; omega) | exact el_len _ | exact bu_len _ | rw [el_len, el_len] | rw [bu_len, bu_len] | rfl) rfl trivial rfl ?_
  refine Tr.call rfl hpw (by repeat (first | exact Has.nil | refine Has.cons (by repeat (first | exact .head _ | refine .tail _ ?_ | refine List.mem_append_right _ ?_)) ?_)) rfl trivial rfl ?_
  refine Tr.alloc tab rfl rfl trivial rfl (fun B6 _ => ?_)
  refine Tr.storeA tab rfl rfl rfl (by repeat (first | exact .here | apply MU.there | apply MU.app)) (by first | with_reducible rfl | with_reducible assumption | with_reducible exact el_len _ | with_reducible exact bu_len _ | (simp; done) | (simp; omega) | exact el_len _ | exact bu_len _ | rw [el_len, el_len] | rw [bu_len, bu_len] | rfl) (by first | with_reducible rfl | with_reducible assumption | with_reducible exact el_len _ | with_reducible exact bu_len _ | (simp; done) | (simp; omega) | exact el_len _ | exact bu_len _ | rw [el_len, el_len] | rw [bu_len, bu_len] | rfl) (by first | with_reducible assumption | exact el_one _ | exact bu_one _ | rfl | (simp [Value.oneCell']; done)) trivial rfl ?_
  refine Tr.nil ?_ (fun _ => rfl) (List.Perm.refl _)
  refine Wp.seq ?_
  refine Wp.seq ?_
  refine Wp.regE kindOf mo (by kernel_rfl) ?_
  refine Tr.loadA tab rfl rfl rfl (by repeat (first | exact .head _ | refine .tail _ ?_ | refine List.mem_append_right _ ?_)) (by first | exact At.all _ | with_reducible assumption | assumption) (by first | with_reducible rfl | with_reducible assumption | with_reducible exact el_len _ | with_reducible exact bu_len _ | (simp; done) | (simp; omega) | exact el_len _ | exact bu_len _ | rw [el_len, el_len] | rw [bu_len, bu_len] | rfl) rfl trivial rfl ?_
  refine Tr.loadA tab rfl rfl rfl (by repeat (first | exact .head _ | refine .tail _ ?_ | refine List.mem_append_right _ ?_)) (by first | exact At.all _ | with_reducible assumption | assumption) (by first | with_reducible rfl | with_reducible assumption | with_reducible exact el_len _ | with_reducible exact bu_len _ | (simp; done) | (simp; omega) | exact el_len _ | exact bu_len _ | rw [el_len, el_len] | rw [bu_len, bu_len] | rfl) rfl trivial rfl ?_
  refine Tr.call rfl hsq (by repeat (first | exact Has.nil | refine Has.cons (by repeat (first | exact .head _ | refine .tail _ ?_ | refine List.mem_append_right _ ?_)) ?_)) rfl trivial rfl ?_
  refine Tr.loadA tab rfl rfl rfl (by repeat (first | exact .head _ | refine .tail _ ?_ | refine List.mem_append_right _ ?_)) (by first | exact At.all _ | with_reducible assumption | assumption) (by first | with_reducible rfl | with_reducible assumption | with_reducible exact el_len _ | with_reducible exact bu_len _ | (simp; done) | (simp; omega) | exact el_len _ | exact bu_len _ | rw [el_len, el_len] | rw [bu_len, bu_len] | rfl) rfl trivial rfl ?_
  refine Tr.neq64 (l := w64 4 (r0 * r0).val) (m := w64 4 a.val) (r := true) tab rfl rfl rfl rfl rfl rfl rfl (w64_len _ _) (w64_len _ _) (by kernel_rfl) (words_ne h1) rfl trivial rfl ?_
  refine Tr.nil ?_ (fun _ => rfl) (List.Perm.refl _)
  refine Wp.condT rfl ?_
  refine Wp.regE kindOf mo (by kernel_rfl) ?_
  refine Tr.loadA tab rfl rfl rfl (by repeat (first | exact .head _ | refine .tail _ ?_ | refine List.mem_append_right _ ?_)) (by first | exact At.all _ | with_reducible assumption | assumption) (by first | with_reducible rfl | with_reducible assumption | with_reducible exact el_len _ | with_reducible exact bu_len _ | (simp; done) | (simp; omega) | exact el_len _ | exact bu_len _ | rw [el_len, el_len] | rw [bu_len, bu_len] | rfl) rfl trivial rfl ?_
  refine Tr.buildA (cs := u64s (w64 4 (2 : F).val)) tab rfl rfl rfl rfl (by rw [← h2w]; rfl) rfl trivial rfl ?_
  refine Tr.call rfl him (by repeat (first | exact Has.nil | refine Has.cons (by repeat (first | exact .head _ | refine .tail _ ?_ | refine List.mem_append_right _ ?_)) ?_)) rfl trivial rfl ?_
  refine Tr.call rfl hmi (by repeat (first | exact Has.nil | refine Has.cons (by repeat (first | exact .head _ | refine .tail _ ?_ | refine List.mem_append_right _ ?_)) ?_)) rfl trivial rfl ?_
  refine Tr.storeA tab rfl rfl rfl (by repeat (first | exact .here | apply MU.there | apply MU.app)) (by first | with_reducible rfl | with_reducible assumption | with_reducible exact el_len _ | with_reducible exact bu_len _ | (simp; done) | (simp; omega) | exact el_len _ | exact bu_len _ | rw [el_len, el_len] | rw [bu_len, bu_len] | rfl) (by first | with_reducible rfl | with_reducible assumption | with_reducible exact el_len _ | with_reducible exact bu_len _ | (simp; done) | (simp; omega) | exact el_len _ | exact bu_len _ | rw [el_len, el_len] | rw [bu_len, bu_len] | rfl) (by first | with_reducible assumption | exact el_one _ | exact bu_one _ | rfl | (simp [Value.oneCell']; done)) trivial rfl ?_
  refine Tr.nil ?_ (fun _ => rfl) (List.Perm.refl _)
  refine Wp.seq ?_
  refine Wp.seq ?_
  refine Wp.regE kindOf mo (by kernel_rfl) ?_
  refine Tr.loadA tab rfl rfl rfl (by repeat (first | exact .head _ | refine .tail _ ?_ | refine List.mem_append_right _ ?_)) (by first | exact At.all _ | with_reducible assumption | assumption) (by first | with_reducible rfl | with_reducible assumption | with_reducible exact el_len _ | with_reducible exact bu_len _ | (simp; done) | (simp; omega) | exact el_len _ | exact bu_len _ | rw [el_len, el_len] | rw [bu_len, bu_len] | rfl) rfl trivial rfl ?_
  refine Tr.loadA tab rfl rfl rfl (by repeat (first | exact .head _ | refine .tail _ ?_ | refine List.mem_append_right _ ?_)) (by first | exact At.all _ | with_reducible assumption | assumption) (by first | with_reducible rfl | with_reducible assumption | with_reducible exact el_len _ | with_reducible exact bu_len _ | (simp; done) | (simp; omega) | exact el_len _ | exact bu_len _ | rw [el_len, el_len] | rw [bu_len, bu_len] | rfl) rfl trivial rfl ?_
  refine Tr.call rfl hsq2 (by repeat (first | exact Has.nil | refine Has.cons (by repeat (first | exact .head _ | refine .tail _ ?_ | refine List.mem_append_right _ ?_)) ?_)) rfl trivial rfl ?_
  refine Tr.loadA tab rfl rfl rfl (by repeat (first | exact .head _ | refine .tail _ ?_ | refine List.mem_append_right _ ?_)) (by first | exact At.all _ | with_reducible assumption | assumption) (by first | with_reducible rfl | with_reducible assumption | with_reducible exact el_len _ | with_reducible exact bu_len _ | (simp; done) | (simp; omega) | exact el_len _ | exact bu_len _ | rw [el_len, el_len] | rw [bu_len, bu_len] | rfl) rfl trivial rfl ?_
  refine Tr.neq64 (l := w64 4 (R * R).val) (m := w64 4 a.val) (r := false) tab rfl rfl rfl rfl rfl rfl rfl (w64_len _ _) (w64_len _ _) (by kernel_rfl) (words_eq h2) rfl trivial rfl ?_
  refine Tr.nil ?_ (fun _ => rfl) (List.Perm.refl _)
  refine Wp.condF rfl ?_
  refine Wp.skip ?_
  refine Wp.seq ?_
  refine Wp.seq ?_
  refine Wp.reg allGen ?_
  first | refine Tr.indexAddr01 tab rfl rfl rfl rfl rfl (by omega) (by omega) rfl trivial rfl ?_ | refine Tr.indexAddr1 tab rfl rfl rfl rfl rfl (by omega) (by omega) rfl trivial rfl ?_
  refine Tr.loadS tab rfl rfl rfl (by repeat (first | exact .head _ | refine .tail _ ?_ | refine List.mem_append_right _ ?_)) gx rfl trivial rfl ?_
  refine Tr.band (b := ((1 : UInt64).toNat : Int)) rfl rfl (u64_and wd 1) rfl trivial rfl ?_
  refine Tr.eql rfl rfl hodd rfl trivial rfl ?_
  refine Tr.nil ?_ (fun _ => rfl) (List.Perm.refl _)
  refine Wp.condT rfl ?_
  refine Wp.reg allGen ?_
  refine Tr.loadA tab rfl rfl rfl (by repeat (first | exact .head _ | refine .tail _ ?_ | refine List.mem_append_right _ ?_)) (by first | exact At.all _ | with_reducible assumption | assumption) (by first | with_reducible rfl | with_reducible assumption | with_reducible exact el_len _ | with_reducible exact bu_len _ | (simp; done) | (simp; omega) | exact el_len _ | exact bu_len _ | rw [el_len, el_len] | rw [bu_len, bu_len] | rfl) rfl trivial rfl ?_
  refine Tr.call rfl hng (by repeat (first | exact Has.nil | refine Has.cons (by repeat (first | exact .head _ | refine .tail _ ?_ | refine List.mem_append_right _ ?_)) ?_)) rfl trivial rfl ?_
  refine Tr.storeA tab rfl rfl rfl (by repeat (first | exact .here | apply MU.there | apply MU.app)) (by first | with_reducible rfl | with_reducible assumption | with_reducible exact el_len _ | with_reducible exact bu_len _ | (simp; done) | (simp; omega) | exact el_len _ | exact bu_len _ | rw [el_len, el_len] | rw [bu_len, bu_len] | rfl) (by first | with_reducible rfl | with_reducible assumption | with_reducible exact el_len _ | with_reducible exact bu_len _ | (simp; done) | (simp; omega) | exact el_len _ | exact bu_len _ | rw [el_len, el_len] | rw [bu_len, bu_len] | rfl) (by first | with_reducible assumption | exact el_one _ | exact bu_one _ | rfl | (simp [Value.oneCell']; done)) trivial rfl ?_
  refine Tr.nil ?_ (fun _ => rfl) (List.Perm.refl _)
  refine Wp.seq ?_
  refine Wp.reg allGen ?_
  refine Tr.loadA tab rfl rfl rfl (by repeat (first | exact .head _ | refine .tail _ ?_ | refine List.mem_append_right _ ?_)) (by first | exact At.all _ | with_reducible assumption | assumption) (by first | with_reducible rfl | with_reducible assumption | with_reducible exact el_len _ | with_reducible exact bu_len _ | (simp; done) | (simp; omega) | exact el_len _ | exact bu_len _ | rw [el_len, el_len] | rw [bu_len, bu_len] | rfl) rfl trivial rfl ?_
  refine Tr.call rfl hby (by repeat (first | exact Has.nil | refine Has.cons (by repeat (first | exact .head _ | refine .tail _ ?_ | refine List.mem_append_right _ ?_)) ?_)) rfl trivial rfl ?_
  refine Tr.storeA tab rfl rfl rfl (by repeat (first | exact .here | apply MU.there | apply MU.app)) (by first | with_reducible rfl | with_reducible assumption | with_reducible exact el_len _ | with_reducible exact bu_len _ | (simp; done) | (simp; omega) | exact el_len _ | exact bu_len _ | rw [el_len, el_len] | rw [bu_len, bu_len] | rfl) (by first | with_reducible rfl | with_reducible assumption | with_reducible exact el_len _ | with_reducible exact bu_len _ | (simp; done) | (simp; omega) | exact el_len _ | exact bu_len _ | rw [el_len, el_len] | rw [bu_len, bu_len] | rfl) (by first | with_reducible assumption | exact el_one _ | exact bu_one _ | rfl | (simp [Value.oneCell']; done)) trivial rfl ?_
  refine Tr.assign rfl rfl trivial rfl ?_
  refine Tr.assign rfl rfl trivial rfl ?_
  refine Tr.nil ?_ (fun _ => rfl) (List.Perm.refl _)
  refine Wp.ret ?_
  exact ⟨.inr rfl, .r3 rfl (RvIs.cellA tab rfl rfl rfl (by repeat (first | exact .head _ | refine .tail _ ?_ | refine List.mem_append_right _ ?_)) (At.all _) (bu_len _)) (RvIs.tmp rfl) (RvIs.tmp rfl)⟩

theorem f96_no (h1 : fpow a ((P + 3) / 8) * fpow a ((P + 3) / 8) ≠ a) (h2 : (fpow a ((P + 3) / 8) * im1) * (fpow a ((P + 3) / 8) * im1) ≠ a) : FnR Try.prog 96 [bv a] [] (.tuple #[bv 0, .bool false, i64 0]) := by
  have hpw := f134_power a 252 (by decide) 135 [] [] (fun i => decide (0 < i)) (fun i _ => f135_bit i)
  rw [exp_root] at hpw
  have hsq := f136_mul (fpow a ((P + 3) / 8)).val (fpow a ((P + 3) / 8)).val (F_lt _) (F_lt _)
  rw [← mul_val] at hsq
  have him := f134_power 2 253 (by decide) 137 [] [] (fun i => i != 2) (fun i _ => f137_bit i)
  rw [exp_im, show fpow 2 ((P - 1) / 4) = im1 from rfl] at him
  have hmi := f136_mul (fpow a ((P + 3) / 8)).val im1.val (F_lt _) (F_lt _)
  rw [← mul_val] at hmi
  have hsq2 := f136_mul (fpow a ((P + 3) / 8) * im1).val (fpow a ((P + 3) / 8) * im1).val (F_lt _) (F_lt _)
  rw [← mul_val] at hsq2
  have h2w := two_words
  generalize fpow a ((P + 3) / 8) = r0 at *
  generalize im1 = im at *
  refine fnR_of 38 rfl Try.func96 rfl (by kernel_rfl) rfl (by simp) fun w => ?_
  refine Wp.seq ?_
  refine Wp.reg allGen ?_
  refine Tr.boxA rfl rfl trivial rfl (fun B1 _ => ?_)
  refine Tr.alloc tab rfl rfl trivial rfl (fun B2 _ => ?_)
  refine Tr.assign rfl rfl trivial rfl ?_
  refine Tr.assign rfl rfl trivial rfl ?_
  refine Tr.nil ?_ (fun _ => rfl) (List.Perm.refl _)
  refine Wp.seq ?_
  refine Wp.seq ?_
  refine Wp.reg allGen ?_
  refine Tr.loadA tab rfl rfl rfl (by repeat (first | exact .head _ | refine .tail _ ?_ | refine List.mem_append_right _ ?_)) (by first | exact At.all _ | with_reducible assumption | assumption) (by first | with_reducible rfl | with_reducible assumption | with_reducible exact el_len _ | with_reducible exact bu_len _ | (simp; done) | (simp; omega) | exact el_len _ | exact bu_len _ | rw [el_len, el_len] | rw [bu_len, bu_len] | rfl) rfl trivial rfl ?_
  refine Tr.call rfl (f92_el a) (by repeat (first | exact Has.nil | refine Has.cons (by repeat (first | exact .head _ | refine .tail _ ?_ | refine List.mem_append_right _ ?_)) ?_)) rfl trivial rfl ?_
  refine Tr.not rfl rfl rfl trivial rfl ?_
  refine Tr.nil ?_ (fun _ => rfl) (List.Perm.refl _)
  refine Wp.condF rfl ?_
  refine Wp.skip ?_
  refine Wp.seq ?_
  refine Wp.reg allGen ?_
  refine Tr.loadA tab rfl rfl rfl (by repeat (first | exact .head _ | refine .tail _ ?_ | refine List.mem_append_right _ ?_)) (by first | exact At.all _ | with_reducible assumption | assumption) (by first | with_reducible rfl | with_reducible assumption | with_reducible exact el_len _ | with_reducible exact bu_len _ | (simp; done) | (simp; omega) | exact el_len _ | exact bu_len _ | rw [el_len, el_len] | rw [bu_len, bu_len] | rfl) rfl trivial rfl ?_
  refine Tr.call rfl (f129_el a) (by repeat (first | exact Has.nil | refine Has.cons (by repeat (first | exact .head _ | refine .tail _ ?_ | refine List.mem_append_right _ ?_)) ?_)) rfl trivial rfl ?_
  refine Tr.alloc tab rfl rfl trivial rfl (fun B5 _ => ?_)
  refine Tr.storeA tab rfl rfl rfl (by repeat (first | exact .here | apply MU.there | apply MU.app)) (by first | with_reducible rfl | with_reducible assumption | with_reducible exact el_len _ | with_reducible exact bu_len _ | (simp; done) | (simp; omega) | exact el_len _ | exact bu_len _ | rw [el_len, el_len] | rw [bu_len, bu_len] | rfl) (by first | with_reducible rfl | with_reducible assumption | with_reducible exact el_len _ | with_reducible exact bu_len _ | (simp; done) | (simp; omega) | exact el_len _ | exact bu_len _ | rw [el_len, el_len] | rw [bu_len, bu_len] | rfl) (by first | with_reducible assumption | exact el_one _ | exact bu_one _ | rfl | (simp [Value.oneCell']; done)) trivial rfl ?_
  refine Tr.nil ?_ (fun _ => rfl) (List.Perm.refl _)
  refine Wp.seq ?_
  refine Wp.reg allGen ?_
  refine Tr.loadA tab rfl rfl rfl (by repeat (first | exact .head _ | refine .tail _ ?_ | refine List.mem_append_right _ ?_)) (by first | exact At.all _ | with_reducible assumption | assumption) (by first | with_reducible rfl | with_reducible assumption | with_reducible exact el_len _ | with_reducible exact bu_len _ | (simp; done) | (simp; omega) | exact el_len _ | exact bu_len _ | rw [el_len, el_len] | rw [bu_len, bu_len] | rfl) rfl trivial rfl ?_
  refine Tr.call rfl hpw (by repeat (first | exact Has.nil | refine Has.cons (by repeat (first | exact .head _ | refine .tail _ ?_ | refine List.mem_append_right _ ?_)) ?_)) rfl trivial rfl ?_
  refine Tr.alloc tab rfl rfl trivial rfl (fun B6 _ => ?_)
  refine Tr.storeA tab rfl rfl rfl (by repeat (first | exact .here | apply MU.there | apply MU.app)) (by first | with_reducible rfl | with_reducible assumption | with_reducible exact el_len _ | with_reducible exact bu_len _ | (simp; done) | (simp; omega) | exact el_len _ | exact bu_len _ | rw [el_len, el_len] | rw [bu_len, bu_len] | rfl) (by first | with_reducible rfl | with_reducible assumption | with_reducible exact el_len _ | with_reducible exact bu_len _ | (simp; done) | (simp; omega) | exact el_len _ | exact bu_len _ | rw [el_len, el_len] | rw [bu_len, bu_len] | rfl) (by first | with_reducible assumption | exact el_one _ | exact bu_one _ | rfl | (simp [Value.oneCell']; done)) trivial rfl ?_
  refine Tr.nil ?_ (fun _ => rfl) (List.Perm.refl _)
  refine Wp.seq ?_
  refine Wp.seq ?_
  refine Wp.regE kindOf mo (by kernel_rfl) ?_
  refine Tr.loadA tab rfl rfl rfl (by repeat (first | exact .head _ | refine .tail _ ?_ | refine List.mem_append_right _ ?_)) (by first | exact At.all _ | with_reducible assumption | assumption) (by first | with_reducible rfl | with_reducible assumption | with_reducible exact el_len _ | with_reducible exact bu_len _ | (simp; done) | (simp; omega) | exact el_len _ | exact bu_len _ | rw [el_len, el_len] | rw [bu_len, bu_len] | rfl) rfl trivial rfl ?_
  refine Tr.loadA tab rfl rfl rfl (by repeat (first | exact .head _ | refine .tail _ ?_ | refine List.mem_append_right _ ?_)) (by first | exact At.all _ | with_reducible assumption | assumption) (by first | with_reducible rfl | with_reducible assumption | with_reducible exact el_len _ | with_reducible exact bu_len _ | (simp; done) | (simp; omega) | exact el_len _ | exact bu_len _ | rw [el_len, el_len] | rw [bu_len, bu_len] | rfl) rfl trivial rfl ?_
  refine Tr.call rfl hsq (by repeat (first | exact Has.nil | refine Has.cons (by repeat (first | exact .head _ | refine .tail _ ?_ | refine List.mem_append_right _ ?_)) ?_)) rfl trivial rfl ?_
  refine Tr.loadA tab rfl rfl rfl (by repeat (first | exact .head _ | refine .tail _ ?_ | refine List.mem_append_right _ ?_)) (by first | exact At.all _ | with_reducible assumption | assumption) (by first | with_reducible rfl | with_reducible assumption | with_reducible exact el_len _ | with_reducible exact bu_len _ | (simp; done) | (simp; omega) | exact el_len _ | exact bu_len _ | rw [el_len, el_len] | rw [bu_len, bu_len] | rfl) rfl trivial rfl ?_
  refine Tr.neq64 (l := w64 4 (r0 * r0).val) (m := w64 4 a.val) (r := true) tab rfl rfl rfl rfl rfl rfl rfl (w64_len _ _) (w64_len _ _) (by kernel_rfl) (words_ne h1) rfl trivial rfl ?_
  refine Tr.nil ?_ (fun _ => rfl) (List.Perm.refl _)
  refine Wp.condT rfl ?_
  refine Wp.regE kindOf mo (by kernel_rfl) ?_
  refine Tr.loadA tab rfl rfl rfl (by repeat (first | exact .head _ | refine .tail _ ?_ | refine List.mem_append_right _ ?_)) (by first | exact At.all _ | with_reducible assumption | assumption) (by first | with_reducible rfl | with_reducible assumption | with_reducible exact el_len _ | with_reducible exact bu_len _ | (simp; done) | (simp; omega) | exact el_len _ | exact bu_len _ | rw [el_len, el_len] | rw [bu_len, bu_len] | rfl) rfl trivial rfl ?_
  refine Tr.buildA (cs := u64s (w64 4 (2 : F).val)) tab rfl rfl rfl rfl (by rw [← h2w]; rfl) rfl trivial rfl ?_
  refine Tr.call rfl him (by repeat (first | exact Has.nil | refine Has.cons (by repeat (first | exact .head _ | refine .tail _ ?_ | refine List.mem_append_right _ ?_)) ?_)) rfl trivial rfl ?_
  refine Tr.call rfl hmi (by repeat (first | exact Has.nil | refine Has.cons (by repeat (first | exact .head _ | refine .tail _ ?_ | refine List.mem_append_right _ ?_)) ?_)) rfl trivial rfl ?_
  refine Tr.storeA tab rfl rfl rfl (by repeat (first | exact .here | apply MU.there | apply MU.app)) (by first | with_reducible rfl | with_reducible assumption | with_reducible exact el_len _ | with_reducible exact bu_len _ | (simp; done) | (simp; omega) | exact el_len _ | exact bu_len _ | rw [el_len, el_len] | rw [bu_len, bu_len] | rfl) (by first | with_reducible rfl | with_reducible assumption | with_reducible exact el_len _ | with_reducible exact bu_len _ | (simp; done) | (simp; omega) | exact el_len _ | exact bu_len _ | rw [el_len, el_len] | rw [bu_len, bu_len] | rfl) (by first | with_reducible assumption | exact el_one _ | exact bu_one _ | rfl | (simp [Value.oneCell']; done)) trivial rfl ?_
  refine Tr.nil ?_ (fun _ => rfl) (List.Perm.refl _)
  refine Wp.seq ?_
  refine Wp.seq ?_
  refine Wp.regE kindOf mo (by kernel_rfl) ?_
  refine Tr.loadA tab rfl rfl rfl (by repeat (first | exact .head _ | refine .tail _ ?_ | refine List.mem_append_right _ ?_)) (by first | exact At.all _ | with_reducible assumption | assumption) (by first | with_reducible rfl | with_reducible assumption | with_reducible exact el_len _ | with_reducible exact bu_len _ | (simp; done) | (simp; omega) | exact el_len _ | exact bu_len _ | rw [el_len, el_len] | rw [bu_len, bu_len] | rfl) rfl trivial rfl ?_
  refine Tr.loadA tab rfl rfl rfl (by repeat (first | exact .head _ | refine .tail _ ?_ | refine List.mem_append_right _ ?_)) (by first | exact At.all _ | with_reducible assumption | assumption) (by first | with_reducible rfl | with_reducible assumption | with_reducible exact el_len _ | with_reducible exact bu_len _ | (simp; done) | (simp; omega) | exact el_len _ | exact bu_len _ | rw [el_len, el_len] | rw [bu_len, bu_len] | rfl) rfl trivial rfl ?_
  refine Tr.call rfl hsq2 (by repeat (first | exact Has.nil | refine Has.cons (by repeat (first | exact .head _ | refine .tail _ ?_ | refine List.mem_append_right _ ?_)) ?_)) rfl trivial rfl ?_
  refine Tr.loadA tab rfl rfl rfl (by repeat (first | exact .head _ | refine .tail _ ?_ | refine List.mem_append_right _ ?_)) (by first | exact At.all _ | with_reducible assumption | assumption) (by first | with_reducible rfl | with_reducible assumption | with_reducible exact el_len _ | with_reducible exact bu_len _ | (simp; done) | (simp; omega) | exact el_len _ | exact bu_len _ | rw [el_len, el_len] | rw [bu_len, bu_len] | rfl) rfl trivial rfl ?_
  refine Tr.neq64 (l := w64 4 ((r0 * im) * (r0 * im)).val) (m := w64 4 a.val) (r := true) tab rfl rfl rfl rfl rfl rfl rfl (w64_len _ _) (w64_len _ _) (by kernel_rfl) (words_ne h2) rfl trivial rfl ?_
  refine Tr.nil ?_ (fun _ => rfl) (List.Perm.refl _)
  refine Wp.condT rfl ?_
  refine Wp.seq ?_
  refine Wp.reg allGen ?_
  refine Tr.buildA (cs := u8s (List.replicate 32 0)) tab rfl rfl rfl rfl (by rfl) rfl trivial rfl ?_
  refine Tr.storeA tab rfl rfl rfl (by repeat (first | exact .here | apply MU.there | apply MU.app)) rfl (by rfl) (by simp [Value.oneCell']) trivial rfl ?_
  rw [← bF_zero]
  refine Tr.assign rfl rfl trivial rfl ?_
  refine Tr.assign rfl rfl trivial rfl ?_
  refine Tr.nil ?_ (fun _ => rfl) (List.Perm.refl _)
  refine Wp.ret ?_
  exact ⟨.inr rfl, .r3 rfl (RvIs.cellA tab rfl rfl rfl (by repeat (first | exact .head _ | refine .tail _ ?_ | refine List.mem_append_right _ ?_)) (At.all _) (bu_len _)) (RvIs.tmp rfl) (RvIs.tmp rfl)⟩

theorem f96_some {r : F} (h : rootS a = some r) : FnR Try.prog 96 [bv a] [] (.tuple #[bv r, .bool true, i64 0]) := by
  unfold rootS at h
  simp only at h
  split at h
  · rename_i h1
    obtain rfl := Option.some.inj h
    unfold evenF
    split
    · rename_i h3; exact f96_a1 a h1 h3
    · rename_i h3; exact f96_a0 a h1 h3
  · rename_i h1
    split at h
    · rename_i h2
      obtain rfl := Option.some.inj h
      unfold evenF
      split
      · rename_i h3; exact f96_b1 a h1 h2 h3
      · rename_i h3; exact f96_b0 a h1 h2 h3
    · cases h
theorem f96_none (h : rootS a = none) : FnR Try.prog 96 [bv a] [] (.tuple #[bv 0, .bool false, i64 0]) := by
  unfold rootS at h
  simp only at h
  split at h
  · cases h
  · rename_i h1
    split at h
    · cases h
    · rename_i h2; exact f96_no a h1 h2
end
end Go.Proofs.Ytffghaeaohabhaa.AW
