import Derived.Test.YtffghaeaohabhaaS2
import Derived.Test.YtffghaeaohabhaaM5
namespace Go.Proofs.Ytffghaeaohabhaa.AW
open Go NT
set_option maxRecDepth 100000

theorem addOk (x y c : UInt64) (hc : c.toNat ≤ 1) : AddOk x y c (x + y + c) (addC x y c) := by
  have hx := x.toNat_lt; have hy := y.toNat_lt
  refine ⟨addC_le x y c hc, ?_⟩
  unfold addC
  rw [UInt64.toNat_add, UInt64.toNat_add, UInt64.toNat_ofNat_of_lt' (by show _ < 18446744073709551616; omega)]; omega
theorem subOk (x y b : UInt64) (hb : b.toNat ≤ 1) : SubOk x y b (x - y - b) (subB x y b) := by
  have hx := x.toNat_lt; have hy := y.toNat_lt
  refine ⟨subB_le x y b, ?_⟩
  unfold subB
  rw [UInt64.toNat_sub, UInt64.toNat_sub]
  split
  · rw [show (1 : UInt64).toNat = 1 from rfl]; omega
  · rw [show (0 : UInt64).toNat = 0 from rfl]; omega
theorem mulOk (x y : UInt64) : MulOk x y (mulHi x y) (x * y) := by
  refine ⟨?_⟩
  rw [mulHi_nat, UInt64.toNat_mul]
  exact Nat.mod_add_div _ _

theorem u0_le : (0 : UInt64).toNat ≤ 1 := by decide

/-- a number below 2^256 as four words -/
abbrev el (n : Nat) : Value := .agg (u64s (w64 4 n)).toArray

theorem prime_words : w64 4 P = [18446744073709551597, 18446744073709551615, 18446744073709551615, 9223372036854775807] := by rw [P_eq]; decide +kernel

theorem f131_prime : FnR Try.prog 131 [] [] (el P) := by
  show FnR _ _ _ _ (.agg (u64s (w64 4 P)).toArray)
  rw [prime_words]
  refine fnR_of 2 rfl Try.func131 rfl (by kernel_rfl) rfl (by simp) fun w => ?_
  refine Wp.seq ?_
  refine Wp.reg allGen ?_
  refine Tr.alloc tab rfl rfl trivial rfl (fun B0 _ => ?_)
  refine Tr.nil ?_ (fun _ => rfl) (List.Perm.refl _)
  refine Wp.seq ?_
  refine Wp.reg allGen ?_
  refine Tr.buildA tab rfl rfl rfl rfl (by simp [fillC, splice, vcells, Value.cells, zrep_one]; rfl) rfl trivial rfl ?_
  refine Tr.storeA tab rfl rfl rfl (by repeat (first | exact .here | apply MU.there | apply MU.app)) (by first | with_reducible rfl | with_reducible assumption | (simp; done) | (simp; omega) | rfl) (by first | with_reducible rfl | with_reducible assumption | (simp; done) | (simp; omega) | rfl) (by first | with_reducible assumption | rfl | (simp [Value.oneCell']; done)) trivial rfl ?_
  refine Tr.nil ?_ (fun _ => rfl) (List.Perm.refl _)
  refine Wp.ret ?_
  refine ⟨by first | exact .inl rfl | exact .inr rfl, ?_⟩
  exact .r1 rfl (RvIs.cellA tab rfl rfl rfl (by repeat (first | exact .head _ | refine .tail _ ?_ | refine List.mem_append_right _ ?_)) (At.all _) (by first | with_reducible rfl | with_reducible assumption | (simp; done) | (simp; omega) | rfl))

theorem f130_words (x0 x1 x2 x3 y0 y1 y2 y3 : UInt64) : FnR Try.prog 130 [.agg (u64s [x0, x1, x2, x3]).toArray, .agg (u64s [y0, y1, y2, y3]).toArray] []
    (.tuple #[.agg (u64s [x0 - y0 - 0, x1 - y1 - subB x0 y0 0, x2 - y2 - subB x1 y1 (subB x0 y0 0), x3 - y3 - subB x2 y2 (subB x1 y1 (subB x0 y0 0))]).toArray,
      .bool (((subB x3 y3 (subB x2 y2 (subB x1 y1 (subB x0 y0 0)))).toNat : Int) == 0)]) := by
  refine fnR_of 29 rfl Try.func130 rfl (by kernel_rfl) rfl (by simp) fun w => ?_
  refine Wp.seq ?_
  refine Wp.reg allGen ?_
  refine Tr.boxA rfl rfl trivial rfl (fun B2 _ => ?_)
  refine Tr.boxA rfl rfl trivial rfl (fun B3 _ => ?_)
  refine Tr.alloc tab rfl rfl trivial rfl (fun B4 _ => ?_)
  refine Tr.assign rfl rfl trivial rfl ?_
  refine Tr.nil ?_ (fun _ => rfl) (List.Perm.refl _)
  refine Wp.seq ?_
  refine Wp.reg allGen ?_
  refine Tr.alloc tab rfl rfl trivial rfl (fun B6 _ => ?_)
  refine Tr.nil ?_ (fun _ => rfl) (List.Perm.refl _)
  refine Wp.seq ?_
  refine Wp.reg allGen ?_
  refine Tr.assign (v := u64 0) rfl rfl trivial rfl ?_
  refine Tr.nil ?_ (fun _ => rfl) (List.Perm.refl _)
  refine Wp.seq ?_
  refine Wp.seq ?_
  refine Wp.reg allGen ?_
  refine Tr.move rfl rfl trivial rfl ?_
  refine Tr.nil ?_ (fun _ => rfl) (List.Perm.refl _)
  refine Wp.block ?_
  refine Wp.loopL ?_
  refine WpL.step ?_
  refine Wp.seq ?_
  refine Wp.reg allGen ?_
  refine Tr.lss rfl rfl (by first | with_reducible assumption | exact decide_eq_true (by omega) | exact decide_eq_false (by omega) | exact beq_iff_eq.2 (by omega) | exact beq_eq_false_iff_ne.2 (by omega) | exact bne_iff_ne.2 (by omega) | rfl) rfl trivial rfl ?_
  refine Tr.nil ?_ (fun _ => rfl) (List.Perm.refl _)
  refine Wp.seq ?_
  refine Wp.condT rfl ?_
  refine Wp.skip ?_
  refine Wp.seq ?_
  refine Wp.block ?_
  refine Wp.seq ?_
  refine Wp.reg allGen ?_
  refine Tr.move rfl rfl trivial rfl ?_
  refine Tr.assign rfl rfl trivial rfl ?_
  refine Tr.nil ?_ (fun _ => rfl) (List.Perm.refl _)
  refine Wp.regE kindOf mo (by kernel_rfl) ?_
  refine Tr.move rfl rfl trivial rfl ?_
  refine Tr.move rfl rfl trivial rfl ?_
  first | refine Tr.indexAddr01 tab rfl rfl rfl rfl rfl (by omega) (by omega) rfl trivial rfl ?_ | refine Tr.indexAddr1 tab rfl rfl rfl rfl rfl (by omega) (by omega) rfl trivial rfl ?_
  refine Tr.loadS tab rfl rfl rfl (by repeat (first | exact .head _ | refine .tail _ ?_ | refine List.mem_append_right _ ?_)) (by first | rfl | with_reducible assumption | assumption | (simp; done)) rfl trivial rfl ?_
  refine Tr.move rfl rfl trivial rfl ?_
  first | refine Tr.indexAddr01 tab rfl rfl rfl rfl rfl (by omega) (by omega) rfl trivial rfl ?_ | refine Tr.indexAddr1 tab rfl rfl rfl rfl rfl (by omega) (by omega) rfl trivial rfl ?_
  refine Tr.loadS tab rfl rfl rfl (by repeat (first | exact .head _ | refine .tail _ ?_ | refine List.mem_append_right _ ?_)) (by first | rfl | with_reducible assumption | assumption | (simp; done)) rfl trivial rfl ?_
  refine Tr.move rfl rfl trivial rfl ?_
  refine Tr.callX rfl (sub64 _ _ _ (by first | decide | exact subB_le _ _ _)) rfl trivial rfl ?_
  refine Tr.move rfl rfl trivial rfl ?_
  refine Tr.extract rfl rfl rfl trivial rfl ?_
  refine Tr.extract rfl rfl rfl trivial rfl ?_
  first | refine Tr.indexAddr01 tab rfl rfl rfl rfl rfl (by omega) (by omega) rfl trivial rfl ?_ | refine Tr.indexAddr1 tab rfl rfl rfl rfl rfl (by omega) (by omega) rfl trivial rfl ?_
  refine Tr.storeS tab rfl rfl rfl rfl (by repeat (first | exact .here | apply MU.there | apply MU.app)) (by first | decide | (simp; done) | (simp; omega) | exact Nat.le_of_ble_eq_true rfl) trivial rfl ?_
  refine Tr.assign rfl rfl trivial rfl ?_
  refine Tr.nil ?_ (fun _ => rfl) (List.Perm.refl _)
  refine Wp.reg allGen ?_
  refine Tr.add rfl rfl (by first | exact wrap_i64 (by omega) (by omega) | rfl) rfl trivial rfl ?_
  refine Tr.move rfl rfl trivial rfl ?_
  refine Tr.nil ?_ (fun _ => rfl) (List.Perm.refl _)
  refine WpL.step ?_
  refine Wp.seq ?_
  refine Wp.reg allGen ?_
  refine Tr.lss rfl rfl (by first | with_reducible assumption | exact decide_eq_true (by omega) | exact decide_eq_false (by omega) | exact beq_iff_eq.2 (by omega) | exact beq_eq_false_iff_ne.2 (by omega) | exact bne_iff_ne.2 (by omega) | rfl) rfl trivial rfl ?_
  refine Tr.nil ?_ (fun _ => rfl) (List.Perm.refl _)
  refine Wp.seq ?_
  refine Wp.condT rfl ?_
  refine Wp.skip ?_
  refine Wp.seq ?_
  refine Wp.block ?_
  refine Wp.seq ?_
  refine Wp.reg allGen ?_
  refine Tr.move rfl rfl trivial rfl ?_
  refine Tr.assign rfl rfl trivial rfl ?_
  refine Tr.nil ?_ (fun _ => rfl) (List.Perm.refl _)
  refine Wp.regE kindOf mo (by kernel_rfl) ?_
  refine Tr.move rfl rfl trivial rfl ?_
  refine Tr.move rfl rfl trivial rfl ?_
  first | refine Tr.indexAddr01 tab rfl rfl rfl rfl rfl (by omega) (by omega) rfl trivial rfl ?_ | refine Tr.indexAddr1 tab rfl rfl rfl rfl rfl (by omega) (by omega) rfl trivial rfl ?_
  refine Tr.loadS tab rfl rfl rfl (by repeat (first | exact .head _ | refine .tail _ ?_ | refine List.mem_append_right _ ?_)) (by first | rfl | with_reducible assumption | assumption | (simp; done)) rfl trivial rfl ?_
  refine Tr.move rfl rfl trivial rfl ?_
  first | refine Tr.indexAddr01 tab rfl rfl rfl rfl rfl (by omega) (by omega) rfl trivial rfl ?_ | refine Tr.indexAddr1 tab rfl rfl rfl rfl rfl (by omega) (by omega) rfl trivial rfl ?_
  refine Tr.loadS tab rfl rfl rfl (by repeat (first | exact .head _ | refine .tail _ ?_ | refine List.mem_append_right _ ?_)) (by first | rfl | with_reducible assumption | assumption | (simp; done)) rfl trivial rfl ?_
  refine Tr.move rfl rfl trivial rfl ?_
  refine Tr.callX rfl (sub64 _ _ _ (by first | decide | exact subB_le _ _ _)) rfl trivial rfl ?_
  refine Tr.move rfl rfl trivial rfl ?_
  refine Tr.extract rfl rfl rfl trivial rfl ?_
  refine Tr.extract rfl rfl rfl trivial rfl ?_
  first | refine Tr.indexAddr01 tab rfl rfl rfl rfl rfl (by omega) (by omega) rfl trivial rfl ?_ | refine Tr.indexAddr1 tab rfl rfl rfl rfl rfl (by omega) (by omega) rfl trivial rfl ?_
  refine Tr.storeS tab rfl rfl rfl rfl (by repeat (first | exact .here | apply MU.there | apply MU.app)) (by first | decide | (simp; done) | (simp; omega) | exact Nat.le_of_ble_eq_true rfl) trivial rfl ?_
  refine Tr.assign rfl rfl trivial rfl ?_
  refine Tr.nil ?_ (fun _ => rfl) (List.Perm.refl _)
  refine Wp.reg allGen ?_
  refine Tr.add rfl rfl (by first | exact wrap_i64 (by omega) (by omega) | rfl) rfl trivial rfl ?_
  refine Tr.move rfl rfl trivial rfl ?_
  refine Tr.nil ?_ (fun _ => rfl) (List.Perm.refl _)
  refine WpL.step ?_
  refine Wp.seq ?_
  refine Wp.reg allGen ?_
  refine Tr.lss rfl rfl (by first | with_reducible assumption | exact decide_eq_true (by omega) | exact decide_eq_false (by omega) | exact beq_iff_eq.2 (by omega) | exact beq_eq_false_iff_ne.2 (by omega) | exact bne_iff_ne.2 (by omega) | rfl) rfl trivial rfl ?_
  refine Tr.nil ?_ (fun _ => rfl) (List.Perm.refl _)
  refine Wp.seq ?_
  refine Wp.condT rfl ?_
  refine Wp.skip ?_
  refine Wp.seq ?_
  refine Wp.block ?_
  refine Wp.seq ?_
  refine Wp.reg allGen ?_
  refine Tr.move rfl rfl trivial rfl ?_
  refine Tr.assign rfl rfl trivial rfl ?_
  refine Tr.nil ?_ (fun _ => rfl) (List.Perm.refl _)
  refine Wp.regE kindOf mo (by kernel_rfl) ?_
  refine Tr.move rfl rfl trivial rfl ?_
  refine Tr.move rfl rfl trivial rfl ?_
  first | refine Tr.indexAddr01 tab rfl rfl rfl rfl rfl (by omega) (by omega) rfl trivial rfl ?_ | refine Tr.indexAddr1 tab rfl rfl rfl rfl rfl (by omega) (by omega) rfl trivial rfl ?_
  refine Tr.loadS tab rfl rfl rfl (by repeat (first | exact .head _ | refine .tail _ ?_ | refine List.mem_append_right _ ?_)) (by first | rfl | with_reducible assumption | assumption | (simp; done)) rfl trivial rfl ?_
  refine Tr.move rfl rfl trivial rfl ?_
  first | refine Tr.indexAddr01 tab rfl rfl rfl rfl rfl (by omega) (by omega) rfl trivial rfl ?_ | refine Tr.indexAddr1 tab rfl rfl rfl rfl rfl (by omega) (by omega) rfl trivial rfl ?_
  refine Tr.loadS tab rfl rfl rfl (by repeat (first | exact .head _ | refine .tail _ ?_ | refine List.mem_append_right _ ?_)) (by first | rfl | with_reducible assumption | assumption | (simp; done)) rfl trivial rfl ?_
  refine Tr.move rfl rfl trivial rfl ?_
  refine Tr.callX rfl (sub64 _ _ _ (by first | decide | exact subB_le _ _ _)) rfl trivial rfl ?_
  refine Tr.move rfl rfl trivial rfl ?_
  refine Tr.extract rfl rfl rfl trivial rfl ?_
  refine Tr.extract rfl rfl rfl trivial rfl ?_
  first | refine Tr.indexAddr01 tab rfl rfl rfl rfl rfl (by omega) (by omega) rfl trivial rfl ?_ | refine Tr.indexAddr1 tab rfl rfl rfl rfl rfl (by omega) (by omega) rfl trivial rfl ?_
  refine Tr.storeS tab rfl rfl rfl rfl (by repeat (first | exact .here | apply MU.there | apply MU.app)) (by first | decide | (simp; done) | (simp; omega) | exact Nat.le_of_ble_eq_true rfl) trivial rfl ?_
  refine Tr.assign rfl rfl trivial rfl ?_
  refine Tr.nil ?_ (fun _ => rfl) (List.Perm.refl _)
  refine Wp.reg allGen ?_
  refine Tr.add rfl rfl (by first | exact wrap_i64 (by omega) (by omega) | rfl) rfl trivial rfl ?_
  refine Tr.move rfl rfl trivial rfl ?_
  refine Tr.nil ?_ (fun _ => rfl) (List.Perm.refl _)
  refine WpL.step ?_
  refine Wp.seq ?_
  refine Wp.reg allGen ?_
  refine Tr.lss rfl rfl (by first | with_reducible assumption | exact decide_eq_true (by omega) | exact decide_eq_false (by omega) | exact beq_iff_eq.2 (by omega) | exact beq_eq_false_iff_ne.2 (by omega) | exact bne_iff_ne.2 (by omega) | rfl) rfl trivial rfl ?_
  refine Tr.nil ?_ (fun _ => rfl) (List.Perm.refl _)
  refine Wp.seq ?_
  refine Wp.condT rfl ?_
  refine Wp.skip ?_
  refine Wp.seq ?_
  refine Wp.block ?_
  refine Wp.seq ?_
  refine Wp.reg allGen ?_
  refine Tr.move rfl rfl trivial rfl ?_
  refine Tr.assign rfl rfl trivial rfl ?_
  refine Tr.nil ?_ (fun _ => rfl) (List.Perm.refl _)
  refine Wp.regE kindOf mo (by kernel_rfl) ?_
  refine Tr.move rfl rfl trivial rfl ?_
  refine Tr.move rfl rfl trivial rfl ?_
  first | refine Tr.indexAddr01 tab rfl rfl rfl rfl rfl (by omega) (by omega) rfl trivial rfl ?_ | refine Tr.indexAddr1 tab rfl rfl rfl rfl rfl (by omega) (by omega) rfl trivial rfl ?_
  refine Tr.loadS tab rfl rfl rfl (by repeat (first | exact .head _ | refine .tail _ ?_ | refine List.mem_append_right _ ?_)) (by first | rfl | with_reducible assumption | assumption | (simp; done)) rfl trivial rfl ?_
  refine Tr.move rfl rfl trivial rfl ?_
  first | refine Tr.indexAddr01 tab rfl rfl rfl rfl rfl (by omega) (by omega) rfl trivial rfl ?_ | refine Tr.indexAddr1 tab rfl rfl rfl rfl rfl (by omega) (by omega) rfl trivial rfl ?_
  refine Tr.loadS tab rfl rfl rfl (by repeat (first | exact .head _ | refine .tail _ ?_ | refine List.mem_append_right _ ?_)) (by first | rfl | with_reducible assumption | assumption | (simp; done)) rfl trivial rfl ?_
  refine Tr.move rfl rfl trivial rfl ?_
  refine Tr.callX rfl (sub64 _ _ _ (by first | decide | exact subB_le _ _ _)) rfl trivial rfl ?_
  refine Tr.move rfl rfl trivial rfl ?_
  refine Tr.extract rfl rfl rfl trivial rfl ?_
  refine Tr.extract rfl rfl rfl trivial rfl ?_
  first | refine Tr.indexAddr01 tab rfl rfl rfl rfl rfl (by omega) (by omega) rfl trivial rfl ?_ | refine Tr.indexAddr1 tab rfl rfl rfl rfl rfl (by omega) (by omega) rfl trivial rfl ?_
  refine Tr.storeS tab rfl rfl rfl rfl (by repeat (first | exact .here | apply MU.there | apply MU.app)) (by first | decide | (simp; done) | (simp; omega) | exact Nat.le_of_ble_eq_true rfl) trivial rfl ?_
  refine Tr.assign rfl rfl trivial rfl ?_
  refine Tr.nil ?_ (fun _ => rfl) (List.Perm.refl _)
  refine Wp.reg allGen ?_
  refine Tr.add rfl rfl (by first | exact wrap_i64 (by omega) (by omega) | rfl) rfl trivial rfl ?_
  refine Tr.move rfl rfl trivial rfl ?_
  refine Tr.nil ?_ (fun _ => rfl) (List.Perm.refl _)
  refine WpL.step ?_
  refine Wp.seq ?_
  refine Wp.reg allGen ?_
  refine Tr.lss rfl rfl (by first | with_reducible assumption | exact decide_eq_true (by omega) | exact decide_eq_false (by omega) | exact beq_iff_eq.2 (by omega) | exact beq_eq_false_iff_ne.2 (by omega) | exact bne_iff_ne.2 (by omega) | rfl) rfl trivial rfl ?_
  refine Tr.nil ?_ (fun _ => rfl) (List.Perm.refl _)
  refine Wp.seq ?_
  refine Wp.condF rfl ?_
  refine Wp.exit ?_
  refine Wp.seq ?_
  refine Wp.reg allGen ?_
  refine Tr.loadA tab rfl rfl rfl (by repeat (first | exact .head _ | refine .tail _ ?_ | refine List.mem_append_right _ ?_)) (by first | exact At.all _ | with_reducible assumption | assumption) (by first | with_reducible rfl | with_reducible assumption | (simp; done) | (simp; omega) | rfl) rfl trivial rfl ?_
  refine Tr.move rfl rfl trivial rfl ?_
  refine Tr.eql rfl rfl rfl rfl trivial rfl ?_
  refine Tr.storeA tab rfl rfl rfl (by repeat (first | exact .here | apply MU.there | apply MU.app)) (by first | with_reducible rfl | with_reducible assumption | (simp; done) | (simp; omega) | rfl) (by first | with_reducible rfl | with_reducible assumption | (simp; done) | (simp; omega) | rfl) (by first | with_reducible assumption | rfl | (simp [Value.oneCell']; done)) trivial rfl ?_
  refine Tr.assign rfl rfl trivial rfl ?_
  refine Tr.nil ?_ (fun _ => rfl) (List.Perm.refl _)
  refine Wp.ret ?_
  refine ⟨by first | exact .inl rfl | exact .inr rfl, ?_⟩
  exact .r2 rfl (RvIs.cellA tab rfl rfl rfl (by repeat (first | exact .head _ | refine .tail _ ?_ | refine List.mem_append_right _ ?_)) (At.all _) (by first | with_reducible rfl | with_reducible assumption | (simp; done) | (simp; omega) | rfl)) (RvIs.tmp rfl)

theorem el_words {n : Nat} {a b c d : UInt64} (h : n64 [a, b, c, d] = n) : [a, b, c, d] = w64 4 n := w64_of rfl h

/-- a less b, by 2^256; is b at most a? -/
theorem f130_less (X Y : Nat) (hX : X < 115792089237316195423570985008687907853269984665640564039457584007913129639936) (hY : Y < 115792089237316195423570985008687907853269984665640564039457584007913129639936) : FnR Try.prog 130 [el X, el Y] [] (.tuple #[el ((X + 115792089237316195423570985008687907853269984665640564039457584007913129639936 - Y) % 115792089237316195423570985008687907853269984665640564039457584007913129639936), .bool (decide (Y ≤ X))]) := by
  have nX := n64_w64 4 X (by rw [pow4]; exact hX)
  have nY := n64_w64 4 Y (by rw [pow4]; exact hY)
  obtain ⟨x0, x1, x2, x3, ex⟩ := split4 _ (w64_len 4 X)
  obtain ⟨y0, y1, y2, y3, ey⟩ := split4 _ (w64_len 4 Y)
  have hw := f130_words x0 x1 x2 x3 y0 y1 y2 y3
  rw [ex] at nX
  rw [ey] at nY
  have s0 := subOk x0 y0 0 u0_le
  have s1 := subOk x1 y1 _ s0.le
  have s2 := subOk x2 y2 _ s1.le
  have s3 := subOk x3 y3 _ s2.le
  have hs := sub4 s0 s1 s2 s3
  have hle := s3.le
  rw [nX, nY, pow4, show (0 : UInt64).toNat = 0 from rfl] at hs
  have hlt := n64_lt [x0 - y0 - 0, x1 - y1 - subB x0 y0 0, x2 - y2 - subB x1 y1 (subB x0 y0 0), x3 - y3 - subB x2 y2 (subB x1 y1 (subB x0 y0 0))]
  rw [show ([x0 - y0 - 0, x1 - y1 - subB x0 y0 0, x2 - y2 - subB x1 y1 (subB x0 y0 0), x3 - y3 - subB x2 y2 (subB x1 y1 (subB x0 y0 0))] : List UInt64).length = 4 from rfl, pow4] at hlt
  have hnum : n64 [x0 - y0 - 0, x1 - y1 - subB x0 y0 0, x2 - y2 - subB x1 y1 (subB x0 y0 0), x3 - y3 - subB x2 y2 (subB x1 y1 (subB x0 y0 0))] = (X + 115792089237316195423570985008687907853269984665640564039457584007913129639936 - Y) % 115792089237316195423570985008687907853269984665640564039457584007913129639936 := by
    generalize n64 [x0 - y0 - 0, x1 - y1 - subB x0 y0 0, x2 - y2 - subB x1 y1 (subB x0 y0 0), x3 - y3 - subB x2 y2 (subB x1 y1 (subB x0 y0 0))] = S at *
    generalize (subB x3 y3 (subB x2 y2 (subB x1 y1 (subB x0 y0 0)))).toNat = d at *
    have : d = 0 ∨ d = 1 := by omega
    rcases this with rfl | rfl <;> omega
  have hb : (((subB x3 y3 (subB x2 y2 (subB x1 y1 (subB x0 y0 0)))).toNat : Int) == 0) = decide (Y ≤ X) := by
    generalize n64 [x0 - y0 - 0, x1 - y1 - subB x0 y0 0, x2 - y2 - subB x1 y1 (subB x0 y0 0), x3 - y3 - subB x2 y2 (subB x1 y1 (subB x0 y0 0))] = S at *
    generalize (subB x3 y3 (subB x2 y2 (subB x1 y1 (subB x0 y0 0)))).toNat = d at *
    have : d = 0 ∨ d = 1 := by omega
    rcases this with rfl | rfl
    · rw [decide_eq_true (by omega)]; rfl
    · rw [decide_eq_false (by omega)]; rfl
  rw [hb, el_words hnum, ← ex.trans rfl, ← ey.trans rfl] at hw
  exact hw

/-! ### freeze -/
def loop159 : Code := (Code.block 1 (Code.seq (Code.region 1 #[{ dst := (some 6), op := (Op.load 148 (Operand.tmp 1)), type := 148, pos := "field.go:49", after := #[], guard := none }, { dst := (some 7), op := (Op.call { callee := (Callee.value (Operand.func 131)), args := #[], argTypes := #[] }), type := 148, pos := "field.go:49", after := #[], guard := none }, { dst := (some 8), op := (Op.call { callee := (Callee.value (Operand.func 130)), args := #[(Operand.tmp 6), (Operand.tmp 7)], argTypes := #[148, 148] }), type := 149, pos := "field.go:49", after := #[{ on := 0, ground := Ground.data }, { on := 1, ground := Ground.data }, { on := 1, ground := Ground.chain }], guard := none }, { dst := (some 5), op := (Op.move (Operand.tmp 8)), type := 149, pos := "field.go:49", after := #[{ on := 2, ground := Ground.data }], guard := none }, { dst := (some 9), op := (Op.extract (Operand.tmp 5) 0), type := 148, pos := "field.go:49", after := #[{ on := 3, ground := Ground.data }], guard := none }, { dst := (some 10), op := (Op.extract (Operand.tmp 5) 1), type := 4, pos := "field.go:49", after := #[{ on := 3, ground := Ground.data }, { on := 7, ground := (Ground.gcOnly Departure.lateStores) }], guard := none }, { dst := (some 3), op := (Op.alloc 148), type := 0, pos := "field.go:49", after := #[], guard := none }, { dst := none, op := (Op.store 148 (Operand.tmp 3) (Operand.tmp 9)), type := 0, pos := "field.go:49", after := #[{ on := 6, ground := Ground.data }, { on := 4, ground := Ground.data }, { on := 2, ground := Ground.chain }, { on := 0, ground := Ground.phase }, { on := 1, ground := Ground.phase }, { on := 2, ground := Ground.phase }, { on := 3, ground := Ground.phase }, { on := 4, ground := Ground.phase }, { on := 5, ground := (Ground.textOnly Departure.lateStores) }, { on := 6, ground := Ground.phase }], guard := none }, { dst := (some 4), op := (Op.assign (Operand.tmp 10)), type := 4, pos := "field.go:49", after := #[{ on := 5, ground := Ground.data }, { on := 7, ground := Ground.chain }, { on := 0, ground := Ground.phase }, { on := 1, ground := Ground.phase }, { on := 2, ground := Ground.phase }, { on := 3, ground := Ground.phase }, { on := 4, ground := Ground.phase }, { on := 5, ground := Ground.phase }, { on := 6, ground := Ground.phase }, { on := 7, ground := Ground.phase }], guard := none }] true) (Code.seq (Code.seq (Code.region 2 #[{ dst := (some 11), op := (Op.move (Operand.tmp 4)), type := 4, pos := "field.go:50", after := #[], guard := none }, { dst := (some 12), op := (Op.unOp UnOp.not 4 (Operand.tmp 11)), type := 4, pos := "field.go:50", after := #[{ on := 0, ground := Ground.data }], guard := none }] false) (Code.cond (Operand.tmp 12) (Code.seq (Code.region 3 #[{ dst := (some 13), op := (Op.load 148 (Operand.tmp 1)), type := 148, pos := "field.go:51", after := #[], guard := none }, { dst := none, op := (Op.store 148 (Operand.tmp 2) (Operand.tmp 13)), type := 0, pos := "field.go:51", after := #[{ on := 0, ground := Ground.data }, { on := 0, ground := Ground.phase }], guard := none }] false) Code.ret) Code.skip)) (Code.region 4 #[{ dst := (some 14), op := (Op.load 148 (Operand.tmp 3)), type := 148, pos := "field.go:53", after := #[], guard := none }, { dst := none, op := (Op.store 148 (Operand.tmp 1) (Operand.tmp 14)), type := 0, pos := "field.go:53", after := #[{ on := 0, ground := Ground.data }, { on := 0, ground := Ground.phase }], guard := none }] false))))

theorem el_one (n : Nat) : (u64s (w64 4 n)).all Value.oneCell' = true := by simp [Value.oneCell']
theorem el_len (n : Nat) : (u64s (w64 4 n)).length = 4 := by simp [w64_len]

theorem P_lt : P < 115792089237316195423570985008687907853269984665640564039457584007913129639936 := by rw [P_eq]; decide
theorem P_2 : 115792089237316195423570985008687907853269984665640564039457584007913129639936 < 3 * P := by rw [P_eq]; decide

theorem freeze_loop {g : Gh} (hg : g.n = 15) (b1 b2 : Nat) (z : List Value) (hz : z.length = 4) : ∀ (f X : Nat), X < (f + 1) * P → X < 115792089237316195423570985008687907853269984665640564039457584007913129639936 → 
    WpL Try.prog g loop159 (fun e env mem => e = .ret ∧ Wk g env mem [(2, .pointer (some ⟨b2, 0, none⟩))] [⟨b2, u64s (w64 4 (X % P)), true⟩])
      [(1, .pointer (some ⟨b1, 0, none⟩)), (2, .pointer (some ⟨b2, 0, none⟩))] [⟨b1, u64s (w64 4 X), true⟩, ⟨b2, z, true⟩] := by
  obtain ⟨gn, w0, may⟩ := g
  obtain rfl : gn = 15 := hg
  have hP := P_lt
  have ret : ∀ X : Nat, X < P → WpL Try.prog ⟨15, w0, may⟩ loop159 (fun e env mem => e = .ret ∧ Wk ⟨15, w0, may⟩ env mem [(2, .pointer (some ⟨b2, 0, none⟩))] [⟨b2, u64s (w64 4 (X % P)), true⟩])
      [(1, .pointer (some ⟨b1, 0, none⟩)), (2, .pointer (some ⟨b2, 0, none⟩))] [⟨b1, u64s (w64 4 X), true⟩, ⟨b2, z, true⟩] := by
    intro X hX
    have hl := f130_less X P (by omega) hP
    rw [decide_eq_false (by omega)] at hl
    rw [Nat.mod_eq_of_lt hX]
    refine WpL.step ?_
    refine Wp.block ?_
    refine Wp.seq ?_
    refine Wp.regE kindOf mo (by kernel_rfl) ?_
    refine Tr.loadA tab rfl rfl rfl (by repeat (first | exact .head _ | refine .tail _ ?_ | refine List.mem_append_right _ ?_)) (At.all _) (el_len _) rfl trivial rfl ?_
    refine Tr.call rfl f131_prime (by repeat (first | exact Has.nil | refine Has.cons (by repeat (first | exact .head _ | refine .tail _ ?_ | refine List.mem_append_right _ ?_)) ?_)) rfl trivial rfl ?_
    refine Tr.call rfl hl (by repeat (first | exact Has.nil | refine Has.cons (by repeat (first | exact .head _ | refine .tail _ ?_ | refine List.mem_append_right _ ?_)) ?_)) rfl trivial rfl ?_
    refine Tr.move rfl rfl trivial rfl ?_
    refine Tr.extract rfl rfl rfl trivial rfl ?_
    refine Tr.extract rfl rfl rfl trivial rfl ?_
    refine Tr.alloc tab rfl rfl trivial rfl (fun B3 _ => ?_)
    refine Tr.storeA tab rfl rfl rfl (by repeat (first | exact .here | apply MU.there | apply MU.app)) (by exact el_len _) (by exact el_len _) (el_one _) trivial rfl ?_
    refine Tr.assign rfl rfl trivial rfl ?_
    refine Tr.nil ?_ (fun _ => rfl) (List.Perm.refl _)
    refine Wp.seq ?_
    refine Wp.seq ?_
    refine Wp.reg allGen ?_
    refine Tr.move rfl rfl trivial rfl ?_
    refine Tr.not rfl rfl rfl trivial rfl ?_
    refine Tr.nil ?_ (fun _ => rfl) (List.Perm.refl _)
    refine Wp.condT rfl ?_
    refine Wp.seq ?_
    refine Wp.reg allGen ?_
    refine Tr.loadA tab rfl rfl rfl (by repeat (first | exact .head _ | refine .tail _ ?_ | refine List.mem_append_right _ ?_)) (At.all _) (el_len _) rfl trivial rfl ?_
    refine Tr.storeA tab rfl rfl rfl (by repeat (first | exact .here | apply MU.there | apply MU.app)) (by exact el_len _) (by rw [hz]; exact el_len _) (el_one _) trivial rfl ?_
    refine Tr.nil ?_ (fun _ => rfl) (List.Perm.refl _)
    refine Wp.ret ?_
    exact ⟨rfl, Wk.mk (by repeat (first | exact ESub.nil | refine ESub.cons rfl (by first | rfl | (simp; done) | (simp; omega)) ?_)) (by repeat (first | exact MSub.nil | refine MSub.cons (by repeat (first | exact .here | apply Pick.there | apply Pick.append)) (by first | rfl | (simp; done)) ?_))⟩
  intro f
  induction f with
  | zero => intro X hX _; exact ret X (by omega)
  | succ f ih =>
    intro X hX hX2
    by_cases hlt : X < P
    · exact ret X hlt
    · have hl := f130_less X P hX2 hP
      rw [decide_eq_true (by omega), show (X + 115792089237316195423570985008687907853269984665640564039457584007913129639936 - P) % 115792089237316195423570985008687907853269984665640564039457584007913129639936 = X - P by omega] at hl
      have hsm : (f + 1 + 1) * P = (f + 1) * P + P := by rw [Nat.add_mul (f + 1), Nat.one_mul]
      have hih := ih (X - P) (by omega) (by omega)
      rw [show (X - P) % P = X % P from (Nat.mod_eq_sub_mod (by omega)).symm] at hih
      refine WpL.step ?_
      refine Wp.block ?_
      refine Wp.seq ?_
      refine Wp.regE kindOf mo (by kernel_rfl) ?_
      refine Tr.loadA tab rfl rfl rfl (by repeat (first | exact .head _ | refine .tail _ ?_ | refine List.mem_append_right _ ?_)) (At.all _) (el_len _) rfl trivial rfl ?_
      refine Tr.call rfl f131_prime (by repeat (first | exact Has.nil | refine Has.cons (by repeat (first | exact .head _ | refine .tail _ ?_ | refine List.mem_append_right _ ?_)) ?_)) rfl trivial rfl ?_
      refine Tr.call rfl hl (by repeat (first | exact Has.nil | refine Has.cons (by repeat (first | exact .head _ | refine .tail _ ?_ | refine List.mem_append_right _ ?_)) ?_)) rfl trivial rfl ?_
      refine Tr.move rfl rfl trivial rfl ?_
      refine Tr.extract rfl rfl rfl trivial rfl ?_
      refine Tr.extract rfl rfl rfl trivial rfl ?_
      refine Tr.alloc tab rfl rfl trivial rfl (fun B3 _ => ?_)
      refine Tr.storeA tab rfl rfl rfl (by repeat (first | exact .here | apply MU.there | apply MU.app)) (by exact el_len _) (by exact el_len _) (el_one _) trivial rfl ?_
      refine Tr.assign rfl rfl trivial rfl ?_
      refine Tr.nil ?_ (fun _ => rfl) (List.Perm.refl _)
      refine Wp.seq ?_
      refine Wp.seq ?_
      refine Wp.reg allGen ?_
      refine Tr.move rfl rfl trivial rfl ?_
      refine Tr.not rfl rfl rfl trivial rfl ?_
      refine Tr.nil ?_ (fun _ => rfl) (List.Perm.refl _)
      refine Wp.condF rfl ?_
      refine Wp.skip ?_
      refine Wp.reg allGen ?_
      refine Tr.loadA tab rfl rfl rfl (by repeat (first | exact .head _ | refine .tail _ ?_ | refine List.mem_append_right _ ?_)) (At.all _) (el_len _) rfl trivial rfl ?_
      refine Tr.storeA tab rfl rfl rfl (by repeat (first | exact .here | apply MU.there | apply MU.app)) (by exact el_len _) (by rw [el_len, el_len]) (el_one _) trivial rfl ?_
      refine Tr.nil ?_ (fun _ => rfl) (List.Perm.refl _)
      exact WpL.weak hih (Wk.mk (by repeat (first | exact ESub.nil | refine ESub.cons rfl (by first | rfl | (simp; done) | (simp; omega)) ?_)) (by repeat (first | exact MSub.nil | refine MSub.cons (by repeat (first | exact .here | apply Pick.there | apply Pick.append)) (by first | rfl | (simp; done)) ?_)))

theorem f159_freeze (X : Nat) (hX : X < 115792089237316195423570985008687907853269984665640564039457584007913129639936) : FnR Try.prog 159 [el X] [] (el (X % P)) := by
  have h3 := P_2
  refine fnR_of 15 rfl Try.func159 rfl (by kernel_rfl) rfl (by simp) fun w => ?_
  refine Wp.seq ?_
  refine Wp.reg allGen ?_
  refine Tr.boxA rfl rfl trivial rfl (fun B1 _ => ?_)
  refine Tr.alloc tab rfl rfl trivial rfl (fun B2 _ => ?_)
  refine Tr.nil ?_ (fun _ => rfl) (List.Perm.refl _)
  refine Wp.block ?_
  refine Wp.loopQ (freeze_loop rfl B1 B2 _ rfl 2 X (by omega) hX) (Wk.mk (by repeat (first | exact ESub.nil | refine ESub.cons rfl (by first | rfl | (simp; done) | (simp; omega)) ?_)) (by repeat (first | exact MSub.nil | refine MSub.cons (by repeat (first | exact .here | apply Pick.there | apply Pick.append)) (by first | rfl | (simp; done)) ?_))) ?_
  rintro _ env1 mem1 ⟨rfl, hk1⟩
  refine ⟨.inr rfl, fun a w ha hw => ?_⟩
  exact ResIs.r1 rfl (RvIs.cellA tab rfl rfl rfl (by repeat (first | exact .head _ | refine .tail _ ?_ | refine List.mem_append_right _ ?_)) (At.all _) (el_len _)) a w (hk1.1 a ha) (hk1.2 w hw)
end Go.Proofs.Ytffghaeaohabhaa.AW
