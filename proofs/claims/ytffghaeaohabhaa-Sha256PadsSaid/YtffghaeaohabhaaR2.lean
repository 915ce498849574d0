import Derived.Test.YtffghaeaohabhaaR1
import Derived.Test.YtffghaeaohabhaaS6
import Derived.Test.YtffghaeaohabhaaOp5
namespace Go.Proofs.Ytffghaeaohabhaa.AW
open Go
set_option maxRecDepth 100000

theorem ofNat32 {n : Nat} (h : n < 32) : (UInt32.ofNat n).toNat % 32 = n := by
  rw [UInt32.toNat_ofNat_of_lt' (by show n < 4294967296; omega), Nat.mod_eq_of_lt h]

theorem rotr_nat (x : UInt32) (n : Nat) (h0 : 0 < n) (h : n < 32) : (rotr x n).toNat = x.toNat / 2 ^ n + x.toNat % 2 ^ n * 2 ^ (32 - n) := by
  have hx := x.toNat_lt
  unfold rotr
  rw [UInt32.toNat_or, UInt32.toNat_shiftLeft, UInt32.toNat_shiftRight, ofNat32 h, ofNat32 (show 32 - n < 32 by omega), Nat.shiftRight_eq_div_pow]
  have e : x.toNat <<< (32 - n) % 2 ^ 32 = (x.toNat % 2 ^ n) <<< (32 - n) := by
    rw [Nat.shiftLeft_eq, Nat.shiftLeft_eq]
    have : (2 : Nat) ^ 32 = 2 ^ n * 2 ^ (32 - n) := by rw [← Nat.pow_add]; congr 1; omega
    rw [this, Nat.mul_mod_mul_right]
  rw [e]
  have hlt : x.toNat / 2 ^ n < 2 ^ (32 - n) := by
    rw [Nat.div_lt_iff_lt_mul (Nat.two_pow_pos n), ← Nat.pow_add, show 32 - n + n = 32 by omega]
    exact hx
  rw [← Nat.shiftLeft_add_eq_or_of_lt hlt, Nat.shiftLeft_eq, Nat.add_comm]

theorem f118_rotr (x : UInt32) (n : Nat) (h0 : 0 < n) (h : n < 32) : FnR Try.prog 118 [w32 x, i64 n] [] (w32 (rotr x n)) := by
  have hx := x.toNat_lt
  have e : ((rotr x n).toNat : Int) = ((x.toNat / 2 ^ n : Nat) : Int) + ((x.toNat % 2 ^ n : Nat) : Int) * ((2 ^ (32 - n) : Nat) : Int) := by rw [rotr_nat x n h0 h, Int.natCast_add, Int.natCast_mul]
  have hr := (rotr x n).toNat_lt
  have hq : (x.toNat : Int).tdiv ((2 ^ n : Nat) : Int) = ((x.toNat / 2 ^ n : Nat) : Int) := tdivN _ _
  have hm : (x.toNat : Int).tmod ((2 ^ n : Nat) : Int) = ((x.toNat % 2 ^ n : Nat) : Int) := tmodN _ _
  have hle := Nat.div_le_self x.toNat (2 ^ n)
  have hpos : (2 : Nat) ^ n ≠ 0 := Nat.ne_of_gt (Nat.two_pow_pos n)
  have hp1 := f69_power n (by omega)
  have hp2 := f69_power (32 - n) (by omega)
  rw [show ((32 - n : Nat) : Int) = 32 - (n : Int) by omega] at hp2
  show FnR _ _ _ _ (i64 _)
  rw [e]
  generalize ((rotr x n).toNat) = R at *
  generalize x.toNat / 2 ^ n = A at *
  generalize x.toNat % 2 ^ n = B at *
  generalize (2 : Nat) ^ n = W at *
  generalize (2 : Nat) ^ (32 - n) = V at *
  have hnn : 0 ≤ (B : Int) * (V : Int) := Int.mul_nonneg (by omega) (by omega)
  have hqw : IntKind.i64.wrap ((x.toNat : Int).tdiv (W : Int)) = (A : Int) := by rw [hq]; exact wrap_i64 (by omega) (by omega)
  have h1 : IntKind.i64.wrap ((B : Int) * (V : Int)) = (B : Int) * (V : Int) := wrap_i64 (by omega) (by omega)
  have h2 : IntKind.i64.wrap ((A : Int) + (B : Int) * (V : Int)) = (A : Int) + (B : Int) * (V : Int) := wrap_i64 (by omega) (by omega)
  refine fnR_of 18 rfl Try.func118 rfl (by kernel_rfl) rfl (by simp) fun w => ?_
  refine Wp.seq ?_
  refine Wp.reg allGen ?_
  refine Tr.assign rfl rfl trivial rfl ?_
  refine Tr.nil ?_ (fun _ => rfl) (List.Perm.refl _)
  refine Wp.seq ?_
  refine Wp.regE kindOf mo (by kernel_rfl) ?_
  refine Tr.move rfl rfl trivial rfl ?_
  refine Tr.move rfl rfl trivial rfl ?_
  refine Tr.call rfl hp1 (by repeat (first | exact Has.nil | refine Has.cons (by repeat (first | exact .head _ | refine .tail _ ?_ | refine List.mem_append_right _ ?_)) ?_)) rfl trivial rfl ?_
  refine Tr.quo rfl rfl (by omega) hqw rfl trivial rfl ?_
  refine Tr.move rfl rfl trivial rfl ?_
  refine Tr.move rfl rfl trivial rfl ?_
  refine Tr.call rfl hp1 (by repeat (first | exact Has.nil | refine Has.cons (by repeat (first | exact .head _ | refine .tail _ ?_ | refine List.mem_append_right _ ?_)) ?_)) rfl trivial rfl ?_
  refine Tr.rem rfl rfl (by omega) hm rfl trivial rfl ?_
  refine Tr.move rfl rfl trivial rfl ?_
  refine Tr.sub rfl rfl (by first | exact wrap_i64 (by omega) (by omega) | rfl) rfl trivial rfl ?_
  refine Tr.call rfl hp2 (by repeat (first | exact Has.nil | refine Has.cons (by repeat (first | exact .head _ | refine .tail _ ?_ | refine List.mem_append_right _ ?_)) ?_)) rfl trivial rfl ?_
  refine Tr.mul rfl rfl h1 rfl trivial rfl ?_
  refine Tr.add rfl rfl h2 rfl trivial rfl ?_
  refine Tr.assign rfl rfl trivial rfl ?_
  refine Tr.nil ?_ (fun _ => rfl) (List.Perm.refl _)
  refine Wp.ret ?_
  refine ⟨by first | exact .inl rfl | exact .inr rfl, ?_⟩
  exact .r1 rfl (RvIs.tmp rfl)

theorem f79_three (x : UInt32) (a b c : Nat) (ha : 0 < a) (ha' : a < 32) (hb : 0 < b) (hb' : b < 32) (hc : 0 < c) (hc' : c < 32) : FnR Try.prog 79 [w32 x, i64 a, i64 b, i64 c] [] (w32 (rotr x a ^^^ rotr x b ^^^ rotr x c)) := by
  refine fnR_of 20 rfl Try.func79 rfl (by kernel_rfl) rfl (by simp) fun w => ?_
  refine Wp.seq ?_
  refine Wp.reg allGen ?_
  refine Tr.assign rfl rfl trivial rfl ?_
  refine Tr.nil ?_ (fun _ => rfl) (List.Perm.refl _)
  refine Wp.seq ?_
  refine Wp.reg allGen ?_
  refine Tr.move rfl rfl trivial rfl ?_
  refine Tr.move rfl rfl trivial rfl ?_
  refine Tr.call rfl (f118_rotr x a ha ha') (by repeat (first | exact Has.nil | refine Has.cons (by repeat (first | exact .head _ | refine .tail _ ?_ | refine List.mem_append_right _ ?_)) ?_)) rfl trivial rfl ?_
  refine Tr.move rfl rfl trivial rfl ?_
  refine Tr.move rfl rfl trivial rfl ?_
  refine Tr.call rfl (f118_rotr x b hb hb') (by repeat (first | exact Has.nil | refine Has.cons (by repeat (first | exact .head _ | refine .tail _ ?_ | refine List.mem_append_right _ ?_)) ?_)) rfl trivial rfl ?_
  refine Tr.call rfl (f76_xor _ _) (by repeat (first | exact Has.nil | refine Has.cons (by repeat (first | exact .head _ | refine .tail _ ?_ | refine List.mem_append_right _ ?_)) ?_)) rfl trivial rfl ?_
  refine Tr.move rfl rfl trivial rfl ?_
  refine Tr.move rfl rfl trivial rfl ?_
  refine Tr.call rfl (f118_rotr x c hc hc') (by repeat (first | exact Has.nil | refine Has.cons (by repeat (first | exact .head _ | refine .tail _ ?_ | refine List.mem_append_right _ ?_)) ?_)) rfl trivial rfl ?_
  refine Tr.call rfl (f76_xor _ _) (by repeat (first | exact Has.nil | refine Has.cons (by repeat (first | exact .head _ | refine .tail _ ?_ | refine List.mem_append_right _ ?_)) ?_)) rfl trivial rfl ?_
  refine Tr.assign rfl rfl trivial rfl ?_
  refine Tr.nil ?_ (fun _ => rfl) (List.Perm.refl _)
  refine Wp.ret ?_
  refine ⟨by first | exact .inl rfl | exact .inr rfl, ?_⟩
  exact .r1 rfl (RvIs.tmp rfl)

theorem u8s_app (a b : List UInt8) : u8s (a ++ b) = u8s a ++ u8s b := List.map_append
abbrev w32s (l : List UInt32) : List Value := l.map w32
theorem w32s_app (a b : List UInt32) : w32s (a ++ b) = w32s a ++ w32s b := List.map_append

/-! ### Pad -/
def loop36a : Code := (Code.seq (Code.seq (Code.region 4 #[{ dst := (some 12), op := (Op.move (Operand.tmp 3)), type := 36, pos := "ref.go:162", after := #[], guard := none }, { dst := (some 13), op := (Op.call { callee := (Callee.builtin Builtin.len), args := #[(Operand.tmp 12)], argTypes := #[36] }), type := 3, pos := "ref.go:162", after := #[{ on := 0, ground := Ground.data }], guard := none }, { dst := (some 14), op := (Op.binOp BinOp.add 3 (Operand.tmp 13) (Operand.const (Value.int IntKind.i64 8)) 3), type := 3, pos := "ref.go:162", after := #[{ on := 1, ground := Ground.data }], guard := none }, { dst := (some 15), op := (Op.binOp BinOp.rem 3 (Operand.tmp 14) (Operand.const (Value.int IntKind.i64 64)) 3), type := 3, pos := "ref.go:162", after := #[{ on := 2, ground := Ground.data }], guard := none }, { dst := (some 16), op := (Op.binOp BinOp.neq 3 (Operand.tmp 15) (Operand.const (Value.int IntKind.i64 0)) 3), type := 4, pos := "ref.go:162", after := #[{ on := 3, ground := Ground.data }], guard := none }] false) (Code.cond (Operand.tmp 16) Code.skip (Code.exit 0))) (Code.block 1 (Code.region 5 #[{ dst := (some 17), op := (Op.move (Operand.tmp 3)), type := 36, pos := "ref.go:163", after := #[], guard := none }, { dst := (some 18), op := (Op.buildSlice 36 1 #[(0, (Operand.const (Value.int IntKind.u8 0)))]), type := 36, pos := "ref.go:163", after := #[], guard := none }, { dst := (some 19), op := (Op.call { callee := (Callee.builtin Builtin.append), args := #[(Operand.tmp 17), (Operand.tmp 18)], argTypes := #[36, 36] }), type := 36, pos := "ref.go:163", after := #[{ on := 0, ground := Ground.data }, { on := 1, ground := Ground.data }], guard := none }, { dst := (some 3), op := (Op.assign (Operand.tmp 19)), type := 36, pos := "ref.go:163", after := #[{ on := 2, ground := Ground.data }, { on := 2, ground := Ground.chain }, { on := 0, ground := Ground.phase }, { on := 1, ground := Ground.phase }, { on := 2, ground := Ground.phase }], guard := none }] false)))
def loop36b : Code := (Code.seq (Code.seq (Code.region 8 #[{ dst := (some 23), op := (Op.move (Operand.tmp 5)), type := 3, pos := "ref.go:166", after := #[], guard := none }, { dst := (some 24), op := (Op.binOp BinOp.geq 3 (Operand.tmp 23) (Operand.const (Value.int IntKind.i64 0)) 3), type := 4, pos := "ref.go:166", after := #[{ on := 0, ground := Ground.data }], guard := none }] false) (Code.cond (Operand.tmp 24) Code.skip (Code.exit 2))) (Code.seq (Code.block 3 (Code.region 10 #[{ dst := (some 27), op := (Op.move (Operand.tmp 3)), type := 36, pos := "ref.go:167", after := #[], guard := none }, { dst := (some 28), op := (Op.move (Operand.tmp 4)), type := 3, pos := "ref.go:167", after := #[], guard := none }, { dst := (some 29), op := (Op.move (Operand.tmp 5)), type := 3, pos := "ref.go:167", after := #[], guard := none }, { dst := (some 30), op := (Op.binOp BinOp.mul 3 (Operand.const (Value.int IntKind.i64 8)) (Operand.tmp 29) 3), type := 3, pos := "ref.go:167", after := #[{ on := 2, ground := Ground.data }], guard := none }, { dst := (some 31), op := (Op.call { callee := (Callee.value (Operand.func 69)), args := #[(Operand.tmp 30)], argTypes := #[3] }), type := 3, pos := "ref.go:167", after := #[{ on := 3, ground := Ground.data }], guard := none }, { dst := (some 32), op := (Op.binOp BinOp.quo 3 (Operand.tmp 28) (Operand.tmp 31) 3), type := 3, pos := "ref.go:167", after := #[{ on := 1, ground := Ground.data }, { on := 4, ground := Ground.data }], guard := none }, { dst := (some 33), op := (Op.binOp BinOp.rem 3 (Operand.tmp 32) (Operand.const (Value.int IntKind.i64 256)) 3), type := 3, pos := "ref.go:167", after := #[{ on := 5, ground := Ground.data }], guard := none }, { dst := (some 34), op := (Op.convert 3 5 (Operand.tmp 33)), type := 5, pos := "ref.go:167", after := #[{ on := 6, ground := Ground.data }], guard := none }, { dst := (some 35), op := (Op.buildSlice 36 1 #[(0, (Operand.tmp 34))]), type := 36, pos := "ref.go:167", after := #[{ on := 7, ground := Ground.data }], guard := none }, { dst := (some 36), op := (Op.call { callee := (Callee.builtin Builtin.append), args := #[(Operand.tmp 27), (Operand.tmp 35)], argTypes := #[36, 36] }), type := 36, pos := "ref.go:167", after := #[{ on := 0, ground := Ground.data }, { on := 8, ground := Ground.data }, { on := 4, ground := Ground.chain }], guard := none }, { dst := (some 3), op := (Op.assign (Operand.tmp 36)), type := 36, pos := "ref.go:167", after := #[{ on := 9, ground := Ground.data }, { on := 9, ground := Ground.chain }, { on := 0, ground := Ground.phase }, { on := 1, ground := Ground.phase }, { on := 2, ground := Ground.phase }, { on := 3, ground := Ground.phase }, { on := 4, ground := Ground.phase }, { on := 5, ground := Ground.phase }, { on := 6, ground := Ground.phase }, { on := 7, ground := Ground.phase }, { on := 8, ground := Ground.phase }, { on := 9, ground := Ground.phase }], guard := none }] false)) (Code.region 9 #[{ dst := (some 25), op := (Op.move (Operand.tmp 5)), type := 3, pos := "ref.go:166", after := #[], guard := none }, { dst := (some 26), op := (Op.binOp BinOp.sub 3 (Operand.tmp 25) (Operand.const (Value.int IntKind.i64 1)) 3), type := 3, pos := "ref.go:166", after := #[{ on := 0, ground := Ground.data }], guard := none }, { dst := (some 5), op := (Op.assign (Operand.tmp 26)), type := 3, pos := "ref.go:166", after := #[{ on := 1, ground := Ground.data }, { on := 0, ground := Ground.phase }, { on := 1, ground := Ground.phase }], guard := none }] false)))

theorem rpad_loop1 {g : Gh} (hg : g.n = 38) (x0 : Value) (rd : List Ent) : ∀ (r : Nat) (l : List UInt8) (v : Value) (es : List Ent), Fresh (u8s l) v es → r < 64 → l.length + r ≤ 1000000000 → (l.length + 8 + r) % 64 = 0 →
    WpL Try.prog g loop36a (fun e env mem => e = .exit 0 ∧ ∃ v es, Fresh (u8s (l ++ List.replicate r 0)) v es ∧ Wk g env mem [(0, x0), (3, v)] (es ++ rd))
      [(0, x0), (3, v)] (es ++ rd)
  | 0, l, v, es, hf, hr, hl, hm => by
    obtain ⟨gn, w0, may⟩ := g
    obtain rfl : gn = 38 := hg
    have hf' := hf
    obtain ⟨a, c, rfl⟩ := hf.slice
    have hll : (u8s l).length = l.length := by simp
    have hmod : (((l.length : Int) + 8).tmod 64 != 0) = false := by
      have : ((l.length : Int) + 8).tmod 64 = ((l.length : Int) + 8) % 64 := Int.tmod_eq_emod_of_nonneg (by omega)
      rw [this]; simp; omega
    rw [hll] at hf' ⊢
    refine WpL.step ?_
    refine Wp.seq ?_
    refine Wp.seq ?_
    refine Wp.reg allGen ?_
    refine Tr.move rfl rfl trivial rfl ?_
    refine Tr.lenS tab rfl rfl rfl rfl trivial rfl ?_
    refine Tr.add rfl rfl (by first | exact wrap_i64 (by omega) (by omega) | rfl) rfl trivial rfl ?_
    refine Tr.rem rfl rfl (by omega) rfl rfl trivial rfl ?_
    refine Tr.neq rfl rfl hmod rfl trivial rfl ?_
    refine Tr.nil ?_ (fun _ => rfl) (List.Perm.refl _)
    refine Wp.condF rfl ?_
    refine Wp.exit ?_
    exact ⟨rfl, _, _, by simpa using hf', ⟨fun a ha => EH.sub (ESub.sub (by repeat (first | exact ESub.nil | refine ESub.cons rfl (by first | rfl | (simp; done) | (simp; omega)) ?_))) a ha, fun w hw => hw⟩⟩
  | r + 1, l, v, es, hf, hr, hl, hm => by
    obtain ⟨gn, w0, may⟩ := g
    obtain rfl : gn = 38 := hg
    have hf' := hf
    obtain ⟨a, c, rfl⟩ := hf.slice
    have hll : (u8s l).length = l.length := by simp
    have hmod : (((l.length : Int) + 8).tmod 64 != 0) = true := by
      have : ((l.length : Int) + 8).tmod 64 = ((l.length : Int) + 8) % 64 := Int.tmod_eq_emod_of_nonneg (by omega)
      rw [this]; simp; omega
    rw [hll] at hf' ⊢
    refine WpL.step ?_
    refine Wp.seq ?_
    refine Wp.seq ?_
    refine Wp.reg allGen ?_
    refine Tr.move rfl rfl trivial rfl ?_
    refine Tr.lenS tab rfl rfl rfl rfl trivial rfl ?_
    refine Tr.add rfl rfl (by first | exact wrap_i64 (by omega) (by omega) | rfl) rfl trivial rfl ?_
    refine Tr.rem rfl rfl (by omega) rfl rfl trivial rfl ?_
    refine Tr.neq rfl rfl hmod rfl trivial rfl ?_
    refine Tr.nil ?_ (fun _ => rfl) (List.Perm.refl _)
    refine Wp.condT rfl ?_
    refine Wp.skip ?_
    refine Wp.block ?_
    refine Wp.reg allGen ?_
    refine Tr.move rfl rfl trivial rfl ?_
    refine Tr.buildSlice tab rfl rfl rfl rfl rfl rfl (by simp [fillC, splice, vcells, Value.cells, zrep_one]; rfl) rfl trivial rfl (fun _ _ => ?_)
    refine Tr.appendF tab rfl hf' (by repeat (first | exact Take.app _ _ | exact Take.self _ | exact Take.nil | apply Take.skip)) rfl (SrcOf.row (by repeat (first | exact .head _ | refine .tail _ ?_ | refine List.mem_append_right _ ?_)) (by first | exact At.all _ | with_reducible assumption | assumption) (by first | with_reducible rfl | with_reducible assumption | (simp; done) | (simp; omega) | rfl)) (by first | with_reducible assumption | rfl | (simp [Value.oneCell']; done)) rfl rfl rfl rfl (by simp) (by decide) (by simp; omega) rfl trivial rfl (fun v1 es1 hf1 => ?_)
    refine Tr.assign rfl rfl trivial rfl ?_
    refine Tr.nil ?_ (fun _ => rfl) (List.Perm.refl _)
    refine WpL.weak ((rpad_loop1 rfl x0 rd r (l ++ [0]) v1 es1 (by rw [u8s_app]; exact hf1) (by omega) (by simp; omega) (by simp; omega)).mono ?_) ⟨fun a ha => EH.sub (ESub.sub (by repeat (first | exact ESub.nil | refine ESub.cons rfl (by first | rfl | (simp; done) | (simp; omega)) ?_))) a ha, MH.sub (MSub.app (MSub.drop (MSub.refl _)) _)⟩
    intro e env mem h
    have e1 : l ++ [0] ++ List.replicate r 0 = l ++ List.replicate (r + 1) (0 : UInt8) := by simp [List.replicate_succ]
    rw [e1] at h
    exact h

theorem pad_byte (n j : Nat) (hn : n ≤ 1000000000) (hj : j < 8) : ((((8 * UInt64.ofNat n) >>> UInt64.ofNat (8 * j)).toUInt8).toNat : Int) = ((8 * n / 2 ^ (8 * j) % 256 : Nat) : Int) := by
  have h1 : (8 * UInt64.ofNat n).toNat = 8 * n := by
    rw [UInt64.toNat_mul, UInt64.toNat_ofNat_of_lt' (by show n < 18446744073709551616; omega)]
    show 8 * n % 18446744073709551616 = _
    omega
  have h2 : (UInt64.ofNat (8 * j)).toNat % 64 = 8 * j := by rw [UInt64.toNat_ofNat_of_lt' (by show _ < 18446744073709551616; omega)]; omega
  congr 1
  show ((8 * UInt64.ofNat n) >>> UInt64.ofNat (8 * j)).toNat % 256 = _
  rw [UInt64.toNat_shiftRight, h1, h2, Nat.shiftRight_eq_div_pow]

theorem rpad_loop2 {g : Gh} (hg : g.n = 38) (n : Nat) (hn : n ≤ 1000000000) (rd : List Ent) : ∀ (j : Nat) (l : List UInt8) (v : Value) (es : List Ent), Fresh (u8s l) v es → j ≤ 8 → l.length + j ≤ 2000000000 →
    WpL Try.prog g loop36b (fun e env mem => e = .exit 2 ∧ ∃ v es, Fresh (u8s (l ++ beN (8 * UInt64.ofNat n) j)) v es ∧ Wk g env mem [(3, v)] (es ++ rd))
      [(3, v), (4, i64 (8 * (n : Int))), (5, i64 ((j : Int) - 1))] (es ++ rd)
  | 0, l, v, es, hf, hj, hl => by
    obtain ⟨gn, w0, may⟩ := g
    obtain rfl : gn = 38 := hg
    refine WpL.step ?_
    refine Wp.seq ?_
    refine Wp.seq ?_
    refine Wp.reg allGen ?_
    refine Tr.move rfl rfl trivial rfl ?_
    refine Tr.geq rfl rfl (by first | with_reducible assumption | exact decide_eq_true (by omega) | exact decide_eq_false (by omega) | exact beq_iff_eq.2 (by omega) | exact beq_eq_false_iff_ne.2 (by omega) | exact bne_iff_ne.2 (by omega) | rfl) rfl trivial rfl ?_
    refine Tr.nil ?_ (fun _ => rfl) (List.Perm.refl _)
    refine Wp.condF rfl ?_
    refine Wp.exit ?_
    exact ⟨rfl, _, _, by simpa [beN] using hf, ⟨fun a ha => EH.sub (ESub.sub (by repeat (first | exact ESub.nil | refine ESub.cons rfl (by first | rfl | (simp; done) | (simp; omega)) ?_))) a ha, fun w hw => hw⟩⟩
  | j + 1, l, v, es, hf, hj, hl => by
    obtain ⟨gn, w0, may⟩ := g
    obtain rfl : gn = 38 := hg
    have hpw := f69_power (8 * j) (by omega)
    have hb := pad_byte n j hn (by omega)
    have hpos : (2 : Nat) ^ (8 * j) ≠ 0 := Nat.ne_of_gt (Nat.two_pow_pos _)
    have hq0 : (8 * (n : Int)).tdiv ((2 ^ (8 * j) : Nat) : Int) = ((8 * n / 2 ^ (8 * j) : Nat) : Int) := by rw [show (8 * (n : Int)) = ((8 * n : Nat) : Int) by omega]; exact tdivN _ _
    have hle := Nat.div_le_self (8 * n) (2 ^ (8 * j))
    have hfin : l ++ [((8 * UInt64.ofNat n) >>> UInt64.ofNat (8 * j)).toUInt8] ++ beN (8 * UInt64.ofNat n) j = l ++ beN (8 * UInt64.ofNat n) (j + 1) := by simp [beN]
    have hrec := fun v es h => rpad_loop2 (g := ⟨38, w0, may⟩) rfl n hn rd j (l ++ [((8 * UInt64.ofNat n) >>> UInt64.ofNat (8 * j)).toUInt8]) v es h (by omega) (by simp; omega)
    rw [hfin, u8s_app] at hrec
    generalize ((8 * UInt64.ofNat n) >>> UInt64.ofNat (8 * j)).toUInt8 = B at *
    rw [show ((8 * j : Nat) : Int) = 8 * (j : Int) by omega] at hpw
    generalize (2 : Nat) ^ (8 * j) = W at *
    generalize 8 * n / W = Q at *
    have hq : IntKind.i64.wrap ((8 * (n : Int)).tdiv (W : Int)) = (Q : Int) := by rw [hq0]; exact wrap_i64 (by omega) (by omega)
    have hr : (Q : Int).tmod 256 = ((B.toNat : Nat) : Int) := by rw [hb]; exact tmodN Q 256
    have hj1 : ((j + 1 : Nat) : Int) - 1 = (j : Int) := by omega
    rw [hj1]
    refine WpL.step ?_
    refine Wp.seq ?_
    refine Wp.seq ?_
    refine Wp.reg allGen ?_
    refine Tr.move rfl rfl trivial rfl ?_
    refine Tr.geq rfl rfl (by first | with_reducible assumption | exact decide_eq_true (by omega) | exact decide_eq_false (by omega) | exact beq_iff_eq.2 (by omega) | exact beq_eq_false_iff_ne.2 (by omega) | exact bne_iff_ne.2 (by omega) | rfl) rfl trivial rfl ?_
    refine Tr.nil ?_ (fun _ => rfl) (List.Perm.refl _)
    refine Wp.condT rfl ?_
    refine Wp.skip ?_
    refine Wp.seq ?_
    refine Wp.block ?_
    refine Wp.reg allGen ?_
    refine Tr.move rfl rfl trivial rfl ?_
    refine Tr.move rfl rfl trivial rfl ?_
    refine Tr.move rfl rfl trivial rfl ?_
    refine Tr.mul rfl rfl (by first | exact wrap_i64 (by omega) (by omega) | rfl) rfl trivial rfl ?_
    refine Tr.call rfl hpw (by repeat (first | exact Has.nil | refine Has.cons (by repeat (first | exact .head _ | refine .tail _ ?_ | refine List.mem_append_right _ ?_)) ?_)) rfl trivial rfl ?_
    refine Tr.quo rfl rfl (by omega) hq rfl trivial rfl ?_
    refine Tr.rem rfl rfl (by omega) hr rfl trivial rfl ?_
    refine Tr.conv tab rfl rfl rfl rfl (u8_wrap B) rfl trivial rfl ?_
    refine Tr.buildSlice tab rfl rfl rfl rfl rfl rfl (by simp [fillC, splice, vcells, Value.cells, zrep_one]; rfl) rfl trivial rfl (fun _ _ => ?_)
    refine Tr.appendF tab rfl hf (by repeat (first | exact Take.app _ _ | exact Take.self _ | exact Take.nil | apply Take.skip)) rfl (SrcOf.row (by repeat (first | exact .head _ | refine .tail _ ?_ | refine List.mem_append_right _ ?_)) (by first | exact At.all _ | with_reducible assumption | assumption) (by first | with_reducible rfl | with_reducible assumption | (simp; done) | (simp; omega) | rfl)) (by first | with_reducible assumption | rfl | (simp [Value.oneCell']; done)) rfl rfl rfl rfl (by simp) (by decide) (by simp; omega) rfl trivial rfl (fun v1 es1 hf1 => ?_)
    refine Tr.assign rfl rfl trivial rfl ?_
    refine Tr.nil ?_ (fun _ => rfl) (List.Perm.refl _)
    refine Wp.reg allGen ?_
    refine Tr.move rfl rfl trivial rfl ?_
    refine Tr.sub rfl rfl (by first | exact wrap_i64 (by omega) (by omega) | rfl) rfl trivial rfl ?_
    refine Tr.assign rfl rfl trivial rfl ?_
    refine Tr.nil ?_ (fun _ => rfl) (List.Perm.refl _)
    exact WpL.weak (hrec _ _ hf1) ⟨fun a ha => EH.sub (ESub.sub (by repeat (first | exact ESub.nil | refine ESub.cons rfl (by first | rfl | (simp; done) | (simp; omega)) ?_))) a ha, MH.sub (MSub.app (MSub.drop (MSub.refl _)) _)⟩

theorem f36_pad (a0 : Option Addr) (dd : List UInt8) (cp : Nat) (rd : List Ent) (hsrc : Src a0 dd cp rd) (hrd : ∀ e, e ∈ rd → e.rw = false) (hd : dd.length ≤ 100000000) :
    FnG Try.prog 36 [.slice a0 dd.length cp] rd (fun v es => Fresh (u8s (dd ++ padS dd.length)) v es) := by
  have hz : padZ dd.length < 64 ∧ (dd.length + 1 + 8 + padZ dd.length) % 64 = 0 := by unfold padZ; omega
  have hone : ∀ l : List UInt8, (u8s l).all Value.oneCell' = true := fun l => by simp [Value.oneCell']
  have hfin : dd ++ [(128 : UInt8)] ++ List.replicate (padZ dd.length) 0 ++ beN (8 * UInt64.ofNat dd.length) 8 = dd ++ padS dd.length := by simp [padS]
  refine fnG_of 38 rfl Try.func36 rfl (by kernel_rfl) rfl hrd fun w => ?_
  refine Wp.seq ?_
  refine Wp.reg allGen ?_
  refine Tr.assign rfl rfl trivial rfl ?_
  refine Tr.nil ?_ (fun _ => rfl) (List.Perm.refl _)
  refine Wp.seq ?_
  refine Wp.reg allGen ?_
  refine Tr.assign rfl rfl trivial rfl ?_
  refine Tr.nil ?_ (fun _ => rfl) (List.Perm.refl _)
  refine Wp.seq ?_
  refine Wp.reg allGen ?_
  refine Tr.move rfl rfl trivial rfl ?_
  refine Tr.move rfl rfl trivial rfl ?_
  refine Tr.appendF tab rfl Fresh.nil Take.nil rfl (hsrc.of (by intro e he; repeat (first | exact he | refine .tail _ ?_))) (hone dd) rfl rfl rfl rfl (by simp) (by decide) (by simp; omega) rfl trivial rfl (fun v0 es0 hf0 => ?_)
  rw [List.nil_append] at hf0
  refine Tr.assign rfl rfl trivial rfl ?_
  refine Tr.nil ?_ (fun _ => rfl) (List.Perm.refl _)
  refine Wp.seq ?_
  refine Wp.reg allGen ?_
  refine Tr.move rfl rfl trivial rfl ?_
  refine Tr.buildSlice tab rfl rfl rfl rfl rfl rfl (by simp [fillC, splice, vcells, Value.cells, zrep_one]; rfl) rfl trivial rfl (fun _ _ => ?_)
  refine Tr.appendF tab rfl hf0 (by repeat (first | exact Take.app _ _ | exact Take.self _ | exact Take.nil | apply Take.skip)) rfl (SrcOf.row (by repeat (first | exact .head _ | refine .tail _ ?_ | refine List.mem_append_right _ ?_)) (by first | exact At.all _ | with_reducible assumption | assumption) (by first | with_reducible rfl | with_reducible assumption | (simp; done) | (simp; omega) | rfl)) (by first | with_reducible assumption | rfl | (simp [Value.oneCell']; done)) rfl rfl rfl rfl (by simp) (by decide) (by simp; omega) rfl trivial rfl (fun v1 es1 hf1 => ?_)
  rw [show u8s dd ++ [Value.int .u8 128] = u8s (dd ++ [128]) by rw [u8s_app]; rfl] at hf1
  refine Tr.assign rfl rfl trivial rfl ?_
  refine Tr.nil ?_ (fun _ => rfl) (List.Perm.refl _)
  refine Wp.seq ?_
  refine Wp.block ?_
  refine Wp.loopQ (rpad_loop1 rfl (.slice a0 dd.length cp) rd (padZ dd.length) (dd ++ [128]) v1 es1 hf1 hz.1 (by simp; omega) (by simpa using hz.2)) (Wk.mk (by repeat (first | exact ESub.nil | refine ESub.cons rfl (by first | rfl | (simp; done) | (simp; omega)) ?_)) (MSub.app (MSub.drop (MSub.refl _)) _)) ?_
  rintro _ env1 mem1 ⟨rfl, v2, es2, hf2, hk1⟩
  refine Wp.weak ?_ hk1
  refine Wp.seq ?_
  refine Wp.reg allGen ?_
  refine Tr.move rfl rfl trivial rfl ?_
  refine Tr.lenS tab rfl rfl rfl rfl trivial rfl ?_
  refine Tr.mul rfl rfl (by first | exact wrap_i64 (by omega) (by omega) | rfl) rfl trivial rfl ?_
  refine Tr.assign rfl rfl trivial rfl ?_
  refine Tr.nil ?_ (fun _ => rfl) (List.Perm.refl _)
  refine Wp.seq ?_
  refine Wp.seq ?_
  refine Wp.reg allGen ?_
  refine Tr.assign rfl rfl trivial rfl ?_
  refine Tr.nil ?_ (fun _ => rfl) (List.Perm.refl _)
  refine Wp.block ?_
  refine Wp.loopQ (rpad_loop2 rfl dd.length (by omega) rd 8 _ v2 es2 hf2 (by omega) (by simp; omega)) (Wk.mk (by repeat (first | exact ESub.nil | refine ESub.cons rfl (by first | rfl | (simp; done) | (simp; omega)) ?_)) (MSub.refl _)) ?_
  rintro _ env2 mem2 ⟨rfl, v3, es3, hf3, hk2⟩
  refine Wp.weak ?_ hk2
  rw [hfin] at hf3
  refine Wp.seq ?_
  refine Wp.reg allGen ?_
  refine Tr.move rfl rfl trivial rfl ?_
  refine Tr.assign rfl rfl trivial rfl ?_
  refine Tr.nil ?_ (fun _ => rfl) (List.Perm.refl _)
  refine Wp.ret ?_
  exact ⟨.inr rfl, _, _, hf3, .r1 rfl (RvIs.tmp rfl), MSub.left _ _, hf3.rw⟩
end Go.Proofs.Ytffghaeaohabhaa.AW
