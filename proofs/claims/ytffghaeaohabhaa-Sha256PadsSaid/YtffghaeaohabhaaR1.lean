import Derived.Test.YtffghaeaohabhaaB
namespace Go.Proofs.Ytffghaeaohabhaa.AW
open Go
set_option maxRecDepth 100000

/-! ### the reference's words, as whole numbers below 2^32 -/
theorem tmodN (a b : Nat) : (a : Int).tmod (b : Int) = ((a % b : Nat) : Int) := rfl
theorem tdivN (a b : Nat) : (a : Int).tdiv (b : Int) = ((a / b : Nat) : Int) := rfl

def loop69 : Code := (Code.seq (Code.seq (Code.region 3 #[{ dst := (some 5), op := (Op.move (Operand.tmp 4)), type := 3, pos := "ref.go:116", after := #[], guard := none }, { dst := (some 6), op := (Op.move (Operand.tmp 0)), type := 3, pos := "ref.go:116", after := #[], guard := none }, { dst := (some 7), op := (Op.binOp BinOp.lss 3 (Operand.tmp 5) (Operand.tmp 6) 3), type := 4, pos := "ref.go:116", after := #[{ on := 0, ground := Ground.data }, { on := 1, ground := Ground.data }], guard := none }] false) (Code.cond (Operand.tmp 7) Code.skip (Code.exit 0))) (Code.seq (Code.block 1 (Code.region 5 #[{ dst := (some 10), op := (Op.move (Operand.tmp 3)), type := 3, pos := "ref.go:117", after := #[], guard := none }, { dst := (some 11), op := (Op.binOp BinOp.mul 3 (Operand.const (Value.int IntKind.i64 2)) (Operand.tmp 10) 3), type := 3, pos := "ref.go:117", after := #[{ on := 0, ground := Ground.data }], guard := none }, { dst := (some 3), op := (Op.assign (Operand.tmp 11)), type := 3, pos := "ref.go:117", after := #[{ on := 1, ground := Ground.data }, { on := 0, ground := Ground.phase }, { on := 1, ground := Ground.phase }], guard := none }] false)) (Code.region 4 #[{ dst := (some 8), op := (Op.move (Operand.tmp 4)), type := 3, pos := "ref.go:116", after := #[], guard := none }, { dst := (some 9), op := (Op.binOp BinOp.add 3 (Operand.tmp 8) (Operand.const (Value.int IntKind.i64 1)) 3), type := 3, pos := "ref.go:116", after := #[{ on := 0, ground := Ground.data }], guard := none }, { dst := (some 4), op := (Op.assign (Operand.tmp 9)), type := 3, pos := "ref.go:116", after := #[{ on := 1, ground := Ground.data }, { on := 0, ground := Ground.phase }, { on := 1, ground := Ground.phase }], guard := none }] false)))

theorem power_loop {g : Gh} (hg : g.n = 13) (n : Nat) (hn : n ≤ 60) : ∀ (r i : Nat), i + r = n →
    WpL Try.prog g loop69 (fun e env mem => e = .exit 0 ∧ Wk g env mem [(3, i64 ((2 ^ n : Nat) : Int))] []) [(0, i64 n), (3, i64 ((2 ^ i : Nat) : Int)), (4, i64 i)] [] := by
  obtain ⟨gn, w0, may⟩ := g
  obtain rfl : gn = 13 := hg
  intro r
  induction r with
  | zero =>
    intro i hi
    obtain rfl : i = n := by omega
    refine WpL.step ?_
    refine Wp.seq ?_
    refine Wp.seq ?_
    refine Wp.reg allGen ?_
    refine Tr.move rfl rfl trivial rfl ?_
    refine Tr.move rfl rfl trivial rfl ?_
    refine Tr.lss rfl rfl (by first | with_reducible assumption | exact decide_eq_true (by omega) | exact decide_eq_false (by omega) | exact beq_iff_eq.2 (by omega) | exact beq_eq_false_iff_ne.2 (by omega) | exact bne_iff_ne.2 (by omega) | rfl) rfl trivial rfl ?_
    refine Tr.nil ?_ (fun _ => rfl) (List.Perm.refl _)
    refine Wp.condF rfl ?_
    refine Wp.exit ?_
    exact ⟨rfl, Wk.mk (by repeat (first | exact ESub.nil | refine ESub.cons rfl (by first | rfl | (simp; done) | (simp; omega)) ?_)) (by repeat (first | exact MSub.nil | refine MSub.cons (by first | exact .here | exact (.there .here) | exact (.there (.there .here)) | exact (.there (.there (.there .here))) | exact (.there (.there (.there (.there .here)))) | exact (.there (.there (.there (.there (.there .here))))) | exact (.there (.there (.there (.there (.there (.there .here)))))) | exact (.there (.there (.there (.there (.there (.there (.there .here))))))) | exact (.there (.there (.there (.there (.there (.there (.there (.there .here)))))))) | exact (.there (.there (.there (.there (.there (.there (.there (.there (.there .here)))))))))) (by first | rfl | (simp; done)) ?_))⟩
  | succ r ih =>
    intro i hi
    have ih' := ih (i + 1) (by omega)
    have hp : (2 : Nat) ^ i ≤ 2 ^ 60 := Nat.pow_le_pow_right (by decide) (by omega)
    have hp2 : (((2 : Nat) ^ (i + 1) : Nat) : Int) = 2 * (((2 : Nat) ^ i : Nat) : Int) := by rw [Nat.pow_succ]; omega
    rw [hp2] at ih'
    generalize (2 : Nat) ^ i = W at *
    refine WpL.step ?_
    refine Wp.seq ?_
    refine Wp.seq ?_
    refine Wp.reg allGen ?_
    refine Tr.move rfl rfl trivial rfl ?_
    refine Tr.move rfl rfl trivial rfl ?_
    refine Tr.lss rfl rfl (by first | with_reducible assumption | exact decide_eq_true (by omega) | exact decide_eq_false (by omega) | exact beq_iff_eq.2 (by omega) | exact beq_eq_false_iff_ne.2 (by omega) | exact bne_iff_ne.2 (by omega) | rfl) rfl trivial rfl ?_
    refine Tr.nil ?_ (fun _ => rfl) (List.Perm.refl _)
    refine Wp.condT rfl ?_
    refine Wp.skip ?_
    refine Wp.seq ?_
    refine Wp.block ?_
    refine Wp.reg allGen ?_
    refine Tr.move rfl rfl trivial rfl ?_
    refine Tr.mul rfl rfl (by first | exact wrap_i64 (by omega) (by omega) | rfl) rfl trivial rfl ?_
    refine Tr.assign rfl rfl trivial rfl ?_
    refine Tr.nil ?_ (fun _ => rfl) (List.Perm.refl _)
    refine Wp.reg allGen ?_
    refine Tr.move rfl rfl trivial rfl ?_
    refine Tr.add rfl rfl (by first | exact wrap_i64 (by omega) (by omega) | rfl) rfl trivial rfl ?_
    refine Tr.assign rfl rfl trivial rfl ?_
    refine Tr.nil ?_ (fun _ => rfl) (List.Perm.refl _)
    exact WpL.weak ih' (Wk.mk (by repeat (first | exact ESub.nil | refine ESub.cons rfl (by first | rfl | (simp; done) | (simp; omega)) ?_)) (by repeat (first | exact MSub.nil | refine MSub.cons (by first | exact .here | exact (.there .here) | exact (.there (.there .here)) | exact (.there (.there (.there .here))) | exact (.there (.there (.there (.there .here)))) | exact (.there (.there (.there (.there (.there .here))))) | exact (.there (.there (.there (.there (.there (.there .here)))))) | exact (.there (.there (.there (.there (.there (.there (.there .here))))))) | exact (.there (.there (.there (.there (.there (.there (.there (.there .here)))))))) | exact (.there (.there (.there (.there (.there (.there (.there (.there (.there .here)))))))))) (by first | rfl | (simp; done)) ?_)))

theorem f69_power (n : Nat) (hn : n ≤ 60) : FnR Try.prog 69 [i64 n] [] (i64 ((2 ^ n : Nat) : Int)) := by
  refine fnR_of 13 rfl Try.func69 rfl (by kernel_rfl) rfl (by simp) fun w => ?_
  refine Wp.seq ?_
  refine Wp.reg allGen ?_
  refine Tr.assign rfl rfl trivial rfl ?_
  refine Tr.nil ?_ (fun _ => rfl) (List.Perm.refl _)
  refine Wp.seq ?_
  refine Wp.reg allGen ?_
  refine Tr.assign rfl rfl trivial rfl ?_
  refine Tr.nil ?_ (fun _ => rfl) (List.Perm.refl _)
  refine Wp.seq ?_
  refine Wp.seq ?_
  refine Wp.reg allGen ?_
  refine Tr.assign rfl rfl trivial rfl ?_
  refine Tr.nil ?_ (fun _ => rfl) (List.Perm.refl _)
  refine Wp.block ?_
  refine Wp.loopQ (power_loop rfl n hn n 0 (by omega)) (Wk.mk (by repeat (first | exact ESub.nil | refine ESub.cons rfl (by first | rfl | (simp; done) | (simp; omega)) ?_)) (by repeat (first | exact MSub.nil | refine MSub.cons (by first | exact .here | exact (.there .here) | exact (.there (.there .here)) | exact (.there (.there (.there .here))) | exact (.there (.there (.there (.there .here)))) | exact (.there (.there (.there (.there (.there .here))))) | exact (.there (.there (.there (.there (.there (.there .here)))))) | exact (.there (.there (.there (.there (.there (.there (.there .here))))))) | exact (.there (.there (.there (.there (.there (.there (.there (.there .here)))))))) | exact (.there (.there (.there (.there (.there (.there (.there (.there (.there .here)))))))))) (by first | rfl | (simp; done)) ?_))) ?_
  rintro _ env1 mem1 ⟨rfl, hk1⟩
  refine Wp.weak ?_ hk1
  refine Wp.seq ?_
  refine Wp.reg allGen ?_
  refine Tr.move rfl rfl trivial rfl ?_
  refine Tr.assign rfl rfl trivial rfl ?_
  refine Tr.nil ?_ (fun _ => rfl) (List.Perm.refl _)
  refine Wp.ret ?_
  refine ⟨by first | exact .inl rfl | exact .inr rfl, ?_⟩
  exact .r1 rfl (RvIs.tmp rfl)

theorem bit_step (z i : Nat) : z % 2 ^ (i + 1) = z % 2 ^ i + z / 2 ^ i % 2 * 2 ^ i := by
  rw [Nat.mod_pow_succ, Nat.mul_comm (2 ^ i)]

theorem xor_bit (x y i : Nat) : (x ^^^ y) / 2 ^ i % 2 = if x / 2 ^ i % 2 = y / 2 ^ i % 2 then 0 else 1 := by
  have h := Nat.testBit_xor x y i
  simp only [Nat.testBit_eq_decide_div_mod_eq] at h
  have a := Nat.mod_lt ((x ^^^ y) / 2 ^ i) (show 2 > 0 by decide)
  have b := Nat.mod_lt (x / 2 ^ i) (show 2 > 0 by decide)
  have c := Nat.mod_lt (y / 2 ^ i) (show 2 > 0 by decide)
  generalize (x ^^^ y) / 2 ^ i % 2 = A at *
  generalize x / 2 ^ i % 2 = B at *
  generalize y / 2 ^ i % 2 = C at *
  have hB : B = 0 ∨ B = 1 := by omega
  have hC : C = 0 ∨ C = 1 := by omega
  have hA : A = 0 ∨ A = 1 := by omega
  rcases hA with rfl | rfl <;> rcases hB with rfl | rfl <;> rcases hC with rfl | rfl <;> simp_all

theorem and_bit (x y i : Nat) : (x &&& y) / 2 ^ i % 2 = x / 2 ^ i % 2 * (y / 2 ^ i % 2) := by
  have h := Nat.testBit_and x y i
  simp only [Nat.testBit_eq_decide_div_mod_eq] at h
  have a := Nat.mod_lt ((x &&& y) / 2 ^ i) (show 2 > 0 by decide)
  have b := Nat.mod_lt (x / 2 ^ i) (show 2 > 0 by decide)
  have c := Nat.mod_lt (y / 2 ^ i) (show 2 > 0 by decide)
  generalize (x &&& y) / 2 ^ i % 2 = A at *
  generalize x / 2 ^ i % 2 = B at *
  generalize y / 2 ^ i % 2 = C at *
  have hB : B = 0 ∨ B = 1 := by omega
  have hC : C = 0 ∨ C = 1 := by omega
  have hA : A = 0 ∨ A = 1 := by omega
  rcases hA with rfl | rfl <;> rcases hB with rfl | rfl <;> rcases hC with rfl | rfl <;> simp_all

theorem div_step (x i : Nat) : x / 2 ^ (i + 1) = x / 2 ^ i / 2 := by rw [Nat.pow_succ, Nat.div_div_eq_div_mul]

def loop76 : Code := (Code.seq (Code.seq (Code.region 4 #[{ dst := (some 8), op := (Op.move (Operand.tmp 7)), type := 3, pos := "ref.go:130", after := #[], guard := none }, { dst := (some 9), op := (Op.binOp BinOp.lss 3 (Operand.tmp 8) (Operand.const (Value.int IntKind.i64 32)) 3), type := 4, pos := "ref.go:130", after := #[{ on := 0, ground := Ground.data }], guard := none }] false) (Code.cond (Operand.tmp 9) Code.skip (Code.exit 0))) (Code.seq (Code.block 1 (Code.seq (Code.seq (Code.region 6 #[{ dst := (some 12), op := (Op.move (Operand.tmp 0)), type := 3, pos := "ref.go:131", after := #[], guard := none }, { dst := (some 13), op := (Op.binOp BinOp.rem 3 (Operand.tmp 12) (Operand.const (Value.int IntKind.i64 2)) 3), type := 3, pos := "ref.go:131", after := #[{ on := 0, ground := Ground.data }], guard := none }, { dst := (some 14), op := (Op.move (Operand.tmp 1)), type := 3, pos := "ref.go:131", after := #[], guard := none }, { dst := (some 15), op := (Op.binOp BinOp.rem 3 (Operand.tmp 14) (Operand.const (Value.int IntKind.i64 2)) 3), type := 3, pos := "ref.go:131", after := #[{ on := 2, ground := Ground.data }], guard := none }, { dst := (some 16), op := (Op.binOp BinOp.neq 3 (Operand.tmp 13) (Operand.tmp 15) 3), type := 4, pos := "ref.go:131", after := #[{ on := 1, ground := Ground.data }, { on := 3, ground := Ground.data }], guard := none }] false) (Code.cond (Operand.tmp 16) (Code.region 7 #[{ dst := (some 17), op := (Op.move (Operand.tmp 5)), type := 3, pos := "ref.go:132", after := #[], guard := none }, { dst := (some 18), op := (Op.move (Operand.tmp 6)), type := 3, pos := "ref.go:132", after := #[], guard := none }, { dst := (some 19), op := (Op.binOp BinOp.add 3 (Operand.tmp 17) (Operand.tmp 18) 3), type := 3, pos := "ref.go:132", after := #[{ on := 0, ground := Ground.data }, { on := 1, ground := Ground.data }], guard := none }, { dst := (some 5), op := (Op.assign (Operand.tmp 19)), type := 3, pos := "ref.go:132", after := #[{ on := 2, ground := Ground.data }, { on := 0, ground := Ground.phase }, { on := 1, ground := Ground.phase }, { on := 2, ground := Ground.phase }], guard := none }] false) Code.skip)) (Code.seq (Code.region 8 #[{ dst := (some 20), op := (Op.move (Operand.tmp 0)), type := 3, pos := "ref.go:134", after := #[], guard := none }, { dst := (some 21), op := (Op.binOp BinOp.quo 3 (Operand.tmp 20) (Operand.const (Value.int IntKind.i64 2)) 3), type := 3, pos := "ref.go:134", after := #[{ on := 0, ground := Ground.data }], guard := none }, { dst := (some 0), op := (Op.assign (Operand.tmp 21)), type := 3, pos := "ref.go:134", after := #[{ on := 1, ground := Ground.data }, { on := 0, ground := Ground.phase }, { on := 1, ground := Ground.phase }], guard := none }] false) (Code.seq (Code.region 9 #[{ dst := (some 22), op := (Op.move (Operand.tmp 1)), type := 3, pos := "ref.go:135", after := #[], guard := none }, { dst := (some 23), op := (Op.binOp BinOp.quo 3 (Operand.tmp 22) (Operand.const (Value.int IntKind.i64 2)) 3), type := 3, pos := "ref.go:135", after := #[{ on := 0, ground := Ground.data }], guard := none }, { dst := (some 1), op := (Op.assign (Operand.tmp 23)), type := 3, pos := "ref.go:135", after := #[{ on := 1, ground := Ground.data }, { on := 0, ground := Ground.phase }, { on := 1, ground := Ground.phase }], guard := none }] false) (Code.region 10 #[{ dst := (some 24), op := (Op.move (Operand.tmp 6)), type := 3, pos := "ref.go:136", after := #[], guard := none }, { dst := (some 25), op := (Op.binOp BinOp.mul 3 (Operand.const (Value.int IntKind.i64 2)) (Operand.tmp 24) 3), type := 3, pos := "ref.go:136", after := #[{ on := 0, ground := Ground.data }], guard := none }, { dst := (some 6), op := (Op.assign (Operand.tmp 25)), type := 3, pos := "ref.go:136", after := #[{ on := 1, ground := Ground.data }, { on := 0, ground := Ground.phase }, { on := 1, ground := Ground.phase }], guard := none }] false))))) (Code.region 5 #[{ dst := (some 10), op := (Op.move (Operand.tmp 7)), type := 3, pos := "ref.go:130", after := #[], guard := none }, { dst := (some 11), op := (Op.binOp BinOp.add 3 (Operand.tmp 10) (Operand.const (Value.int IntKind.i64 1)) 3), type := 3, pos := "ref.go:130", after := #[{ on := 0, ground := Ground.data }], guard := none }, { dst := (some 7), op := (Op.assign (Operand.tmp 11)), type := 3, pos := "ref.go:130", after := #[{ on := 1, ground := Ground.data }, { on := 0, ground := Ground.phase }, { on := 1, ground := Ground.phase }], guard := none }] false)))

theorem xor_loop {g : Gh} (hg : g.n = 27) (x y : Nat) (hx : x < 4294967296) (hy : y < 4294967296) : ∀ (r i : Nat), i + r = 32 →
    WpL Try.prog g loop76 (fun e env mem => e = .exit 0 ∧ Wk g env mem [(5, i64 ((x ^^^ y : Nat) : Int))] [])
      [(0, i64 ((x / 2 ^ i : Nat) : Int)), (1, i64 ((y / 2 ^ i : Nat) : Int)), (5, i64 (((x ^^^ y) % 2 ^ i : Nat) : Int)), (6, i64 ((2 ^ i : Nat) : Int)), (7, i64 i)] [] := by
  obtain ⟨gn, w0, may⟩ := g
  obtain rfl : gn = 27 := hg
  intro r
  induction r with
  | zero =>
    intro i hi
    obtain rfl : i = 32 := by omega
    have hz : (x ^^^ y) % 2 ^ 32 = x ^^^ y := Nat.mod_eq_of_lt (Nat.xor_lt_two_pow hx hy)
    rw [hz]
    refine WpL.step ?_
    refine Wp.seq ?_
    refine Wp.seq ?_
    refine Wp.reg allGen ?_
    refine Tr.move rfl rfl trivial rfl ?_
    refine Tr.lss rfl rfl (by first | with_reducible assumption | exact decide_eq_true (by omega) | exact decide_eq_false (by omega) | exact beq_iff_eq.2 (by omega) | exact beq_eq_false_iff_ne.2 (by omega) | exact bne_iff_ne.2 (by omega) | rfl) rfl trivial rfl ?_
    refine Tr.nil ?_ (fun _ => rfl) (List.Perm.refl _)
    refine Wp.condF rfl ?_
    refine Wp.exit ?_
    exact ⟨rfl, Wk.mk (by repeat (first | exact ESub.nil | refine ESub.cons rfl (by first | rfl | (simp; done) | (simp; omega)) ?_)) (by repeat (first | exact MSub.nil | refine MSub.cons (by first | exact .here | exact (.there .here) | exact (.there (.there .here)) | exact (.there (.there (.there .here))) | exact (.there (.there (.there (.there .here)))) | exact (.there (.there (.there (.there (.there .here))))) | exact (.there (.there (.there (.there (.there (.there .here)))))) | exact (.there (.there (.there (.there (.there (.there (.there .here))))))) | exact (.there (.there (.there (.there (.there (.there (.there (.there .here)))))))) | exact (.there (.there (.there (.there (.there (.there (.there (.there (.there .here)))))))))) (by first | rfl | (simp; done)) ?_))⟩
  | succ r ih =>
    intro i hi
    have ih' := ih (i + 1) (by omega)
    have hp : (2 : Nat) ^ i ≤ 2 ^ 32 := Nat.pow_le_pow_right (by decide) (by omega)
    have hp2 : (((2 : Nat) ^ (i + 1) : Nat) : Int) = 2 * (((2 : Nat) ^ i : Nat) : Int) := by rw [Nat.pow_succ]; omega
    have ho : (x ^^^ y) % 2 ^ i < 2 ^ i := Nat.mod_lt _ (Nat.two_pow_pos i)
    have hA : x / 2 ^ i ≤ x := Nat.div_le_self _ _
    have hB : y / 2 ^ i ≤ y := Nat.div_le_self _ _
    rw [hp2, div_step, div_step, bit_step, xor_bit] at ih'
    generalize (x ^^^ y) % 2 ^ i = O at *
    generalize x / 2 ^ i = A at *
    generalize y / 2 ^ i = B at *
    generalize (2 : Nat) ^ i = W at *
    have a1 : (A : Int).tmod 2 = ((A % 2 : Nat) : Int) := tmodN A 2
    have b1 : (B : Int).tmod 2 = ((B % 2 : Nat) : Int) := tmodN B 2
    have a2 : IntKind.i64.wrap ((A : Int).tdiv 2) = ((A / 2 : Nat) : Int) := by rw [show (A : Int).tdiv 2 = ((A / 2 : Nat) : Int) from tdivN A 2]; exact wrap_i64 (by omega) (by omega)
    have b2 : IntKind.i64.wrap ((B : Int).tdiv 2) = ((B / 2 : Nat) : Int) := by rw [show (B : Int).tdiv 2 = ((B / 2 : Nat) : Int) from tdivN B 2]; exact wrap_i64 (by omega) (by omega)
    by_cases hb : A % 2 = B % 2
    · rw [if_pos hb, Nat.zero_mul, Nat.add_zero] at ih'
      refine WpL.step ?_
      refine Wp.seq ?_
      refine Wp.seq ?_
      refine Wp.reg allGen ?_
      refine Tr.move rfl rfl trivial rfl ?_
      refine Tr.lss rfl rfl (by first | with_reducible assumption | exact decide_eq_true (by omega) | exact decide_eq_false (by omega) | exact beq_iff_eq.2 (by omega) | exact beq_eq_false_iff_ne.2 (by omega) | exact bne_iff_ne.2 (by omega) | rfl) rfl trivial rfl ?_
      refine Tr.nil ?_ (fun _ => rfl) (List.Perm.refl _)
      refine Wp.condT rfl ?_
      refine Wp.skip ?_
      refine Wp.seq ?_
      refine Wp.block ?_
      refine Wp.seq ?_
      refine Wp.seq ?_
      refine Wp.reg allGen ?_
      refine Tr.move rfl rfl trivial rfl ?_
      refine Tr.rem rfl rfl (by omega) a1 rfl trivial rfl ?_
      refine Tr.move rfl rfl trivial rfl ?_
      refine Tr.rem rfl rfl (by omega) b1 rfl trivial rfl ?_
      refine Tr.neq (r := false) rfl rfl (by simp [hb]) rfl trivial rfl ?_
      refine Tr.nil ?_ (fun _ => rfl) (List.Perm.refl _)
      refine Wp.condF rfl ?_
      refine Wp.skip ?_
      refine Wp.seq ?_
      refine Wp.reg allGen ?_
      refine Tr.move rfl rfl trivial rfl ?_
      refine Tr.quo rfl rfl (by omega) a2 rfl trivial rfl ?_
      refine Tr.assign rfl rfl trivial rfl ?_
      refine Tr.nil ?_ (fun _ => rfl) (List.Perm.refl _)
      refine Wp.seq ?_
      refine Wp.reg allGen ?_
      refine Tr.move rfl rfl trivial rfl ?_
      refine Tr.quo rfl rfl (by omega) b2 rfl trivial rfl ?_
      refine Tr.assign rfl rfl trivial rfl ?_
      refine Tr.nil ?_ (fun _ => rfl) (List.Perm.refl _)
      refine Wp.reg allGen ?_
      refine Tr.move rfl rfl trivial rfl ?_
      refine Tr.mul rfl rfl (by first | exact wrap_i64 (by omega) (by omega) | rfl) rfl trivial rfl ?_
      refine Tr.assign rfl rfl trivial rfl ?_
      refine Tr.nil ?_ (fun _ => rfl) (List.Perm.refl _)
      refine Wp.reg allGen ?_
      refine Tr.move rfl rfl trivial rfl ?_
      refine Tr.add rfl rfl (by first | exact wrap_i64 (by omega) (by omega) | rfl) rfl trivial rfl ?_
      refine Tr.assign rfl rfl trivial rfl ?_
      refine Tr.nil ?_ (fun _ => rfl) (List.Perm.refl _)
      exact WpL.weak ih' (Wk.mk (by repeat (first | exact ESub.nil | refine ESub.cons rfl (by first | rfl | (simp; done) | (simp; omega)) ?_)) (by repeat (first | exact MSub.nil | refine MSub.cons (by first | exact .here | exact (.there .here) | exact (.there (.there .here)) | exact (.there (.there (.there .here))) | exact (.there (.there (.there (.there .here)))) | exact (.there (.there (.there (.there (.there .here))))) | exact (.there (.there (.there (.there (.there (.there .here)))))) | exact (.there (.there (.there (.there (.there (.there (.there .here))))))) | exact (.there (.there (.there (.there (.there (.there (.there (.there .here)))))))) | exact (.there (.there (.there (.there (.there (.there (.there (.there (.there .here)))))))))) (by first | rfl | (simp; done)) ?_)))
    · rw [if_neg hb, Nat.one_mul, Int.natCast_add] at ih'
      refine WpL.step ?_
      refine Wp.seq ?_
      refine Wp.seq ?_
      refine Wp.reg allGen ?_
      refine Tr.move rfl rfl trivial rfl ?_
      refine Tr.lss rfl rfl (by first | with_reducible assumption | exact decide_eq_true (by omega) | exact decide_eq_false (by omega) | exact beq_iff_eq.2 (by omega) | exact beq_eq_false_iff_ne.2 (by omega) | exact bne_iff_ne.2 (by omega) | rfl) rfl trivial rfl ?_
      refine Tr.nil ?_ (fun _ => rfl) (List.Perm.refl _)
      refine Wp.condT rfl ?_
      refine Wp.skip ?_
      refine Wp.seq ?_
      refine Wp.block ?_
      refine Wp.seq ?_
      refine Wp.seq ?_
      refine Wp.reg allGen ?_
      refine Tr.move rfl rfl trivial rfl ?_
      refine Tr.rem rfl rfl (by omega) a1 rfl trivial rfl ?_
      refine Tr.move rfl rfl trivial rfl ?_
      refine Tr.rem rfl rfl (by omega) b1 rfl trivial rfl ?_
      refine Tr.neq (r := true) rfl rfl (bne_iff_ne.2 (by omega)) rfl trivial rfl ?_
      refine Tr.nil ?_ (fun _ => rfl) (List.Perm.refl _)
      refine Wp.condT rfl ?_
      refine Wp.reg allGen ?_
      refine Tr.move rfl rfl trivial rfl ?_
      refine Tr.move rfl rfl trivial rfl ?_
      refine Tr.add rfl rfl (by first | exact wrap_i64 (by omega) (by omega) | rfl) rfl trivial rfl ?_
      refine Tr.assign rfl rfl trivial rfl ?_
      refine Tr.nil ?_ (fun _ => rfl) (List.Perm.refl _)
      refine Wp.seq ?_
      refine Wp.reg allGen ?_
      refine Tr.move rfl rfl trivial rfl ?_
      refine Tr.quo rfl rfl (by omega) a2 rfl trivial rfl ?_
      refine Tr.assign rfl rfl trivial rfl ?_
      refine Tr.nil ?_ (fun _ => rfl) (List.Perm.refl _)
      refine Wp.seq ?_
      refine Wp.reg allGen ?_
      refine Tr.move rfl rfl trivial rfl ?_
      refine Tr.quo rfl rfl (by omega) b2 rfl trivial rfl ?_
      refine Tr.assign rfl rfl trivial rfl ?_
      refine Tr.nil ?_ (fun _ => rfl) (List.Perm.refl _)
      refine Wp.reg allGen ?_
      refine Tr.move rfl rfl trivial rfl ?_
      refine Tr.mul rfl rfl (by first | exact wrap_i64 (by omega) (by omega) | rfl) rfl trivial rfl ?_
      refine Tr.assign rfl rfl trivial rfl ?_
      refine Tr.nil ?_ (fun _ => rfl) (List.Perm.refl _)
      refine Wp.reg allGen ?_
      refine Tr.move rfl rfl trivial rfl ?_
      refine Tr.add rfl rfl (by first | exact wrap_i64 (by omega) (by omega) | rfl) rfl trivial rfl ?_
      refine Tr.assign rfl rfl trivial rfl ?_
      refine Tr.nil ?_ (fun _ => rfl) (List.Perm.refl _)
      exact WpL.weak ih' (Wk.mk (by repeat (first | exact ESub.nil | refine ESub.cons rfl (by first | rfl | (simp; done) | (simp; omega)) ?_)) (by repeat (first | exact MSub.nil | refine MSub.cons (by first | exact .here | exact (.there .here) | exact (.there (.there .here)) | exact (.there (.there (.there .here))) | exact (.there (.there (.there (.there .here)))) | exact (.there (.there (.there (.there (.there .here))))) | exact (.there (.there (.there (.there (.there (.there .here)))))) | exact (.there (.there (.there (.there (.there (.there (.there .here))))))) | exact (.there (.there (.there (.there (.there (.there (.there (.there .here)))))))) | exact (.there (.there (.there (.there (.there (.there (.there (.there (.there .here)))))))))) (by first | rfl | (simp; done)) ?_)))

abbrev w32 (x : UInt32) : Value := i64 (x.toNat : Int)

theorem f76_xor (x y : UInt32) : FnR Try.prog 76 [w32 x, w32 y] [] (w32 (x ^^^ y)) := by
  have hx := x.toNat_lt; have hy := y.toNat_lt
  have h := fun {g : Gh} (hg : g.n = 27) => xor_loop hg x.toNat y.toNat hx hy 32 0 rfl
  simp only [Nat.pow_zero, Nat.div_one, Nat.mod_one] at h
  have e : ((x ^^^ y).toNat : Int) = ((x.toNat ^^^ y.toNat : Nat) : Int) := by rw [UInt32.toNat_xor]
  show FnR _ _ _ _ (i64 _)
  rw [e]
  refine fnR_of 27 rfl Try.func76 rfl (by kernel_rfl) rfl (by simp) fun w => ?_
  refine Wp.seq ?_
  refine Wp.reg allGen ?_
  refine Tr.assign rfl rfl trivial rfl ?_
  refine Tr.nil ?_ (fun _ => rfl) (List.Perm.refl _)
  refine Wp.seq ?_
  refine Wp.reg allGen ?_
  refine Tr.assign rfl rfl trivial rfl ?_
  refine Tr.nil ?_ (fun _ => rfl) (List.Perm.refl _)
  refine Wp.seq ?_
  refine Wp.reg allGen ?_
  refine Tr.assign rfl rfl trivial rfl ?_
  refine Tr.nil ?_ (fun _ => rfl) (List.Perm.refl _)
  refine Wp.seq ?_
  refine Wp.seq ?_
  refine Wp.reg allGen ?_
  refine Tr.assign rfl rfl trivial rfl ?_
  refine Tr.nil ?_ (fun _ => rfl) (List.Perm.refl _)
  refine Wp.block ?_
  refine Wp.loopQ (h rfl) (Wk.mk (by repeat (first | exact ESub.nil | refine ESub.cons rfl (by first | rfl | (simp; done) | (simp; omega)) ?_)) (by repeat (first | exact MSub.nil | refine MSub.cons (by first | exact .here | exact (.there .here) | exact (.there (.there .here)) | exact (.there (.there (.there .here))) | exact (.there (.there (.there (.there .here)))) | exact (.there (.there (.there (.there (.there .here))))) | exact (.there (.there (.there (.there (.there (.there .here)))))) | exact (.there (.there (.there (.there (.there (.there (.there .here))))))) | exact (.there (.there (.there (.there (.there (.there (.there (.there .here)))))))) | exact (.there (.there (.there (.there (.there (.there (.there (.there (.there .here)))))))))) (by first | rfl | (simp; done)) ?_))) ?_
  rintro _ env1 mem1 ⟨rfl, hk1⟩
  refine Wp.weak ?_ hk1
  refine Wp.seq ?_
  refine Wp.reg allGen ?_
  refine Tr.move rfl rfl trivial rfl ?_
  refine Tr.assign rfl rfl trivial rfl ?_
  refine Tr.nil ?_ (fun _ => rfl) (List.Perm.refl _)
  refine Wp.ret ?_
  refine ⟨by first | exact .inl rfl | exact .inr rfl, ?_⟩
  exact .r1 rfl (RvIs.tmp rfl)

def loop77 : Code := (Code.seq (Code.seq (Code.region 4 #[{ dst := (some 8), op := (Op.move (Operand.tmp 7)), type := 3, pos := "ref.go:144", after := #[], guard := none }, { dst := (some 9), op := (Op.binOp BinOp.lss 3 (Operand.tmp 8) (Operand.const (Value.int IntKind.i64 32)) 3), type := 4, pos := "ref.go:144", after := #[{ on := 0, ground := Ground.data }], guard := none }] false) (Code.cond (Operand.tmp 9) Code.skip (Code.exit 0))) (Code.seq (Code.block 1 (Code.seq (Code.region 6 #[{ dst := (some 12), op := (Op.move (Operand.tmp 5)), type := 3, pos := "ref.go:145", after := #[], guard := none }, { dst := (some 13), op := (Op.move (Operand.tmp 0)), type := 3, pos := "ref.go:145", after := #[], guard := none }, { dst := (some 14), op := (Op.binOp BinOp.rem 3 (Operand.tmp 13) (Operand.const (Value.int IntKind.i64 2)) 3), type := 3, pos := "ref.go:145", after := #[{ on := 1, ground := Ground.data }], guard := none }, { dst := (some 15), op := (Op.move (Operand.tmp 1)), type := 3, pos := "ref.go:145", after := #[], guard := none }, { dst := (some 16), op := (Op.binOp BinOp.rem 3 (Operand.tmp 15) (Operand.const (Value.int IntKind.i64 2)) 3), type := 3, pos := "ref.go:145", after := #[{ on := 3, ground := Ground.data }], guard := none }, { dst := (some 17), op := (Op.binOp BinOp.mul 3 (Operand.tmp 14) (Operand.tmp 16) 3), type := 3, pos := "ref.go:145", after := #[{ on := 2, ground := Ground.data }, { on := 4, ground := Ground.data }], guard := none }, { dst := (some 18), op := (Op.move (Operand.tmp 6)), type := 3, pos := "ref.go:145", after := #[], guard := none }, { dst := (some 19), op := (Op.binOp BinOp.mul 3 (Operand.tmp 17) (Operand.tmp 18) 3), type := 3, pos := "ref.go:145", after := #[{ on := 5, ground := Ground.data }, { on := 6, ground := Ground.data }], guard := none }, { dst := (some 20), op := (Op.binOp BinOp.add 3 (Operand.tmp 12) (Operand.tmp 19) 3), type := 3, pos := "ref.go:145", after := #[{ on := 0, ground := Ground.data }, { on := 7, ground := Ground.data }], guard := none }, { dst := (some 5), op := (Op.assign (Operand.tmp 20)), type := 3, pos := "ref.go:145", after := #[{ on := 8, ground := Ground.data }, { on := 0, ground := Ground.phase }, { on := 1, ground := Ground.phase }, { on := 2, ground := Ground.phase }, { on := 3, ground := Ground.phase }, { on := 4, ground := Ground.phase }, { on := 5, ground := Ground.phase }, { on := 6, ground := Ground.phase }, { on := 7, ground := Ground.phase }, { on := 8, ground := Ground.phase }], guard := none }] false) (Code.seq (Code.region 7 #[{ dst := (some 21), op := (Op.move (Operand.tmp 0)), type := 3, pos := "ref.go:146", after := #[], guard := none }, { dst := (some 22), op := (Op.binOp BinOp.quo 3 (Operand.tmp 21) (Operand.const (Value.int IntKind.i64 2)) 3), type := 3, pos := "ref.go:146", after := #[{ on := 0, ground := Ground.data }], guard := none }, { dst := (some 0), op := (Op.assign (Operand.tmp 22)), type := 3, pos := "ref.go:146", after := #[{ on := 1, ground := Ground.data }, { on := 0, ground := Ground.phase }, { on := 1, ground := Ground.phase }], guard := none }] false) (Code.seq (Code.region 8 #[{ dst := (some 23), op := (Op.move (Operand.tmp 1)), type := 3, pos := "ref.go:147", after := #[], guard := none }, { dst := (some 24), op := (Op.binOp BinOp.quo 3 (Operand.tmp 23) (Operand.const (Value.int IntKind.i64 2)) 3), type := 3, pos := "ref.go:147", after := #[{ on := 0, ground := Ground.data }], guard := none }, { dst := (some 1), op := (Op.assign (Operand.tmp 24)), type := 3, pos := "ref.go:147", after := #[{ on := 1, ground := Ground.data }, { on := 0, ground := Ground.phase }, { on := 1, ground := Ground.phase }], guard := none }] false) (Code.region 9 #[{ dst := (some 25), op := (Op.move (Operand.tmp 6)), type := 3, pos := "ref.go:148", after := #[], guard := none }, { dst := (some 26), op := (Op.binOp BinOp.mul 3 (Operand.const (Value.int IntKind.i64 2)) (Operand.tmp 25) 3), type := 3, pos := "ref.go:148", after := #[{ on := 0, ground := Ground.data }], guard := none }, { dst := (some 6), op := (Op.assign (Operand.tmp 26)), type := 3, pos := "ref.go:148", after := #[{ on := 1, ground := Ground.data }, { on := 0, ground := Ground.phase }, { on := 1, ground := Ground.phase }], guard := none }] false))))) (Code.region 5 #[{ dst := (some 10), op := (Op.move (Operand.tmp 7)), type := 3, pos := "ref.go:144", after := #[], guard := none }, { dst := (some 11), op := (Op.binOp BinOp.add 3 (Operand.tmp 10) (Operand.const (Value.int IntKind.i64 1)) 3), type := 3, pos := "ref.go:144", after := #[{ on := 0, ground := Ground.data }], guard := none }, { dst := (some 7), op := (Op.assign (Operand.tmp 11)), type := 3, pos := "ref.go:144", after := #[{ on := 1, ground := Ground.data }, { on := 0, ground := Ground.phase }, { on := 1, ground := Ground.phase }], guard := none }] false)))

theorem and_loop {g : Gh} (hg : g.n = 28) (x y : Nat) (hx : x < 4294967296) (hy : y < 4294967296) : ∀ (r i : Nat), i + r = 32 →
    WpL Try.prog g loop77 (fun e env mem => e = .exit 0 ∧ Wk g env mem [(5, i64 ((x &&& y : Nat) : Int))] [])
      [(0, i64 ((x / 2 ^ i : Nat) : Int)), (1, i64 ((y / 2 ^ i : Nat) : Int)), (5, i64 (((x &&& y) % 2 ^ i : Nat) : Int)), (6, i64 ((2 ^ i : Nat) : Int)), (7, i64 i)] [] := by
  obtain ⟨gn, w0, may⟩ := g
  obtain rfl : gn = 28 := hg
  intro r
  induction r with
  | zero =>
    intro i hi
    obtain rfl : i = 32 := by omega
    have hz : (x &&& y) % 2 ^ 32 = x &&& y := Nat.mod_eq_of_lt (Nat.and_lt_two_pow x hy)
    rw [hz]
    refine WpL.step ?_
    refine Wp.seq ?_
    refine Wp.seq ?_
    refine Wp.reg allGen ?_
    refine Tr.move rfl rfl trivial rfl ?_
    refine Tr.lss rfl rfl (by first | with_reducible assumption | exact decide_eq_true (by omega) | exact decide_eq_false (by omega) | exact beq_iff_eq.2 (by omega) | exact beq_eq_false_iff_ne.2 (by omega) | exact bne_iff_ne.2 (by omega) | rfl) rfl trivial rfl ?_
    refine Tr.nil ?_ (fun _ => rfl) (List.Perm.refl _)
    refine Wp.condF rfl ?_
    refine Wp.exit ?_
    exact ⟨rfl, Wk.mk (by repeat (first | exact ESub.nil | refine ESub.cons rfl (by first | rfl | (simp; done) | (simp; omega)) ?_)) (by repeat (first | exact MSub.nil | refine MSub.cons (by first | exact .here | exact (.there .here) | exact (.there (.there .here)) | exact (.there (.there (.there .here))) | exact (.there (.there (.there (.there .here)))) | exact (.there (.there (.there (.there (.there .here))))) | exact (.there (.there (.there (.there (.there (.there .here)))))) | exact (.there (.there (.there (.there (.there (.there (.there .here))))))) | exact (.there (.there (.there (.there (.there (.there (.there (.there .here)))))))) | exact (.there (.there (.there (.there (.there (.there (.there (.there (.there .here)))))))))) (by first | rfl | (simp; done)) ?_))⟩
  | succ r ih =>
    intro i hi
    have ih' := ih (i + 1) (by omega)
    have hp : (2 : Nat) ^ i ≤ 2 ^ 32 := Nat.pow_le_pow_right (by decide) (by omega)
    have hp2 : (((2 : Nat) ^ (i + 1) : Nat) : Int) = 2 * (((2 : Nat) ^ i : Nat) : Int) := by rw [Nat.pow_succ]; omega
    have ho : (x &&& y) % 2 ^ i < 2 ^ i := Nat.mod_lt _ (Nat.two_pow_pos i)
    have hA : x / 2 ^ i ≤ x := Nat.div_le_self _ _
    have hB : y / 2 ^ i ≤ y := Nat.div_le_self _ _
    rw [hp2, div_step, div_step, bit_step, and_bit] at ih'
    generalize (x &&& y) % 2 ^ i = O at *
    generalize x / 2 ^ i = A at *
    generalize y / 2 ^ i = B at *
    generalize (2 : Nat) ^ i = W at *
    have a1 : (A : Int).tmod 2 = ((A % 2 : Nat) : Int) := tmodN A 2
    have b1 : (B : Int).tmod 2 = ((B % 2 : Nat) : Int) := tmodN B 2
    have a2 : IntKind.i64.wrap ((A : Int).tdiv 2) = ((A / 2 : Nat) : Int) := by rw [show (A : Int).tdiv 2 = ((A / 2 : Nat) : Int) from tdivN A 2]; exact wrap_i64 (by omega) (by omega)
    have b2 : IntKind.i64.wrap ((B : Int).tdiv 2) = ((B / 2 : Nat) : Int) := by rw [show (B : Int).tdiv 2 = ((B / 2 : Nat) : Int) from tdivN B 2]; exact wrap_i64 (by omega) (by omega)
    rw [Int.natCast_add, Int.natCast_mul, Int.natCast_mul] at ih'
    have hz1 : A % 2 = 0 ∨ A % 2 = 1 := by omega
    have hz2 : B % 2 = 0 ∨ B % 2 = 1 := by omega
    have m1 : ((A % 2 : Nat) : Int) * ((B % 2 : Nat) : Int) ≤ 1 ∧ 0 ≤ ((A % 2 : Nat) : Int) * ((B % 2 : Nat) : Int) := by rcases hz1 with h | h <;> rcases hz2 with h' | h' <;> rw [h, h'] <;> decide
    have m2 : ((A % 2 : Nat) : Int) * ((B % 2 : Nat) : Int) * (W : Int) ≤ W ∧ 0 ≤ ((A % 2 : Nat) : Int) * ((B % 2 : Nat) : Int) * (W : Int) := by
      rcases hz1 with h | h <;> rcases hz2 with h' | h' <;> rw [h, h'] <;> simp
    generalize ((A % 2 : Nat) : Int) = A2 at *
    generalize ((B % 2 : Nat) : Int) = B2 at *
    generalize hM : A2 * B2 * (W : Int) = M at *
    have hM' : IntKind.i64.wrap (A2 * B2 * (W : Int)) = M := by rw [hM]; exact wrap_i64 (by omega) (by omega)
    refine WpL.step ?_
    refine Wp.seq ?_
    refine Wp.seq ?_
    refine Wp.reg allGen ?_
    refine Tr.move rfl rfl trivial rfl ?_
    refine Tr.lss rfl rfl (by first | with_reducible assumption | exact decide_eq_true (by omega) | exact decide_eq_false (by omega) | exact beq_iff_eq.2 (by omega) | exact beq_eq_false_iff_ne.2 (by omega) | exact bne_iff_ne.2 (by omega) | rfl) rfl trivial rfl ?_
    refine Tr.nil ?_ (fun _ => rfl) (List.Perm.refl _)
    refine Wp.condT rfl ?_
    refine Wp.skip ?_
    refine Wp.seq ?_
    refine Wp.block ?_
    refine Wp.seq ?_
    refine Wp.reg allGen ?_
    refine Tr.move rfl rfl trivial rfl ?_
    refine Tr.move rfl rfl trivial rfl ?_
    refine Tr.rem rfl rfl (by omega) a1 rfl trivial rfl ?_
    refine Tr.move rfl rfl trivial rfl ?_
    refine Tr.rem rfl rfl (by omega) b1 rfl trivial rfl ?_
    refine Tr.mul rfl rfl (by first | exact wrap_i64 (by omega) (by omega) | rfl) rfl trivial rfl ?_
    refine Tr.move rfl rfl trivial rfl ?_
    refine Tr.mul rfl rfl hM' rfl trivial rfl ?_
    refine Tr.add rfl rfl (by first | exact wrap_i64 (by omega) (by omega) | rfl) rfl trivial rfl ?_
    refine Tr.assign rfl rfl trivial rfl ?_
    refine Tr.nil ?_ (fun _ => rfl) (List.Perm.refl _)
    refine Wp.seq ?_
    refine Wp.reg allGen ?_
    refine Tr.move rfl rfl trivial rfl ?_
    refine Tr.quo rfl rfl (by omega) a2 rfl trivial rfl ?_
    refine Tr.assign rfl rfl trivial rfl ?_
    refine Tr.nil ?_ (fun _ => rfl) (List.Perm.refl _)
    refine Wp.seq ?_
    refine Wp.reg allGen ?_
    refine Tr.move rfl rfl trivial rfl ?_
    refine Tr.quo rfl rfl (by omega) b2 rfl trivial rfl ?_
    refine Tr.assign rfl rfl trivial rfl ?_
    refine Tr.nil ?_ (fun _ => rfl) (List.Perm.refl _)
    refine Wp.reg allGen ?_
    refine Tr.move rfl rfl trivial rfl ?_
    refine Tr.mul rfl rfl (by first | exact wrap_i64 (by omega) (by omega) | rfl) rfl trivial rfl ?_
    refine Tr.assign rfl rfl trivial rfl ?_
    refine Tr.nil ?_ (fun _ => rfl) (List.Perm.refl _)
    refine Wp.reg allGen ?_
    refine Tr.move rfl rfl trivial rfl ?_
    refine Tr.add rfl rfl (by first | exact wrap_i64 (by omega) (by omega) | rfl) rfl trivial rfl ?_
    refine Tr.assign rfl rfl trivial rfl ?_
    refine Tr.nil ?_ (fun _ => rfl) (List.Perm.refl _)
    exact WpL.weak ih' (Wk.mk (by repeat (first | exact ESub.nil | refine ESub.cons rfl (by first | rfl | (simp; done) | (simp; omega)) ?_)) (by repeat (first | exact MSub.nil | refine MSub.cons (by first | exact .here | exact (.there .here) | exact (.there (.there .here)) | exact (.there (.there (.there .here))) | exact (.there (.there (.there (.there .here)))) | exact (.there (.there (.there (.there (.there .here))))) | exact (.there (.there (.there (.there (.there (.there .here)))))) | exact (.there (.there (.there (.there (.there (.there (.there .here))))))) | exact (.there (.there (.there (.there (.there (.there (.there (.there .here)))))))) | exact (.there (.there (.there (.there (.there (.there (.there (.there (.there .here)))))))))) (by first | rfl | (simp; done)) ?_)))

theorem f77_and (x y : UInt32) : FnR Try.prog 77 [w32 x, w32 y] [] (w32 (x &&& y)) := by
  have hx := x.toNat_lt; have hy := y.toNat_lt
  have h := fun {g : Gh} (hg : g.n = 28) => and_loop hg x.toNat y.toNat hx hy 32 0 rfl
  simp only [Nat.pow_zero, Nat.div_one, Nat.mod_one] at h
  have e : ((x &&& y).toNat : Int) = ((x.toNat &&& y.toNat : Nat) : Int) := by rw [UInt32.toNat_and]
  show FnR _ _ _ _ (i64 _)
  rw [e]
  refine fnR_of 28 rfl Try.func77 rfl (by kernel_rfl) rfl (by simp) fun w => ?_
  refine Wp.seq ?_
  refine Wp.reg allGen ?_
  refine Tr.assign rfl rfl trivial rfl ?_
  refine Tr.nil ?_ (fun _ => rfl) (List.Perm.refl _)
  refine Wp.seq ?_
  refine Wp.reg allGen ?_
  refine Tr.assign rfl rfl trivial rfl ?_
  refine Tr.nil ?_ (fun _ => rfl) (List.Perm.refl _)
  refine Wp.seq ?_
  refine Wp.reg allGen ?_
  refine Tr.assign rfl rfl trivial rfl ?_
  refine Tr.nil ?_ (fun _ => rfl) (List.Perm.refl _)
  refine Wp.seq ?_
  refine Wp.seq ?_
  refine Wp.reg allGen ?_
  refine Tr.assign rfl rfl trivial rfl ?_
  refine Tr.nil ?_ (fun _ => rfl) (List.Perm.refl _)
  refine Wp.block ?_
  refine Wp.loopQ (h rfl) (Wk.mk (by repeat (first | exact ESub.nil | refine ESub.cons rfl (by first | rfl | (simp; done) | (simp; omega)) ?_)) (by repeat (first | exact MSub.nil | refine MSub.cons (by first | exact .here | exact (.there .here) | exact (.there (.there .here)) | exact (.there (.there (.there .here))) | exact (.there (.there (.there (.there .here)))) | exact (.there (.there (.there (.there (.there .here))))) | exact (.there (.there (.there (.there (.there (.there .here)))))) | exact (.there (.there (.there (.there (.there (.there (.there .here))))))) | exact (.there (.there (.there (.there (.there (.there (.there (.there .here)))))))) | exact (.there (.there (.there (.there (.there (.there (.there (.there (.there .here)))))))))) (by first | rfl | (simp; done)) ?_))) ?_
  rintro _ env1 mem1 ⟨rfl, hk1⟩
  refine Wp.weak ?_ hk1
  refine Wp.seq ?_
  refine Wp.reg allGen ?_
  refine Tr.move rfl rfl trivial rfl ?_
  refine Tr.assign rfl rfl trivial rfl ?_
  refine Tr.nil ?_ (fun _ => rfl) (List.Perm.refl _)
  refine Wp.ret ?_
  refine ⟨by first | exact .inl rfl | exact .inr rfl, ?_⟩
  exact .r1 rfl (RvIs.tmp rfl)

theorem f78_not (x : UInt32) : FnR Try.prog 78 [w32 x] [] (w32 (~~~ x)) := by
  have hx := x.toNat_lt
  have e : ((~~~ x).toNat : Int) = 4294967295 - (x.toNat : Int) := by rw [UInt32.toNat_not]; show ((4294967296 - 1 - x.toNat : Nat) : Int) = _; omega
  show FnR _ _ _ _ (i64 _)
  rw [e]
  refine fnR_of 5 rfl Try.func78 rfl (by kernel_rfl) rfl (by simp) fun w => ?_
  refine Wp.seq ?_
  refine Wp.reg allGen ?_
  refine Tr.assign rfl rfl trivial rfl ?_
  refine Tr.nil ?_ (fun _ => rfl) (List.Perm.refl _)
  refine Wp.seq ?_
  refine Wp.reg allGen ?_
  refine Tr.move rfl rfl trivial rfl ?_
  refine Tr.sub rfl rfl (by first | exact wrap_i64 (by omega) (by omega) | rfl) rfl trivial rfl ?_
  refine Tr.assign rfl rfl trivial rfl ?_
  refine Tr.nil ?_ (fun _ => rfl) (List.Perm.refl _)
  refine Wp.ret ?_
  refine ⟨by first | exact .inl rfl | exact .inr rfl, ?_⟩
  exact .r1 rfl (RvIs.tmp rfl)

theorem f119_shr (x : UInt32) (n : Nat) (hn : n < 32) : FnR Try.prog 119 [w32 x, i64 n] [] (w32 (x >>> UInt32.ofNat n)) := by
  have hx := x.toNat_lt
  have e : ((x >>> UInt32.ofNat n).toNat : Int) = ((x.toNat / 2 ^ n : Nat) : Int) := by
    rw [UInt32.toNat_shiftRight, UInt32.toNat_ofNat_of_lt' (by show n < 4294967296; omega), Nat.mod_eq_of_lt hn, Nat.shiftRight_eq_div_pow]
  have hq : IntKind.i64.wrap ((x.toNat : Int).tdiv ((2 ^ n : Nat) : Int)) = ((x.toNat / 2 ^ n : Nat) : Int) := by
    rw [tdivN]; have := Nat.div_le_self x.toNat (2 ^ n); exact wrap_i64 (by omega) (by omega)
  have hpos : (2 : Nat) ^ n ≠ 0 := Nat.ne_of_gt (Nat.two_pow_pos n)
  have hpw := f69_power n (by omega)
  show FnR _ _ _ _ (i64 _)
  rw [e]
  generalize (2 : Nat) ^ n = W at *
  refine fnR_of 9 rfl Try.func119 rfl (by kernel_rfl) rfl (by simp) fun w => ?_
  refine Wp.seq ?_
  refine Wp.reg allGen ?_
  refine Tr.assign rfl rfl trivial rfl ?_
  refine Tr.nil ?_ (fun _ => rfl) (List.Perm.refl _)
  refine Wp.seq ?_
  refine Wp.reg allGen ?_
  refine Tr.move rfl rfl trivial rfl ?_
  refine Tr.move rfl rfl trivial rfl ?_
  refine Tr.call rfl hpw (by repeat (first | exact Has.nil | refine Has.cons (by first | exact (.head _) | exact (.tail _ (.head _)) | exact (.tail _ (.tail _ (.head _))) | exact (.tail _ (.tail _ (.tail _ (.head _)))) | exact (.tail _ (.tail _ (.tail _ (.tail _ (.head _))))) | exact (.tail _ (.tail _ (.tail _ (.tail _ (.tail _ (.head _)))))) | exact (.tail _ (.tail _ (.tail _ (.tail _ (.tail _ (.tail _ (.head _))))))) | exact (.tail _ (.tail _ (.tail _ (.tail _ (.tail _ (.tail _ (.tail _ (.head _)))))))) | exact (.tail _ (.tail _ (.tail _ (.tail _ (.tail _ (.tail _ (.tail _ (.tail _ (.head _))))))))) | exact (.tail _ (.tail _ (.tail _ (.tail _ (.tail _ (.tail _ (.tail _ (.tail _ (.tail _ (.head _))))))))))) ?_)) rfl trivial rfl ?_
  refine Tr.quo rfl rfl (by omega) hq rfl trivial rfl ?_
  refine Tr.assign rfl rfl trivial rfl ?_
  refine Tr.nil ?_ (fun _ => rfl) (List.Perm.refl _)
  refine Wp.ret ?_
  refine ⟨by first | exact .inl rfl | exact .inr rfl, ?_⟩
  exact .r1 rfl (RvIs.tmp rfl)
end Go.Proofs.Ytffghaeaohabhaa.AW
