import Derived.Test.YtffghaeaohabhaaR12
namespace Go.Proofs.Ytffghaeaohabhaa.AW
open Go NT
set_option maxRecDepth 100000

theorem u8s_put (l : List UInt8) (j : Nat) (v : UInt8) : (u8s l).set j (u8 v) = u8s (l.set j v) := (List.map_set (f := u8)).symm
theorem mul_step {O : List UInt8} {j T m c x : Nat} (hj : j < O.length) (h : n8 O + 256 ^ j * c = T) (hx : x = dg (n8 O) j + m + c) :
    n8 (O.set j (UInt8.ofNat x)) + 256 ^ (j + 1) * (x / 256) = T + 256 ^ j * m := by
  have h1 := n8_set O j (UInt8.ofNat x) hj
  rw [ofNat_val, dg_val] at h1
  generalize dg (n8 O) j = o at *
  generalize n8 (O.set j (UInt8.ofNat x)) = n' at *
  generalize n8 O = n at *
  rw [Nat.pow_succ]
  generalize 256 ^ j = q at *
  have e : q * x = q * (x % 256) + q * (256 * (x / 256)) := by rw [← Nat.mul_add]; congr 1; omega
  have e2 : q * x = q * o + q * m + q * c := by rw [hx, Nat.mul_add, Nat.mul_add]
  rw [Nat.mul_assoc]
  rw [Nat.mul_comm o, Nat.mul_comm (x % 256)] at h1
  omega

theorem mod_step (B k : Nat) : B % 256 ^ (k + 1) = B % 256 ^ k + 256 ^ k * dg B k := Nat.mod_pow_succ ..

theorem row_step {U a B i k : Nat} : U + 256 ^ i * (a * (B % 256 ^ k)) + 256 ^ (i + k) * (a * dg B k) = U + 256 ^ i * (a * (B % 256 ^ (k + 1))) := by
  rw [mod_step, Nat.mul_add a, Nat.mul_add (256 ^ i), Nat.pow_add, Nat.add_assoc]
  congr 2
  rw [Nat.mul_assoc (256 ^ i)]
  congr 1
  rw [Nat.mul_left_comm]

/-- the last carry of a row is nought -/
theorem row_last {O : List UInt8} {i lb c A B T : Nat} (h : n8 O + 256 ^ (i + lb) * c = T) (hT : T = (A % 256 ^ (i + 1)) * B) (hB : B < 256 ^ lb) : (dg (n8 O) (i + lb) + 0 + c) / 256 = 0 := by
  have h1 : A % 256 ^ (i + 1) < 256 ^ (i + 1) := Nat.mod_lt _ (Nat.pow_pos (by decide))
  have h2 : T < 256 ^ (i + lb) * 256 := by
    rw [hT, show 256 ^ (i + lb) * 256 = 256 ^ (i + 1) * 256 ^ lb by rw [← Nat.pow_succ, ← Nat.pow_add]; congr 1; omega]
    rcases Nat.eq_zero_or_pos B with h0 | h0
    · rw [h0, Nat.mul_zero]; exact Nat.mul_pos (Nat.pow_pos (by decide)) (Nat.pow_pos (by decide))
    · exact Nat.mul_lt_mul'' h1 hB
  unfold dg
  generalize 256 ^ (i + lb) = q at *
  have hq : 0 < q := by
    rcases Nat.eq_zero_or_pos q with h0 | h0
    · rw [h0] at h2; omega
    · exact h0
  have h3 : n8 O / q + c < 256 := by
    have e : (n8 O + q * c) / q = n8 O / q + c := Nat.add_mul_div_left _ _ hq
    rw [← e, h]
    exact Nat.div_lt_of_lt_mul h2
  generalize n8 O / q = z at *
  clear h h1 h2 hT hB
  omega

theorem row_done {A B i : Nat} : (A % 256 ^ i) * B + 256 ^ i * (dg A i * B) = (A % 256 ^ (i + 1)) * B := by
  rw [mod_step, Nat.add_mul, Nat.mul_assoc]

/-! ### Mul -/
def loop153a : Code := (Code.seq (Code.seq (Code.region 3 #[{ dst := (some 17), op := (Op.move (Operand.tmp 6)), type := 3, pos := "ref.go:70", after := #[], guard := none }, { dst := (some 18), op := (Op.move (Operand.tmp 0)), type := 36, pos := "ref.go:70", after := #[], guard := none }, { dst := (some 19), op := (Op.call { callee := (Callee.builtin Builtin.len), args := #[(Operand.tmp 18)], argTypes := #[36] }), type := 3, pos := "ref.go:70", after := #[{ on := 1, ground := Ground.data }], guard := none }, { dst := (some 20), op := (Op.binOp BinOp.lss 3 (Operand.tmp 17) (Operand.tmp 19) 3), type := 4, pos := "ref.go:70", after := #[{ on := 0, ground := Ground.data }, { on := 2, ground := Ground.data }], guard := none }] false) (Code.cond (Operand.tmp 20) Code.skip (Code.exit 0))) (Code.seq (Code.block 1 (Code.seq (Code.region 5 #[{ dst := (some 7), op := (Op.assign (Operand.const (Value.int IntKind.i64 0))), type := 3, pos := "ref.go:71", after := #[], guard := none }] false) (Code.seq (Code.region 6 #[{ dst := (some 8), op := (Op.assign (Operand.const (Value.int IntKind.i64 0))), type := 3, pos := "ref.go:72", after := #[], guard := none }] false) (Code.block 2 (Code.loop (Code.seq (Code.seq (Code.region 7 #[{ dst := (some 23), op := (Op.move (Operand.tmp 8)), type := 3, pos := "ref.go:72", after := #[], guard := none }, { dst := (some 24), op := (Op.move (Operand.tmp 1)), type := 36, pos := "ref.go:72", after := #[], guard := none }, { dst := (some 25), op := (Op.call { callee := (Callee.builtin Builtin.len), args := #[(Operand.tmp 24)], argTypes := #[36] }), type := 3, pos := "ref.go:72", after := #[{ on := 1, ground := Ground.data }], guard := none }, { dst := (some 26), op := (Op.binOp BinOp.lss 3 (Operand.tmp 23) (Operand.tmp 25) 3), type := 4, pos := "ref.go:72", after := #[{ on := 0, ground := Ground.data }, { on := 2, ground := Ground.data }], guard := none }, { dst := (some 27), op := (Op.move (Operand.tmp 26)), type := 4, pos := "ref.go:72", after := #[{ on := 3, ground := Ground.data }], guard := none }, { dst := (some 28), op := (Op.move (Operand.tmp 7)), type := 3, pos := "ref.go:72", after := #[{ on := 4, ground := Ground.guard }], guard := (some (4, false)) }, { dst := (some 29), op := (Op.binOp BinOp.gtr 3 (Operand.tmp 28) (Operand.const (Value.int IntKind.i64 0)) 3), type := 4, pos := "ref.go:72", after := #[{ on := 5, ground := Ground.data }, { on := 4, ground := Ground.guard }], guard := (some (4, false)) }, { dst := (some 30), op := (Op.pick (Operand.tmp 27) (Operand.const (Value.bool true)) (Operand.tmp 29)), type := 4, pos := "ref.go:72", after := #[{ on := 4, ground := Ground.data }, { on := 6, ground := Ground.data }], guard := none }] false) (Code.cond (Operand.tmp 30) Code.skip (Code.exit 2))) (Code.seq (Code.block 3 (Code.seq (Code.region 9 #[{ dst := (some 33), op := (Op.move (Operand.tmp 5)), type := 36, pos := "ref.go:73", after := #[], guard := none }, { dst := (some 34), op := (Op.move (Operand.tmp 6)), type := 3, pos := "ref.go:73", after := #[], guard := none }, { dst := (some 35), op := (Op.move (Operand.tmp 8)), type := 3, pos := "ref.go:73", after := #[], guard := none }, { dst := (some 36), op := (Op.binOp BinOp.add 3 (Operand.tmp 34) (Operand.tmp 35) 3), type := 3, pos := "ref.go:73", after := #[{ on := 1, ground := Ground.data }, { on := 2, ground := Ground.data }], guard := none }, { dst := (some 37), op := (Op.indexAddr 36 (Operand.tmp 33) (Operand.tmp 36)), type := 0, pos := "ref.go:73", after := #[{ on := 0, ground := Ground.data }, { on := 3, ground := Ground.data }], guard := none }, { dst := (some 38), op := (Op.load 5 (Operand.tmp 37)), type := 5, pos := "ref.go:73", after := #[{ on := 4, ground := Ground.data }], guard := none }, { dst := (some 39), op := (Op.convert 5 3 (Operand.tmp 38)), type := 3, pos := "ref.go:73", after := #[{ on := 5, ground := Ground.data }], guard := none }, { dst := (some 40), op := (Op.move (Operand.tmp 0)), type := 36, pos := "ref.go:73", after := #[], guard := none }, { dst := (some 41), op := (Op.move (Operand.tmp 6)), type := 3, pos := "ref.go:73", after := #[], guard := none }, { dst := (some 42), op := (Op.indexAddr 36 (Operand.tmp 40) (Operand.tmp 41)), type := 0, pos := "ref.go:73", after := #[{ on := 7, ground := Ground.data }, { on := 8, ground := Ground.data }], guard := none }, { dst := (some 43), op := (Op.load 5 (Operand.tmp 42)), type := 5, pos := "ref.go:73", after := #[{ on := 9, ground := Ground.data }], guard := none }, { dst := (some 44), op := (Op.convert 5 3 (Operand.tmp 43)), type := 3, pos := "ref.go:73", after := #[{ on := 10, ground := Ground.data }], guard := none }, { dst := (some 45), op := (Op.move (Operand.tmp 1)), type := 36, pos := "ref.go:73", after := #[], guard := none }, { dst := (some 46), op := (Op.move (Operand.tmp 8)), type := 3, pos := "ref.go:73", after := #[], guard := none }, { dst := (some 47), op := (Op.call { callee := (Callee.value (Operand.func 151)), args := #[(Operand.tmp 45), (Operand.tmp 46)], argTypes := #[36, 3] }), type := 3, pos := "ref.go:73", after := #[{ on := 12, ground := Ground.data }, { on := 13, ground := Ground.data }], guard := none }, { dst := (some 48), op := (Op.binOp BinOp.mul 3 (Operand.tmp 44) (Operand.tmp 47) 3), type := 3, pos := "ref.go:73", after := #[{ on := 11, ground := Ground.data }, { on := 14, ground := Ground.data }], guard := none }, { dst := (some 49), op := (Op.binOp BinOp.add 3 (Operand.tmp 39) (Operand.tmp 48) 3), type := 3, pos := "ref.go:73", after := #[{ on := 6, ground := Ground.data }, { on := 15, ground := Ground.data }], guard := none }, { dst := (some 50), op := (Op.move (Operand.tmp 7)), type := 3, pos := "ref.go:73", after := #[], guard := none }, { dst := (some 51), op := (Op.binOp BinOp.add 3 (Operand.tmp 49) (Operand.tmp 50) 3), type := 3, pos := "ref.go:73", after := #[{ on := 16, ground := Ground.data }, { on := 17, ground := Ground.data }], guard := none }, { dst := (some 9), op := (Op.assign (Operand.tmp 51)), type := 3, pos := "ref.go:73", after := #[{ on := 18, ground := Ground.data }, { on := 14, ground := Ground.chain }, { on := 0, ground := Ground.phase }, { on := 1, ground := Ground.phase }, { on := 2, ground := Ground.phase }, { on := 3, ground := Ground.phase }, { on := 4, ground := Ground.phase }, { on := 5, ground := Ground.phase }, { on := 6, ground := Ground.phase }, { on := 7, ground := Ground.phase }, { on := 8, ground := Ground.phase }, { on := 9, ground := Ground.phase }, { on := 10, ground := Ground.phase }, { on := 11, ground := Ground.phase }, { on := 12, ground := Ground.phase }, { on := 13, ground := Ground.phase }, { on := 14, ground := Ground.phase }, { on := 15, ground := Ground.phase }, { on := 16, ground := Ground.phase }, { on := 17, ground := Ground.phase }, { on := 18, ground := Ground.phase }], guard := none }] true) (Code.seq (Code.region 10 #[{ dst := (some 52), op := (Op.move (Operand.tmp 5)), type := 36, pos := "ref.go:74", after := #[], guard := none }, { dst := (some 53), op := (Op.move (Operand.tmp 6)), type := 3, pos := "ref.go:74", after := #[], guard := none }, { dst := (some 54), op := (Op.move (Operand.tmp 8)), type := 3, pos := "ref.go:74", after := #[], guard := none }, { dst := (some 55), op := (Op.binOp BinOp.add 3 (Operand.tmp 53) (Operand.tmp 54) 3), type := 3, pos := "ref.go:74", after := #[{ on := 1, ground := Ground.data }, { on := 2, ground := Ground.data }], guard := none }, { dst := (some 56), op := (Op.move (Operand.tmp 9)), type := 3, pos := "ref.go:74", after := #[], guard := none }, { dst := (some 57), op := (Op.binOp BinOp.rem 3 (Operand.tmp 56) (Operand.const (Value.int IntKind.i64 256)) 3), type := 3, pos := "ref.go:74", after := #[{ on := 4, ground := Ground.data }], guard := none }, { dst := (some 58), op := (Op.convert 3 5 (Operand.tmp 57)), type := 5, pos := "ref.go:74", after := #[{ on := 5, ground := Ground.data }], guard := none }, { dst := (some 59), op := (Op.indexAddr 36 (Operand.tmp 52) (Operand.tmp 55)), type := 0, pos := "ref.go:74", after := #[{ on := 0, ground := Ground.data }, { on := 3, ground := Ground.data }, { on := 0, ground := Ground.phase }, { on := 1, ground := Ground.phase }, { on := 2, ground := Ground.phase }, { on := 3, ground := Ground.phase }, { on := 4, ground := Ground.phase }, { on := 5, ground := Ground.phase }, { on := 6, ground := Ground.phase }], guard := none }, { dst := none, op := (Op.store 5 (Operand.tmp 59) (Operand.tmp 58)), type := 0, pos := "ref.go:74", after := #[{ on := 7, ground := Ground.data }, { on := 6, ground := Ground.data }, { on := 0, ground := Ground.phase }, { on := 1, ground := Ground.phase }, { on := 2, ground := Ground.phase }, { on := 3, ground := Ground.phase }, { on := 4, ground := Ground.phase }, { on := 5, ground := Ground.phase }, { on := 6, ground := Ground.phase }], guard := none }] false) (Code.region 11 #[{ dst := (some 60), op := (Op.move (Operand.tmp 9)), type := 3, pos := "ref.go:75", after := #[], guard := none }, { dst := (some 61), op := (Op.binOp BinOp.quo 3 (Operand.tmp 60) (Operand.const (Value.int IntKind.i64 256)) 3), type := 3, pos := "ref.go:75", after := #[{ on := 0, ground := Ground.data }], guard := none }, { dst := (some 7), op := (Op.assign (Operand.tmp 61)), type := 3, pos := "ref.go:75", after := #[{ on := 1, ground := Ground.data }, { on := 0, ground := Ground.phase }, { on := 1, ground := Ground.phase }], guard := none }] false)))) (Code.region 8 #[{ dst := (some 31), op := (Op.move (Operand.tmp 8)), type := 3, pos := "ref.go:72", after := #[], guard := none }, { dst := (some 32), op := (Op.binOp BinOp.add 3 (Operand.tmp 31) (Operand.const (Value.int IntKind.i64 1)) 3), type := 3, pos := "ref.go:72", after := #[{ on := 0, ground := Ground.data }], guard := none }, { dst := (some 8), op := (Op.assign (Operand.tmp 32)), type := 3, pos := "ref.go:72", after := #[{ on := 1, ground := Ground.data }, { on := 0, ground := Ground.phase }, { on := 1, ground := Ground.phase }], guard := none }] false)))))))) (Code.region 4 #[{ dst := (some 21), op := (Op.move (Operand.tmp 6)), type := 3, pos := "ref.go:70", after := #[], guard := none }, { dst := (some 22), op := (Op.binOp BinOp.add 3 (Operand.tmp 21) (Operand.const (Value.int IntKind.i64 1)) 3), type := 3, pos := "ref.go:70", after := #[{ on := 0, ground := Ground.data }], guard := none }, { dst := (some 6), op := (Op.assign (Operand.tmp 22)), type := 3, pos := "ref.go:70", after := #[{ on := 1, ground := Ground.data }, { on := 0, ground := Ground.phase }, { on := 1, ground := Ground.phase }], guard := none }] false)))
def loop153b : Code := (Code.seq (Code.seq (Code.region 7 #[{ dst := (some 23), op := (Op.move (Operand.tmp 8)), type := 3, pos := "ref.go:72", after := #[], guard := none }, { dst := (some 24), op := (Op.move (Operand.tmp 1)), type := 36, pos := "ref.go:72", after := #[], guard := none }, { dst := (some 25), op := (Op.call { callee := (Callee.builtin Builtin.len), args := #[(Operand.tmp 24)], argTypes := #[36] }), type := 3, pos := "ref.go:72", after := #[{ on := 1, ground := Ground.data }], guard := none }, { dst := (some 26), op := (Op.binOp BinOp.lss 3 (Operand.tmp 23) (Operand.tmp 25) 3), type := 4, pos := "ref.go:72", after := #[{ on := 0, ground := Ground.data }, { on := 2, ground := Ground.data }], guard := none }, { dst := (some 27), op := (Op.move (Operand.tmp 26)), type := 4, pos := "ref.go:72", after := #[{ on := 3, ground := Ground.data }], guard := none }, { dst := (some 28), op := (Op.move (Operand.tmp 7)), type := 3, pos := "ref.go:72", after := #[{ on := 4, ground := Ground.guard }], guard := (some (4, false)) }, { dst := (some 29), op := (Op.binOp BinOp.gtr 3 (Operand.tmp 28) (Operand.const (Value.int IntKind.i64 0)) 3), type := 4, pos := "ref.go:72", after := #[{ on := 5, ground := Ground.data }, { on := 4, ground := Ground.guard }], guard := (some (4, false)) }, { dst := (some 30), op := (Op.pick (Operand.tmp 27) (Operand.const (Value.bool true)) (Operand.tmp 29)), type := 4, pos := "ref.go:72", after := #[{ on := 4, ground := Ground.data }, { on := 6, ground := Ground.data }], guard := none }] false) (Code.cond (Operand.tmp 30) Code.skip (Code.exit 2))) (Code.seq (Code.block 3 (Code.seq (Code.region 9 #[{ dst := (some 33), op := (Op.move (Operand.tmp 5)), type := 36, pos := "ref.go:73", after := #[], guard := none }, { dst := (some 34), op := (Op.move (Operand.tmp 6)), type := 3, pos := "ref.go:73", after := #[], guard := none }, { dst := (some 35), op := (Op.move (Operand.tmp 8)), type := 3, pos := "ref.go:73", after := #[], guard := none }, { dst := (some 36), op := (Op.binOp BinOp.add 3 (Operand.tmp 34) (Operand.tmp 35) 3), type := 3, pos := "ref.go:73", after := #[{ on := 1, ground := Ground.data }, { on := 2, ground := Ground.data }], guard := none }, { dst := (some 37), op := (Op.indexAddr 36 (Operand.tmp 33) (Operand.tmp 36)), type := 0, pos := "ref.go:73", after := #[{ on := 0, ground := Ground.data }, { on := 3, ground := Ground.data }], guard := none }, { dst := (some 38), op := (Op.load 5 (Operand.tmp 37)), type := 5, pos := "ref.go:73", after := #[{ on := 4, ground := Ground.data }], guard := none }, { dst := (some 39), op := (Op.convert 5 3 (Operand.tmp 38)), type := 3, pos := "ref.go:73", after := #[{ on := 5, ground := Ground.data }], guard := none }, { dst := (some 40), op := (Op.move (Operand.tmp 0)), type := 36, pos := "ref.go:73", after := #[], guard := none }, { dst := (some 41), op := (Op.move (Operand.tmp 6)), type := 3, pos := "ref.go:73", after := #[], guard := none }, { dst := (some 42), op := (Op.indexAddr 36 (Operand.tmp 40) (Operand.tmp 41)), type := 0, pos := "ref.go:73", after := #[{ on := 7, ground := Ground.data }, { on := 8, ground := Ground.data }], guard := none }, { dst := (some 43), op := (Op.load 5 (Operand.tmp 42)), type := 5, pos := "ref.go:73", after := #[{ on := 9, ground := Ground.data }], guard := none }, { dst := (some 44), op := (Op.convert 5 3 (Operand.tmp 43)), type := 3, pos := "ref.go:73", after := #[{ on := 10, ground := Ground.data }], guard := none }, { dst := (some 45), op := (Op.move (Operand.tmp 1)), type := 36, pos := "ref.go:73", after := #[], guard := none }, { dst := (some 46), op := (Op.move (Operand.tmp 8)), type := 3, pos := "ref.go:73", after := #[], guard := none }, { dst := (some 47), op := (Op.call { callee := (Callee.value (Operand.func 151)), args := #[(Operand.tmp 45), (Operand.tmp 46)], argTypes := #[36, 3] }), type := 3, pos := "ref.go:73", after := #[{ on := 12, ground := Ground.data }, { on := 13, ground := Ground.data }], guard := none }, { dst := (some 48), op := (Op.binOp BinOp.mul 3 (Operand.tmp 44) (Operand.tmp 47) 3), type := 3, pos := "ref.go:73", after := #[{ on := 11, ground := Ground.data }, { on := 14, ground := Ground.data }], guard := none }, { dst := (some 49), op := (Op.binOp BinOp.add 3 (Operand.tmp 39) (Operand.tmp 48) 3), type := 3, pos := "ref.go:73", after := #[{ on := 6, ground := Ground.data }, { on := 15, ground := Ground.data }], guard := none }, { dst := (some 50), op := (Op.move (Operand.tmp 7)), type := 3, pos := "ref.go:73", after := #[], guard := none }, { dst := (some 51), op := (Op.binOp BinOp.add 3 (Operand.tmp 49) (Operand.tmp 50) 3), type := 3, pos := "ref.go:73", after := #[{ on := 16, ground := Ground.data }, { on := 17, ground := Ground.data }], guard := none }, { dst := (some 9), op := (Op.assign (Operand.tmp 51)), type := 3, pos := "ref.go:73", after := #[{ on := 18, ground := Ground.data }, { on := 14, ground := Ground.chain }, { on := 0, ground := Ground.phase }, { on := 1, ground := Ground.phase }, { on := 2, ground := Ground.phase }, { on := 3, ground := Ground.phase }, { on := 4, ground := Ground.phase }, { on := 5, ground := Ground.phase }, { on := 6, ground := Ground.phase }, { on := 7, ground := Ground.phase }, { on := 8, ground := Ground.phase }, { on := 9, ground := Ground.phase }, { on := 10, ground := Ground.phase }, { on := 11, ground := Ground.phase }, { on := 12, ground := Ground.phase }, { on := 13, ground := Ground.phase }, { on := 14, ground := Ground.phase }, { on := 15, ground := Ground.phase }, { on := 16, ground := Ground.phase }, { on := 17, ground := Ground.phase }, { on := 18, ground := Ground.phase }], guard := none }] true) (Code.seq (Code.region 10 #[{ dst := (some 52), op := (Op.move (Operand.tmp 5)), type := 36, pos := "ref.go:74", after := #[], guard := none }, { dst := (some 53), op := (Op.move (Operand.tmp 6)), type := 3, pos := "ref.go:74", after := #[], guard := none }, { dst := (some 54), op := (Op.move (Operand.tmp 8)), type := 3, pos := "ref.go:74", after := #[], guard := none }, { dst := (some 55), op := (Op.binOp BinOp.add 3 (Operand.tmp 53) (Operand.tmp 54) 3), type := 3, pos := "ref.go:74", after := #[{ on := 1, ground := Ground.data }, { on := 2, ground := Ground.data }], guard := none }, { dst := (some 56), op := (Op.move (Operand.tmp 9)), type := 3, pos := "ref.go:74", after := #[], guard := none }, { dst := (some 57), op := (Op.binOp BinOp.rem 3 (Operand.tmp 56) (Operand.const (Value.int IntKind.i64 256)) 3), type := 3, pos := "ref.go:74", after := #[{ on := 4, ground := Ground.data }], guard := none }, { dst := (some 58), op := (Op.convert 3 5 (Operand.tmp 57)), type := 5, pos := "ref.go:74", after := #[{ on := 5, ground := Ground.data }], guard := none }, { dst := (some 59), op := (Op.indexAddr 36 (Operand.tmp 52) (Operand.tmp 55)), type := 0, pos := "ref.go:74", after := #[{ on := 0, ground := Ground.data }, { on := 3, ground := Ground.data }, { on := 0, ground := Ground.phase }, { on := 1, ground := Ground.phase }, { on := 2, ground := Ground.phase }, { on := 3, ground := Ground.phase }, { on := 4, ground := Ground.phase }, { on := 5, ground := Ground.phase }, { on := 6, ground := Ground.phase }], guard := none }, { dst := none, op := (Op.store 5 (Operand.tmp 59) (Operand.tmp 58)), type := 0, pos := "ref.go:74", after := #[{ on := 7, ground := Ground.data }, { on := 6, ground := Ground.data }, { on := 0, ground := Ground.phase }, { on := 1, ground := Ground.phase }, { on := 2, ground := Ground.phase }, { on := 3, ground := Ground.phase }, { on := 4, ground := Ground.phase }, { on := 5, ground := Ground.phase }, { on := 6, ground := Ground.phase }], guard := none }] false) (Code.region 11 #[{ dst := (some 60), op := (Op.move (Operand.tmp 9)), type := 3, pos := "ref.go:75", after := #[], guard := none }, { dst := (some 61), op := (Op.binOp BinOp.quo 3 (Operand.tmp 60) (Operand.const (Value.int IntKind.i64 256)) 3), type := 3, pos := "ref.go:75", after := #[{ on := 0, ground := Ground.data }], guard := none }, { dst := (some 7), op := (Op.assign (Operand.tmp 61)), type := 3, pos := "ref.go:75", after := #[{ on := 1, ground := Ground.data }, { on := 0, ground := Ground.phase }, { on := 1, ground := Ground.phase }], guard := none }] false)))) (Code.region 8 #[{ dst := (some 31), op := (Op.move (Operand.tmp 8)), type := 3, pos := "ref.go:72", after := #[], guard := none }, { dst := (some 32), op := (Op.binOp BinOp.add 3 (Operand.tmp 31) (Operand.const (Value.int IntKind.i64 1)) 3), type := 3, pos := "ref.go:72", after := #[{ on := 0, ground := Ground.data }], guard := none }, { dst := (some 8), op := (Op.assign (Operand.tmp 32)), type := 3, pos := "ref.go:72", after := #[{ on := 1, ground := Ground.data }, { on := 0, ground := Ground.phase }, { on := 1, ground := Ground.phase }], guard := none }] false)))

section
variable (a0 : Option Addr) (A : List UInt8) (ca : Nat) (b0 : Option Addr) (B : List UInt8) (cb : Nat) (rd : List Ent) (hra : Row a0 A ca rd) (hrb : Row b0 B cb rd) (hrd : ∀ e, e ∈ rd → e.rw = false) (hA : A.length ≤ 10000) (hB : B.length ≤ 10000)

include hra hrb hrd hA hB in
theorem rmul_in {g : Gh} (hg : g.n = 64) (bO : Nat) (i U N : Nat) (hN : N = A.length + B.length + 1) (hi : i < A.length) (hU : U = (n8 A % 256 ^ i) * n8 B) : ∀ (r k c : Nat) (O : List UInt8), k + r = B.length + 1 → O.length = N → c ≤ 255 → (k = B.length + 1 → c = 0) →
    n8 O + 256 ^ (i + k) * c = U + 256 ^ i * (dg (n8 A) i * (n8 B % 256 ^ k)) →
    WpL Try.prog g loop153b (fun e env mem => e = .exit 2 ∧ ∃ O, O.length = N ∧ n8 O = (n8 A % 256 ^ (i + 1)) * n8 B ∧ Wk g env mem [(0, .slice a0 A.length ca), (1, .slice b0 B.length cb), (5, .slice (some ⟨bO, 0, none⟩) N N), (6, i64 i)] (⟨bO, u8s O, true⟩ :: rd))
      [(0, .slice a0 A.length ca), (1, .slice b0 B.length cb), (5, .slice (some ⟨bO, 0, none⟩) N N), (6, i64 i), (7, i64 c), (8, i64 k)] (⟨bO, u8s O, true⟩ :: rd) := by
  obtain ⟨gn, w0, may⟩ := g
  obtain rfl : gn = 64 := hg
  have hlB := n8_lt' B
  have hend : ∀ k (O : List UInt8), B.length ≤ k → n8 O + 256 ^ (i + k) * 0 = U + 256 ^ i * (dg (n8 A) i * (n8 B % 256 ^ k)) → n8 O = (n8 A % 256 ^ (i + 1)) * n8 B := fun k O hk h => by
    rw [Nat.mod_eq_of_lt (Nat.lt_of_lt_of_le hlB (Nat.pow_le_pow_right (by decide) hk)), Nat.mul_zero, Nat.add_zero, hU, row_done] at h
    exact h
  obtain ⟨ba, oa, cA, rfl, hma, hcA, hcpa⟩ := hra.pos (by omega)
  have gA := row_get hcA hi
  have hgA : (A.getD i 0).toNat = dg (n8 A) i := dg_val A i
  have hdA := dg_lt (n8 A) i
  intro r
  induction r with
  | zero =>
    intro k c O hk hO hc hc0 hs
    obtain rfl : c = 0 := hc0 (by omega)
    have hex := hend k O (by omega) hs
    refine WpL.step ?_
    refine Wp.seq ?_
    refine Wp.seq ?_
    refine Wp.reg allGen ?_
    refine Tr.move rfl rfl trivial rfl ?_
    refine Tr.move rfl rfl trivial rfl ?_
    refine Tr.lenS tab rfl rfl rfl rfl trivial rfl ?_
    refine Tr.lss rfl rfl (by first | with_reducible assumption | exact decide_eq_true (by omega) | exact decide_eq_false (by omega) | exact beq_iff_eq.2 (by omega) | exact beq_eq_false_iff_ne.2 (by omega) | exact bne_iff_ne.2 (by omega) | rfl) rfl trivial rfl ?_
    refine Tr.move rfl rfl trivial rfl ?_
    first | refine Tr.skp rfl ⟨_, _, rfl, rfl, by first | exact .inl rfl | exact .inr rfl⟩ ?_ | (refine Tr.move rfl rfl ⟨_, rfl, rfl⟩ rfl ?_)
    first | refine Tr.skp rfl ⟨_, _, rfl, rfl, by first | exact .inl rfl | exact .inr rfl⟩ ?_ | (refine Tr.gtr rfl rfl (by first | with_reducible assumption | exact decide_eq_true (by omega) | exact decide_eq_false (by omega) | exact beq_iff_eq.2 (by omega) | exact beq_eq_false_iff_ne.2 (by omega) | exact bne_iff_ne.2 (by omega) | rfl) rfl ⟨_, rfl, rfl⟩ rfl ?_)
    first | refine Tr.pickT rfl rfl rfl trivial rfl ?_ | refine Tr.pickF rfl rfl rfl trivial rfl ?_
    refine Tr.nil ?_ (fun _ => rfl) (List.Perm.refl _)
    refine Wp.condF rfl ?_
    refine Wp.exit ?_
    exact ⟨rfl, O, hO, hex, ⟨fun a ha => EH.sub (ESub.sub (by repeat (first | exact ESub.nil | refine ESub.cons rfl (by first | rfl | (simp; done) | (simp; omega)) ?_))) a ha, fun w hw => hw⟩⟩
  | succ r ih =>
    intro k c O hk hO hc hc0 hs
    have hOl : (u8s O).length = N := by simp [hO]
    have gO := at_get u8 (At.all (u8s O)) 0 (j := i + k) (by omega) (k := (i : Int) + (k : Int)) (by omega)
    rw [Nat.zero_add] at gO
    have hgO : (O.getD (i + k) 0).toNat = dg (n8 O) (i + k) := dg_val O (i + k)
    have hidx : ((i : Int) + (k : Int)).toNat = i + k := by omega
    have hcB := f151_at b0 B cb rd hrb hrd (by omega) k (by omega)
    have hdB := dg_lt (n8 B) k
    have hdO := dg_lt (n8 O) (i + k)
    have hst := mul_step (m := dg (n8 A) i * dg (n8 B) k) (by omega) hs rfl
    rw [row_step] at hst
    have hih := ih (k + 1) ((dg (n8 O) (i + k) + dg (n8 A) i * dg (n8 B) k + c) / 256) (O.set (i + k) (UInt8.ofNat (dg (n8 O) (i + k) + dg (n8 A) i * dg (n8 B) k + c))) (by omega) (by simp [hO])
    have hlast : k = B.length → (dg (n8 O) (i + k) + dg (n8 A) i * dg (n8 B) k + c) / 256 = 0 := fun h => by
      subst h
      rw [dg_out (A := B) (Nat.le_refl _), Nat.mul_zero]
      refine row_last (A := n8 A) hs ?_ hlB
      rw [Nat.mod_eq_of_lt hlB, hU, row_done]
    have hhi := Nat.mul_le_mul (show dg (n8 A) i ≤ 255 by omega) (show dg (n8 B) k ≤ 255 by omega)
    have hprod : ((dg (n8 A) i : Nat) : Int) * ((dg (n8 B) k : Nat) : Int) = ((dg (n8 A) i * dg (n8 B) k : Nat) : Int) := (Int.natCast_mul _ _).symm
    have hend' := hend k O
    clear hend ih
    generalize hm : dg (n8 A) i * dg (n8 B) k = m at *
    have hgo := hih (by omega) (fun h => hlast (by omega)) hst
    clear hih
    rw [← u8s_put] at hgo
    generalize A.getD i 0 = da at *
    generalize O.getD (i + k) 0 = dO at *
    generalize dg (n8 A) i = x at *
    generalize dg (n8 B) k = y at *
    generalize dg (n8 O) (i + k) = o at *
    have hov := ofNat_val (o + m + c)
    have hrm : ((o + m + c : Nat) : Int).tmod 256 = (((UInt8.ofNat (o + m + c)).toNat : Nat) : Int) := by
      rw [hov, Int.tmod_eq_emod_of_nonneg (by omega)]; omega
    have hq : IntKind.i64.wrap (((o + m + c : Nat) : Int).tdiv 256) = (((o + m + c) / 256 : Nat) : Int) := by
      rw [show ((o + m + c : Nat) : Int).tdiv 256 = (((o + m + c) / 256 : Nat) : Int) by rw [Int.tdiv_eq_ediv_of_nonneg (by omega)]; omega]
      exact wrap_i64 (by omega) (by omega)
    have hdl := (UInt8.ofNat (o + m + c)).toNat_lt
    generalize UInt8.ofNat (o + m + c) = dgt at *
    rw [← hidx] at hgo
    have hmul : IntKind.i64.wrap ((da.toNat : Int) * (y : Int)) = (m : Int) := by rw [hgA, hprod]; exact wrap_i64 (by omega) (by omega)
    have hadd : IntKind.i64.wrap ((dO.toNat : Int) + (m : Int)) = ((o + m : Nat) : Int) := (wrap_i64 (by omega) (by omega)).trans (by omega)
    have hadd2 : IntKind.i64.wrap (((o + m : Nat) : Int) + (c : Int)) = ((o + m + c : Nat) : Int) := (wrap_i64 (by omega) (by omega)).trans (by omega)
    by_cases hkb : k < B.length
    · skip
      refine WpL.step ?_
      refine Wp.seq ?_
      refine Wp.seq ?_
      refine Wp.reg allGen ?_
      refine Tr.move rfl rfl trivial rfl ?_
      refine Tr.move rfl rfl trivial rfl ?_
      refine Tr.lenS tab rfl rfl rfl rfl trivial rfl ?_
      refine Tr.lss rfl rfl (by first | with_reducible assumption | exact decide_eq_true (by omega) | exact decide_eq_false (by omega) | exact beq_iff_eq.2 (by omega) | exact beq_eq_false_iff_ne.2 (by omega) | exact bne_iff_ne.2 (by omega) | rfl) rfl trivial rfl ?_
      refine Tr.move rfl rfl trivial rfl ?_
      first | refine Tr.skp rfl ⟨_, _, rfl, rfl, by first | exact .inl rfl | exact .inr rfl⟩ ?_ | (refine Tr.move rfl rfl ⟨_, rfl, rfl⟩ rfl ?_)
      first | refine Tr.skp rfl ⟨_, _, rfl, rfl, by first | exact .inl rfl | exact .inr rfl⟩ ?_ | (refine Tr.gtr rfl rfl (by first | with_reducible assumption | exact decide_eq_true (by omega) | exact decide_eq_false (by omega) | exact beq_iff_eq.2 (by omega) | exact beq_eq_false_iff_ne.2 (by omega) | exact bne_iff_ne.2 (by omega) | rfl) rfl ⟨_, rfl, rfl⟩ rfl ?_)
      first | refine Tr.pickT rfl rfl rfl trivial rfl ?_ | refine Tr.pickF rfl rfl rfl trivial rfl ?_
      refine Tr.nil ?_ (fun _ => rfl) (List.Perm.refl _)
      refine Wp.condT rfl ?_
      refine Wp.skip ?_
      refine Wp.seq ?_
      refine Wp.block ?_
      refine Wp.seq ?_
      refine Wp.regE kindOf mo (by kernel_rfl) ?_
      refine Tr.move rfl rfl trivial rfl ?_
      refine Tr.move rfl rfl trivial rfl ?_
      refine Tr.move rfl rfl trivial rfl ?_
      refine Tr.add rfl rfl (by first | exact wrap_i64 (by omega) (by omega) | rfl) rfl trivial rfl ?_
      first | refine Tr.indexAddrS01 tab rfl rfl rfl rfl rfl (by omega) (by omega) rfl trivial rfl ?_ | refine Tr.indexAddrS1 tab rfl rfl rfl rfl rfl (by omega) (by omega) rfl trivial rfl ?_
      refine Tr.loadS tab rfl rfl rfl (by repeat (first | exact .head _ | refine .tail _ ?_ | refine List.mem_append_right _ ?_)) gO rfl trivial rfl ?_
      refine Tr.conv tab rfl rfl rfl rfl (by first | exact conv_u8_i64 _ | exact wrap_i64 (by omega) (by omega) | rfl) rfl trivial rfl ?_
      refine Tr.move rfl rfl trivial rfl ?_
      refine Tr.move rfl rfl trivial rfl ?_
      first | refine Tr.indexAddrS01 tab rfl rfl rfl rfl rfl (by omega) (by omega) rfl trivial rfl ?_ | refine Tr.indexAddrS1 tab rfl rfl rfl rfl rfl (by omega) (by omega) rfl trivial rfl ?_
      refine Tr.loadS tab rfl rfl rfl (.tail _ hma) gA rfl trivial rfl ?_
      refine Tr.conv tab rfl rfl rfl rfl (by first | exact conv_u8_i64 _ | exact wrap_i64 (by omega) (by omega) | rfl) rfl trivial rfl ?_
      refine Tr.move rfl rfl trivial rfl ?_
      refine Tr.move rfl rfl trivial rfl ?_
      refine Tr.call rfl hcB (Has.sub fun e he => .tail _ he) rfl trivial rfl ?_
      refine Tr.mul rfl rfl hmul rfl trivial rfl ?_
      refine Tr.add rfl rfl hadd rfl trivial rfl ?_
      refine Tr.move rfl rfl trivial rfl ?_
      refine Tr.add rfl rfl hadd2 rfl trivial rfl ?_
      refine Tr.assign rfl rfl trivial rfl ?_
      refine Tr.nil ?_ (fun _ => rfl) (List.Perm.refl _)
      refine Wp.seq ?_
      refine Wp.reg allGen ?_
      refine Tr.move rfl rfl trivial rfl ?_
      refine Tr.move rfl rfl trivial rfl ?_
      refine Tr.move rfl rfl trivial rfl ?_
      refine Tr.add rfl rfl (by first | exact wrap_i64 (by omega) (by omega) | rfl) rfl trivial rfl ?_
      refine Tr.move rfl rfl trivial rfl ?_
      refine Tr.rem rfl rfl (by omega) hrm rfl trivial rfl ?_
      refine Tr.conv tab rfl rfl rfl rfl (by first | exact wrap_u8 (by omega) (by omega) | rfl) rfl trivial rfl ?_
      first | refine Tr.indexAddrS01 tab rfl rfl rfl rfl rfl (by omega) (by omega) rfl trivial rfl ?_ | refine Tr.indexAddrS1 tab rfl rfl rfl rfl rfl (by omega) (by omega) rfl trivial rfl ?_
      refine Tr.storeS tab rfl rfl rfl rfl (by repeat (first | exact .here | apply MU.there | apply MU.app)) (by omega) trivial rfl ?_
      refine Tr.nil ?_ (fun _ => rfl) (List.Perm.refl _)
      refine Wp.reg allGen ?_
      refine Tr.move rfl rfl trivial rfl ?_
      refine Tr.quo rfl rfl (by omega) hq rfl trivial rfl ?_
      refine Tr.assign rfl rfl trivial rfl ?_
      refine Tr.nil ?_ (fun _ => rfl) (List.Perm.refl _)
      refine Wp.reg allGen ?_
      refine Tr.move rfl rfl trivial rfl ?_
      refine Tr.add rfl rfl (by first | exact wrap_i64 (by omega) (by omega) | rfl) rfl trivial rfl ?_
      refine Tr.assign rfl rfl trivial rfl ?_
      refine Tr.nil ?_ (fun _ => rfl) (List.Perm.refl _)
      exact WpL.weak hgo ⟨fun a ha => EH.sub (ESub.sub (by repeat (first | exact ESub.nil | refine ESub.cons rfl (by first | rfl | (simp; done) | (simp; omega)) ?_))) a ha, fun w hw => hw⟩
    · by_cases hc1 : 0 < c
      · skip
        refine WpL.step ?_
        refine Wp.seq ?_
        refine Wp.seq ?_
        refine Wp.reg allGen ?_
        refine Tr.move rfl rfl trivial rfl ?_
        refine Tr.move rfl rfl trivial rfl ?_
        refine Tr.lenS tab rfl rfl rfl rfl trivial rfl ?_
        refine Tr.lss rfl rfl (by first | with_reducible assumption | exact decide_eq_true (by omega) | exact decide_eq_false (by omega) | exact beq_iff_eq.2 (by omega) | exact beq_eq_false_iff_ne.2 (by omega) | exact bne_iff_ne.2 (by omega) | rfl) rfl trivial rfl ?_
        refine Tr.move rfl rfl trivial rfl ?_
        first | refine Tr.skp rfl ⟨_, _, rfl, rfl, by first | exact .inl rfl | exact .inr rfl⟩ ?_ | (refine Tr.move rfl rfl ⟨_, rfl, rfl⟩ rfl ?_)
        first | refine Tr.skp rfl ⟨_, _, rfl, rfl, by first | exact .inl rfl | exact .inr rfl⟩ ?_ | (refine Tr.gtr rfl rfl (by first | with_reducible assumption | exact decide_eq_true (by omega) | exact decide_eq_false (by omega) | exact beq_iff_eq.2 (by omega) | exact beq_eq_false_iff_ne.2 (by omega) | exact bne_iff_ne.2 (by omega) | rfl) rfl ⟨_, rfl, rfl⟩ rfl ?_)
        first | refine Tr.pickT rfl rfl rfl trivial rfl ?_ | refine Tr.pickF rfl rfl rfl trivial rfl ?_
        refine Tr.nil ?_ (fun _ => rfl) (List.Perm.refl _)
        refine Wp.condT rfl ?_
        refine Wp.skip ?_
        refine Wp.seq ?_
        refine Wp.block ?_
        refine Wp.seq ?_
        refine Wp.regE kindOf mo (by kernel_rfl) ?_
        refine Tr.move rfl rfl trivial rfl ?_
        refine Tr.move rfl rfl trivial rfl ?_
        refine Tr.move rfl rfl trivial rfl ?_
        refine Tr.add rfl rfl (by first | exact wrap_i64 (by omega) (by omega) | rfl) rfl trivial rfl ?_
        first | refine Tr.indexAddrS01 tab rfl rfl rfl rfl rfl (by omega) (by omega) rfl trivial rfl ?_ | refine Tr.indexAddrS1 tab rfl rfl rfl rfl rfl (by omega) (by omega) rfl trivial rfl ?_
        refine Tr.loadS tab rfl rfl rfl (by repeat (first | exact .head _ | refine .tail _ ?_ | refine List.mem_append_right _ ?_)) gO rfl trivial rfl ?_
        refine Tr.conv tab rfl rfl rfl rfl (by first | exact conv_u8_i64 _ | exact wrap_i64 (by omega) (by omega) | rfl) rfl trivial rfl ?_
        refine Tr.move rfl rfl trivial rfl ?_
        refine Tr.move rfl rfl trivial rfl ?_
        first | refine Tr.indexAddrS01 tab rfl rfl rfl rfl rfl (by omega) (by omega) rfl trivial rfl ?_ | refine Tr.indexAddrS1 tab rfl rfl rfl rfl rfl (by omega) (by omega) rfl trivial rfl ?_
        refine Tr.loadS tab rfl rfl rfl (.tail _ hma) gA rfl trivial rfl ?_
        refine Tr.conv tab rfl rfl rfl rfl (by first | exact conv_u8_i64 _ | exact wrap_i64 (by omega) (by omega) | rfl) rfl trivial rfl ?_
        refine Tr.move rfl rfl trivial rfl ?_
        refine Tr.move rfl rfl trivial rfl ?_
        refine Tr.call rfl hcB (Has.sub fun e he => .tail _ he) rfl trivial rfl ?_
        refine Tr.mul rfl rfl hmul rfl trivial rfl ?_
        refine Tr.add rfl rfl hadd rfl trivial rfl ?_
        refine Tr.move rfl rfl trivial rfl ?_
        refine Tr.add rfl rfl hadd2 rfl trivial rfl ?_
        refine Tr.assign rfl rfl trivial rfl ?_
        refine Tr.nil ?_ (fun _ => rfl) (List.Perm.refl _)
        refine Wp.seq ?_
        refine Wp.reg allGen ?_
        refine Tr.move rfl rfl trivial rfl ?_
        refine Tr.move rfl rfl trivial rfl ?_
        refine Tr.move rfl rfl trivial rfl ?_
        refine Tr.add rfl rfl (by first | exact wrap_i64 (by omega) (by omega) | rfl) rfl trivial rfl ?_
        refine Tr.move rfl rfl trivial rfl ?_
        refine Tr.rem rfl rfl (by omega) hrm rfl trivial rfl ?_
        refine Tr.conv tab rfl rfl rfl rfl (by first | exact wrap_u8 (by omega) (by omega) | rfl) rfl trivial rfl ?_
        first | refine Tr.indexAddrS01 tab rfl rfl rfl rfl rfl (by omega) (by omega) rfl trivial rfl ?_ | refine Tr.indexAddrS1 tab rfl rfl rfl rfl rfl (by omega) (by omega) rfl trivial rfl ?_
        refine Tr.storeS tab rfl rfl rfl rfl (by repeat (first | exact .here | apply MU.there | apply MU.app)) (by omega) trivial rfl ?_
        refine Tr.nil ?_ (fun _ => rfl) (List.Perm.refl _)
        refine Wp.reg allGen ?_
        refine Tr.move rfl rfl trivial rfl ?_
        refine Tr.quo rfl rfl (by omega) hq rfl trivial rfl ?_
        refine Tr.assign rfl rfl trivial rfl ?_
        refine Tr.nil ?_ (fun _ => rfl) (List.Perm.refl _)
        refine Wp.reg allGen ?_
        refine Tr.move rfl rfl trivial rfl ?_
        refine Tr.add rfl rfl (by first | exact wrap_i64 (by omega) (by omega) | rfl) rfl trivial rfl ?_
        refine Tr.assign rfl rfl trivial rfl ?_
        refine Tr.nil ?_ (fun _ => rfl) (List.Perm.refl _)
        exact WpL.weak hgo ⟨fun a ha => EH.sub (ESub.sub (by repeat (first | exact ESub.nil | refine ESub.cons rfl (by first | rfl | (simp; done) | (simp; omega)) ?_))) a ha, fun w hw => hw⟩
      · obtain rfl : c = 0 := by omega
        have hex := hend' (by omega) hs
        refine WpL.step ?_
        refine Wp.seq ?_
        refine Wp.seq ?_
        refine Wp.reg allGen ?_
        refine Tr.move rfl rfl trivial rfl ?_
        refine Tr.move rfl rfl trivial rfl ?_
        refine Tr.lenS tab rfl rfl rfl rfl trivial rfl ?_
        refine Tr.lss rfl rfl (by first | with_reducible assumption | exact decide_eq_true (by omega) | exact decide_eq_false (by omega) | exact beq_iff_eq.2 (by omega) | exact beq_eq_false_iff_ne.2 (by omega) | exact bne_iff_ne.2 (by omega) | rfl) rfl trivial rfl ?_
        refine Tr.move rfl rfl trivial rfl ?_
        first | refine Tr.skp rfl ⟨_, _, rfl, rfl, by first | exact .inl rfl | exact .inr rfl⟩ ?_ | (refine Tr.move rfl rfl ⟨_, rfl, rfl⟩ rfl ?_)
        first | refine Tr.skp rfl ⟨_, _, rfl, rfl, by first | exact .inl rfl | exact .inr rfl⟩ ?_ | (refine Tr.gtr rfl rfl (by first | with_reducible assumption | exact decide_eq_true (by omega) | exact decide_eq_false (by omega) | exact beq_iff_eq.2 (by omega) | exact beq_eq_false_iff_ne.2 (by omega) | exact bne_iff_ne.2 (by omega) | rfl) rfl ⟨_, rfl, rfl⟩ rfl ?_)
        first | refine Tr.pickT rfl rfl rfl trivial rfl ?_ | refine Tr.pickF rfl rfl rfl trivial rfl ?_
        refine Tr.nil ?_ (fun _ => rfl) (List.Perm.refl _)
        refine Wp.condF rfl ?_
        refine Wp.exit ?_
        exact ⟨rfl, O, hO, hex, ⟨fun a ha => EH.sub (ESub.sub (by repeat (first | exact ESub.nil | refine ESub.cons rfl (by first | rfl | (simp; done) | (simp; omega)) ?_))) a ha, fun w hw => hw⟩⟩

include hra hrb hrd hA hB in
theorem rmul_out {g : Gh} (hg : g.n = 64) (bO : Nat) (N : Nat) (hN : N = A.length + B.length + 1) : ∀ (r i : Nat) (O : List UInt8), i + r = A.length → O.length = N → n8 O = (n8 A % 256 ^ i) * n8 B →
    WpL Try.prog g loop153a (fun e env mem => e = .exit 0 ∧ ∃ O, O.length = N ∧ n8 O = n8 A * n8 B ∧ Wk g env mem [(5, .slice (some ⟨bO, 0, none⟩) N N)] [⟨bO, u8s O, true⟩])
      [(0, .slice a0 A.length ca), (1, .slice b0 B.length cb), (5, .slice (some ⟨bO, 0, none⟩) N N), (6, i64 i)] (⟨bO, u8s O, true⟩ :: rd) := by
  obtain ⟨gn, w0, may⟩ := g
  obtain rfl : gn = 64 := hg
  intro r
  induction r with
  | zero =>
    intro i O hi hO hs
    rw [Nat.mod_eq_of_lt (Nat.lt_of_lt_of_le (n8_lt' A) (Nat.pow_le_pow_right (by decide) (by omega)))] at hs
    refine WpL.step ?_
    refine Wp.seq ?_
    refine Wp.seq ?_
    refine Wp.reg allGen ?_
    refine Tr.move rfl rfl trivial rfl ?_
    refine Tr.move rfl rfl trivial rfl ?_
    refine Tr.lenS tab rfl rfl rfl rfl trivial rfl ?_
    refine Tr.lss rfl rfl (by first | with_reducible assumption | exact decide_eq_true (by omega) | exact decide_eq_false (by omega) | exact beq_iff_eq.2 (by omega) | exact beq_eq_false_iff_ne.2 (by omega) | exact bne_iff_ne.2 (by omega) | rfl) rfl trivial rfl ?_
    refine Tr.nil ?_ (fun _ => rfl) (List.Perm.refl _)
    refine Wp.condF rfl ?_
    refine Wp.exit ?_
    exact ⟨rfl, O, hO, hs, ⟨fun a ha => EH.sub (ESub.sub (by repeat (first | exact ESub.nil | refine ESub.cons rfl (by first | rfl | (simp; done) | (simp; omega)) ?_))) a ha, fun w hw => MH.sub (MSub.left [_] rd) w hw⟩⟩
  | succ r ih =>
    intro i O hi hO hs
    have hin := rmul_in a0 A ca b0 B cb rd hra hrb hrd hA hB (g := ⟨64, w0, may⟩) rfl bO i _ N hN (by omega) rfl (B.length + 1) 0 0 O (by omega) hO (by omega) (fun _ => rfl) (by rw [hs, Nat.pow_zero, Nat.mod_one]; simp)
    refine WpL.step ?_
    refine Wp.seq ?_
    refine Wp.seq ?_
    refine Wp.reg allGen ?_
    refine Tr.move rfl rfl trivial rfl ?_
    refine Tr.move rfl rfl trivial rfl ?_
    refine Tr.lenS tab rfl rfl rfl rfl trivial rfl ?_
    refine Tr.lss rfl rfl (by first | with_reducible assumption | exact decide_eq_true (by omega) | exact decide_eq_false (by omega) | exact beq_iff_eq.2 (by omega) | exact beq_eq_false_iff_ne.2 (by omega) | exact bne_iff_ne.2 (by omega) | rfl) rfl trivial rfl ?_
    refine Tr.nil ?_ (fun _ => rfl) (List.Perm.refl _)
    refine Wp.condT rfl ?_
    refine Wp.skip ?_
    refine Wp.seq ?_
    refine Wp.block ?_
    refine Wp.seq ?_
    refine Wp.reg allGen ?_
    refine Tr.assign rfl rfl trivial rfl ?_
    refine Tr.nil ?_ (fun _ => rfl) (List.Perm.refl _)
    refine Wp.seq ?_
    refine Wp.reg allGen ?_
    refine Tr.assign rfl rfl trivial rfl ?_
    refine Tr.nil ?_ (fun _ => rfl) (List.Perm.refl _)
    refine Wp.block ?_
    refine Wp.loopQ (hin) (Wk.mk (by repeat (first | exact ESub.nil | refine ESub.cons rfl (by first | rfl | (simp; done) | (simp; omega)) ?_)) (MSub.refl _)) ?_
    rintro _ env1 mem1 ⟨rfl, O1, h1, h2, hw1⟩
    refine Wp.weak ?_ hw1
    refine Wp.reg allGen ?_
    refine Tr.move rfl rfl trivial rfl ?_
    refine Tr.add rfl rfl (by first | exact wrap_i64 (by omega) (by omega) | rfl) rfl trivial rfl ?_
    refine Tr.assign rfl rfl trivial rfl ?_
    refine Tr.nil ?_ (fun _ => rfl) (List.Perm.refl _)
    exact WpL.weak (ih (i + 1) O1 (by omega) h1 h2) ⟨fun a ha => EH.sub (ESub.sub (by repeat (first | exact ESub.nil | refine ESub.cons rfl (by first | rfl | (simp; done) | (simp; omega)) ?_))) a ha, fun w hw => hw⟩

include hra hrb hrd hA hB in
theorem f153_mul : FnG Try.prog 153 [.slice a0 A.length ca, .slice b0 B.length cb] rd (fun v es => Fresh (u8s (nat8 (n8 A * n8 B))) v es) := by
  have hl := fun {g : Gh} (hg : g.n = 64) bO => rmul_out a0 A ca b0 B cb rd hra hrb hrd hA hB hg bO (A.length + B.length + 1) rfl A.length 0 (List.replicate (A.length + B.length + 1) 0) (by omega) (by simp) (by
    rw [Nat.pow_zero, Nat.mod_one, Nat.zero_mul]
    generalize A.length + B.length + 1 = j
    induction j with
    | zero => rfl
    | succ j ih => rw [List.replicate_succ, n8, ih]; rfl)
  generalize n8 A * n8 B = S at *
  have hrep : List.replicate (A.length + B.length + 1) (Value.int .u8 0) = u8s (List.replicate (A.length + B.length + 1) 0) := by simp
  have hn : ((A.length : Int) + (B.length : Int) + 1).toNat = A.length + B.length + 1 := by omega
  refine fnG_of 64 rfl Try.func153 rfl (by kernel_rfl) rfl hrd fun w => ?_
  refine Wp.seq ?_
  refine Wp.reg allGen ?_
  refine Tr.assign rfl rfl trivial rfl ?_
  refine Tr.nil ?_ (fun _ => rfl) (List.Perm.refl _)
  refine Wp.seq ?_
  refine Wp.reg allGen ?_
  refine Tr.move rfl rfl trivial rfl ?_
  refine Tr.lenS tab rfl rfl rfl rfl trivial rfl ?_
  refine Tr.move rfl rfl trivial rfl ?_
  refine Tr.lenS tab rfl rfl rfl rfl trivial rfl ?_
  refine Tr.add rfl rfl (by first | exact wrap_i64 (by omega) (by omega) | rfl) rfl trivial rfl ?_
  refine Tr.add rfl rfl (by first | exact wrap_i64 (by omega) (by omega) | rfl) rfl trivial rfl ?_
  refine Tr.makeSlice tab rfl rfl rfl rfl rfl (by omega) (by omega) (by omega) (by omega) rfl trivial rfl (fun B16 _ => ?_)
  rw [hn, hrep]
  refine Tr.assign rfl rfl trivial rfl ?_
  refine Tr.nil ?_ (fun _ => rfl) (List.Perm.refl _)
  refine Wp.seq ?_
  refine Wp.seq ?_
  refine Wp.reg allGen ?_
  refine Tr.assign rfl rfl trivial rfl ?_
  refine Tr.nil ?_ (fun _ => rfl) (List.Perm.refl _)
  refine Wp.block ?_
  refine Wp.loopQ (hl rfl B16) (Wk.mk (by repeat (first | exact ESub.nil | refine ESub.cons rfl (by first | rfl | (simp; done) | (simp; omega)) ?_)) (MSub.refl _)) ?_
  rintro _ env1 mem1 ⟨rfl, O, hOl, hO, hw1⟩
  refine Wp.weak ?_ hw1
  have hn := f152_norm _ O O.length [⟨B16, u8s O, false⟩] (Row.one B16 O _ rfl) (by simp) (by omega)
  rw [hO, hOl] at hn
  refine Wp.seq ?_
  refine Wp.reg allGen ?_
  refine Tr.move rfl rfl trivial rfl ?_
  refine Tr.callG rfl hn (Has.cons (.head _) Has.nil) rfl trivial rfl ?_
  intro v1 es1 hf1
  refine Tr.assign rfl rfl trivial rfl ?_
  refine Tr.nil ?_ (fun _ => rfl) (List.Perm.refl _)
  refine Wp.ret ?_
  exact ⟨.inr rfl, v1, es1, hf1, .r1 rfl (RvIs.tmp rfl), MSub.left _ _, hf1.rw⟩
end
end Go.Proofs.Ytffghaeaohabhaa.AW
