import Derived.Test.YtffghaeaohabhaaR2
namespace Go.Proofs.Ytffghaeaohabhaa.AW
open Go
set_option maxRecDepth 100000

/-! ### words -/
theorem or_add (a b k : Nat) (h : b < 2 ^ k) : a * 2 ^ k ||| b = a * 2 ^ k + b := by
  rw [← Nat.shiftLeft_eq, Nat.shiftLeft_add_eq_or_of_lt h]

theorem be32_nat (d : List UInt8) (i : Nat) : ((be32 d i).toNat : Int) = 256 * (256 * (256 * ((d.getD (4 * i) 0).toNat : Int) + ((d.getD (4 * i + 1) 0).toNat : Int)) + ((d.getD (4 * i + 2) 0).toNat : Int)) + ((d.getD (4 * i + 3) 0).toNat : Int) := by
  unfold be32
  generalize d.getD (4 * i) 0 = a
  generalize d.getD (4 * i + 1) 0 = b
  generalize d.getD (4 * i + 2) 0 = c
  generalize d.getD (4 * i + 3) 0 = e
  have ha := a.toNat_lt; have hb := b.toNat_lt; have hc := c.toNat_lt; have he := e.toNat_lt
  have sh : ∀ (x : UInt8) (k : Nat), k ≤ 24 → (x.toUInt32 <<< UInt32.ofNat k).toNat = x.toNat * 2 ^ k := by
    intro x k hk
    have hx := x.toNat_lt
    rw [UInt32.toNat_shiftLeft, ofNat32 (by omega), Nat.shiftLeft_eq]
    have e1 : x.toUInt32.toNat = x.toNat := rfl
    rw [e1]
    have : 2 ^ k ≤ 2 ^ 24 := Nat.pow_le_pow_right (by decide) hk
    have := Nat.mul_le_mul (show x.toNat ≤ 255 by omega) this
    exact Nat.mod_eq_of_lt (by omega)
  have e1 : e.toUInt32.toNat = e.toNat := rfl
  rw [UInt32.toNat_or, UInt32.toNat_or, UInt32.toNat_or, sh a 24 (by decide), sh b 16 (by decide), sh c 8 (by decide), e1]
  rw [or_add a.toNat (b.toNat * 2 ^ 16) 24 (by omega)]
  rw [show a.toNat * 2 ^ 24 + b.toNat * 2 ^ 16 = (a.toNat * 2 ^ 8 + b.toNat) * 2 ^ 16 by omega, or_add _ (c.toNat * 2 ^ 8) 16 (by omega)]
  rw [show (a.toNat * 2 ^ 8 + b.toNat) * 2 ^ 16 + c.toNat * 2 ^ 8 = ((a.toNat * 2 ^ 8 + b.toNat) * 2 ^ 8 + c.toNat) * 2 ^ 8 by omega, or_add _ e.toNat 8 (by omega)]
  omega

def loop75a : Code := (Code.seq (Code.seq (Code.region 3 #[{ dst := (some 10), op := (Op.move (Operand.tmp 4)), type := 3, pos := "ref.go:175", after := #[], guard := none }, { dst := (some 11), op := (Op.binOp BinOp.lss 3 (Operand.tmp 10) (Operand.const (Value.int IntKind.i64 16)) 3), type := 4, pos := "ref.go:175", after := #[{ on := 0, ground := Ground.data }], guard := none }] false) (Code.cond (Operand.tmp 11) Code.skip (Code.exit 0))) (Code.seq (Code.block 1 (Code.seq (Code.region 5 #[{ dst := (some 5), op := (Op.assign (Operand.const (Value.int IntKind.i64 0))), type := 3, pos := "ref.go:176", after := #[], guard := none }] false) (Code.seq (Code.seq (Code.region 6 #[{ dst := (some 6), op := (Op.assign (Operand.const (Value.int IntKind.i64 0))), type := 3, pos := "ref.go:177", after := #[], guard := none }] false) (Code.block 2 (Code.loop (Code.seq (Code.seq (Code.region 7 #[{ dst := (some 14), op := (Op.move (Operand.tmp 6)), type := 3, pos := "ref.go:177", after := #[], guard := none }, { dst := (some 15), op := (Op.binOp BinOp.lss 3 (Operand.tmp 14) (Operand.const (Value.int IntKind.i64 4)) 3), type := 4, pos := "ref.go:177", after := #[{ on := 0, ground := Ground.data }], guard := none }] false) (Code.cond (Operand.tmp 15) Code.skip (Code.exit 2))) (Code.seq (Code.block 3 (Code.region 9 #[{ dst := (some 18), op := (Op.move (Operand.tmp 5)), type := 3, pos := "ref.go:178", after := #[], guard := none }, { dst := (some 19), op := (Op.binOp BinOp.mul 3 (Operand.const (Value.int IntKind.i64 256)) (Operand.tmp 18) 3), type := 3, pos := "ref.go:178", after := #[{ on := 0, ground := Ground.data }], guard := none }, { dst := (some 20), op := (Op.move (Operand.tmp 0)), type := 36, pos := "ref.go:178", after := #[], guard := none }, { dst := (some 21), op := (Op.move (Operand.tmp 4)), type := 3, pos := "ref.go:178", after := #[], guard := none }, { dst := (some 22), op := (Op.binOp BinOp.mul 3 (Operand.const (Value.int IntKind.i64 4)) (Operand.tmp 21) 3), type := 3, pos := "ref.go:178", after := #[{ on := 3, ground := Ground.data }], guard := none }, { dst := (some 23), op := (Op.move (Operand.tmp 6)), type := 3, pos := "ref.go:178", after := #[], guard := none }, { dst := (some 24), op := (Op.binOp BinOp.add 3 (Operand.tmp 22) (Operand.tmp 23) 3), type := 3, pos := "ref.go:178", after := #[{ on := 4, ground := Ground.data }, { on := 5, ground := Ground.data }], guard := none }, { dst := (some 25), op := (Op.indexAddr 36 (Operand.tmp 20) (Operand.tmp 24)), type := 0, pos := "ref.go:178", after := #[{ on := 2, ground := Ground.data }, { on := 6, ground := Ground.data }], guard := none }, { dst := (some 26), op := (Op.load 5 (Operand.tmp 25)), type := 5, pos := "ref.go:178", after := #[{ on := 7, ground := Ground.data }], guard := none }, { dst := (some 27), op := (Op.convert 5 3 (Operand.tmp 26)), type := 3, pos := "ref.go:178", after := #[{ on := 8, ground := Ground.data }], guard := none }, { dst := (some 28), op := (Op.binOp BinOp.add 3 (Operand.tmp 19) (Operand.tmp 27) 3), type := 3, pos := "ref.go:178", after := #[{ on := 1, ground := Ground.data }, { on := 9, ground := Ground.data }], guard := none }, { dst := (some 5), op := (Op.assign (Operand.tmp 28)), type := 3, pos := "ref.go:178", after := #[{ on := 10, ground := Ground.data }, { on := 0, ground := Ground.phase }, { on := 1, ground := Ground.phase }, { on := 2, ground := Ground.phase }, { on := 3, ground := Ground.phase }, { on := 4, ground := Ground.phase }, { on := 5, ground := Ground.phase }, { on := 6, ground := Ground.phase }, { on := 7, ground := Ground.phase }, { on := 8, ground := Ground.phase }, { on := 9, ground := Ground.phase }, { on := 10, ground := Ground.phase }], guard := none }] false)) (Code.region 8 #[{ dst := (some 16), op := (Op.move (Operand.tmp 6)), type := 3, pos := "ref.go:177", after := #[], guard := none }, { dst := (some 17), op := (Op.binOp BinOp.add 3 (Operand.tmp 16) (Operand.const (Value.int IntKind.i64 1)) 3), type := 3, pos := "ref.go:177", after := #[{ on := 0, ground := Ground.data }], guard := none }, { dst := (some 6), op := (Op.assign (Operand.tmp 17)), type := 3, pos := "ref.go:177", after := #[{ on := 1, ground := Ground.data }, { on := 0, ground := Ground.phase }, { on := 1, ground := Ground.phase }], guard := none }] false)))))) (Code.region 10 #[{ dst := (some 29), op := (Op.move (Operand.tmp 3)), type := 22, pos := "ref.go:180", after := #[], guard := none }, { dst := (some 30), op := (Op.move (Operand.tmp 5)), type := 3, pos := "ref.go:180", after := #[], guard := none }, { dst := (some 31), op := (Op.buildSlice 22 1 #[(0, (Operand.tmp 30))]), type := 22, pos := "ref.go:180", after := #[{ on := 1, ground := Ground.data }], guard := none }, { dst := (some 32), op := (Op.call { callee := (Callee.builtin Builtin.append), args := #[(Operand.tmp 29), (Operand.tmp 31)], argTypes := #[22, 22] }), type := 22, pos := "ref.go:180", after := #[{ on := 0, ground := Ground.data }, { on := 2, ground := Ground.data }], guard := none }, { dst := (some 3), op := (Op.assign (Operand.tmp 32)), type := 22, pos := "ref.go:180", after := #[{ on := 3, ground := Ground.data }, { on := 3, ground := Ground.chain }, { on := 0, ground := Ground.phase }, { on := 1, ground := Ground.phase }, { on := 2, ground := Ground.phase }, { on := 3, ground := Ground.phase }], guard := none }] false)))) (Code.region 4 #[{ dst := (some 12), op := (Op.move (Operand.tmp 4)), type := 3, pos := "ref.go:175", after := #[], guard := none }, { dst := (some 13), op := (Op.binOp BinOp.add 3 (Operand.tmp 12) (Operand.const (Value.int IntKind.i64 1)) 3), type := 3, pos := "ref.go:175", after := #[{ on := 0, ground := Ground.data }], guard := none }, { dst := (some 4), op := (Op.assign (Operand.tmp 13)), type := 3, pos := "ref.go:175", after := #[{ on := 1, ground := Ground.data }, { on := 0, ground := Ground.phase }, { on := 1, ground := Ground.phase }], guard := none }] false)))
def loop75b : Code := (Code.seq (Code.seq (Code.region 12 #[{ dst := (some 33), op := (Op.move (Operand.tmp 7)), type := 3, pos := "ref.go:182", after := #[], guard := none }, { dst := (some 34), op := (Op.binOp BinOp.lss 3 (Operand.tmp 33) (Operand.const (Value.int IntKind.i64 64)) 3), type := 4, pos := "ref.go:182", after := #[{ on := 0, ground := Ground.data }], guard := none }] false) (Code.cond (Operand.tmp 34) Code.skip (Code.exit 4))) (Code.seq (Code.block 5 (Code.seq (Code.region 14 #[{ dst := (some 37), op := (Op.move (Operand.tmp 3)), type := 22, pos := "ref.go:183", after := #[], guard := none }, { dst := (some 38), op := (Op.move (Operand.tmp 7)), type := 3, pos := "ref.go:183", after := #[], guard := none }, { dst := (some 39), op := (Op.binOp BinOp.sub 3 (Operand.tmp 38) (Operand.const (Value.int IntKind.i64 15)) 3), type := 3, pos := "ref.go:183", after := #[{ on := 1, ground := Ground.data }], guard := none }, { dst := (some 40), op := (Op.indexAddr 22 (Operand.tmp 37) (Operand.tmp 39)), type := 0, pos := "ref.go:183", after := #[{ on := 0, ground := Ground.data }, { on := 2, ground := Ground.data }], guard := none }, { dst := (some 41), op := (Op.load 3 (Operand.tmp 40)), type := 3, pos := "ref.go:183", after := #[{ on := 3, ground := Ground.data }], guard := none }, { dst := (some 42), op := (Op.call { callee := (Callee.value (Operand.func 118)), args := #[(Operand.tmp 41), (Operand.const (Value.int IntKind.i64 7))], argTypes := #[3, 3] }), type := 3, pos := "ref.go:183", after := #[{ on := 4, ground := Ground.data }], guard := none }, { dst := (some 43), op := (Op.move (Operand.tmp 3)), type := 22, pos := "ref.go:183", after := #[], guard := none }, { dst := (some 44), op := (Op.move (Operand.tmp 7)), type := 3, pos := "ref.go:183", after := #[], guard := none }, { dst := (some 45), op := (Op.binOp BinOp.sub 3 (Operand.tmp 44) (Operand.const (Value.int IntKind.i64 15)) 3), type := 3, pos := "ref.go:183", after := #[{ on := 7, ground := Ground.data }], guard := none }, { dst := (some 46), op := (Op.indexAddr 22 (Operand.tmp 43) (Operand.tmp 45)), type := 0, pos := "ref.go:183", after := #[{ on := 6, ground := Ground.data }, { on := 8, ground := Ground.data }], guard := none }, { dst := (some 47), op := (Op.load 3 (Operand.tmp 46)), type := 3, pos := "ref.go:183", after := #[{ on := 9, ground := Ground.data }], guard := none }, { dst := (some 48), op := (Op.call { callee := (Callee.value (Operand.func 118)), args := #[(Operand.tmp 47), (Operand.const (Value.int IntKind.i64 18))], argTypes := #[3, 3] }), type := 3, pos := "ref.go:183", after := #[{ on := 10, ground := Ground.data }, { on := 5, ground := Ground.chain }], guard := none }, { dst := (some 49), op := (Op.call { callee := (Callee.value (Operand.func 76)), args := #[(Operand.tmp 42), (Operand.tmp 48)], argTypes := #[3, 3] }), type := 3, pos := "ref.go:183", after := #[{ on := 5, ground := Ground.data }, { on := 11, ground := Ground.data }, { on := 11, ground := Ground.chain }], guard := none }, { dst := (some 50), op := (Op.move (Operand.tmp 3)), type := 22, pos := "ref.go:183", after := #[], guard := none }, { dst := (some 51), op := (Op.move (Operand.tmp 7)), type := 3, pos := "ref.go:183", after := #[], guard := none }, { dst := (some 52), op := (Op.binOp BinOp.sub 3 (Operand.tmp 51) (Operand.const (Value.int IntKind.i64 15)) 3), type := 3, pos := "ref.go:183", after := #[{ on := 14, ground := Ground.data }], guard := none }, { dst := (some 53), op := (Op.indexAddr 22 (Operand.tmp 50) (Operand.tmp 52)), type := 0, pos := "ref.go:183", after := #[{ on := 13, ground := Ground.data }, { on := 15, ground := Ground.data }], guard := none }, { dst := (some 54), op := (Op.load 3 (Operand.tmp 53)), type := 3, pos := "ref.go:183", after := #[{ on := 16, ground := Ground.data }], guard := none }, { dst := (some 55), op := (Op.call { callee := (Callee.value (Operand.func 119)), args := #[(Operand.tmp 54), (Operand.const (Value.int IntKind.i64 3))], argTypes := #[3, 3] }), type := 3, pos := "ref.go:183", after := #[{ on := 17, ground := Ground.data }, { on := 12, ground := Ground.chain }], guard := none }, { dst := (some 56), op := (Op.call { callee := (Callee.value (Operand.func 76)), args := #[(Operand.tmp 49), (Operand.tmp 55)], argTypes := #[3, 3] }), type := 3, pos := "ref.go:183", after := #[{ on := 12, ground := Ground.data }, { on := 18, ground := Ground.data }, { on := 18, ground := Ground.chain }], guard := none }, { dst := (some 8), op := (Op.assign (Operand.tmp 56)), type := 3, pos := "ref.go:183", after := #[{ on := 19, ground := Ground.data }, { on := 19, ground := Ground.chain }, { on := 0, ground := Ground.phase }, { on := 1, ground := Ground.phase }, { on := 2, ground := Ground.phase }, { on := 3, ground := Ground.phase }, { on := 4, ground := Ground.phase }, { on := 5, ground := Ground.phase }, { on := 6, ground := Ground.phase }, { on := 7, ground := Ground.phase }, { on := 8, ground := Ground.phase }, { on := 9, ground := Ground.phase }, { on := 10, ground := Ground.phase }, { on := 11, ground := Ground.phase }, { on := 12, ground := Ground.phase }, { on := 13, ground := Ground.phase }, { on := 14, ground := Ground.phase }, { on := 15, ground := Ground.phase }, { on := 16, ground := Ground.phase }, { on := 17, ground := Ground.phase }, { on := 18, ground := Ground.phase }, { on := 19, ground := Ground.phase }], guard := none }] true) (Code.seq (Code.region 15 #[{ dst := (some 57), op := (Op.move (Operand.tmp 3)), type := 22, pos := "ref.go:184", after := #[], guard := none }, { dst := (some 58), op := (Op.move (Operand.tmp 7)), type := 3, pos := "ref.go:184", after := #[], guard := none }, { dst := (some 59), op := (Op.binOp BinOp.sub 3 (Operand.tmp 58) (Operand.const (Value.int IntKind.i64 2)) 3), type := 3, pos := "ref.go:184", after := #[{ on := 1, ground := Ground.data }], guard := none }, { dst := (some 60), op := (Op.indexAddr 22 (Operand.tmp 57) (Operand.tmp 59)), type := 0, pos := "ref.go:184", after := #[{ on := 0, ground := Ground.data }, { on := 2, ground := Ground.data }], guard := none }, { dst := (some 61), op := (Op.load 3 (Operand.tmp 60)), type := 3, pos := "ref.go:184", after := #[{ on := 3, ground := Ground.data }], guard := none }, { dst := (some 62), op := (Op.call { callee := (Callee.value (Operand.func 118)), args := #[(Operand.tmp 61), (Operand.const (Value.int IntKind.i64 17))], argTypes := #[3, 3] }), type := 3, pos := "ref.go:184", after := #[{ on := 4, ground := Ground.data }], guard := none }, { dst := (some 63), op := (Op.move (Operand.tmp 3)), type := 22, pos := "ref.go:184", after := #[], guard := none }, { dst := (some 64), op := (Op.move (Operand.tmp 7)), type := 3, pos := "ref.go:184", after := #[], guard := none }, { dst := (some 65), op := (Op.binOp BinOp.sub 3 (Operand.tmp 64) (Operand.const (Value.int IntKind.i64 2)) 3), type := 3, pos := "ref.go:184", after := #[{ on := 7, ground := Ground.data }], guard := none }, { dst := (some 66), op := (Op.indexAddr 22 (Operand.tmp 63) (Operand.tmp 65)), type := 0, pos := "ref.go:184", after := #[{ on := 6, ground := Ground.data }, { on := 8, ground := Ground.data }], guard := none }, { dst := (some 67), op := (Op.load 3 (Operand.tmp 66)), type := 3, pos := "ref.go:184", after := #[{ on := 9, ground := Ground.data }], guard := none }, { dst := (some 68), op := (Op.call { callee := (Callee.value (Operand.func 118)), args := #[(Operand.tmp 67), (Operand.const (Value.int IntKind.i64 19))], argTypes := #[3, 3] }), type := 3, pos := "ref.go:184", after := #[{ on := 10, ground := Ground.data }, { on := 5, ground := Ground.chain }], guard := none }, { dst := (some 69), op := (Op.call { callee := (Callee.value (Operand.func 76)), args := #[(Operand.tmp 62), (Operand.tmp 68)], argTypes := #[3, 3] }), type := 3, pos := "ref.go:184", after := #[{ on := 5, ground := Ground.data }, { on := 11, ground := Ground.data }, { on := 11, ground := Ground.chain }], guard := none }, { dst := (some 70), op := (Op.move (Operand.tmp 3)), type := 22, pos := "ref.go:184", after := #[], guard := none }, { dst := (some 71), op := (Op.move (Operand.tmp 7)), type := 3, pos := "ref.go:184", after := #[], guard := none }, { dst := (some 72), op := (Op.binOp BinOp.sub 3 (Operand.tmp 71) (Operand.const (Value.int IntKind.i64 2)) 3), type := 3, pos := "ref.go:184", after := #[{ on := 14, ground := Ground.data }], guard := none }, { dst := (some 73), op := (Op.indexAddr 22 (Operand.tmp 70) (Operand.tmp 72)), type := 0, pos := "ref.go:184", after := #[{ on := 13, ground := Ground.data }, { on := 15, ground := Ground.data }], guard := none }, { dst := (some 74), op := (Op.load 3 (Operand.tmp 73)), type := 3, pos := "ref.go:184", after := #[{ on := 16, ground := Ground.data }], guard := none }, { dst := (some 75), op := (Op.call { callee := (Callee.value (Operand.func 119)), args := #[(Operand.tmp 74), (Operand.const (Value.int IntKind.i64 10))], argTypes := #[3, 3] }), type := 3, pos := "ref.go:184", after := #[{ on := 17, ground := Ground.data }, { on := 12, ground := Ground.chain }], guard := none }, { dst := (some 76), op := (Op.call { callee := (Callee.value (Operand.func 76)), args := #[(Operand.tmp 69), (Operand.tmp 75)], argTypes := #[3, 3] }), type := 3, pos := "ref.go:184", after := #[{ on := 12, ground := Ground.data }, { on := 18, ground := Ground.data }, { on := 18, ground := Ground.chain }], guard := none }, { dst := (some 9), op := (Op.assign (Operand.tmp 76)), type := 3, pos := "ref.go:184", after := #[{ on := 19, ground := Ground.data }, { on := 19, ground := Ground.chain }, { on := 0, ground := Ground.phase }, { on := 1, ground := Ground.phase }, { on := 2, ground := Ground.phase }, { on := 3, ground := Ground.phase }, { on := 4, ground := Ground.phase }, { on := 5, ground := Ground.phase }, { on := 6, ground := Ground.phase }, { on := 7, ground := Ground.phase }, { on := 8, ground := Ground.phase }, { on := 9, ground := Ground.phase }, { on := 10, ground := Ground.phase }, { on := 11, ground := Ground.phase }, { on := 12, ground := Ground.phase }, { on := 13, ground := Ground.phase }, { on := 14, ground := Ground.phase }, { on := 15, ground := Ground.phase }, { on := 16, ground := Ground.phase }, { on := 17, ground := Ground.phase }, { on := 18, ground := Ground.phase }, { on := 19, ground := Ground.phase }], guard := none }] true) (Code.region 16 #[{ dst := (some 77), op := (Op.move (Operand.tmp 3)), type := 22, pos := "ref.go:185", after := #[], guard := none }, { dst := (some 78), op := (Op.move (Operand.tmp 3)), type := 22, pos := "ref.go:185", after := #[], guard := none }, { dst := (some 79), op := (Op.move (Operand.tmp 7)), type := 3, pos := "ref.go:185", after := #[], guard := none }, { dst := (some 80), op := (Op.binOp BinOp.sub 3 (Operand.tmp 79) (Operand.const (Value.int IntKind.i64 16)) 3), type := 3, pos := "ref.go:185", after := #[{ on := 2, ground := Ground.data }], guard := none }, { dst := (some 81), op := (Op.indexAddr 22 (Operand.tmp 78) (Operand.tmp 80)), type := 0, pos := "ref.go:185", after := #[{ on := 1, ground := Ground.data }, { on := 3, ground := Ground.data }], guard := none }, { dst := (some 82), op := (Op.load 3 (Operand.tmp 81)), type := 3, pos := "ref.go:185", after := #[{ on := 4, ground := Ground.data }], guard := none }, { dst := (some 83), op := (Op.move (Operand.tmp 8)), type := 3, pos := "ref.go:185", after := #[], guard := none }, { dst := (some 84), op := (Op.binOp BinOp.add 3 (Operand.tmp 82) (Operand.tmp 83) 3), type := 3, pos := "ref.go:185", after := #[{ on := 5, ground := Ground.data }, { on := 6, ground := Ground.data }], guard := none }, { dst := (some 85), op := (Op.move (Operand.tmp 3)), type := 22, pos := "ref.go:185", after := #[], guard := none }, { dst := (some 86), op := (Op.move (Operand.tmp 7)), type := 3, pos := "ref.go:185", after := #[], guard := none }, { dst := (some 87), op := (Op.binOp BinOp.sub 3 (Operand.tmp 86) (Operand.const (Value.int IntKind.i64 7)) 3), type := 3, pos := "ref.go:185", after := #[{ on := 9, ground := Ground.data }], guard := none }, { dst := (some 88), op := (Op.indexAddr 22 (Operand.tmp 85) (Operand.tmp 87)), type := 0, pos := "ref.go:185", after := #[{ on := 8, ground := Ground.data }, { on := 10, ground := Ground.data }], guard := none }, { dst := (some 89), op := (Op.load 3 (Operand.tmp 88)), type := 3, pos := "ref.go:185", after := #[{ on := 11, ground := Ground.data }], guard := none }, { dst := (some 90), op := (Op.binOp BinOp.add 3 (Operand.tmp 84) (Operand.tmp 89) 3), type := 3, pos := "ref.go:185", after := #[{ on := 7, ground := Ground.data }, { on := 12, ground := Ground.data }], guard := none }, { dst := (some 91), op := (Op.move (Operand.tmp 9)), type := 3, pos := "ref.go:185", after := #[], guard := none }, { dst := (some 92), op := (Op.binOp BinOp.add 3 (Operand.tmp 90) (Operand.tmp 91) 3), type := 3, pos := "ref.go:185", after := #[{ on := 13, ground := Ground.data }, { on := 14, ground := Ground.data }], guard := none }, { dst := (some 93), op := (Op.binOp BinOp.rem 3 (Operand.tmp 92) (Operand.const (Value.int IntKind.i64 4294967296)) 3), type := 3, pos := "ref.go:185", after := #[{ on := 15, ground := Ground.data }], guard := none }, { dst := (some 94), op := (Op.buildSlice 22 1 #[(0, (Operand.tmp 93))]), type := 22, pos := "ref.go:185", after := #[{ on := 16, ground := Ground.data }], guard := none }, { dst := (some 95), op := (Op.call { callee := (Callee.builtin Builtin.append), args := #[(Operand.tmp 77), (Operand.tmp 94)], argTypes := #[22, 22] }), type := 22, pos := "ref.go:185", after := #[{ on := 0, ground := Ground.data }, { on := 17, ground := Ground.data }], guard := none }, { dst := (some 3), op := (Op.assign (Operand.tmp 95)), type := 22, pos := "ref.go:185", after := #[{ on := 18, ground := Ground.data }, { on := 18, ground := Ground.chain }, { on := 0, ground := Ground.phase }, { on := 1, ground := Ground.phase }, { on := 2, ground := Ground.phase }, { on := 3, ground := Ground.phase }, { on := 4, ground := Ground.phase }, { on := 5, ground := Ground.phase }, { on := 6, ground := Ground.phase }, { on := 7, ground := Ground.phase }, { on := 8, ground := Ground.phase }, { on := 9, ground := Ground.phase }, { on := 10, ground := Ground.phase }, { on := 11, ground := Ground.phase }, { on := 12, ground := Ground.phase }, { on := 13, ground := Ground.phase }, { on := 14, ground := Ground.phase }, { on := 15, ground := Ground.phase }, { on := 16, ground := Ground.phase }, { on := 17, ground := Ground.phase }, { on := 18, ground := Ground.phase }], guard := none }] true)))) (Code.region 13 #[{ dst := (some 35), op := (Op.move (Operand.tmp 7)), type := 3, pos := "ref.go:182", after := #[], guard := none }, { dst := (some 36), op := (Op.binOp BinOp.add 3 (Operand.tmp 35) (Operand.const (Value.int IntKind.i64 1)) 3), type := 3, pos := "ref.go:182", after := #[{ on := 0, ground := Ground.data }], guard := none }, { dst := (some 7), op := (Op.assign (Operand.tmp 36)), type := 3, pos := "ref.go:182", after := #[{ on := 1, ground := Ground.data }, { on := 0, ground := Ground.phase }, { on := 1, ground := Ground.phase }], guard := none }] false)))

theorem words_loop1 {g : Gh} (hg : g.n = 97) (d : List UInt8) (hd : d.length = 64) (bb bo cp : Nat) (cb : List Value) (rw_ : Bool) (hb : At cb bo (u8s d)) : ∀ (r i : Nat), i + r = 16 → ∀ (v : Value) (es : List Ent), Fresh (w32s (wS d i)) v es →
    WpL Try.prog g loop75a (fun e env mem => e = .exit 0 ∧ ∃ v es, Fresh (w32s (wS d 16)) v es ∧ Wk g env mem [(0, .slice (some ⟨bb, bo, none⟩) 64 cp), (3, v)] (es ++ [⟨bb, cb, rw_⟩]))
      [(0, .slice (some ⟨bb, bo, none⟩) 64 cp), (3, v), (4, i64 i)] (es ++ [⟨bb, cb, rw_⟩]) := by
  obtain ⟨gn, w0, may⟩ := g
  obtain rfl : gn = 97 := hg
  intro r
  induction r with
  | zero =>
    intro i hi v es hf
    obtain rfl : i = 16 := by omega
    refine WpL.step ?_
    refine Wp.seq ?_
    refine Wp.seq ?_
    refine Wp.reg allGen ?_
    refine Tr.move rfl rfl trivial rfl ?_
    refine Tr.lss rfl rfl (by first | with_reducible assumption | exact decide_eq_true (by omega) | exact decide_eq_false (by omega) | exact beq_iff_eq.2 (by omega) | exact beq_eq_false_iff_ne.2 (by omega) | exact bne_iff_ne.2 (by omega) | rfl) rfl trivial rfl ?_
    refine Tr.nil ?_ (fun _ => rfl) (List.Perm.refl _)
    refine Wp.condF rfl ?_
    refine Wp.exit ?_
    exact ⟨rfl, _, _, hf, ⟨fun a ha => EH.sub (ESub.sub (by repeat (first | exact ESub.nil | refine ESub.cons rfl (by first | rfl | (simp; done) | (simp; omega)) ?_))) a ha, fun w hw => hw⟩⟩
  | succ r ih =>
    intro i hi v es hf
    have g0 := at_get u8 hb 0 (j := 4 * i) (by omega) (k := 4 * (i : Int) + 0) (by omega)
    have g1 := at_get u8 hb 0 (j := 4 * i + 1) (by omega) (k := 4 * (i : Int) + (0 + 1)) (by omega)
    have g2 := at_get u8 hb 0 (j := 4 * i + 2) (by omega) (k := 4 * (i : Int) + (0 + 1 + 1)) (by omega)
    have g3 := at_get u8 hb 0 (j := 4 * i + 3) (by omega) (k := 4 * (i : Int) + (0 + 1 + 1 + 1)) (by omega)
    have hbe := be32_nat d i
    have hw : wS d (i + 1) = wS d i ++ [be32 d i] := by rw [wS, if_pos (by omega)]
    have hlen := wS_len d i
    have hih := ih (i + 1) (by omega)
    rw [hw, w32s_app] at hih
    have h0 := (d.getD (4 * i) 0).toNat_lt
    have h1 := (d.getD (4 * i + 1) 0).toNat_lt
    have h2 := (d.getD (4 * i + 2) 0).toNat_lt
    have h3 := (d.getD (4 * i + 3) 0).toNat_lt
    have hbe' : [w32 (be32 d i)] = [i64 (256 * (256 * (256 * ((d.getD (4 * i) 0).toNat : Int) + ((d.getD (4 * i + 1) 0).toNat : Int)) + ((d.getD (4 * i + 2) 0).toNat : Int)) + ((d.getD (4 * i + 3) 0).toNat : Int))] := by
      show [i64 _] = _; rw [hbe]
    rw [show w32s [be32 d i] = [w32 (be32 d i)] from rfl, hbe'] at hih
    generalize d.getD (4 * i) 0 = x0 at *
    generalize d.getD (4 * i + 1) 0 = x1 at *
    generalize d.getD (4 * i + 2) 0 = x2 at *
    generalize d.getD (4 * i + 3) 0 = x3 at *
    refine WpL.step ?_
    refine Wp.seq ?_
    refine Wp.seq ?_
    refine Wp.reg allGen ?_
    refine Tr.move rfl rfl trivial rfl ?_
    refine Tr.lss rfl rfl (by first | with_reducible assumption | exact decide_eq_true (by omega) | exact decide_eq_false (by omega) | exact beq_iff_eq.2 (by omega) | exact beq_eq_false_iff_ne.2 (by omega) | exact bne_iff_ne.2 (by omega) | rfl) rfl trivial rfl ?_
    refine Tr.nil ?_ (fun _ => rfl) (List.Perm.refl _)
    refine Wp.condT rfl ?_
    refine Wp.skip ?_
    refine Wp.seq ?_
    refine Wp.block ?_
    refine Wp.seq ?_
    refine Wp.reg allGen ?_
    refine Tr.assign rfl rfl trivial rfl ?_
    refine Tr.nil ?_ (fun _ => rfl) (List.Perm.refl _)
    refine Wp.seq ?_
    refine Wp.seq ?_
    refine Wp.reg allGen ?_
    refine Tr.assign rfl rfl trivial rfl ?_
    refine Tr.nil ?_ (fun _ => rfl) (List.Perm.refl _)
    refine Wp.block ?_
    refine Wp.loopL ?_
    refine WpL.step ?_
    refine Wp.seq ?_
    refine Wp.seq ?_
    refine Wp.reg allGen ?_
    refine Tr.move rfl rfl trivial rfl ?_
    refine Tr.lss rfl rfl (by first | with_reducible assumption | exact decide_eq_true (by omega) | exact decide_eq_false (by omega) | exact beq_iff_eq.2 (by omega) | exact beq_eq_false_iff_ne.2 (by omega) | exact bne_iff_ne.2 (by omega) | rfl) rfl trivial rfl ?_
    refine Tr.nil ?_ (fun _ => rfl) (List.Perm.refl _)
    refine Wp.condT rfl ?_
    refine Wp.skip ?_
    refine Wp.seq ?_
    refine Wp.block ?_
    refine Wp.reg allGen ?_
    refine Tr.move rfl rfl trivial rfl ?_
    refine Tr.mul rfl rfl (by first | exact wrap_i64 (by omega) (by omega) | rfl) rfl trivial rfl ?_
    refine Tr.move rfl rfl trivial rfl ?_
    refine Tr.move rfl rfl trivial rfl ?_
    refine Tr.mul rfl rfl (by first | exact wrap_i64 (by omega) (by omega) | rfl) rfl trivial rfl ?_
    refine Tr.move rfl rfl trivial rfl ?_
    refine Tr.add rfl rfl (by first | exact wrap_i64 (by omega) (by omega) | rfl) rfl trivial rfl ?_
    first | refine Tr.indexAddrS01 tab rfl rfl rfl rfl rfl (by omega) (by omega) rfl trivial rfl ?_ | refine Tr.indexAddrS1 tab rfl rfl rfl rfl rfl (by omega) (by omega) rfl trivial rfl ?_
    refine Tr.loadS tab rfl rfl rfl (by repeat (first | exact .head _ | refine .tail _ ?_ | refine List.mem_append_right _ ?_)) (by first | rfl | with_reducible assumption | assumption | (simp; done)) rfl trivial rfl ?_
    refine Tr.conv tab rfl rfl rfl rfl (by first | exact conv_u8_i64 _ | exact wrap_i64 (by omega) (by omega) | rfl) rfl trivial rfl ?_
    refine Tr.add rfl rfl (by first | exact wrap_i64 (by omega) (by omega) | rfl) rfl trivial rfl ?_
    refine Tr.assign rfl rfl trivial rfl ?_
    refine Tr.nil ?_ (fun _ => rfl) (List.Perm.refl _)
    refine Wp.reg allGen ?_
    refine Tr.move rfl rfl trivial rfl ?_
    refine Tr.add rfl rfl (by first | exact wrap_i64 (by omega) (by omega) | rfl) rfl trivial rfl ?_
    refine Tr.assign rfl rfl trivial rfl ?_
    refine Tr.nil ?_ (fun _ => rfl) (List.Perm.refl _)
    refine WpL.step ?_
    refine Wp.seq ?_
    refine Wp.seq ?_
    refine Wp.reg allGen ?_
    refine Tr.move rfl rfl trivial rfl ?_
    refine Tr.lss rfl rfl (by first | with_reducible assumption | exact decide_eq_true (by omega) | exact decide_eq_false (by omega) | exact beq_iff_eq.2 (by omega) | exact beq_eq_false_iff_ne.2 (by omega) | exact bne_iff_ne.2 (by omega) | rfl) rfl trivial rfl ?_
    refine Tr.nil ?_ (fun _ => rfl) (List.Perm.refl _)
    refine Wp.condT rfl ?_
    refine Wp.skip ?_
    refine Wp.seq ?_
    refine Wp.block ?_
    refine Wp.reg allGen ?_
    refine Tr.move rfl rfl trivial rfl ?_
    refine Tr.mul rfl rfl (by first | exact wrap_i64 (by omega) (by omega) | rfl) rfl trivial rfl ?_
    refine Tr.move rfl rfl trivial rfl ?_
    refine Tr.move rfl rfl trivial rfl ?_
    refine Tr.mul rfl rfl (by first | exact wrap_i64 (by omega) (by omega) | rfl) rfl trivial rfl ?_
    refine Tr.move rfl rfl trivial rfl ?_
    refine Tr.add rfl rfl (by first | exact wrap_i64 (by omega) (by omega) | rfl) rfl trivial rfl ?_
    first | refine Tr.indexAddrS01 tab rfl rfl rfl rfl rfl (by omega) (by omega) rfl trivial rfl ?_ | refine Tr.indexAddrS1 tab rfl rfl rfl rfl rfl (by omega) (by omega) rfl trivial rfl ?_
    refine Tr.loadS tab rfl rfl rfl (by repeat (first | exact .head _ | refine .tail _ ?_ | refine List.mem_append_right _ ?_)) (by first | rfl | with_reducible assumption | assumption | (simp; done)) rfl trivial rfl ?_
    refine Tr.conv tab rfl rfl rfl rfl (by first | exact conv_u8_i64 _ | exact wrap_i64 (by omega) (by omega) | rfl) rfl trivial rfl ?_
    refine Tr.add rfl rfl (by first | exact wrap_i64 (by omega) (by omega) | rfl) rfl trivial rfl ?_
    refine Tr.assign rfl rfl trivial rfl ?_
    refine Tr.nil ?_ (fun _ => rfl) (List.Perm.refl _)
    refine Wp.reg allGen ?_
    refine Tr.move rfl rfl trivial rfl ?_
    refine Tr.add rfl rfl (by first | exact wrap_i64 (by omega) (by omega) | rfl) rfl trivial rfl ?_
    refine Tr.assign rfl rfl trivial rfl ?_
    refine Tr.nil ?_ (fun _ => rfl) (List.Perm.refl _)
    refine WpL.step ?_
    refine Wp.seq ?_
    refine Wp.seq ?_
    refine Wp.reg allGen ?_
    refine Tr.move rfl rfl trivial rfl ?_
    refine Tr.lss rfl rfl (by first | with_reducible assumption | exact decide_eq_true (by omega) | exact decide_eq_false (by omega) | exact beq_iff_eq.2 (by omega) | exact beq_eq_false_iff_ne.2 (by omega) | exact bne_iff_ne.2 (by omega) | rfl) rfl trivial rfl ?_
    refine Tr.nil ?_ (fun _ => rfl) (List.Perm.refl _)
    refine Wp.condT rfl ?_
    refine Wp.skip ?_
    refine Wp.seq ?_
    refine Wp.block ?_
    refine Wp.reg allGen ?_
    refine Tr.move rfl rfl trivial rfl ?_
    refine Tr.mul rfl rfl (by first | exact wrap_i64 (by omega) (by omega) | rfl) rfl trivial rfl ?_
    refine Tr.move rfl rfl trivial rfl ?_
    refine Tr.move rfl rfl trivial rfl ?_
    refine Tr.mul rfl rfl (by first | exact wrap_i64 (by omega) (by omega) | rfl) rfl trivial rfl ?_
    refine Tr.move rfl rfl trivial rfl ?_
    refine Tr.add rfl rfl (by first | exact wrap_i64 (by omega) (by omega) | rfl) rfl trivial rfl ?_
    first | refine Tr.indexAddrS01 tab rfl rfl rfl rfl rfl (by omega) (by omega) rfl trivial rfl ?_ | refine Tr.indexAddrS1 tab rfl rfl rfl rfl rfl (by omega) (by omega) rfl trivial rfl ?_
    refine Tr.loadS tab rfl rfl rfl (by repeat (first | exact .head _ | refine .tail _ ?_ | refine List.mem_append_right _ ?_)) (by first | rfl | with_reducible assumption | assumption | (simp; done)) rfl trivial rfl ?_
    refine Tr.conv tab rfl rfl rfl rfl (by first | exact conv_u8_i64 _ | exact wrap_i64 (by omega) (by omega) | rfl) rfl trivial rfl ?_
    refine Tr.add rfl rfl (by first | exact wrap_i64 (by omega) (by omega) | rfl) rfl trivial rfl ?_
    refine Tr.assign rfl rfl trivial rfl ?_
    refine Tr.nil ?_ (fun _ => rfl) (List.Perm.refl _)
    refine Wp.reg allGen ?_
    refine Tr.move rfl rfl trivial rfl ?_
    refine Tr.add rfl rfl (by first | exact wrap_i64 (by omega) (by omega) | rfl) rfl trivial rfl ?_
    refine Tr.assign rfl rfl trivial rfl ?_
    refine Tr.nil ?_ (fun _ => rfl) (List.Perm.refl _)
    refine WpL.step ?_
    refine Wp.seq ?_
    refine Wp.seq ?_
    refine Wp.reg allGen ?_
    refine Tr.move rfl rfl trivial rfl ?_
    refine Tr.lss rfl rfl (by first | with_reducible assumption | exact decide_eq_true (by omega) | exact decide_eq_false (by omega) | exact beq_iff_eq.2 (by omega) | exact beq_eq_false_iff_ne.2 (by omega) | exact bne_iff_ne.2 (by omega) | rfl) rfl trivial rfl ?_
    refine Tr.nil ?_ (fun _ => rfl) (List.Perm.refl _)
    refine Wp.condT rfl ?_
    refine Wp.skip ?_
    refine Wp.seq ?_
    refine Wp.block ?_
    refine Wp.reg allGen ?_
    refine Tr.move rfl rfl trivial rfl ?_
    refine Tr.mul rfl rfl (by first | exact wrap_i64 (by omega) (by omega) | rfl) rfl trivial rfl ?_
    refine Tr.move rfl rfl trivial rfl ?_
    refine Tr.move rfl rfl trivial rfl ?_
    refine Tr.mul rfl rfl (by first | exact wrap_i64 (by omega) (by omega) | rfl) rfl trivial rfl ?_
    refine Tr.move rfl rfl trivial rfl ?_
    refine Tr.add rfl rfl (by first | exact wrap_i64 (by omega) (by omega) | rfl) rfl trivial rfl ?_
    first | refine Tr.indexAddrS01 tab rfl rfl rfl rfl rfl (by omega) (by omega) rfl trivial rfl ?_ | refine Tr.indexAddrS1 tab rfl rfl rfl rfl rfl (by omega) (by omega) rfl trivial rfl ?_
    refine Tr.loadS tab rfl rfl rfl (by repeat (first | exact .head _ | refine .tail _ ?_ | refine List.mem_append_right _ ?_)) (by first | rfl | with_reducible assumption | assumption | (simp; done)) rfl trivial rfl ?_
    refine Tr.conv tab rfl rfl rfl rfl (by first | exact conv_u8_i64 _ | exact wrap_i64 (by omega) (by omega) | rfl) rfl trivial rfl ?_
    refine Tr.add rfl rfl (by first | exact wrap_i64 (by omega) (by omega) | rfl) rfl trivial rfl ?_
    refine Tr.assign rfl rfl trivial rfl ?_
    refine Tr.nil ?_ (fun _ => rfl) (List.Perm.refl _)
    refine Wp.reg allGen ?_
    refine Tr.move rfl rfl trivial rfl ?_
    refine Tr.add rfl rfl (by first | exact wrap_i64 (by omega) (by omega) | rfl) rfl trivial rfl ?_
    refine Tr.assign rfl rfl trivial rfl ?_
    refine Tr.nil ?_ (fun _ => rfl) (List.Perm.refl _)
    refine WpL.step ?_
    refine Wp.seq ?_
    refine Wp.seq ?_
    refine Wp.reg allGen ?_
    refine Tr.move rfl rfl trivial rfl ?_
    refine Tr.lss rfl rfl (by first | with_reducible assumption | exact decide_eq_true (by omega) | exact decide_eq_false (by omega) | exact beq_iff_eq.2 (by omega) | exact beq_eq_false_iff_ne.2 (by omega) | exact bne_iff_ne.2 (by omega) | rfl) rfl trivial rfl ?_
    refine Tr.nil ?_ (fun _ => rfl) (List.Perm.refl _)
    refine Wp.condF rfl ?_
    refine Wp.exit ?_
    refine Wp.reg allGen ?_
    refine Tr.move rfl rfl trivial rfl ?_
    refine Tr.move rfl rfl trivial rfl ?_
    refine Tr.buildSlice tab rfl rfl rfl rfl rfl rfl (by simp [fillC, splice, vcells, Value.cells, zrep_one]; rfl) rfl trivial rfl (fun _ _ => ?_)
    refine Tr.appendF tab rfl hf (by repeat (first | exact Take.app _ _ | exact Take.self _ | exact Take.nil | apply Take.skip)) rfl (SrcOf.row (by repeat (first | exact .head _ | refine .tail _ ?_ | refine List.mem_append_right _ ?_)) (by first | exact At.all _ | with_reducible assumption | assumption) (by first | with_reducible rfl | with_reducible assumption | (simp; done) | (simp; omega) | rfl)) (by first | with_reducible assumption | rfl | (simp [Value.oneCell']; done)) rfl rfl rfl rfl (by simp) (by decide) (by simp [hlen]; omega) rfl trivial rfl (fun v1 es1 hf1 => ?_)
    refine Tr.assign rfl rfl trivial rfl ?_
    refine Tr.nil ?_ (fun _ => rfl) (List.Perm.refl _)
    refine Wp.reg allGen ?_
    refine Tr.move rfl rfl trivial rfl ?_
    refine Tr.add rfl rfl (by first | exact wrap_i64 (by omega) (by omega) | rfl) rfl trivial rfl ?_
    refine Tr.assign rfl rfl trivial rfl ?_
    refine Tr.nil ?_ (fun _ => rfl) (List.Perm.refl _)
    exact WpL.weak (hih _ _ hf1) ⟨fun a ha => EH.sub (ESub.sub (by repeat (first | exact ESub.nil | refine ESub.cons rfl (by first | rfl | (simp; done) | (simp; omega)) ?_))) a ha, MH.sub (MSub.app (MSub.drop (MSub.refl _)) _)⟩

theorem words_loop2 {g : Gh} (hg : g.n = 97) (d : List UInt8) : ∀ (r i : Nat), i + r = 64 → 16 ≤ i → ∀ (b : Nat) (pre sp : List Value),
    WpL Try.prog g loop75b (fun e env mem => e = .exit 4 ∧ ∃ v es, Fresh (w32s (wS d 64)) v es ∧ Wk g env mem [(3, v)] es)
      [(3, .slice (some ⟨b, pre.length, none⟩) (w32s (wS d i)).length ((w32s (wS d i)).length + sp.length)), (7, i64 i)] [⟨b, pre ++ w32s (wS d i) ++ sp, true⟩] := by
  obtain ⟨gn, w0, may⟩ := g
  obtain rfl : gn = 97 := hg
  intro r
  induction r with
  | zero =>
    intro i hi h16 b pre sp
    obtain rfl : i = 64 := by omega
    refine WpL.step ?_
    refine Wp.seq ?_
    refine Wp.seq ?_
    refine Wp.reg allGen ?_
    refine Tr.move rfl rfl trivial rfl ?_
    refine Tr.lss rfl rfl (by first | with_reducible assumption | exact decide_eq_true (by omega) | exact decide_eq_false (by omega) | exact beq_iff_eq.2 (by omega) | exact beq_eq_false_iff_ne.2 (by omega) | exact bne_iff_ne.2 (by omega) | rfl) rfl trivial rfl ?_
    refine Tr.nil ?_ (fun _ => rfl) (List.Perm.refl _)
    refine Wp.condF rfl ?_
    refine Wp.exit ?_
    exact ⟨rfl, _, _, .inr ⟨b, pre, sp, rfl, rfl⟩, Wk.mk (by repeat (first | exact ESub.nil | refine ESub.cons rfl (by first | rfl | (simp; done) | (simp; omega)) ?_)) (by repeat (first | exact MSub.nil | refine MSub.cons (by repeat (first | exact .here | apply Pick.there | apply Pick.append)) (by first | rfl | (simp; done)) ?_))⟩
  | succ r ih =>
    intro i hi h16 b pre sp
    have hlen := wS_len d i
    have hlen' : (w32s (wS d i)).length = i := by simp [hlen]
    have hA : At (pre ++ w32s (wS d i) ++ sp) pre.length (w32s (wS d i)) := ⟨pre, sp, rfl, rfl⟩
    have g15 := at_get w32 hA 0 (j := i - 15) (by omega) (k := (i : Int) - 15) (by omega)
    have g2 := at_get w32 hA 0 (j := i - 2) (by omega) (k := (i : Int) - 2) (by omega)
    have g16 := at_get w32 hA 0 (j := i - 16) (by omega) (k := (i : Int) - 16) (by omega)
    have g7 := at_get w32 hA 0 (j := i - 7) (by omega) (k := (i : Int) - 7) (by omega)
    have hw : wS d (i + 1) = wS d i ++ [wNext (wS d i) i] := by rw [wS, if_neg (by omega)]
    have hih := ih (i + 1) (by omega) (by omega)
    rw [hw, w32s_app] at hih
    have hn : ((wNext (wS d i) i).toNat : Int) = ((((wS d i).getD (i - 16) 0).toNat : Int) + ((rotr ((wS d i).getD (i - 15) 0) 7 ^^^ rotr ((wS d i).getD (i - 15) 0) 18 ^^^ (wS d i).getD (i - 15) 0 >>> UInt32.ofNat 3).toNat : Int) + (((wS d i).getD (i - 7) 0).toNat : Int) +
        ((rotr ((wS d i).getD (i - 2) 0) 17 ^^^ rotr ((wS d i).getD (i - 2) 0) 19 ^^^ (wS d i).getD (i - 2) 0 >>> UInt32.ofNat 10).toNat : Int)).tmod 4294967296 := by
      unfold wNext
      rw [UInt32.toNat_add, UInt32.toNat_add, UInt32.toNat_add, Int.tmod_eq_emod_of_nonneg (by omega)]
      omega
    rw [show w32s [wNext (wS d i) i] = [i64 ((wNext (wS d i) i).toNat : Int)] from rfl] at hih
    rw [hn] at hih
    generalize hL : w32s (wS d i) = L at *
    have b16 := ((wS d i).getD (i - 16) 0).toNat_lt
    have b7 := ((wS d i).getD (i - 7) 0).toNat_lt
    generalize (wS d i).getD (i - 16) 0 = x16 at *
    generalize (wS d i).getD (i - 15) 0 = x15 at *
    generalize (wS d i).getD (i - 7) 0 = x7 at *
    generalize (wS d i).getD (i - 2) 0 = x2 at *
    have bs0 := (rotr x15 7 ^^^ rotr x15 18 ^^^ x15 >>> UInt32.ofNat 3).toNat_lt
    have bs1 := (rotr x2 17 ^^^ rotr x2 19 ^^^ x2 >>> UInt32.ofNat 10).toNat_lt
    refine WpL.step ?_
    refine Wp.seq ?_
    refine Wp.seq ?_
    refine Wp.reg allGen ?_
    refine Tr.move rfl rfl trivial rfl ?_
    refine Tr.lss rfl rfl (by first | with_reducible assumption | exact decide_eq_true (by omega) | exact decide_eq_false (by omega) | exact beq_iff_eq.2 (by omega) | exact beq_eq_false_iff_ne.2 (by omega) | exact bne_iff_ne.2 (by omega) | rfl) rfl trivial rfl ?_
    refine Tr.nil ?_ (fun _ => rfl) (List.Perm.refl _)
    refine Wp.condT rfl ?_
    refine Wp.skip ?_
    refine Wp.seq ?_
    refine Wp.block ?_
    refine Wp.seq ?_
    refine Wp.regE kindOf mo (by kernel_rfl) ?_
    refine Tr.move rfl rfl trivial rfl ?_
    refine Tr.move rfl rfl trivial rfl ?_
    refine Tr.sub rfl rfl (by first | exact wrap_i64 (by omega) (by omega) | rfl) rfl trivial rfl ?_
    first | refine Tr.indexAddrS01 tab rfl rfl rfl rfl rfl (by omega) (by omega) rfl trivial rfl ?_ | refine Tr.indexAddrS1 tab rfl rfl rfl rfl rfl (by omega) (by omega) rfl trivial rfl ?_
    refine Tr.loadS tab rfl rfl rfl (by repeat (first | exact .head _ | refine .tail _ ?_ | refine List.mem_append_right _ ?_)) (by first | rfl | with_reducible assumption | assumption | (simp; done)) rfl trivial rfl ?_
    refine Tr.call rfl (f118_rotr _ 7 (by decide) (by decide)) (by repeat (first | exact Has.nil | refine Has.cons (by repeat (first | exact .head _ | refine .tail _ ?_ | refine List.mem_append_right _ ?_)) ?_)) rfl trivial rfl ?_
    refine Tr.move rfl rfl trivial rfl ?_
    refine Tr.move rfl rfl trivial rfl ?_
    refine Tr.sub rfl rfl (by first | exact wrap_i64 (by omega) (by omega) | rfl) rfl trivial rfl ?_
    first | refine Tr.indexAddrS01 tab rfl rfl rfl rfl rfl (by omega) (by omega) rfl trivial rfl ?_ | refine Tr.indexAddrS1 tab rfl rfl rfl rfl rfl (by omega) (by omega) rfl trivial rfl ?_
    refine Tr.loadS tab rfl rfl rfl (by repeat (first | exact .head _ | refine .tail _ ?_ | refine List.mem_append_right _ ?_)) (by first | rfl | with_reducible assumption | assumption | (simp; done)) rfl trivial rfl ?_
    refine Tr.call rfl (f118_rotr _ 18 (by decide) (by decide)) (by repeat (first | exact Has.nil | refine Has.cons (by repeat (first | exact .head _ | refine .tail _ ?_ | refine List.mem_append_right _ ?_)) ?_)) rfl trivial rfl ?_
    refine Tr.call rfl (f76_xor _ _) (by repeat (first | exact Has.nil | refine Has.cons (by repeat (first | exact .head _ | refine .tail _ ?_ | refine List.mem_append_right _ ?_)) ?_)) rfl trivial rfl ?_
    refine Tr.move rfl rfl trivial rfl ?_
    refine Tr.move rfl rfl trivial rfl ?_
    refine Tr.sub rfl rfl (by first | exact wrap_i64 (by omega) (by omega) | rfl) rfl trivial rfl ?_
    first | refine Tr.indexAddrS01 tab rfl rfl rfl rfl rfl (by omega) (by omega) rfl trivial rfl ?_ | refine Tr.indexAddrS1 tab rfl rfl rfl rfl rfl (by omega) (by omega) rfl trivial rfl ?_
    refine Tr.loadS tab rfl rfl rfl (by repeat (first | exact .head _ | refine .tail _ ?_ | refine List.mem_append_right _ ?_)) (by first | rfl | with_reducible assumption | assumption | (simp; done)) rfl trivial rfl ?_
    refine Tr.call rfl (f119_shr _ 3 (by decide)) (by repeat (first | exact Has.nil | refine Has.cons (by repeat (first | exact .head _ | refine .tail _ ?_ | refine List.mem_append_right _ ?_)) ?_)) rfl trivial rfl ?_
    refine Tr.call rfl (f76_xor _ _) (by repeat (first | exact Has.nil | refine Has.cons (by repeat (first | exact .head _ | refine .tail _ ?_ | refine List.mem_append_right _ ?_)) ?_)) rfl trivial rfl ?_
    refine Tr.assign rfl rfl trivial rfl ?_
    refine Tr.nil ?_ (fun _ => rfl) (List.Perm.refl _)
    refine Wp.seq ?_
    refine Wp.regE kindOf mo (by kernel_rfl) ?_
    refine Tr.move rfl rfl trivial rfl ?_
    refine Tr.move rfl rfl trivial rfl ?_
    refine Tr.sub rfl rfl (by first | exact wrap_i64 (by omega) (by omega) | rfl) rfl trivial rfl ?_
    first | refine Tr.indexAddrS01 tab rfl rfl rfl rfl rfl (by omega) (by omega) rfl trivial rfl ?_ | refine Tr.indexAddrS1 tab rfl rfl rfl rfl rfl (by omega) (by omega) rfl trivial rfl ?_
    refine Tr.loadS tab rfl rfl rfl (by repeat (first | exact .head _ | refine .tail _ ?_ | refine List.mem_append_right _ ?_)) (by first | rfl | with_reducible assumption | assumption | (simp; done)) rfl trivial rfl ?_
    refine Tr.call rfl (f118_rotr _ 17 (by decide) (by decide)) (by repeat (first | exact Has.nil | refine Has.cons (by repeat (first | exact .head _ | refine .tail _ ?_ | refine List.mem_append_right _ ?_)) ?_)) rfl trivial rfl ?_
    refine Tr.move rfl rfl trivial rfl ?_
    refine Tr.move rfl rfl trivial rfl ?_
    refine Tr.sub rfl rfl (by first | exact wrap_i64 (by omega) (by omega) | rfl) rfl trivial rfl ?_
    first | refine Tr.indexAddrS01 tab rfl rfl rfl rfl rfl (by omega) (by omega) rfl trivial rfl ?_ | refine Tr.indexAddrS1 tab rfl rfl rfl rfl rfl (by omega) (by omega) rfl trivial rfl ?_
    refine Tr.loadS tab rfl rfl rfl (by repeat (first | exact .head _ | refine .tail _ ?_ | refine List.mem_append_right _ ?_)) (by first | rfl | with_reducible assumption | assumption | (simp; done)) rfl trivial rfl ?_
    refine Tr.call rfl (f118_rotr _ 19 (by decide) (by decide)) (by repeat (first | exact Has.nil | refine Has.cons (by repeat (first | exact .head _ | refine .tail _ ?_ | refine List.mem_append_right _ ?_)) ?_)) rfl trivial rfl ?_
    refine Tr.call rfl (f76_xor _ _) (by repeat (first | exact Has.nil | refine Has.cons (by repeat (first | exact .head _ | refine .tail _ ?_ | refine List.mem_append_right _ ?_)) ?_)) rfl trivial rfl ?_
    refine Tr.move rfl rfl trivial rfl ?_
    refine Tr.move rfl rfl trivial rfl ?_
    refine Tr.sub rfl rfl (by first | exact wrap_i64 (by omega) (by omega) | rfl) rfl trivial rfl ?_
    first | refine Tr.indexAddrS01 tab rfl rfl rfl rfl rfl (by omega) (by omega) rfl trivial rfl ?_ | refine Tr.indexAddrS1 tab rfl rfl rfl rfl rfl (by omega) (by omega) rfl trivial rfl ?_
    refine Tr.loadS tab rfl rfl rfl (by repeat (first | exact .head _ | refine .tail _ ?_ | refine List.mem_append_right _ ?_)) (by first | rfl | with_reducible assumption | assumption | (simp; done)) rfl trivial rfl ?_
    refine Tr.call rfl (f119_shr _ 10 (by decide)) (by repeat (first | exact Has.nil | refine Has.cons (by repeat (first | exact .head _ | refine .tail _ ?_ | refine List.mem_append_right _ ?_)) ?_)) rfl trivial rfl ?_
    refine Tr.call rfl (f76_xor _ _) (by repeat (first | exact Has.nil | refine Has.cons (by repeat (first | exact .head _ | refine .tail _ ?_ | refine List.mem_append_right _ ?_)) ?_)) rfl trivial rfl ?_
    refine Tr.assign rfl rfl trivial rfl ?_
    refine Tr.nil ?_ (fun _ => rfl) (List.Perm.refl _)
    refine Wp.regE kindOf mo (by kernel_rfl) ?_
    refine Tr.move rfl rfl trivial rfl ?_
    refine Tr.move rfl rfl trivial rfl ?_
    refine Tr.move rfl rfl trivial rfl ?_
    refine Tr.sub rfl rfl (by first | exact wrap_i64 (by omega) (by omega) | rfl) rfl trivial rfl ?_
    first | refine Tr.indexAddrS01 tab rfl rfl rfl rfl rfl (by omega) (by omega) rfl trivial rfl ?_ | refine Tr.indexAddrS1 tab rfl rfl rfl rfl rfl (by omega) (by omega) rfl trivial rfl ?_
    refine Tr.loadS tab rfl rfl rfl (by repeat (first | exact .head _ | refine .tail _ ?_ | refine List.mem_append_right _ ?_)) (by first | rfl | with_reducible assumption | assumption | (simp; done)) rfl trivial rfl ?_
    refine Tr.move rfl rfl trivial rfl ?_
    refine Tr.add rfl rfl (by first | exact wrap_i64 (by omega) (by omega) | rfl) rfl trivial rfl ?_
    refine Tr.move rfl rfl trivial rfl ?_
    refine Tr.move rfl rfl trivial rfl ?_
    refine Tr.sub rfl rfl (by first | exact wrap_i64 (by omega) (by omega) | rfl) rfl trivial rfl ?_
    first | refine Tr.indexAddrS01 tab rfl rfl rfl rfl rfl (by omega) (by omega) rfl trivial rfl ?_ | refine Tr.indexAddrS1 tab rfl rfl rfl rfl rfl (by omega) (by omega) rfl trivial rfl ?_
    refine Tr.loadS tab rfl rfl rfl (by repeat (first | exact .head _ | refine .tail _ ?_ | refine List.mem_append_right _ ?_)) (by first | rfl | with_reducible assumption | assumption | (simp; done)) rfl trivial rfl ?_
    refine Tr.add rfl rfl (by first | exact wrap_i64 (by omega) (by omega) | rfl) rfl trivial rfl ?_
    refine Tr.move rfl rfl trivial rfl ?_
    refine Tr.add rfl rfl (by first | exact wrap_i64 (by omega) (by omega) | rfl) rfl trivial rfl ?_
    refine Tr.rem rfl rfl (by omega) rfl rfl trivial rfl ?_
    refine Tr.buildSlice tab rfl rfl rfl rfl rfl rfl (by simp [fillC, splice, vcells, Value.cells, zrep_one]; rfl) rfl trivial rfl (fun _ _ => ?_)
    refine Tr.appendO tab rfl (by repeat (first | exact .here | apply Pick.there | apply Pick.append)) rfl rfl rfl rfl rfl (SrcOf.row (by repeat (first | exact .head _ | refine .tail _ ?_ | refine List.mem_append_right _ ?_)) (by first | exact At.all _ | with_reducible assumption | assumption) (by first | with_reducible rfl | with_reducible assumption | (simp; done) | (simp; omega) | rfl)) (by first | with_reducible assumption | rfl | (simp [Value.oneCell']; done)) rfl rfl rfl rfl (by simp) (by simp [hlen']; omega) (by simp [hlen']; omega) rfl trivial rfl (fun b1 pre1 sp1 => ?_)
    refine Tr.assign rfl rfl trivial rfl ?_
    refine Tr.nil ?_ (fun _ => rfl) (List.Perm.refl _)
    refine Wp.reg allGen ?_
    refine Tr.move rfl rfl trivial rfl ?_
    refine Tr.add rfl rfl (by first | exact wrap_i64 (by omega) (by omega) | rfl) rfl trivial rfl ?_
    refine Tr.assign rfl rfl trivial rfl ?_
    refine Tr.nil ?_ (fun _ => rfl) (List.Perm.refl _)
    exact WpL.weak (hih b1 pre1 sp1) (Wk.mk (by simp only [List.length_append]; exact (by repeat (first | exact ESub.nil | refine ESub.cons rfl (by first | rfl | (simp; done) | (simp; omega)) ?_))) (by repeat (first | exact MSub.nil | refine MSub.cons (by repeat (first | exact .here | apply Pick.there | apply Pick.append)) (by first | rfl | (simp; done)) ?_)))

theorem f75_words (d : List UInt8) (hd : d.length = 64) (bb bo cp : Nat) (cb : List Value) (hb : At cb bo (u8s d)) :
    FnG Try.prog 75 [.slice (some ⟨bb, bo, none⟩) 64 cp] [⟨bb, cb, false⟩] (fun v es => Fresh (w32s (wS d 64)) v es) := by
  refine fnG_of 97 rfl Try.func75 rfl (by kernel_rfl) rfl (by simp) fun w => ?_
  refine Wp.seq ?_
  refine Wp.reg allGen ?_
  refine Tr.assign rfl rfl trivial rfl ?_
  refine Tr.nil ?_ (fun _ => rfl) (List.Perm.refl _)
  refine Wp.seq ?_
  refine Wp.reg allGen ?_
  refine Tr.assign rfl rfl trivial rfl ?_
  refine Tr.nil ?_ (fun _ => rfl) (List.Perm.refl _)
  refine Wp.seq ?_
  refine Wp.seq ?_
  refine Wp.reg allGen ?_
  refine Tr.assign rfl rfl trivial rfl ?_
  refine Tr.nil ?_ (fun _ => rfl) (List.Perm.refl _)
  refine Wp.block ?_
  refine Wp.loopQ (words_loop1 rfl d hd bb bo cp cb false hb 16 0 rfl (.slice none 0 0) [] Fresh.nil) (Wk.mk (by repeat (first | exact ESub.nil | refine ESub.cons rfl (by first | rfl | (simp; done) | (simp; omega)) ?_)) (by repeat (first | exact MSub.nil | refine MSub.cons (by repeat (first | exact .here | apply Pick.there | apply Pick.append)) (by first | rfl | (simp; done)) ?_))) ?_
  rintro _ env1 mem1 ⟨rfl, v1, es1, hf1, hk1⟩
  refine Wp.weak ?_ hk1
  obtain ⟨b1, pre1, sp1, rfl, rfl⟩ := hf1.row' (by simp [wS_len])
  refine Wp.seq ?_
  refine Wp.seq ?_
  refine Wp.reg allGen ?_
  refine Tr.assign rfl rfl trivial rfl ?_
  refine Tr.nil ?_ (fun _ => rfl) (List.Perm.refl _)
  refine Wp.block ?_
  refine Wp.loopQ (words_loop2 rfl d 48 16 rfl (by decide) b1 pre1 sp1) (Wk.mk (by repeat (first | exact ESub.nil | refine ESub.cons rfl (by first | rfl | (simp; done) | (simp; omega)) ?_)) (by repeat (first | exact MSub.nil | refine MSub.cons (by repeat (first | exact .here | apply Pick.there | apply Pick.append)) (by first | rfl | (simp; done)) ?_))) ?_
  rintro _ env2 mem2 ⟨rfl, v2, es2, hf2, hk2⟩
  refine Wp.weak ?_ hk2
  refine Wp.seq ?_
  refine Wp.reg allGen ?_
  refine Tr.move rfl rfl trivial rfl ?_
  refine Tr.assign rfl rfl trivial rfl ?_
  refine Tr.nil ?_ (fun _ => rfl) (List.Perm.refl _)
  refine Wp.ret ?_
  exact ⟨.inr rfl, _, _, hf2, .r1 rfl (RvIs.tmp rfl), MSub.refl _, hf2.rw⟩
end Go.Proofs.Ytffghaeaohabhaa.AW
