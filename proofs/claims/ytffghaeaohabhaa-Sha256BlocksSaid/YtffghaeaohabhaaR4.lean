import Derived.Test.YtffghaeaohabhaaR3
namespace Go.Proofs.Ytffghaeaohabhaa.AW
open Go
set_option maxRecDepth 100000

/-! ### Block -/
def loop38a : Code := (Code.seq (Code.seq (Code.region 5 #[{ dst := (some 21), op := (Op.move (Operand.tmp 9)), type := 3, pos := "ref.go:195", after := #[], guard := none }, { dst := (some 22), op := (Op.binOp BinOp.lss 3 (Operand.tmp 21) (Operand.const (Value.int IntKind.i64 64)) 3), type := 4, pos := "ref.go:195", after := #[{ on := 0, ground := Ground.data }], guard := none }] false) (Code.cond (Operand.tmp 22) Code.skip (Code.exit 0))) (Code.seq (Code.block 1 (Code.seq (Code.region 7 #[{ dst := (some 25), op := (Op.move (Operand.tmp 8)), type := 22, pos := "ref.go:196", after := #[], guard := none }, { dst := (some 26), op := (Op.indexAddr 22 (Operand.tmp 25) (Operand.const (Value.int IntKind.i64 4))), type := 0, pos := "ref.go:196", after := #[{ on := 0, ground := Ground.data }], guard := none }, { dst := (some 27), op := (Op.load 3 (Operand.tmp 26)), type := 3, pos := "ref.go:196", after := #[{ on := 1, ground := Ground.data }], guard := none }, { dst := (some 28), op := (Op.move (Operand.tmp 8)), type := 22, pos := "ref.go:196", after := #[], guard := none }, { dst := (some 29), op := (Op.indexAddr 22 (Operand.tmp 28) (Operand.const (Value.int IntKind.i64 5))), type := 0, pos := "ref.go:196", after := #[{ on := 3, ground := Ground.data }], guard := none }, { dst := (some 30), op := (Op.load 3 (Operand.tmp 29)), type := 3, pos := "ref.go:196", after := #[{ on := 4, ground := Ground.data }], guard := none }, { dst := (some 31), op := (Op.call { callee := (Callee.value (Operand.func 77)), args := #[(Operand.tmp 27), (Operand.tmp 30)], argTypes := #[3, 3] }), type := 3, pos := "ref.go:196", after := #[{ on := 2, ground := Ground.data }, { on := 5, ground := Ground.data }], guard := none }, { dst := (some 32), op := (Op.move (Operand.tmp 8)), type := 22, pos := "ref.go:196", after := #[], guard := none }, { dst := (some 33), op := (Op.indexAddr 22 (Operand.tmp 32) (Operand.const (Value.int IntKind.i64 4))), type := 0, pos := "ref.go:196", after := #[{ on := 7, ground := Ground.data }], guard := none }, { dst := (some 34), op := (Op.load 3 (Operand.tmp 33)), type := 3, pos := "ref.go:196", after := #[{ on := 8, ground := Ground.data }], guard := none }, { dst := (some 35), op := (Op.call { callee := (Callee.value (Operand.func 78)), args := #[(Operand.tmp 34)], argTypes := #[3] }), type := 3, pos := "ref.go:196", after := #[{ on := 9, ground := Ground.data }, { on := 6, ground := Ground.chain }], guard := none }, { dst := (some 36), op := (Op.move (Operand.tmp 8)), type := 22, pos := "ref.go:196", after := #[], guard := none }, { dst := (some 37), op := (Op.indexAddr 22 (Operand.tmp 36) (Operand.const (Value.int IntKind.i64 6))), type := 0, pos := "ref.go:196", after := #[{ on := 11, ground := Ground.data }], guard := none }, { dst := (some 38), op := (Op.load 3 (Operand.tmp 37)), type := 3, pos := "ref.go:196", after := #[{ on := 12, ground := Ground.data }], guard := none }, { dst := (some 39), op := (Op.call { callee := (Callee.value (Operand.func 77)), args := #[(Operand.tmp 35), (Operand.tmp 38)], argTypes := #[3, 3] }), type := 3, pos := "ref.go:196", after := #[{ on := 10, ground := Ground.data }, { on := 13, ground := Ground.data }, { on := 10, ground := Ground.chain }], guard := none }, { dst := (some 40), op := (Op.call { callee := (Callee.value (Operand.func 76)), args := #[(Operand.tmp 31), (Operand.tmp 39)], argTypes := #[3, 3] }), type := 3, pos := "ref.go:196", after := #[{ on := 6, ground := Ground.data }, { on := 14, ground := Ground.data }, { on := 14, ground := Ground.chain }], guard := none }, { dst := (some 10), op := (Op.assign (Operand.tmp 40)), type := 3, pos := "ref.go:196", after := #[{ on := 15, ground := Ground.data }, { on := 15, ground := Ground.chain }, { on := 0, ground := Ground.phase }, { on := 1, ground := Ground.phase }, { on := 2, ground := Ground.phase }, { on := 3, ground := Ground.phase }, { on := 4, ground := Ground.phase }, { on := 5, ground := Ground.phase }, { on := 6, ground := Ground.phase }, { on := 7, ground := Ground.phase }, { on := 8, ground := Ground.phase }, { on := 9, ground := Ground.phase }, { on := 10, ground := Ground.phase }, { on := 11, ground := Ground.phase }, { on := 12, ground := Ground.phase }, { on := 13, ground := Ground.phase }, { on := 14, ground := Ground.phase }, { on := 15, ground := Ground.phase }], guard := none }] true) (Code.seq (Code.region 8 #[{ dst := (some 41), op := (Op.move (Operand.tmp 8)), type := 22, pos := "ref.go:197", after := #[], guard := none }, { dst := (some 42), op := (Op.indexAddr 22 (Operand.tmp 41) (Operand.const (Value.int IntKind.i64 0))), type := 0, pos := "ref.go:197", after := #[{ on := 0, ground := Ground.data }], guard := none }, { dst := (some 43), op := (Op.load 3 (Operand.tmp 42)), type := 3, pos := "ref.go:197", after := #[{ on := 1, ground := Ground.data }], guard := none }, { dst := (some 44), op := (Op.move (Operand.tmp 8)), type := 22, pos := "ref.go:197", after := #[], guard := none }, { dst := (some 45), op := (Op.indexAddr 22 (Operand.tmp 44) (Operand.const (Value.int IntKind.i64 1))), type := 0, pos := "ref.go:197", after := #[{ on := 3, ground := Ground.data }], guard := none }, { dst := (some 46), op := (Op.load 3 (Operand.tmp 45)), type := 3, pos := "ref.go:197", after := #[{ on := 4, ground := Ground.data }], guard := none }, { dst := (some 47), op := (Op.call { callee := (Callee.value (Operand.func 77)), args := #[(Operand.tmp 43), (Operand.tmp 46)], argTypes := #[3, 3] }), type := 3, pos := "ref.go:197", after := #[{ on := 2, ground := Ground.data }, { on := 5, ground := Ground.data }], guard := none }, { dst := (some 48), op := (Op.move (Operand.tmp 8)), type := 22, pos := "ref.go:197", after := #[], guard := none }, { dst := (some 49), op := (Op.indexAddr 22 (Operand.tmp 48) (Operand.const (Value.int IntKind.i64 0))), type := 0, pos := "ref.go:197", after := #[{ on := 7, ground := Ground.data }], guard := none }, { dst := (some 50), op := (Op.load 3 (Operand.tmp 49)), type := 3, pos := "ref.go:197", after := #[{ on := 8, ground := Ground.data }], guard := none }, { dst := (some 51), op := (Op.move (Operand.tmp 8)), type := 22, pos := "ref.go:197", after := #[], guard := none }, { dst := (some 52), op := (Op.indexAddr 22 (Operand.tmp 51) (Operand.const (Value.int IntKind.i64 2))), type := 0, pos := "ref.go:197", after := #[{ on := 10, ground := Ground.data }], guard := none }, { dst := (some 53), op := (Op.load 3 (Operand.tmp 52)), type := 3, pos := "ref.go:197", after := #[{ on := 11, ground := Ground.data }], guard := none }, { dst := (some 54), op := (Op.call { callee := (Callee.value (Operand.func 77)), args := #[(Operand.tmp 50), (Operand.tmp 53)], argTypes := #[3, 3] }), type := 3, pos := "ref.go:197", after := #[{ on := 9, ground := Ground.data }, { on := 12, ground := Ground.data }, { on := 6, ground := Ground.chain }], guard := none }, { dst := (some 55), op := (Op.call { callee := (Callee.value (Operand.func 76)), args := #[(Operand.tmp 47), (Operand.tmp 54)], argTypes := #[3, 3] }), type := 3, pos := "ref.go:197", after := #[{ on := 6, ground := Ground.data }, { on := 13, ground := Ground.data }, { on := 13, ground := Ground.chain }], guard := none }, { dst := (some 56), op := (Op.move (Operand.tmp 8)), type := 22, pos := "ref.go:197", after := #[], guard := none }, { dst := (some 57), op := (Op.indexAddr 22 (Operand.tmp 56) (Operand.const (Value.int IntKind.i64 1))), type := 0, pos := "ref.go:197", after := #[{ on := 15, ground := Ground.data }], guard := none }, { dst := (some 58), op := (Op.load 3 (Operand.tmp 57)), type := 3, pos := "ref.go:197", after := #[{ on := 16, ground := Ground.data }], guard := none }, { dst := (some 59), op := (Op.move (Operand.tmp 8)), type := 22, pos := "ref.go:197", after := #[], guard := none }, { dst := (some 60), op := (Op.indexAddr 22 (Operand.tmp 59) (Operand.const (Value.int IntKind.i64 2))), type := 0, pos := "ref.go:197", after := #[{ on := 18, ground := Ground.data }], guard := none }, { dst := (some 61), op := (Op.load 3 (Operand.tmp 60)), type := 3, pos := "ref.go:197", after := #[{ on := 19, ground := Ground.data }], guard := none }, { dst := (some 62), op := (Op.call { callee := (Callee.value (Operand.func 77)), args := #[(Operand.tmp 58), (Operand.tmp 61)], argTypes := #[3, 3] }), type := 3, pos := "ref.go:197", after := #[{ on := 17, ground := Ground.data }, { on := 20, ground := Ground.data }, { on := 14, ground := Ground.chain }], guard := none }, { dst := (some 63), op := (Op.call { callee := (Callee.value (Operand.func 76)), args := #[(Operand.tmp 55), (Operand.tmp 62)], argTypes := #[3, 3] }), type := 3, pos := "ref.go:197", after := #[{ on := 14, ground := Ground.data }, { on := 21, ground := Ground.data }, { on := 21, ground := Ground.chain }], guard := none }, { dst := (some 11), op := (Op.assign (Operand.tmp 63)), type := 3, pos := "ref.go:197", after := #[{ on := 22, ground := Ground.data }, { on := 22, ground := Ground.chain }, { on := 0, ground := Ground.phase }, { on := 1, ground := Ground.phase }, { on := 2, ground := Ground.phase }, { on := 3, ground := Ground.phase }, { on := 4, ground := Ground.phase }, { on := 5, ground := Ground.phase }, { on := 6, ground := Ground.phase }, { on := 7, ground := Ground.phase }, { on := 8, ground := Ground.phase }, { on := 9, ground := Ground.phase }, { on := 10, ground := Ground.phase }, { on := 11, ground := Ground.phase }, { on := 12, ground := Ground.phase }, { on := 13, ground := Ground.phase }, { on := 14, ground := Ground.phase }, { on := 15, ground := Ground.phase }, { on := 16, ground := Ground.phase }, { on := 17, ground := Ground.phase }, { on := 18, ground := Ground.phase }, { on := 19, ground := Ground.phase }, { on := 20, ground := Ground.phase }, { on := 21, ground := Ground.phase }, { on := 22, ground := Ground.phase }], guard := none }] true) (Code.seq (Code.region 9 #[{ dst := (some 64), op := (Op.move (Operand.tmp 8)), type := 22, pos := "ref.go:198", after := #[], guard := none }, { dst := (some 65), op := (Op.indexAddr 22 (Operand.tmp 64) (Operand.const (Value.int IntKind.i64 7))), type := 0, pos := "ref.go:198", after := #[{ on := 0, ground := Ground.data }], guard := none }, { dst := (some 66), op := (Op.load 3 (Operand.tmp 65)), type := 3, pos := "ref.go:198", after := #[{ on := 1, ground := Ground.data }], guard := none }, { dst := (some 67), op := (Op.move (Operand.tmp 8)), type := 22, pos := "ref.go:198", after := #[], guard := none }, { dst := (some 68), op := (Op.indexAddr 22 (Operand.tmp 67) (Operand.const (Value.int IntKind.i64 4))), type := 0, pos := "ref.go:198", after := #[{ on := 3, ground := Ground.data }], guard := none }, { dst := (some 69), op := (Op.load 3 (Operand.tmp 68)), type := 3, pos := "ref.go:198", after := #[{ on := 4, ground := Ground.data }], guard := none }, { dst := (some 70), op := (Op.call { callee := (Callee.value (Operand.func 79)), args := #[(Operand.tmp 69), (Operand.const (Value.int IntKind.i64 6)), (Operand.const (Value.int IntKind.i64 11)), (Operand.const (Value.int IntKind.i64 25))], argTypes := #[3, 3, 3, 3] }), type := 3, pos := "ref.go:198", after := #[{ on := 5, ground := Ground.data }], guard := none }, { dst := (some 71), op := (Op.binOp BinOp.add 3 (Operand.tmp 66) (Operand.tmp 70) 3), type := 3, pos := "ref.go:198", after := #[{ on := 2, ground := Ground.data }, { on := 6, ground := Ground.data }], guard := none }, { dst := (some 72), op := (Op.move (Operand.tmp 10)), type := 3, pos := "ref.go:198", after := #[], guard := none }, { dst := (some 73), op := (Op.binOp BinOp.add 3 (Operand.tmp 71) (Operand.tmp 72) 3), type := 3, pos := "ref.go:198", after := #[{ on := 7, ground := Ground.data }, { on := 8, ground := Ground.data }], guard := none }, { dst := (some 74), op := (Op.move (Operand.tmp 0)), type := 22, pos := "ref.go:198", after := #[], guard := none }, { dst := (some 75), op := (Op.move (Operand.tmp 9)), type := 3, pos := "ref.go:198", after := #[], guard := none }, { dst := (some 76), op := (Op.indexAddr 22 (Operand.tmp 74) (Operand.tmp 75)), type := 0, pos := "ref.go:198", after := #[{ on := 10, ground := Ground.data }, { on := 11, ground := Ground.data }], guard := none }, { dst := (some 77), op := (Op.load 3 (Operand.tmp 76)), type := 3, pos := "ref.go:198", after := #[{ on := 12, ground := Ground.data }], guard := none }, { dst := (some 78), op := (Op.binOp BinOp.add 3 (Operand.tmp 73) (Operand.tmp 77) 3), type := 3, pos := "ref.go:198", after := #[{ on := 9, ground := Ground.data }, { on := 13, ground := Ground.data }], guard := none }, { dst := (some 79), op := (Op.move (Operand.tmp 7)), type := 22, pos := "ref.go:198", after := #[], guard := none }, { dst := (some 80), op := (Op.move (Operand.tmp 9)), type := 3, pos := "ref.go:198", after := #[], guard := none }, { dst := (some 81), op := (Op.indexAddr 22 (Operand.tmp 79) (Operand.tmp 80)), type := 0, pos := "ref.go:198", after := #[{ on := 15, ground := Ground.data }, { on := 16, ground := Ground.data }], guard := none }, { dst := (some 82), op := (Op.load 3 (Operand.tmp 81)), type := 3, pos := "ref.go:198", after := #[{ on := 17, ground := Ground.data }], guard := none }, { dst := (some 83), op := (Op.binOp BinOp.add 3 (Operand.tmp 78) (Operand.tmp 82) 3), type := 3, pos := "ref.go:198", after := #[{ on := 14, ground := Ground.data }, { on := 18, ground := Ground.data }], guard := none }, { dst := (some 12), op := (Op.assign (Operand.tmp 83)), type := 3, pos := "ref.go:198", after := #[{ on := 19, ground := Ground.data }, { on := 6, ground := Ground.chain }, { on := 0, ground := Ground.phase }, { on := 1, ground := Ground.phase }, { on := 2, ground := Ground.phase }, { on := 3, ground := Ground.phase }, { on := 4, ground := Ground.phase }, { on := 5, ground := Ground.phase }, { on := 6, ground := Ground.phase }, { on := 7, ground := Ground.phase }, { on := 8, ground := Ground.phase }, { on := 9, ground := Ground.phase }, { on := 10, ground := Ground.phase }, { on := 11, ground := Ground.phase }, { on := 12, ground := Ground.phase }, { on := 13, ground := Ground.phase }, { on := 14, ground := Ground.phase }, { on := 15, ground := Ground.phase }, { on := 16, ground := Ground.phase }, { on := 17, ground := Ground.phase }, { on := 18, ground := Ground.phase }, { on := 19, ground := Ground.phase }], guard := none }] true) (Code.seq (Code.region 10 #[{ dst := (some 84), op := (Op.move (Operand.tmp 8)), type := 22, pos := "ref.go:199", after := #[], guard := none }, { dst := (some 85), op := (Op.indexAddr 22 (Operand.tmp 84) (Operand.const (Value.int IntKind.i64 0))), type := 0, pos := "ref.go:199", after := #[{ on := 0, ground := Ground.data }], guard := none }, { dst := (some 86), op := (Op.load 3 (Operand.tmp 85)), type := 3, pos := "ref.go:199", after := #[{ on := 1, ground := Ground.data }], guard := none }, { dst := (some 87), op := (Op.call { callee := (Callee.value (Operand.func 79)), args := #[(Operand.tmp 86), (Operand.const (Value.int IntKind.i64 2)), (Operand.const (Value.int IntKind.i64 13)), (Operand.const (Value.int IntKind.i64 22))], argTypes := #[3, 3, 3, 3] }), type := 3, pos := "ref.go:199", after := #[{ on := 2, ground := Ground.data }], guard := none }, { dst := (some 88), op := (Op.move (Operand.tmp 11)), type := 3, pos := "ref.go:199", after := #[], guard := none }, { dst := (some 89), op := (Op.binOp BinOp.add 3 (Operand.tmp 87) (Operand.tmp 88) 3), type := 3, pos := "ref.go:199", after := #[{ on := 3, ground := Ground.data }, { on := 4, ground := Ground.data }], guard := none }, { dst := (some 13), op := (Op.assign (Operand.tmp 89)), type := 3, pos := "ref.go:199", after := #[{ on := 5, ground := Ground.data }, { on := 3, ground := Ground.chain }, { on := 0, ground := Ground.phase }, { on := 1, ground := Ground.phase }, { on := 2, ground := Ground.phase }, { on := 3, ground := Ground.phase }, { on := 4, ground := Ground.phase }, { on := 5, ground := Ground.phase }], guard := none }] false) (Code.region 11 #[{ dst := (some 90), op := (Op.move (Operand.tmp 12)), type := 3, pos := "ref.go:200", after := #[], guard := none }, { dst := (some 91), op := (Op.move (Operand.tmp 13)), type := 3, pos := "ref.go:200", after := #[], guard := none }, { dst := (some 92), op := (Op.binOp BinOp.add 3 (Operand.tmp 90) (Operand.tmp 91) 3), type := 3, pos := "ref.go:200", after := #[{ on := 0, ground := Ground.data }, { on := 1, ground := Ground.data }], guard := none }, { dst := (some 93), op := (Op.binOp BinOp.rem 3 (Operand.tmp 92) (Operand.const (Value.int IntKind.i64 4294967296)) 3), type := 3, pos := "ref.go:200", after := #[{ on := 2, ground := Ground.data }], guard := none }, { dst := (some 94), op := (Op.move (Operand.tmp 8)), type := 22, pos := "ref.go:200", after := #[], guard := none }, { dst := (some 95), op := (Op.indexAddr 22 (Operand.tmp 94) (Operand.const (Value.int IntKind.i64 0))), type := 0, pos := "ref.go:200", after := #[{ on := 4, ground := Ground.data }], guard := none }, { dst := (some 96), op := (Op.load 3 (Operand.tmp 95)), type := 3, pos := "ref.go:200", after := #[{ on := 5, ground := Ground.data }], guard := none }, { dst := (some 97), op := (Op.move (Operand.tmp 8)), type := 22, pos := "ref.go:200", after := #[], guard := none }, { dst := (some 98), op := (Op.indexAddr 22 (Operand.tmp 97) (Operand.const (Value.int IntKind.i64 1))), type := 0, pos := "ref.go:200", after := #[{ on := 7, ground := Ground.data }], guard := none }, { dst := (some 99), op := (Op.load 3 (Operand.tmp 98)), type := 3, pos := "ref.go:200", after := #[{ on := 8, ground := Ground.data }], guard := none }, { dst := (some 100), op := (Op.move (Operand.tmp 8)), type := 22, pos := "ref.go:200", after := #[], guard := none }, { dst := (some 101), op := (Op.indexAddr 22 (Operand.tmp 100) (Operand.const (Value.int IntKind.i64 2))), type := 0, pos := "ref.go:200", after := #[{ on := 10, ground := Ground.data }], guard := none }, { dst := (some 102), op := (Op.load 3 (Operand.tmp 101)), type := 3, pos := "ref.go:200", after := #[{ on := 11, ground := Ground.data }], guard := none }, { dst := (some 103), op := (Op.move (Operand.tmp 8)), type := 22, pos := "ref.go:200", after := #[], guard := none }, { dst := (some 104), op := (Op.indexAddr 22 (Operand.tmp 103) (Operand.const (Value.int IntKind.i64 3))), type := 0, pos := "ref.go:200", after := #[{ on := 13, ground := Ground.data }], guard := none }, { dst := (some 105), op := (Op.load 3 (Operand.tmp 104)), type := 3, pos := "ref.go:200", after := #[{ on := 14, ground := Ground.data }], guard := none }, { dst := (some 106), op := (Op.move (Operand.tmp 12)), type := 3, pos := "ref.go:200", after := #[], guard := none }, { dst := (some 107), op := (Op.binOp BinOp.add 3 (Operand.tmp 105) (Operand.tmp 106) 3), type := 3, pos := "ref.go:200", after := #[{ on := 15, ground := Ground.data }, { on := 16, ground := Ground.data }], guard := none }, { dst := (some 108), op := (Op.binOp BinOp.rem 3 (Operand.tmp 107) (Operand.const (Value.int IntKind.i64 4294967296)) 3), type := 3, pos := "ref.go:200", after := #[{ on := 17, ground := Ground.data }], guard := none }, { dst := (some 109), op := (Op.move (Operand.tmp 8)), type := 22, pos := "ref.go:200", after := #[], guard := none }, { dst := (some 110), op := (Op.indexAddr 22 (Operand.tmp 109) (Operand.const (Value.int IntKind.i64 4))), type := 0, pos := "ref.go:200", after := #[{ on := 19, ground := Ground.data }], guard := none }, { dst := (some 111), op := (Op.load 3 (Operand.tmp 110)), type := 3, pos := "ref.go:200", after := #[{ on := 20, ground := Ground.data }], guard := none }, { dst := (some 112), op := (Op.move (Operand.tmp 8)), type := 22, pos := "ref.go:200", after := #[], guard := none }, { dst := (some 113), op := (Op.indexAddr 22 (Operand.tmp 112) (Operand.const (Value.int IntKind.i64 5))), type := 0, pos := "ref.go:200", after := #[{ on := 22, ground := Ground.data }], guard := none }, { dst := (some 114), op := (Op.load 3 (Operand.tmp 113)), type := 3, pos := "ref.go:200", after := #[{ on := 23, ground := Ground.data }], guard := none }, { dst := (some 115), op := (Op.move (Operand.tmp 8)), type := 22, pos := "ref.go:200", after := #[], guard := none }, { dst := (some 116), op := (Op.indexAddr 22 (Operand.tmp 115) (Operand.const (Value.int IntKind.i64 6))), type := 0, pos := "ref.go:200", after := #[{ on := 25, ground := Ground.data }], guard := none }, { dst := (some 117), op := (Op.load 3 (Operand.tmp 116)), type := 3, pos := "ref.go:200", after := #[{ on := 26, ground := Ground.data }], guard := none }, { dst := (some 118), op := (Op.buildSlice 22 8 #[(0, (Operand.tmp 93)), (1, (Operand.tmp 96)), (2, (Operand.tmp 99)), (3, (Operand.tmp 102)), (4, (Operand.tmp 108)), (5, (Operand.tmp 111)), (6, (Operand.tmp 114)), (7, (Operand.tmp 117))]), type := 22, pos := "ref.go:200", after := #[{ on := 3, ground := Ground.data }, { on := 6, ground := Ground.data }, { on := 9, ground := Ground.data }, { on := 12, ground := Ground.data }, { on := 18, ground := Ground.data }, { on := 21, ground := Ground.data }, { on := 24, ground := Ground.data }, { on := 27, ground := Ground.data }], guard := none }, { dst := (some 8), op := (Op.assign (Operand.tmp 118)), type := 22, pos := "ref.go:200", after := #[{ on := 28, ground := Ground.data }, { on := 0, ground := Ground.phase }, { on := 1, ground := Ground.phase }, { on := 2, ground := Ground.phase }, { on := 3, ground := Ground.phase }, { on := 4, ground := Ground.phase }, { on := 5, ground := Ground.phase }, { on := 6, ground := Ground.phase }, { on := 7, ground := Ground.phase }, { on := 8, ground := Ground.phase }, { on := 9, ground := Ground.phase }, { on := 10, ground := Ground.phase }, { on := 11, ground := Ground.phase }, { on := 12, ground := Ground.phase }, { on := 13, ground := Ground.phase }, { on := 14, ground := Ground.phase }, { on := 15, ground := Ground.phase }, { on := 16, ground := Ground.phase }, { on := 17, ground := Ground.phase }, { on := 18, ground := Ground.phase }, { on := 19, ground := Ground.phase }, { on := 20, ground := Ground.phase }, { on := 21, ground := Ground.phase }, { on := 22, ground := Ground.phase }, { on := 23, ground := Ground.phase }, { on := 24, ground := Ground.phase }, { on := 25, ground := Ground.phase }, { on := 26, ground := Ground.phase }, { on := 27, ground := Ground.phase }, { on := 28, ground := Ground.phase }], guard := none }] true)))))) (Code.region 6 #[{ dst := (some 23), op := (Op.move (Operand.tmp 9)), type := 3, pos := "ref.go:195", after := #[], guard := none }, { dst := (some 24), op := (Op.binOp BinOp.add 3 (Operand.tmp 23) (Operand.const (Value.int IntKind.i64 1)) 3), type := 3, pos := "ref.go:195", after := #[{ on := 0, ground := Ground.data }], guard := none }, { dst := (some 9), op := (Op.assign (Operand.tmp 24)), type := 3, pos := "ref.go:195", after := #[{ on := 1, ground := Ground.data }, { on := 0, ground := Ground.phase }, { on := 1, ground := Ground.phase }], guard := none }] false)))
def loop38b : Code := (Code.seq (Code.seq (Code.region 14 #[{ dst := (some 119), op := (Op.move (Operand.tmp 15)), type := 3, pos := "ref.go:203", after := #[], guard := none }, { dst := (some 120), op := (Op.binOp BinOp.lss 3 (Operand.tmp 119) (Operand.const (Value.int IntKind.i64 8)) 3), type := 4, pos := "ref.go:203", after := #[{ on := 0, ground := Ground.data }], guard := none }] false) (Code.cond (Operand.tmp 120) Code.skip (Code.exit 2))) (Code.seq (Code.block 3 (Code.region 16 #[{ dst := (some 123), op := (Op.move (Operand.tmp 14)), type := 22, pos := "ref.go:204", after := #[], guard := none }, { dst := (some 124), op := (Op.move (Operand.tmp 1)), type := 22, pos := "ref.go:204", after := #[], guard := none }, { dst := (some 125), op := (Op.move (Operand.tmp 15)), type := 3, pos := "ref.go:204", after := #[], guard := none }, { dst := (some 126), op := (Op.indexAddr 22 (Operand.tmp 124) (Operand.tmp 125)), type := 0, pos := "ref.go:204", after := #[{ on := 1, ground := Ground.data }, { on := 2, ground := Ground.data }], guard := none }, { dst := (some 127), op := (Op.load 3 (Operand.tmp 126)), type := 3, pos := "ref.go:204", after := #[{ on := 3, ground := Ground.data }], guard := none }, { dst := (some 128), op := (Op.move (Operand.tmp 8)), type := 22, pos := "ref.go:204", after := #[], guard := none }, { dst := (some 129), op := (Op.move (Operand.tmp 15)), type := 3, pos := "ref.go:204", after := #[], guard := none }, { dst := (some 130), op := (Op.indexAddr 22 (Operand.tmp 128) (Operand.tmp 129)), type := 0, pos := "ref.go:204", after := #[{ on := 5, ground := Ground.data }, { on := 6, ground := Ground.data }], guard := none }, { dst := (some 131), op := (Op.load 3 (Operand.tmp 130)), type := 3, pos := "ref.go:204", after := #[{ on := 7, ground := Ground.data }], guard := none }, { dst := (some 132), op := (Op.binOp BinOp.add 3 (Operand.tmp 127) (Operand.tmp 131) 3), type := 3, pos := "ref.go:204", after := #[{ on := 4, ground := Ground.data }, { on := 8, ground := Ground.data }], guard := none }, { dst := (some 133), op := (Op.binOp BinOp.rem 3 (Operand.tmp 132) (Operand.const (Value.int IntKind.i64 4294967296)) 3), type := 3, pos := "ref.go:204", after := #[{ on := 9, ground := Ground.data }], guard := none }, { dst := (some 134), op := (Op.buildSlice 22 1 #[(0, (Operand.tmp 133))]), type := 22, pos := "ref.go:204", after := #[{ on := 10, ground := Ground.data }], guard := none }, { dst := (some 135), op := (Op.call { callee := (Callee.builtin Builtin.append), args := #[(Operand.tmp 123), (Operand.tmp 134)], argTypes := #[22, 22] }), type := 22, pos := "ref.go:204", after := #[{ on := 0, ground := Ground.data }, { on := 11, ground := Ground.data }], guard := none }, { dst := (some 14), op := (Op.assign (Operand.tmp 135)), type := 22, pos := "ref.go:204", after := #[{ on := 12, ground := Ground.data }, { on := 12, ground := Ground.chain }, { on := 0, ground := Ground.phase }, { on := 1, ground := Ground.phase }, { on := 2, ground := Ground.phase }, { on := 3, ground := Ground.phase }, { on := 4, ground := Ground.phase }, { on := 5, ground := Ground.phase }, { on := 6, ground := Ground.phase }, { on := 7, ground := Ground.phase }, { on := 8, ground := Ground.phase }, { on := 9, ground := Ground.phase }, { on := 10, ground := Ground.phase }, { on := 11, ground := Ground.phase }, { on := 12, ground := Ground.phase }], guard := none }] true)) (Code.region 15 #[{ dst := (some 121), op := (Op.move (Operand.tmp 15)), type := 3, pos := "ref.go:203", after := #[], guard := none }, { dst := (some 122), op := (Op.binOp BinOp.add 3 (Operand.tmp 121) (Operand.const (Value.int IntKind.i64 1)) 3), type := 3, pos := "ref.go:203", after := #[{ on := 0, ground := Ground.data }], guard := none }, { dst := (some 15), op := (Op.assign (Operand.tmp 122)), type := 3, pos := "ref.go:203", after := #[{ on := 1, ground := Ground.data }, { on := 0, ground := Ground.phase }, { on := 1, ground := Ground.phase }], guard := none }] false)))

theorem t1_nat (q : W8) (k w : UInt32) : ((q.t1 k w).toNat : Int) = ((q.h.toNat : Int) + ((rotr q.e 6 ^^^ rotr q.e 11 ^^^ rotr q.e 25).toNat : Int) + ((q.e &&& q.f ^^^ ~~~ q.e &&& q.g).toNat : Int) + (k.toNat : Int) + (w.toNat : Int)) % 4294967296 := by
  unfold W8.t1
  rw [UInt32.toNat_add, UInt32.toNat_add, UInt32.toNat_add, UInt32.toNat_add]
  omega
theorem t2_nat (q : W8) : ((q.t2).toNat : Int) = (((rotr q.a 2 ^^^ rotr q.a 13 ^^^ rotr q.a 22).toNat : Int) + ((q.a &&& q.b ^^^ q.a &&& q.c ^^^ q.b &&& q.c).toNat : Int)) % 4294967296 := by
  unfold W8.t2
  rw [UInt32.toNat_add]
  omega

theorem rblock_loop1 {g : Gh} (hg : g.n = 137) (K W : List UInt32) (hK : K.length = 64) (hW : W.length = 64) (s : W8) (x1 : Value) (br ro cr' bw wo cw' : Nat) (cR cW : List Value) (rR rW : Bool) (hcR : At cR ro (w32s K)) (hcW : At cW wo (w32s W)) (R : List Ent) :
    ∀ (r i : Nat), i + r = 64 → ∀ (b off cp : Nat) (c : List Value), At c off (w32s (rndS K W s i).l) →
    WpL Try.prog g loop38a (fun e env mem => e = .exit 0 ∧ ∃ b off cp c, At c off (w32s (rndS K W s 64).l) ∧ Wk g env mem [(1, x1), (8, .slice (some ⟨b, off, none⟩) 8 cp)] (⟨b, c, true⟩ :: R))
      [(0, .slice (some ⟨br, ro, none⟩) 64 cr'), (1, x1), (7, .slice (some ⟨bw, wo, none⟩) 64 cw'), (8, .slice (some ⟨b, off, none⟩) 8 cp), (9, i64 i)]
      (⟨b, c, true⟩ :: ⟨bw, cW, rW⟩ :: ⟨br, cR, rR⟩ :: R) := by
  obtain ⟨gn, w0, may⟩ := g
  obtain rfl : gn = 137 := hg
  intro r
  induction r with
  | zero =>
    intro i hi b off cp c hc
    obtain rfl : i = 64 := by omega
    refine WpL.step ?_
    refine Wp.seq ?_
    refine Wp.seq ?_
    refine Wp.reg allGen ?_
    refine Tr.move rfl rfl trivial rfl ?_
    refine Tr.lss rfl rfl (by first | with_reducible assumption | exact decide_eq_true (by omega) | exact decide_eq_false (by omega) | exact beq_iff_eq.2 (by omega) | exact beq_eq_false_iff_ne.2 (by omega) | exact bne_iff_ne.2 (by omega) | rfl) rfl trivial rfl ?_
    refine Tr.nil ?_ (fun _ => rfl) (List.Perm.refl _)
    refine Wp.condF rfl ?_
    refine Wp.exit ?_
    exact ⟨rfl, b, off, cp, c, hc, ⟨fun a ha => EH.sub (ESub.sub (by repeat (first | exact ESub.nil | refine ESub.cons rfl (by first | rfl | (simp; done) | (simp; omega)) ?_))) a ha, MH.sub (MSub.cons .here rfl (MSub.drop (MSub.drop (MSub.refl _))))⟩⟩
  | succ r ih =>
    intro i hi b off cp c hc
    have gk := at_get w32 hcR 0 (j := i) (by omega) (k := (i : Int)) rfl
    have gw := at_get w32 hcW 0 (j := i) (by omega) (k := (i : Int)) rfl
    have hs : rndS K W s (i + 1) = (rndS K W s i).rnd (K.getD i 0) (W.getD i 0) := rfl
    have hih := ih (i + 1) (by omega)
    rw [hs] at hih
    generalize rndS K W s i = q at hih hc
    generalize K.getD i 0 = k at *
    generalize W.getD i 0 = w at *
    have g0 : c[off + ((0 : Int)).toNat]? = some (w32 q.a) := hc.get (j := 0) rfl
    have g1 : c[off + ((1 : Int)).toNat]? = some (w32 q.b) := hc.get (j := 1) rfl
    have g2 : c[off + ((2 : Int)).toNat]? = some (w32 q.c) := hc.get (j := 2) rfl
    have g3 : c[off + ((3 : Int)).toNat]? = some (w32 q.d) := hc.get (j := 3) rfl
    have g4 : c[off + ((4 : Int)).toNat]? = some (w32 q.e) := hc.get (j := 4) rfl
    have g5 : c[off + ((5 : Int)).toNat]? = some (w32 q.f) := hc.get (j := 5) rfl
    have g6 : c[off + ((6 : Int)).toNat]? = some (w32 q.g) := hc.get (j := 6) rfl
    have g7 : c[off + ((7 : Int)).toNat]? = some (w32 q.h) := hc.get (j := 7) rfl
    have n1 := t1_nat q k w
    have n2 := t2_nat q
    have m1 : (((q.t1 k w + q.t2).toNat : Nat) : Int) = (((q.h.toNat : Int) + ((rotr q.e 6 ^^^ rotr q.e 11 ^^^ rotr q.e 25).toNat : Int) + ((q.e &&& q.f ^^^ ~~~ q.e &&& q.g).toNat : Int) + (k.toNat : Int) + (w.toNat : Int)) +
        (((rotr q.a 2 ^^^ rotr q.a 13 ^^^ rotr q.a 22).toNat : Int) + ((q.a &&& q.b ^^^ q.a &&& q.c ^^^ q.b &&& q.c).toNat : Int))).tmod 4294967296 := by
      rw [UInt32.toNat_add, Int.tmod_eq_emod_of_nonneg (by omega)]; omega
    have m2 : (((q.d + q.t1 k w).toNat : Nat) : Int) = ((q.d.toNat : Int) + ((q.h.toNat : Int) + ((rotr q.e 6 ^^^ rotr q.e 11 ^^^ rotr q.e 25).toNat : Int) + ((q.e &&& q.f ^^^ ~~~ q.e &&& q.g).toNat : Int) + (k.toNat : Int) + (w.toNat : Int))).tmod 4294967296 := by
      rw [UInt32.toNat_add, Int.tmod_eq_emod_of_nonneg (by omega)]; omega
    have hrow : w32s (q.rnd k w).l = [i64 (((q.t1 k w + q.t2).toNat : Nat) : Int), w32 q.a, w32 q.b, w32 q.c, i64 (((q.d + q.t1 k w).toNat : Nat) : Int), w32 q.e, w32 q.f, w32 q.g] := rfl
    have hih' := fun b => hih b 0 8 _ (At.all _)
    rw [hrow, m1, m2] at hih'
    have bd := q.d.toNat_lt; have bh := q.h.toNat_lt; have bk := k.toNat_lt; have bw' := w.toNat_lt
    have b1 := (rotr q.e 6 ^^^ rotr q.e 11 ^^^ rotr q.e 25).toNat_lt
    have b2 := (q.e &&& q.f ^^^ ~~~ q.e &&& q.g).toNat_lt
    have b3 := (rotr q.a 2 ^^^ rotr q.a 13 ^^^ rotr q.a 22).toNat_lt
    have b4 := (q.a &&& q.b ^^^ q.a &&& q.c ^^^ q.b &&& q.c).toNat_lt
    refine WpL.step ?_
    refine Wp.seq ?_
    refine Wp.seq ?_
    refine Wp.reg allGen ?_
    refine Tr.move rfl rfl trivial rfl ?_
    refine Tr.lss rfl rfl (by first | with_reducible assumption | exact decide_eq_true (by omega) | exact decide_eq_false (by omega) | exact beq_iff_eq.2 (by omega) | exact beq_eq_false_iff_ne.2 (by omega) | exact bne_iff_ne.2 (by omega) | rfl) rfl trivial rfl ?_
    refine Tr.nil ?_ (fun _ => rfl) (List.Perm.refl _)
    refine Wp.condT rfl ?_
    refine Wp.skip ?_
    refine Wp.seq ?_
    refine Wp.block ?_
    refine Wp.seq ?_
    refine Wp.regE kindOf mo (by kernel_rfl) ?_
    refine Tr.move rfl rfl trivial rfl ?_
    first | refine Tr.indexAddrS01 tab rfl rfl rfl rfl rfl (by omega) (by omega) rfl trivial rfl ?_ | refine Tr.indexAddrS1 tab rfl rfl rfl rfl rfl (by omega) (by omega) rfl trivial rfl ?_
    refine Tr.loadS tab rfl rfl rfl (by repeat (first | exact .head _ | refine .tail _ ?_ | refine List.mem_append_right _ ?_)) (by first | rfl | with_reducible assumption | assumption | (simp; done)) rfl trivial rfl ?_
    refine Tr.move rfl rfl trivial rfl ?_
    first | refine Tr.indexAddrS01 tab rfl rfl rfl rfl rfl (by omega) (by omega) rfl trivial rfl ?_ | refine Tr.indexAddrS1 tab rfl rfl rfl rfl rfl (by omega) (by omega) rfl trivial rfl ?_
    refine Tr.loadS tab rfl rfl rfl (by repeat (first | exact .head _ | refine .tail _ ?_ | refine List.mem_append_right _ ?_)) (by first | rfl | with_reducible assumption | assumption | (simp; done)) rfl trivial rfl ?_
    refine Tr.call rfl (f77_and _ _) (by repeat (first | exact Has.nil | refine Has.cons (by repeat (first | exact .head _ | refine .tail _ ?_ | refine List.mem_append_right _ ?_)) ?_)) rfl trivial rfl ?_
    refine Tr.move rfl rfl trivial rfl ?_
    first | refine Tr.indexAddrS01 tab rfl rfl rfl rfl rfl (by omega) (by omega) rfl trivial rfl ?_ | refine Tr.indexAddrS1 tab rfl rfl rfl rfl rfl (by omega) (by omega) rfl trivial rfl ?_
    refine Tr.loadS tab rfl rfl rfl (by repeat (first | exact .head _ | refine .tail _ ?_ | refine List.mem_append_right _ ?_)) (by first | rfl | with_reducible assumption | assumption | (simp; done)) rfl trivial rfl ?_
    refine Tr.call rfl (f78_not _) (by repeat (first | exact Has.nil | refine Has.cons (by repeat (first | exact .head _ | refine .tail _ ?_ | refine List.mem_append_right _ ?_)) ?_)) rfl trivial rfl ?_
    refine Tr.move rfl rfl trivial rfl ?_
    first | refine Tr.indexAddrS01 tab rfl rfl rfl rfl rfl (by omega) (by omega) rfl trivial rfl ?_ | refine Tr.indexAddrS1 tab rfl rfl rfl rfl rfl (by omega) (by omega) rfl trivial rfl ?_
    refine Tr.loadS tab rfl rfl rfl (by repeat (first | exact .head _ | refine .tail _ ?_ | refine List.mem_append_right _ ?_)) (by first | rfl | with_reducible assumption | assumption | (simp; done)) rfl trivial rfl ?_
    refine Tr.call rfl (f77_and _ _) (by repeat (first | exact Has.nil | refine Has.cons (by repeat (first | exact .head _ | refine .tail _ ?_ | refine List.mem_append_right _ ?_)) ?_)) rfl trivial rfl ?_
    refine Tr.call rfl (f76_xor _ _) (by repeat (first | exact Has.nil | refine Has.cons (by repeat (first | exact .head _ | refine .tail _ ?_ | refine List.mem_append_right _ ?_)) ?_)) rfl trivial rfl ?_
    refine Tr.assign rfl rfl trivial rfl ?_
    refine Tr.nil ?_ (fun _ => rfl) (List.Perm.refl _)
    refine Wp.seq ?_
    refine Wp.regE kindOf mo (by kernel_rfl) ?_
    refine Tr.move rfl rfl trivial rfl ?_
    first | refine Tr.indexAddrS01 tab rfl rfl rfl rfl rfl (by omega) (by omega) rfl trivial rfl ?_ | refine Tr.indexAddrS1 tab rfl rfl rfl rfl rfl (by omega) (by omega) rfl trivial rfl ?_
    refine Tr.loadS tab rfl rfl rfl (by repeat (first | exact .head _ | refine .tail _ ?_ | refine List.mem_append_right _ ?_)) (by first | rfl | with_reducible assumption | assumption | (simp; done)) rfl trivial rfl ?_
    refine Tr.move rfl rfl trivial rfl ?_
    first | refine Tr.indexAddrS01 tab rfl rfl rfl rfl rfl (by omega) (by omega) rfl trivial rfl ?_ | refine Tr.indexAddrS1 tab rfl rfl rfl rfl rfl (by omega) (by omega) rfl trivial rfl ?_
    refine Tr.loadS tab rfl rfl rfl (by repeat (first | exact .head _ | refine .tail _ ?_ | refine List.mem_append_right _ ?_)) (by first | rfl | with_reducible assumption | assumption | (simp; done)) rfl trivial rfl ?_
    refine Tr.call rfl (f77_and _ _) (by repeat (first | exact Has.nil | refine Has.cons (by repeat (first | exact .head _ | refine .tail _ ?_ | refine List.mem_append_right _ ?_)) ?_)) rfl trivial rfl ?_
    refine Tr.move rfl rfl trivial rfl ?_
    first | refine Tr.indexAddrS01 tab rfl rfl rfl rfl rfl (by omega) (by omega) rfl trivial rfl ?_ | refine Tr.indexAddrS1 tab rfl rfl rfl rfl rfl (by omega) (by omega) rfl trivial rfl ?_
    refine Tr.loadS tab rfl rfl rfl (by repeat (first | exact .head _ | refine .tail _ ?_ | refine List.mem_append_right _ ?_)) (by first | rfl | with_reducible assumption | assumption | (simp; done)) rfl trivial rfl ?_
    refine Tr.move rfl rfl trivial rfl ?_
    first | refine Tr.indexAddrS01 tab rfl rfl rfl rfl rfl (by omega) (by omega) rfl trivial rfl ?_ | refine Tr.indexAddrS1 tab rfl rfl rfl rfl rfl (by omega) (by omega) rfl trivial rfl ?_
    refine Tr.loadS tab rfl rfl rfl (by repeat (first | exact .head _ | refine .tail _ ?_ | refine List.mem_append_right _ ?_)) (by first | rfl | with_reducible assumption | assumption | (simp; done)) rfl trivial rfl ?_
    refine Tr.call rfl (f77_and _ _) (by repeat (first | exact Has.nil | refine Has.cons (by repeat (first | exact .head _ | refine .tail _ ?_ | refine List.mem_append_right _ ?_)) ?_)) rfl trivial rfl ?_
    refine Tr.call rfl (f76_xor _ _) (by repeat (first | exact Has.nil | refine Has.cons (by repeat (first | exact .head _ | refine .tail _ ?_ | refine List.mem_append_right _ ?_)) ?_)) rfl trivial rfl ?_
    refine Tr.move rfl rfl trivial rfl ?_
    first | refine Tr.indexAddrS01 tab rfl rfl rfl rfl rfl (by omega) (by omega) rfl trivial rfl ?_ | refine Tr.indexAddrS1 tab rfl rfl rfl rfl rfl (by omega) (by omega) rfl trivial rfl ?_
    refine Tr.loadS tab rfl rfl rfl (by repeat (first | exact .head _ | refine .tail _ ?_ | refine List.mem_append_right _ ?_)) (by first | rfl | with_reducible assumption | assumption | (simp; done)) rfl trivial rfl ?_
    refine Tr.move rfl rfl trivial rfl ?_
    first | refine Tr.indexAddrS01 tab rfl rfl rfl rfl rfl (by omega) (by omega) rfl trivial rfl ?_ | refine Tr.indexAddrS1 tab rfl rfl rfl rfl rfl (by omega) (by omega) rfl trivial rfl ?_
    refine Tr.loadS tab rfl rfl rfl (by repeat (first | exact .head _ | refine .tail _ ?_ | refine List.mem_append_right _ ?_)) (by first | rfl | with_reducible assumption | assumption | (simp; done)) rfl trivial rfl ?_
    refine Tr.call rfl (f77_and _ _) (by repeat (first | exact Has.nil | refine Has.cons (by repeat (first | exact .head _ | refine .tail _ ?_ | refine List.mem_append_right _ ?_)) ?_)) rfl trivial rfl ?_
    refine Tr.call rfl (f76_xor _ _) (by repeat (first | exact Has.nil | refine Has.cons (by repeat (first | exact .head _ | refine .tail _ ?_ | refine List.mem_append_right _ ?_)) ?_)) rfl trivial rfl ?_
    refine Tr.assign rfl rfl trivial rfl ?_
    refine Tr.nil ?_ (fun _ => rfl) (List.Perm.refl _)
    refine Wp.seq ?_
    refine Wp.regE kindOf mo (by kernel_rfl) ?_
    refine Tr.move rfl rfl trivial rfl ?_
    first | refine Tr.indexAddrS01 tab rfl rfl rfl rfl rfl (by omega) (by omega) rfl trivial rfl ?_ | refine Tr.indexAddrS1 tab rfl rfl rfl rfl rfl (by omega) (by omega) rfl trivial rfl ?_
    refine Tr.loadS tab rfl rfl rfl (by repeat (first | exact .head _ | refine .tail _ ?_ | refine List.mem_append_right _ ?_)) (by first | rfl | with_reducible assumption | assumption | (simp; done)) rfl trivial rfl ?_
    refine Tr.move rfl rfl trivial rfl ?_
    first | refine Tr.indexAddrS01 tab rfl rfl rfl rfl rfl (by omega) (by omega) rfl trivial rfl ?_ | refine Tr.indexAddrS1 tab rfl rfl rfl rfl rfl (by omega) (by omega) rfl trivial rfl ?_
    refine Tr.loadS tab rfl rfl rfl (by repeat (first | exact .head _ | refine .tail _ ?_ | refine List.mem_append_right _ ?_)) (by first | rfl | with_reducible assumption | assumption | (simp; done)) rfl trivial rfl ?_
    refine Tr.call rfl (f79_three _ 6 11 25 (by decide) (by decide) (by decide) (by decide) (by decide) (by decide)) (by repeat (first | exact Has.nil | refine Has.cons (by repeat (first | exact .head _ | refine .tail _ ?_ | refine List.mem_append_right _ ?_)) ?_)) rfl trivial rfl ?_
    refine Tr.add rfl rfl (by first | exact wrap_i64 (by omega) (by omega) | rfl) rfl trivial rfl ?_
    refine Tr.move rfl rfl trivial rfl ?_
    refine Tr.add rfl rfl (by first | exact wrap_i64 (by omega) (by omega) | rfl) rfl trivial rfl ?_
    refine Tr.move rfl rfl trivial rfl ?_
    refine Tr.move rfl rfl trivial rfl ?_
    first | refine Tr.indexAddrS01 tab rfl rfl rfl rfl rfl (by omega) (by omega) rfl trivial rfl ?_ | refine Tr.indexAddrS1 tab rfl rfl rfl rfl rfl (by omega) (by omega) rfl trivial rfl ?_
    refine Tr.loadS tab rfl rfl rfl (by repeat (first | exact .head _ | refine .tail _ ?_ | refine List.mem_append_right _ ?_)) (by first | rfl | with_reducible assumption | assumption | (simp; done)) rfl trivial rfl ?_
    refine Tr.add rfl rfl (by first | exact wrap_i64 (by omega) (by omega) | rfl) rfl trivial rfl ?_
    refine Tr.move rfl rfl trivial rfl ?_
    refine Tr.move rfl rfl trivial rfl ?_
    first | refine Tr.indexAddrS01 tab rfl rfl rfl rfl rfl (by omega) (by omega) rfl trivial rfl ?_ | refine Tr.indexAddrS1 tab rfl rfl rfl rfl rfl (by omega) (by omega) rfl trivial rfl ?_
    refine Tr.loadS tab rfl rfl rfl (by repeat (first | exact .head _ | refine .tail _ ?_ | refine List.mem_append_right _ ?_)) (by first | rfl | with_reducible assumption | assumption | (simp; done)) rfl trivial rfl ?_
    refine Tr.add rfl rfl (by first | exact wrap_i64 (by omega) (by omega) | rfl) rfl trivial rfl ?_
    refine Tr.assign rfl rfl trivial rfl ?_
    refine Tr.nil ?_ (fun _ => rfl) (List.Perm.refl _)
    refine Wp.seq ?_
    refine Wp.reg allGen ?_
    refine Tr.move rfl rfl trivial rfl ?_
    first | refine Tr.indexAddrS01 tab rfl rfl rfl rfl rfl (by omega) (by omega) rfl trivial rfl ?_ | refine Tr.indexAddrS1 tab rfl rfl rfl rfl rfl (by omega) (by omega) rfl trivial rfl ?_
    refine Tr.loadS tab rfl rfl rfl (by repeat (first | exact .head _ | refine .tail _ ?_ | refine List.mem_append_right _ ?_)) (by first | rfl | with_reducible assumption | assumption | (simp; done)) rfl trivial rfl ?_
    refine Tr.call rfl (f79_three _ 2 13 22 (by decide) (by decide) (by decide) (by decide) (by decide) (by decide)) (by repeat (first | exact Has.nil | refine Has.cons (by repeat (first | exact .head _ | refine .tail _ ?_ | refine List.mem_append_right _ ?_)) ?_)) rfl trivial rfl ?_
    refine Tr.move rfl rfl trivial rfl ?_
    refine Tr.add rfl rfl (by first | exact wrap_i64 (by omega) (by omega) | rfl) rfl trivial rfl ?_
    refine Tr.assign rfl rfl trivial rfl ?_
    refine Tr.nil ?_ (fun _ => rfl) (List.Perm.refl _)
    refine Wp.regE kindOf mo (by kernel_rfl) ?_
    refine Tr.move rfl rfl trivial rfl ?_
    refine Tr.move rfl rfl trivial rfl ?_
    refine Tr.add rfl rfl (by first | exact wrap_i64 (by omega) (by omega) | rfl) rfl trivial rfl ?_
    refine Tr.rem rfl rfl (by omega) rfl rfl trivial rfl ?_
    refine Tr.move rfl rfl trivial rfl ?_
    first | refine Tr.indexAddrS01 tab rfl rfl rfl rfl rfl (by omega) (by omega) rfl trivial rfl ?_ | refine Tr.indexAddrS1 tab rfl rfl rfl rfl rfl (by omega) (by omega) rfl trivial rfl ?_
    refine Tr.loadS tab rfl rfl rfl (by repeat (first | exact .head _ | refine .tail _ ?_ | refine List.mem_append_right _ ?_)) (by first | rfl | with_reducible assumption | assumption | (simp; done)) rfl trivial rfl ?_
    refine Tr.move rfl rfl trivial rfl ?_
    first | refine Tr.indexAddrS01 tab rfl rfl rfl rfl rfl (by omega) (by omega) rfl trivial rfl ?_ | refine Tr.indexAddrS1 tab rfl rfl rfl rfl rfl (by omega) (by omega) rfl trivial rfl ?_
    refine Tr.loadS tab rfl rfl rfl (by repeat (first | exact .head _ | refine .tail _ ?_ | refine List.mem_append_right _ ?_)) (by first | rfl | with_reducible assumption | assumption | (simp; done)) rfl trivial rfl ?_
    refine Tr.move rfl rfl trivial rfl ?_
    first | refine Tr.indexAddrS01 tab rfl rfl rfl rfl rfl (by omega) (by omega) rfl trivial rfl ?_ | refine Tr.indexAddrS1 tab rfl rfl rfl rfl rfl (by omega) (by omega) rfl trivial rfl ?_
    refine Tr.loadS tab rfl rfl rfl (by repeat (first | exact .head _ | refine .tail _ ?_ | refine List.mem_append_right _ ?_)) (by first | rfl | with_reducible assumption | assumption | (simp; done)) rfl trivial rfl ?_
    refine Tr.move rfl rfl trivial rfl ?_
    first | refine Tr.indexAddrS01 tab rfl rfl rfl rfl rfl (by omega) (by omega) rfl trivial rfl ?_ | refine Tr.indexAddrS1 tab rfl rfl rfl rfl rfl (by omega) (by omega) rfl trivial rfl ?_
    refine Tr.loadS tab rfl rfl rfl (by repeat (first | exact .head _ | refine .tail _ ?_ | refine List.mem_append_right _ ?_)) (by first | rfl | with_reducible assumption | assumption | (simp; done)) rfl trivial rfl ?_
    refine Tr.move rfl rfl trivial rfl ?_
    refine Tr.add rfl rfl (by first | exact wrap_i64 (by omega) (by omega) | rfl) rfl trivial rfl ?_
    refine Tr.rem rfl rfl (by omega) rfl rfl trivial rfl ?_
    refine Tr.move rfl rfl trivial rfl ?_
    first | refine Tr.indexAddrS01 tab rfl rfl rfl rfl rfl (by omega) (by omega) rfl trivial rfl ?_ | refine Tr.indexAddrS1 tab rfl rfl rfl rfl rfl (by omega) (by omega) rfl trivial rfl ?_
    refine Tr.loadS tab rfl rfl rfl (by repeat (first | exact .head _ | refine .tail _ ?_ | refine List.mem_append_right _ ?_)) (by first | rfl | with_reducible assumption | assumption | (simp; done)) rfl trivial rfl ?_
    refine Tr.move rfl rfl trivial rfl ?_
    first | refine Tr.indexAddrS01 tab rfl rfl rfl rfl rfl (by omega) (by omega) rfl trivial rfl ?_ | refine Tr.indexAddrS1 tab rfl rfl rfl rfl rfl (by omega) (by omega) rfl trivial rfl ?_
    refine Tr.loadS tab rfl rfl rfl (by repeat (first | exact .head _ | refine .tail _ ?_ | refine List.mem_append_right _ ?_)) (by first | rfl | with_reducible assumption | assumption | (simp; done)) rfl trivial rfl ?_
    refine Tr.move rfl rfl trivial rfl ?_
    first | refine Tr.indexAddrS01 tab rfl rfl rfl rfl rfl (by omega) (by omega) rfl trivial rfl ?_ | refine Tr.indexAddrS1 tab rfl rfl rfl rfl rfl (by omega) (by omega) rfl trivial rfl ?_
    refine Tr.loadS tab rfl rfl rfl (by repeat (first | exact .head _ | refine .tail _ ?_ | refine List.mem_append_right _ ?_)) (by first | rfl | with_reducible assumption | assumption | (simp; done)) rfl trivial rfl ?_
    refine Tr.buildSlice tab rfl rfl rfl rfl rfl rfl (by simp [fillC, splice, vcells, Value.cells, zrep_one, -UInt32.toNat_xor, -UInt32.toNat_and, -UInt32.toNat_not, -UInt32.toNat_add]; rfl) rfl trivial rfl (fun B118 _ => ?_)
    refine Tr.assign rfl rfl trivial rfl ?_
    refine Tr.nil ?_ (fun _ => rfl) (List.Perm.refl _)
    refine Wp.reg allGen ?_
    refine Tr.move rfl rfl trivial rfl ?_
    refine Tr.add rfl rfl (by first | exact wrap_i64 (by omega) (by omega) | rfl) rfl trivial rfl ?_
    refine Tr.assign rfl rfl trivial rfl ?_
    refine Tr.nil ?_ (fun _ => rfl) (List.Perm.refl _)
    exact WpL.weak (hih' B118) ⟨fun a ha => EH.sub (ESub.sub (by repeat (first | exact ESub.nil | refine ESub.cons rfl (by first | rfl | (simp; done) | (simp; omega)) ?_))) a ha, MH.sub (MSub.cons .here rfl (MSub.drop (MSub.refl _)))⟩

theorem f38_block (K : List UInt32) (hK : K.length = 64) (st : W8) (d : List UInt8) (hd : d.length = 64) (br ro cr' bs so cs' bb bo cp : Nat) (cR cS cb : List Value) (hcR : At cR ro (w32s K)) (hcS : At cS so (w32s st.l)) (hb : At cb bo (u8s d)) :
    FnG Try.prog 38 [.slice (some ⟨br, ro, none⟩) 64 cr', .slice (some ⟨bs, so, none⟩) 8 cs', .slice (some ⟨bb, bo, none⟩) 64 cp] [⟨br, cR, false⟩, ⟨bs, cS, false⟩, ⟨bb, cb, false⟩]
      (fun v es => Fresh (w32s (blockS K st d).l) v es) := by
  have hwl := wS_len d 64
  have hw0 : (w32s (wS d 64)).length = 64 := by simp [hwl]
  have hl8 : (w32s st.l).length = 8 := rfl
  have hwd := f75_words d hd bb bo cp cb hb
  have hblk : w32s (blockS K st d).l = (fun q : W8 => w32s [st.a + q.a, st.b + q.b, st.c + q.c, st.d + q.d, st.e + q.e, st.f + q.f, st.g + q.g, st.h + q.h]) (rndS K (wS d 64) st 64) := rfl
  rw [hblk]
  have hl1 := fun {g : Gh} (hg : g.n = 137) x1 bw wo cw' cW hcW R => rblock_loop1 hg K (wS d 64) hK hwl st x1 br ro cr' bw wo cw' cR cW false true hcR hcW R 64 0 rfl
  generalize wS d 64 = W at *
  have hrow : w32s W = w32s W := rfl
  have sm : ∀ x y : UInt32, (((x + y).toNat : Nat) : Int) = ((x.toNat : Int) + (y.toNat : Int)).tmod 4294967296 := fun x y => by
    rw [UInt32.toNat_add, Int.tmod_eq_emod_of_nonneg (by omega)]; omega
  have s0 : cS[so + ((0 : Int)).toNat]? = some (w32 st.a) := hcS.get (j := 0) rfl
  have s1 : cS[so + ((0 + 1 : Int)).toNat]? = some (w32 st.b) := hcS.get (j := 1) rfl
  have s2 : cS[so + ((0 + 1 + 1 : Int)).toNat]? = some (w32 st.c) := hcS.get (j := 2) rfl
  have s3 : cS[so + ((0 + 1 + 1 + 1 : Int)).toNat]? = some (w32 st.d) := hcS.get (j := 3) rfl
  have s4 : cS[so + ((0 + 1 + 1 + 1 + 1 : Int)).toNat]? = some (w32 st.e) := hcS.get (j := 4) rfl
  have s5 : cS[so + ((0 + 1 + 1 + 1 + 1 + 1 : Int)).toNat]? = some (w32 st.f) := hcS.get (j := 5) rfl
  have s6 : cS[so + ((0 + 1 + 1 + 1 + 1 + 1 + 1 : Int)).toNat]? = some (w32 st.g) := hcS.get (j := 6) rfl
  have s7 : cS[so + ((0 + 1 + 1 + 1 + 1 + 1 + 1 + 1 : Int)).toNat]? = some (w32 st.h) := hcS.get (j := 7) rfl
  have ba := st.a.toNat_lt; have bb' := st.b.toNat_lt; have bc := st.c.toNat_lt; have bd := st.d.toNat_lt; have be := st.e.toNat_lt; have bf := st.f.toNat_lt; have bg := st.g.toNat_lt; have bh := st.h.toNat_lt
  refine fnG_of 137 rfl Try.func38 rfl (by kernel_rfl) rfl (by simp) fun w => ?_
  refine Wp.seq ?_
  refine Wp.reg allGen ?_
  refine Tr.assign rfl rfl trivial rfl ?_
  refine Tr.nil ?_ (fun _ => rfl) (List.Perm.refl _)
  refine Wp.seq ?_
  refine Wp.reg allGen ?_
  refine Tr.move rfl rfl trivial rfl ?_
  refine Tr.callG rfl hwd (by repeat (first | exact Has.nil | refine Has.cons (by repeat (first | exact .head _ | refine .tail _ ?_ | refine List.mem_append_right _ ?_)) ?_)) rfl trivial rfl ?_
  rintro _ esw hfw
  obtain ⟨bw, prew, spw, rfl, rfl⟩ := hfw.row (n := 64) hw0 (by decide)
  refine Tr.assign rfl rfl trivial rfl ?_
  refine Tr.nil ?_ (fun _ => rfl) (List.Perm.refl _)
  refine Wp.seq ?_
  refine Wp.reg allGen ?_
  refine Tr.assign rfl rfl trivial rfl ?_
  refine Tr.nil ?_ (fun _ => rfl) (List.Perm.refl _)
  refine Wp.seq ?_
  refine Wp.reg allGen ?_
  refine Tr.move rfl rfl trivial rfl ?_
  refine Tr.move rfl rfl trivial rfl ?_
  refine Tr.appendF tab rfl Fresh.nil Take.nil rfl (SrcOf.row (by repeat (first | exact .head _ | refine .tail _ ?_ | refine List.mem_append_right _ ?_)) hcS hl8) (by simp [Value.oneCell']) rfl rfl rfl rfl (by simp) (by decide) (by simp [W8.l]) rfl trivial rfl (fun v1 es1 hf1 => ?_)
  obtain ⟨b1, pre1, sp1, rfl, rfl⟩ := hf1.row (n := 8) rfl (by decide)
  refine Tr.assign rfl rfl trivial rfl ?_
  refine Tr.nil ?_ (fun _ => rfl) (List.Perm.refl _)
  refine Wp.seq ?_
  refine Wp.seq ?_
  refine Wp.reg allGen ?_
  refine Tr.assign rfl rfl trivial rfl ?_
  refine Tr.nil ?_ (fun _ => rfl) (List.Perm.refl _)
  refine Wp.block ?_
  refine Wp.loopQ (hl1 rfl (.slice (some ⟨bs, so, none⟩) 8 cs') bw prew.length (64 + spw.length) _ ⟨prew, spw, rfl, rfl⟩ [⟨bs, cS, false⟩] b1 pre1.length (8 + sp1.length) _ ⟨pre1, sp1, rfl, rfl⟩) (Wk.mk (by repeat (first | exact ESub.nil | refine ESub.cons rfl (by first | rfl | (simp; done) | (simp; omega)) ?_)) (by repeat (first | exact MSub.nil | refine MSub.cons (by repeat (first | exact .here | apply Pick.there | apply Pick.append)) (by first | rfl | (simp; done)) ?_))) ?_
  rintro _ env1 mem1 ⟨rfl, b2, off2, cp2, c2, hc2, hk1⟩
  refine Wp.weak ?_ hk1
  generalize rndS K W st 64 = q at *
  have g0 : c2[off2 + ((0 : Int)).toNat]? = some (w32 q.a) := hc2.get (j := 0) rfl
  have g1 : c2[off2 + ((0 + 1 : Int)).toNat]? = some (w32 q.b) := hc2.get (j := 1) rfl
  have g2 : c2[off2 + ((0 + 1 + 1 : Int)).toNat]? = some (w32 q.c) := hc2.get (j := 2) rfl
  have g3 : c2[off2 + ((0 + 1 + 1 + 1 : Int)).toNat]? = some (w32 q.d) := hc2.get (j := 3) rfl
  have g4 : c2[off2 + ((0 + 1 + 1 + 1 + 1 : Int)).toNat]? = some (w32 q.e) := hc2.get (j := 4) rfl
  have g5 : c2[off2 + ((0 + 1 + 1 + 1 + 1 + 1 : Int)).toNat]? = some (w32 q.f) := hc2.get (j := 5) rfl
  have g6 : c2[off2 + ((0 + 1 + 1 + 1 + 1 + 1 + 1 : Int)).toNat]? = some (w32 q.g) := hc2.get (j := 6) rfl
  have g7 : c2[off2 + ((0 + 1 + 1 + 1 + 1 + 1 + 1 + 1 : Int)).toNat]? = some (w32 q.h) := hc2.get (j := 7) rfl
  have qa := q.a.toNat_lt; have qb := q.b.toNat_lt; have qc := q.c.toNat_lt; have qd := q.d.toNat_lt; have qe := q.e.toNat_lt; have qf := q.f.toNat_lt; have qg := q.g.toNat_lt; have qh := q.h.toNat_lt
  have hfO := Fresh.nil
  refine Wp.seq ?_
  refine Wp.reg allGen ?_
  refine Tr.assign rfl rfl trivial rfl ?_
  refine Tr.nil ?_ (fun _ => rfl) (List.Perm.refl _)
  refine Wp.seq ?_
  refine Wp.seq ?_
  refine Wp.reg allGen ?_
  refine Tr.assign rfl rfl trivial rfl ?_
  refine Tr.nil ?_ (fun _ => rfl) (List.Perm.refl _)
  refine Wp.block ?_
  refine Wp.loopL ?_
  refine WpL.step ?_
  refine Wp.seq ?_
  refine Wp.seq ?_
  refine Wp.reg allGen ?_
  refine Tr.move rfl rfl trivial rfl ?_
  refine Tr.lss rfl rfl (by first | with_reducible assumption | exact decide_eq_true (by omega) | exact decide_eq_false (by omega) | exact beq_iff_eq.2 (by omega) | exact beq_eq_false_iff_ne.2 (by omega) | exact bne_iff_ne.2 (by omega) | rfl) rfl trivial rfl ?_
  refine Tr.nil ?_ (fun _ => rfl) (List.Perm.refl _)
  refine Wp.condT rfl ?_
  refine Wp.skip ?_
  refine Wp.seq ?_
  refine Wp.block ?_
  refine Wp.regE kindOf mo (by kernel_rfl) ?_
  refine Tr.move rfl rfl trivial rfl ?_
  refine Tr.move rfl rfl trivial rfl ?_
  refine Tr.move rfl rfl trivial rfl ?_
  first | refine Tr.indexAddrS01 tab rfl rfl rfl rfl rfl (by omega) (by omega) rfl trivial rfl ?_ | refine Tr.indexAddrS1 tab rfl rfl rfl rfl rfl (by omega) (by omega) rfl trivial rfl ?_
  refine Tr.loadS tab rfl rfl rfl (by repeat (first | exact .head _ | refine .tail _ ?_ | refine List.mem_append_right _ ?_)) (by first | rfl | with_reducible assumption | assumption | (simp; done)) rfl trivial rfl ?_
  refine Tr.move rfl rfl trivial rfl ?_
  refine Tr.move rfl rfl trivial rfl ?_
  first | refine Tr.indexAddrS01 tab rfl rfl rfl rfl rfl (by omega) (by omega) rfl trivial rfl ?_ | refine Tr.indexAddrS1 tab rfl rfl rfl rfl rfl (by omega) (by omega) rfl trivial rfl ?_
  refine Tr.loadS tab rfl rfl rfl (by repeat (first | exact .head _ | refine .tail _ ?_ | refine List.mem_append_right _ ?_)) (by first | rfl | with_reducible assumption | assumption | (simp; done)) rfl trivial rfl ?_
  refine Tr.add rfl rfl (by first | exact wrap_i64 (by omega) (by omega) | rfl) rfl trivial rfl ?_
  refine Tr.rem rfl rfl (by omega) rfl rfl trivial rfl ?_
  refine Tr.buildSlice tab rfl rfl rfl rfl rfl rfl (by simp [fillC, splice, vcells, Value.cells, zrep_one]; rfl) rfl trivial rfl (fun _ _ => ?_)
  refine Tr.appendF tab rfl hfO (by repeat (first | exact Take.app _ _ | exact Take.self _ | exact Take.nil | apply Take.skip)) rfl (SrcOf.row (by repeat (first | exact .head _ | refine .tail _ ?_ | refine List.mem_append_right _ ?_)) (by first | exact At.all _ | with_reducible assumption | assumption) (by first | with_reducible rfl | with_reducible assumption | (simp; done) | (simp; omega) | rfl)) (by first | with_reducible assumption | rfl | (simp [Value.oneCell']; done)) rfl rfl rfl rfl (by simp) (by decide) (by simp) rfl trivial rfl (fun vO esO hfO => ?_)
  refine Tr.assign rfl rfl trivial rfl ?_
  refine Tr.nil ?_ (fun _ => rfl) (List.Perm.refl _)
  refine Wp.reg allGen ?_
  refine Tr.move rfl rfl trivial rfl ?_
  refine Tr.add rfl rfl (by first | exact wrap_i64 (by omega) (by omega) | rfl) rfl trivial rfl ?_
  refine Tr.assign rfl rfl trivial rfl ?_
  refine Tr.nil ?_ (fun _ => rfl) (List.Perm.refl _)
  refine WpL.step ?_
  refine Wp.seq ?_
  refine Wp.seq ?_
  refine Wp.reg allGen ?_
  refine Tr.move rfl rfl trivial rfl ?_
  refine Tr.lss rfl rfl (by first | with_reducible assumption | exact decide_eq_true (by omega) | exact decide_eq_false (by omega) | exact beq_iff_eq.2 (by omega) | exact beq_eq_false_iff_ne.2 (by omega) | exact bne_iff_ne.2 (by omega) | rfl) rfl trivial rfl ?_
  refine Tr.nil ?_ (fun _ => rfl) (List.Perm.refl _)
  refine Wp.condT rfl ?_
  refine Wp.skip ?_
  refine Wp.seq ?_
  refine Wp.block ?_
  refine Wp.regE kindOf mo (by kernel_rfl) ?_
  refine Tr.move rfl rfl trivial rfl ?_
  refine Tr.move rfl rfl trivial rfl ?_
  refine Tr.move rfl rfl trivial rfl ?_
  first | refine Tr.indexAddrS01 tab rfl rfl rfl rfl rfl (by omega) (by omega) rfl trivial rfl ?_ | refine Tr.indexAddrS1 tab rfl rfl rfl rfl rfl (by omega) (by omega) rfl trivial rfl ?_
  refine Tr.loadS tab rfl rfl rfl (by repeat (first | exact .head _ | refine .tail _ ?_ | refine List.mem_append_right _ ?_)) (by first | rfl | with_reducible assumption | assumption | (simp; done)) rfl trivial rfl ?_
  refine Tr.move rfl rfl trivial rfl ?_
  refine Tr.move rfl rfl trivial rfl ?_
  first | refine Tr.indexAddrS01 tab rfl rfl rfl rfl rfl (by omega) (by omega) rfl trivial rfl ?_ | refine Tr.indexAddrS1 tab rfl rfl rfl rfl rfl (by omega) (by omega) rfl trivial rfl ?_
  refine Tr.loadS tab rfl rfl rfl (by repeat (first | exact .head _ | refine .tail _ ?_ | refine List.mem_append_right _ ?_)) (by first | rfl | with_reducible assumption | assumption | (simp; done)) rfl trivial rfl ?_
  refine Tr.add rfl rfl (by first | exact wrap_i64 (by omega) (by omega) | rfl) rfl trivial rfl ?_
  refine Tr.rem rfl rfl (by omega) rfl rfl trivial rfl ?_
  refine Tr.buildSlice tab rfl rfl rfl rfl rfl rfl (by simp [fillC, splice, vcells, Value.cells, zrep_one]; rfl) rfl trivial rfl (fun _ _ => ?_)
  refine Tr.appendF tab rfl hfO (by repeat (first | exact Take.app _ _ | exact Take.self _ | exact Take.nil | apply Take.skip)) rfl (SrcOf.row (by repeat (first | exact .head _ | refine .tail _ ?_ | refine List.mem_append_right _ ?_)) (by first | exact At.all _ | with_reducible assumption | assumption) (by first | with_reducible rfl | with_reducible assumption | (simp; done) | (simp; omega) | rfl)) (by first | with_reducible assumption | rfl | (simp [Value.oneCell']; done)) rfl rfl rfl rfl (by simp) (by decide) (by simp) rfl trivial rfl (fun vO esO hfO => ?_)
  refine Tr.assign rfl rfl trivial rfl ?_
  refine Tr.nil ?_ (fun _ => rfl) (List.Perm.refl _)
  refine Wp.reg allGen ?_
  refine Tr.move rfl rfl trivial rfl ?_
  refine Tr.add rfl rfl (by first | exact wrap_i64 (by omega) (by omega) | rfl) rfl trivial rfl ?_
  refine Tr.assign rfl rfl trivial rfl ?_
  refine Tr.nil ?_ (fun _ => rfl) (List.Perm.refl _)
  refine WpL.step ?_
  refine Wp.seq ?_
  refine Wp.seq ?_
  refine Wp.reg allGen ?_
  refine Tr.move rfl rfl trivial rfl ?_
  refine Tr.lss rfl rfl (by first | with_reducible assumption | exact decide_eq_true (by omega) | exact decide_eq_false (by omega) | exact beq_iff_eq.2 (by omega) | exact beq_eq_false_iff_ne.2 (by omega) | exact bne_iff_ne.2 (by omega) | rfl) rfl trivial rfl ?_
  refine Tr.nil ?_ (fun _ => rfl) (List.Perm.refl _)
  refine Wp.condT rfl ?_
  refine Wp.skip ?_
  refine Wp.seq ?_
  refine Wp.block ?_
  refine Wp.regE kindOf mo (by kernel_rfl) ?_
  refine Tr.move rfl rfl trivial rfl ?_
  refine Tr.move rfl rfl trivial rfl ?_
  refine Tr.move rfl rfl trivial rfl ?_
  first | refine Tr.indexAddrS01 tab rfl rfl rfl rfl rfl (by omega) (by omega) rfl trivial rfl ?_ | refine Tr.indexAddrS1 tab rfl rfl rfl rfl rfl (by omega) (by omega) rfl trivial rfl ?_
  refine Tr.loadS tab rfl rfl rfl (by repeat (first | exact .head _ | refine .tail _ ?_ | refine List.mem_append_right _ ?_)) (by first | rfl | with_reducible assumption | assumption | (simp; done)) rfl trivial rfl ?_
  refine Tr.move rfl rfl trivial rfl ?_
  refine Tr.move rfl rfl trivial rfl ?_
  first | refine Tr.indexAddrS01 tab rfl rfl rfl rfl rfl (by omega) (by omega) rfl trivial rfl ?_ | refine Tr.indexAddrS1 tab rfl rfl rfl rfl rfl (by omega) (by omega) rfl trivial rfl ?_
  refine Tr.loadS tab rfl rfl rfl (by repeat (first | exact .head _ | refine .tail _ ?_ | refine List.mem_append_right _ ?_)) (by first | rfl | with_reducible assumption | assumption | (simp; done)) rfl trivial rfl ?_
  refine Tr.add rfl rfl (by first | exact wrap_i64 (by omega) (by omega) | rfl) rfl trivial rfl ?_
  refine Tr.rem rfl rfl (by omega) rfl rfl trivial rfl ?_
  refine Tr.buildSlice tab rfl rfl rfl rfl rfl rfl (by simp [fillC, splice, vcells, Value.cells, zrep_one]; rfl) rfl trivial rfl (fun _ _ => ?_)
  refine Tr.appendF tab rfl hfO (by repeat (first | exact Take.app _ _ | exact Take.self _ | exact Take.nil | apply Take.skip)) rfl (SrcOf.row (by repeat (first | exact .head _ | refine .tail _ ?_ | refine List.mem_append_right _ ?_)) (by first | exact At.all _ | with_reducible assumption | assumption) (by first | with_reducible rfl | with_reducible assumption | (simp; done) | (simp; omega) | rfl)) (by first | with_reducible assumption | rfl | (simp [Value.oneCell']; done)) rfl rfl rfl rfl (by simp) (by decide) (by simp) rfl trivial rfl (fun vO esO hfO => ?_)
  refine Tr.assign rfl rfl trivial rfl ?_
  refine Tr.nil ?_ (fun _ => rfl) (List.Perm.refl _)
  refine Wp.reg allGen ?_
  refine Tr.move rfl rfl trivial rfl ?_
  refine Tr.add rfl rfl (by first | exact wrap_i64 (by omega) (by omega) | rfl) rfl trivial rfl ?_
  refine Tr.assign rfl rfl trivial rfl ?_
  refine Tr.nil ?_ (fun _ => rfl) (List.Perm.refl _)
  refine WpL.step ?_
  refine Wp.seq ?_
  refine Wp.seq ?_
  refine Wp.reg allGen ?_
  refine Tr.move rfl rfl trivial rfl ?_
  refine Tr.lss rfl rfl (by first | with_reducible assumption | exact decide_eq_true (by omega) | exact decide_eq_false (by omega) | exact beq_iff_eq.2 (by omega) | exact beq_eq_false_iff_ne.2 (by omega) | exact bne_iff_ne.2 (by omega) | rfl) rfl trivial rfl ?_
  refine Tr.nil ?_ (fun _ => rfl) (List.Perm.refl _)
  refine Wp.condT rfl ?_
  refine Wp.skip ?_
  refine Wp.seq ?_
  refine Wp.block ?_
  refine Wp.regE kindOf mo (by kernel_rfl) ?_
  refine Tr.move rfl rfl trivial rfl ?_
  refine Tr.move rfl rfl trivial rfl ?_
  refine Tr.move rfl rfl trivial rfl ?_
  first | refine Tr.indexAddrS01 tab rfl rfl rfl rfl rfl (by omega) (by omega) rfl trivial rfl ?_ | refine Tr.indexAddrS1 tab rfl rfl rfl rfl rfl (by omega) (by omega) rfl trivial rfl ?_
  refine Tr.loadS tab rfl rfl rfl (by repeat (first | exact .head _ | refine .tail _ ?_ | refine List.mem_append_right _ ?_)) (by first | rfl | with_reducible assumption | assumption | (simp; done)) rfl trivial rfl ?_
  refine Tr.move rfl rfl trivial rfl ?_
  refine Tr.move rfl rfl trivial rfl ?_
  first | refine Tr.indexAddrS01 tab rfl rfl rfl rfl rfl (by omega) (by omega) rfl trivial rfl ?_ | refine Tr.indexAddrS1 tab rfl rfl rfl rfl rfl (by omega) (by omega) rfl trivial rfl ?_
  refine Tr.loadS tab rfl rfl rfl (by repeat (first | exact .head _ | refine .tail _ ?_ | refine List.mem_append_right _ ?_)) (by first | rfl | with_reducible assumption | assumption | (simp; done)) rfl trivial rfl ?_
  refine Tr.add rfl rfl (by first | exact wrap_i64 (by omega) (by omega) | rfl) rfl trivial rfl ?_
  refine Tr.rem rfl rfl (by omega) rfl rfl trivial rfl ?_
  refine Tr.buildSlice tab rfl rfl rfl rfl rfl rfl (by simp [fillC, splice, vcells, Value.cells, zrep_one]; rfl) rfl trivial rfl (fun _ _ => ?_)
  refine Tr.appendF tab rfl hfO (by repeat (first | exact Take.app _ _ | exact Take.self _ | exact Take.nil | apply Take.skip)) rfl (SrcOf.row (by repeat (first | exact .head _ | refine .tail _ ?_ | refine List.mem_append_right _ ?_)) (by first | exact At.all _ | with_reducible assumption | assumption) (by first | with_reducible rfl | with_reducible assumption | (simp; done) | (simp; omega) | rfl)) (by first | with_reducible assumption | rfl | (simp [Value.oneCell']; done)) rfl rfl rfl rfl (by simp) (by decide) (by simp) rfl trivial rfl (fun vO esO hfO => ?_)
  refine Tr.assign rfl rfl trivial rfl ?_
  refine Tr.nil ?_ (fun _ => rfl) (List.Perm.refl _)
  refine Wp.reg allGen ?_
  refine Tr.move rfl rfl trivial rfl ?_
  refine Tr.add rfl rfl (by first | exact wrap_i64 (by omega) (by omega) | rfl) rfl trivial rfl ?_
  refine Tr.assign rfl rfl trivial rfl ?_
  refine Tr.nil ?_ (fun _ => rfl) (List.Perm.refl _)
  refine WpL.step ?_
  refine Wp.seq ?_
  refine Wp.seq ?_
  refine Wp.reg allGen ?_
  refine Tr.move rfl rfl trivial rfl ?_
  refine Tr.lss rfl rfl (by first | with_reducible assumption | exact decide_eq_true (by omega) | exact decide_eq_false (by omega) | exact beq_iff_eq.2 (by omega) | exact beq_eq_false_iff_ne.2 (by omega) | exact bne_iff_ne.2 (by omega) | rfl) rfl trivial rfl ?_
  refine Tr.nil ?_ (fun _ => rfl) (List.Perm.refl _)
  refine Wp.condT rfl ?_
  refine Wp.skip ?_
  refine Wp.seq ?_
  refine Wp.block ?_
  refine Wp.regE kindOf mo (by kernel_rfl) ?_
  refine Tr.move rfl rfl trivial rfl ?_
  refine Tr.move rfl rfl trivial rfl ?_
  refine Tr.move rfl rfl trivial rfl ?_
  first | refine Tr.indexAddrS01 tab rfl rfl rfl rfl rfl (by omega) (by omega) rfl trivial rfl ?_ | refine Tr.indexAddrS1 tab rfl rfl rfl rfl rfl (by omega) (by omega) rfl trivial rfl ?_
  refine Tr.loadS tab rfl rfl rfl (by repeat (first | exact .head _ | refine .tail _ ?_ | refine List.mem_append_right _ ?_)) (by first | rfl | with_reducible assumption | assumption | (simp; done)) rfl trivial rfl ?_
  refine Tr.move rfl rfl trivial rfl ?_
  refine Tr.move rfl rfl trivial rfl ?_
  first | refine Tr.indexAddrS01 tab rfl rfl rfl rfl rfl (by omega) (by omega) rfl trivial rfl ?_ | refine Tr.indexAddrS1 tab rfl rfl rfl rfl rfl (by omega) (by omega) rfl trivial rfl ?_
  refine Tr.loadS tab rfl rfl rfl (by repeat (first | exact .head _ | refine .tail _ ?_ | refine List.mem_append_right _ ?_)) (by first | rfl | with_reducible assumption | assumption | (simp; done)) rfl trivial rfl ?_
  refine Tr.add rfl rfl (by first | exact wrap_i64 (by omega) (by omega) | rfl) rfl trivial rfl ?_
  refine Tr.rem rfl rfl (by omega) rfl rfl trivial rfl ?_
  refine Tr.buildSlice tab rfl rfl rfl rfl rfl rfl (by simp [fillC, splice, vcells, Value.cells, zrep_one]; rfl) rfl trivial rfl (fun _ _ => ?_)
  refine Tr.appendF tab rfl hfO (by repeat (first | exact Take.app _ _ | exact Take.self _ | exact Take.nil | apply Take.skip)) rfl (SrcOf.row (by repeat (first | exact .head _ | refine .tail _ ?_ | refine List.mem_append_right _ ?_)) (by first | exact At.all _ | with_reducible assumption | assumption) (by first | with_reducible rfl | with_reducible assumption | (simp; done) | (simp; omega) | rfl)) (by first | with_reducible assumption | rfl | (simp [Value.oneCell']; done)) rfl rfl rfl rfl (by simp) (by decide) (by simp) rfl trivial rfl (fun vO esO hfO => ?_)
  refine Tr.assign rfl rfl trivial rfl ?_
  refine Tr.nil ?_ (fun _ => rfl) (List.Perm.refl _)
  refine Wp.reg allGen ?_
  refine Tr.move rfl rfl trivial rfl ?_
  refine Tr.add rfl rfl (by first | exact wrap_i64 (by omega) (by omega) | rfl) rfl trivial rfl ?_
  refine Tr.assign rfl rfl trivial rfl ?_
  refine Tr.nil ?_ (fun _ => rfl) (List.Perm.refl _)
  refine WpL.step ?_
  refine Wp.seq ?_
  refine Wp.seq ?_
  refine Wp.reg allGen ?_
  refine Tr.move rfl rfl trivial rfl ?_
  refine Tr.lss rfl rfl (by first | with_reducible assumption | exact decide_eq_true (by omega) | exact decide_eq_false (by omega) | exact beq_iff_eq.2 (by omega) | exact beq_eq_false_iff_ne.2 (by omega) | exact bne_iff_ne.2 (by omega) | rfl) rfl trivial rfl ?_
  refine Tr.nil ?_ (fun _ => rfl) (List.Perm.refl _)
  refine Wp.condT rfl ?_
  refine Wp.skip ?_
  refine Wp.seq ?_
  refine Wp.block ?_
  refine Wp.regE kindOf mo (by kernel_rfl) ?_
  refine Tr.move rfl rfl trivial rfl ?_
  refine Tr.move rfl rfl trivial rfl ?_
  refine Tr.move rfl rfl trivial rfl ?_
  first | refine Tr.indexAddrS01 tab rfl rfl rfl rfl rfl (by omega) (by omega) rfl trivial rfl ?_ | refine Tr.indexAddrS1 tab rfl rfl rfl rfl rfl (by omega) (by omega) rfl trivial rfl ?_
  refine Tr.loadS tab rfl rfl rfl (by repeat (first | exact .head _ | refine .tail _ ?_ | refine List.mem_append_right _ ?_)) (by first | rfl | with_reducible assumption | assumption | (simp; done)) rfl trivial rfl ?_
  refine Tr.move rfl rfl trivial rfl ?_
  refine Tr.move rfl rfl trivial rfl ?_
  first | refine Tr.indexAddrS01 tab rfl rfl rfl rfl rfl (by omega) (by omega) rfl trivial rfl ?_ | refine Tr.indexAddrS1 tab rfl rfl rfl rfl rfl (by omega) (by omega) rfl trivial rfl ?_
  refine Tr.loadS tab rfl rfl rfl (by repeat (first | exact .head _ | refine .tail _ ?_ | refine List.mem_append_right _ ?_)) (by first | rfl | with_reducible assumption | assumption | (simp; done)) rfl trivial rfl ?_
  refine Tr.add rfl rfl (by first | exact wrap_i64 (by omega) (by omega) | rfl) rfl trivial rfl ?_
  refine Tr.rem rfl rfl (by omega) rfl rfl trivial rfl ?_
  refine Tr.buildSlice tab rfl rfl rfl rfl rfl rfl (by simp [fillC, splice, vcells, Value.cells, zrep_one]; rfl) rfl trivial rfl (fun _ _ => ?_)
  refine Tr.appendF tab rfl hfO (by repeat (first | exact Take.app _ _ | exact Take.self _ | exact Take.nil | apply Take.skip)) rfl (SrcOf.row (by repeat (first | exact .head _ | refine .tail _ ?_ | refine List.mem_append_right _ ?_)) (by first | exact At.all _ | with_reducible assumption | assumption) (by first | with_reducible rfl | with_reducible assumption | (simp; done) | (simp; omega) | rfl)) (by first | with_reducible assumption | rfl | (simp [Value.oneCell']; done)) rfl rfl rfl rfl (by simp) (by decide) (by simp) rfl trivial rfl (fun vO esO hfO => ?_)
  refine Tr.assign rfl rfl trivial rfl ?_
  refine Tr.nil ?_ (fun _ => rfl) (List.Perm.refl _)
  refine Wp.reg allGen ?_
  refine Tr.move rfl rfl trivial rfl ?_
  refine Tr.add rfl rfl (by first | exact wrap_i64 (by omega) (by omega) | rfl) rfl trivial rfl ?_
  refine Tr.assign rfl rfl trivial rfl ?_
  refine Tr.nil ?_ (fun _ => rfl) (List.Perm.refl _)
  refine WpL.step ?_
  refine Wp.seq ?_
  refine Wp.seq ?_
  refine Wp.reg allGen ?_
  refine Tr.move rfl rfl trivial rfl ?_
  refine Tr.lss rfl rfl (by first | with_reducible assumption | exact decide_eq_true (by omega) | exact decide_eq_false (by omega) | exact beq_iff_eq.2 (by omega) | exact beq_eq_false_iff_ne.2 (by omega) | exact bne_iff_ne.2 (by omega) | rfl) rfl trivial rfl ?_
  refine Tr.nil ?_ (fun _ => rfl) (List.Perm.refl _)
  refine Wp.condT rfl ?_
  refine Wp.skip ?_
  refine Wp.seq ?_
  refine Wp.block ?_
  refine Wp.regE kindOf mo (by kernel_rfl) ?_
  refine Tr.move rfl rfl trivial rfl ?_
  refine Tr.move rfl rfl trivial rfl ?_
  refine Tr.move rfl rfl trivial rfl ?_
  first | refine Tr.indexAddrS01 tab rfl rfl rfl rfl rfl (by omega) (by omega) rfl trivial rfl ?_ | refine Tr.indexAddrS1 tab rfl rfl rfl rfl rfl (by omega) (by omega) rfl trivial rfl ?_
  refine Tr.loadS tab rfl rfl rfl (by repeat (first | exact .head _ | refine .tail _ ?_ | refine List.mem_append_right _ ?_)) (by first | rfl | with_reducible assumption | assumption | (simp; done)) rfl trivial rfl ?_
  refine Tr.move rfl rfl trivial rfl ?_
  refine Tr.move rfl rfl trivial rfl ?_
  first | refine Tr.indexAddrS01 tab rfl rfl rfl rfl rfl (by omega) (by omega) rfl trivial rfl ?_ | refine Tr.indexAddrS1 tab rfl rfl rfl rfl rfl (by omega) (by omega) rfl trivial rfl ?_
  refine Tr.loadS tab rfl rfl rfl (by repeat (first | exact .head _ | refine .tail _ ?_ | refine List.mem_append_right _ ?_)) (by first | rfl | with_reducible assumption | assumption | (simp; done)) rfl trivial rfl ?_
  refine Tr.add rfl rfl (by first | exact wrap_i64 (by omega) (by omega) | rfl) rfl trivial rfl ?_
  refine Tr.rem rfl rfl (by omega) rfl rfl trivial rfl ?_
  refine Tr.buildSlice tab rfl rfl rfl rfl rfl rfl (by simp [fillC, splice, vcells, Value.cells, zrep_one]; rfl) rfl trivial rfl (fun _ _ => ?_)
  refine Tr.appendF tab rfl hfO (by repeat (first | exact Take.app _ _ | exact Take.self _ | exact Take.nil | apply Take.skip)) rfl (SrcOf.row (by repeat (first | exact .head _ | refine .tail _ ?_ | refine List.mem_append_right _ ?_)) (by first | exact At.all _ | with_reducible assumption | assumption) (by first | with_reducible rfl | with_reducible assumption | (simp; done) | (simp; omega) | rfl)) (by first | with_reducible assumption | rfl | (simp [Value.oneCell']; done)) rfl rfl rfl rfl (by simp) (by decide) (by simp) rfl trivial rfl (fun vO esO hfO => ?_)
  refine Tr.assign rfl rfl trivial rfl ?_
  refine Tr.nil ?_ (fun _ => rfl) (List.Perm.refl _)
  refine Wp.reg allGen ?_
  refine Tr.move rfl rfl trivial rfl ?_
  refine Tr.add rfl rfl (by first | exact wrap_i64 (by omega) (by omega) | rfl) rfl trivial rfl ?_
  refine Tr.assign rfl rfl trivial rfl ?_
  refine Tr.nil ?_ (fun _ => rfl) (List.Perm.refl _)
  refine WpL.step ?_
  refine Wp.seq ?_
  refine Wp.seq ?_
  refine Wp.reg allGen ?_
  refine Tr.move rfl rfl trivial rfl ?_
  refine Tr.lss rfl rfl (by first | with_reducible assumption | exact decide_eq_true (by omega) | exact decide_eq_false (by omega) | exact beq_iff_eq.2 (by omega) | exact beq_eq_false_iff_ne.2 (by omega) | exact bne_iff_ne.2 (by omega) | rfl) rfl trivial rfl ?_
  refine Tr.nil ?_ (fun _ => rfl) (List.Perm.refl _)
  refine Wp.condT rfl ?_
  refine Wp.skip ?_
  refine Wp.seq ?_
  refine Wp.block ?_
  refine Wp.regE kindOf mo (by kernel_rfl) ?_
  refine Tr.move rfl rfl trivial rfl ?_
  refine Tr.move rfl rfl trivial rfl ?_
  refine Tr.move rfl rfl trivial rfl ?_
  first | refine Tr.indexAddrS01 tab rfl rfl rfl rfl rfl (by omega) (by omega) rfl trivial rfl ?_ | refine Tr.indexAddrS1 tab rfl rfl rfl rfl rfl (by omega) (by omega) rfl trivial rfl ?_
  refine Tr.loadS tab rfl rfl rfl (by repeat (first | exact .head _ | refine .tail _ ?_ | refine List.mem_append_right _ ?_)) (by first | rfl | with_reducible assumption | assumption | (simp; done)) rfl trivial rfl ?_
  refine Tr.move rfl rfl trivial rfl ?_
  refine Tr.move rfl rfl trivial rfl ?_
  first | refine Tr.indexAddrS01 tab rfl rfl rfl rfl rfl (by omega) (by omega) rfl trivial rfl ?_ | refine Tr.indexAddrS1 tab rfl rfl rfl rfl rfl (by omega) (by omega) rfl trivial rfl ?_
  refine Tr.loadS tab rfl rfl rfl (by repeat (first | exact .head _ | refine .tail _ ?_ | refine List.mem_append_right _ ?_)) (by first | rfl | with_reducible assumption | assumption | (simp; done)) rfl trivial rfl ?_
  refine Tr.add rfl rfl (by first | exact wrap_i64 (by omega) (by omega) | rfl) rfl trivial rfl ?_
  refine Tr.rem rfl rfl (by omega) rfl rfl trivial rfl ?_
  refine Tr.buildSlice tab rfl rfl rfl rfl rfl rfl (by simp [fillC, splice, vcells, Value.cells, zrep_one]; rfl) rfl trivial rfl (fun _ _ => ?_)
  refine Tr.appendF tab rfl hfO (by repeat (first | exact Take.app _ _ | exact Take.self _ | exact Take.nil | apply Take.skip)) rfl (SrcOf.row (by repeat (first | exact .head _ | refine .tail _ ?_ | refine List.mem_append_right _ ?_)) (by first | exact At.all _ | with_reducible assumption | assumption) (by first | with_reducible rfl | with_reducible assumption | (simp; done) | (simp; omega) | rfl)) (by first | with_reducible assumption | rfl | (simp [Value.oneCell']; done)) rfl rfl rfl rfl (by simp) (by decide) (by simp) rfl trivial rfl (fun vO esO hfO => ?_)
  refine Tr.assign rfl rfl trivial rfl ?_
  refine Tr.nil ?_ (fun _ => rfl) (List.Perm.refl _)
  refine Wp.reg allGen ?_
  refine Tr.move rfl rfl trivial rfl ?_
  refine Tr.add rfl rfl (by first | exact wrap_i64 (by omega) (by omega) | rfl) rfl trivial rfl ?_
  refine Tr.assign rfl rfl trivial rfl ?_
  refine Tr.nil ?_ (fun _ => rfl) (List.Perm.refl _)
  refine WpL.step ?_
  refine Wp.seq ?_
  refine Wp.seq ?_
  refine Wp.reg allGen ?_
  refine Tr.move rfl rfl trivial rfl ?_
  refine Tr.lss rfl rfl (by first | with_reducible assumption | exact decide_eq_true (by omega) | exact decide_eq_false (by omega) | exact beq_iff_eq.2 (by omega) | exact beq_eq_false_iff_ne.2 (by omega) | exact bne_iff_ne.2 (by omega) | rfl) rfl trivial rfl ?_
  refine Tr.nil ?_ (fun _ => rfl) (List.Perm.refl _)
  refine Wp.condF rfl ?_
  refine Wp.exit ?_
  refine Wp.seq ?_
  refine Wp.reg allGen ?_
  refine Tr.move rfl rfl trivial rfl ?_
  refine Tr.assign rfl rfl trivial rfl ?_
  refine Tr.nil ?_ (fun _ => rfl) (List.Perm.refl _)
  refine Wp.ret ?_
  refine ⟨.inr rfl, vO, esO, ?_, .r1 rfl (RvIs.tmp rfl), MSub.left _ _, hfO.rw⟩
  simp only [w32, List.map_cons, List.map_nil, sm]
  exact hfO
end Go.Proofs.Ytffghaeaohabhaa.AW
