import Derived.Test.YtffghaeaohabhaaF2
namespace Go.Proofs.Ytffghaeaohabhaa.AW
open Go NT
set_option maxRecDepth 100000

/-! ### mul -/
def loop136a : Code := (Code.seq (Code.region 3 #[{ dst := (some 22), op := (Op.binOp BinOp.lss 3 (Operand.tmp 21) (Operand.const (Value.int IntKind.i64 4)) 3), type := 0, pos := "field.go:87", after := #[], guard := none }] false) (Code.seq (Code.cond (Operand.tmp 22) Code.skip (Code.exit 0)) (Code.seq (Code.block 1 (Code.seq (Code.region 4 #[{ dst := (some 23), op := (Op.move (Operand.tmp 21)), type := 3, pos := "field.go:87", after := #[], guard := none }, { dst := (some 24), op := (Op.index 148 (Operand.tmp 20) (Operand.tmp 21)), type := 121, pos := "field.go:87", after := #[], guard := none }, { dst := (some 6), op := (Op.assign (Operand.tmp 23)), type := 3, pos := "field.go:87", after := #[{ on := 0, ground := Ground.data }, { on := 0, ground := Ground.phase }, { on := 1, ground := Ground.phase }], guard := none }, { dst := (some 7), op := (Op.assign (Operand.tmp 24)), type := 121, pos := "field.go:87", after := #[{ on := 1, ground := Ground.data }, { on := 2, ground := Ground.chain }, { on := 0, ground := Ground.phase }, { on := 1, ground := Ground.phase }, { on := 2, ground := Ground.phase }], guard := none }] false) (Code.seq (Code.region 5 #[{ dst := (some 8), op := (Op.assign (Operand.const (Value.int IntKind.u64 0))), type := 121, pos := "field.go:88", after := #[], guard := none }] false) (Code.seq (Code.seq (Code.region 6 #[{ dst := (some 25), op := (Op.load 148 (Operand.tmp 3)), type := 148, pos := "field.go:89", after := #[], guard := none }, { dst := (some 26), op := (Op.move (Operand.const (Value.int IntKind.i64 0))), type := 3, pos := "field.go:89", after := #[], guard := none }] false) (Code.block 2 (Code.loop (Code.seq (Code.region 7 #[{ dst := (some 27), op := (Op.binOp BinOp.lss 3 (Operand.tmp 26) (Operand.const (Value.int IntKind.i64 4)) 3), type := 0, pos := "field.go:89", after := #[], guard := none }] false) (Code.seq (Code.cond (Operand.tmp 27) Code.skip (Code.exit 2)) (Code.seq (Code.block 3 (Code.seq (Code.region 8 #[{ dst := (some 28), op := (Op.move (Operand.tmp 26)), type := 3, pos := "field.go:89", after := #[], guard := none }, { dst := (some 29), op := (Op.index 148 (Operand.tmp 25) (Operand.tmp 26)), type := 121, pos := "field.go:89", after := #[], guard := none }, { dst := (some 9), op := (Op.assign (Operand.tmp 28)), type := 3, pos := "field.go:89", after := #[{ on := 0, ground := Ground.data }, { on := 0, ground := Ground.phase }, { on := 1, ground := Ground.phase }], guard := none }, { dst := (some 10), op := (Op.assign (Operand.tmp 29)), type := 121, pos := "field.go:89", after := #[{ on := 1, ground := Ground.data }, { on := 2, ground := Ground.chain }, { on := 0, ground := Ground.phase }, { on := 1, ground := Ground.phase }, { on := 2, ground := Ground.phase }], guard := none }] false) (Code.seq (Code.region 9 #[{ dst := (some 31), op := (Op.move (Operand.tmp 7)), type := 121, pos := "field.go:90", after := #[], guard := none }, { dst := (some 32), op := (Op.move (Operand.tmp 10)), type := 121, pos := "field.go:90", after := #[], guard := none }, { dst := (some 33), op := (Op.call { callee := (Callee.value (Operand.func 101)), args := #[(Operand.tmp 31), (Operand.tmp 32)], argTypes := #[121, 121] }), type := 122, pos := "field.go:90", after := #[{ on := 0, ground := Ground.data }, { on := 1, ground := Ground.data }], guard := none }, { dst := (some 30), op := (Op.move (Operand.tmp 33)), type := 122, pos := "field.go:90", after := #[{ on := 2, ground := Ground.data }], guard := none }, { dst := (some 34), op := (Op.extract (Operand.tmp 30) 0), type := 121, pos := "field.go:90", after := #[{ on := 3, ground := Ground.data }], guard := none }, { dst := (some 35), op := (Op.extract (Operand.tmp 30) 1), type := 121, pos := "field.go:90", after := #[{ on := 3, ground := Ground.data }, { on := 6, ground := (Ground.gcOnly Departure.lateStores) }], guard := none }, { dst := (some 11), op := (Op.assign (Operand.tmp 34)), type := 121, pos := "field.go:90", after := #[{ on := 4, ground := Ground.data }, { on := 2, ground := Ground.chain }, { on := 0, ground := Ground.phase }, { on := 1, ground := Ground.phase }, { on := 2, ground := Ground.phase }, { on := 3, ground := Ground.phase }, { on := 4, ground := Ground.phase }, { on := 5, ground := (Ground.textOnly Departure.lateStores) }], guard := none }, { dst := (some 12), op := (Op.assign (Operand.tmp 35)), type := 121, pos := "field.go:90", after := #[{ on := 5, ground := Ground.data }, { on := 6, ground := Ground.chain }, { on := 0, ground := Ground.phase }, { on := 1, ground := Ground.phase }, { on := 2, ground := Ground.phase }, { on := 3, ground := Ground.phase }, { on := 4, ground := Ground.phase }, { on := 5, ground := Ground.phase }, { on := 6, ground := Ground.phase }], guard := none }] false) (Code.seq (Code.region 10 #[{ dst := (some 13), op := (Op.assign (Operand.const (Value.int IntKind.u64 0))), type := 121, pos := "field.go:91", after := #[], guard := none }] false) (Code.seq (Code.region 11 #[{ dst := (some 37), op := (Op.move (Operand.tmp 12)), type := 121, pos := "field.go:92", after := #[], guard := none }, { dst := (some 38), op := (Op.move (Operand.tmp 6)), type := 3, pos := "field.go:92", after := #[], guard := none }, { dst := (some 39), op := (Op.move (Operand.tmp 9)), type := 3, pos := "field.go:92", after := #[], guard := none }, { dst := (some 40), op := (Op.binOp BinOp.add 3 (Operand.tmp 38) (Operand.tmp 39) 3), type := 3, pos := "field.go:92", after := #[{ on := 1, ground := Ground.data }, { on := 2, ground := Ground.data }], guard := none }, { dst := (some 41), op := (Op.indexAddr 167 (Operand.tmp 5) (Operand.tmp 40)), type := 0, pos := "field.go:92", after := #[{ on := 3, ground := Ground.data }], guard := none }, { dst := (some 42), op := (Op.load 121 (Operand.tmp 41)), type := 121, pos := "field.go:92", after := #[{ on := 4, ground := Ground.data }], guard := none }, { dst := (some 43), op := (Op.call { callee := (Callee.value (Operand.func 98)), args := #[(Operand.tmp 37), (Operand.tmp 42), (Operand.const (Value.int IntKind.u64 0))], argTypes := #[121, 121, 121] }), type := 122, pos := "field.go:92", after := #[{ on := 0, ground := Ground.data }, { on := 5, ground := Ground.data }], guard := none }, { dst := (some 36), op := (Op.move (Operand.tmp 43)), type := 122, pos := "field.go:92", after := #[{ on := 6, ground := Ground.data }], guard := none }, { dst := (some 44), op := (Op.extract (Operand.tmp 36) 0), type := 121, pos := "field.go:92", after := #[{ on := 7, ground := Ground.data }], guard := none }, { dst := (some 45), op := (Op.extract (Operand.tmp 36) 1), type := 121, pos := "field.go:92", after := #[{ on := 7, ground := Ground.data }, { on := 10, ground := (Ground.gcOnly Departure.lateStores) }], guard := none }, { dst := (some 12), op := (Op.assign (Operand.tmp 44)), type := 121, pos := "field.go:92", after := #[{ on := 8, ground := Ground.data }, { on := 6, ground := Ground.chain }, { on := 0, ground := Ground.phase }, { on := 1, ground := Ground.phase }, { on := 2, ground := Ground.phase }, { on := 3, ground := Ground.phase }, { on := 4, ground := Ground.phase }, { on := 5, ground := Ground.phase }, { on := 6, ground := Ground.phase }, { on := 7, ground := Ground.phase }, { on := 8, ground := Ground.phase }, { on := 9, ground := (Ground.textOnly Departure.lateStores) }], guard := none }, { dst := (some 13), op := (Op.assign (Operand.tmp 45)), type := 121, pos := "field.go:92", after := #[{ on := 9, ground := Ground.data }, { on := 10, ground := Ground.chain }, { on := 0, ground := Ground.phase }, { on := 1, ground := Ground.phase }, { on := 2, ground := Ground.phase }, { on := 3, ground := Ground.phase }, { on := 4, ground := Ground.phase }, { on := 5, ground := Ground.phase }, { on := 6, ground := Ground.phase }, { on := 7, ground := Ground.phase }, { on := 8, ground := Ground.phase }, { on := 9, ground := Ground.phase }, { on := 10, ground := Ground.phase }], guard := none }] false) (Code.seq (Code.region 12 #[{ dst := (some 46), op := (Op.move (Operand.tmp 11)), type := 121, pos := "field.go:93", after := #[], guard := none }, { dst := (some 47), op := (Op.move (Operand.tmp 13)), type := 121, pos := "field.go:93", after := #[], guard := none }, { dst := (some 48), op := (Op.binOp BinOp.add 121 (Operand.tmp 46) (Operand.tmp 47) 121), type := 121, pos := "field.go:93", after := #[{ on := 0, ground := Ground.data }, { on := 1, ground := Ground.data }], guard := none }, { dst := (some 11), op := (Op.assign (Operand.tmp 48)), type := 121, pos := "field.go:93", after := #[{ on := 2, ground := Ground.data }, { on := 0, ground := Ground.phase }, { on := 1, ground := Ground.phase }, { on := 2, ground := Ground.phase }], guard := none }] false) (Code.seq (Code.region 13 #[{ dst := (some 50), op := (Op.move (Operand.tmp 12)), type := 121, pos := "field.go:94", after := #[], guard := none }, { dst := (some 51), op := (Op.move (Operand.tmp 8)), type := 121, pos := "field.go:94", after := #[], guard := none }, { dst := (some 52), op := (Op.call { callee := (Callee.value (Operand.func 98)), args := #[(Operand.tmp 50), (Operand.tmp 51), (Operand.const (Value.int IntKind.u64 0))], argTypes := #[121, 121, 121] }), type := 122, pos := "field.go:94", after := #[{ on := 0, ground := Ground.data }, { on := 1, ground := Ground.data }], guard := none }, { dst := (some 49), op := (Op.move (Operand.tmp 52)), type := 122, pos := "field.go:94", after := #[{ on := 2, ground := Ground.data }], guard := none }, { dst := (some 53), op := (Op.extract (Operand.tmp 49) 0), type := 121, pos := "field.go:94", after := #[{ on := 3, ground := Ground.data }], guard := none }, { dst := (some 54), op := (Op.extract (Operand.tmp 49) 1), type := 121, pos := "field.go:94", after := #[{ on := 3, ground := Ground.data }, { on := 6, ground := (Ground.gcOnly Departure.lateStores) }], guard := none }, { dst := (some 12), op := (Op.assign (Operand.tmp 53)), type := 121, pos := "field.go:94", after := #[{ on := 4, ground := Ground.data }, { on := 2, ground := Ground.chain }, { on := 0, ground := Ground.phase }, { on := 1, ground := Ground.phase }, { on := 2, ground := Ground.phase }, { on := 3, ground := Ground.phase }, { on := 4, ground := Ground.phase }, { on := 5, ground := (Ground.textOnly Departure.lateStores) }], guard := none }, { dst := (some 13), op := (Op.assign (Operand.tmp 54)), type := 121, pos := "field.go:94", after := #[{ on := 5, ground := Ground.data }, { on := 6, ground := Ground.chain }, { on := 0, ground := Ground.phase }, { on := 1, ground := Ground.phase }, { on := 2, ground := Ground.phase }, { on := 3, ground := Ground.phase }, { on := 4, ground := Ground.phase }, { on := 5, ground := Ground.phase }, { on := 6, ground := Ground.phase }], guard := none }] false) (Code.region 14 #[{ dst := (some 55), op := (Op.move (Operand.tmp 6)), type := 3, pos := "field.go:95", after := #[], guard := none }, { dst := (some 56), op := (Op.move (Operand.tmp 9)), type := 3, pos := "field.go:95", after := #[], guard := none }, { dst := (some 57), op := (Op.binOp BinOp.add 3 (Operand.tmp 55) (Operand.tmp 56) 3), type := 3, pos := "field.go:95", after := #[{ on := 0, ground := Ground.data }, { on := 1, ground := Ground.data }], guard := none }, { dst := (some 58), op := (Op.move (Operand.tmp 12)), type := 121, pos := "field.go:95", after := #[], guard := none }, { dst := (some 59), op := (Op.move (Operand.tmp 11)), type := 121, pos := "field.go:95", after := #[{ on := 8, ground := (Ground.gcOnly Departure.lateStores) }], guard := none }, { dst := (some 60), op := (Op.move (Operand.tmp 13)), type := 121, pos := "field.go:95", after := #[{ on := 8, ground := (Ground.gcOnly Departure.lateStores) }], guard := none }, { dst := (some 61), op := (Op.binOp BinOp.add 121 (Operand.tmp 59) (Operand.tmp 60) 121), type := 121, pos := "field.go:95", after := #[{ on := 4, ground := Ground.data }, { on := 5, ground := Ground.data }, { on := 8, ground := (Ground.gcOnly Departure.lateStores) }], guard := none }, { dst := (some 62), op := (Op.indexAddr 167 (Operand.tmp 5) (Operand.tmp 57)), type := 0, pos := "field.go:95", after := #[{ on := 2, ground := Ground.data }, { on := 0, ground := Ground.phase }, { on := 1, ground := Ground.phase }, { on := 2, ground := Ground.phase }, { on := 3, ground := Ground.phase }, { on := 4, ground := (Ground.textOnly Departure.lateStores) }, { on := 5, ground := (Ground.textOnly Departure.lateStores) }, { on := 6, ground := (Ground.textOnly Departure.lateStores) }], guard := none }, { dst := none, op := (Op.store 121 (Operand.tmp 62) (Operand.tmp 58)), type := 0, pos := "field.go:95", after := #[{ on := 7, ground := Ground.data }, { on := 3, ground := Ground.data }, { on := 0, ground := Ground.phase }, { on := 1, ground := Ground.phase }, { on := 2, ground := Ground.phase }, { on := 3, ground := Ground.phase }, { on := 4, ground := (Ground.textOnly Departure.lateStores) }, { on := 5, ground := (Ground.textOnly Departure.lateStores) }, { on := 6, ground := (Ground.textOnly Departure.lateStores) }], guard := none }, { dst := (some 8), op := (Op.assign (Operand.tmp 61)), type := 121, pos := "field.go:95", after := #[{ on := 6, ground := Ground.data }, { on := 8, ground := Ground.chain }, { on := 0, ground := Ground.phase }, { on := 1, ground := Ground.phase }, { on := 2, ground := Ground.phase }, { on := 3, ground := Ground.phase }, { on := 4, ground := Ground.phase }, { on := 5, ground := Ground.phase }, { on := 6, ground := Ground.phase }, { on := 7, ground := Ground.phase }, { on := 8, ground := Ground.phase }], guard := none }] false)))))))) (Code.region 15 #[{ dst := (some 63), op := (Op.binOp BinOp.add 3 (Operand.tmp 26) (Operand.const (Value.int IntKind.i64 1)) 3), type := 3, pos := "field.go:89", after := #[], guard := none }, { dst := (some 26), op := (Op.move (Operand.tmp 63)), type := 3, pos := "field.go:89", after := #[{ on := 0, ground := Ground.data }], guard := none }] false))))))) (Code.region 16 #[{ dst := (some 64), op := (Op.move (Operand.tmp 6)), type := 3, pos := "field.go:97", after := #[], guard := none }, { dst := (some 65), op := (Op.binOp BinOp.add 3 (Operand.tmp 64) (Operand.const (Value.int IntKind.i64 4)) 3), type := 3, pos := "field.go:97", after := #[{ on := 0, ground := Ground.data }], guard := none }, { dst := (some 66), op := (Op.move (Operand.tmp 8)), type := 121, pos := "field.go:97", after := #[], guard := none }, { dst := (some 67), op := (Op.indexAddr 167 (Operand.tmp 5) (Operand.tmp 65)), type := 0, pos := "field.go:97", after := #[{ on := 1, ground := Ground.data }, { on := 0, ground := Ground.phase }, { on := 1, ground := Ground.phase }, { on := 2, ground := Ground.phase }], guard := none }, { dst := none, op := (Op.store 121 (Operand.tmp 67) (Operand.tmp 66)), type := 0, pos := "field.go:97", after := #[{ on := 3, ground := Ground.data }, { on := 2, ground := Ground.data }, { on := 0, ground := Ground.phase }, { on := 1, ground := Ground.phase }, { on := 2, ground := Ground.phase }], guard := none }] false))))) (Code.region 17 #[{ dst := (some 68), op := (Op.binOp BinOp.add 3 (Operand.tmp 21) (Operand.const (Value.int IntKind.i64 1)) 3), type := 3, pos := "field.go:87", after := #[], guard := none }, { dst := (some 21), op := (Op.move (Operand.tmp 68)), type := 3, pos := "field.go:87", after := #[{ on := 0, ground := Ground.data }], guard := none }] false))))
def loop136b : Code := (Code.seq (Code.region 7 #[{ dst := (some 27), op := (Op.binOp BinOp.lss 3 (Operand.tmp 26) (Operand.const (Value.int IntKind.i64 4)) 3), type := 0, pos := "field.go:89", after := #[], guard := none }] false) (Code.seq (Code.cond (Operand.tmp 27) Code.skip (Code.exit 2)) (Code.seq (Code.block 3 (Code.seq (Code.region 8 #[{ dst := (some 28), op := (Op.move (Operand.tmp 26)), type := 3, pos := "field.go:89", after := #[], guard := none }, { dst := (some 29), op := (Op.index 148 (Operand.tmp 25) (Operand.tmp 26)), type := 121, pos := "field.go:89", after := #[], guard := none }, { dst := (some 9), op := (Op.assign (Operand.tmp 28)), type := 3, pos := "field.go:89", after := #[{ on := 0, ground := Ground.data }, { on := 0, ground := Ground.phase }, { on := 1, ground := Ground.phase }], guard := none }, { dst := (some 10), op := (Op.assign (Operand.tmp 29)), type := 121, pos := "field.go:89", after := #[{ on := 1, ground := Ground.data }, { on := 2, ground := Ground.chain }, { on := 0, ground := Ground.phase }, { on := 1, ground := Ground.phase }, { on := 2, ground := Ground.phase }], guard := none }] false) (Code.seq (Code.region 9 #[{ dst := (some 31), op := (Op.move (Operand.tmp 7)), type := 121, pos := "field.go:90", after := #[], guard := none }, { dst := (some 32), op := (Op.move (Operand.tmp 10)), type := 121, pos := "field.go:90", after := #[], guard := none }, { dst := (some 33), op := (Op.call { callee := (Callee.value (Operand.func 101)), args := #[(Operand.tmp 31), (Operand.tmp 32)], argTypes := #[121, 121] }), type := 122, pos := "field.go:90", after := #[{ on := 0, ground := Ground.data }, { on := 1, ground := Ground.data }], guard := none }, { dst := (some 30), op := (Op.move (Operand.tmp 33)), type := 122, pos := "field.go:90", after := #[{ on := 2, ground := Ground.data }], guard := none }, { dst := (some 34), op := (Op.extract (Operand.tmp 30) 0), type := 121, pos := "field.go:90", after := #[{ on := 3, ground := Ground.data }], guard := none }, { dst := (some 35), op := (Op.extract (Operand.tmp 30) 1), type := 121, pos := "field.go:90", after := #[{ on := 3, ground := Ground.data }, { on := 6, ground := (Ground.gcOnly Departure.lateStores) }], guard := none }, { dst := (some 11), op := (Op.assign (Operand.tmp 34)), type := 121, pos := "field.go:90", after := #[{ on := 4, ground := Ground.data }, { on := 2, ground := Ground.chain }, { on := 0, ground := Ground.phase }, { on := 1, ground := Ground.phase }, { on := 2, ground := Ground.phase }, { on := 3, ground := Ground.phase }, { on := 4, ground := Ground.phase }, { on := 5, ground := (Ground.textOnly Departure.lateStores) }], guard := none }, { dst := (some 12), op := (Op.assign (Operand.tmp 35)), type := 121, pos := "field.go:90", after := #[{ on := 5, ground := Ground.data }, { on := 6, ground := Ground.chain }, { on := 0, ground := Ground.phase }, { on := 1, ground := Ground.phase }, { on := 2, ground := Ground.phase }, { on := 3, ground := Ground.phase }, { on := 4, ground := Ground.phase }, { on := 5, ground := Ground.phase }, { on := 6, ground := Ground.phase }], guard := none }] false) (Code.seq (Code.region 10 #[{ dst := (some 13), op := (Op.assign (Operand.const (Value.int IntKind.u64 0))), type := 121, pos := "field.go:91", after := #[], guard := none }] false) (Code.seq (Code.region 11 #[{ dst := (some 37), op := (Op.move (Operand.tmp 12)), type := 121, pos := "field.go:92", after := #[], guard := none }, { dst := (some 38), op := (Op.move (Operand.tmp 6)), type := 3, pos := "field.go:92", after := #[], guard := none }, { dst := (some 39), op := (Op.move (Operand.tmp 9)), type := 3, pos := "field.go:92", after := #[], guard := none }, { dst := (some 40), op := (Op.binOp BinOp.add 3 (Operand.tmp 38) (Operand.tmp 39) 3), type := 3, pos := "field.go:92", after := #[{ on := 1, ground := Ground.data }, { on := 2, ground := Ground.data }], guard := none }, { dst := (some 41), op := (Op.indexAddr 167 (Operand.tmp 5) (Operand.tmp 40)), type := 0, pos := "field.go:92", after := #[{ on := 3, ground := Ground.data }], guard := none }, { dst := (some 42), op := (Op.load 121 (Operand.tmp 41)), type := 121, pos := "field.go:92", after := #[{ on := 4, ground := Ground.data }], guard := none }, { dst := (some 43), op := (Op.call { callee := (Callee.value (Operand.func 98)), args := #[(Operand.tmp 37), (Operand.tmp 42), (Operand.const (Value.int IntKind.u64 0))], argTypes := #[121, 121, 121] }), type := 122, pos := "field.go:92", after := #[{ on := 0, ground := Ground.data }, { on := 5, ground := Ground.data }], guard := none }, { dst := (some 36), op := (Op.move (Operand.tmp 43)), type := 122, pos := "field.go:92", after := #[{ on := 6, ground := Ground.data }], guard := none }, { dst := (some 44), op := (Op.extract (Operand.tmp 36) 0), type := 121, pos := "field.go:92", after := #[{ on := 7, ground := Ground.data }], guard := none }, { dst := (some 45), op := (Op.extract (Operand.tmp 36) 1), type := 121, pos := "field.go:92", after := #[{ on := 7, ground := Ground.data }, { on := 10, ground := (Ground.gcOnly Departure.lateStores) }], guard := none }, { dst := (some 12), op := (Op.assign (Operand.tmp 44)), type := 121, pos := "field.go:92", after := #[{ on := 8, ground := Ground.data }, { on := 6, ground := Ground.chain }, { on := 0, ground := Ground.phase }, { on := 1, ground := Ground.phase }, { on := 2, ground := Ground.phase }, { on := 3, ground := Ground.phase }, { on := 4, ground := Ground.phase }, { on := 5, ground := Ground.phase }, { on := 6, ground := Ground.phase }, { on := 7, ground := Ground.phase }, { on := 8, ground := Ground.phase }, { on := 9, ground := (Ground.textOnly Departure.lateStores) }], guard := none }, { dst := (some 13), op := (Op.assign (Operand.tmp 45)), type := 121, pos := "field.go:92", after := #[{ on := 9, ground := Ground.data }, { on := 10, ground := Ground.chain }, { on := 0, ground := Ground.phase }, { on := 1, ground := Ground.phase }, { on := 2, ground := Ground.phase }, { on := 3, ground := Ground.phase }, { on := 4, ground := Ground.phase }, { on := 5, ground := Ground.phase }, { on := 6, ground := Ground.phase }, { on := 7, ground := Ground.phase }, { on := 8, ground := Ground.phase }, { on := 9, ground := Ground.phase }, { on := 10, ground := Ground.phase }], guard := none }] false) (Code.seq (Code.region 12 #[{ dst := (some 46), op := (Op.move (Operand.tmp 11)), type := 121, pos := "field.go:93", after := #[], guard := none }, { dst := (some 47), op := (Op.move (Operand.tmp 13)), type := 121, pos := "field.go:93", after := #[], guard := none }, { dst := (some 48), op := (Op.binOp BinOp.add 121 (Operand.tmp 46) (Operand.tmp 47) 121), type := 121, pos := "field.go:93", after := #[{ on := 0, ground := Ground.data }, { on := 1, ground := Ground.data }], guard := none }, { dst := (some 11), op := (Op.assign (Operand.tmp 48)), type := 121, pos := "field.go:93", after := #[{ on := 2, ground := Ground.data }, { on := 0, ground := Ground.phase }, { on := 1, ground := Ground.phase }, { on := 2, ground := Ground.phase }], guard := none }] false) (Code.seq (Code.region 13 #[{ dst := (some 50), op := (Op.move (Operand.tmp 12)), type := 121, pos := "field.go:94", after := #[], guard := none }, { dst := (some 51), op := (Op.move (Operand.tmp 8)), type := 121, pos := "field.go:94", after := #[], guard := none }, { dst := (some 52), op := (Op.call { callee := (Callee.value (Operand.func 98)), args := #[(Operand.tmp 50), (Operand.tmp 51), (Operand.const (Value.int IntKind.u64 0))], argTypes := #[121, 121, 121] }), type := 122, pos := "field.go:94", after := #[{ on := 0, ground := Ground.data }, { on := 1, ground := Ground.data }], guard := none }, { dst := (some 49), op := (Op.move (Operand.tmp 52)), type := 122, pos := "field.go:94", after := #[{ on := 2, ground := Ground.data }], guard := none }, { dst := (some 53), op := (Op.extract (Operand.tmp 49) 0), type := 121, pos := "field.go:94", after := #[{ on := 3, ground := Ground.data }], guard := none }, { dst := (some 54), op := (Op.extract (Operand.tmp 49) 1), type := 121, pos := "field.go:94", after := #[{ on := 3, ground := Ground.data }, { on := 6, ground := (Ground.gcOnly Departure.lateStores) }], guard := none }, { dst := (some 12), op := (Op.assign (Operand.tmp 53)), type := 121, pos := "field.go:94", after := #[{ on := 4, ground := Ground.data }, { on := 2, ground := Ground.chain }, { on := 0, ground := Ground.phase }, { on := 1, ground := Ground.phase }, { on := 2, ground := Ground.phase }, { on := 3, ground := Ground.phase }, { on := 4, ground := Ground.phase }, { on := 5, ground := (Ground.textOnly Departure.lateStores) }], guard := none }, { dst := (some 13), op := (Op.assign (Operand.tmp 54)), type := 121, pos := "field.go:94", after := #[{ on := 5, ground := Ground.data }, { on := 6, ground := Ground.chain }, { on := 0, ground := Ground.phase }, { on := 1, ground := Ground.phase }, { on := 2, ground := Ground.phase }, { on := 3, ground := Ground.phase }, { on := 4, ground := Ground.phase }, { on := 5, ground := Ground.phase }, { on := 6, ground := Ground.phase }], guard := none }] false) (Code.region 14 #[{ dst := (some 55), op := (Op.move (Operand.tmp 6)), type := 3, pos := "field.go:95", after := #[], guard := none }, { dst := (some 56), op := (Op.move (Operand.tmp 9)), type := 3, pos := "field.go:95", after := #[], guard := none }, { dst := (some 57), op := (Op.binOp BinOp.add 3 (Operand.tmp 55) (Operand.tmp 56) 3), type := 3, pos := "field.go:95", after := #[{ on := 0, ground := Ground.data }, { on := 1, ground := Ground.data }], guard := none }, { dst := (some 58), op := (Op.move (Operand.tmp 12)), type := 121, pos := "field.go:95", after := #[], guard := none }, { dst := (some 59), op := (Op.move (Operand.tmp 11)), type := 121, pos := "field.go:95", after := #[{ on := 8, ground := (Ground.gcOnly Departure.lateStores) }], guard := none }, { dst := (some 60), op := (Op.move (Operand.tmp 13)), type := 121, pos := "field.go:95", after := #[{ on := 8, ground := (Ground.gcOnly Departure.lateStores) }], guard := none }, { dst := (some 61), op := (Op.binOp BinOp.add 121 (Operand.tmp 59) (Operand.tmp 60) 121), type := 121, pos := "field.go:95", after := #[{ on := 4, ground := Ground.data }, { on := 5, ground := Ground.data }, { on := 8, ground := (Ground.gcOnly Departure.lateStores) }], guard := none }, { dst := (some 62), op := (Op.indexAddr 167 (Operand.tmp 5) (Operand.tmp 57)), type := 0, pos := "field.go:95", after := #[{ on := 2, ground := Ground.data }, { on := 0, ground := Ground.phase }, { on := 1, ground := Ground.phase }, { on := 2, ground := Ground.phase }, { on := 3, ground := Ground.phase }, { on := 4, ground := (Ground.textOnly Departure.lateStores) }, { on := 5, ground := (Ground.textOnly Departure.lateStores) }, { on := 6, ground := (Ground.textOnly Departure.lateStores) }], guard := none }, { dst := none, op := (Op.store 121 (Operand.tmp 62) (Operand.tmp 58)), type := 0, pos := "field.go:95", after := #[{ on := 7, ground := Ground.data }, { on := 3, ground := Ground.data }, { on := 0, ground := Ground.phase }, { on := 1, ground := Ground.phase }, { on := 2, ground := Ground.phase }, { on := 3, ground := Ground.phase }, { on := 4, ground := (Ground.textOnly Departure.lateStores) }, { on := 5, ground := (Ground.textOnly Departure.lateStores) }, { on := 6, ground := (Ground.textOnly Departure.lateStores) }], guard := none }, { dst := (some 8), op := (Op.assign (Operand.tmp 61)), type := 121, pos := "field.go:95", after := #[{ on := 6, ground := Ground.data }, { on := 8, ground := Ground.chain }, { on := 0, ground := Ground.phase }, { on := 1, ground := Ground.phase }, { on := 2, ground := Ground.phase }, { on := 3, ground := Ground.phase }, { on := 4, ground := Ground.phase }, { on := 5, ground := Ground.phase }, { on := 6, ground := Ground.phase }, { on := 7, ground := Ground.phase }, { on := 8, ground := Ground.phase }], guard := none }] false)))))))) (Code.region 15 #[{ dst := (some 63), op := (Op.binOp BinOp.add 3 (Operand.tmp 26) (Operand.const (Value.int IntKind.i64 1)) 3), type := 3, pos := "field.go:89", after := #[], guard := none }, { dst := (some 26), op := (Op.move (Operand.tmp 63)), type := 3, pos := "field.go:89", after := #[{ on := 0, ground := Ground.data }], guard := none }] false))))

theorem u64s_set (l : List UInt64) (j : Nat) (v : UInt64) : (u64s l).set j (u64 v) = u64s (l.set j v) := (List.map_set (f := u64)).symm

theorem mul_in {g : Gh} (hg : g.n = 109) (b3 b4 b5 : Nat) (x : Value) (y : List UInt64) (hy : y.length = 4) (m : UInt64) (z4 c3 : List Value) (W0 : List UInt64) (i : Nat) (hi : i < 4) :
    ∀ (r k : Nat) (W : List UInt64) (c : UInt64), k + r = 4 → MRow y m W0 W i k c →
    WpL Try.prog g loop136b (fun e env mem => e = .exit 2 ∧ ∃ W c, MRow y m W0 W i 4 c ∧
        Wk g env mem [(3, .pointer (some ⟨b3, 0, none⟩)), (4, .pointer (some ⟨b4, 0, none⟩)), (5, .pointer (some ⟨b5, 0, none⟩)), (6, i64 i), (8, u64 c), (20, x), (21, i64 i)] [⟨b5, u64s W, true⟩, ⟨b4, z4, true⟩, ⟨b3, c3, true⟩])
      [(3, .pointer (some ⟨b3, 0, none⟩)), (4, .pointer (some ⟨b4, 0, none⟩)), (5, .pointer (some ⟨b5, 0, none⟩)), (6, i64 i), (7, u64 m), (8, u64 c), (20, x), (21, i64 i), (25, .agg (u64s y).toArray), (26, i64 k)]
      [⟨b5, u64s W, true⟩, ⟨b4, z4, true⟩, ⟨b3, c3, true⟩] := by
  obtain ⟨gn, w0, may⟩ := g
  obtain rfl : gn = 109 := hg
  intro r
  induction r with
  | zero =>
    intro k W c hk hR
    obtain rfl : k = 4 := by omega
    refine WpL.step ?_
    refine Wp.seq ?_
    refine Wp.reg allGen ?_
    refine Tr.lss rfl rfl (by first | with_reducible assumption | exact decide_eq_true (by omega) | exact decide_eq_false (by omega) | exact beq_iff_eq.2 (by omega) | exact beq_eq_false_iff_ne.2 (by omega) | exact bne_iff_ne.2 (by omega) | rfl) rfl trivial rfl ?_
    refine Tr.nil ?_ (fun _ => rfl) (List.Perm.refl _)
    refine Wp.seq ?_
    refine Wp.condF rfl ?_
    refine Wp.exit ?_
    exact ⟨rfl, W, c, hR, Wk.mk (by repeat (first | exact ESub.nil | refine ESub.cons rfl (by first | rfl | (simp; done) | (simp; omega)) ?_)) (by repeat (first | exact MSub.nil | refine MSub.cons (by repeat (first | exact .here | apply Pick.there | apply Pick.append)) (by first | rfl | (simp; done)) ?_))⟩
  | succ r ih =>
    intro k W c hk hR
    have hk4 : k < 4 := by omega
    have hWl := hR.len
    have hWl' : (u64s W).length = 8 := by simp [hWl]
    have gy := at_get u64 (At.all (u64s y)) 0 (j := k) (by omega) (k := (k : Int)) rfl
    rw [Nat.zero_add] at gy
    have gW := at_get u64 (At.all (u64s W)) 0 (j := i + k) (by omega) (k := (i : Int) + (k : Int)) (by omega)
    rw [Nat.zero_add] at gW
    have hidx : ((i : Int) + (k : Int)).toNat = i + k := by omega
    have hm := mulOk m (y.getD k 0)
    have h1 := addOk (m * y.getD k 0) (W.getD (i + k) 0) 0 u0_le
    have h2 := addOk (m * y.getD k 0 + W.getD (i + k) 0 + 0) c 0 u0_le
    have hstep := hR.step (by omega) (by omega) (mac hm h1 h2)
    have hih := ih (k + 1) _ _ (by omega) hstep
    rw [← u64s_set, ← hidx] at hih
    generalize y.getD k 0 = Y at *
    rw [hidx] at hih
    generalize W.getD (i + k) 0 = w at *
    rw [← hidx] at hih
    refine WpL.step ?_
    refine Wp.seq ?_
    refine Wp.reg allGen ?_
    refine Tr.lss rfl rfl (by first | with_reducible assumption | exact decide_eq_true (by omega) | exact decide_eq_false (by omega) | exact beq_iff_eq.2 (by omega) | exact beq_eq_false_iff_ne.2 (by omega) | exact bne_iff_ne.2 (by omega) | rfl) rfl trivial rfl ?_
    refine Tr.nil ?_ (fun _ => rfl) (List.Perm.refl _)
    refine Wp.seq ?_
    refine Wp.condT rfl ?_
    refine Wp.skip ?_
    refine Wp.seq ?_
    refine Wp.block ?_
    refine Wp.seq ?_
    refine Wp.reg allGen ?_
    refine Tr.move rfl rfl trivial rfl ?_
    refine Tr.indexS tab rfl rfl rfl rfl rfl rfl rfl (by omega) (by omega) gy rfl trivial rfl ?_
    refine Tr.assign rfl rfl trivial rfl ?_
    refine Tr.assign rfl rfl trivial rfl ?_
    refine Tr.nil ?_ (fun _ => rfl) (List.Perm.refl _)
    refine Wp.seq ?_
    refine Wp.reg allGen ?_
    refine Tr.move rfl rfl trivial rfl ?_
    refine Tr.move rfl rfl trivial rfl ?_
    refine Tr.call rfl (f101_mul64 _ _) (by repeat (first | exact Has.nil | refine Has.cons (by repeat (first | exact .head _ | refine .tail _ ?_ | refine List.mem_append_right _ ?_)) ?_)) rfl trivial rfl ?_
    refine Tr.move rfl rfl trivial rfl ?_
    refine Tr.extract rfl rfl rfl trivial rfl ?_
    refine Tr.extract rfl rfl rfl trivial rfl ?_
    refine Tr.assign rfl rfl trivial rfl ?_
    refine Tr.assign rfl rfl trivial rfl ?_
    refine Tr.nil ?_ (fun _ => rfl) (List.Perm.refl _)
    refine Wp.seq ?_
    refine Wp.reg allGen ?_
    refine Tr.assign (v := u64 0) rfl rfl trivial rfl ?_
    refine Tr.nil ?_ (fun _ => rfl) (List.Perm.refl _)
    refine Wp.seq ?_
    refine Wp.reg allGen ?_
    refine Tr.move rfl rfl trivial rfl ?_
    refine Tr.move rfl rfl trivial rfl ?_
    refine Tr.move rfl rfl trivial rfl ?_
    refine Tr.add rfl rfl (by first | exact wrap_i64 (by omega) (by omega) | rfl) rfl trivial rfl ?_
    first | refine Tr.indexAddr01 tab rfl rfl rfl rfl rfl (by omega) (by omega) rfl trivial rfl ?_ | refine Tr.indexAddr1 tab rfl rfl rfl rfl rfl (by omega) (by omega) rfl trivial rfl ?_
    refine Tr.loadS tab rfl rfl rfl (by repeat (first | exact .head _ | refine .tail _ ?_ | refine List.mem_append_right _ ?_)) (by first | rfl | with_reducible assumption | assumption | (simp; done)) rfl trivial rfl ?_
    refine Tr.callX (vs := [u64 (m * Y), u64 w, u64 0]) rfl (add64 _ _ 0 (by decide)) rfl trivial rfl ?_
    refine Tr.move rfl rfl trivial rfl ?_
    refine Tr.extract rfl rfl rfl trivial rfl ?_
    refine Tr.extract rfl rfl rfl trivial rfl ?_
    refine Tr.assign rfl rfl trivial rfl ?_
    refine Tr.assign rfl rfl trivial rfl ?_
    refine Tr.nil ?_ (fun _ => rfl) (List.Perm.refl _)
    refine Wp.seq ?_
    refine Wp.reg allGen ?_
    refine Tr.move rfl rfl trivial rfl ?_
    refine Tr.move rfl rfl trivial rfl ?_
    refine Tr.add rfl rfl (by first | exact u64_add _ _ | exact wrap_u64 (by omega) (by omega) | rfl) rfl trivial rfl ?_
    refine Tr.assign rfl rfl trivial rfl ?_
    refine Tr.nil ?_ (fun _ => rfl) (List.Perm.refl _)
    refine Wp.seq ?_
    refine Wp.reg allGen ?_
    refine Tr.move rfl rfl trivial rfl ?_
    refine Tr.move rfl rfl trivial rfl ?_
    refine Tr.callX (vs := [u64 (m * Y + w + 0), u64 c, u64 0]) rfl (add64 _ _ 0 (by decide)) rfl trivial rfl ?_
    refine Tr.move rfl rfl trivial rfl ?_
    refine Tr.extract rfl rfl rfl trivial rfl ?_
    refine Tr.extract rfl rfl rfl trivial rfl ?_
    refine Tr.assign rfl rfl trivial rfl ?_
    refine Tr.assign rfl rfl trivial rfl ?_
    refine Tr.nil ?_ (fun _ => rfl) (List.Perm.refl _)
    refine Wp.reg allGen ?_
    refine Tr.move rfl rfl trivial rfl ?_
    refine Tr.move rfl rfl trivial rfl ?_
    refine Tr.add rfl rfl (by first | exact wrap_i64 (by omega) (by omega) | rfl) rfl trivial rfl ?_
    refine Tr.move rfl rfl trivial rfl ?_
    refine Tr.move rfl rfl trivial rfl ?_
    refine Tr.move rfl rfl trivial rfl ?_
    refine Tr.add rfl rfl (by first | exact u64_add _ _ | exact wrap_u64 (by omega) (by omega) | rfl) rfl trivial rfl ?_
    first | refine Tr.indexAddr01 tab rfl rfl rfl rfl rfl (by omega) (by omega) rfl trivial rfl ?_ | refine Tr.indexAddr1 tab rfl rfl rfl rfl rfl (by omega) (by omega) rfl trivial rfl ?_
    refine Tr.storeS tab rfl rfl rfl rfl (by repeat (first | exact .here | apply MU.there | apply MU.app)) (by omega) trivial rfl ?_
    refine Tr.assign rfl rfl trivial rfl ?_
    refine Tr.nil ?_ (fun _ => rfl) (List.Perm.refl _)
    refine Wp.reg allGen ?_
    refine Tr.add rfl rfl (by first | exact wrap_i64 (by omega) (by omega) | rfl) rfl trivial rfl ?_
    refine Tr.move rfl rfl trivial rfl ?_
    refine Tr.nil ?_ (fun _ => rfl) (List.Perm.refl _)
    exact WpL.weak hih (Wk.mk (by repeat (first | exact ESub.nil | refine ESub.cons rfl (by first | rfl | (simp; done) | (simp; omega)) ?_)) (by repeat (first | exact MSub.nil | refine MSub.cons (by repeat (first | exact .here | apply Pick.there | apply Pick.append)) (by first | rfl | (simp; done)) ?_)))

theorem mul_out {g : Gh} (hg : g.n = 109) (b3 b4 b5 : Nat) (x y : List UInt64) (hx : x.length = 4) (hy : y.length = 4) (z4 : List Value) :
    ∀ (r i : Nat) (W : List UInt64), i + r = 4 → W.length = 8 → n64 W = n64 (x.take i) * n64 y → (∀ j, i + 4 ≤ j → W.getD j 0 = 0) →
    WpL Try.prog g loop136a (fun e env mem => e = .exit 0 ∧ ∃ W : List UInt64, W.length = 8 ∧ n64 W = n64 x * n64 y ∧
        Wk g env mem [(4, .pointer (some ⟨b4, 0, none⟩)), (5, .pointer (some ⟨b5, 0, none⟩))] [⟨b5, u64s W, true⟩, ⟨b4, z4, true⟩])
      [(3, .pointer (some ⟨b3, 0, none⟩)), (4, .pointer (some ⟨b4, 0, none⟩)), (5, .pointer (some ⟨b5, 0, none⟩)), (20, .agg (u64s x).toArray), (21, i64 i)]
      [⟨b5, u64s W, true⟩, ⟨b4, z4, true⟩, ⟨b3, u64s y, true⟩] := by
  obtain ⟨gn, w0, may⟩ := g
  obtain rfl : gn = 109 := hg
  have hyl : (u64s y).length = 4 := by simp [hy]
  intro r
  induction r with
  | zero =>
    intro i W hi h1 h2 h3
    obtain rfl : i = 4 := by omega
    rw [List.take_of_length_le (by omega)] at h2
    refine WpL.step ?_
    refine Wp.seq ?_
    refine Wp.reg allGen ?_
    refine Tr.lss rfl rfl (by first | with_reducible assumption | exact decide_eq_true (by omega) | exact decide_eq_false (by omega) | exact beq_iff_eq.2 (by omega) | exact beq_eq_false_iff_ne.2 (by omega) | exact bne_iff_ne.2 (by omega) | rfl) rfl trivial rfl ?_
    refine Tr.nil ?_ (fun _ => rfl) (List.Perm.refl _)
    refine Wp.seq ?_
    refine Wp.condF rfl ?_
    refine Wp.exit ?_
    exact ⟨rfl, W, h1, h2, Wk.mk (by repeat (first | exact ESub.nil | refine ESub.cons rfl (by first | rfl | (simp; done) | (simp; omega)) ?_)) (by repeat (first | exact MSub.nil | refine MSub.cons (by repeat (first | exact .here | apply Pick.there | apply Pick.append)) (by first | rfl | (simp; done)) ?_))⟩
  | succ r ih =>
    intro i W hi h1 h2 h3
    have gx := at_get u64 (At.all (u64s x)) 0 (j := i) (by omega) (k := (i : Int)) rfl
    rw [Nat.zero_add] at gx
    have hR : MRow y (x.getD i 0) W W i 0 0 := ⟨h1, by simp [n64], fun j _ => rfl⟩
    have hin := mul_in (g := ⟨109, w0, may⟩) rfl b3 b4 b5 (.agg (u64s x).toArray) y hy (x.getD i 0) z4 (u64s y) W i (by omega) 4 0 W 0 rfl hR
    have ht := n64_take x i (by omega)
    have hidx : ((i : Int) + 4).toNat = i + 4 := by omega
    refine WpL.step ?_
    refine Wp.seq ?_
    refine Wp.reg allGen ?_
    refine Tr.lss rfl rfl (by first | with_reducible assumption | exact decide_eq_true (by omega) | exact decide_eq_false (by omega) | exact beq_iff_eq.2 (by omega) | exact beq_eq_false_iff_ne.2 (by omega) | exact bne_iff_ne.2 (by omega) | rfl) rfl trivial rfl ?_
    refine Tr.nil ?_ (fun _ => rfl) (List.Perm.refl _)
    refine Wp.seq ?_
    refine Wp.condT rfl ?_
    refine Wp.skip ?_
    refine Wp.seq ?_
    refine Wp.block ?_
    refine Wp.seq ?_
    refine Wp.reg allGen ?_
    refine Tr.move rfl rfl trivial rfl ?_
    refine Tr.indexS tab rfl rfl rfl rfl rfl rfl rfl (by omega) (by omega) gx rfl trivial rfl ?_
    refine Tr.assign rfl rfl trivial rfl ?_
    refine Tr.assign rfl rfl trivial rfl ?_
    refine Tr.nil ?_ (fun _ => rfl) (List.Perm.refl _)
    refine Wp.seq ?_
    refine Wp.reg allGen ?_
    refine Tr.assign (v := u64 0) rfl rfl trivial rfl ?_
    refine Tr.nil ?_ (fun _ => rfl) (List.Perm.refl _)
    refine Wp.seq ?_
    refine Wp.seq ?_
    refine Wp.reg allGen ?_
    refine Tr.loadA tab rfl rfl rfl (by repeat (first | exact .head _ | refine .tail _ ?_ | refine List.mem_append_right _ ?_)) (At.all _) hyl rfl trivial rfl ?_
    refine Tr.move rfl rfl trivial rfl ?_
    refine Tr.nil ?_ (fun _ => rfl) (List.Perm.refl _)
    refine Wp.block ?_
    refine Wp.loopQ (hin) (Wk.mk (by repeat (first | exact ESub.nil | refine ESub.cons rfl (by first | rfl | (simp; done) | (simp; omega)) ?_)) (by repeat (first | exact MSub.nil | refine MSub.cons (by repeat (first | exact .here | apply Pick.there | apply Pick.append)) (by first | rfl | (simp; done)) ?_))) ?_
    rintro _ env1 mem1 ⟨rfl, W1, c1, hR1, hk1⟩
    refine Wp.weak ?_ hk1
    have hlast := hR1.last hy (by omega) (h3 _ (by omega))
    have hW1 : (u64s W1).length = 8 := (by simp [hR1.len])
    refine Wp.reg allGen ?_
    refine Tr.move rfl rfl trivial rfl ?_
    refine Tr.add rfl rfl (by first | exact wrap_i64 (by omega) (by omega) | rfl) rfl trivial rfl ?_
    refine Tr.move rfl rfl trivial rfl ?_
    first | refine Tr.indexAddr01 tab rfl rfl rfl rfl rfl (by omega) (by omega) rfl trivial rfl ?_ | refine Tr.indexAddr1 tab rfl rfl rfl rfl rfl (by omega) (by omega) rfl trivial rfl ?_
    refine Tr.storeS tab rfl rfl rfl rfl (by repeat (first | exact .here | apply MU.there | apply MU.app)) (by omega) trivial rfl ?_
    rw [hidx, u64s_set]
    refine Tr.nil ?_ (fun _ => rfl) (List.Perm.refl _)
    refine Wp.reg allGen ?_
    refine Tr.add rfl rfl (by first | exact wrap_i64 (by omega) (by omega) | rfl) rfl trivial rfl ?_
    refine Tr.move rfl rfl trivial rfl ?_
    refine Tr.nil ?_ (fun _ => rfl) (List.Perm.refl _)
    refine WpL.weak (ih (i + 1) _ (by omega) hlast.1 ?_ (fun j hj => by rw [hlast.2.2 j (by omega)]; exact h3 j (by omega))) (Wk.mk (by repeat (first | exact ESub.nil | refine ESub.cons rfl (by first | rfl | (simp; done) | (simp; omega)) ?_)) (by repeat (first | exact MSub.nil | refine MSub.cons (by repeat (first | exact .here | apply Pick.there | apply Pick.append)) (by first | rfl | (simp; done)) ?_)))
    rw [hlast.2.1, h2, ht, Nat.add_mul]
    congr 1
    simp only [Nat.mul_assoc, Nat.mul_comm, Nat.mul_left_comm]

theorem split8 (l : List UInt64) (h : l.length = 8) : ∃ a b c d e f g k, l = [a, b, c, d, e, f, g, k] := by
  match l, h with
  | [a, b, c, d, e, f, g, k], _ => exact ⟨a, b, c, d, e, f, g, k, rfl⟩

/-- what stands above comes in 38 times, place by place -/
theorem mul_high {w0 w1 w2 w3 w4 w5 w6 w7 s0 s1 s2 s3 k0 k1 k2 k3 : UInt64}
    (h0 : s0.toNat + 18446744073709551616 * k0.toNat = w4.toNat * 38 + w0.toNat + 0)
    (h1 : s1.toNat + 18446744073709551616 * k1.toNat = w5.toNat * 38 + w1.toNat + k0.toNat)
    (h2 : s2.toNat + 18446744073709551616 * k2.toNat = w6.toNat * 38 + w2.toNat + k1.toNat)
    (h3 : s3.toNat + 18446744073709551616 * k3.toNat = w7.toNat * 38 + w3.toNat + k2.toNat) :
    n64 [s0, s1, s2, s3] + 115792089237316195423570985008687907853269984665640564039457584007913129639936 * k3.toNat + P * (2 * n64 [w4, w5, w6, w7]) = n64 [w0, w1, w2, w3, w4, w5, w6, w7] := by
  have h38 := P_38
  have hW : n64 [w0, w1, w2, w3, w4, w5, w6, w7] = n64 [w0, w1, w2, w3] + 115792089237316195423570985008687907853269984665640564039457584007913129639936 * n64 [w4, w5, w6, w7] := by simp only [n64]; omega
  have hS : n64 [s0, s1, s2, s3] + 115792089237316195423570985008687907853269984665640564039457584007913129639936 * k3.toNat = n64 [w0, w1, w2, w3] + 38 * n64 [w4, w5, w6, w7] := by simp only [n64]; omega
  rw [hW, hS, h38, Nat.add_mul, Nat.mul_comm 2 P, Nat.mul_assoc]
  omega

theorem mac38 {w o c : UInt64} : (o + (w * 38 + c + 0) + 0).toNat + 18446744073709551616 * (mulHi w 38 + addC (w * 38) c 0 + addC o (w * 38 + c + 0) 0).toNat = w.toNat * 38 + o.toNat + c.toNat := by
  have h1 := addOk (w * 38) c 0 u0_le
  have h2 := addOk o (w * 38 + c + 0) 0 u0_le
  have h2' : AddOk (w * 38 + c + 0) o 0 (o + (w * 38 + c + 0) + 0) (addC o (w * 38 + c + 0) 0) := ⟨h2.le, by rw [h2.eq]; omega⟩
  have := mac (mulOk w 38) h1 h2'
  rw [this, show (38 : UInt64).toNat = 38 from rfl]; omega

theorem f136_mul (X Y : Nat) (hX : X < 115792089237316195423570985008687907853269984665640564039457584007913129639936) (hY : Y < 115792089237316195423570985008687907853269984665640564039457584007913129639936) : FnR Try.prog 136 [el X, el Y] [] (el (X * Y % P)) := by
  have nX := n64_w64 4 X (by rw [pow4]; exact hX)
  have nY := n64_w64 4 Y (by rw [pow4]; exact hY)
  have hrep : List.replicate 8 (Value.int .u64 0) = u64s (List.replicate 8 0) := by simp [u64s]
  have hz : ∀ (n j : Nat), (List.replicate n (0 : UInt64)).getD j 0 = 0 := fun n j => by
    rw [List.getD_eq_getElem?_getD, List.getElem?_replicate]; split <;> rfl
  have hl := fun {g : Gh} (hg : g.n = 109) b3 b4 b5 z4 => mul_out (g := g) hg b3 b4 b5 (w64 4 X) (w64 4 Y) (w64_len 4 X) (w64_len 4 Y) z4 4 0 (List.replicate 8 0) rfl (by simp) (by rw [n64_rep]; simp [n64]) (fun j _ => hz _ j)
  rw [nX, nY] at hl
  refine fnR_of 109 rfl Try.func136 rfl (by kernel_rfl) rfl (by simp) fun w => ?_
  refine Wp.seq ?_
  refine Wp.reg allGen ?_
  refine Tr.boxA rfl rfl trivial rfl (fun B2 _ => ?_)
  refine Tr.boxA rfl rfl trivial rfl (fun B3 _ => ?_)
  refine Tr.alloc tab rfl rfl trivial rfl (fun B4 _ => ?_)
  refine Tr.nil ?_ (fun _ => rfl) (List.Perm.refl _)
  refine Wp.seq ?_
  refine Wp.reg allGen ?_
  refine Tr.alloc tab rfl rfl trivial rfl (fun B5 _ => ?_)
  refine Tr.nil ?_ (fun _ => rfl) (List.Perm.refl _)
  refine Wp.seq ?_
  refine Wp.seq ?_
  refine Wp.reg allGen ?_
  refine Tr.loadA tab rfl rfl rfl (by repeat (first | exact .head _ | refine .tail _ ?_ | refine List.mem_append_right _ ?_)) (At.all _) (el_len _) rfl trivial rfl ?_
  refine Tr.move rfl rfl trivial rfl ?_
  refine Tr.nil ?_ (fun _ => rfl) (List.Perm.refl _)
  refine Wp.block ?_
  refine Wp.loopQ (hl rfl B3 B4 B5 _) (Wk.mk (by repeat (first | exact ESub.nil | refine ESub.cons rfl (by first | rfl | (simp; done) | (simp; omega)) ?_)) (by repeat (first | exact MSub.nil | refine MSub.cons (by repeat (first | exact .here | apply Pick.there | apply Pick.append)) (by first | rfl | (simp; done)) ?_))) ?_
  rintro _ env1 mem1 ⟨rfl, W, hWl, hWn, hk1⟩
  refine Wp.weak ?_ hk1
  obtain ⟨w0, w1, w2, w3, w4, w5, w6, w7, rfl⟩ := split8 W hWl
  have hhigh := mul_high (w0 := w0) (w1 := w1) (w2 := w2) (w3 := w3) (w4 := w4) (w5 := w5) (w6 := w6) (w7 := w7) (mac38 (w := w4) (o := w0) (c := 0)) mac38 mac38 mac38
  rw [hWn] at hhigh
  have hfold := fun s hs k => f158_fold s hs k
  refine Wp.seq ?_
  refine Wp.reg allGen ?_
  refine Tr.sliceArrH tab rfl rfl rfl rfl rfl (by decide) (by decide) rfl trivial rfl ?_
  refine Tr.sliceToArr tab rfl rfl rfl (by omega) rfl trivial rfl ?_
  refine Tr.loadA (cs := u64s [w0, w1, w2, w3]) tab rfl rfl rfl (by repeat (first | exact .head _ | refine .tail _ ?_ | refine List.mem_append_right _ ?_)) ⟨[], u64s [w4, w5, w6, w7], rfl, rfl⟩ rfl rfl trivial rfl ?_
  refine Tr.alloc tab rfl rfl trivial rfl (fun B14 _ => ?_)
  refine Tr.storeA tab rfl rfl rfl (by repeat (first | exact .here | apply MU.there | apply MU.app)) (by first | with_reducible rfl | with_reducible assumption | (simp; done) | (simp; omega) | rfl) (by first | with_reducible rfl | with_reducible assumption | (simp; done) | (simp; omega) | rfl) (by first | with_reducible assumption | rfl | (simp [Value.oneCell']; done)) trivial rfl ?_
  refine Tr.nil ?_ (fun _ => rfl) (List.Perm.refl _)
  refine Wp.seq ?_
  refine Wp.reg allGen ?_
  refine Tr.assign (v := u64 0) rfl rfl trivial rfl ?_
  refine Tr.nil ?_ (fun _ => rfl) (List.Perm.refl _)
  refine Wp.seq ?_
  refine Wp.seq ?_
  refine Wp.reg allGen ?_
  refine Tr.move rfl rfl trivial rfl ?_
  refine Tr.nil ?_ (fun _ => rfl) (List.Perm.refl _)
  refine Wp.block ?_
  refine Wp.loopL ?_
  refine WpL.step ?_
  refine Wp.seq ?_
  refine Wp.reg allGen ?_
  refine Tr.lss rfl rfl (by first | with_reducible assumption | exact decide_eq_true (by omega) | exact decide_eq_false (by omega) | exact beq_iff_eq.2 (by omega) | exact beq_eq_false_iff_ne.2 (by omega) | exact bne_iff_ne.2 (by omega) | rfl) rfl trivial rfl ?_
  refine Tr.nil ?_ (fun _ => rfl) (List.Perm.refl _)
  refine Wp.seq ?_
  refine Wp.condT rfl ?_
  refine Wp.skip ?_
  refine Wp.seq ?_
  refine Wp.block ?_
  refine Wp.seq ?_
  refine Wp.reg allGen ?_
  refine Tr.move rfl rfl trivial rfl ?_
  refine Tr.assign rfl rfl trivial rfl ?_
  refine Tr.nil ?_ (fun _ => rfl) (List.Perm.refl _)
  refine Wp.seq ?_
  refine Wp.reg allGen ?_
  refine Tr.move rfl rfl trivial rfl ?_
  refine Tr.add rfl rfl (by first | exact wrap_i64 (by omega) (by omega) | rfl) rfl trivial rfl ?_
  first | refine Tr.indexAddr01 tab rfl rfl rfl rfl rfl (by omega) (by omega) rfl trivial rfl ?_ | refine Tr.indexAddr1 tab rfl rfl rfl rfl rfl (by omega) (by omega) rfl trivial rfl ?_
  refine Tr.loadS tab rfl rfl rfl (by repeat (first | exact .head _ | refine .tail _ ?_ | refine List.mem_append_right _ ?_)) (by first | rfl | with_reducible assumption | assumption | (simp; done)) rfl trivial rfl ?_
  refine Tr.call rfl (f101_mul64 _ 38) (by repeat (first | exact Has.nil | refine Has.cons (by repeat (first | exact .head _ | refine .tail _ ?_ | refine List.mem_append_right _ ?_)) ?_)) rfl trivial rfl ?_
  refine Tr.move rfl rfl trivial rfl ?_
  refine Tr.extract rfl rfl rfl trivial rfl ?_
  refine Tr.extract rfl rfl rfl trivial rfl ?_
  refine Tr.assign rfl rfl trivial rfl ?_
  refine Tr.assign rfl rfl trivial rfl ?_
  refine Tr.nil ?_ (fun _ => rfl) (List.Perm.refl _)
  refine Wp.seq ?_
  refine Wp.reg allGen ?_
  refine Tr.assign (v := u64 0) rfl rfl trivial rfl ?_
  refine Tr.nil ?_ (fun _ => rfl) (List.Perm.refl _)
  refine Wp.seq ?_
  refine Wp.reg allGen ?_
  refine Tr.move rfl rfl trivial rfl ?_
  refine Tr.move rfl rfl trivial rfl ?_
  first | refine Tr.callX rfl (add64 _ _ 0 (by decide)) rfl trivial rfl ?_ | refine Tr.callX rfl (add64 _ 0 0 (by decide)) rfl trivial rfl ?_
  refine Tr.move rfl rfl trivial rfl ?_
  refine Tr.extract rfl rfl rfl trivial rfl ?_
  refine Tr.extract rfl rfl rfl trivial rfl ?_
  refine Tr.assign rfl rfl trivial rfl ?_
  refine Tr.assign rfl rfl trivial rfl ?_
  refine Tr.nil ?_ (fun _ => rfl) (List.Perm.refl _)
  refine Wp.seq ?_
  refine Wp.reg allGen ?_
  refine Tr.move rfl rfl trivial rfl ?_
  refine Tr.move rfl rfl trivial rfl ?_
  refine Tr.add rfl rfl (by first | exact u64_add _ _ | exact wrap_u64 (by omega) (by omega) | rfl) rfl trivial rfl ?_
  refine Tr.assign rfl rfl trivial rfl ?_
  refine Tr.nil ?_ (fun _ => rfl) (List.Perm.refl _)
  refine Wp.seq ?_
  refine Wp.reg allGen ?_
  refine Tr.move rfl rfl trivial rfl ?_
  refine Tr.move rfl rfl trivial rfl ?_
  first | refine Tr.indexAddr01 tab rfl rfl rfl rfl rfl (by omega) (by omega) rfl trivial rfl ?_ | refine Tr.indexAddr1 tab rfl rfl rfl rfl rfl (by omega) (by omega) rfl trivial rfl ?_
  refine Tr.loadS tab rfl rfl rfl (by repeat (first | exact .head _ | refine .tail _ ?_ | refine List.mem_append_right _ ?_)) (by first | rfl | with_reducible assumption | assumption | (simp; done)) rfl trivial rfl ?_
  refine Tr.move rfl rfl trivial rfl ?_
  first | refine Tr.callX rfl (add64 _ _ 0 (by decide)) rfl trivial rfl ?_ | refine Tr.callX rfl (add64 _ 0 0 (by decide)) rfl trivial rfl ?_
  refine Tr.move rfl rfl trivial rfl ?_
  refine Tr.extract rfl rfl rfl trivial rfl ?_
  refine Tr.extract rfl rfl rfl trivial rfl ?_
  first | refine Tr.indexAddr01 tab rfl rfl rfl rfl rfl (by omega) (by omega) rfl trivial rfl ?_ | refine Tr.indexAddr1 tab rfl rfl rfl rfl rfl (by omega) (by omega) rfl trivial rfl ?_
  refine Tr.storeS tab rfl rfl rfl rfl (by repeat (first | exact .here | apply MU.there | apply MU.app)) (by first | decide | (simp; done) | (simp; omega) | exact Nat.le_of_ble_eq_true rfl) trivial rfl ?_
  refine Tr.assign rfl rfl trivial rfl ?_
  refine Tr.nil ?_ (fun _ => rfl) (List.Perm.refl _)
  refine Wp.reg allGen ?_
  refine Tr.move rfl rfl trivial rfl ?_
  refine Tr.move rfl rfl trivial rfl ?_
  refine Tr.add rfl rfl (by first | exact u64_add _ _ | exact wrap_u64 (by omega) (by omega) | rfl) rfl trivial rfl ?_
  refine Tr.assign rfl rfl trivial rfl ?_
  refine Tr.nil ?_ (fun _ => rfl) (List.Perm.refl _)
  refine Wp.reg allGen ?_
  refine Tr.add rfl rfl (by first | exact wrap_i64 (by omega) (by omega) | rfl) rfl trivial rfl ?_
  refine Tr.move rfl rfl trivial rfl ?_
  refine Tr.nil ?_ (fun _ => rfl) (List.Perm.refl _)
  refine WpL.step ?_
  refine Wp.seq ?_
  refine Wp.reg allGen ?_
  refine Tr.lss rfl rfl (by first | with_reducible assumption | exact decide_eq_true (by omega) | exact decide_eq_false (by omega) | exact beq_iff_eq.2 (by omega) | exact beq_eq_false_iff_ne.2 (by omega) | exact bne_iff_ne.2 (by omega) | rfl) rfl trivial rfl ?_
  refine Tr.nil ?_ (fun _ => rfl) (List.Perm.refl _)
  refine Wp.seq ?_
  refine Wp.condT rfl ?_
  refine Wp.skip ?_
  refine Wp.seq ?_
  refine Wp.block ?_
  refine Wp.seq ?_
  refine Wp.reg allGen ?_
  refine Tr.move rfl rfl trivial rfl ?_
  refine Tr.assign rfl rfl trivial rfl ?_
  refine Tr.nil ?_ (fun _ => rfl) (List.Perm.refl _)
  refine Wp.seq ?_
  refine Wp.reg allGen ?_
  refine Tr.move rfl rfl trivial rfl ?_
  refine Tr.add rfl rfl (by first | exact wrap_i64 (by omega) (by omega) | rfl) rfl trivial rfl ?_
  first | refine Tr.indexAddr01 tab rfl rfl rfl rfl rfl (by omega) (by omega) rfl trivial rfl ?_ | refine Tr.indexAddr1 tab rfl rfl rfl rfl rfl (by omega) (by omega) rfl trivial rfl ?_
  refine Tr.loadS tab rfl rfl rfl (by repeat (first | exact .head _ | refine .tail _ ?_ | refine List.mem_append_right _ ?_)) (by first | rfl | with_reducible assumption | assumption | (simp; done)) rfl trivial rfl ?_
  refine Tr.call rfl (f101_mul64 _ 38) (by repeat (first | exact Has.nil | refine Has.cons (by repeat (first | exact .head _ | refine .tail _ ?_ | refine List.mem_append_right _ ?_)) ?_)) rfl trivial rfl ?_
  refine Tr.move rfl rfl trivial rfl ?_
  refine Tr.extract rfl rfl rfl trivial rfl ?_
  refine Tr.extract rfl rfl rfl trivial rfl ?_
  refine Tr.assign rfl rfl trivial rfl ?_
  refine Tr.assign rfl rfl trivial rfl ?_
  refine Tr.nil ?_ (fun _ => rfl) (List.Perm.refl _)
  refine Wp.seq ?_
  refine Wp.reg allGen ?_
  refine Tr.assign (v := u64 0) rfl rfl trivial rfl ?_
  refine Tr.nil ?_ (fun _ => rfl) (List.Perm.refl _)
  refine Wp.seq ?_
  refine Wp.reg allGen ?_
  refine Tr.move rfl rfl trivial rfl ?_
  refine Tr.move rfl rfl trivial rfl ?_
  first | refine Tr.callX rfl (add64 _ _ 0 (by decide)) rfl trivial rfl ?_ | refine Tr.callX rfl (add64 _ 0 0 (by decide)) rfl trivial rfl ?_
  refine Tr.move rfl rfl trivial rfl ?_
  refine Tr.extract rfl rfl rfl trivial rfl ?_
  refine Tr.extract rfl rfl rfl trivial rfl ?_
  refine Tr.assign rfl rfl trivial rfl ?_
  refine Tr.assign rfl rfl trivial rfl ?_
  refine Tr.nil ?_ (fun _ => rfl) (List.Perm.refl _)
  refine Wp.seq ?_
  refine Wp.reg allGen ?_
  refine Tr.move rfl rfl trivial rfl ?_
  refine Tr.move rfl rfl trivial rfl ?_
  refine Tr.add rfl rfl (by first | exact u64_add _ _ | exact wrap_u64 (by omega) (by omega) | rfl) rfl trivial rfl ?_
  refine Tr.assign rfl rfl trivial rfl ?_
  refine Tr.nil ?_ (fun _ => rfl) (List.Perm.refl _)
  refine Wp.seq ?_
  refine Wp.reg allGen ?_
  refine Tr.move rfl rfl trivial rfl ?_
  refine Tr.move rfl rfl trivial rfl ?_
  first | refine Tr.indexAddr01 tab rfl rfl rfl rfl rfl (by omega) (by omega) rfl trivial rfl ?_ | refine Tr.indexAddr1 tab rfl rfl rfl rfl rfl (by omega) (by omega) rfl trivial rfl ?_
  refine Tr.loadS tab rfl rfl rfl (by repeat (first | exact .head _ | refine .tail _ ?_ | refine List.mem_append_right _ ?_)) (by first | rfl | with_reducible assumption | assumption | (simp; done)) rfl trivial rfl ?_
  refine Tr.move rfl rfl trivial rfl ?_
  first | refine Tr.callX rfl (add64 _ _ 0 (by decide)) rfl trivial rfl ?_ | refine Tr.callX rfl (add64 _ 0 0 (by decide)) rfl trivial rfl ?_
  refine Tr.move rfl rfl trivial rfl ?_
  refine Tr.extract rfl rfl rfl trivial rfl ?_
  refine Tr.extract rfl rfl rfl trivial rfl ?_
  first | refine Tr.indexAddr01 tab rfl rfl rfl rfl rfl (by omega) (by omega) rfl trivial rfl ?_ | refine Tr.indexAddr1 tab rfl rfl rfl rfl rfl (by omega) (by omega) rfl trivial rfl ?_
  refine Tr.storeS tab rfl rfl rfl rfl (by repeat (first | exact .here | apply MU.there | apply MU.app)) (by first | decide | (simp; done) | (simp; omega) | exact Nat.le_of_ble_eq_true rfl) trivial rfl ?_
  refine Tr.assign rfl rfl trivial rfl ?_
  refine Tr.nil ?_ (fun _ => rfl) (List.Perm.refl _)
  refine Wp.reg allGen ?_
  refine Tr.move rfl rfl trivial rfl ?_
  refine Tr.move rfl rfl trivial rfl ?_
  refine Tr.add rfl rfl (by first | exact u64_add _ _ | exact wrap_u64 (by omega) (by omega) | rfl) rfl trivial rfl ?_
  refine Tr.assign rfl rfl trivial rfl ?_
  refine Tr.nil ?_ (fun _ => rfl) (List.Perm.refl _)
  refine Wp.reg allGen ?_
  refine Tr.add rfl rfl (by first | exact wrap_i64 (by omega) (by omega) | rfl) rfl trivial rfl ?_
  refine Tr.move rfl rfl trivial rfl ?_
  refine Tr.nil ?_ (fun _ => rfl) (List.Perm.refl _)
  refine WpL.step ?_
  refine Wp.seq ?_
  refine Wp.reg allGen ?_
  refine Tr.lss rfl rfl (by first | with_reducible assumption | exact decide_eq_true (by omega) | exact decide_eq_false (by omega) | exact beq_iff_eq.2 (by omega) | exact beq_eq_false_iff_ne.2 (by omega) | exact bne_iff_ne.2 (by omega) | rfl) rfl trivial rfl ?_
  refine Tr.nil ?_ (fun _ => rfl) (List.Perm.refl _)
  refine Wp.seq ?_
  refine Wp.condT rfl ?_
  refine Wp.skip ?_
  refine Wp.seq ?_
  refine Wp.block ?_
  refine Wp.seq ?_
  refine Wp.reg allGen ?_
  refine Tr.move rfl rfl trivial rfl ?_
  refine Tr.assign rfl rfl trivial rfl ?_
  refine Tr.nil ?_ (fun _ => rfl) (List.Perm.refl _)
  refine Wp.seq ?_
  refine Wp.reg allGen ?_
  refine Tr.move rfl rfl trivial rfl ?_
  refine Tr.add rfl rfl (by first | exact wrap_i64 (by omega) (by omega) | rfl) rfl trivial rfl ?_
  first | refine Tr.indexAddr01 tab rfl rfl rfl rfl rfl (by omega) (by omega) rfl trivial rfl ?_ | refine Tr.indexAddr1 tab rfl rfl rfl rfl rfl (by omega) (by omega) rfl trivial rfl ?_
  refine Tr.loadS tab rfl rfl rfl (by repeat (first | exact .head _ | refine .tail _ ?_ | refine List.mem_append_right _ ?_)) (by first | rfl | with_reducible assumption | assumption | (simp; done)) rfl trivial rfl ?_
  refine Tr.call rfl (f101_mul64 _ 38) (by repeat (first | exact Has.nil | refine Has.cons (by repeat (first | exact .head _ | refine .tail _ ?_ | refine List.mem_append_right _ ?_)) ?_)) rfl trivial rfl ?_
  refine Tr.move rfl rfl trivial rfl ?_
  refine Tr.extract rfl rfl rfl trivial rfl ?_
  refine Tr.extract rfl rfl rfl trivial rfl ?_
  refine Tr.assign rfl rfl trivial rfl ?_
  refine Tr.assign rfl rfl trivial rfl ?_
  refine Tr.nil ?_ (fun _ => rfl) (List.Perm.refl _)
  refine Wp.seq ?_
  refine Wp.reg allGen ?_
  refine Tr.assign (v := u64 0) rfl rfl trivial rfl ?_
  refine Tr.nil ?_ (fun _ => rfl) (List.Perm.refl _)
  refine Wp.seq ?_
  refine Wp.reg allGen ?_
  refine Tr.move rfl rfl trivial rfl ?_
  refine Tr.move rfl rfl trivial rfl ?_
  first | refine Tr.callX rfl (add64 _ _ 0 (by decide)) rfl trivial rfl ?_ | refine Tr.callX rfl (add64 _ 0 0 (by decide)) rfl trivial rfl ?_
  refine Tr.move rfl rfl trivial rfl ?_
  refine Tr.extract rfl rfl rfl trivial rfl ?_
  refine Tr.extract rfl rfl rfl trivial rfl ?_
  refine Tr.assign rfl rfl trivial rfl ?_
  refine Tr.assign rfl rfl trivial rfl ?_
  refine Tr.nil ?_ (fun _ => rfl) (List.Perm.refl _)
  refine Wp.seq ?_
  refine Wp.reg allGen ?_
  refine Tr.move rfl rfl trivial rfl ?_
  refine Tr.move rfl rfl trivial rfl ?_
  refine Tr.add rfl rfl (by first | exact u64_add _ _ | exact wrap_u64 (by omega) (by omega) | rfl) rfl trivial rfl ?_
  refine Tr.assign rfl rfl trivial rfl ?_
  refine Tr.nil ?_ (fun _ => rfl) (List.Perm.refl _)
  refine Wp.seq ?_
  refine Wp.reg allGen ?_
  refine Tr.move rfl rfl trivial rfl ?_
  refine Tr.move rfl rfl trivial rfl ?_
  first | refine Tr.indexAddr01 tab rfl rfl rfl rfl rfl (by omega) (by omega) rfl trivial rfl ?_ | refine Tr.indexAddr1 tab rfl rfl rfl rfl rfl (by omega) (by omega) rfl trivial rfl ?_
  refine Tr.loadS tab rfl rfl rfl (by repeat (first | exact .head _ | refine .tail _ ?_ | refine List.mem_append_right _ ?_)) (by first | rfl | with_reducible assumption | assumption | (simp; done)) rfl trivial rfl ?_
  refine Tr.move rfl rfl trivial rfl ?_
  first | refine Tr.callX rfl (add64 _ _ 0 (by decide)) rfl trivial rfl ?_ | refine Tr.callX rfl (add64 _ 0 0 (by decide)) rfl trivial rfl ?_
  refine Tr.move rfl rfl trivial rfl ?_
  refine Tr.extract rfl rfl rfl trivial rfl ?_
  refine Tr.extract rfl rfl rfl trivial rfl ?_
  first | refine Tr.indexAddr01 tab rfl rfl rfl rfl rfl (by omega) (by omega) rfl trivial rfl ?_ | refine Tr.indexAddr1 tab rfl rfl rfl rfl rfl (by omega) (by omega) rfl trivial rfl ?_
  refine Tr.storeS tab rfl rfl rfl rfl (by repeat (first | exact .here | apply MU.there | apply MU.app)) (by first | decide | (simp; done) | (simp; omega) | exact Nat.le_of_ble_eq_true rfl) trivial rfl ?_
  refine Tr.assign rfl rfl trivial rfl ?_
  refine Tr.nil ?_ (fun _ => rfl) (List.Perm.refl _)
  refine Wp.reg allGen ?_
  refine Tr.move rfl rfl trivial rfl ?_
  refine Tr.move rfl rfl trivial rfl ?_
  refine Tr.add rfl rfl (by first | exact u64_add _ _ | exact wrap_u64 (by omega) (by omega) | rfl) rfl trivial rfl ?_
  refine Tr.assign rfl rfl trivial rfl ?_
  refine Tr.nil ?_ (fun _ => rfl) (List.Perm.refl _)
  refine Wp.reg allGen ?_
  refine Tr.add rfl rfl (by first | exact wrap_i64 (by omega) (by omega) | rfl) rfl trivial rfl ?_
  refine Tr.move rfl rfl trivial rfl ?_
  refine Tr.nil ?_ (fun _ => rfl) (List.Perm.refl _)
  refine WpL.step ?_
  refine Wp.seq ?_
  refine Wp.reg allGen ?_
  refine Tr.lss rfl rfl (by first | with_reducible assumption | exact decide_eq_true (by omega) | exact decide_eq_false (by omega) | exact beq_iff_eq.2 (by omega) | exact beq_eq_false_iff_ne.2 (by omega) | exact bne_iff_ne.2 (by omega) | rfl) rfl trivial rfl ?_
  refine Tr.nil ?_ (fun _ => rfl) (List.Perm.refl _)
  refine Wp.seq ?_
  refine Wp.condT rfl ?_
  refine Wp.skip ?_
  refine Wp.seq ?_
  refine Wp.block ?_
  refine Wp.seq ?_
  refine Wp.reg allGen ?_
  refine Tr.move rfl rfl trivial rfl ?_
  refine Tr.assign rfl rfl trivial rfl ?_
  refine Tr.nil ?_ (fun _ => rfl) (List.Perm.refl _)
  refine Wp.seq ?_
  refine Wp.reg allGen ?_
  refine Tr.move rfl rfl trivial rfl ?_
  refine Tr.add rfl rfl (by first | exact wrap_i64 (by omega) (by omega) | rfl) rfl trivial rfl ?_
  first | refine Tr.indexAddr01 tab rfl rfl rfl rfl rfl (by omega) (by omega) rfl trivial rfl ?_ | refine Tr.indexAddr1 tab rfl rfl rfl rfl rfl (by omega) (by omega) rfl trivial rfl ?_
  refine Tr.loadS tab rfl rfl rfl (by repeat (first | exact .head _ | refine .tail _ ?_ | refine List.mem_append_right _ ?_)) (by first | rfl | with_reducible assumption | assumption | (simp; done)) rfl trivial rfl ?_
  refine Tr.call rfl (f101_mul64 _ 38) (by repeat (first | exact Has.nil | refine Has.cons (by repeat (first | exact .head _ | refine .tail _ ?_ | refine List.mem_append_right _ ?_)) ?_)) rfl trivial rfl ?_
  refine Tr.move rfl rfl trivial rfl ?_
  refine Tr.extract rfl rfl rfl trivial rfl ?_
  refine Tr.extract rfl rfl rfl trivial rfl ?_
  refine Tr.assign rfl rfl trivial rfl ?_
  refine Tr.assign rfl rfl trivial rfl ?_
  refine Tr.nil ?_ (fun _ => rfl) (List.Perm.refl _)
  refine Wp.seq ?_
  refine Wp.reg allGen ?_
  refine Tr.assign (v := u64 0) rfl rfl trivial rfl ?_
  refine Tr.nil ?_ (fun _ => rfl) (List.Perm.refl _)
  refine Wp.seq ?_
  refine Wp.reg allGen ?_
  refine Tr.move rfl rfl trivial rfl ?_
  refine Tr.move rfl rfl trivial rfl ?_
  first | refine Tr.callX rfl (add64 _ _ 0 (by decide)) rfl trivial rfl ?_ | refine Tr.callX rfl (add64 _ 0 0 (by decide)) rfl trivial rfl ?_
  refine Tr.move rfl rfl trivial rfl ?_
  refine Tr.extract rfl rfl rfl trivial rfl ?_
  refine Tr.extract rfl rfl rfl trivial rfl ?_
  refine Tr.assign rfl rfl trivial rfl ?_
  refine Tr.assign rfl rfl trivial rfl ?_
  refine Tr.nil ?_ (fun _ => rfl) (List.Perm.refl _)
  refine Wp.seq ?_
  refine Wp.reg allGen ?_
  refine Tr.move rfl rfl trivial rfl ?_
  refine Tr.move rfl rfl trivial rfl ?_
  refine Tr.add rfl rfl (by first | exact u64_add _ _ | exact wrap_u64 (by omega) (by omega) | rfl) rfl trivial rfl ?_
  refine Tr.assign rfl rfl trivial rfl ?_
  refine Tr.nil ?_ (fun _ => rfl) (List.Perm.refl _)
  refine Wp.seq ?_
  refine Wp.reg allGen ?_
  refine Tr.move rfl rfl trivial rfl ?_
  refine Tr.move rfl rfl trivial rfl ?_
  first | refine Tr.indexAddr01 tab rfl rfl rfl rfl rfl (by omega) (by omega) rfl trivial rfl ?_ | refine Tr.indexAddr1 tab rfl rfl rfl rfl rfl (by omega) (by omega) rfl trivial rfl ?_
  refine Tr.loadS tab rfl rfl rfl (by repeat (first | exact .head _ | refine .tail _ ?_ | refine List.mem_append_right _ ?_)) (by first | rfl | with_reducible assumption | assumption | (simp; done)) rfl trivial rfl ?_
  refine Tr.move rfl rfl trivial rfl ?_
  first | refine Tr.callX rfl (add64 _ _ 0 (by decide)) rfl trivial rfl ?_ | refine Tr.callX rfl (add64 _ 0 0 (by decide)) rfl trivial rfl ?_
  refine Tr.move rfl rfl trivial rfl ?_
  refine Tr.extract rfl rfl rfl trivial rfl ?_
  refine Tr.extract rfl rfl rfl trivial rfl ?_
  first | refine Tr.indexAddr01 tab rfl rfl rfl rfl rfl (by omega) (by omega) rfl trivial rfl ?_ | refine Tr.indexAddr1 tab rfl rfl rfl rfl rfl (by omega) (by omega) rfl trivial rfl ?_
  refine Tr.storeS tab rfl rfl rfl rfl (by repeat (first | exact .here | apply MU.there | apply MU.app)) (by first | decide | (simp; done) | (simp; omega) | exact Nat.le_of_ble_eq_true rfl) trivial rfl ?_
  refine Tr.assign rfl rfl trivial rfl ?_
  refine Tr.nil ?_ (fun _ => rfl) (List.Perm.refl _)
  refine Wp.reg allGen ?_
  refine Tr.move rfl rfl trivial rfl ?_
  refine Tr.move rfl rfl trivial rfl ?_
  refine Tr.add rfl rfl (by first | exact u64_add _ _ | exact wrap_u64 (by omega) (by omega) | rfl) rfl trivial rfl ?_
  refine Tr.assign rfl rfl trivial rfl ?_
  refine Tr.nil ?_ (fun _ => rfl) (List.Perm.refl _)
  refine Wp.reg allGen ?_
  refine Tr.add rfl rfl (by first | exact wrap_i64 (by omega) (by omega) | rfl) rfl trivial rfl ?_
  refine Tr.move rfl rfl trivial rfl ?_
  refine Tr.nil ?_ (fun _ => rfl) (List.Perm.refl _)
  refine WpL.step ?_
  refine Wp.seq ?_
  refine Wp.reg allGen ?_
  refine Tr.lss rfl rfl (by first | with_reducible assumption | exact decide_eq_true (by omega) | exact decide_eq_false (by omega) | exact beq_iff_eq.2 (by omega) | exact beq_eq_false_iff_ne.2 (by omega) | exact bne_iff_ne.2 (by omega) | rfl) rfl trivial rfl ?_
  refine Tr.nil ?_ (fun _ => rfl) (List.Perm.refl _)
  refine Wp.seq ?_
  refine Wp.condF rfl ?_
  refine Wp.exit ?_
  refine Wp.seq ?_
  refine Wp.reg allGen ?_
  refine Tr.loadA tab rfl rfl rfl (by repeat (first | exact .head _ | refine .tail _ ?_ | refine List.mem_append_right _ ?_)) (by first | exact At.all _ | with_reducible assumption | assumption) (by first | with_reducible rfl | with_reducible assumption | (simp; done) | (simp; omega) | rfl) rfl trivial rfl ?_
  refine Tr.move rfl rfl trivial rfl ?_
  refine Tr.call rfl (f158_fold [_, _, _, _] rfl _) (by repeat (first | exact Has.nil | refine Has.cons (by repeat (first | exact .head _ | refine .tail _ ?_ | refine List.mem_append_right _ ?_)) ?_)) rfl trivial rfl ?_
  rw [show X * Y % P = _ from by rw [← hhigh, Nat.add_mul_mod_self_left]]
  refine Tr.storeA tab rfl rfl rfl (by repeat (first | exact .here | apply MU.there | apply MU.app)) (by exact el_len _) (by exact el_len _) (el_one _) trivial rfl ?_
  refine Tr.nil ?_ (fun _ => rfl) (List.Perm.refl _)
  refine Wp.ret ?_
  exact ⟨.inr rfl, .r1 rfl (RvIs.cellA tab rfl rfl rfl (by repeat (first | exact .head _ | refine .tail _ ?_ | refine List.mem_append_right _ ?_)) (At.all _) (el_len _))⟩
end Go.Proofs.Ytffghaeaohabhaa.AW
