import Derived.Test.YtffghaeaohabhaaS5
namespace Go.Proofs.Ytffghaeaohabhaa.AW
open Go
set_option maxRecDepth 100000

/-! ### block -/
theorem at_get {α : Type} (f : α → Value) {c : List Value} {off : Nat} {l : List α} (hc : At c off (l.map f)) (z : α) {j : Nat} (hj : j < l.length) {k : Int} (hk : k = (j : Int)) :
    c[off + k.toNat]? = some (f (l.getD j z)) := by
  subst hk
  refine hc.get ?_
  simp [List.getElem?_eq_getElem hj, List.getD]

theorem ap_get {α : Type} (f : α → Value) {l : List α} {r : List Value} (z : α) {j : Nat} (hj : j < l.length) {k : Int} (hk : k = (j : Int)) :
    (l.map f ++ r)[k.toNat]? = some (f (l.getD j z)) := by
  subst hk
  rw [List.getElem?_append_left (by simpa using hj)]
  simp [List.getElem?_eq_getElem hj, List.getD]

def be32 (d : List UInt8) (i : Nat) : UInt32 :=
  (d.getD (4 * i) 0).toUInt32 <<< UInt32.ofNat 24 ||| (d.getD (4 * i + 1) 0).toUInt32 <<< UInt32.ofNat 16 ||| (d.getD (4 * i + 2) 0).toUInt32 <<< UInt32.ofNat 8 ||| (d.getD (4 * i + 3) 0).toUInt32

def wNext (W : List UInt32) (i : Nat) : UInt32 :=
  W.getD (i - 16) 0 + (rotr (W.getD (i - 15) 0) 7 ^^^ rotr (W.getD (i - 15) 0) 18 ^^^ W.getD (i - 15) 0 >>> UInt32.ofNat 3) + W.getD (i - 7) 0 +
    (rotr (W.getD (i - 2) 0) 17 ^^^ rotr (W.getD (i - 2) 0) 19 ^^^ W.getD (i - 2) 0 >>> UInt32.ofNat 10)

/-- the first n words of a block's schedule -/
def wS (d : List UInt8) : Nat → List UInt32
  | 0 => []
  | i + 1 => wS d i ++ [if i < 16 then be32 d i else wNext (wS d i) i]

theorem wS_len (d : List UInt8) : ∀ n, (wS d n).length = n
  | 0 => rfl
  | n + 1 => by simp [wS, wS_len d n]

def loop72a : Code := (Code.seq (Code.region 3 #[{ dst := (some 25), op := (Op.binOp BinOp.lss 3 (Operand.tmp 24) (Operand.const (Value.int IntKind.i64 64)) 3), type := 0, pos := "sha256.go:138", after := #[], guard := none }] false) (Code.seq (Code.cond (Operand.tmp 25) Code.skip (Code.exit 0)) (Code.seq (Code.block 1 (Code.seq (Code.region 4 #[{ dst := (some 26), op := (Op.move (Operand.tmp 24)), type := 3, pos := "sha256.go:138", after := #[], guard := none }, { dst := (some 8), op := (Op.assign (Operand.tmp 26)), type := 3, pos := "sha256.go:138", after := #[{ on := 0, ground := Ground.data }, { on := 0, ground := Ground.phase }], guard := none }] false) (Code.seq (Code.seq (Code.region 5 #[{ dst := (some 27), op := (Op.move (Operand.tmp 8)), type := 3, pos := "sha256.go:139", after := #[], guard := none }, { dst := (some 28), op := (Op.binOp BinOp.lss 3 (Operand.tmp 27) (Operand.const (Value.int IntKind.i64 16)) 3), type := 4, pos := "sha256.go:139", after := #[{ on := 0, ground := Ground.data }], guard := none }] false) (Code.cond (Operand.tmp 28) (Code.seq (Code.region 6 #[{ dst := (some 29), op := (Op.move (Operand.tmp 8)), type := 3, pos := "sha256.go:140", after := #[], guard := none }, { dst := (some 30), op := (Op.move (Operand.tmp 2)), type := 36, pos := "sha256.go:140", after := #[], guard := none }, { dst := (some 31), op := (Op.move (Operand.tmp 8)), type := 3, pos := "sha256.go:140", after := #[], guard := none }, { dst := (some 32), op := (Op.binOp BinOp.mul 3 (Operand.const (Value.int IntKind.i64 4)) (Operand.tmp 31) 3), type := 3, pos := "sha256.go:140", after := #[{ on := 2, ground := Ground.data }], guard := none }, { dst := (some 33), op := (Op.indexAddr 36 (Operand.tmp 30) (Operand.tmp 32)), type := 0, pos := "sha256.go:140", after := #[{ on := 1, ground := Ground.data }, { on := 3, ground := Ground.data }], guard := none }, { dst := (some 34), op := (Op.load 5 (Operand.tmp 33)), type := 5, pos := "sha256.go:140", after := #[{ on := 4, ground := Ground.data }], guard := none }, { dst := (some 35), op := (Op.convert 5 29 (Operand.tmp 34)), type := 29, pos := "sha256.go:140", after := #[{ on := 5, ground := Ground.data }], guard := none }, { dst := (some 36), op := (Op.binOp BinOp.shl 29 (Operand.tmp 35) (Operand.const (Value.int IntKind.u64 24)) 51), type := 29, pos := "sha256.go:140", after := #[{ on := 6, ground := Ground.data }], guard := none }, { dst := (some 37), op := (Op.move (Operand.tmp 2)), type := 36, pos := "sha256.go:140", after := #[], guard := none }, { dst := (some 38), op := (Op.move (Operand.tmp 8)), type := 3, pos := "sha256.go:140", after := #[], guard := none }, { dst := (some 39), op := (Op.binOp BinOp.mul 3 (Operand.const (Value.int IntKind.i64 4)) (Operand.tmp 38) 3), type := 3, pos := "sha256.go:140", after := #[{ on := 9, ground := Ground.data }], guard := none }, { dst := (some 40), op := (Op.binOp BinOp.add 3 (Operand.tmp 39) (Operand.const (Value.int IntKind.i64 1)) 3), type := 3, pos := "sha256.go:140", after := #[{ on := 10, ground := Ground.data }], guard := none }, { dst := (some 41), op := (Op.indexAddr 36 (Operand.tmp 37) (Operand.tmp 40)), type := 0, pos := "sha256.go:140", after := #[{ on := 8, ground := Ground.data }, { on := 11, ground := Ground.data }], guard := none }, { dst := (some 42), op := (Op.load 5 (Operand.tmp 41)), type := 5, pos := "sha256.go:140", after := #[{ on := 12, ground := Ground.data }], guard := none }, { dst := (some 43), op := (Op.convert 5 29 (Operand.tmp 42)), type := 29, pos := "sha256.go:140", after := #[{ on := 13, ground := Ground.data }], guard := none }, { dst := (some 44), op := (Op.binOp BinOp.shl 29 (Operand.tmp 43) (Operand.const (Value.int IntKind.u64 16)) 51), type := 29, pos := "sha256.go:140", after := #[{ on := 14, ground := Ground.data }], guard := none }, { dst := (some 45), op := (Op.binOp BinOp.or 29 (Operand.tmp 36) (Operand.tmp 44) 29), type := 29, pos := "sha256.go:140", after := #[{ on := 7, ground := Ground.data }, { on := 15, ground := Ground.data }], guard := none }, { dst := (some 46), op := (Op.move (Operand.tmp 2)), type := 36, pos := "sha256.go:140", after := #[], guard := none }, { dst := (some 47), op := (Op.move (Operand.tmp 8)), type := 3, pos := "sha256.go:140", after := #[], guard := none }, { dst := (some 48), op := (Op.binOp BinOp.mul 3 (Operand.const (Value.int IntKind.i64 4)) (Operand.tmp 47) 3), type := 3, pos := "sha256.go:140", after := #[{ on := 18, ground := Ground.data }], guard := none }, { dst := (some 49), op := (Op.binOp BinOp.add 3 (Operand.tmp 48) (Operand.const (Value.int IntKind.i64 2)) 3), type := 3, pos := "sha256.go:140", after := #[{ on := 19, ground := Ground.data }], guard := none }, { dst := (some 50), op := (Op.indexAddr 36 (Operand.tmp 46) (Operand.tmp 49)), type := 0, pos := "sha256.go:140", after := #[{ on := 17, ground := Ground.data }, { on := 20, ground := Ground.data }], guard := none }, { dst := (some 51), op := (Op.load 5 (Operand.tmp 50)), type := 5, pos := "sha256.go:140", after := #[{ on := 21, ground := Ground.data }], guard := none }, { dst := (some 52), op := (Op.convert 5 29 (Operand.tmp 51)), type := 29, pos := "sha256.go:140", after := #[{ on := 22, ground := Ground.data }], guard := none }, { dst := (some 53), op := (Op.binOp BinOp.shl 29 (Operand.tmp 52) (Operand.const (Value.int IntKind.u64 8)) 51), type := 29, pos := "sha256.go:140", after := #[{ on := 23, ground := Ground.data }], guard := none }, { dst := (some 54), op := (Op.binOp BinOp.or 29 (Operand.tmp 45) (Operand.tmp 53) 29), type := 29, pos := "sha256.go:140", after := #[{ on := 16, ground := Ground.data }, { on := 24, ground := Ground.data }], guard := none }, { dst := (some 55), op := (Op.move (Operand.tmp 2)), type := 36, pos := "sha256.go:140", after := #[], guard := none }, { dst := (some 56), op := (Op.move (Operand.tmp 8)), type := 3, pos := "sha256.go:140", after := #[], guard := none }, { dst := (some 57), op := (Op.binOp BinOp.mul 3 (Operand.const (Value.int IntKind.i64 4)) (Operand.tmp 56) 3), type := 3, pos := "sha256.go:140", after := #[{ on := 27, ground := Ground.data }], guard := none }, { dst := (some 58), op := (Op.binOp BinOp.add 3 (Operand.tmp 57) (Operand.const (Value.int IntKind.i64 3)) 3), type := 3, pos := "sha256.go:140", after := #[{ on := 28, ground := Ground.data }], guard := none }, { dst := (some 59), op := (Op.indexAddr 36 (Operand.tmp 55) (Operand.tmp 58)), type := 0, pos := "sha256.go:140", after := #[{ on := 26, ground := Ground.data }, { on := 29, ground := Ground.data }], guard := none }, { dst := (some 60), op := (Op.load 5 (Operand.tmp 59)), type := 5, pos := "sha256.go:140", after := #[{ on := 30, ground := Ground.data }], guard := none }, { dst := (some 61), op := (Op.convert 5 29 (Operand.tmp 60)), type := 29, pos := "sha256.go:140", after := #[{ on := 31, ground := Ground.data }], guard := none }, { dst := (some 62), op := (Op.binOp BinOp.or 29 (Operand.tmp 54) (Operand.tmp 61) 29), type := 29, pos := "sha256.go:140", after := #[{ on := 25, ground := Ground.data }, { on := 32, ground := Ground.data }], guard := none }, { dst := (some 63), op := (Op.indexAddr 32 (Operand.tmp 7) (Operand.tmp 29)), type := 0, pos := "sha256.go:140", after := #[{ on := 0, ground := Ground.data }, { on := 0, ground := Ground.phase }, { on := 1, ground := Ground.phase }, { on := 2, ground := Ground.phase }, { on := 3, ground := Ground.phase }, { on := 4, ground := Ground.phase }, { on := 5, ground := Ground.phase }, { on := 6, ground := Ground.phase }, { on := 7, ground := Ground.phase }, { on := 8, ground := Ground.phase }, { on := 9, ground := Ground.phase }, { on := 10, ground := Ground.phase }, { on := 11, ground := Ground.phase }, { on := 12, ground := Ground.phase }, { on := 13, ground := Ground.phase }, { on := 14, ground := Ground.phase }, { on := 15, ground := Ground.phase }, { on := 16, ground := Ground.phase }, { on := 17, ground := Ground.phase }, { on := 18, ground := Ground.phase }, { on := 19, ground := Ground.phase }, { on := 20, ground := Ground.phase }, { on := 21, ground := Ground.phase }, { on := 22, ground := Ground.phase }, { on := 23, ground := Ground.phase }, { on := 24, ground := Ground.phase }, { on := 25, ground := Ground.phase }, { on := 26, ground := Ground.phase }, { on := 27, ground := Ground.phase }, { on := 28, ground := Ground.phase }, { on := 29, ground := Ground.phase }, { on := 30, ground := Ground.phase }, { on := 31, ground := Ground.phase }, { on := 32, ground := Ground.phase }, { on := 33, ground := Ground.phase }], guard := none }, { dst := none, op := (Op.store 29 (Operand.tmp 63) (Operand.tmp 62)), type := 0, pos := "sha256.go:140", after := #[{ on := 34, ground := Ground.data }, { on := 33, ground := Ground.data }, { on := 0, ground := Ground.phase }, { on := 1, ground := Ground.phase }, { on := 2, ground := Ground.phase }, { on := 3, ground := Ground.phase }, { on := 4, ground := Ground.phase }, { on := 5, ground := Ground.phase }, { on := 6, ground := Ground.phase }, { on := 7, ground := Ground.phase }, { on := 8, ground := Ground.phase }, { on := 9, ground := Ground.phase }, { on := 10, ground := Ground.phase }, { on := 11, ground := Ground.phase }, { on := 12, ground := Ground.phase }, { on := 13, ground := Ground.phase }, { on := 14, ground := Ground.phase }, { on := 15, ground := Ground.phase }, { on := 16, ground := Ground.phase }, { on := 17, ground := Ground.phase }, { on := 18, ground := Ground.phase }, { on := 19, ground := Ground.phase }, { on := 20, ground := Ground.phase }, { on := 21, ground := Ground.phase }, { on := 22, ground := Ground.phase }, { on := 23, ground := Ground.phase }, { on := 24, ground := Ground.phase }, { on := 25, ground := Ground.phase }, { on := 26, ground := Ground.phase }, { on := 27, ground := Ground.phase }, { on := 28, ground := Ground.phase }, { on := 29, ground := Ground.phase }, { on := 30, ground := Ground.phase }, { on := 31, ground := Ground.phase }, { on := 32, ground := Ground.phase }, { on := 33, ground := Ground.phase }], guard := none }] true) (Code.exit 1)) Code.skip)) (Code.seq (Code.region 7 #[{ dst := (some 64), op := (Op.move (Operand.tmp 8)), type := 3, pos := "sha256.go:143", after := #[], guard := none }, { dst := (some 65), op := (Op.binOp BinOp.sub 3 (Operand.tmp 64) (Operand.const (Value.int IntKind.i64 15)) 3), type := 3, pos := "sha256.go:143", after := #[{ on := 0, ground := Ground.data }], guard := none }, { dst := (some 66), op := (Op.indexAddr 32 (Operand.tmp 7) (Operand.tmp 65)), type := 0, pos := "sha256.go:143", after := #[{ on := 1, ground := Ground.data }], guard := none }, { dst := (some 67), op := (Op.load 29 (Operand.tmp 66)), type := 29, pos := "sha256.go:143", after := #[{ on := 2, ground := Ground.data }], guard := none }, { dst := (some 68), op := (Op.move (Operand.tmp 8)), type := 3, pos := "sha256.go:143", after := #[{ on := 8, ground := (Ground.gcOnly Departure.lateStores) }], guard := none }, { dst := (some 69), op := (Op.binOp BinOp.sub 3 (Operand.tmp 68) (Operand.const (Value.int IntKind.i64 2)) 3), type := 3, pos := "sha256.go:143", after := #[{ on := 4, ground := Ground.data }, { on := 8, ground := (Ground.gcOnly Departure.lateStores) }], guard := none }, { dst := (some 70), op := (Op.indexAddr 32 (Operand.tmp 7) (Operand.tmp 69)), type := 0, pos := "sha256.go:143", after := #[{ on := 5, ground := Ground.data }, { on := 8, ground := (Ground.gcOnly Departure.lateStores) }], guard := none }, { dst := (some 71), op := (Op.load 29 (Operand.tmp 70)), type := 29, pos := "sha256.go:143", after := #[{ on := 6, ground := Ground.data }, { on := 8, ground := (Ground.gcOnly Departure.lateStores) }], guard := none }, { dst := (some 9), op := (Op.assign (Operand.tmp 67)), type := 29, pos := "sha256.go:143", after := #[{ on := 3, ground := Ground.data }, { on := 0, ground := Ground.phase }, { on := 1, ground := Ground.phase }, { on := 2, ground := Ground.phase }, { on := 3, ground := Ground.phase }, { on := 4, ground := (Ground.textOnly Departure.lateStores) }, { on := 5, ground := (Ground.textOnly Departure.lateStores) }, { on := 6, ground := (Ground.textOnly Departure.lateStores) }, { on := 7, ground := (Ground.textOnly Departure.lateStores) }], guard := none }, { dst := (some 10), op := (Op.assign (Operand.tmp 71)), type := 29, pos := "sha256.go:143", after := #[{ on := 7, ground := Ground.data }, { on := 8, ground := Ground.chain }, { on := 0, ground := Ground.phase }, { on := 1, ground := Ground.phase }, { on := 2, ground := Ground.phase }, { on := 3, ground := Ground.phase }, { on := 4, ground := Ground.phase }, { on := 5, ground := Ground.phase }, { on := 6, ground := Ground.phase }, { on := 7, ground := Ground.phase }, { on := 8, ground := Ground.phase }], guard := none }] true) (Code.region 8 #[{ dst := (some 72), op := (Op.move (Operand.tmp 8)), type := 3, pos := "sha256.go:144", after := #[], guard := none }, { dst := (some 73), op := (Op.move (Operand.tmp 8)), type := 3, pos := "sha256.go:144", after := #[], guard := none }, { dst := (some 74), op := (Op.binOp BinOp.sub 3 (Operand.tmp 73) (Operand.const (Value.int IntKind.i64 16)) 3), type := 3, pos := "sha256.go:144", after := #[{ on := 1, ground := Ground.data }], guard := none }, { dst := (some 75), op := (Op.indexAddr 32 (Operand.tmp 7) (Operand.tmp 74)), type := 0, pos := "sha256.go:144", after := #[{ on := 2, ground := Ground.data }], guard := none }, { dst := (some 76), op := (Op.load 29 (Operand.tmp 75)), type := 29, pos := "sha256.go:144", after := #[{ on := 3, ground := Ground.data }], guard := none }, { dst := (some 77), op := (Op.move (Operand.tmp 9)), type := 29, pos := "sha256.go:144", after := #[], guard := none }, { dst := (some 78), op := (Op.call { callee := (Callee.value (Operand.func 116)), args := #[(Operand.tmp 77), (Operand.const (Value.int IntKind.i64 7))], argTypes := #[29, 3] }), type := 29, pos := "sha256.go:144", after := #[{ on := 5, ground := Ground.data }], guard := none }, { dst := (some 79), op := (Op.move (Operand.tmp 9)), type := 29, pos := "sha256.go:144", after := #[], guard := none }, { dst := (some 80), op := (Op.call { callee := (Callee.value (Operand.func 116)), args := #[(Operand.tmp 79), (Operand.const (Value.int IntKind.i64 18))], argTypes := #[29, 3] }), type := 29, pos := "sha256.go:144", after := #[{ on := 7, ground := Ground.data }, { on := 6, ground := Ground.chain }], guard := none }, { dst := (some 81), op := (Op.binOp BinOp.xor 29 (Operand.tmp 78) (Operand.tmp 80) 29), type := 29, pos := "sha256.go:144", after := #[{ on := 6, ground := Ground.data }, { on := 8, ground := Ground.data }], guard := none }, { dst := (some 82), op := (Op.move (Operand.tmp 9)), type := 29, pos := "sha256.go:144", after := #[], guard := none }, { dst := (some 83), op := (Op.binOp BinOp.shr 29 (Operand.tmp 82) (Operand.const (Value.int IntKind.u64 3)) 51), type := 29, pos := "sha256.go:144", after := #[{ on := 10, ground := Ground.data }], guard := none }, { dst := (some 84), op := (Op.binOp BinOp.xor 29 (Operand.tmp 81) (Operand.tmp 83) 29), type := 29, pos := "sha256.go:144", after := #[{ on := 9, ground := Ground.data }, { on := 11, ground := Ground.data }], guard := none }, { dst := (some 85), op := (Op.binOp BinOp.add 29 (Operand.tmp 76) (Operand.tmp 84) 29), type := 29, pos := "sha256.go:144", after := #[{ on := 4, ground := Ground.data }, { on := 12, ground := Ground.data }], guard := none }, { dst := (some 86), op := (Op.move (Operand.tmp 8)), type := 3, pos := "sha256.go:144", after := #[], guard := none }, { dst := (some 87), op := (Op.binOp BinOp.sub 3 (Operand.tmp 86) (Operand.const (Value.int IntKind.i64 7)) 3), type := 3, pos := "sha256.go:144", after := #[{ on := 14, ground := Ground.data }], guard := none }, { dst := (some 88), op := (Op.indexAddr 32 (Operand.tmp 7) (Operand.tmp 87)), type := 0, pos := "sha256.go:144", after := #[{ on := 15, ground := Ground.data }], guard := none }, { dst := (some 89), op := (Op.load 29 (Operand.tmp 88)), type := 29, pos := "sha256.go:144", after := #[{ on := 16, ground := Ground.data }], guard := none }, { dst := (some 90), op := (Op.binOp BinOp.add 29 (Operand.tmp 85) (Operand.tmp 89) 29), type := 29, pos := "sha256.go:144", after := #[{ on := 13, ground := Ground.data }, { on := 17, ground := Ground.data }], guard := none }, { dst := (some 91), op := (Op.move (Operand.tmp 10)), type := 29, pos := "sha256.go:144", after := #[], guard := none }, { dst := (some 92), op := (Op.call { callee := (Callee.value (Operand.func 116)), args := #[(Operand.tmp 91), (Operand.const (Value.int IntKind.i64 17))], argTypes := #[29, 3] }), type := 29, pos := "sha256.go:144", after := #[{ on := 19, ground := Ground.data }, { on := 8, ground := Ground.chain }], guard := none }, { dst := (some 93), op := (Op.move (Operand.tmp 10)), type := 29, pos := "sha256.go:144", after := #[], guard := none }, { dst := (some 94), op := (Op.call { callee := (Callee.value (Operand.func 116)), args := #[(Operand.tmp 93), (Operand.const (Value.int IntKind.i64 19))], argTypes := #[29, 3] }), type := 29, pos := "sha256.go:144", after := #[{ on := 21, ground := Ground.data }, { on := 20, ground := Ground.chain }], guard := none }, { dst := (some 95), op := (Op.binOp BinOp.xor 29 (Operand.tmp 92) (Operand.tmp 94) 29), type := 29, pos := "sha256.go:144", after := #[{ on := 20, ground := Ground.data }, { on := 22, ground := Ground.data }], guard := none }, { dst := (some 96), op := (Op.move (Operand.tmp 10)), type := 29, pos := "sha256.go:144", after := #[], guard := none }, { dst := (some 97), op := (Op.binOp BinOp.shr 29 (Operand.tmp 96) (Operand.const (Value.int IntKind.u64 10)) 51), type := 29, pos := "sha256.go:144", after := #[{ on := 24, ground := Ground.data }], guard := none }, { dst := (some 98), op := (Op.binOp BinOp.xor 29 (Operand.tmp 95) (Operand.tmp 97) 29), type := 29, pos := "sha256.go:144", after := #[{ on := 23, ground := Ground.data }, { on := 25, ground := Ground.data }], guard := none }, { dst := (some 99), op := (Op.binOp BinOp.add 29 (Operand.tmp 90) (Operand.tmp 98) 29), type := 29, pos := "sha256.go:144", after := #[{ on := 18, ground := Ground.data }, { on := 26, ground := Ground.data }], guard := none }, { dst := (some 100), op := (Op.indexAddr 32 (Operand.tmp 7) (Operand.tmp 72)), type := 0, pos := "sha256.go:144", after := #[{ on := 0, ground := Ground.data }, { on := 0, ground := Ground.phase }, { on := 1, ground := Ground.phase }, { on := 2, ground := Ground.phase }, { on := 3, ground := Ground.phase }, { on := 4, ground := Ground.phase }, { on := 5, ground := Ground.phase }, { on := 6, ground := Ground.phase }, { on := 7, ground := Ground.phase }, { on := 8, ground := Ground.phase }, { on := 9, ground := Ground.phase }, { on := 10, ground := Ground.phase }, { on := 11, ground := Ground.phase }, { on := 12, ground := Ground.phase }, { on := 13, ground := Ground.phase }, { on := 14, ground := Ground.phase }, { on := 15, ground := Ground.phase }, { on := 16, ground := Ground.phase }, { on := 17, ground := Ground.phase }, { on := 18, ground := Ground.phase }, { on := 19, ground := Ground.phase }, { on := 20, ground := Ground.phase }, { on := 21, ground := Ground.phase }, { on := 22, ground := Ground.phase }, { on := 23, ground := Ground.phase }, { on := 24, ground := Ground.phase }, { on := 25, ground := Ground.phase }, { on := 26, ground := Ground.phase }, { on := 27, ground := Ground.phase }], guard := none }, { dst := none, op := (Op.store 29 (Operand.tmp 100) (Operand.tmp 99)), type := 0, pos := "sha256.go:144", after := #[{ on := 28, ground := Ground.data }, { on := 27, ground := Ground.data }, { on := 22, ground := Ground.chain }, { on := 0, ground := Ground.phase }, { on := 1, ground := Ground.phase }, { on := 2, ground := Ground.phase }, { on := 3, ground := Ground.phase }, { on := 4, ground := Ground.phase }, { on := 5, ground := Ground.phase }, { on := 6, ground := Ground.phase }, { on := 7, ground := Ground.phase }, { on := 8, ground := Ground.phase }, { on := 9, ground := Ground.phase }, { on := 10, ground := Ground.phase }, { on := 11, ground := Ground.phase }, { on := 12, ground := Ground.phase }, { on := 13, ground := Ground.phase }, { on := 14, ground := Ground.phase }, { on := 15, ground := Ground.phase }, { on := 16, ground := Ground.phase }, { on := 17, ground := Ground.phase }, { on := 18, ground := Ground.phase }, { on := 19, ground := Ground.phase }, { on := 20, ground := Ground.phase }, { on := 21, ground := Ground.phase }, { on := 22, ground := Ground.phase }, { on := 23, ground := Ground.phase }, { on := 24, ground := Ground.phase }, { on := 25, ground := Ground.phase }, { on := 26, ground := Ground.phase }, { on := 27, ground := Ground.phase }], guard := none }] true))))) (Code.region 9 #[{ dst := (some 101), op := (Op.binOp BinOp.add 3 (Operand.tmp 24) (Operand.const (Value.int IntKind.i64 1)) 3), type := 3, pos := "sha256.go:138", after := #[], guard := none }, { dst := (some 24), op := (Op.move (Operand.tmp 101)), type := 3, pos := "sha256.go:138", after := #[{ on := 0, ground := Ground.data }], guard := none }] false))))
def loop72b : Code := (Code.seq (Code.region 12 #[{ dst := (some 119), op := (Op.binOp BinOp.lss 3 (Operand.tmp 118) (Operand.const (Value.int IntKind.i64 64)) 3), type := 0, pos := "sha256.go:147", after := #[], guard := none }] false) (Code.seq (Code.cond (Operand.tmp 119) Code.skip (Code.exit 2)) (Code.seq (Code.block 3 (Code.seq (Code.region 13 #[{ dst := (some 120), op := (Op.move (Operand.tmp 118)), type := 3, pos := "sha256.go:147", after := #[], guard := none }, { dst := (some 19), op := (Op.assign (Operand.tmp 120)), type := 3, pos := "sha256.go:147", after := #[{ on := 0, ground := Ground.data }, { on := 0, ground := Ground.phase }], guard := none }] false) (Code.seq (Code.region 14 #[{ dst := (some 121), op := (Op.move (Operand.tmp 18)), type := 29, pos := "sha256.go:148", after := #[], guard := none }, { dst := (some 122), op := (Op.move (Operand.tmp 15)), type := 29, pos := "sha256.go:148", after := #[], guard := none }, { dst := (some 123), op := (Op.call { callee := (Callee.value (Operand.func 116)), args := #[(Operand.tmp 122), (Operand.const (Value.int IntKind.i64 6))], argTypes := #[29, 3] }), type := 29, pos := "sha256.go:148", after := #[{ on := 1, ground := Ground.data }], guard := none }, { dst := (some 124), op := (Op.move (Operand.tmp 15)), type := 29, pos := "sha256.go:148", after := #[], guard := none }, { dst := (some 125), op := (Op.call { callee := (Callee.value (Operand.func 116)), args := #[(Operand.tmp 124), (Operand.const (Value.int IntKind.i64 11))], argTypes := #[29, 3] }), type := 29, pos := "sha256.go:148", after := #[{ on := 3, ground := Ground.data }, { on := 2, ground := Ground.chain }], guard := none }, { dst := (some 126), op := (Op.binOp BinOp.xor 29 (Operand.tmp 123) (Operand.tmp 125) 29), type := 29, pos := "sha256.go:148", after := #[{ on := 2, ground := Ground.data }, { on := 4, ground := Ground.data }], guard := none }, { dst := (some 127), op := (Op.move (Operand.tmp 15)), type := 29, pos := "sha256.go:148", after := #[], guard := none }, { dst := (some 128), op := (Op.call { callee := (Callee.value (Operand.func 116)), args := #[(Operand.tmp 127), (Operand.const (Value.int IntKind.i64 25))], argTypes := #[29, 3] }), type := 29, pos := "sha256.go:148", after := #[{ on := 6, ground := Ground.data }, { on := 4, ground := Ground.chain }], guard := none }, { dst := (some 129), op := (Op.binOp BinOp.xor 29 (Operand.tmp 126) (Operand.tmp 128) 29), type := 29, pos := "sha256.go:148", after := #[{ on := 5, ground := Ground.data }, { on := 7, ground := Ground.data }], guard := none }, { dst := (some 130), op := (Op.binOp BinOp.add 29 (Operand.tmp 121) (Operand.tmp 129) 29), type := 29, pos := "sha256.go:148", after := #[{ on := 0, ground := Ground.data }, { on := 8, ground := Ground.data }], guard := none }, { dst := (some 131), op := (Op.move (Operand.tmp 15)), type := 29, pos := "sha256.go:148", after := #[], guard := none }, { dst := (some 132), op := (Op.move (Operand.tmp 16)), type := 29, pos := "sha256.go:148", after := #[], guard := none }, { dst := (some 133), op := (Op.binOp BinOp.and 29 (Operand.tmp 131) (Operand.tmp 132) 29), type := 29, pos := "sha256.go:148", after := #[{ on := 10, ground := Ground.data }, { on := 11, ground := Ground.data }], guard := none }, { dst := (some 134), op := (Op.move (Operand.tmp 15)), type := 29, pos := "sha256.go:148", after := #[], guard := none }, { dst := (some 135), op := (Op.unOp UnOp.xor 29 (Operand.tmp 134)), type := 29, pos := "sha256.go:148", after := #[{ on := 13, ground := Ground.data }], guard := none }, { dst := (some 136), op := (Op.move (Operand.tmp 17)), type := 29, pos := "sha256.go:148", after := #[], guard := none }, { dst := (some 137), op := (Op.binOp BinOp.and 29 (Operand.tmp 135) (Operand.tmp 136) 29), type := 29, pos := "sha256.go:148", after := #[{ on := 14, ground := Ground.data }, { on := 15, ground := Ground.data }], guard := none }, { dst := (some 138), op := (Op.binOp BinOp.xor 29 (Operand.tmp 133) (Operand.tmp 137) 29), type := 29, pos := "sha256.go:148", after := #[{ on := 12, ground := Ground.data }, { on := 16, ground := Ground.data }], guard := none }, { dst := (some 139), op := (Op.binOp BinOp.add 29 (Operand.tmp 130) (Operand.tmp 138) 29), type := 29, pos := "sha256.go:148", after := #[{ on := 9, ground := Ground.data }, { on := 17, ground := Ground.data }], guard := none }, { dst := (some 140), op := (Op.move (Operand.tmp 0)), type := 104, pos := "sha256.go:148", after := #[], guard := none }, { dst := (some 141), op := (Op.move (Operand.tmp 19)), type := 3, pos := "sha256.go:148", after := #[], guard := none }, { dst := (some 142), op := (Op.nilCheck (Operand.tmp 140)), type := 0, pos := "sha256.go:148", after := #[{ on := 19, ground := Ground.data }], guard := none }, { dst := (some 143), op := (Op.indexAddr 32 (Operand.tmp 142) (Operand.tmp 141)), type := 0, pos := "sha256.go:148", after := #[{ on := 21, ground := Ground.data }, { on := 20, ground := Ground.data }], guard := none }, { dst := (some 144), op := (Op.load 29 (Operand.tmp 143)), type := 29, pos := "sha256.go:148", after := #[{ on := 22, ground := Ground.data }], guard := none }, { dst := (some 145), op := (Op.binOp BinOp.add 29 (Operand.tmp 139) (Operand.tmp 144) 29), type := 29, pos := "sha256.go:148", after := #[{ on := 18, ground := Ground.data }, { on := 23, ground := Ground.data }], guard := none }, { dst := (some 146), op := (Op.move (Operand.tmp 19)), type := 3, pos := "sha256.go:148", after := #[], guard := none }, { dst := (some 147), op := (Op.indexAddr 32 (Operand.tmp 7) (Operand.tmp 146)), type := 0, pos := "sha256.go:148", after := #[{ on := 25, ground := Ground.data }], guard := none }, { dst := (some 148), op := (Op.load 29 (Operand.tmp 147)), type := 29, pos := "sha256.go:148", after := #[{ on := 26, ground := Ground.data }], guard := none }, { dst := (some 149), op := (Op.binOp BinOp.add 29 (Operand.tmp 145) (Operand.tmp 148) 29), type := 29, pos := "sha256.go:148", after := #[{ on := 24, ground := Ground.data }, { on := 27, ground := Ground.data }], guard := none }, { dst := (some 20), op := (Op.assign (Operand.tmp 149)), type := 29, pos := "sha256.go:148", after := #[{ on := 28, ground := Ground.data }, { on := 7, ground := Ground.chain }, { on := 0, ground := Ground.phase }, { on := 1, ground := Ground.phase }, { on := 2, ground := Ground.phase }, { on := 3, ground := Ground.phase }, { on := 4, ground := Ground.phase }, { on := 5, ground := Ground.phase }, { on := 6, ground := Ground.phase }, { on := 7, ground := Ground.phase }, { on := 8, ground := Ground.phase }, { on := 9, ground := Ground.phase }, { on := 10, ground := Ground.phase }, { on := 11, ground := Ground.phase }, { on := 12, ground := Ground.phase }, { on := 13, ground := Ground.phase }, { on := 14, ground := Ground.phase }, { on := 15, ground := Ground.phase }, { on := 16, ground := Ground.phase }, { on := 17, ground := Ground.phase }, { on := 18, ground := Ground.phase }, { on := 19, ground := Ground.phase }, { on := 20, ground := Ground.phase }, { on := 21, ground := Ground.phase }, { on := 22, ground := Ground.phase }, { on := 23, ground := Ground.phase }, { on := 24, ground := Ground.phase }, { on := 25, ground := Ground.phase }, { on := 26, ground := Ground.phase }, { on := 27, ground := Ground.phase }, { on := 28, ground := Ground.phase }], guard := none }] true) (Code.seq (Code.region 15 #[{ dst := (some 150), op := (Op.move (Operand.tmp 11)), type := 29, pos := "sha256.go:149", after := #[], guard := none }, { dst := (some 151), op := (Op.call { callee := (Callee.value (Operand.func 116)), args := #[(Operand.tmp 150), (Operand.const (Value.int IntKind.i64 2))], argTypes := #[29, 3] }), type := 29, pos := "sha256.go:149", after := #[{ on := 0, ground := Ground.data }], guard := none }, { dst := (some 152), op := (Op.move (Operand.tmp 11)), type := 29, pos := "sha256.go:149", after := #[], guard := none }, { dst := (some 153), op := (Op.call { callee := (Callee.value (Operand.func 116)), args := #[(Operand.tmp 152), (Operand.const (Value.int IntKind.i64 13))], argTypes := #[29, 3] }), type := 29, pos := "sha256.go:149", after := #[{ on := 2, ground := Ground.data }, { on := 1, ground := Ground.chain }], guard := none }, { dst := (some 154), op := (Op.binOp BinOp.xor 29 (Operand.tmp 151) (Operand.tmp 153) 29), type := 29, pos := "sha256.go:149", after := #[{ on := 1, ground := Ground.data }, { on := 3, ground := Ground.data }], guard := none }, { dst := (some 155), op := (Op.move (Operand.tmp 11)), type := 29, pos := "sha256.go:149", after := #[], guard := none }, { dst := (some 156), op := (Op.call { callee := (Callee.value (Operand.func 116)), args := #[(Operand.tmp 155), (Operand.const (Value.int IntKind.i64 22))], argTypes := #[29, 3] }), type := 29, pos := "sha256.go:149", after := #[{ on := 5, ground := Ground.data }, { on := 3, ground := Ground.chain }], guard := none }, { dst := (some 157), op := (Op.binOp BinOp.xor 29 (Operand.tmp 154) (Operand.tmp 156) 29), type := 29, pos := "sha256.go:149", after := #[{ on := 4, ground := Ground.data }, { on := 6, ground := Ground.data }], guard := none }, { dst := (some 158), op := (Op.move (Operand.tmp 11)), type := 29, pos := "sha256.go:149", after := #[], guard := none }, { dst := (some 159), op := (Op.move (Operand.tmp 12)), type := 29, pos := "sha256.go:149", after := #[], guard := none }, { dst := (some 160), op := (Op.binOp BinOp.and 29 (Operand.tmp 158) (Operand.tmp 159) 29), type := 29, pos := "sha256.go:149", after := #[{ on := 8, ground := Ground.data }, { on := 9, ground := Ground.data }], guard := none }, { dst := (some 161), op := (Op.move (Operand.tmp 11)), type := 29, pos := "sha256.go:149", after := #[], guard := none }, { dst := (some 162), op := (Op.move (Operand.tmp 13)), type := 29, pos := "sha256.go:149", after := #[], guard := none }, { dst := (some 163), op := (Op.binOp BinOp.and 29 (Operand.tmp 161) (Operand.tmp 162) 29), type := 29, pos := "sha256.go:149", after := #[{ on := 11, ground := Ground.data }, { on := 12, ground := Ground.data }], guard := none }, { dst := (some 164), op := (Op.binOp BinOp.xor 29 (Operand.tmp 160) (Operand.tmp 163) 29), type := 29, pos := "sha256.go:149", after := #[{ on := 10, ground := Ground.data }, { on := 13, ground := Ground.data }], guard := none }, { dst := (some 165), op := (Op.move (Operand.tmp 12)), type := 29, pos := "sha256.go:149", after := #[], guard := none }, { dst := (some 166), op := (Op.move (Operand.tmp 13)), type := 29, pos := "sha256.go:149", after := #[], guard := none }, { dst := (some 167), op := (Op.binOp BinOp.and 29 (Operand.tmp 165) (Operand.tmp 166) 29), type := 29, pos := "sha256.go:149", after := #[{ on := 15, ground := Ground.data }, { on := 16, ground := Ground.data }], guard := none }, { dst := (some 168), op := (Op.binOp BinOp.xor 29 (Operand.tmp 164) (Operand.tmp 167) 29), type := 29, pos := "sha256.go:149", after := #[{ on := 14, ground := Ground.data }, { on := 17, ground := Ground.data }], guard := none }, { dst := (some 169), op := (Op.binOp BinOp.add 29 (Operand.tmp 157) (Operand.tmp 168) 29), type := 29, pos := "sha256.go:149", after := #[{ on := 7, ground := Ground.data }, { on := 18, ground := Ground.data }], guard := none }, { dst := (some 21), op := (Op.assign (Operand.tmp 169)), type := 29, pos := "sha256.go:149", after := #[{ on := 19, ground := Ground.data }, { on := 6, ground := Ground.chain }, { on := 0, ground := Ground.phase }, { on := 1, ground := Ground.phase }, { on := 2, ground := Ground.phase }, { on := 3, ground := Ground.phase }, { on := 4, ground := Ground.phase }, { on := 5, ground := Ground.phase }, { on := 6, ground := Ground.phase }, { on := 7, ground := Ground.phase }, { on := 8, ground := Ground.phase }, { on := 9, ground := Ground.phase }, { on := 10, ground := Ground.phase }, { on := 11, ground := Ground.phase }, { on := 12, ground := Ground.phase }, { on := 13, ground := Ground.phase }, { on := 14, ground := Ground.phase }, { on := 15, ground := Ground.phase }, { on := 16, ground := Ground.phase }, { on := 17, ground := Ground.phase }, { on := 18, ground := Ground.phase }, { on := 19, ground := Ground.phase }], guard := none }] false) (Code.region 16 #[{ dst := (some 170), op := (Op.move (Operand.tmp 20)), type := 29, pos := "sha256.go:150", after := #[], guard := none }, { dst := (some 171), op := (Op.move (Operand.tmp 21)), type := 29, pos := "sha256.go:150", after := #[], guard := none }, { dst := (some 172), op := (Op.binOp BinOp.add 29 (Operand.tmp 170) (Operand.tmp 171) 29), type := 29, pos := "sha256.go:150", after := #[{ on := 0, ground := Ground.data }, { on := 1, ground := Ground.data }], guard := none }, { dst := (some 173), op := (Op.move (Operand.tmp 11)), type := 29, pos := "sha256.go:150", after := #[], guard := none }, { dst := (some 174), op := (Op.move (Operand.tmp 12)), type := 29, pos := "sha256.go:150", after := #[], guard := none }, { dst := (some 175), op := (Op.move (Operand.tmp 13)), type := 29, pos := "sha256.go:150", after := #[], guard := none }, { dst := (some 176), op := (Op.move (Operand.tmp 14)), type := 29, pos := "sha256.go:150", after := #[], guard := none }, { dst := (some 177), op := (Op.move (Operand.tmp 20)), type := 29, pos := "sha256.go:150", after := #[], guard := none }, { dst := (some 178), op := (Op.binOp BinOp.add 29 (Operand.tmp 176) (Operand.tmp 177) 29), type := 29, pos := "sha256.go:150", after := #[{ on := 6, ground := Ground.data }, { on := 7, ground := Ground.data }], guard := none }, { dst := (some 179), op := (Op.move (Operand.tmp 15)), type := 29, pos := "sha256.go:150", after := #[], guard := none }, { dst := (some 180), op := (Op.move (Operand.tmp 16)), type := 29, pos := "sha256.go:150", after := #[], guard := none }, { dst := (some 181), op := (Op.move (Operand.tmp 17)), type := 29, pos := "sha256.go:150", after := #[], guard := none }, { dst := (some 11), op := (Op.assign (Operand.tmp 172)), type := 29, pos := "sha256.go:150", after := #[{ on := 2, ground := Ground.data }, { on := 0, ground := Ground.phase }, { on := 1, ground := Ground.phase }, { on := 2, ground := Ground.phase }, { on := 3, ground := Ground.phase }, { on := 4, ground := Ground.phase }, { on := 5, ground := Ground.phase }, { on := 6, ground := Ground.phase }, { on := 7, ground := (Ground.textOnly Departure.lateStores) }, { on := 8, ground := (Ground.textOnly Departure.lateStoresUnsure) }, { on := 9, ground := Ground.phase }, { on := 10, ground := Ground.phase }, { on := 11, ground := Ground.phase }], guard := none }, { dst := (some 12), op := (Op.assign (Operand.tmp 173)), type := 29, pos := "sha256.go:150", after := #[{ on := 3, ground := Ground.data }, { on := 12, ground := Ground.chain }, { on := 0, ground := Ground.phase }, { on := 1, ground := Ground.phase }, { on := 2, ground := Ground.phase }, { on := 3, ground := Ground.phase }, { on := 4, ground := Ground.phase }, { on := 5, ground := Ground.phase }, { on := 6, ground := Ground.phase }, { on := 7, ground := (Ground.textOnly Departure.lateStores) }, { on := 8, ground := (Ground.textOnly Departure.lateStoresUnsure) }, { on := 9, ground := Ground.phase }, { on := 10, ground := Ground.phase }, { on := 11, ground := Ground.phase }, { on := 12, ground := Ground.phase }], guard := none }, { dst := (some 13), op := (Op.assign (Operand.tmp 174)), type := 29, pos := "sha256.go:150", after := #[{ on := 4, ground := Ground.data }, { on := 13, ground := Ground.chain }, { on := 0, ground := Ground.phase }, { on := 1, ground := Ground.phase }, { on := 2, ground := Ground.phase }, { on := 3, ground := Ground.phase }, { on := 4, ground := Ground.phase }, { on := 5, ground := Ground.phase }, { on := 6, ground := Ground.phase }, { on := 7, ground := (Ground.textOnly Departure.lateStores) }, { on := 8, ground := (Ground.textOnly Departure.lateStoresUnsure) }, { on := 9, ground := Ground.phase }, { on := 10, ground := Ground.phase }, { on := 11, ground := Ground.phase }, { on := 12, ground := Ground.phase }, { on := 13, ground := Ground.phase }], guard := none }, { dst := (some 14), op := (Op.assign (Operand.tmp 175)), type := 29, pos := "sha256.go:150", after := #[{ on := 5, ground := Ground.data }, { on := 14, ground := Ground.chain }, { on := 0, ground := Ground.phase }, { on := 1, ground := Ground.phase }, { on := 2, ground := Ground.phase }, { on := 3, ground := Ground.phase }, { on := 4, ground := Ground.phase }, { on := 5, ground := Ground.phase }, { on := 6, ground := Ground.phase }, { on := 7, ground := (Ground.textOnly Departure.lateStores) }, { on := 8, ground := (Ground.textOnly Departure.lateStoresUnsure) }, { on := 9, ground := Ground.phase }, { on := 10, ground := Ground.phase }, { on := 11, ground := Ground.phase }, { on := 12, ground := Ground.phase }, { on := 13, ground := Ground.phase }, { on := 14, ground := Ground.phase }], guard := none }, { dst := (some 15), op := (Op.assign (Operand.tmp 178)), type := 29, pos := "sha256.go:150", after := #[{ on := 8, ground := Ground.data }, { on := 15, ground := Ground.chain }, { on := 0, ground := Ground.phase }, { on := 1, ground := Ground.phase }, { on := 2, ground := Ground.phase }, { on := 3, ground := Ground.phase }, { on := 4, ground := Ground.phase }, { on := 5, ground := Ground.phase }, { on := 6, ground := Ground.phase }, { on := 7, ground := Ground.phase }, { on := 8, ground := Ground.phase }, { on := 9, ground := Ground.phase }, { on := 10, ground := Ground.phase }, { on := 11, ground := Ground.phase }, { on := 12, ground := Ground.phase }, { on := 13, ground := Ground.phase }, { on := 14, ground := Ground.phase }, { on := 15, ground := Ground.phase }], guard := none }, { dst := (some 16), op := (Op.assign (Operand.tmp 179)), type := 29, pos := "sha256.go:150", after := #[{ on := 9, ground := Ground.data }, { on := 16, ground := Ground.chain }, { on := 0, ground := Ground.phase }, { on := 1, ground := Ground.phase }, { on := 2, ground := Ground.phase }, { on := 3, ground := Ground.phase }, { on := 4, ground := Ground.phase }, { on := 5, ground := Ground.phase }, { on := 6, ground := Ground.phase }, { on := 7, ground := Ground.phase }, { on := 8, ground := Ground.phase }, { on := 9, ground := Ground.phase }, { on := 10, ground := Ground.phase }, { on := 11, ground := Ground.phase }, { on := 12, ground := Ground.phase }, { on := 13, ground := Ground.phase }, { on := 14, ground := Ground.phase }, { on := 15, ground := Ground.phase }, { on := 16, ground := Ground.phase }], guard := none }, { dst := (some 17), op := (Op.assign (Operand.tmp 180)), type := 29, pos := "sha256.go:150", after := #[{ on := 10, ground := Ground.data }, { on := 17, ground := Ground.chain }, { on := 0, ground := Ground.phase }, { on := 1, ground := Ground.phase }, { on := 2, ground := Ground.phase }, { on := 3, ground := Ground.phase }, { on := 4, ground := Ground.phase }, { on := 5, ground := Ground.phase }, { on := 6, ground := Ground.phase }, { on := 7, ground := Ground.phase }, { on := 8, ground := Ground.phase }, { on := 9, ground := Ground.phase }, { on := 10, ground := Ground.phase }, { on := 11, ground := Ground.phase }, { on := 12, ground := Ground.phase }, { on := 13, ground := Ground.phase }, { on := 14, ground := Ground.phase }, { on := 15, ground := Ground.phase }, { on := 16, ground := Ground.phase }, { on := 17, ground := Ground.phase }], guard := none }, { dst := (some 18), op := (Op.assign (Operand.tmp 181)), type := 29, pos := "sha256.go:150", after := #[{ on := 11, ground := Ground.data }, { on := 18, ground := Ground.chain }, { on := 0, ground := Ground.phase }, { on := 1, ground := Ground.phase }, { on := 2, ground := Ground.phase }, { on := 3, ground := Ground.phase }, { on := 4, ground := Ground.phase }, { on := 5, ground := Ground.phase }, { on := 6, ground := Ground.phase }, { on := 7, ground := Ground.phase }, { on := 8, ground := Ground.phase }, { on := 9, ground := Ground.phase }, { on := 10, ground := Ground.phase }, { on := 11, ground := Ground.phase }, { on := 12, ground := Ground.phase }, { on := 13, ground := Ground.phase }, { on := 14, ground := Ground.phase }, { on := 15, ground := Ground.phase }, { on := 16, ground := Ground.phase }, { on := 17, ground := Ground.phase }, { on := 18, ground := Ground.phase }], guard := none }] false))))) (Code.region 17 #[{ dst := (some 182), op := (Op.binOp BinOp.add 3 (Operand.tmp 118) (Operand.const (Value.int IntKind.i64 1)) 3), type := 3, pos := "sha256.go:147", after := #[], guard := none }, { dst := (some 118), op := (Op.move (Operand.tmp 182)), type := 3, pos := "sha256.go:147", after := #[{ on := 0, ground := Ground.data }], guard := none }] false))))

attribute [irreducible] be32 wNext

abbrev zu32 : Value := .int .u32 0

theorem block_loop1 {g : Gh} (hg : g.n = 204) (d : List UInt8) (hd : d.length = 64) (x0 : Value) (br bb bo cp bw bs be : Nat) (cr cb cs ce : List Value) (r1 r2 : Bool) (hb : At cb bo (u8s d)) : ∀ (r i : Nat), i + r = 64 →
    WpL Try.prog g loop72a (fun e env mem => e = .exit 0 ∧ Wk g env mem [(0, x0), (4, .pointer (some ⟨bs, 0, none⟩)), (6, .pointer (some ⟨be, 0, none⟩)), (7, .pointer (some ⟨bw, 0, none⟩))]
        [⟨bw, u32s (wS d 64), true⟩, ⟨be, ce, true⟩, ⟨bs, cs, true⟩, ⟨br, cr, r1⟩])
      [(0, x0), (2, .slice (some ⟨bb, bo, none⟩) 64 cp), (4, .pointer (some ⟨bs, 0, none⟩)), (6, .pointer (some ⟨be, 0, none⟩)), (7, .pointer (some ⟨bw, 0, none⟩)), (24, i64 i)]
      [⟨bw, u32s (wS d i) ++ List.replicate r zu32, true⟩, ⟨be, ce, true⟩, ⟨bs, cs, true⟩, ⟨br, cr, r1⟩, ⟨bb, cb, r2⟩] := by
  obtain ⟨gn, w0, may⟩ := g
  obtain rfl : gn = 204 := hg
  intro r
  induction r with
  | zero =>
    intro i hi
    obtain rfl : i = 64 := by omega
    simp only [List.replicate_zero, List.append_nil]
    refine WpL.step ?_
    refine Wp.seq ?_
    refine Wp.reg allGen ?_
    refine Tr.lss rfl rfl (by first | with_reducible assumption | exact decide_eq_true (by omega) | exact decide_eq_false (by omega) | exact beq_iff_eq.2 (by omega) | exact beq_eq_false_iff_ne.2 (by omega) | exact bne_iff_ne.2 (by omega) | rfl) rfl trivial rfl ?_
    refine Tr.nil ?_ (fun _ => rfl) (List.Perm.refl _)
    refine Wp.seq ?_
    refine Wp.condF rfl ?_
    refine Wp.exit ?_
    exact ⟨rfl, Wk.mk (by repeat (first | exact ESub.nil | refine ESub.cons rfl (by first | rfl | (simp; done) | (simp; omega)) ?_)) (by repeat (first | exact MSub.nil | refine MSub.cons (by first | exact .here | exact (.there .here) | exact (.there (.there .here)) | exact (.there (.there (.there .here))) | exact (.there (.there (.there (.there .here)))) | exact (.there (.there (.there (.there (.there .here))))) | exact (.there (.there (.there (.there (.there (.there .here)))))) | exact (.there (.there (.there (.there (.there (.there (.there .here))))))) | exact (.there (.there (.there (.there (.there (.there (.there (.there .here)))))))) | exact (.there (.there (.there (.there (.there (.there (.there (.there (.there .here)))))))))) (by first | rfl | (simp; done)) ?_))⟩
  | succ r ih =>
    intro i hi
    have hlen := wS_len d i
    have hset : ∀ v : UInt32, wS d (i + 1) = wS d i ++ [v] → (u32s (wS d i) ++ List.replicate (r + 1) zu32).set i (u32 v) = u32s (wS d (i + 1)) ++ List.replicate r zu32 := fun v hv => by
      rw [set_rep _ _ _ i r (by simp [hlen]), hv]; simp
    by_cases h16 : i < 16
    · have g0 := at_get u8 hb 0 (j := 4 * i) (by omega) (k := 4 * (i : Int)) (by omega)
      have g1 := at_get u8 hb 0 (j := 4 * i + 1) (by omega) (k := 4 * (i : Int) + 1) (by omega)
      have g2 := at_get u8 hb 0 (j := 4 * i + 2) (by omega) (k := 4 * (i : Int) + 2) (by omega)
      have g3 := at_get u8 hb 0 (j := 4 * i + 3) (by omega) (k := 4 * (i : Int) + 3) (by omega)
      have hw : wS d (i + 1) = wS d i ++ [be32 d i] := by simp [wS, h16]
      refine WpL.step ?_
      refine Wp.seq ?_
      refine Wp.reg allGen ?_
      refine Tr.lss rfl rfl (by first | with_reducible assumption | exact decide_eq_true (by omega) | exact decide_eq_false (by omega) | exact beq_iff_eq.2 (by omega) | exact beq_eq_false_iff_ne.2 (by omega) | exact bne_iff_ne.2 (by omega) | rfl) rfl trivial rfl ?_
      refine Tr.nil ?_ (fun _ => rfl) (List.Perm.refl _)
      refine Wp.seq ?_
      refine Wp.condT rfl ?_
      refine Wp.skip ?_
      refine Wp.seq ?_
      refine Wp.block ?_
      refine Wp.seq ?_
      refine Wp.reg allGen ?_
      refine Tr.move rfl rfl trivial rfl ?_
      refine Tr.assign rfl rfl trivial rfl ?_
      refine Tr.nil ?_ (fun _ => rfl) (List.Perm.refl _)
      refine Wp.seq ?_
      refine Wp.seq ?_
      refine Wp.reg allGen ?_
      refine Tr.move rfl rfl trivial rfl ?_
      refine Tr.lss rfl rfl (by first | with_reducible assumption | exact decide_eq_true (by omega) | exact decide_eq_false (by omega) | exact beq_iff_eq.2 (by omega) | exact beq_eq_false_iff_ne.2 (by omega) | exact bne_iff_ne.2 (by omega) | rfl) rfl trivial rfl ?_
      refine Tr.nil ?_ (fun _ => rfl) (List.Perm.refl _)
      refine Wp.condT rfl ?_
      refine Wp.seq ?_
      refine Wp.regE kindOf mo (by kernel_rfl) ?_
      refine Tr.move rfl rfl trivial rfl ?_
      refine Tr.move rfl rfl trivial rfl ?_
      refine Tr.move rfl rfl trivial rfl ?_
      refine Tr.mul rfl rfl (by first | exact wrap_i64 (by omega) (by omega) | rfl) rfl trivial rfl ?_
      first | refine Tr.indexAddrS01 tab rfl rfl rfl rfl rfl (by omega) (by omega) rfl trivial rfl ?_ | refine Tr.indexAddrS1 tab rfl rfl rfl rfl rfl (by omega) (by omega) rfl trivial rfl ?_
      refine Tr.loadS tab rfl rfl rfl (by first | exact (.head _) | exact (.tail _ (.head _)) | exact (.tail _ (.tail _ (.head _))) | exact (.tail _ (.tail _ (.tail _ (.head _)))) | exact (.tail _ (.tail _ (.tail _ (.tail _ (.head _))))) | exact (.tail _ (.tail _ (.tail _ (.tail _ (.tail _ (.head _)))))) | exact (.tail _ (.tail _ (.tail _ (.tail _ (.tail _ (.tail _ (.head _))))))) | exact (.tail _ (.tail _ (.tail _ (.tail _ (.tail _ (.tail _ (.tail _ (.head _)))))))) | exact (.tail _ (.tail _ (.tail _ (.tail _ (.tail _ (.tail _ (.tail _ (.tail _ (.head _))))))))) | exact (.tail _ (.tail _ (.tail _ (.tail _ (.tail _ (.tail _ (.tail _ (.tail _ (.tail _ (.head _))))))))))) (by first | rfl | with_reducible assumption | assumption | (simp; done)) rfl trivial rfl ?_
      refine Tr.conv tab rfl rfl rfl rfl (by first | exact conv_u8_u32 _ | rfl) rfl trivial rfl ?_
      refine Tr.shl rfl rfl (by omega) (by first | exact u32_shl _ 24 (by decide) | rfl) rfl trivial rfl ?_
      refine Tr.move rfl rfl trivial rfl ?_
      refine Tr.move rfl rfl trivial rfl ?_
      refine Tr.mul rfl rfl (by first | exact wrap_i64 (by omega) (by omega) | rfl) rfl trivial rfl ?_
      refine Tr.add rfl rfl (by first | exact wrap_i64 (by omega) (by omega) | rfl) rfl trivial rfl ?_
      first | refine Tr.indexAddrS01 tab rfl rfl rfl rfl rfl (by omega) (by omega) rfl trivial rfl ?_ | refine Tr.indexAddrS1 tab rfl rfl rfl rfl rfl (by omega) (by omega) rfl trivial rfl ?_
      refine Tr.loadS tab rfl rfl rfl (by first | exact (.head _) | exact (.tail _ (.head _)) | exact (.tail _ (.tail _ (.head _))) | exact (.tail _ (.tail _ (.tail _ (.head _)))) | exact (.tail _ (.tail _ (.tail _ (.tail _ (.head _))))) | exact (.tail _ (.tail _ (.tail _ (.tail _ (.tail _ (.head _)))))) | exact (.tail _ (.tail _ (.tail _ (.tail _ (.tail _ (.tail _ (.head _))))))) | exact (.tail _ (.tail _ (.tail _ (.tail _ (.tail _ (.tail _ (.tail _ (.head _)))))))) | exact (.tail _ (.tail _ (.tail _ (.tail _ (.tail _ (.tail _ (.tail _ (.tail _ (.head _))))))))) | exact (.tail _ (.tail _ (.tail _ (.tail _ (.tail _ (.tail _ (.tail _ (.tail _ (.tail _ (.head _))))))))))) (by first | rfl | with_reducible assumption | assumption | (simp; done)) rfl trivial rfl ?_
      refine Tr.conv tab rfl rfl rfl rfl (by first | exact conv_u8_u32 _ | rfl) rfl trivial rfl ?_
      refine Tr.shl rfl rfl (by omega) (by first | exact u32_shl _ 16 (by decide) | rfl) rfl trivial rfl ?_
      refine Tr.bor rfl rfl (by first | exact u32_or _ _ | rfl) rfl trivial rfl ?_
      refine Tr.move rfl rfl trivial rfl ?_
      refine Tr.move rfl rfl trivial rfl ?_
      refine Tr.mul rfl rfl (by first | exact wrap_i64 (by omega) (by omega) | rfl) rfl trivial rfl ?_
      refine Tr.add rfl rfl (by first | exact wrap_i64 (by omega) (by omega) | rfl) rfl trivial rfl ?_
      first | refine Tr.indexAddrS01 tab rfl rfl rfl rfl rfl (by omega) (by omega) rfl trivial rfl ?_ | refine Tr.indexAddrS1 tab rfl rfl rfl rfl rfl (by omega) (by omega) rfl trivial rfl ?_
      refine Tr.loadS tab rfl rfl rfl (by first | exact (.head _) | exact (.tail _ (.head _)) | exact (.tail _ (.tail _ (.head _))) | exact (.tail _ (.tail _ (.tail _ (.head _)))) | exact (.tail _ (.tail _ (.tail _ (.tail _ (.head _))))) | exact (.tail _ (.tail _ (.tail _ (.tail _ (.tail _ (.head _)))))) | exact (.tail _ (.tail _ (.tail _ (.tail _ (.tail _ (.tail _ (.head _))))))) | exact (.tail _ (.tail _ (.tail _ (.tail _ (.tail _ (.tail _ (.tail _ (.head _)))))))) | exact (.tail _ (.tail _ (.tail _ (.tail _ (.tail _ (.tail _ (.tail _ (.tail _ (.head _))))))))) | exact (.tail _ (.tail _ (.tail _ (.tail _ (.tail _ (.tail _ (.tail _ (.tail _ (.tail _ (.head _))))))))))) (by first | rfl | with_reducible assumption | assumption | (simp; done)) rfl trivial rfl ?_
      refine Tr.conv tab rfl rfl rfl rfl (by first | exact conv_u8_u32 _ | rfl) rfl trivial rfl ?_
      refine Tr.shl rfl rfl (by omega) (by first | exact u32_shl _ 8 (by decide) | rfl) rfl trivial rfl ?_
      refine Tr.bor rfl rfl (by first | exact u32_or _ _ | rfl) rfl trivial rfl ?_
      refine Tr.move rfl rfl trivial rfl ?_
      refine Tr.move rfl rfl trivial rfl ?_
      refine Tr.mul rfl rfl (by first | exact wrap_i64 (by omega) (by omega) | rfl) rfl trivial rfl ?_
      refine Tr.add rfl rfl (by first | exact wrap_i64 (by omega) (by omega) | rfl) rfl trivial rfl ?_
      first | refine Tr.indexAddrS01 tab rfl rfl rfl rfl rfl (by omega) (by omega) rfl trivial rfl ?_ | refine Tr.indexAddrS1 tab rfl rfl rfl rfl rfl (by omega) (by omega) rfl trivial rfl ?_
      refine Tr.loadS tab rfl rfl rfl (by first | exact (.head _) | exact (.tail _ (.head _)) | exact (.tail _ (.tail _ (.head _))) | exact (.tail _ (.tail _ (.tail _ (.head _)))) | exact (.tail _ (.tail _ (.tail _ (.tail _ (.head _))))) | exact (.tail _ (.tail _ (.tail _ (.tail _ (.tail _ (.head _)))))) | exact (.tail _ (.tail _ (.tail _ (.tail _ (.tail _ (.tail _ (.head _))))))) | exact (.tail _ (.tail _ (.tail _ (.tail _ (.tail _ (.tail _ (.tail _ (.head _)))))))) | exact (.tail _ (.tail _ (.tail _ (.tail _ (.tail _ (.tail _ (.tail _ (.tail _ (.head _))))))))) | exact (.tail _ (.tail _ (.tail _ (.tail _ (.tail _ (.tail _ (.tail _ (.tail _ (.tail _ (.head _))))))))))) (by first | rfl | with_reducible assumption | assumption | (simp; done)) rfl trivial rfl ?_
      refine Tr.conv tab rfl rfl rfl rfl (by first | exact conv_u8_u32 _ | rfl) rfl trivial rfl ?_
      refine Tr.bor rfl rfl (by first | exact u32_or _ _ | rfl) rfl trivial rfl ?_
      first | refine Tr.indexAddr01 tab rfl rfl rfl rfl rfl (by omega) (by omega) rfl trivial rfl ?_ | refine Tr.indexAddr1 tab rfl rfl rfl rfl rfl (by omega) (by omega) rfl trivial rfl ?_
      refine Tr.storeS tab rfl rfl rfl rfl (by first | exact .here | exact (.there .here) | exact (.there (.there .here)) | exact (.there (.there (.there .here))) | exact (.there (.there (.there (.there .here)))) | exact (.there (.there (.there (.there (.there .here))))) | exact (.there (.there (.there (.there (.there (.there .here)))))) | exact (.there (.there (.there (.there (.there (.there (.there .here))))))) | exact (.there (.there (.there (.there (.there (.there (.there (.there .here)))))))) | exact (.there (.there (.there (.there (.there (.there (.there (.there (.there .here)))))))))) (by first | decide | (simp; done) | (simp; omega) | exact Nat.le_of_ble_eq_true rfl) trivial rfl ?_
      refine Tr.nil ?_ (fun _ => rfl) (List.Perm.refl _)
      refine Wp.exit ?_
      refine Wp.reg allGen ?_
      refine Tr.add rfl rfl (by first | exact wrap_i64 (by omega) (by omega) | rfl) rfl trivial rfl ?_
      refine Tr.move rfl rfl trivial rfl ?_
      refine Tr.nil ?_ (fun _ => rfl) (List.Perm.refl _)
      refine WpL.weak (ih (i + 1) (by omega)) (Wk.mk (by repeat (first | exact ESub.nil | refine ESub.cons rfl (by first | rfl | (simp; done) | (simp; omega)) ?_)) ?_)
      refine MSub.cons (by first | exact .here | exact (.there .here) | exact (.there (.there .here)) | exact (.there (.there (.there .here))) | exact (.there (.there (.there (.there .here)))) | exact (.there (.there (.there (.there (.there .here))))) | exact (.there (.there (.there (.there (.there (.there .here)))))) | exact (.there (.there (.there (.there (.there (.there (.there .here))))))) | exact (.there (.there (.there (.there (.there (.there (.there (.there .here)))))))) | exact (.there (.there (.there (.there (.there (.there (.there (.there (.there .here)))))))))) ?_ (MSub.cons (by first | exact .here | exact (.there .here) | exact (.there (.there .here)) | exact (.there (.there (.there .here))) | exact (.there (.there (.there (.there .here)))) | exact (.there (.there (.there (.there (.there .here))))) | exact (.there (.there (.there (.there (.there (.there .here)))))) | exact (.there (.there (.there (.there (.there (.there (.there .here))))))) | exact (.there (.there (.there (.there (.there (.there (.there (.there .here)))))))) | exact (.there (.there (.there (.there (.there (.there (.there (.there (.there .here)))))))))) rfl (MSub.cons (by first | exact .here | exact (.there .here) | exact (.there (.there .here)) | exact (.there (.there (.there .here))) | exact (.there (.there (.there (.there .here)))) | exact (.there (.there (.there (.there (.there .here))))) | exact (.there (.there (.there (.there (.there (.there .here)))))) | exact (.there (.there (.there (.there (.there (.there (.there .here))))))) | exact (.there (.there (.there (.there (.there (.there (.there (.there .here)))))))) | exact (.there (.there (.there (.there (.there (.there (.there (.there (.there .here)))))))))) rfl (MSub.cons (by first | exact .here | exact (.there .here) | exact (.there (.there .here)) | exact (.there (.there (.there .here))) | exact (.there (.there (.there (.there .here)))) | exact (.there (.there (.there (.there (.there .here))))) | exact (.there (.there (.there (.there (.there (.there .here)))))) | exact (.there (.there (.there (.there (.there (.there (.there .here))))))) | exact (.there (.there (.there (.there (.there (.there (.there (.there .here)))))))) | exact (.there (.there (.there (.there (.there (.there (.there (.there (.there .here)))))))))) rfl (MSub.cons (by first | exact .here | exact (.there .here) | exact (.there (.there .here)) | exact (.there (.there (.there .here))) | exact (.there (.there (.there (.there .here)))) | exact (.there (.there (.there (.there (.there .here))))) | exact (.there (.there (.there (.there (.there (.there .here)))))) | exact (.there (.there (.there (.there (.there (.there (.there .here))))))) | exact (.there (.there (.there (.there (.there (.there (.there (.there .here)))))))) | exact (.there (.there (.there (.there (.there (.there (.there (.there (.there .here)))))))))) rfl .nil))))
      have := hset _ hw
      unfold be32 at this
      exact this
    · have g15 := ap_get u32 (l := wS d i) (r := List.replicate (r + 1) zu32) 0 (j := i - 15) (by omega) (k := (i : Int) - 15) (by omega)
      have g2 := ap_get u32 (l := wS d i) (r := List.replicate (r + 1) zu32) 0 (j := i - 2) (by omega) (k := (i : Int) - 2) (by omega)
      have g16 := ap_get u32 (l := wS d i) (r := List.replicate (r + 1) zu32) 0 (j := i - 16) (by omega) (k := (i : Int) - 16) (by omega)
      have g7 := ap_get u32 (l := wS d i) (r := List.replicate (r + 1) zu32) 0 (j := i - 7) (by omega) (k := (i : Int) - 7) (by omega)
      have hw : wS d (i + 1) = wS d i ++ [wNext (wS d i) i] := by simp [wS, h16]
      refine WpL.step ?_
      refine Wp.seq ?_
      refine Wp.reg allGen ?_
      refine Tr.lss rfl rfl (by first | with_reducible assumption | exact decide_eq_true (by omega) | exact decide_eq_false (by omega) | exact beq_iff_eq.2 (by omega) | exact beq_eq_false_iff_ne.2 (by omega) | exact bne_iff_ne.2 (by omega) | rfl) rfl trivial rfl ?_
      refine Tr.nil ?_ (fun _ => rfl) (List.Perm.refl _)
      refine Wp.seq ?_
      refine Wp.condT rfl ?_
      refine Wp.skip ?_
      refine Wp.seq ?_
      refine Wp.block ?_
      refine Wp.seq ?_
      refine Wp.reg allGen ?_
      refine Tr.move rfl rfl trivial rfl ?_
      refine Tr.assign rfl rfl trivial rfl ?_
      refine Tr.nil ?_ (fun _ => rfl) (List.Perm.refl _)
      refine Wp.seq ?_
      refine Wp.seq ?_
      refine Wp.reg allGen ?_
      refine Tr.move rfl rfl trivial rfl ?_
      refine Tr.lss rfl rfl (by first | with_reducible assumption | exact decide_eq_true (by omega) | exact decide_eq_false (by omega) | exact beq_iff_eq.2 (by omega) | exact beq_eq_false_iff_ne.2 (by omega) | exact bne_iff_ne.2 (by omega) | rfl) rfl trivial rfl ?_
      refine Tr.nil ?_ (fun _ => rfl) (List.Perm.refl _)
      refine Wp.condF rfl ?_
      refine Wp.skip ?_
      refine Wp.seq ?_
      refine Wp.regE kindOf mo (by kernel_rfl) ?_
      refine Tr.move rfl rfl trivial rfl ?_
      refine Tr.sub rfl rfl (by first | exact wrap_i64 (by omega) (by omega) | rfl) rfl trivial rfl ?_
      first | refine Tr.indexAddr01 tab rfl rfl rfl rfl rfl (by omega) (by omega) rfl trivial rfl ?_ | refine Tr.indexAddr1 tab rfl rfl rfl rfl rfl (by omega) (by omega) rfl trivial rfl ?_
      refine Tr.loadS tab rfl rfl rfl (by first | exact (.head _) | exact (.tail _ (.head _)) | exact (.tail _ (.tail _ (.head _))) | exact (.tail _ (.tail _ (.tail _ (.head _)))) | exact (.tail _ (.tail _ (.tail _ (.tail _ (.head _))))) | exact (.tail _ (.tail _ (.tail _ (.tail _ (.tail _ (.head _)))))) | exact (.tail _ (.tail _ (.tail _ (.tail _ (.tail _ (.tail _ (.head _))))))) | exact (.tail _ (.tail _ (.tail _ (.tail _ (.tail _ (.tail _ (.tail _ (.head _)))))))) | exact (.tail _ (.tail _ (.tail _ (.tail _ (.tail _ (.tail _ (.tail _ (.tail _ (.head _))))))))) | exact (.tail _ (.tail _ (.tail _ (.tail _ (.tail _ (.tail _ (.tail _ (.tail _ (.tail _ (.head _))))))))))) (by first | rfl | with_reducible assumption | assumption | (simp; done)) rfl trivial rfl ?_
      refine Tr.move rfl rfl trivial rfl ?_
      refine Tr.sub rfl rfl (by first | exact wrap_i64 (by omega) (by omega) | rfl) rfl trivial rfl ?_
      first | refine Tr.indexAddr01 tab rfl rfl rfl rfl rfl (by omega) (by omega) rfl trivial rfl ?_ | refine Tr.indexAddr1 tab rfl rfl rfl rfl rfl (by omega) (by omega) rfl trivial rfl ?_
      refine Tr.loadS tab rfl rfl rfl (by first | exact (.head _) | exact (.tail _ (.head _)) | exact (.tail _ (.tail _ (.head _))) | exact (.tail _ (.tail _ (.tail _ (.head _)))) | exact (.tail _ (.tail _ (.tail _ (.tail _ (.head _))))) | exact (.tail _ (.tail _ (.tail _ (.tail _ (.tail _ (.head _)))))) | exact (.tail _ (.tail _ (.tail _ (.tail _ (.tail _ (.tail _ (.head _))))))) | exact (.tail _ (.tail _ (.tail _ (.tail _ (.tail _ (.tail _ (.tail _ (.head _)))))))) | exact (.tail _ (.tail _ (.tail _ (.tail _ (.tail _ (.tail _ (.tail _ (.tail _ (.head _))))))))) | exact (.tail _ (.tail _ (.tail _ (.tail _ (.tail _ (.tail _ (.tail _ (.tail _ (.tail _ (.head _))))))))))) (by first | rfl | with_reducible assumption | assumption | (simp; done)) rfl trivial rfl ?_
      refine Tr.assign rfl rfl trivial rfl ?_
      refine Tr.assign rfl rfl trivial rfl ?_
      refine Tr.nil ?_ (fun _ => rfl) (List.Perm.refl _)
      refine Wp.regE kindOf mo (by kernel_rfl) ?_
      refine Tr.move rfl rfl trivial rfl ?_
      refine Tr.move rfl rfl trivial rfl ?_
      refine Tr.sub rfl rfl (by first | exact wrap_i64 (by omega) (by omega) | rfl) rfl trivial rfl ?_
      first | refine Tr.indexAddr01 tab rfl rfl rfl rfl rfl (by omega) (by omega) rfl trivial rfl ?_ | refine Tr.indexAddr1 tab rfl rfl rfl rfl rfl (by omega) (by omega) rfl trivial rfl ?_
      refine Tr.loadS tab rfl rfl rfl (by first | exact (.head _) | exact (.tail _ (.head _)) | exact (.tail _ (.tail _ (.head _))) | exact (.tail _ (.tail _ (.tail _ (.head _)))) | exact (.tail _ (.tail _ (.tail _ (.tail _ (.head _))))) | exact (.tail _ (.tail _ (.tail _ (.tail _ (.tail _ (.head _)))))) | exact (.tail _ (.tail _ (.tail _ (.tail _ (.tail _ (.tail _ (.head _))))))) | exact (.tail _ (.tail _ (.tail _ (.tail _ (.tail _ (.tail _ (.tail _ (.head _)))))))) | exact (.tail _ (.tail _ (.tail _ (.tail _ (.tail _ (.tail _ (.tail _ (.tail _ (.head _))))))))) | exact (.tail _ (.tail _ (.tail _ (.tail _ (.tail _ (.tail _ (.tail _ (.tail _ (.tail _ (.head _))))))))))) (by first | rfl | with_reducible assumption | assumption | (simp; done)) rfl trivial rfl ?_
      refine Tr.move rfl rfl trivial rfl ?_
      refine Tr.call rfl (f116_rotr _ 7 (by decide) (by decide)) (by repeat (first | exact Has.nil | refine Has.cons (by first | exact (.head _) | exact (.tail _ (.head _)) | exact (.tail _ (.tail _ (.head _))) | exact (.tail _ (.tail _ (.tail _ (.head _)))) | exact (.tail _ (.tail _ (.tail _ (.tail _ (.head _))))) | exact (.tail _ (.tail _ (.tail _ (.tail _ (.tail _ (.head _)))))) | exact (.tail _ (.tail _ (.tail _ (.tail _ (.tail _ (.tail _ (.head _))))))) | exact (.tail _ (.tail _ (.tail _ (.tail _ (.tail _ (.tail _ (.tail _ (.head _)))))))) | exact (.tail _ (.tail _ (.tail _ (.tail _ (.tail _ (.tail _ (.tail _ (.tail _ (.head _))))))))) | exact (.tail _ (.tail _ (.tail _ (.tail _ (.tail _ (.tail _ (.tail _ (.tail _ (.tail _ (.head _))))))))))) ?_)) rfl trivial rfl ?_
      refine Tr.move rfl rfl trivial rfl ?_
      refine Tr.call rfl (f116_rotr _ 18 (by decide) (by decide)) (by repeat (first | exact Has.nil | refine Has.cons (by first | exact (.head _) | exact (.tail _ (.head _)) | exact (.tail _ (.tail _ (.head _))) | exact (.tail _ (.tail _ (.tail _ (.head _)))) | exact (.tail _ (.tail _ (.tail _ (.tail _ (.head _))))) | exact (.tail _ (.tail _ (.tail _ (.tail _ (.tail _ (.head _)))))) | exact (.tail _ (.tail _ (.tail _ (.tail _ (.tail _ (.tail _ (.head _))))))) | exact (.tail _ (.tail _ (.tail _ (.tail _ (.tail _ (.tail _ (.tail _ (.head _)))))))) | exact (.tail _ (.tail _ (.tail _ (.tail _ (.tail _ (.tail _ (.tail _ (.tail _ (.head _))))))))) | exact (.tail _ (.tail _ (.tail _ (.tail _ (.tail _ (.tail _ (.tail _ (.tail _ (.tail _ (.head _))))))))))) ?_)) rfl trivial rfl ?_
      refine Tr.bxor rfl rfl (by first | exact u32_xor _ _ | rfl) rfl trivial rfl ?_
      refine Tr.move rfl rfl trivial rfl ?_
      refine Tr.shr rfl rfl (by omega) (by first | exact u32_shr _ 3 (by decide) | rfl) rfl trivial rfl ?_
      refine Tr.bxor rfl rfl (by first | exact u32_xor _ _ | rfl) rfl trivial rfl ?_
      refine Tr.add rfl rfl (by first | exact u32_add _ _ | exact wrap_u32 (by omega) (by omega) | rfl) rfl trivial rfl ?_
      refine Tr.move rfl rfl trivial rfl ?_
      refine Tr.sub rfl rfl (by first | exact wrap_i64 (by omega) (by omega) | rfl) rfl trivial rfl ?_
      first | refine Tr.indexAddr01 tab rfl rfl rfl rfl rfl (by omega) (by omega) rfl trivial rfl ?_ | refine Tr.indexAddr1 tab rfl rfl rfl rfl rfl (by omega) (by omega) rfl trivial rfl ?_
      refine Tr.loadS tab rfl rfl rfl (by first | exact (.head _) | exact (.tail _ (.head _)) | exact (.tail _ (.tail _ (.head _))) | exact (.tail _ (.tail _ (.tail _ (.head _)))) | exact (.tail _ (.tail _ (.tail _ (.tail _ (.head _))))) | exact (.tail _ (.tail _ (.tail _ (.tail _ (.tail _ (.head _)))))) | exact (.tail _ (.tail _ (.tail _ (.tail _ (.tail _ (.tail _ (.head _))))))) | exact (.tail _ (.tail _ (.tail _ (.tail _ (.tail _ (.tail _ (.tail _ (.head _)))))))) | exact (.tail _ (.tail _ (.tail _ (.tail _ (.tail _ (.tail _ (.tail _ (.tail _ (.head _))))))))) | exact (.tail _ (.tail _ (.tail _ (.tail _ (.tail _ (.tail _ (.tail _ (.tail _ (.tail _ (.head _))))))))))) (by first | rfl | with_reducible assumption | assumption | (simp; done)) rfl trivial rfl ?_
      refine Tr.add rfl rfl (by first | exact u32_add _ _ | exact wrap_u32 (by omega) (by omega) | rfl) rfl trivial rfl ?_
      refine Tr.move rfl rfl trivial rfl ?_
      refine Tr.call rfl (f116_rotr _ 17 (by decide) (by decide)) (by repeat (first | exact Has.nil | refine Has.cons (by first | exact (.head _) | exact (.tail _ (.head _)) | exact (.tail _ (.tail _ (.head _))) | exact (.tail _ (.tail _ (.tail _ (.head _)))) | exact (.tail _ (.tail _ (.tail _ (.tail _ (.head _))))) | exact (.tail _ (.tail _ (.tail _ (.tail _ (.tail _ (.head _)))))) | exact (.tail _ (.tail _ (.tail _ (.tail _ (.tail _ (.tail _ (.head _))))))) | exact (.tail _ (.tail _ (.tail _ (.tail _ (.tail _ (.tail _ (.tail _ (.head _)))))))) | exact (.tail _ (.tail _ (.tail _ (.tail _ (.tail _ (.tail _ (.tail _ (.tail _ (.head _))))))))) | exact (.tail _ (.tail _ (.tail _ (.tail _ (.tail _ (.tail _ (.tail _ (.tail _ (.tail _ (.head _))))))))))) ?_)) rfl trivial rfl ?_
      refine Tr.move rfl rfl trivial rfl ?_
      refine Tr.call rfl (f116_rotr _ 19 (by decide) (by decide)) (by repeat (first | exact Has.nil | refine Has.cons (by first | exact (.head _) | exact (.tail _ (.head _)) | exact (.tail _ (.tail _ (.head _))) | exact (.tail _ (.tail _ (.tail _ (.head _)))) | exact (.tail _ (.tail _ (.tail _ (.tail _ (.head _))))) | exact (.tail _ (.tail _ (.tail _ (.tail _ (.tail _ (.head _)))))) | exact (.tail _ (.tail _ (.tail _ (.tail _ (.tail _ (.tail _ (.head _))))))) | exact (.tail _ (.tail _ (.tail _ (.tail _ (.tail _ (.tail _ (.tail _ (.head _)))))))) | exact (.tail _ (.tail _ (.tail _ (.tail _ (.tail _ (.tail _ (.tail _ (.tail _ (.head _))))))))) | exact (.tail _ (.tail _ (.tail _ (.tail _ (.tail _ (.tail _ (.tail _ (.tail _ (.tail _ (.head _))))))))))) ?_)) rfl trivial rfl ?_
      refine Tr.bxor rfl rfl (by first | exact u32_xor _ _ | rfl) rfl trivial rfl ?_
      refine Tr.move rfl rfl trivial rfl ?_
      refine Tr.shr rfl rfl (by omega) (by first | exact u32_shr _ 10 (by decide) | rfl) rfl trivial rfl ?_
      refine Tr.bxor rfl rfl (by first | exact u32_xor _ _ | rfl) rfl trivial rfl ?_
      refine Tr.add rfl rfl (by first | exact u32_add _ _ | exact wrap_u32 (by omega) (by omega) | rfl) rfl trivial rfl ?_
      first | refine Tr.indexAddr01 tab rfl rfl rfl rfl rfl (by omega) (by omega) rfl trivial rfl ?_ | refine Tr.indexAddr1 tab rfl rfl rfl rfl rfl (by omega) (by omega) rfl trivial rfl ?_
      refine Tr.storeS tab rfl rfl rfl rfl (by first | exact .here | exact (.there .here) | exact (.there (.there .here)) | exact (.there (.there (.there .here))) | exact (.there (.there (.there (.there .here)))) | exact (.there (.there (.there (.there (.there .here))))) | exact (.there (.there (.there (.there (.there (.there .here)))))) | exact (.there (.there (.there (.there (.there (.there (.there .here))))))) | exact (.there (.there (.there (.there (.there (.there (.there (.there .here)))))))) | exact (.there (.there (.there (.there (.there (.there (.there (.there (.there .here)))))))))) (by first | decide | (simp; done) | (simp; omega) | exact Nat.le_of_ble_eq_true rfl) trivial rfl ?_
      refine Tr.nil ?_ (fun _ => rfl) (List.Perm.refl _)
      refine Wp.reg allGen ?_
      refine Tr.add rfl rfl (by first | exact wrap_i64 (by omega) (by omega) | rfl) rfl trivial rfl ?_
      refine Tr.move rfl rfl trivial rfl ?_
      refine Tr.nil ?_ (fun _ => rfl) (List.Perm.refl _)
      refine WpL.weak (ih (i + 1) (by omega)) (Wk.mk (by repeat (first | exact ESub.nil | refine ESub.cons rfl (by first | rfl | (simp; done) | (simp; omega)) ?_)) ?_)
      refine MSub.cons (by first | exact .here | exact (.there .here) | exact (.there (.there .here)) | exact (.there (.there (.there .here))) | exact (.there (.there (.there (.there .here)))) | exact (.there (.there (.there (.there (.there .here))))) | exact (.there (.there (.there (.there (.there (.there .here)))))) | exact (.there (.there (.there (.there (.there (.there (.there .here))))))) | exact (.there (.there (.there (.there (.there (.there (.there (.there .here)))))))) | exact (.there (.there (.there (.there (.there (.there (.there (.there (.there .here)))))))))) ?_ (MSub.cons (by first | exact .here | exact (.there .here) | exact (.there (.there .here)) | exact (.there (.there (.there .here))) | exact (.there (.there (.there (.there .here)))) | exact (.there (.there (.there (.there (.there .here))))) | exact (.there (.there (.there (.there (.there (.there .here)))))) | exact (.there (.there (.there (.there (.there (.there (.there .here))))))) | exact (.there (.there (.there (.there (.there (.there (.there (.there .here)))))))) | exact (.there (.there (.there (.there (.there (.there (.there (.there (.there .here)))))))))) rfl (MSub.cons (by first | exact .here | exact (.there .here) | exact (.there (.there .here)) | exact (.there (.there (.there .here))) | exact (.there (.there (.there (.there .here)))) | exact (.there (.there (.there (.there (.there .here))))) | exact (.there (.there (.there (.there (.there (.there .here)))))) | exact (.there (.there (.there (.there (.there (.there (.there .here))))))) | exact (.there (.there (.there (.there (.there (.there (.there (.there .here)))))))) | exact (.there (.there (.there (.there (.there (.there (.there (.there (.there .here)))))))))) rfl (MSub.cons (by first | exact .here | exact (.there .here) | exact (.there (.there .here)) | exact (.there (.there (.there .here))) | exact (.there (.there (.there (.there .here)))) | exact (.there (.there (.there (.there (.there .here))))) | exact (.there (.there (.there (.there (.there (.there .here)))))) | exact (.there (.there (.there (.there (.there (.there (.there .here))))))) | exact (.there (.there (.there (.there (.there (.there (.there (.there .here)))))))) | exact (.there (.there (.there (.there (.there (.there (.there (.there (.there .here)))))))))) rfl (MSub.cons (by first | exact .here | exact (.there .here) | exact (.there (.there .here)) | exact (.there (.there (.there .here))) | exact (.there (.there (.there (.there .here)))) | exact (.there (.there (.there (.there (.there .here))))) | exact (.there (.there (.there (.there (.there (.there .here)))))) | exact (.there (.there (.there (.there (.there (.there (.there .here))))))) | exact (.there (.there (.there (.there (.there (.there (.there (.there .here)))))))) | exact (.there (.there (.there (.there (.there (.there (.there (.there (.there .here)))))))))) rfl .nil))))
      have := hset _ hw
      unfold wNext at this
      exact this

/-- the eight words, one round on -/
structure W8 where
  a : UInt32
  b : UInt32
  c : UInt32
  d : UInt32
  e : UInt32
  f : UInt32
  g : UInt32
  h : UInt32

def W8.t1 (s : W8) (k w : UInt32) : UInt32 :=
  s.h + (rotr s.e 6 ^^^ rotr s.e 11 ^^^ rotr s.e 25) + (s.e &&& s.f ^^^ ~~~ s.e &&& s.g) + k + w
def W8.t2 (s : W8) : UInt32 := (rotr s.a 2 ^^^ rotr s.a 13 ^^^ rotr s.a 22) + (s.a &&& s.b ^^^ s.a &&& s.c ^^^ s.b &&& s.c)
def W8.rnd (s : W8) (k w : UInt32) : W8 := ⟨s.t1 k w + s.t2, s.a, s.b, s.c, s.d + s.t1 k w, s.e, s.f, s.g⟩

def rndS (K W : List UInt32) (s : W8) : Nat → W8
  | 0 => s
  | i + 1 => (rndS K W s i).rnd (K.getD i 0) (W.getD i 0)

attribute [irreducible] W8.t1 W8.t2

theorem block_loop2 {g : Gh} (hg : g.n = 204) (K W : List UInt32) (hK : K.length = 64) (hW : W.length = 64) (s : W8) (br ro bw bs be : Nat) (cr cs ce : List Value) (r1 : Bool) (hr : At cr ro (u32s K)) : ∀ (r i : Nat), i + r = 64 →
    WpL Try.prog g loop72b (fun e env mem => e = .exit 2 ∧ Wk g env mem [(4, .pointer (some ⟨bs, 0, none⟩)), (6, .pointer (some ⟨be, 0, none⟩)),
          (11, u32 (rndS K W s 64).a), (12, u32 (rndS K W s 64).b), (13, u32 (rndS K W s 64).c), (14, u32 (rndS K W s 64).d), (15, u32 (rndS K W s 64).e), (16, u32 (rndS K W s 64).f), (17, u32 (rndS K W s 64).g), (18, u32 (rndS K W s 64).h)]
        [⟨be, ce, true⟩, ⟨bs, cs, true⟩])
      [(0, .pointer (some ⟨br, ro, none⟩)), (4, .pointer (some ⟨bs, 0, none⟩)), (6, .pointer (some ⟨be, 0, none⟩)), (7, .pointer (some ⟨bw, 0, none⟩)), (118, i64 i),
          (11, u32 (rndS K W s i).a), (12, u32 (rndS K W s i).b), (13, u32 (rndS K W s i).c), (14, u32 (rndS K W s i).d), (15, u32 (rndS K W s i).e), (16, u32 (rndS K W s i).f), (17, u32 (rndS K W s i).g), (18, u32 (rndS K W s i).h)]
      [⟨bw, u32s W, true⟩, ⟨be, ce, true⟩, ⟨bs, cs, true⟩, ⟨br, cr, r1⟩] := by
  obtain ⟨gn, w0, may⟩ := g
  obtain rfl : gn = 204 := hg
  intro r
  induction r with
  | zero =>
    intro i hi
    obtain rfl : i = 64 := by omega
    refine WpL.step ?_
    refine Wp.seq ?_
    refine Wp.reg allGen ?_
    refine Tr.lss rfl rfl (by first | with_reducible assumption | exact decide_eq_true (by omega) | exact decide_eq_false (by omega) | exact beq_iff_eq.2 (by omega) | exact beq_eq_false_iff_ne.2 (by omega) | exact bne_iff_ne.2 (by omega) | rfl) rfl trivial rfl ?_
    refine Tr.nil ?_ (fun _ => rfl) (List.Perm.refl _)
    refine Wp.seq ?_
    refine Wp.condF rfl ?_
    refine Wp.exit ?_
    exact ⟨rfl, Wk.mk (by repeat (first | exact ESub.nil | refine ESub.cons rfl (by first | rfl | (simp; done) | (simp; omega)) ?_)) (by repeat (first | exact MSub.nil | refine MSub.cons (by first | exact .here | exact (.there .here) | exact (.there (.there .here)) | exact (.there (.there (.there .here))) | exact (.there (.there (.there (.there .here)))) | exact (.there (.there (.there (.there (.there .here))))) | exact (.there (.there (.there (.there (.there (.there .here)))))) | exact (.there (.there (.there (.there (.there (.there (.there .here))))))) | exact (.there (.there (.there (.there (.there (.there (.there (.there .here)))))))) | exact (.there (.there (.there (.there (.there (.there (.there (.there (.there .here)))))))))) (by first | rfl | (simp; done)) ?_))⟩
  | succ r ih =>
    intro i hi
    have gk := at_get u32 hr 0 (j := i) (by omega) (k := (i : Int)) rfl
    have gw := at_get u32 (At.all (u32s W)) 0 (j := i) (by omega) (k := (i : Int)) rfl
    rw [Nat.zero_add] at gw
    have hs : rndS K W s (i + 1) = (rndS K W s i).rnd (K.getD i 0) (W.getD i 0) := rfl
    have ih' := ih (i + 1) (by omega)
    rw [hs] at ih'
    generalize rndS K W s i = q at ih' ⊢
    simp only [W8.rnd] at ih'
    refine WpL.step ?_
    refine Wp.seq ?_
    refine Wp.reg allGen ?_
    refine Tr.lss rfl rfl (by first | with_reducible assumption | exact decide_eq_true (by omega) | exact decide_eq_false (by omega) | exact beq_iff_eq.2 (by omega) | exact beq_eq_false_iff_ne.2 (by omega) | exact bne_iff_ne.2 (by omega) | rfl) rfl trivial rfl ?_
    refine Tr.nil ?_ (fun _ => rfl) (List.Perm.refl _)
    refine Wp.seq ?_
    refine Wp.condT rfl ?_
    refine Wp.skip ?_
    refine Wp.seq ?_
    refine Wp.block ?_
    refine Wp.seq ?_
    refine Wp.reg allGen ?_
    refine Tr.move rfl rfl trivial rfl ?_
    refine Tr.assign rfl rfl trivial rfl ?_
    refine Tr.nil ?_ (fun _ => rfl) (List.Perm.refl _)
    refine Wp.seq ?_
    refine Wp.regE kindOf mo (by kernel_rfl) ?_
    refine Tr.move rfl rfl trivial rfl ?_
    refine Tr.move rfl rfl trivial rfl ?_
    refine Tr.call rfl (f116_rotr _ 6 (by decide) (by decide)) (by repeat (first | exact Has.nil | refine Has.cons (by first | exact (.head _) | exact (.tail _ (.head _)) | exact (.tail _ (.tail _ (.head _))) | exact (.tail _ (.tail _ (.tail _ (.head _)))) | exact (.tail _ (.tail _ (.tail _ (.tail _ (.head _))))) | exact (.tail _ (.tail _ (.tail _ (.tail _ (.tail _ (.head _)))))) | exact (.tail _ (.tail _ (.tail _ (.tail _ (.tail _ (.tail _ (.head _))))))) | exact (.tail _ (.tail _ (.tail _ (.tail _ (.tail _ (.tail _ (.tail _ (.head _)))))))) | exact (.tail _ (.tail _ (.tail _ (.tail _ (.tail _ (.tail _ (.tail _ (.tail _ (.head _))))))))) | exact (.tail _ (.tail _ (.tail _ (.tail _ (.tail _ (.tail _ (.tail _ (.tail _ (.tail _ (.head _))))))))))) ?_)) rfl trivial rfl ?_
    refine Tr.move rfl rfl trivial rfl ?_
    refine Tr.call rfl (f116_rotr _ 11 (by decide) (by decide)) (by repeat (first | exact Has.nil | refine Has.cons (by first | exact (.head _) | exact (.tail _ (.head _)) | exact (.tail _ (.tail _ (.head _))) | exact (.tail _ (.tail _ (.tail _ (.head _)))) | exact (.tail _ (.tail _ (.tail _ (.tail _ (.head _))))) | exact (.tail _ (.tail _ (.tail _ (.tail _ (.tail _ (.head _)))))) | exact (.tail _ (.tail _ (.tail _ (.tail _ (.tail _ (.tail _ (.head _))))))) | exact (.tail _ (.tail _ (.tail _ (.tail _ (.tail _ (.tail _ (.tail _ (.head _)))))))) | exact (.tail _ (.tail _ (.tail _ (.tail _ (.tail _ (.tail _ (.tail _ (.tail _ (.head _))))))))) | exact (.tail _ (.tail _ (.tail _ (.tail _ (.tail _ (.tail _ (.tail _ (.tail _ (.tail _ (.head _))))))))))) ?_)) rfl trivial rfl ?_
    refine Tr.bxor rfl rfl (by first | exact u32_xor _ _ | rfl) rfl trivial rfl ?_
    refine Tr.move rfl rfl trivial rfl ?_
    refine Tr.call rfl (f116_rotr _ 25 (by decide) (by decide)) (by repeat (first | exact Has.nil | refine Has.cons (by first | exact (.head _) | exact (.tail _ (.head _)) | exact (.tail _ (.tail _ (.head _))) | exact (.tail _ (.tail _ (.tail _ (.head _)))) | exact (.tail _ (.tail _ (.tail _ (.tail _ (.head _))))) | exact (.tail _ (.tail _ (.tail _ (.tail _ (.tail _ (.head _)))))) | exact (.tail _ (.tail _ (.tail _ (.tail _ (.tail _ (.tail _ (.head _))))))) | exact (.tail _ (.tail _ (.tail _ (.tail _ (.tail _ (.tail _ (.tail _ (.head _)))))))) | exact (.tail _ (.tail _ (.tail _ (.tail _ (.tail _ (.tail _ (.tail _ (.tail _ (.head _))))))))) | exact (.tail _ (.tail _ (.tail _ (.tail _ (.tail _ (.tail _ (.tail _ (.tail _ (.tail _ (.head _))))))))))) ?_)) rfl trivial rfl ?_
    refine Tr.bxor rfl rfl (by first | exact u32_xor _ _ | rfl) rfl trivial rfl ?_
    refine Tr.add rfl rfl (by first | exact u32_add _ _ | exact wrap_u32 (by omega) (by omega) | rfl) rfl trivial rfl ?_
    refine Tr.move rfl rfl trivial rfl ?_
    refine Tr.move rfl rfl trivial rfl ?_
    refine Tr.band rfl rfl (by first | exact u32_and _ _ | rfl) rfl trivial rfl ?_
    refine Tr.move rfl rfl trivial rfl ?_
    refine Tr.compl rfl (by first | exact u64_compl _ | exact u32_compl _ | exact u8_compl _ | rfl) rfl trivial rfl ?_
    refine Tr.move rfl rfl trivial rfl ?_
    refine Tr.band rfl rfl (by first | exact u32_and _ _ | rfl) rfl trivial rfl ?_
    refine Tr.bxor rfl rfl (by first | exact u32_xor _ _ | rfl) rfl trivial rfl ?_
    refine Tr.add rfl rfl (by first | exact u32_add _ _ | exact wrap_u32 (by omega) (by omega) | rfl) rfl trivial rfl ?_
    refine Tr.move rfl rfl trivial rfl ?_
    refine Tr.move rfl rfl trivial rfl ?_
    refine Tr.nilCheck rfl rfl trivial rfl ?_
    first | refine Tr.indexAddr01 tab rfl rfl rfl rfl rfl (by omega) (by omega) rfl trivial rfl ?_ | refine Tr.indexAddr1 tab rfl rfl rfl rfl rfl (by omega) (by omega) rfl trivial rfl ?_
    refine Tr.loadS tab rfl rfl rfl (by first | exact (.head _) | exact (.tail _ (.head _)) | exact (.tail _ (.tail _ (.head _))) | exact (.tail _ (.tail _ (.tail _ (.head _)))) | exact (.tail _ (.tail _ (.tail _ (.tail _ (.head _))))) | exact (.tail _ (.tail _ (.tail _ (.tail _ (.tail _ (.head _)))))) | exact (.tail _ (.tail _ (.tail _ (.tail _ (.tail _ (.tail _ (.head _))))))) | exact (.tail _ (.tail _ (.tail _ (.tail _ (.tail _ (.tail _ (.tail _ (.head _)))))))) | exact (.tail _ (.tail _ (.tail _ (.tail _ (.tail _ (.tail _ (.tail _ (.tail _ (.head _))))))))) | exact (.tail _ (.tail _ (.tail _ (.tail _ (.tail _ (.tail _ (.tail _ (.tail _ (.tail _ (.head _))))))))))) (by first | rfl | with_reducible assumption | assumption | (simp; done)) rfl trivial rfl ?_
    refine Tr.add rfl rfl (by first | exact u32_add _ _ | exact wrap_u32 (by omega) (by omega) | rfl) rfl trivial rfl ?_
    refine Tr.move rfl rfl trivial rfl ?_
    first | refine Tr.indexAddr01 tab rfl rfl rfl rfl rfl (by omega) (by omega) rfl trivial rfl ?_ | refine Tr.indexAddr1 tab rfl rfl rfl rfl rfl (by omega) (by omega) rfl trivial rfl ?_
    refine Tr.loadS tab rfl rfl rfl (by first | exact (.head _) | exact (.tail _ (.head _)) | exact (.tail _ (.tail _ (.head _))) | exact (.tail _ (.tail _ (.tail _ (.head _)))) | exact (.tail _ (.tail _ (.tail _ (.tail _ (.head _))))) | exact (.tail _ (.tail _ (.tail _ (.tail _ (.tail _ (.head _)))))) | exact (.tail _ (.tail _ (.tail _ (.tail _ (.tail _ (.tail _ (.head _))))))) | exact (.tail _ (.tail _ (.tail _ (.tail _ (.tail _ (.tail _ (.tail _ (.head _)))))))) | exact (.tail _ (.tail _ (.tail _ (.tail _ (.tail _ (.tail _ (.tail _ (.tail _ (.head _))))))))) | exact (.tail _ (.tail _ (.tail _ (.tail _ (.tail _ (.tail _ (.tail _ (.tail _ (.tail _ (.head _))))))))))) (by first | rfl | with_reducible assumption | assumption | (simp; done)) rfl trivial rfl ?_
    refine Tr.add rfl rfl (by first | exact u32_add _ _ | exact wrap_u32 (by omega) (by omega) | rfl) rfl trivial rfl ?_
    refine Tr.assign rfl rfl trivial rfl ?_
    refine Tr.nil ?_ (fun _ => rfl) (List.Perm.refl _)
    refine Wp.seq ?_
    refine Wp.reg allGen ?_
    refine Tr.move rfl rfl trivial rfl ?_
    refine Tr.call rfl (f116_rotr _ 2 (by decide) (by decide)) (by repeat (first | exact Has.nil | refine Has.cons (by first | exact (.head _) | exact (.tail _ (.head _)) | exact (.tail _ (.tail _ (.head _))) | exact (.tail _ (.tail _ (.tail _ (.head _)))) | exact (.tail _ (.tail _ (.tail _ (.tail _ (.head _))))) | exact (.tail _ (.tail _ (.tail _ (.tail _ (.tail _ (.head _)))))) | exact (.tail _ (.tail _ (.tail _ (.tail _ (.tail _ (.tail _ (.head _))))))) | exact (.tail _ (.tail _ (.tail _ (.tail _ (.tail _ (.tail _ (.tail _ (.head _)))))))) | exact (.tail _ (.tail _ (.tail _ (.tail _ (.tail _ (.tail _ (.tail _ (.tail _ (.head _))))))))) | exact (.tail _ (.tail _ (.tail _ (.tail _ (.tail _ (.tail _ (.tail _ (.tail _ (.tail _ (.head _))))))))))) ?_)) rfl trivial rfl ?_
    refine Tr.move rfl rfl trivial rfl ?_
    refine Tr.call rfl (f116_rotr _ 13 (by decide) (by decide)) (by repeat (first | exact Has.nil | refine Has.cons (by first | exact (.head _) | exact (.tail _ (.head _)) | exact (.tail _ (.tail _ (.head _))) | exact (.tail _ (.tail _ (.tail _ (.head _)))) | exact (.tail _ (.tail _ (.tail _ (.tail _ (.head _))))) | exact (.tail _ (.tail _ (.tail _ (.tail _ (.tail _ (.head _)))))) | exact (.tail _ (.tail _ (.tail _ (.tail _ (.tail _ (.tail _ (.head _))))))) | exact (.tail _ (.tail _ (.tail _ (.tail _ (.tail _ (.tail _ (.tail _ (.head _)))))))) | exact (.tail _ (.tail _ (.tail _ (.tail _ (.tail _ (.tail _ (.tail _ (.tail _ (.head _))))))))) | exact (.tail _ (.tail _ (.tail _ (.tail _ (.tail _ (.tail _ (.tail _ (.tail _ (.tail _ (.head _))))))))))) ?_)) rfl trivial rfl ?_
    refine Tr.bxor rfl rfl (by first | exact u32_xor _ _ | rfl) rfl trivial rfl ?_
    refine Tr.move rfl rfl trivial rfl ?_
    refine Tr.call rfl (f116_rotr _ 22 (by decide) (by decide)) (by repeat (first | exact Has.nil | refine Has.cons (by first | exact (.head _) | exact (.tail _ (.head _)) | exact (.tail _ (.tail _ (.head _))) | exact (.tail _ (.tail _ (.tail _ (.head _)))) | exact (.tail _ (.tail _ (.tail _ (.tail _ (.head _))))) | exact (.tail _ (.tail _ (.tail _ (.tail _ (.tail _ (.head _)))))) | exact (.tail _ (.tail _ (.tail _ (.tail _ (.tail _ (.tail _ (.head _))))))) | exact (.tail _ (.tail _ (.tail _ (.tail _ (.tail _ (.tail _ (.tail _ (.head _)))))))) | exact (.tail _ (.tail _ (.tail _ (.tail _ (.tail _ (.tail _ (.tail _ (.tail _ (.head _))))))))) | exact (.tail _ (.tail _ (.tail _ (.tail _ (.tail _ (.tail _ (.tail _ (.tail _ (.tail _ (.head _))))))))))) ?_)) rfl trivial rfl ?_
    refine Tr.bxor rfl rfl (by first | exact u32_xor _ _ | rfl) rfl trivial rfl ?_
    refine Tr.move rfl rfl trivial rfl ?_
    refine Tr.move rfl rfl trivial rfl ?_
    refine Tr.band rfl rfl (by first | exact u32_and _ _ | rfl) rfl trivial rfl ?_
    refine Tr.move rfl rfl trivial rfl ?_
    refine Tr.move rfl rfl trivial rfl ?_
    refine Tr.band rfl rfl (by first | exact u32_and _ _ | rfl) rfl trivial rfl ?_
    refine Tr.bxor rfl rfl (by first | exact u32_xor _ _ | rfl) rfl trivial rfl ?_
    refine Tr.move rfl rfl trivial rfl ?_
    refine Tr.move rfl rfl trivial rfl ?_
    refine Tr.band rfl rfl (by first | exact u32_and _ _ | rfl) rfl trivial rfl ?_
    refine Tr.bxor rfl rfl (by first | exact u32_xor _ _ | rfl) rfl trivial rfl ?_
    refine Tr.add rfl rfl (by first | exact u32_add _ _ | exact wrap_u32 (by omega) (by omega) | rfl) rfl trivial rfl ?_
    refine Tr.assign rfl rfl trivial rfl ?_
    refine Tr.nil ?_ (fun _ => rfl) (List.Perm.refl _)
    refine Wp.reg allGen ?_
    refine Tr.move rfl rfl trivial rfl ?_
    refine Tr.move rfl rfl trivial rfl ?_
    refine Tr.add rfl rfl (by first | exact u32_add _ _ | exact wrap_u32 (by omega) (by omega) | rfl) rfl trivial rfl ?_
    refine Tr.move rfl rfl trivial rfl ?_
    refine Tr.move rfl rfl trivial rfl ?_
    refine Tr.move rfl rfl trivial rfl ?_
    refine Tr.move rfl rfl trivial rfl ?_
    refine Tr.move rfl rfl trivial rfl ?_
    refine Tr.add rfl rfl (by first | exact u32_add _ _ | exact wrap_u32 (by omega) (by omega) | rfl) rfl trivial rfl ?_
    refine Tr.move rfl rfl trivial rfl ?_
    refine Tr.move rfl rfl trivial rfl ?_
    refine Tr.move rfl rfl trivial rfl ?_
    refine Tr.assign rfl rfl trivial rfl ?_
    refine Tr.assign rfl rfl trivial rfl ?_
    refine Tr.assign rfl rfl trivial rfl ?_
    refine Tr.assign rfl rfl trivial rfl ?_
    refine Tr.assign rfl rfl trivial rfl ?_
    refine Tr.assign rfl rfl trivial rfl ?_
    refine Tr.assign rfl rfl trivial rfl ?_
    refine Tr.assign rfl rfl trivial rfl ?_
    refine Tr.nil ?_ (fun _ => rfl) (List.Perm.refl _)
    refine Wp.reg allGen ?_
    refine Tr.add rfl rfl (by first | exact wrap_i64 (by omega) (by omega) | rfl) rfl trivial rfl ?_
    refine Tr.move rfl rfl trivial rfl ?_
    refine Tr.nil ?_ (fun _ => rfl) (List.Perm.refl _)
    unfold W8.t1 W8.t2 at ih'
    refine WpL.weak ih' (Wk.mk (by repeat (first | exact ESub.nil | refine ESub.cons rfl (by first | rfl | (simp; done) | (simp; omega)) ?_)) (by repeat (first | exact MSub.nil | refine MSub.cons (by first | exact .here | exact (.there .here) | exact (.there (.there .here)) | exact (.there (.there (.there .here))) | exact (.there (.there (.there (.there .here)))) | exact (.there (.there (.there (.there (.there .here))))) | exact (.there (.there (.there (.there (.there (.there .here)))))) | exact (.there (.there (.there (.there (.there (.there (.there .here))))))) | exact (.there (.there (.there (.there (.there (.there (.there (.there .here)))))))) | exact (.there (.there (.there (.there (.there (.there (.there (.there (.there .here)))))))))) (by first | rfl | (simp; done)) ?_)))

/-- a block more -/
def blockS (K : List UInt32) (st : W8) (d : List UInt8) : W8 :=
  let q := rndS K (wS d 64) st 64
  ⟨st.a + q.a, st.b + q.b, st.c + q.c, st.d + q.d, st.e + q.e, st.f + q.f, st.g + q.g, st.h + q.h⟩

def W8.l (s : W8) : List UInt32 := [s.a, s.b, s.c, s.d, s.e, s.f, s.g, s.h]

theorem f72_block (K : List UInt32) (hK : K.length = 64) (st : W8) (d : List UInt8) (hd : d.length = 64) (br ro bb bo cp : Nat) (cr cb : List Value) (hr : At cr ro (u32s K)) (hb : At cb bo (u8s d)) :
    FnR Try.prog 72 [.pointer (some ⟨br, ro, none⟩), .agg (u32s st.l).toArray, .slice (some ⟨bb, bo, none⟩) 64 cp] [⟨br, cr, false⟩, ⟨bb, cb, false⟩] (.agg (u32s (blockS K st d).l).toArray) := by
  have hwl := wS_len d 64
  refine fnR_of 204 rfl Try.func72 rfl (by kernel_rfl) rfl (by simp) fun w => ?_
  refine Wp.seq ?_
  refine Wp.reg allGen ?_
  refine Tr.boxA rfl rfl trivial rfl (fun B4 _ => ?_)
  refine Tr.alloc tab rfl rfl trivial rfl (fun B6 _ => ?_)
  refine Tr.nil ?_ (fun _ => rfl) (List.Perm.refl _)
  refine Wp.seq ?_
  refine Wp.reg allGen ?_
  refine Tr.alloc tab rfl rfl trivial rfl (fun B7 _ => ?_)
  refine Tr.nil ?_ (fun _ => rfl) (List.Perm.refl _)
  refine Wp.seq ?_
  refine Wp.seq ?_
  refine Wp.reg allGen ?_
  refine Tr.move rfl rfl trivial rfl ?_
  refine Tr.nil ?_ (fun _ => rfl) (List.Perm.refl _)
  refine Wp.block ?_
  refine Wp.loopQ (block_loop1 rfl d hd _ br bb bo cp _ _ _ cr cb _ _ false false hb 64 0 rfl) (Wk.mk (by repeat (first | exact ESub.nil | refine ESub.cons rfl (by first | rfl | (simp; done) | (simp; omega)) ?_)) (by repeat (first | exact MSub.nil | refine MSub.cons (by first | exact .here | exact (.there .here) | exact (.there (.there .here)) | exact (.there (.there (.there .here))) | exact (.there (.there (.there (.there .here)))) | exact (.there (.there (.there (.there (.there .here))))) | exact (.there (.there (.there (.there (.there (.there .here)))))) | exact (.there (.there (.there (.there (.there (.there (.there .here))))))) | exact (.there (.there (.there (.there (.there (.there (.there (.there .here)))))))) | exact (.there (.there (.there (.there (.there (.there (.there (.there (.there .here)))))))))) (by first | rfl | (simp; done)) ?_))) ?_
  rintro _ env1 mem1 ⟨rfl, hk1⟩
  refine Wp.weak ?_ hk1
  refine Wp.seq ?_
  refine Wp.regE kindOf mo (by kernel_rfl) ?_
  first | refine Tr.indexAddr01 tab rfl rfl rfl rfl rfl (by omega) (by omega) rfl trivial rfl ?_ | refine Tr.indexAddr1 tab rfl rfl rfl rfl rfl (by omega) (by omega) rfl trivial rfl ?_
  refine Tr.loadS tab rfl rfl rfl (by first | exact (.head _) | exact (.tail _ (.head _)) | exact (.tail _ (.tail _ (.head _))) | exact (.tail _ (.tail _ (.tail _ (.head _)))) | exact (.tail _ (.tail _ (.tail _ (.tail _ (.head _))))) | exact (.tail _ (.tail _ (.tail _ (.tail _ (.tail _ (.head _)))))) | exact (.tail _ (.tail _ (.tail _ (.tail _ (.tail _ (.tail _ (.head _))))))) | exact (.tail _ (.tail _ (.tail _ (.tail _ (.tail _ (.tail _ (.tail _ (.head _)))))))) | exact (.tail _ (.tail _ (.tail _ (.tail _ (.tail _ (.tail _ (.tail _ (.tail _ (.head _))))))))) | exact (.tail _ (.tail _ (.tail _ (.tail _ (.tail _ (.tail _ (.tail _ (.tail _ (.tail _ (.head _))))))))))) (by first | rfl | with_reducible assumption | assumption | (simp; done)) rfl trivial rfl ?_
  first | refine Tr.indexAddr01 tab rfl rfl rfl rfl rfl (by omega) (by omega) rfl trivial rfl ?_ | refine Tr.indexAddr1 tab rfl rfl rfl rfl rfl (by omega) (by omega) rfl trivial rfl ?_
  refine Tr.loadS tab rfl rfl rfl (by first | exact (.head _) | exact (.tail _ (.head _)) | exact (.tail _ (.tail _ (.head _))) | exact (.tail _ (.tail _ (.tail _ (.head _)))) | exact (.tail _ (.tail _ (.tail _ (.tail _ (.head _))))) | exact (.tail _ (.tail _ (.tail _ (.tail _ (.tail _ (.head _)))))) | exact (.tail _ (.tail _ (.tail _ (.tail _ (.tail _ (.tail _ (.head _))))))) | exact (.tail _ (.tail _ (.tail _ (.tail _ (.tail _ (.tail _ (.tail _ (.head _)))))))) | exact (.tail _ (.tail _ (.tail _ (.tail _ (.tail _ (.tail _ (.tail _ (.tail _ (.head _))))))))) | exact (.tail _ (.tail _ (.tail _ (.tail _ (.tail _ (.tail _ (.tail _ (.tail _ (.tail _ (.head _))))))))))) (by first | rfl | with_reducible assumption | assumption | (simp; done)) rfl trivial rfl ?_
  first | refine Tr.indexAddr01 tab rfl rfl rfl rfl rfl (by omega) (by omega) rfl trivial rfl ?_ | refine Tr.indexAddr1 tab rfl rfl rfl rfl rfl (by omega) (by omega) rfl trivial rfl ?_
  refine Tr.loadS tab rfl rfl rfl (by first | exact (.head _) | exact (.tail _ (.head _)) | exact (.tail _ (.tail _ (.head _))) | exact (.tail _ (.tail _ (.tail _ (.head _)))) | exact (.tail _ (.tail _ (.tail _ (.tail _ (.head _))))) | exact (.tail _ (.tail _ (.tail _ (.tail _ (.tail _ (.head _)))))) | exact (.tail _ (.tail _ (.tail _ (.tail _ (.tail _ (.tail _ (.head _))))))) | exact (.tail _ (.tail _ (.tail _ (.tail _ (.tail _ (.tail _ (.tail _ (.head _)))))))) | exact (.tail _ (.tail _ (.tail _ (.tail _ (.tail _ (.tail _ (.tail _ (.tail _ (.head _))))))))) | exact (.tail _ (.tail _ (.tail _ (.tail _ (.tail _ (.tail _ (.tail _ (.tail _ (.tail _ (.head _))))))))))) (by first | rfl | with_reducible assumption | assumption | (simp; done)) rfl trivial rfl ?_
  first | refine Tr.indexAddr01 tab rfl rfl rfl rfl rfl (by omega) (by omega) rfl trivial rfl ?_ | refine Tr.indexAddr1 tab rfl rfl rfl rfl rfl (by omega) (by omega) rfl trivial rfl ?_
  refine Tr.loadS tab rfl rfl rfl (by first | exact (.head _) | exact (.tail _ (.head _)) | exact (.tail _ (.tail _ (.head _))) | exact (.tail _ (.tail _ (.tail _ (.head _)))) | exact (.tail _ (.tail _ (.tail _ (.tail _ (.head _))))) | exact (.tail _ (.tail _ (.tail _ (.tail _ (.tail _ (.head _)))))) | exact (.tail _ (.tail _ (.tail _ (.tail _ (.tail _ (.tail _ (.head _))))))) | exact (.tail _ (.tail _ (.tail _ (.tail _ (.tail _ (.tail _ (.tail _ (.head _)))))))) | exact (.tail _ (.tail _ (.tail _ (.tail _ (.tail _ (.tail _ (.tail _ (.tail _ (.head _))))))))) | exact (.tail _ (.tail _ (.tail _ (.tail _ (.tail _ (.tail _ (.tail _ (.tail _ (.tail _ (.head _))))))))))) (by first | rfl | with_reducible assumption | assumption | (simp; done)) rfl trivial rfl ?_
  first | refine Tr.indexAddr01 tab rfl rfl rfl rfl rfl (by omega) (by omega) rfl trivial rfl ?_ | refine Tr.indexAddr1 tab rfl rfl rfl rfl rfl (by omega) (by omega) rfl trivial rfl ?_
  refine Tr.loadS tab rfl rfl rfl (by first | exact (.head _) | exact (.tail _ (.head _)) | exact (.tail _ (.tail _ (.head _))) | exact (.tail _ (.tail _ (.tail _ (.head _)))) | exact (.tail _ (.tail _ (.tail _ (.tail _ (.head _))))) | exact (.tail _ (.tail _ (.tail _ (.tail _ (.tail _ (.head _)))))) | exact (.tail _ (.tail _ (.tail _ (.tail _ (.tail _ (.tail _ (.head _))))))) | exact (.tail _ (.tail _ (.tail _ (.tail _ (.tail _ (.tail _ (.tail _ (.head _)))))))) | exact (.tail _ (.tail _ (.tail _ (.tail _ (.tail _ (.tail _ (.tail _ (.tail _ (.head _))))))))) | exact (.tail _ (.tail _ (.tail _ (.tail _ (.tail _ (.tail _ (.tail _ (.tail _ (.tail _ (.head _))))))))))) (by first | rfl | with_reducible assumption | assumption | (simp; done)) rfl trivial rfl ?_
  first | refine Tr.indexAddr01 tab rfl rfl rfl rfl rfl (by omega) (by omega) rfl trivial rfl ?_ | refine Tr.indexAddr1 tab rfl rfl rfl rfl rfl (by omega) (by omega) rfl trivial rfl ?_
  refine Tr.loadS tab rfl rfl rfl (by first | exact (.head _) | exact (.tail _ (.head _)) | exact (.tail _ (.tail _ (.head _))) | exact (.tail _ (.tail _ (.tail _ (.head _)))) | exact (.tail _ (.tail _ (.tail _ (.tail _ (.head _))))) | exact (.tail _ (.tail _ (.tail _ (.tail _ (.tail _ (.head _)))))) | exact (.tail _ (.tail _ (.tail _ (.tail _ (.tail _ (.tail _ (.head _))))))) | exact (.tail _ (.tail _ (.tail _ (.tail _ (.tail _ (.tail _ (.tail _ (.head _)))))))) | exact (.tail _ (.tail _ (.tail _ (.tail _ (.tail _ (.tail _ (.tail _ (.tail _ (.head _))))))))) | exact (.tail _ (.tail _ (.tail _ (.tail _ (.tail _ (.tail _ (.tail _ (.tail _ (.tail _ (.head _))))))))))) (by first | rfl | with_reducible assumption | assumption | (simp; done)) rfl trivial rfl ?_
  first | refine Tr.indexAddr01 tab rfl rfl rfl rfl rfl (by omega) (by omega) rfl trivial rfl ?_ | refine Tr.indexAddr1 tab rfl rfl rfl rfl rfl (by omega) (by omega) rfl trivial rfl ?_
  refine Tr.loadS tab rfl rfl rfl (by first | exact (.head _) | exact (.tail _ (.head _)) | exact (.tail _ (.tail _ (.head _))) | exact (.tail _ (.tail _ (.tail _ (.head _)))) | exact (.tail _ (.tail _ (.tail _ (.tail _ (.head _))))) | exact (.tail _ (.tail _ (.tail _ (.tail _ (.tail _ (.head _)))))) | exact (.tail _ (.tail _ (.tail _ (.tail _ (.tail _ (.tail _ (.head _))))))) | exact (.tail _ (.tail _ (.tail _ (.tail _ (.tail _ (.tail _ (.tail _ (.head _)))))))) | exact (.tail _ (.tail _ (.tail _ (.tail _ (.tail _ (.tail _ (.tail _ (.tail _ (.head _))))))))) | exact (.tail _ (.tail _ (.tail _ (.tail _ (.tail _ (.tail _ (.tail _ (.tail _ (.tail _ (.head _))))))))))) (by first | rfl | with_reducible assumption | assumption | (simp; done)) rfl trivial rfl ?_
  first | refine Tr.indexAddr01 tab rfl rfl rfl rfl rfl (by omega) (by omega) rfl trivial rfl ?_ | refine Tr.indexAddr1 tab rfl rfl rfl rfl rfl (by omega) (by omega) rfl trivial rfl ?_
  refine Tr.loadS tab rfl rfl rfl (by first | exact (.head _) | exact (.tail _ (.head _)) | exact (.tail _ (.tail _ (.head _))) | exact (.tail _ (.tail _ (.tail _ (.head _)))) | exact (.tail _ (.tail _ (.tail _ (.tail _ (.head _))))) | exact (.tail _ (.tail _ (.tail _ (.tail _ (.tail _ (.head _)))))) | exact (.tail _ (.tail _ (.tail _ (.tail _ (.tail _ (.tail _ (.head _))))))) | exact (.tail _ (.tail _ (.tail _ (.tail _ (.tail _ (.tail _ (.tail _ (.head _)))))))) | exact (.tail _ (.tail _ (.tail _ (.tail _ (.tail _ (.tail _ (.tail _ (.tail _ (.head _))))))))) | exact (.tail _ (.tail _ (.tail _ (.tail _ (.tail _ (.tail _ (.tail _ (.tail _ (.tail _ (.head _))))))))))) (by first | rfl | with_reducible assumption | assumption | (simp; done)) rfl trivial rfl ?_
  refine Tr.assign rfl rfl trivial rfl ?_
  refine Tr.assign rfl rfl trivial rfl ?_
  refine Tr.assign rfl rfl trivial rfl ?_
  refine Tr.assign rfl rfl trivial rfl ?_
  refine Tr.assign rfl rfl trivial rfl ?_
  refine Tr.assign rfl rfl trivial rfl ?_
  refine Tr.assign rfl rfl trivial rfl ?_
  refine Tr.assign rfl rfl trivial rfl ?_
  refine Tr.nil ?_ (fun _ => rfl) (List.Perm.refl _)
  refine Wp.seq ?_
  refine Wp.seq ?_
  refine Wp.reg allGen ?_
  refine Tr.move rfl rfl trivial rfl ?_
  refine Tr.nil ?_ (fun _ => rfl) (List.Perm.refl _)
  refine Wp.block ?_
  refine Wp.loopQ (block_loop2 rfl K (wS d 64) hK hwl st br ro _ _ _ cr _ _ false hr 64 0 rfl) (Wk.mk (by repeat (first | exact ESub.nil | refine ESub.cons rfl (by first | rfl | (simp; done) | (simp; omega)) ?_)) (by repeat (first | exact MSub.nil | refine MSub.cons (by first | exact .here | exact (.there .here) | exact (.there (.there .here)) | exact (.there (.there (.there .here))) | exact (.there (.there (.there (.there .here)))) | exact (.there (.there (.there (.there (.there .here))))) | exact (.there (.there (.there (.there (.there (.there .here)))))) | exact (.there (.there (.there (.there (.there (.there (.there .here))))))) | exact (.there (.there (.there (.there (.there (.there (.there (.there .here)))))))) | exact (.there (.there (.there (.there (.there (.there (.there (.there (.there .here)))))))))) (by first | rfl | (simp; done)) ?_))) ?_
  rintro _ env2 mem2 ⟨rfl, hk2⟩
  refine Wp.weak ?_ hk2
  refine Wp.seq ?_
  refine Wp.seq ?_
  refine Wp.reg allGen ?_
  refine Tr.move rfl rfl trivial rfl ?_
  refine Tr.move rfl rfl trivial rfl ?_
  refine Tr.move rfl rfl trivial rfl ?_
  refine Tr.move rfl rfl trivial rfl ?_
  refine Tr.move rfl rfl trivial rfl ?_
  refine Tr.move rfl rfl trivial rfl ?_
  refine Tr.move rfl rfl trivial rfl ?_
  refine Tr.move rfl rfl trivial rfl ?_
  refine Tr.buildA tab rfl rfl rfl rfl (by simp [fillC, splice, vcells, Value.cells, zrep_one]; rfl) rfl trivial rfl ?_
  refine Tr.move rfl rfl trivial rfl ?_
  refine Tr.nil ?_ (fun _ => rfl) (List.Perm.refl _)
  refine Wp.block ?_
  refine Wp.loopL ?_
  refine WpL.step ?_
  refine Wp.seq ?_
  refine Wp.reg allGen ?_
  refine Tr.lss rfl rfl (by first | with_reducible assumption | exact decide_eq_true (by omega) | exact decide_eq_false (by omega) | exact beq_iff_eq.2 (by omega) | exact beq_eq_false_iff_ne.2 (by omega) | exact bne_iff_ne.2 (by omega) | rfl) rfl trivial rfl ?_
  refine Tr.nil ?_ (fun _ => rfl) (List.Perm.refl _)
  refine Wp.seq ?_
  refine Wp.condT rfl ?_
  refine Wp.skip ?_
  refine Wp.seq ?_
  refine Wp.block ?_
  refine Wp.seq ?_
  refine Wp.reg allGen ?_
  refine Tr.move rfl rfl trivial rfl ?_
  refine Tr.indexS tab rfl rfl rfl rfl rfl rfl rfl (by omega) (by omega) rfl rfl trivial rfl ?_
  refine Tr.assign rfl rfl trivial rfl ?_
  refine Tr.assign rfl rfl trivial rfl ?_
  refine Tr.nil ?_ (fun _ => rfl) (List.Perm.refl _)
  refine Wp.reg allGen ?_
  refine Tr.move rfl rfl trivial rfl ?_
  first | refine Tr.indexAddr01 tab rfl rfl rfl rfl rfl (by omega) (by omega) rfl trivial rfl ?_ | refine Tr.indexAddr1 tab rfl rfl rfl rfl rfl (by omega) (by omega) rfl trivial rfl ?_
  refine Tr.loadS tab rfl rfl rfl (by first | exact (.head _) | exact (.tail _ (.head _)) | exact (.tail _ (.tail _ (.head _))) | exact (.tail _ (.tail _ (.tail _ (.head _)))) | exact (.tail _ (.tail _ (.tail _ (.tail _ (.head _))))) | exact (.tail _ (.tail _ (.tail _ (.tail _ (.tail _ (.head _)))))) | exact (.tail _ (.tail _ (.tail _ (.tail _ (.tail _ (.tail _ (.head _))))))) | exact (.tail _ (.tail _ (.tail _ (.tail _ (.tail _ (.tail _ (.tail _ (.head _)))))))) | exact (.tail _ (.tail _ (.tail _ (.tail _ (.tail _ (.tail _ (.tail _ (.tail _ (.head _))))))))) | exact (.tail _ (.tail _ (.tail _ (.tail _ (.tail _ (.tail _ (.tail _ (.tail _ (.tail _ (.head _))))))))))) (by first | rfl | with_reducible assumption | assumption | (simp; done)) rfl trivial rfl ?_
  refine Tr.move rfl rfl trivial rfl ?_
  refine Tr.add rfl rfl (by first | exact u32_add _ _ | exact wrap_u32 (by omega) (by omega) | rfl) rfl trivial rfl ?_
  first | refine Tr.indexAddr01 tab rfl rfl rfl rfl rfl (by omega) (by omega) rfl trivial rfl ?_ | refine Tr.indexAddr1 tab rfl rfl rfl rfl rfl (by omega) (by omega) rfl trivial rfl ?_
  refine Tr.storeS tab rfl rfl rfl rfl (by first | exact .here | exact (.there .here) | exact (.there (.there .here)) | exact (.there (.there (.there .here))) | exact (.there (.there (.there (.there .here)))) | exact (.there (.there (.there (.there (.there .here))))) | exact (.there (.there (.there (.there (.there (.there .here)))))) | exact (.there (.there (.there (.there (.there (.there (.there .here))))))) | exact (.there (.there (.there (.there (.there (.there (.there (.there .here)))))))) | exact (.there (.there (.there (.there (.there (.there (.there (.there (.there .here)))))))))) (by first | decide | (simp; done) | (simp; omega) | exact Nat.le_of_ble_eq_true rfl) trivial rfl ?_
  refine Tr.nil ?_ (fun _ => rfl) (List.Perm.refl _)
  refine Wp.reg allGen ?_
  refine Tr.add rfl rfl (by first | exact wrap_i64 (by omega) (by omega) | rfl) rfl trivial rfl ?_
  refine Tr.move rfl rfl trivial rfl ?_
  refine Tr.nil ?_ (fun _ => rfl) (List.Perm.refl _)
  refine WpL.step ?_
  refine Wp.seq ?_
  refine Wp.reg allGen ?_
  refine Tr.lss rfl rfl (by first | with_reducible assumption | exact decide_eq_true (by omega) | exact decide_eq_false (by omega) | exact beq_iff_eq.2 (by omega) | exact beq_eq_false_iff_ne.2 (by omega) | exact bne_iff_ne.2 (by omega) | rfl) rfl trivial rfl ?_
  refine Tr.nil ?_ (fun _ => rfl) (List.Perm.refl _)
  refine Wp.seq ?_
  refine Wp.condT rfl ?_
  refine Wp.skip ?_
  refine Wp.seq ?_
  refine Wp.block ?_
  refine Wp.seq ?_
  refine Wp.reg allGen ?_
  refine Tr.move rfl rfl trivial rfl ?_
  refine Tr.indexS tab rfl rfl rfl rfl rfl rfl rfl (by omega) (by omega) rfl rfl trivial rfl ?_
  refine Tr.assign rfl rfl trivial rfl ?_
  refine Tr.assign rfl rfl trivial rfl ?_
  refine Tr.nil ?_ (fun _ => rfl) (List.Perm.refl _)
  refine Wp.reg allGen ?_
  refine Tr.move rfl rfl trivial rfl ?_
  first | refine Tr.indexAddr01 tab rfl rfl rfl rfl rfl (by omega) (by omega) rfl trivial rfl ?_ | refine Tr.indexAddr1 tab rfl rfl rfl rfl rfl (by omega) (by omega) rfl trivial rfl ?_
  refine Tr.loadS tab rfl rfl rfl (by first | exact (.head _) | exact (.tail _ (.head _)) | exact (.tail _ (.tail _ (.head _))) | exact (.tail _ (.tail _ (.tail _ (.head _)))) | exact (.tail _ (.tail _ (.tail _ (.tail _ (.head _))))) | exact (.tail _ (.tail _ (.tail _ (.tail _ (.tail _ (.head _)))))) | exact (.tail _ (.tail _ (.tail _ (.tail _ (.tail _ (.tail _ (.head _))))))) | exact (.tail _ (.tail _ (.tail _ (.tail _ (.tail _ (.tail _ (.tail _ (.head _)))))))) | exact (.tail _ (.tail _ (.tail _ (.tail _ (.tail _ (.tail _ (.tail _ (.tail _ (.head _))))))))) | exact (.tail _ (.tail _ (.tail _ (.tail _ (.tail _ (.tail _ (.tail _ (.tail _ (.tail _ (.head _))))))))))) (by first | rfl | with_reducible assumption | assumption | (simp; done)) rfl trivial rfl ?_
  refine Tr.move rfl rfl trivial rfl ?_
  refine Tr.add rfl rfl (by first | exact u32_add _ _ | exact wrap_u32 (by omega) (by omega) | rfl) rfl trivial rfl ?_
  first | refine Tr.indexAddr01 tab rfl rfl rfl rfl rfl (by omega) (by omega) rfl trivial rfl ?_ | refine Tr.indexAddr1 tab rfl rfl rfl rfl rfl (by omega) (by omega) rfl trivial rfl ?_
  refine Tr.storeS tab rfl rfl rfl rfl (by first | exact .here | exact (.there .here) | exact (.there (.there .here)) | exact (.there (.there (.there .here))) | exact (.there (.there (.there (.there .here)))) | exact (.there (.there (.there (.there (.there .here))))) | exact (.there (.there (.there (.there (.there (.there .here)))))) | exact (.there (.there (.there (.there (.there (.there (.there .here))))))) | exact (.there (.there (.there (.there (.there (.there (.there (.there .here)))))))) | exact (.there (.there (.there (.there (.there (.there (.there (.there (.there .here)))))))))) (by first | decide | (simp; done) | (simp; omega) | exact Nat.le_of_ble_eq_true rfl) trivial rfl ?_
  refine Tr.nil ?_ (fun _ => rfl) (List.Perm.refl _)
  refine Wp.reg allGen ?_
  refine Tr.add rfl rfl (by first | exact wrap_i64 (by omega) (by omega) | rfl) rfl trivial rfl ?_
  refine Tr.move rfl rfl trivial rfl ?_
  refine Tr.nil ?_ (fun _ => rfl) (List.Perm.refl _)
  refine WpL.step ?_
  refine Wp.seq ?_
  refine Wp.reg allGen ?_
  refine Tr.lss rfl rfl (by first | with_reducible assumption | exact decide_eq_true (by omega) | exact decide_eq_false (by omega) | exact beq_iff_eq.2 (by omega) | exact beq_eq_false_iff_ne.2 (by omega) | exact bne_iff_ne.2 (by omega) | rfl) rfl trivial rfl ?_
  refine Tr.nil ?_ (fun _ => rfl) (List.Perm.refl _)
  refine Wp.seq ?_
  refine Wp.condT rfl ?_
  refine Wp.skip ?_
  refine Wp.seq ?_
  refine Wp.block ?_
  refine Wp.seq ?_
  refine Wp.reg allGen ?_
  refine Tr.move rfl rfl trivial rfl ?_
  refine Tr.indexS tab rfl rfl rfl rfl rfl rfl rfl (by omega) (by omega) rfl rfl trivial rfl ?_
  refine Tr.assign rfl rfl trivial rfl ?_
  refine Tr.assign rfl rfl trivial rfl ?_
  refine Tr.nil ?_ (fun _ => rfl) (List.Perm.refl _)
  refine Wp.reg allGen ?_
  refine Tr.move rfl rfl trivial rfl ?_
  first | refine Tr.indexAddr01 tab rfl rfl rfl rfl rfl (by omega) (by omega) rfl trivial rfl ?_ | refine Tr.indexAddr1 tab rfl rfl rfl rfl rfl (by omega) (by omega) rfl trivial rfl ?_
  refine Tr.loadS tab rfl rfl rfl (by first | exact (.head _) | exact (.tail _ (.head _)) | exact (.tail _ (.tail _ (.head _))) | exact (.tail _ (.tail _ (.tail _ (.head _)))) | exact (.tail _ (.tail _ (.tail _ (.tail _ (.head _))))) | exact (.tail _ (.tail _ (.tail _ (.tail _ (.tail _ (.head _)))))) | exact (.tail _ (.tail _ (.tail _ (.tail _ (.tail _ (.tail _ (.head _))))))) | exact (.tail _ (.tail _ (.tail _ (.tail _ (.tail _ (.tail _ (.tail _ (.head _)))))))) | exact (.tail _ (.tail _ (.tail _ (.tail _ (.tail _ (.tail _ (.tail _ (.tail _ (.head _))))))))) | exact (.tail _ (.tail _ (.tail _ (.tail _ (.tail _ (.tail _ (.tail _ (.tail _ (.tail _ (.head _))))))))))) (by first | rfl | with_reducible assumption | assumption | (simp; done)) rfl trivial rfl ?_
  refine Tr.move rfl rfl trivial rfl ?_
  refine Tr.add rfl rfl (by first | exact u32_add _ _ | exact wrap_u32 (by omega) (by omega) | rfl) rfl trivial rfl ?_
  first | refine Tr.indexAddr01 tab rfl rfl rfl rfl rfl (by omega) (by omega) rfl trivial rfl ?_ | refine Tr.indexAddr1 tab rfl rfl rfl rfl rfl (by omega) (by omega) rfl trivial rfl ?_
  refine Tr.storeS tab rfl rfl rfl rfl (by first | exact .here | exact (.there .here) | exact (.there (.there .here)) | exact (.there (.there (.there .here))) | exact (.there (.there (.there (.there .here)))) | exact (.there (.there (.there (.there (.there .here))))) | exact (.there (.there (.there (.there (.there (.there .here)))))) | exact (.there (.there (.there (.there (.there (.there (.there .here))))))) | exact (.there (.there (.there (.there (.there (.there (.there (.there .here)))))))) | exact (.there (.there (.there (.there (.there (.there (.there (.there (.there .here)))))))))) (by first | decide | (simp; done) | (simp; omega) | exact Nat.le_of_ble_eq_true rfl) trivial rfl ?_
  refine Tr.nil ?_ (fun _ => rfl) (List.Perm.refl _)
  refine Wp.reg allGen ?_
  refine Tr.add rfl rfl (by first | exact wrap_i64 (by omega) (by omega) | rfl) rfl trivial rfl ?_
  refine Tr.move rfl rfl trivial rfl ?_
  refine Tr.nil ?_ (fun _ => rfl) (List.Perm.refl _)
  refine WpL.step ?_
  refine Wp.seq ?_
  refine Wp.reg allGen ?_
  refine Tr.lss rfl rfl (by first | with_reducible assumption | exact decide_eq_true (by omega) | exact decide_eq_false (by omega) | exact beq_iff_eq.2 (by omega) | exact beq_eq_false_iff_ne.2 (by omega) | exact bne_iff_ne.2 (by omega) | rfl) rfl trivial rfl ?_
  refine Tr.nil ?_ (fun _ => rfl) (List.Perm.refl _)
  refine Wp.seq ?_
  refine Wp.condT rfl ?_
  refine Wp.skip ?_
  refine Wp.seq ?_
  refine Wp.block ?_
  refine Wp.seq ?_
  refine Wp.reg allGen ?_
  refine Tr.move rfl rfl trivial rfl ?_
  refine Tr.indexS tab rfl rfl rfl rfl rfl rfl rfl (by omega) (by omega) rfl rfl trivial rfl ?_
  refine Tr.assign rfl rfl trivial rfl ?_
  refine Tr.assign rfl rfl trivial rfl ?_
  refine Tr.nil ?_ (fun _ => rfl) (List.Perm.refl _)
  refine Wp.reg allGen ?_
  refine Tr.move rfl rfl trivial rfl ?_
  first | refine Tr.indexAddr01 tab rfl rfl rfl rfl rfl (by omega) (by omega) rfl trivial rfl ?_ | refine Tr.indexAddr1 tab rfl rfl rfl rfl rfl (by omega) (by omega) rfl trivial rfl ?_
  refine Tr.loadS tab rfl rfl rfl (by first | exact (.head _) | exact (.tail _ (.head _)) | exact (.tail _ (.tail _ (.head _))) | exact (.tail _ (.tail _ (.tail _ (.head _)))) | exact (.tail _ (.tail _ (.tail _ (.tail _ (.head _))))) | exact (.tail _ (.tail _ (.tail _ (.tail _ (.tail _ (.head _)))))) | exact (.tail _ (.tail _ (.tail _ (.tail _ (.tail _ (.tail _ (.head _))))))) | exact (.tail _ (.tail _ (.tail _ (.tail _ (.tail _ (.tail _ (.tail _ (.head _)))))))) | exact (.tail _ (.tail _ (.tail _ (.tail _ (.tail _ (.tail _ (.tail _ (.tail _ (.head _))))))))) | exact (.tail _ (.tail _ (.tail _ (.tail _ (.tail _ (.tail _ (.tail _ (.tail _ (.tail _ (.head _))))))))))) (by first | rfl | with_reducible assumption | assumption | (simp; done)) rfl trivial rfl ?_
  refine Tr.move rfl rfl trivial rfl ?_
  refine Tr.add rfl rfl (by first | exact u32_add _ _ | exact wrap_u32 (by omega) (by omega) | rfl) rfl trivial rfl ?_
  first | refine Tr.indexAddr01 tab rfl rfl rfl rfl rfl (by omega) (by omega) rfl trivial rfl ?_ | refine Tr.indexAddr1 tab rfl rfl rfl rfl rfl (by omega) (by omega) rfl trivial rfl ?_
  refine Tr.storeS tab rfl rfl rfl rfl (by first | exact .here | exact (.there .here) | exact (.there (.there .here)) | exact (.there (.there (.there .here))) | exact (.there (.there (.there (.there .here)))) | exact (.there (.there (.there (.there (.there .here))))) | exact (.there (.there (.there (.there (.there (.there .here)))))) | exact (.there (.there (.there (.there (.there (.there (.there .here))))))) | exact (.there (.there (.there (.there (.there (.there (.there (.there .here)))))))) | exact (.there (.there (.there (.there (.there (.there (.there (.there (.there .here)))))))))) (by first | decide | (simp; done) | (simp; omega) | exact Nat.le_of_ble_eq_true rfl) trivial rfl ?_
  refine Tr.nil ?_ (fun _ => rfl) (List.Perm.refl _)
  refine Wp.reg allGen ?_
  refine Tr.add rfl rfl (by first | exact wrap_i64 (by omega) (by omega) | rfl) rfl trivial rfl ?_
  refine Tr.move rfl rfl trivial rfl ?_
  refine Tr.nil ?_ (fun _ => rfl) (List.Perm.refl _)
  refine WpL.step ?_
  refine Wp.seq ?_
  refine Wp.reg allGen ?_
  refine Tr.lss rfl rfl (by first | with_reducible assumption | exact decide_eq_true (by omega) | exact decide_eq_false (by omega) | exact beq_iff_eq.2 (by omega) | exact beq_eq_false_iff_ne.2 (by omega) | exact bne_iff_ne.2 (by omega) | rfl) rfl trivial rfl ?_
  refine Tr.nil ?_ (fun _ => rfl) (List.Perm.refl _)
  refine Wp.seq ?_
  refine Wp.condT rfl ?_
  refine Wp.skip ?_
  refine Wp.seq ?_
  refine Wp.block ?_
  refine Wp.seq ?_
  refine Wp.reg allGen ?_
  refine Tr.move rfl rfl trivial rfl ?_
  refine Tr.indexS tab rfl rfl rfl rfl rfl rfl rfl (by omega) (by omega) rfl rfl trivial rfl ?_
  refine Tr.assign rfl rfl trivial rfl ?_
  refine Tr.assign rfl rfl trivial rfl ?_
  refine Tr.nil ?_ (fun _ => rfl) (List.Perm.refl _)
  refine Wp.reg allGen ?_
  refine Tr.move rfl rfl trivial rfl ?_
  first | refine Tr.indexAddr01 tab rfl rfl rfl rfl rfl (by omega) (by omega) rfl trivial rfl ?_ | refine Tr.indexAddr1 tab rfl rfl rfl rfl rfl (by omega) (by omega) rfl trivial rfl ?_
  refine Tr.loadS tab rfl rfl rfl (by first | exact (.head _) | exact (.tail _ (.head _)) | exact (.tail _ (.tail _ (.head _))) | exact (.tail _ (.tail _ (.tail _ (.head _)))) | exact (.tail _ (.tail _ (.tail _ (.tail _ (.head _))))) | exact (.tail _ (.tail _ (.tail _ (.tail _ (.tail _ (.head _)))))) | exact (.tail _ (.tail _ (.tail _ (.tail _ (.tail _ (.tail _ (.head _))))))) | exact (.tail _ (.tail _ (.tail _ (.tail _ (.tail _ (.tail _ (.tail _ (.head _)))))))) | exact (.tail _ (.tail _ (.tail _ (.tail _ (.tail _ (.tail _ (.tail _ (.tail _ (.head _))))))))) | exact (.tail _ (.tail _ (.tail _ (.tail _ (.tail _ (.tail _ (.tail _ (.tail _ (.tail _ (.head _))))))))))) (by first | rfl | with_reducible assumption | assumption | (simp; done)) rfl trivial rfl ?_
  refine Tr.move rfl rfl trivial rfl ?_
  refine Tr.add rfl rfl (by first | exact u32_add _ _ | exact wrap_u32 (by omega) (by omega) | rfl) rfl trivial rfl ?_
  first | refine Tr.indexAddr01 tab rfl rfl rfl rfl rfl (by omega) (by omega) rfl trivial rfl ?_ | refine Tr.indexAddr1 tab rfl rfl rfl rfl rfl (by omega) (by omega) rfl trivial rfl ?_
  refine Tr.storeS tab rfl rfl rfl rfl (by first | exact .here | exact (.there .here) | exact (.there (.there .here)) | exact (.there (.there (.there .here))) | exact (.there (.there (.there (.there .here)))) | exact (.there (.there (.there (.there (.there .here))))) | exact (.there (.there (.there (.there (.there (.there .here)))))) | exact (.there (.there (.there (.there (.there (.there (.there .here))))))) | exact (.there (.there (.there (.there (.there (.there (.there (.there .here)))))))) | exact (.there (.there (.there (.there (.there (.there (.there (.there (.there .here)))))))))) (by first | decide | (simp; done) | (simp; omega) | exact Nat.le_of_ble_eq_true rfl) trivial rfl ?_
  refine Tr.nil ?_ (fun _ => rfl) (List.Perm.refl _)
  refine Wp.reg allGen ?_
  refine Tr.add rfl rfl (by first | exact wrap_i64 (by omega) (by omega) | rfl) rfl trivial rfl ?_
  refine Tr.move rfl rfl trivial rfl ?_
  refine Tr.nil ?_ (fun _ => rfl) (List.Perm.refl _)
  refine WpL.step ?_
  refine Wp.seq ?_
  refine Wp.reg allGen ?_
  refine Tr.lss rfl rfl (by first | with_reducible assumption | exact decide_eq_true (by omega) | exact decide_eq_false (by omega) | exact beq_iff_eq.2 (by omega) | exact beq_eq_false_iff_ne.2 (by omega) | exact bne_iff_ne.2 (by omega) | rfl) rfl trivial rfl ?_
  refine Tr.nil ?_ (fun _ => rfl) (List.Perm.refl _)
  refine Wp.seq ?_
  refine Wp.condT rfl ?_
  refine Wp.skip ?_
  refine Wp.seq ?_
  refine Wp.block ?_
  refine Wp.seq ?_
  refine Wp.reg allGen ?_
  refine Tr.move rfl rfl trivial rfl ?_
  refine Tr.indexS tab rfl rfl rfl rfl rfl rfl rfl (by omega) (by omega) rfl rfl trivial rfl ?_
  refine Tr.assign rfl rfl trivial rfl ?_
  refine Tr.assign rfl rfl trivial rfl ?_
  refine Tr.nil ?_ (fun _ => rfl) (List.Perm.refl _)
  refine Wp.reg allGen ?_
  refine Tr.move rfl rfl trivial rfl ?_
  first | refine Tr.indexAddr01 tab rfl rfl rfl rfl rfl (by omega) (by omega) rfl trivial rfl ?_ | refine Tr.indexAddr1 tab rfl rfl rfl rfl rfl (by omega) (by omega) rfl trivial rfl ?_
  refine Tr.loadS tab rfl rfl rfl (by first | exact (.head _) | exact (.tail _ (.head _)) | exact (.tail _ (.tail _ (.head _))) | exact (.tail _ (.tail _ (.tail _ (.head _)))) | exact (.tail _ (.tail _ (.tail _ (.tail _ (.head _))))) | exact (.tail _ (.tail _ (.tail _ (.tail _ (.tail _ (.head _)))))) | exact (.tail _ (.tail _ (.tail _ (.tail _ (.tail _ (.tail _ (.head _))))))) | exact (.tail _ (.tail _ (.tail _ (.tail _ (.tail _ (.tail _ (.tail _ (.head _)))))))) | exact (.tail _ (.tail _ (.tail _ (.tail _ (.tail _ (.tail _ (.tail _ (.tail _ (.head _))))))))) | exact (.tail _ (.tail _ (.tail _ (.tail _ (.tail _ (.tail _ (.tail _ (.tail _ (.tail _ (.head _))))))))))) (by first | rfl | with_reducible assumption | assumption | (simp; done)) rfl trivial rfl ?_
  refine Tr.move rfl rfl trivial rfl ?_
  refine Tr.add rfl rfl (by first | exact u32_add _ _ | exact wrap_u32 (by omega) (by omega) | rfl) rfl trivial rfl ?_
  first | refine Tr.indexAddr01 tab rfl rfl rfl rfl rfl (by omega) (by omega) rfl trivial rfl ?_ | refine Tr.indexAddr1 tab rfl rfl rfl rfl rfl (by omega) (by omega) rfl trivial rfl ?_
  refine Tr.storeS tab rfl rfl rfl rfl (by first | exact .here | exact (.there .here) | exact (.there (.there .here)) | exact (.there (.there (.there .here))) | exact (.there (.there (.there (.there .here)))) | exact (.there (.there (.there (.there (.there .here))))) | exact (.there (.there (.there (.there (.there (.there .here)))))) | exact (.there (.there (.there (.there (.there (.there (.there .here))))))) | exact (.there (.there (.there (.there (.there (.there (.there (.there .here)))))))) | exact (.there (.there (.there (.there (.there (.there (.there (.there (.there .here)))))))))) (by first | decide | (simp; done) | (simp; omega) | exact Nat.le_of_ble_eq_true rfl) trivial rfl ?_
  refine Tr.nil ?_ (fun _ => rfl) (List.Perm.refl _)
  refine Wp.reg allGen ?_
  refine Tr.add rfl rfl (by first | exact wrap_i64 (by omega) (by omega) | rfl) rfl trivial rfl ?_
  refine Tr.move rfl rfl trivial rfl ?_
  refine Tr.nil ?_ (fun _ => rfl) (List.Perm.refl _)
  refine WpL.step ?_
  refine Wp.seq ?_
  refine Wp.reg allGen ?_
  refine Tr.lss rfl rfl (by first | with_reducible assumption | exact decide_eq_true (by omega) | exact decide_eq_false (by omega) | exact beq_iff_eq.2 (by omega) | exact beq_eq_false_iff_ne.2 (by omega) | exact bne_iff_ne.2 (by omega) | rfl) rfl trivial rfl ?_
  refine Tr.nil ?_ (fun _ => rfl) (List.Perm.refl _)
  refine Wp.seq ?_
  refine Wp.condT rfl ?_
  refine Wp.skip ?_
  refine Wp.seq ?_
  refine Wp.block ?_
  refine Wp.seq ?_
  refine Wp.reg allGen ?_
  refine Tr.move rfl rfl trivial rfl ?_
  refine Tr.indexS tab rfl rfl rfl rfl rfl rfl rfl (by omega) (by omega) rfl rfl trivial rfl ?_
  refine Tr.assign rfl rfl trivial rfl ?_
  refine Tr.assign rfl rfl trivial rfl ?_
  refine Tr.nil ?_ (fun _ => rfl) (List.Perm.refl _)
  refine Wp.reg allGen ?_
  refine Tr.move rfl rfl trivial rfl ?_
  first | refine Tr.indexAddr01 tab rfl rfl rfl rfl rfl (by omega) (by omega) rfl trivial rfl ?_ | refine Tr.indexAddr1 tab rfl rfl rfl rfl rfl (by omega) (by omega) rfl trivial rfl ?_
  refine Tr.loadS tab rfl rfl rfl (by first | exact (.head _) | exact (.tail _ (.head _)) | exact (.tail _ (.tail _ (.head _))) | exact (.tail _ (.tail _ (.tail _ (.head _)))) | exact (.tail _ (.tail _ (.tail _ (.tail _ (.head _))))) | exact (.tail _ (.tail _ (.tail _ (.tail _ (.tail _ (.head _)))))) | exact (.tail _ (.tail _ (.tail _ (.tail _ (.tail _ (.tail _ (.head _))))))) | exact (.tail _ (.tail _ (.tail _ (.tail _ (.tail _ (.tail _ (.tail _ (.head _)))))))) | exact (.tail _ (.tail _ (.tail _ (.tail _ (.tail _ (.tail _ (.tail _ (.tail _ (.head _))))))))) | exact (.tail _ (.tail _ (.tail _ (.tail _ (.tail _ (.tail _ (.tail _ (.tail _ (.tail _ (.head _))))))))))) (by first | rfl | with_reducible assumption | assumption | (simp; done)) rfl trivial rfl ?_
  refine Tr.move rfl rfl trivial rfl ?_
  refine Tr.add rfl rfl (by first | exact u32_add _ _ | exact wrap_u32 (by omega) (by omega) | rfl) rfl trivial rfl ?_
  first | refine Tr.indexAddr01 tab rfl rfl rfl rfl rfl (by omega) (by omega) rfl trivial rfl ?_ | refine Tr.indexAddr1 tab rfl rfl rfl rfl rfl (by omega) (by omega) rfl trivial rfl ?_
  refine Tr.storeS tab rfl rfl rfl rfl (by first | exact .here | exact (.there .here) | exact (.there (.there .here)) | exact (.there (.there (.there .here))) | exact (.there (.there (.there (.there .here)))) | exact (.there (.there (.there (.there (.there .here))))) | exact (.there (.there (.there (.there (.there (.there .here)))))) | exact (.there (.there (.there (.there (.there (.there (.there .here))))))) | exact (.there (.there (.there (.there (.there (.there (.there (.there .here)))))))) | exact (.there (.there (.there (.there (.there (.there (.there (.there (.there .here)))))))))) (by first | decide | (simp; done) | (simp; omega) | exact Nat.le_of_ble_eq_true rfl) trivial rfl ?_
  refine Tr.nil ?_ (fun _ => rfl) (List.Perm.refl _)
  refine Wp.reg allGen ?_
  refine Tr.add rfl rfl (by first | exact wrap_i64 (by omega) (by omega) | rfl) rfl trivial rfl ?_
  refine Tr.move rfl rfl trivial rfl ?_
  refine Tr.nil ?_ (fun _ => rfl) (List.Perm.refl _)
  refine WpL.step ?_
  refine Wp.seq ?_
  refine Wp.reg allGen ?_
  refine Tr.lss rfl rfl (by first | with_reducible assumption | exact decide_eq_true (by omega) | exact decide_eq_false (by omega) | exact beq_iff_eq.2 (by omega) | exact beq_eq_false_iff_ne.2 (by omega) | exact bne_iff_ne.2 (by omega) | rfl) rfl trivial rfl ?_
  refine Tr.nil ?_ (fun _ => rfl) (List.Perm.refl _)
  refine Wp.seq ?_
  refine Wp.condT rfl ?_
  refine Wp.skip ?_
  refine Wp.seq ?_
  refine Wp.block ?_
  refine Wp.seq ?_
  refine Wp.reg allGen ?_
  refine Tr.move rfl rfl trivial rfl ?_
  refine Tr.indexS tab rfl rfl rfl rfl rfl rfl rfl (by omega) (by omega) rfl rfl trivial rfl ?_
  refine Tr.assign rfl rfl trivial rfl ?_
  refine Tr.assign rfl rfl trivial rfl ?_
  refine Tr.nil ?_ (fun _ => rfl) (List.Perm.refl _)
  refine Wp.reg allGen ?_
  refine Tr.move rfl rfl trivial rfl ?_
  first | refine Tr.indexAddr01 tab rfl rfl rfl rfl rfl (by omega) (by omega) rfl trivial rfl ?_ | refine Tr.indexAddr1 tab rfl rfl rfl rfl rfl (by omega) (by omega) rfl trivial rfl ?_
  refine Tr.loadS tab rfl rfl rfl (by first | exact (.head _) | exact (.tail _ (.head _)) | exact (.tail _ (.tail _ (.head _))) | exact (.tail _ (.tail _ (.tail _ (.head _)))) | exact (.tail _ (.tail _ (.tail _ (.tail _ (.head _))))) | exact (.tail _ (.tail _ (.tail _ (.tail _ (.tail _ (.head _)))))) | exact (.tail _ (.tail _ (.tail _ (.tail _ (.tail _ (.tail _ (.head _))))))) | exact (.tail _ (.tail _ (.tail _ (.tail _ (.tail _ (.tail _ (.tail _ (.head _)))))))) | exact (.tail _ (.tail _ (.tail _ (.tail _ (.tail _ (.tail _ (.tail _ (.tail _ (.head _))))))))) | exact (.tail _ (.tail _ (.tail _ (.tail _ (.tail _ (.tail _ (.tail _ (.tail _ (.tail _ (.head _))))))))))) (by first | rfl | with_reducible assumption | assumption | (simp; done)) rfl trivial rfl ?_
  refine Tr.move rfl rfl trivial rfl ?_
  refine Tr.add rfl rfl (by first | exact u32_add _ _ | exact wrap_u32 (by omega) (by omega) | rfl) rfl trivial rfl ?_
  first | refine Tr.indexAddr01 tab rfl rfl rfl rfl rfl (by omega) (by omega) rfl trivial rfl ?_ | refine Tr.indexAddr1 tab rfl rfl rfl rfl rfl (by omega) (by omega) rfl trivial rfl ?_
  refine Tr.storeS tab rfl rfl rfl rfl (by first | exact .here | exact (.there .here) | exact (.there (.there .here)) | exact (.there (.there (.there .here))) | exact (.there (.there (.there (.there .here)))) | exact (.there (.there (.there (.there (.there .here))))) | exact (.there (.there (.there (.there (.there (.there .here)))))) | exact (.there (.there (.there (.there (.there (.there (.there .here))))))) | exact (.there (.there (.there (.there (.there (.there (.there (.there .here)))))))) | exact (.there (.there (.there (.there (.there (.there (.there (.there (.there .here)))))))))) (by first | decide | (simp; done) | (simp; omega) | exact Nat.le_of_ble_eq_true rfl) trivial rfl ?_
  refine Tr.nil ?_ (fun _ => rfl) (List.Perm.refl _)
  refine Wp.reg allGen ?_
  refine Tr.add rfl rfl (by first | exact wrap_i64 (by omega) (by omega) | rfl) rfl trivial rfl ?_
  refine Tr.move rfl rfl trivial rfl ?_
  refine Tr.nil ?_ (fun _ => rfl) (List.Perm.refl _)
  refine WpL.step ?_
  refine Wp.seq ?_
  refine Wp.reg allGen ?_
  refine Tr.lss rfl rfl (by first | with_reducible assumption | exact decide_eq_true (by omega) | exact decide_eq_false (by omega) | exact beq_iff_eq.2 (by omega) | exact beq_eq_false_iff_ne.2 (by omega) | exact bne_iff_ne.2 (by omega) | rfl) rfl trivial rfl ?_
  refine Tr.nil ?_ (fun _ => rfl) (List.Perm.refl _)
  refine Wp.seq ?_
  refine Wp.condF rfl ?_
  refine Wp.exit ?_
  refine Wp.seq ?_
  refine Wp.reg allGen ?_
  refine Tr.loadA tab rfl rfl rfl (by first | exact (.head _) | exact (.tail _ (.head _)) | exact (.tail _ (.tail _ (.head _))) | exact (.tail _ (.tail _ (.tail _ (.head _)))) | exact (.tail _ (.tail _ (.tail _ (.tail _ (.head _))))) | exact (.tail _ (.tail _ (.tail _ (.tail _ (.tail _ (.head _)))))) | exact (.tail _ (.tail _ (.tail _ (.tail _ (.tail _ (.tail _ (.head _))))))) | exact (.tail _ (.tail _ (.tail _ (.tail _ (.tail _ (.tail _ (.tail _ (.head _)))))))) | exact (.tail _ (.tail _ (.tail _ (.tail _ (.tail _ (.tail _ (.tail _ (.tail _ (.head _))))))))) | exact (.tail _ (.tail _ (.tail _ (.tail _ (.tail _ (.tail _ (.tail _ (.tail _ (.tail _ (.head _))))))))))) (by first | exact At.all _ | with_reducible assumption | assumption) (by first | with_reducible rfl | with_reducible assumption | (simp; done) | (simp; omega) | rfl) rfl trivial rfl ?_
  refine Tr.storeA tab rfl rfl rfl (by first | exact .here | exact (.there .here) | exact (.there (.there .here)) | exact (.there (.there (.there .here))) | exact (.there (.there (.there (.there .here)))) | exact (.there (.there (.there (.there (.there .here))))) | exact (.there (.there (.there (.there (.there (.there .here)))))) | exact (.there (.there (.there (.there (.there (.there (.there .here))))))) | exact (.there (.there (.there (.there (.there (.there (.there (.there .here)))))))) | exact (.there (.there (.there (.there (.there (.there (.there (.there (.there .here)))))))))) (by first | with_reducible rfl | with_reducible assumption | (simp; done) | (simp; omega) | rfl) (by first | with_reducible rfl | with_reducible assumption | (simp; done) | (simp; omega) | rfl) (by first | with_reducible assumption | rfl | (simp [Value.oneCell']; done)) trivial rfl ?_
  refine Tr.nil ?_ (fun _ => rfl) (List.Perm.refl _)
  refine Wp.ret ?_
  refine ⟨by first | exact .inl rfl | exact .inr rfl, ?_⟩
  exact .r1 rfl (RvIs.cellA tab rfl rfl rfl (by first | exact (.head _) | exact (.tail _ (.head _)) | exact (.tail _ (.tail _ (.head _))) | exact (.tail _ (.tail _ (.tail _ (.head _)))) | exact (.tail _ (.tail _ (.tail _ (.tail _ (.head _))))) | exact (.tail _ (.tail _ (.tail _ (.tail _ (.tail _ (.head _)))))) | exact (.tail _ (.tail _ (.tail _ (.tail _ (.tail _ (.tail _ (.head _))))))) | exact (.tail _ (.tail _ (.tail _ (.tail _ (.tail _ (.tail _ (.tail _ (.head _)))))))) | exact (.tail _ (.tail _ (.tail _ (.tail _ (.tail _ (.tail _ (.tail _ (.tail _ (.head _))))))))) | exact (.tail _ (.tail _ (.tail _ (.tail _ (.tail _ (.tail _ (.tail _ (.tail _ (.tail _ (.head _))))))))))) (At.all _) (by first | with_reducible rfl | with_reducible assumption | (simp; done) | (simp; omega) | rfl))
end Go.Proofs.Ytffghaeaohabhaa.AW
