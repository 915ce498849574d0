import Derived.Test.YtffghaeaohabhaaR17
namespace Go.Proofs.Ytffghaeaohabhaa.AW
open Go NT
set_option maxRecDepth 100000

def loop81d : Code := (Code.seq (Code.seq (Code.region 17 #[{ dst := (some 60), op := (Op.move (Operand.tmp 12)), type := 3, pos := "ref.go:79", after := #[], guard := none }, { dst := (some 61), op := (Op.binOp BinOp.lss 3 (Operand.tmp 60) (Operand.const (Value.int IntKind.i64 3)) 3), type := 4, pos := "ref.go:79", after := #[{ on := 0, ground := Ground.data }], guard := none }] false) (Code.cond (Operand.tmp 61) Code.skip (Code.exit 6))) (Code.seq (Code.block 7 (Code.seq (Code.seq (Code.region 19 #[{ dst := (some 13), op := (Op.assign (Operand.const (Value.int IntKind.i64 0))), type := 3, pos := "ref.go:80", after := #[], guard := none }] false) (Code.block 8 (Code.loop (Code.seq (Code.seq (Code.region 20 #[{ dst := (some 64), op := (Op.move (Operand.tmp 13)), type := 3, pos := "ref.go:80", after := #[], guard := none }, { dst := (some 65), op := (Op.binOp BinOp.lss 3 (Operand.tmp 64) (Operand.const (Value.int IntKind.i64 16)) 3), type := 4, pos := "ref.go:80", after := #[{ on := 0, ground := Ground.data }], guard := none }] false) (Code.cond (Operand.tmp 65) Code.skip (Code.exit 8))) (Code.seq (Code.block 9 (Code.seq (Code.region 22 #[{ dst := (some 68), op := (Op.move (Operand.tmp 13)), type := 3, pos := "ref.go:81", after := #[], guard := none }, { dst := (some 69), op := (Op.binOp BinOp.add 3 (Operand.tmp 68) (Operand.const (Value.int IntKind.i64 1)) 3), type := 3, pos := "ref.go:81", after := #[{ on := 0, ground := Ground.data }], guard := none }, { dst := (some 70), op := (Op.move (Operand.tmp 13)), type := 3, pos := "ref.go:81", after := #[], guard := none }, { dst := (some 71), op := (Op.binOp BinOp.add 3 (Operand.tmp 70) (Operand.const (Value.int IntKind.i64 1)) 3), type := 3, pos := "ref.go:81", after := #[{ on := 2, ground := Ground.data }], guard := none }, { dst := (some 72), op := (Op.indexAddr 144 (Operand.tmp 10) (Operand.tmp 71)), type := 0, pos := "ref.go:81", after := #[{ on := 3, ground := Ground.data }], guard := none }, { dst := (some 73), op := (Op.load 3 (Operand.tmp 72)), type := 3, pos := "ref.go:81", after := #[{ on := 4, ground := Ground.data }], guard := none }, { dst := (some 74), op := (Op.move (Operand.tmp 13)), type := 3, pos := "ref.go:81", after := #[], guard := none }, { dst := (some 75), op := (Op.indexAddr 144 (Operand.tmp 10) (Operand.tmp 74)), type := 0, pos := "ref.go:81", after := #[{ on := 6, ground := Ground.data }], guard := none }, { dst := (some 76), op := (Op.load 3 (Operand.tmp 75)), type := 3, pos := "ref.go:81", after := #[{ on := 7, ground := Ground.data }], guard := none }, { dst := (some 77), op := (Op.binOp BinOp.quo 3 (Operand.tmp 76) (Operand.const (Value.int IntKind.i64 65536)) 3), type := 3, pos := "ref.go:81", after := #[{ on := 8, ground := Ground.data }], guard := none }, { dst := (some 78), op := (Op.binOp BinOp.add 3 (Operand.tmp 73) (Operand.tmp 77) 3), type := 3, pos := "ref.go:81", after := #[{ on := 5, ground := Ground.data }, { on := 9, ground := Ground.data }], guard := none }, { dst := (some 79), op := (Op.indexAddr 144 (Operand.tmp 10) (Operand.tmp 69)), type := 0, pos := "ref.go:81", after := #[{ on := 1, ground := Ground.data }, { on := 0, ground := Ground.phase }, { on := 1, ground := Ground.phase }, { on := 2, ground := Ground.phase }, { on := 3, ground := Ground.phase }, { on := 4, ground := Ground.phase }, { on := 5, ground := Ground.phase }, { on := 6, ground := Ground.phase }, { on := 7, ground := Ground.phase }, { on := 8, ground := Ground.phase }, { on := 9, ground := Ground.phase }, { on := 10, ground := Ground.phase }], guard := none }, { dst := none, op := (Op.store 3 (Operand.tmp 79) (Operand.tmp 78)), type := 0, pos := "ref.go:81", after := #[{ on := 11, ground := Ground.data }, { on := 10, ground := Ground.data }, { on := 0, ground := Ground.phase }, { on := 1, ground := Ground.phase }, { on := 2, ground := Ground.phase }, { on := 3, ground := Ground.phase }, { on := 4, ground := Ground.phase }, { on := 5, ground := Ground.phase }, { on := 6, ground := Ground.phase }, { on := 7, ground := Ground.phase }, { on := 8, ground := Ground.phase }, { on := 9, ground := Ground.phase }, { on := 10, ground := Ground.phase }], guard := none }] true) (Code.region 23 #[{ dst := (some 80), op := (Op.move (Operand.tmp 13)), type := 3, pos := "ref.go:82", after := #[], guard := none }, { dst := (some 81), op := (Op.move (Operand.tmp 13)), type := 3, pos := "ref.go:82", after := #[], guard := none }, { dst := (some 82), op := (Op.indexAddr 144 (Operand.tmp 10) (Operand.tmp 81)), type := 0, pos := "ref.go:82", after := #[{ on := 1, ground := Ground.data }], guard := none }, { dst := (some 83), op := (Op.load 3 (Operand.tmp 82)), type := 3, pos := "ref.go:82", after := #[{ on := 2, ground := Ground.data }], guard := none }, { dst := (some 84), op := (Op.binOp BinOp.rem 3 (Operand.tmp 83) (Operand.const (Value.int IntKind.i64 65536)) 3), type := 3, pos := "ref.go:82", after := #[{ on := 3, ground := Ground.data }], guard := none }, { dst := (some 85), op := (Op.indexAddr 144 (Operand.tmp 10) (Operand.tmp 80)), type := 0, pos := "ref.go:82", after := #[{ on := 0, ground := Ground.data }, { on := 0, ground := Ground.phase }, { on := 1, ground := Ground.phase }, { on := 2, ground := Ground.phase }, { on := 3, ground := Ground.phase }, { on := 4, ground := Ground.phase }], guard := none }, { dst := none, op := (Op.store 3 (Operand.tmp 85) (Operand.tmp 84)), type := 0, pos := "ref.go:82", after := #[{ on := 5, ground := Ground.data }, { on := 4, ground := Ground.data }, { on := 0, ground := Ground.phase }, { on := 1, ground := Ground.phase }, { on := 2, ground := Ground.phase }, { on := 3, ground := Ground.phase }, { on := 4, ground := Ground.phase }], guard := none }] false))) (Code.region 21 #[{ dst := (some 66), op := (Op.move (Operand.tmp 13)), type := 3, pos := "ref.go:80", after := #[], guard := none }, { dst := (some 67), op := (Op.binOp BinOp.add 3 (Operand.tmp 66) (Operand.const (Value.int IntKind.i64 1)) 3), type := 3, pos := "ref.go:80", after := #[{ on := 0, ground := Ground.data }], guard := none }, { dst := (some 13), op := (Op.assign (Operand.tmp 67)), type := 3, pos := "ref.go:80", after := #[{ on := 1, ground := Ground.data }, { on := 0, ground := Ground.phase }, { on := 1, ground := Ground.phase }], guard := none }] false)))))) (Code.seq (Code.region 24 #[{ dst := (some 86), op := (Op.indexAddr 144 (Operand.tmp 10) (Operand.const (Value.int IntKind.i64 0))), type := 0, pos := "ref.go:84", after := #[], guard := none }, { dst := (some 87), op := (Op.load 3 (Operand.tmp 86)), type := 3, pos := "ref.go:84", after := #[{ on := 0, ground := Ground.data }], guard := none }, { dst := (some 88), op := (Op.indexAddr 144 (Operand.tmp 10) (Operand.const (Value.int IntKind.i64 16))), type := 0, pos := "ref.go:84", after := #[], guard := none }, { dst := (some 89), op := (Op.load 3 (Operand.tmp 88)), type := 3, pos := "ref.go:84", after := #[{ on := 2, ground := Ground.data }], guard := none }, { dst := (some 90), op := (Op.binOp BinOp.mul 3 (Operand.const (Value.int IntKind.i64 38)) (Operand.tmp 89) 3), type := 3, pos := "ref.go:84", after := #[{ on := 3, ground := Ground.data }], guard := none }, { dst := (some 91), op := (Op.binOp BinOp.add 3 (Operand.tmp 87) (Operand.tmp 90) 3), type := 3, pos := "ref.go:84", after := #[{ on := 1, ground := Ground.data }, { on := 4, ground := Ground.data }], guard := none }, { dst := (some 92), op := (Op.indexAddr 144 (Operand.tmp 10) (Operand.const (Value.int IntKind.i64 0))), type := 0, pos := "ref.go:84", after := #[{ on := 0, ground := Ground.phase }, { on := 1, ground := Ground.phase }, { on := 2, ground := Ground.phase }, { on := 3, ground := Ground.phase }, { on := 4, ground := Ground.phase }, { on := 5, ground := Ground.phase }], guard := none }, { dst := none, op := (Op.store 3 (Operand.tmp 92) (Operand.tmp 91)), type := 0, pos := "ref.go:84", after := #[{ on := 6, ground := Ground.data }, { on := 5, ground := Ground.data }, { on := 0, ground := Ground.phase }, { on := 1, ground := Ground.phase }, { on := 2, ground := Ground.phase }, { on := 3, ground := Ground.phase }, { on := 4, ground := Ground.phase }, { on := 5, ground := Ground.phase }], guard := none }] false) (Code.region 25 #[{ dst := (some 93), op := (Op.indexAddr 144 (Operand.tmp 10) (Operand.const (Value.int IntKind.i64 16))), type := 0, pos := "ref.go:85", after := #[], guard := none }, { dst := none, op := (Op.store 3 (Operand.tmp 93) (Operand.const (Value.int IntKind.i64 0))), type := 0, pos := "ref.go:85", after := #[{ on := 0, ground := Ground.data }], guard := none }] false)))) (Code.region 18 #[{ dst := (some 62), op := (Op.move (Operand.tmp 12)), type := 3, pos := "ref.go:79", after := #[], guard := none }, { dst := (some 63), op := (Op.binOp BinOp.add 3 (Operand.tmp 62) (Operand.const (Value.int IntKind.i64 1)) 3), type := 3, pos := "ref.go:79", after := #[{ on := 0, ground := Ground.data }], guard := none }, { dst := (some 12), op := (Op.assign (Operand.tmp 63)), type := 3, pos := "ref.go:79", after := #[{ on := 1, ground := Ground.data }, { on := 0, ground := Ground.phase }, { on := 1, ground := Ground.phase }], guard := none }] false)))
def loop81e : Code := (Code.seq (Code.seq (Code.region 20 #[{ dst := (some 64), op := (Op.move (Operand.tmp 13)), type := 3, pos := "ref.go:80", after := #[], guard := none }, { dst := (some 65), op := (Op.binOp BinOp.lss 3 (Operand.tmp 64) (Operand.const (Value.int IntKind.i64 16)) 3), type := 4, pos := "ref.go:80", after := #[{ on := 0, ground := Ground.data }], guard := none }] false) (Code.cond (Operand.tmp 65) Code.skip (Code.exit 8))) (Code.seq (Code.block 9 (Code.seq (Code.region 22 #[{ dst := (some 68), op := (Op.move (Operand.tmp 13)), type := 3, pos := "ref.go:81", after := #[], guard := none }, { dst := (some 69), op := (Op.binOp BinOp.add 3 (Operand.tmp 68) (Operand.const (Value.int IntKind.i64 1)) 3), type := 3, pos := "ref.go:81", after := #[{ on := 0, ground := Ground.data }], guard := none }, { dst := (some 70), op := (Op.move (Operand.tmp 13)), type := 3, pos := "ref.go:81", after := #[], guard := none }, { dst := (some 71), op := (Op.binOp BinOp.add 3 (Operand.tmp 70) (Operand.const (Value.int IntKind.i64 1)) 3), type := 3, pos := "ref.go:81", after := #[{ on := 2, ground := Ground.data }], guard := none }, { dst := (some 72), op := (Op.indexAddr 144 (Operand.tmp 10) (Operand.tmp 71)), type := 0, pos := "ref.go:81", after := #[{ on := 3, ground := Ground.data }], guard := none }, { dst := (some 73), op := (Op.load 3 (Operand.tmp 72)), type := 3, pos := "ref.go:81", after := #[{ on := 4, ground := Ground.data }], guard := none }, { dst := (some 74), op := (Op.move (Operand.tmp 13)), type := 3, pos := "ref.go:81", after := #[], guard := none }, { dst := (some 75), op := (Op.indexAddr 144 (Operand.tmp 10) (Operand.tmp 74)), type := 0, pos := "ref.go:81", after := #[{ on := 6, ground := Ground.data }], guard := none }, { dst := (some 76), op := (Op.load 3 (Operand.tmp 75)), type := 3, pos := "ref.go:81", after := #[{ on := 7, ground := Ground.data }], guard := none }, { dst := (some 77), op := (Op.binOp BinOp.quo 3 (Operand.tmp 76) (Operand.const (Value.int IntKind.i64 65536)) 3), type := 3, pos := "ref.go:81", after := #[{ on := 8, ground := Ground.data }], guard := none }, { dst := (some 78), op := (Op.binOp BinOp.add 3 (Operand.tmp 73) (Operand.tmp 77) 3), type := 3, pos := "ref.go:81", after := #[{ on := 5, ground := Ground.data }, { on := 9, ground := Ground.data }], guard := none }, { dst := (some 79), op := (Op.indexAddr 144 (Operand.tmp 10) (Operand.tmp 69)), type := 0, pos := "ref.go:81", after := #[{ on := 1, ground := Ground.data }, { on := 0, ground := Ground.phase }, { on := 1, ground := Ground.phase }, { on := 2, ground := Ground.phase }, { on := 3, ground := Ground.phase }, { on := 4, ground := Ground.phase }, { on := 5, ground := Ground.phase }, { on := 6, ground := Ground.phase }, { on := 7, ground := Ground.phase }, { on := 8, ground := Ground.phase }, { on := 9, ground := Ground.phase }, { on := 10, ground := Ground.phase }], guard := none }, { dst := none, op := (Op.store 3 (Operand.tmp 79) (Operand.tmp 78)), type := 0, pos := "ref.go:81", after := #[{ on := 11, ground := Ground.data }, { on := 10, ground := Ground.data }, { on := 0, ground := Ground.phase }, { on := 1, ground := Ground.phase }, { on := 2, ground := Ground.phase }, { on := 3, ground := Ground.phase }, { on := 4, ground := Ground.phase }, { on := 5, ground := Ground.phase }, { on := 6, ground := Ground.phase }, { on := 7, ground := Ground.phase }, { on := 8, ground := Ground.phase }, { on := 9, ground := Ground.phase }, { on := 10, ground := Ground.phase }], guard := none }] true) (Code.region 23 #[{ dst := (some 80), op := (Op.move (Operand.tmp 13)), type := 3, pos := "ref.go:82", after := #[], guard := none }, { dst := (some 81), op := (Op.move (Operand.tmp 13)), type := 3, pos := "ref.go:82", after := #[], guard := none }, { dst := (some 82), op := (Op.indexAddr 144 (Operand.tmp 10) (Operand.tmp 81)), type := 0, pos := "ref.go:82", after := #[{ on := 1, ground := Ground.data }], guard := none }, { dst := (some 83), op := (Op.load 3 (Operand.tmp 82)), type := 3, pos := "ref.go:82", after := #[{ on := 2, ground := Ground.data }], guard := none }, { dst := (some 84), op := (Op.binOp BinOp.rem 3 (Operand.tmp 83) (Operand.const (Value.int IntKind.i64 65536)) 3), type := 3, pos := "ref.go:82", after := #[{ on := 3, ground := Ground.data }], guard := none }, { dst := (some 85), op := (Op.indexAddr 144 (Operand.tmp 10) (Operand.tmp 80)), type := 0, pos := "ref.go:82", after := #[{ on := 0, ground := Ground.data }, { on := 0, ground := Ground.phase }, { on := 1, ground := Ground.phase }, { on := 2, ground := Ground.phase }, { on := 3, ground := Ground.phase }, { on := 4, ground := Ground.phase }], guard := none }, { dst := none, op := (Op.store 3 (Operand.tmp 85) (Operand.tmp 84)), type := 0, pos := "ref.go:82", after := #[{ on := 5, ground := Ground.data }, { on := 4, ground := Ground.data }, { on := 0, ground := Ground.phase }, { on := 1, ground := Ground.phase }, { on := 2, ground := Ground.phase }, { on := 3, ground := Ground.phase }, { on := 4, ground := Ground.phase }], guard := none }] false))) (Code.region 21 #[{ dst := (some 66), op := (Op.move (Operand.tmp 13)), type := 3, pos := "ref.go:80", after := #[], guard := none }, { dst := (some 67), op := (Op.binOp BinOp.add 3 (Operand.tmp 66) (Operand.const (Value.int IntKind.i64 1)) 3), type := 3, pos := "ref.go:80", after := #[{ on := 0, ground := Ground.data }], guard := none }, { dst := (some 13), op := (Op.assign (Operand.tmp 67)), type := 3, pos := "ref.go:80", after := #[{ on := 1, ground := Ground.data }, { on := 0, ground := Ground.phase }, { on := 1, ground := Ground.phase }], guard := none }] false)))
def loop81f : Code := (Code.seq (Code.seq (Code.region 28 #[{ dst := (some 94), op := (Op.move (Operand.tmp 15)), type := 3, pos := "ref.go:88", after := #[], guard := none }, { dst := (some 95), op := (Op.binOp BinOp.lss 3 (Operand.tmp 94) (Operand.const (Value.int IntKind.i64 16)) 3), type := 4, pos := "ref.go:88", after := #[{ on := 0, ground := Ground.data }], guard := none }] false) (Code.cond (Operand.tmp 95) Code.skip (Code.exit 10))) (Code.seq (Code.block 11 (Code.region 30 #[{ dst := (some 98), op := (Op.move (Operand.tmp 14)), type := 36, pos := "ref.go:89", after := #[], guard := none }, { dst := (some 99), op := (Op.move (Operand.tmp 15)), type := 3, pos := "ref.go:89", after := #[], guard := none }, { dst := (some 100), op := (Op.indexAddr 144 (Operand.tmp 10) (Operand.tmp 99)), type := 0, pos := "ref.go:89", after := #[{ on := 1, ground := Ground.data }], guard := none }, { dst := (some 101), op := (Op.load 3 (Operand.tmp 100)), type := 3, pos := "ref.go:89", after := #[{ on := 2, ground := Ground.data }], guard := none }, { dst := (some 102), op := (Op.binOp BinOp.rem 3 (Operand.tmp 101) (Operand.const (Value.int IntKind.i64 256)) 3), type := 3, pos := "ref.go:89", after := #[{ on := 3, ground := Ground.data }], guard := none }, { dst := (some 103), op := (Op.convert 3 5 (Operand.tmp 102)), type := 5, pos := "ref.go:89", after := #[{ on := 4, ground := Ground.data }], guard := none }, { dst := (some 104), op := (Op.move (Operand.tmp 15)), type := 3, pos := "ref.go:89", after := #[], guard := none }, { dst := (some 105), op := (Op.indexAddr 144 (Operand.tmp 10) (Operand.tmp 104)), type := 0, pos := "ref.go:89", after := #[{ on := 6, ground := Ground.data }], guard := none }, { dst := (some 106), op := (Op.load 3 (Operand.tmp 105)), type := 3, pos := "ref.go:89", after := #[{ on := 7, ground := Ground.data }], guard := none }, { dst := (some 107), op := (Op.binOp BinOp.quo 3 (Operand.tmp 106) (Operand.const (Value.int IntKind.i64 256)) 3), type := 3, pos := "ref.go:89", after := #[{ on := 8, ground := Ground.data }], guard := none }, { dst := (some 108), op := (Op.convert 3 5 (Operand.tmp 107)), type := 5, pos := "ref.go:89", after := #[{ on := 9, ground := Ground.data }], guard := none }, { dst := (some 109), op := (Op.buildSlice 36 2 #[(0, (Operand.tmp 103)), (1, (Operand.tmp 108))]), type := 36, pos := "ref.go:89", after := #[{ on := 5, ground := Ground.data }, { on := 10, ground := Ground.data }], guard := none }, { dst := (some 110), op := (Op.call { callee := (Callee.builtin Builtin.append), args := #[(Operand.tmp 98), (Operand.tmp 109)], argTypes := #[36, 36] }), type := 36, pos := "ref.go:89", after := #[{ on := 0, ground := Ground.data }, { on := 11, ground := Ground.data }], guard := none }, { dst := (some 14), op := (Op.assign (Operand.tmp 110)), type := 36, pos := "ref.go:89", after := #[{ on := 12, ground := Ground.data }, { on := 12, ground := Ground.chain }, { on := 0, ground := Ground.phase }, { on := 1, ground := Ground.phase }, { on := 2, ground := Ground.phase }, { on := 3, ground := Ground.phase }, { on := 4, ground := Ground.phase }, { on := 5, ground := Ground.phase }, { on := 6, ground := Ground.phase }, { on := 7, ground := Ground.phase }, { on := 8, ground := Ground.phase }, { on := 9, ground := Ground.phase }, { on := 10, ground := Ground.phase }, { on := 11, ground := Ground.phase }, { on := 12, ground := Ground.phase }], guard := none }] true)) (Code.region 29 #[{ dst := (some 96), op := (Op.move (Operand.tmp 15)), type := 3, pos := "ref.go:88", after := #[], guard := none }, { dst := (some 97), op := (Op.binOp BinOp.add 3 (Operand.tmp 96) (Operand.const (Value.int IntKind.i64 1)) 3), type := 3, pos := "ref.go:88", after := #[{ on := 0, ground := Ground.data }], guard := none }, { dst := (some 15), op := (Op.assign (Operand.tmp 97)), type := 3, pos := "ref.go:88", after := #[{ on := 1, ground := Ground.data }, { on := 0, ground := Ground.phase }, { on := 1, ground := Ground.phase }], guard := none }] false)))

abbrev pt (b : Nat) : Value := .pointer (some ⟨b, 0, none⟩)

section
variable (X Y : Nat) (hY : Y < 65536 ^ 16) (b4 b5 b6 b7 : Nat) (z4 : List Value)
include hY

theorem mulw_out {g : Gh} (hg : g.n = 114) (hX : X < 65536 ^ 16) : ∀ (r i : Nat) (f : Nat → Nat), i + r = 16 → (∀ j, f j ≤ i * 4294836225) → valW 32 f = (X % 65536 ^ i) * Y →
    WpL Try.prog g loop81a (fun e env mem => e = .exit 0 ∧ ∃ f, (∀ j, f j ≤ 68717379600) ∧ valW 32 f = X * Y ∧ Wk g env mem [(4, pt b4), (7, pt b7)] [⟨b7, fA 32 f, true⟩, ⟨b4, z4, true⟩])
      [(4, pt b4), (5, pt b5), (6, pt b6), (7, pt b7), (8, i64 i)] [⟨b7, fA 32 f, true⟩, ⟨b6, fA 16 (dw Y), true⟩, ⟨b5, fA 16 (dw X), true⟩, ⟨b4, z4, true⟩] := by
  obtain ⟨gn, w0, may⟩ := g
  obtain rfl : gn = 114 := hg
  intro r
  induction r with
  | zero =>
    intro i f hi hb hv
    obtain rfl : i = 16 := by omega
    rw [Nat.mod_eq_of_lt hX] at hv
    refine WpL.step ?_
    refine Wp.seq ?_
    refine Wp.seq ?_
    refine Wp.reg allGen ?_
    refine Tr.move rfl rfl trivial rfl ?_
    refine Tr.lss rfl rfl (by first | with_reducible assumption | exact decide_eq_true (by omega) | exact decide_eq_false (by omega) | exact beq_iff_eq.2 (by omega) | exact beq_eq_false_iff_ne.2 (by omega) | exact bne_iff_ne.2 (by omega) | rfl) rfl trivial rfl ?_
    refine Tr.nil ?_ (fun _ => rfl) (List.Perm.refl _)
    refine Wp.condF rfl ?_
    refine Wp.exit ?_
    exact ⟨rfl, f, fun j => by have := hb j; omega, hv, Wk.mk (by repeat (first | exact ESub.nil | refine ESub.cons rfl (by first | rfl | (simp; done) | (simp; omega)) ?_)) (MSub.cons (by repeat (first | exact .here | apply Pick.there | apply Pick.append)) rfl (MSub.cons (by repeat (first | exact .here | apply Pick.there | apply Pick.append)) rfl .nil))⟩
  | succ r ih =>
    intro i f hi hb hv
    have hb1 : ∀ j, f j ≤ i * 4294836225 + 4294836225 := fun j => Nat.le_trans (hb j) (Nat.le_add_right _ _)
    have hb2 : ∀ j, i + 0 ≤ j → f j ≤ i * 4294836225 := fun j _ => hb j
    have hin := mulw_in X Y hY b4 b5 b6 b7 z4 (g := ⟨114, w0, may⟩) rfl i (by omega) 16 0 f (by omega) hb1 hb2 (by rw [hv, Nat.pow_zero, Nat.mod_one, Nat.mul_zero, Nat.mul_zero, Nat.add_zero])
    refine WpL.step ?_
    refine Wp.seq ?_
    refine Wp.seq ?_
    refine Wp.reg allGen ?_
    refine Tr.move rfl rfl trivial rfl ?_
    refine Tr.lss rfl rfl (by first | with_reducible assumption | exact decide_eq_true (by omega) | exact decide_eq_false (by omega) | exact beq_iff_eq.2 (by omega) | exact beq_eq_false_iff_ne.2 (by omega) | exact bne_iff_ne.2 (by omega) | rfl) rfl trivial rfl ?_
    refine Tr.nil ?_ (fun _ => rfl) (List.Perm.refl _)
    refine Wp.condT rfl ?_
    refine Wp.skip ?_
    refine Wp.seq ?_
    refine Wp.block ?_
    refine Wp.seq ?_
    refine Wp.reg allGen ?_
    refine Tr.assign rfl rfl trivial rfl ?_
    refine Tr.nil ?_ (fun _ => rfl) (List.Perm.refl _)
    refine Wp.block ?_
    refine Wp.loopQ (hin) (Wk.mk (by repeat (first | exact ESub.nil | refine ESub.cons rfl (by first | rfl | (simp; done) | (simp; omega)) ?_)) (MSub.refl _)) ?_
    rintro _ env1 mem1 ⟨rfl, f1, h1, h2, hw1⟩
    refine Wp.weak ?_ hw1
    refine Wp.reg allGen ?_
    refine Tr.move rfl rfl trivial rfl ?_
    refine Tr.add rfl rfl (by first | exact wrap_i64 (by omega) (by omega) | rfl) rfl trivial rfl ?_
    refine Tr.assign rfl rfl trivial rfl ?_
    refine Tr.nil ?_ (fun _ => rfl) (List.Perm.refl _)
    exact WpL.weak (ih (i + 1) f1 (by omega) h1 h2) ⟨fun a ha => EH.sub (ESub.sub (by repeat (first | exact ESub.nil | refine ESub.cons rfl (by first | rfl | (simp; done) | (simp; omega)) ?_))) a ha, fun w hw => hw⟩
end

/-! ### the first fold -/
def lowf (f : Nat → Nat) : Nat → Nat := fun j => f j + 38 * f (16 + j)
theorem low_loop {g : Gh} (hg : g.n = 114) (f : Nat → Nat) (hf : ∀ j, f j ≤ 68717379600) (b4 b7 b10 : Nat) (z4 : List Value) : ∀ (r i : Nat), i + r = 16 →
    WpL Try.prog g loop81c (fun e env mem => e = .exit 4 ∧ Wk g env mem [(4, pt b4), (10, pt b10)] [⟨b10, fA 17 (pre 16 (lowf f)), true⟩, ⟨b4, z4, true⟩])
      [(4, pt b4), (7, pt b7), (10, pt b10), (11, i64 i)] [⟨b10, fA 17 (pre i (lowf f)), true⟩, ⟨b7, fA 32 f, true⟩, ⟨b4, z4, true⟩] := by
  obtain ⟨gn, w0, may⟩ := g
  obtain rfl : gn = 114 := hg
  intro r
  induction r with
  | zero =>
    intro i hi
    obtain rfl : i = 16 := by omega
    refine WpL.step ?_
    refine Wp.seq ?_
    refine Wp.seq ?_
    refine Wp.reg allGen ?_
    refine Tr.move rfl rfl trivial rfl ?_
    refine Tr.lss rfl rfl (by first | with_reducible assumption | exact decide_eq_true (by omega) | exact decide_eq_false (by omega) | exact beq_iff_eq.2 (by omega) | exact beq_eq_false_iff_ne.2 (by omega) | exact bne_iff_ne.2 (by omega) | rfl) rfl trivial rfl ?_
    refine Tr.nil ?_ (fun _ => rfl) (List.Perm.refl _)
    refine Wp.condF rfl ?_
    refine Wp.exit ?_
    exact ⟨rfl, Wk.mk (by repeat (first | exact ESub.nil | refine ESub.cons rfl (by first | rfl | (simp; done) | (simp; omega)) ?_)) (MSub.cons (by repeat (first | exact .here | apply Pick.there | apply Pick.append)) rfl (MSub.cons (by repeat (first | exact .here | apply Pick.there | apply Pick.append)) rfl .nil))⟩
  | succ r ih =>
    intro i hi
    have hih := ih (i + 1) (by omega)
    rw [pre_step 17 i, ← fA_set] at hih
    have hlen := fA_len 17 (pre i (lowf f))
    have g1 := fA_get (n := 32) f (i := i) (by omega)
    have g2 := fA_get (n := 32) f (i := 16 + i) (by omega)
    have h1 := hf i
    have h2 := hf (16 + i)
    have hl : lowf f i = f i + 38 * f (16 + i) := rfl
    rw [hl] at hih
    have hidx : (16 + (i : Int)).toNat = 16 + i := by omega
    have ei : ((i : Nat) : Int).toNat = i := by omega
    clear hf hl ih
    generalize f i = x at *
    generalize f (16 + i) = y at *
    rw [← hidx] at g2
    generalize fA 32 f = O at *
    generalize fA 17 (pre i (lowf f)) = L at *
    refine WpL.step ?_
    refine Wp.seq ?_
    refine Wp.seq ?_
    refine Wp.reg allGen ?_
    refine Tr.move rfl rfl trivial rfl ?_
    refine Tr.lss rfl rfl (by first | with_reducible assumption | exact decide_eq_true (by omega) | exact decide_eq_false (by omega) | exact beq_iff_eq.2 (by omega) | exact beq_eq_false_iff_ne.2 (by omega) | exact bne_iff_ne.2 (by omega) | rfl) rfl trivial rfl ?_
    refine Tr.nil ?_ (fun _ => rfl) (List.Perm.refl _)
    refine Wp.condT rfl ?_
    refine Wp.skip ?_
    refine Wp.seq ?_
    refine Wp.block ?_
    refine Wp.regE kindOf mo (by kernel_rfl) ?_
    refine Tr.move rfl rfl trivial rfl ?_
    refine Tr.move rfl rfl trivial rfl ?_
    first | refine Tr.indexAddr01 tab rfl rfl rfl rfl rfl (by omega) (by omega) rfl trivial rfl ?_ | refine Tr.indexAddr1 tab rfl rfl rfl rfl rfl (by omega) (by omega) rfl trivial rfl ?_
    refine Tr.loadS tab rfl rfl rfl (by repeat (first | exact .head _ | refine .tail _ ?_ | refine List.mem_append_right _ ?_)) g1 rfl trivial rfl ?_
    refine Tr.move rfl rfl trivial rfl ?_
    refine Tr.add rfl rfl (by first | exact wrap_i64 (by omega) (by omega) | rfl) rfl trivial rfl ?_
    first | refine Tr.indexAddr01 tab rfl rfl rfl rfl rfl (by omega) (by omega) rfl trivial rfl ?_ | refine Tr.indexAddr1 tab rfl rfl rfl rfl rfl (by omega) (by omega) rfl trivial rfl ?_
    refine Tr.loadS tab rfl rfl rfl (by repeat (first | exact .head _ | refine .tail _ ?_ | refine List.mem_append_right _ ?_)) g2 rfl trivial rfl ?_
    refine Tr.mul rfl rfl (by first | exact wrap_i64 (by omega) (by omega) | rfl) rfl trivial rfl ?_
    refine Tr.add (r := ((x + 38 * y : Nat) : Int)) rfl rfl ((wrap_i64 (by omega) (by omega)).trans (by omega)) rfl trivial rfl ?_
    first | refine Tr.indexAddr01 tab rfl rfl rfl rfl rfl (by omega) (by omega) rfl trivial rfl ?_ | refine Tr.indexAddr1 tab rfl rfl rfl rfl rfl (by omega) (by omega) rfl trivial rfl ?_
    refine Tr.storeS tab rfl rfl rfl rfl (by repeat (first | exact .here | apply MU.there | apply MU.app)) (by omega) trivial rfl ?_
    refine Tr.nil ?_ (fun _ => rfl) (List.Perm.refl _)
    refine Wp.reg allGen ?_
    refine Tr.move rfl rfl trivial rfl ?_
    refine Tr.add rfl rfl (by first | exact wrap_i64 (by omega) (by omega) | rfl) rfl trivial rfl ?_
    refine Tr.assign rfl rfl trivial rfl ?_
    refine Tr.nil ?_ (fun _ => rfl) (List.Perm.refl _)
    exact WpL.weak hih (Wk.mk (by repeat (first | exact ESub.nil | refine ESub.cons rfl (by first | rfl | (simp; done) | (simp; omega)) ?_)) (by repeat (first | exact MSub.nil | refine MSub.cons (by repeat (first | exact .here | apply Pick.there | apply Pick.append)) (by first | rfl | (simp; done)) ?_)))

/-! ### a round of carries -/
theorem carry_alg {f : Nat → Nat} {V i : Nat} (hi : i < 16) (h : valW 17 f = V) : valW 17 (upd (upd f (i + 1) (f (i + 1) + f i / 65536)) i (f i % 65536)) = V := by
  have h1 := valW_upd (n := 17) (j := i + 1) f (f (i + 1) + f i / 65536) (by omega)
  have h2 := valW_upd (n := 17) (j := i) (upd f (i + 1) (f (i + 1) + f i / 65536)) (f i % 65536) (by omega)
  rw [upd_ne (show i ≠ i + 1 by omega)] at h2
  rw [h, Nat.add_mul, Nat.pow_succ, Nat.mul_comm (65536 ^ i) 65536, ← Nat.mul_assoc] at h1
  have e : f i * 65536 ^ i = f i % 65536 * 65536 ^ i + f i / 65536 * 65536 * 65536 ^ i := by
    rw [← Nat.add_mul]; congr 1; omega
  have e2 : f (i + 1) * (65536 * 65536 ^ i) = f (i + 1) * 65536 * 65536 ^ i := (Nat.mul_assoc ..).symm
  have e3 : f i / 65536 * (65536 * 65536 ^ i) = f i / 65536 * 65536 * 65536 ^ i := (Nat.mul_assoc ..).symm
  rw [← Nat.mul_assoc] at *
  simp only [Nat.mul_assoc] at *
  omega

abbrev Bd : Nat := 8796093022208
structure CI (V i : Nat) (f : Nat → Nat) : Prop where
  val : valW 17 f = V
  lo : ∀ j, j < i → f j < 65536
  at_ : i < 16 → f i ≤ 17592186044416
  hi : ∀ j, i < j → j < 16 → f j ≤ Bd
  z : i < 16 → f 16 = 0
  top : f 16 ≤ 268435456

theorem CI.step {V i : Nat} {f : Nat → Nat} (h : CI V i f) (hi : i < 16) : CI V (i + 1) (upd (upd f (i + 1) (f (i + 1) + f i / 65536)) i (f i % 65536)) where
  val := carry_alg hi h.val
  lo := fun j hj => by
    by_cases e : j = i
    · subst e; rw [upd_at]; omega
    · rw [upd_ne e, upd_ne (by omega)]; exact h.lo j (by omega)
  at_ := fun h16 => by
    rw [upd_ne (by omega), upd_at]
    have := h.hi (i + 1) (by omega) (by omega)
    have := h.at_ hi
    unfold Bd at *
    omega
  hi := fun j hj hj2 => by
    rw [upd_ne (by omega), upd_ne (by omega)]; exact h.hi j (by omega) hj2
  z := fun h16 => by
    rw [upd_ne (by omega), upd_ne (by omega)]; exact h.z hi
  top := by
    by_cases e : i = 15
    · subst e
      rw [upd_ne (by omega), upd_at, h.z (by omega)]
      have := h.at_ (by omega)
      omega
    · rw [upd_ne (by omega), upd_ne (by omega)]; exact h.top

theorem carry_loop {g : Gh} (hg : g.n = 114) (V : Nat) (b4 b10 : Nat) (z4 : List Value) (x12 : Value) : ∀ (r i : Nat) (f : Nat → Nat), i + r = 16 → CI V i f →
    WpL Try.prog g loop81e (fun e env mem => e = .exit 8 ∧ ∃ f, CI V 16 f ∧ Wk g env mem [(4, pt b4), (10, pt b10), (12, x12)] [⟨b10, fA 17 f, true⟩, ⟨b4, z4, true⟩])
      [(4, pt b4), (10, pt b10), (12, x12), (13, i64 i)] [⟨b10, fA 17 f, true⟩, ⟨b4, z4, true⟩] := by
  obtain ⟨gn, w0, may⟩ := g
  obtain rfl : gn = 114 := hg
  intro r
  induction r with
  | zero =>
    intro i f hi hc
    obtain rfl : i = 16 := by omega
    refine WpL.step ?_
    refine Wp.seq ?_
    refine Wp.seq ?_
    refine Wp.reg allGen ?_
    refine Tr.move rfl rfl trivial rfl ?_
    refine Tr.lss rfl rfl (by first | with_reducible assumption | exact decide_eq_true (by omega) | exact decide_eq_false (by omega) | exact beq_iff_eq.2 (by omega) | exact beq_eq_false_iff_ne.2 (by omega) | exact bne_iff_ne.2 (by omega) | rfl) rfl trivial rfl ?_
    refine Tr.nil ?_ (fun _ => rfl) (List.Perm.refl _)
    refine Wp.condF rfl ?_
    refine Wp.exit ?_
    exact ⟨rfl, f, hc, Wk.mk (by repeat (first | exact ESub.nil | refine ESub.cons rfl (by first | rfl | (simp; done) | (simp; omega)) ?_)) (by repeat (first | exact MSub.nil | refine MSub.cons (by repeat (first | exact .here | apply Pick.there | apply Pick.append)) (by first | rfl | (simp; done)) ?_))⟩
  | succ r ih =>
    intro i f hi hc
    have hih := ih (i + 1) _ (by omega) (hc.step (by omega))
    have hb1 := hc.at_ (by omega)
    have hb2 : f (i + 1) ≤ Bd := by
      by_cases e : i = 15
      · subst e; rw [hc.z (by omega)]; exact Nat.zero_le _
      · exact hc.hi (i + 1) (by omega) (by omega)
    have hb2' : f (i + 1) ≤ 8796093022208 := hb2
    clear hb2
    have hlen := fA_len 17 f
    have g1 := fA_get (n := 17) f (i := i + 1) (by omega)
    have g2 := fA_get (n := 17) f (i := i) (by omega)
    have g3 := fA_get (n := 17) (upd f (i + 1) (f (i + 1) + f i / 65536)) (i := i) (by omega)
    rw [upd_ne (show i ≠ i + 1 by omega)] at g3
    rw [← fA_set, ← fA_set] at hih
    rw [← fA_set] at g3
    have hidx : ((i : Int) + 1).toNat = i + 1 := by omega
    have ei : ((i : Nat) : Int).toNat = i := by omega
    clear ih hc
    generalize f (i + 1) = y at *
    generalize f i = x at *
    generalize fA 17 f = L at *
    have hq := quoN x 65536 (by omega)
    have hr := remN x 65536
    have hx2 : x / 65536 ≤ 268435456 := by omega
    have hs : IntKind.i64.wrap (((y : Nat) : Int) + ((x / 65536 : Nat) : Int)) = ((y + x / 65536 : Nat) : Int) := by
      generalize x / 65536 = q at hx2 ⊢
      exact (wrap_i64 (by omega) (by omega)).trans (by omega)
    rw [← hidx] at g1 g3 hih
    have hlen2 : (L.set ((i : Int) + 1).toNat (i64 ((y + x / 65536 : Nat) : Int))).length = 17 := by simp [hlen]
    refine WpL.step ?_
    refine Wp.seq ?_
    refine Wp.seq ?_
    refine Wp.reg allGen ?_
    refine Tr.move rfl rfl trivial rfl ?_
    refine Tr.lss rfl rfl (by first | with_reducible assumption | exact decide_eq_true (by omega) | exact decide_eq_false (by omega) | exact beq_iff_eq.2 (by omega) | exact beq_eq_false_iff_ne.2 (by omega) | exact bne_iff_ne.2 (by omega) | rfl) rfl trivial rfl ?_
    refine Tr.nil ?_ (fun _ => rfl) (List.Perm.refl _)
    refine Wp.condT rfl ?_
    refine Wp.skip ?_
    refine Wp.seq ?_
    refine Wp.block ?_
    refine Wp.seq ?_
    refine Wp.regE kindOf mo (by kernel_rfl) ?_
    refine Tr.move rfl rfl trivial rfl ?_
    refine Tr.add rfl rfl (by first | exact wrap_i64 (by omega) (by omega) | rfl) rfl trivial rfl ?_
    refine Tr.move rfl rfl trivial rfl ?_
    refine Tr.add rfl rfl (by first | exact wrap_i64 (by omega) (by omega) | rfl) rfl trivial rfl ?_
    first | refine Tr.indexAddr01 tab rfl rfl rfl rfl rfl (by omega) (by omega) rfl trivial rfl ?_ | refine Tr.indexAddr1 tab rfl rfl rfl rfl rfl (by omega) (by omega) rfl trivial rfl ?_
    refine Tr.loadS tab rfl rfl rfl (by repeat (first | exact .head _ | refine .tail _ ?_ | refine List.mem_append_right _ ?_)) g1 rfl trivial rfl ?_
    refine Tr.move rfl rfl trivial rfl ?_
    first | refine Tr.indexAddr01 tab rfl rfl rfl rfl rfl (by omega) (by omega) rfl trivial rfl ?_ | refine Tr.indexAddr1 tab rfl rfl rfl rfl rfl (by omega) (by omega) rfl trivial rfl ?_
    refine Tr.loadS tab rfl rfl rfl (by repeat (first | exact .head _ | refine .tail _ ?_ | refine List.mem_append_right _ ?_)) g2 rfl trivial rfl ?_
    refine Tr.quo rfl rfl (by omega) hq rfl trivial rfl ?_
    refine Tr.add rfl rfl hs rfl trivial rfl ?_
    first | refine Tr.indexAddr01 tab rfl rfl rfl rfl rfl (by omega) (by omega) rfl trivial rfl ?_ | refine Tr.indexAddr1 tab rfl rfl rfl rfl rfl (by omega) (by omega) rfl trivial rfl ?_
    refine Tr.storeS tab rfl rfl rfl rfl (by repeat (first | exact .here | apply MU.there | apply MU.app)) (by omega) trivial rfl ?_
    refine Tr.nil ?_ (fun _ => rfl) (List.Perm.refl _)
    refine Wp.reg allGen ?_
    refine Tr.move rfl rfl trivial rfl ?_
    refine Tr.move rfl rfl trivial rfl ?_
    first | refine Tr.indexAddr01 tab rfl rfl rfl rfl rfl (by omega) (by omega) rfl trivial rfl ?_ | refine Tr.indexAddr1 tab rfl rfl rfl rfl rfl (by omega) (by omega) rfl trivial rfl ?_
    refine Tr.loadS tab rfl rfl rfl (by repeat (first | exact .head _ | refine .tail _ ?_ | refine List.mem_append_right _ ?_)) g3 rfl trivial rfl ?_
    refine Tr.rem rfl rfl (by omega) hr rfl trivial rfl ?_
    first | refine Tr.indexAddr01 tab rfl rfl rfl rfl rfl (by omega) (by omega) rfl trivial rfl ?_ | refine Tr.indexAddr1 tab rfl rfl rfl rfl rfl (by omega) (by omega) rfl trivial rfl ?_
    refine Tr.storeS tab rfl rfl rfl rfl (by repeat (first | exact .here | apply MU.there | apply MU.app)) (by simp only [List.length_set]; omega) trivial rfl ?_
    refine Tr.nil ?_ (fun _ => rfl) (List.Perm.refl _)
    refine Wp.reg allGen ?_
    refine Tr.move rfl rfl trivial rfl ?_
    refine Tr.add rfl rfl (by first | exact wrap_i64 (by omega) (by omega) | rfl) rfl trivial rfl ?_
    refine Tr.assign rfl rfl trivial rfl ?_
    refine Tr.nil ?_ (fun _ => rfl) (List.Perm.refl _)
    exact WpL.weak hih (Wk.mk (by repeat (first | exact ESub.nil | refine ESub.cons rfl (by first | rfl | (simp; done) | (simp; omega)) ?_)) (by repeat (first | exact MSub.nil | refine MSub.cons (by repeat (first | exact .here | apply Pick.there | apply Pick.append)) (by first | rfl | (simp; done)) ?_)))

/-- behind a round -/
theorem CI.fin {V : Nat} {f : Nat → Nat} (h : CI V 16 f) : f 16 = V / H256 ∧ valW 16 f = V % H256 := by
  have h1 := valW_lt (n := 16) (f := f) h.lo
  have h2 := h.val
  rw [valW, pow16] at h2
  rw [pow16] at h1
  rw [← h2, Nat.mul_comm]
  exact ⟨by rw [Nat.add_mul_div_left _ _ (by decide), Nat.div_eq_of_lt h1, Nat.zero_add], by rw [Nat.add_mul_mod_self_left, Nat.mod_eq_of_lt h1]⟩

structure RI (V r : Nat) (f : Nat → Nat) : Prop where
  val : valW 17 f = itV r V
  b : ∀ j, j < 16 → f j ≤ Bd
  z : f 16 = 0
  last : r = 3 → ∀ j, j < 16 → f j < 65536

theorem RI.ci {V r : Nat} {f : Nat → Nat} (h : RI V r f) : CI (itV r V) 0 f := ⟨h.val, fun j hj => by omega, fun _ => by have := h.b 0 (by omega); unfold Bd at *; omega, fun j _ hj => h.b j hj, fun _ => h.z, by rw [h.z]; omega⟩
theorem RI.next {V r : Nat} {f : Nat → Nat} (hV : itV 2 V < H256) (h : CI (itV r V) 16 f) : RI V (r + 1) (upd (upd f 0 (f 0 + 38 * f 16)) 16 0) := by
  obtain ⟨h1, h2⟩ := h.fin
  have hv1 : valW 17 (upd f 0 (f 0 + 38 * f 16)) = valW 17 f + 38 * f 16 := by
    have := valW_upd (n := 17) (j := 0) f (f 0 + 38 * f 16) (by omega)
    rw [Nat.pow_zero, Nat.mul_one, Nat.mul_one] at this
    omega
  have e16 : upd f 0 (f 0 + 38 * f 16) 16 = f 16 := upd_ne (by omega)
  have hv2 := valW_upd (n := 17) (j := 16) (upd f 0 (f 0 + 38 * f 16)) 0 (by omega)
  rw [e16, Nat.zero_mul, Nat.add_zero] at hv2
  have hv : valW 17 f = valW 16 f + f 16 * 65536 ^ 16 := by rw [valW]
  refine ⟨?_, ?_, upd_at _ _ _, ?_⟩
  · rw [itV]
    unfold stepV
    rw [← h1, ← h2]
    generalize f 16 * 65536 ^ 16 = t at *
    omega
  · intro j hj
    rw [upd_ne (by omega)]
    have ht := h.top
    by_cases e : j = 0
    · subst e; rw [upd_at]
      have := h.lo 0 (by omega)
      unfold Bd
      omega
    · rw [upd_ne e]
      have := h.lo j (by omega)
      unfold Bd
      omega
  · intro hr j hj
    obtain rfl : r = 2 := by omega
    rw [Nat.div_eq_of_lt hV] at h1
    rw [upd_ne (by omega), h1]
    by_cases e : j = 0
    · subst e; rw [upd_at]; exact h.lo 0 (by omega)
    · rw [upd_ne e]; exact h.lo j (by omega)

theorem folds_loop {g : Gh} (hg : g.n = 114) (V : Nat) (hV : itV 2 V < H256) (b4 b10 : Nat) (z4 : List Value) : ∀ (k r : Nat) (f : Nat → Nat), r + k = 3 → RI V r f →
    WpL Try.prog g loop81d (fun e env mem => e = .exit 6 ∧ ∃ f, RI V 3 f ∧ Wk g env mem [(4, pt b4), (10, pt b10)] [⟨b10, fA 17 f, true⟩, ⟨b4, z4, true⟩])
      [(4, pt b4), (10, pt b10), (12, i64 r)] [⟨b10, fA 17 f, true⟩, ⟨b4, z4, true⟩] := by
  obtain ⟨gn, w0, may⟩ := g
  obtain rfl : gn = 114 := hg
  intro k
  induction k with
  | zero =>
    intro r f hr hc
    obtain rfl : r = 3 := by omega
    refine WpL.step ?_
    refine Wp.seq ?_
    refine Wp.seq ?_
    refine Wp.reg allGen ?_
    refine Tr.move rfl rfl trivial rfl ?_
    refine Tr.lss rfl rfl (by first | with_reducible assumption | exact decide_eq_true (by omega) | exact decide_eq_false (by omega) | exact beq_iff_eq.2 (by omega) | exact beq_eq_false_iff_ne.2 (by omega) | exact bne_iff_ne.2 (by omega) | rfl) rfl trivial rfl ?_
    refine Tr.nil ?_ (fun _ => rfl) (List.Perm.refl _)
    refine Wp.condF rfl ?_
    refine Wp.exit ?_
    exact ⟨rfl, f, hc, Wk.mk (by repeat (first | exact ESub.nil | refine ESub.cons rfl (by first | rfl | (simp; done) | (simp; omega)) ?_)) (by repeat (first | exact MSub.nil | refine MSub.cons (by repeat (first | exact .here | apply Pick.there | apply Pick.append)) (by first | rfl | (simp; done)) ?_))⟩
  | succ k ih =>
    intro r f hr hc
    have hin := carry_loop (g := ⟨114, w0, may⟩) rfl (itV r V) b4 b10 z4 (i64 r) 16 0 f (by omega) hc.ci
    have hih := fun f1 (h1 : CI (itV r V) 16 f1) => ih (r + 1) _ (by omega) (RI.next hV h1)
    clear ih
    refine WpL.step ?_
    refine Wp.seq ?_
    refine Wp.seq ?_
    refine Wp.reg allGen ?_
    refine Tr.move rfl rfl trivial rfl ?_
    refine Tr.lss rfl rfl (by first | with_reducible assumption | exact decide_eq_true (by omega) | exact decide_eq_false (by omega) | exact beq_iff_eq.2 (by omega) | exact beq_eq_false_iff_ne.2 (by omega) | exact bne_iff_ne.2 (by omega) | rfl) rfl trivial rfl ?_
    refine Tr.nil ?_ (fun _ => rfl) (List.Perm.refl _)
    refine Wp.condT rfl ?_
    refine Wp.skip ?_
    refine Wp.seq ?_
    refine Wp.block ?_
    refine Wp.seq ?_
    refine Wp.seq ?_
    refine Wp.reg allGen ?_
    refine Tr.assign rfl rfl trivial rfl ?_
    refine Tr.nil ?_ (fun _ => rfl) (List.Perm.refl _)
    refine Wp.block ?_
    refine Wp.loopQ (hin) (Wk.mk (by repeat (first | exact ESub.nil | refine ESub.cons rfl (by first | rfl | (simp; done) | (simp; omega)) ?_)) (MSub.refl _)) ?_
    rintro _ env1 mem1 ⟨rfl, f1, h1, hw1⟩
    refine Wp.weak ?_ hw1
    have hih := hih f1 h1
    have ht := h1.top
    have h0 := h1.lo 0 (by omega)
    rw [← fA_set, ← fA_set] at hih
    have g1 := fA_get (n := 17) f1 (i := 0) (by omega)
    have g2 := fA_get (n := 17) f1 (i := 16) (by omega)
    have hlen := fA_len 17 f1
    clear hin hw1 h1
    generalize f1 0 = x at *
    generalize f1 16 = y at *
    generalize fA 17 f1 = L at *
    refine Wp.seq ?_
    refine Wp.reg allGen ?_
    first | refine Tr.indexAddr01 tab rfl rfl rfl rfl rfl (by omega) (by omega) rfl trivial rfl ?_ | refine Tr.indexAddr1 tab rfl rfl rfl rfl rfl (by omega) (by omega) rfl trivial rfl ?_
    refine Tr.loadS tab rfl rfl rfl (by repeat (first | exact .head _ | refine .tail _ ?_ | refine List.mem_append_right _ ?_)) g1 rfl trivial rfl ?_
    first | refine Tr.indexAddr01 tab rfl rfl rfl rfl rfl (by omega) (by omega) rfl trivial rfl ?_ | refine Tr.indexAddr1 tab rfl rfl rfl rfl rfl (by omega) (by omega) rfl trivial rfl ?_
    refine Tr.loadS tab rfl rfl rfl (by repeat (first | exact .head _ | refine .tail _ ?_ | refine List.mem_append_right _ ?_)) g2 rfl trivial rfl ?_
    refine Tr.mul rfl rfl (by first | exact wrap_i64 (by omega) (by omega) | rfl) rfl trivial rfl ?_
    refine Tr.add (r := ((x + 38 * y : Nat) : Int)) rfl rfl ((wrap_i64 (by omega) (by omega)).trans (by omega)) rfl trivial rfl ?_
    first | refine Tr.indexAddr01 tab rfl rfl rfl rfl rfl (by omega) (by omega) rfl trivial rfl ?_ | refine Tr.indexAddr1 tab rfl rfl rfl rfl rfl (by omega) (by omega) rfl trivial rfl ?_
    refine Tr.storeS tab rfl rfl rfl rfl (by repeat (first | exact .here | apply MU.there | apply MU.app)) (by rw [hlen]; decide) trivial rfl ?_
    refine Tr.nil ?_ (fun _ => rfl) (List.Perm.refl _)
    refine Wp.reg allGen ?_
    first | refine Tr.indexAddr01 tab rfl rfl rfl rfl rfl (by omega) (by omega) rfl trivial rfl ?_ | refine Tr.indexAddr1 tab rfl rfl rfl rfl rfl (by omega) (by omega) rfl trivial rfl ?_
    refine Tr.storeS tab rfl rfl rfl rfl (by repeat (first | exact .here | apply MU.there | apply MU.app)) (by simp [hlen]) trivial rfl ?_
    refine Tr.nil ?_ (fun _ => rfl) (List.Perm.refl _)
    refine Wp.reg allGen ?_
    refine Tr.move rfl rfl trivial rfl ?_
    refine Tr.add rfl rfl (by first | exact wrap_i64 (by omega) (by omega) | rfl) rfl trivial rfl ?_
    refine Tr.assign rfl rfl trivial rfl ?_
    refine Tr.nil ?_ (fun _ => rfl) (List.Perm.refl _)
    exact WpL.weak hih (Wk.mk (by repeat (first | exact ESub.nil | refine ESub.cons rfl (by first | rfl | (simp; done) | (simp; omega)) ?_)) (by repeat (first | exact MSub.nil | refine MSub.cons (by repeat (first | exact .here | apply Pick.there | apply Pick.append)) (by first | rfl | (simp; done)) ?_)))
end Go.Proofs.Ytffghaeaohabhaa.AW
