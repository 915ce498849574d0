import Derived.Test.YtffghaeaohabhaaF1
import Derived.Test.YtffghaeaohabhaaGe
import Derived.Test.YtffghaeaohabhaaOp7
namespace Go.Proofs.Ytffghaeaohabhaa.AW
open Go NT
set_option maxRecDepth 100000

theorem P_38 : 115792089237316195423570985008687907853269984665640564039457584007913129639936 = 2 * P + 38 := by rw [P_eq]

/-! ### fold -/
def loop158 : Code := (Code.seq (Code.seq (Code.region 1 #[{ dst := (some 8), op := (Op.move (Operand.tmp 1)), type := 121, pos := "field.go:59", after := #[], guard := none }, { dst := (some 9), op := (Op.binOp BinOp.gtr 121 (Operand.tmp 8) (Operand.const (Value.int IntKind.u64 0)) 121), type := 4, pos := "field.go:59", after := #[{ on := 0, ground := Ground.data }], guard := none }] false) (Code.cond (Operand.tmp 9) Code.skip (Code.exit 0))) (Code.block 1 (Code.seq (Code.region 2 #[{ dst := (some 11), op := (Op.move (Operand.tmp 1)), type := 121, pos := "field.go:60", after := #[], guard := none }, { dst := (some 12), op := (Op.call { callee := (Callee.value (Operand.func 101)), args := #[(Operand.tmp 11), (Operand.const (Value.int IntKind.u64 38))], argTypes := #[121, 121] }), type := 122, pos := "field.go:60", after := #[{ on := 0, ground := Ground.data }], guard := none }, { dst := (some 10), op := (Op.move (Operand.tmp 12)), type := 122, pos := "field.go:60", after := #[{ on := 1, ground := Ground.data }], guard := none }, { dst := (some 13), op := (Op.extract (Operand.tmp 10) 0), type := 121, pos := "field.go:60", after := #[{ on := 2, ground := Ground.data }], guard := none }, { dst := (some 14), op := (Op.extract (Operand.tmp 10) 1), type := 121, pos := "field.go:60", after := #[{ on := 2, ground := Ground.data }, { on := 5, ground := (Ground.gcOnly Departure.lateStores) }], guard := none }, { dst := (some 5), op := (Op.assign (Operand.tmp 13)), type := 121, pos := "field.go:60", after := #[{ on := 3, ground := Ground.data }, { on := 1, ground := Ground.chain }, { on := 0, ground := Ground.phase }, { on := 1, ground := Ground.phase }, { on := 2, ground := Ground.phase }, { on := 3, ground := Ground.phase }, { on := 4, ground := (Ground.textOnly Departure.lateStores) }], guard := none }, { dst := (some 6), op := (Op.assign (Operand.tmp 14)), type := 121, pos := "field.go:60", after := #[{ on := 4, ground := Ground.data }, { on := 5, ground := Ground.chain }, { on := 0, ground := Ground.phase }, { on := 1, ground := Ground.phase }, { on := 2, ground := Ground.phase }, { on := 3, ground := Ground.phase }, { on := 4, ground := Ground.phase }, { on := 5, ground := Ground.phase }], guard := none }] false) (Code.seq (Code.region 3 #[{ dst := (some 7), op := (Op.assign (Operand.const (Value.int IntKind.u64 0))), type := 121, pos := "field.go:61", after := #[], guard := none }] false) (Code.seq (Code.region 4 #[{ dst := (some 16), op := (Op.indexAddr 148 (Operand.tmp 2) (Operand.const (Value.int IntKind.i64 0))), type := 0, pos := "field.go:62", after := #[], guard := none }, { dst := (some 17), op := (Op.load 121 (Operand.tmp 16)), type := 121, pos := "field.go:62", after := #[{ on := 0, ground := Ground.data }], guard := none }, { dst := (some 18), op := (Op.move (Operand.tmp 6)), type := 121, pos := "field.go:62", after := #[], guard := none }, { dst := (some 19), op := (Op.call { callee := (Callee.value (Operand.func 98)), args := #[(Operand.tmp 17), (Operand.tmp 18), (Operand.const (Value.int IntKind.u64 0))], argTypes := #[121, 121, 121] }), type := 122, pos := "field.go:62", after := #[{ on := 1, ground := Ground.data }, { on := 2, ground := Ground.data }], guard := none }, { dst := (some 15), op := (Op.move (Operand.tmp 19)), type := 122, pos := "field.go:62", after := #[{ on := 3, ground := Ground.data }], guard := none }, { dst := (some 20), op := (Op.extract (Operand.tmp 15) 0), type := 121, pos := "field.go:62", after := #[{ on := 4, ground := Ground.data }], guard := none }, { dst := (some 21), op := (Op.extract (Operand.tmp 15) 1), type := 121, pos := "field.go:62", after := #[{ on := 4, ground := Ground.data }, { on := 8, ground := (Ground.gcOnly Departure.lateStores) }], guard := none }, { dst := (some 22), op := (Op.indexAddr 148 (Operand.tmp 2) (Operand.const (Value.int IntKind.i64 0))), type := 0, pos := "field.go:62", after := #[{ on := 0, ground := Ground.phase }, { on := 1, ground := Ground.phase }, { on := 2, ground := Ground.phase }, { on := 3, ground := Ground.phase }, { on := 4, ground := Ground.phase }, { on := 5, ground := Ground.phase }, { on := 6, ground := (Ground.textOnly Departure.lateStores) }], guard := none }, { dst := none, op := (Op.store 121 (Operand.tmp 22) (Operand.tmp 20)), type := 0, pos := "field.go:62", after := #[{ on := 7, ground := Ground.data }, { on := 5, ground := Ground.data }, { on := 3, ground := Ground.chain }, { on := 0, ground := Ground.phase }, { on := 1, ground := Ground.phase }, { on := 2, ground := Ground.phase }, { on := 3, ground := Ground.phase }, { on := 4, ground := Ground.phase }, { on := 5, ground := Ground.phase }, { on := 6, ground := (Ground.textOnly Departure.lateStores) }], guard := none }, { dst := (some 7), op := (Op.assign (Operand.tmp 21)), type := 121, pos := "field.go:62", after := #[{ on := 6, ground := Ground.data }, { on := 8, ground := Ground.chain }, { on := 0, ground := Ground.phase }, { on := 1, ground := Ground.phase }, { on := 2, ground := Ground.phase }, { on := 3, ground := Ground.phase }, { on := 4, ground := Ground.phase }, { on := 5, ground := Ground.phase }, { on := 6, ground := Ground.phase }, { on := 7, ground := Ground.phase }, { on := 8, ground := Ground.phase }], guard := none }] false) (Code.seq (Code.region 5 #[{ dst := (some 24), op := (Op.indexAddr 148 (Operand.tmp 2) (Operand.const (Value.int IntKind.i64 1))), type := 0, pos := "field.go:63", after := #[], guard := none }, { dst := (some 25), op := (Op.load 121 (Operand.tmp 24)), type := 121, pos := "field.go:63", after := #[{ on := 0, ground := Ground.data }], guard := none }, { dst := (some 26), op := (Op.move (Operand.tmp 5)), type := 121, pos := "field.go:63", after := #[], guard := none }, { dst := (some 27), op := (Op.move (Operand.tmp 7)), type := 121, pos := "field.go:63", after := #[], guard := none }, { dst := (some 28), op := (Op.call { callee := (Callee.value (Operand.func 98)), args := #[(Operand.tmp 25), (Operand.tmp 26), (Operand.tmp 27)], argTypes := #[121, 121, 121] }), type := 122, pos := "field.go:63", after := #[{ on := 1, ground := Ground.data }, { on := 2, ground := Ground.data }, { on := 3, ground := Ground.data }], guard := none }, { dst := (some 23), op := (Op.move (Operand.tmp 28)), type := 122, pos := "field.go:63", after := #[{ on := 4, ground := Ground.data }], guard := none }, { dst := (some 29), op := (Op.extract (Operand.tmp 23) 0), type := 121, pos := "field.go:63", after := #[{ on := 5, ground := Ground.data }], guard := none }, { dst := (some 30), op := (Op.extract (Operand.tmp 23) 1), type := 121, pos := "field.go:63", after := #[{ on := 5, ground := Ground.data }, { on := 9, ground := (Ground.gcOnly Departure.lateStores) }], guard := none }, { dst := (some 31), op := (Op.indexAddr 148 (Operand.tmp 2) (Operand.const (Value.int IntKind.i64 1))), type := 0, pos := "field.go:63", after := #[{ on := 0, ground := Ground.phase }, { on := 1, ground := Ground.phase }, { on := 2, ground := Ground.phase }, { on := 3, ground := Ground.phase }, { on := 4, ground := Ground.phase }, { on := 5, ground := Ground.phase }, { on := 6, ground := Ground.phase }, { on := 7, ground := (Ground.textOnly Departure.lateStores) }], guard := none }, { dst := none, op := (Op.store 121 (Operand.tmp 31) (Operand.tmp 29)), type := 0, pos := "field.go:63", after := #[{ on := 8, ground := Ground.data }, { on := 6, ground := Ground.data }, { on := 4, ground := Ground.chain }, { on := 0, ground := Ground.phase }, { on := 1, ground := Ground.phase }, { on := 2, ground := Ground.phase }, { on := 3, ground := Ground.phase }, { on := 4, ground := Ground.phase }, { on := 5, ground := Ground.phase }, { on := 6, ground := Ground.phase }, { on := 7, ground := (Ground.textOnly Departure.lateStores) }], guard := none }, { dst := (some 7), op := (Op.assign (Operand.tmp 30)), type := 121, pos := "field.go:63", after := #[{ on := 7, ground := Ground.data }, { on := 9, ground := Ground.chain }, { on := 0, ground := Ground.phase }, { on := 1, ground := Ground.phase }, { on := 2, ground := Ground.phase }, { on := 3, ground := Ground.phase }, { on := 4, ground := Ground.phase }, { on := 5, ground := Ground.phase }, { on := 6, ground := Ground.phase }, { on := 7, ground := Ground.phase }, { on := 8, ground := Ground.phase }, { on := 9, ground := Ground.phase }], guard := none }] false) (Code.seq (Code.region 6 #[{ dst := (some 33), op := (Op.indexAddr 148 (Operand.tmp 2) (Operand.const (Value.int IntKind.i64 2))), type := 0, pos := "field.go:64", after := #[], guard := none }, { dst := (some 34), op := (Op.load 121 (Operand.tmp 33)), type := 121, pos := "field.go:64", after := #[{ on := 0, ground := Ground.data }], guard := none }, { dst := (some 35), op := (Op.move (Operand.tmp 7)), type := 121, pos := "field.go:64", after := #[], guard := none }, { dst := (some 36), op := (Op.call { callee := (Callee.value (Operand.func 98)), args := #[(Operand.tmp 34), (Operand.const (Value.int IntKind.u64 0)), (Operand.tmp 35)], argTypes := #[121, 121, 121] }), type := 122, pos := "field.go:64", after := #[{ on := 1, ground := Ground.data }, { on := 2, ground := Ground.data }], guard := none }, { dst := (some 32), op := (Op.move (Operand.tmp 36)), type := 122, pos := "field.go:64", after := #[{ on := 3, ground := Ground.data }], guard := none }, { dst := (some 37), op := (Op.extract (Operand.tmp 32) 0), type := 121, pos := "field.go:64", after := #[{ on := 4, ground := Ground.data }], guard := none }, { dst := (some 38), op := (Op.extract (Operand.tmp 32) 1), type := 121, pos := "field.go:64", after := #[{ on := 4, ground := Ground.data }, { on := 8, ground := (Ground.gcOnly Departure.lateStores) }], guard := none }, { dst := (some 39), op := (Op.indexAddr 148 (Operand.tmp 2) (Operand.const (Value.int IntKind.i64 2))), type := 0, pos := "field.go:64", after := #[{ on := 0, ground := Ground.phase }, { on := 1, ground := Ground.phase }, { on := 2, ground := Ground.phase }, { on := 3, ground := Ground.phase }, { on := 4, ground := Ground.phase }, { on := 5, ground := Ground.phase }, { on := 6, ground := (Ground.textOnly Departure.lateStores) }], guard := none }, { dst := none, op := (Op.store 121 (Operand.tmp 39) (Operand.tmp 37)), type := 0, pos := "field.go:64", after := #[{ on := 7, ground := Ground.data }, { on := 5, ground := Ground.data }, { on := 3, ground := Ground.chain }, { on := 0, ground := Ground.phase }, { on := 1, ground := Ground.phase }, { on := 2, ground := Ground.phase }, { on := 3, ground := Ground.phase }, { on := 4, ground := Ground.phase }, { on := 5, ground := Ground.phase }, { on := 6, ground := (Ground.textOnly Departure.lateStores) }], guard := none }, { dst := (some 7), op := (Op.assign (Operand.tmp 38)), type := 121, pos := "field.go:64", after := #[{ on := 6, ground := Ground.data }, { on := 8, ground := Ground.chain }, { on := 0, ground := Ground.phase }, { on := 1, ground := Ground.phase }, { on := 2, ground := Ground.phase }, { on := 3, ground := Ground.phase }, { on := 4, ground := Ground.phase }, { on := 5, ground := Ground.phase }, { on := 6, ground := Ground.phase }, { on := 7, ground := Ground.phase }, { on := 8, ground := Ground.phase }], guard := none }] false) (Code.seq (Code.region 7 #[{ dst := (some 41), op := (Op.indexAddr 148 (Operand.tmp 2) (Operand.const (Value.int IntKind.i64 3))), type := 0, pos := "field.go:65", after := #[], guard := none }, { dst := (some 42), op := (Op.load 121 (Operand.tmp 41)), type := 121, pos := "field.go:65", after := #[{ on := 0, ground := Ground.data }], guard := none }, { dst := (some 43), op := (Op.move (Operand.tmp 7)), type := 121, pos := "field.go:65", after := #[], guard := none }, { dst := (some 44), op := (Op.call { callee := (Callee.value (Operand.func 98)), args := #[(Operand.tmp 42), (Operand.const (Value.int IntKind.u64 0)), (Operand.tmp 43)], argTypes := #[121, 121, 121] }), type := 122, pos := "field.go:65", after := #[{ on := 1, ground := Ground.data }, { on := 2, ground := Ground.data }], guard := none }, { dst := (some 40), op := (Op.move (Operand.tmp 44)), type := 122, pos := "field.go:65", after := #[{ on := 3, ground := Ground.data }], guard := none }, { dst := (some 45), op := (Op.extract (Operand.tmp 40) 0), type := 121, pos := "field.go:65", after := #[{ on := 4, ground := Ground.data }], guard := none }, { dst := (some 46), op := (Op.extract (Operand.tmp 40) 1), type := 121, pos := "field.go:65", after := #[{ on := 4, ground := Ground.data }, { on := 8, ground := (Ground.gcOnly Departure.lateStores) }], guard := none }, { dst := (some 47), op := (Op.indexAddr 148 (Operand.tmp 2) (Operand.const (Value.int IntKind.i64 3))), type := 0, pos := "field.go:65", after := #[{ on := 0, ground := Ground.phase }, { on := 1, ground := Ground.phase }, { on := 2, ground := Ground.phase }, { on := 3, ground := Ground.phase }, { on := 4, ground := Ground.phase }, { on := 5, ground := Ground.phase }, { on := 6, ground := (Ground.textOnly Departure.lateStores) }], guard := none }, { dst := none, op := (Op.store 121 (Operand.tmp 47) (Operand.tmp 45)), type := 0, pos := "field.go:65", after := #[{ on := 7, ground := Ground.data }, { on := 5, ground := Ground.data }, { on := 3, ground := Ground.chain }, { on := 0, ground := Ground.phase }, { on := 1, ground := Ground.phase }, { on := 2, ground := Ground.phase }, { on := 3, ground := Ground.phase }, { on := 4, ground := Ground.phase }, { on := 5, ground := Ground.phase }, { on := 6, ground := (Ground.textOnly Departure.lateStores) }], guard := none }, { dst := (some 7), op := (Op.assign (Operand.tmp 46)), type := 121, pos := "field.go:65", after := #[{ on := 6, ground := Ground.data }, { on := 8, ground := Ground.chain }, { on := 0, ground := Ground.phase }, { on := 1, ground := Ground.phase }, { on := 2, ground := Ground.phase }, { on := 3, ground := Ground.phase }, { on := 4, ground := Ground.phase }, { on := 5, ground := Ground.phase }, { on := 6, ground := Ground.phase }, { on := 7, ground := Ground.phase }, { on := 8, ground := Ground.phase }], guard := none }] false) (Code.region 8 #[{ dst := (some 48), op := (Op.move (Operand.tmp 7)), type := 121, pos := "field.go:66", after := #[], guard := none }, { dst := (some 1), op := (Op.assign (Operand.tmp 48)), type := 121, pos := "field.go:66", after := #[{ on := 0, ground := Ground.data }, { on := 0, ground := Ground.phase }], guard := none }] false)))))))))

theorem fold_next {g : Gh} (hg : g.n = 51) (b2 b4 : Nat) (z : List Value) (x0 x1 x2 x3 top : UInt64) (ht : top.toNat ≠ 0) {Q : Exit → Env → Mem → Prop}
    (hnext : WpL Try.prog g loop158 Q [(1, u64 (addC x3 0 (addC x2 0 (addC x1 (mulHi top 38) (addC x0 (top * 38) 0))))), (2, .pointer (some ⟨b2, 0, none⟩)), (4, .pointer (some ⟨b4, 0, none⟩))]
      [⟨b2, u64s [x0 + top * 38 + 0, x1 + mulHi top 38 + addC x0 (top * 38) 0, x2 + 0 + addC x1 (mulHi top 38) (addC x0 (top * 38) 0), x3 + 0 + addC x2 0 (addC x1 (mulHi top 38) (addC x0 (top * 38) 0))], true⟩, ⟨b4, z, true⟩]) :
    WpL Try.prog g loop158 Q [(1, u64 top), (2, .pointer (some ⟨b2, 0, none⟩)), (4, .pointer (some ⟨b4, 0, none⟩))] [⟨b2, u64s [x0, x1, x2, x3], true⟩, ⟨b4, z, true⟩] := by
  obtain ⟨gn, w0, may⟩ := g
  obtain rfl : gn = 51 := hg
  have c0 : (addC x0 (top * 38) 0).toNat ≤ 1 := addC_le _ _ _ (by decide)
  have c1 : (addC x1 (mulHi top 38) (addC x0 (top * 38) 0)).toNat ≤ 1 := addC_le _ _ _ c0
  have c2 : (addC x2 0 (addC x1 (mulHi top 38) (addC x0 (top * 38) 0))).toNat ≤ 1 := addC_le _ _ _ c1
  refine WpL.step ?_
  refine Wp.seq ?_
  refine Wp.seq ?_
  refine Wp.reg allGen ?_
  refine Tr.move rfl rfl trivial rfl ?_
  refine Tr.gtr (r := true) rfl rfl (by first | with_reducible assumption | exact decide_eq_true (by omega) | exact decide_eq_false (by omega) | exact beq_iff_eq.2 (by omega) | exact beq_eq_false_iff_ne.2 (by omega) | exact bne_iff_ne.2 (by omega) | rfl) rfl trivial rfl ?_
  refine Tr.nil ?_ (fun _ => rfl) (List.Perm.refl _)
  refine Wp.condT rfl ?_
  refine Wp.skip ?_
  refine Wp.block ?_
  refine Wp.seq ?_
  refine Wp.reg allGen ?_
  refine Tr.move rfl rfl trivial rfl ?_
  refine Tr.call rfl (f101_mul64 top 38) (by repeat (first | exact Has.nil | refine Has.cons (by repeat (first | exact .head _ | refine .tail _ ?_ | refine List.mem_append_right _ ?_)) ?_)) rfl trivial rfl ?_
  refine Tr.move rfl rfl trivial rfl ?_
  refine Tr.extract rfl rfl rfl trivial rfl ?_
  refine Tr.extract rfl rfl rfl trivial rfl ?_
  refine Tr.assign rfl rfl trivial rfl ?_
  refine Tr.assign rfl rfl trivial rfl ?_
  refine Tr.nil ?_ (fun _ => rfl) (List.Perm.refl _)
  refine Wp.seq ?_
  refine Wp.reg allGen ?_
  refine Tr.assign (v := u64 0) rfl rfl trivial rfl ?_
  refine Tr.nil ?_ (fun _ => rfl) (List.Perm.refl _)
  refine Wp.seq ?_
  refine Wp.reg allGen ?_
  first | refine Tr.indexAddr01 tab rfl rfl rfl rfl rfl (by omega) (by omega) rfl trivial rfl ?_ | refine Tr.indexAddr1 tab rfl rfl rfl rfl rfl (by omega) (by omega) rfl trivial rfl ?_
  refine Tr.loadS tab rfl rfl rfl (by repeat (first | exact .head _ | refine .tail _ ?_ | refine List.mem_append_right _ ?_)) (by first | rfl | with_reducible assumption | assumption | (simp; done)) rfl trivial rfl ?_
  refine Tr.move rfl rfl trivial rfl ?_
  refine Tr.callX (vs := [u64 x0, u64 (top * 38), u64 0]) rfl (add64 _ _ 0 (by decide)) rfl trivial rfl ?_
  refine Tr.move rfl rfl trivial rfl ?_
  refine Tr.extract rfl rfl rfl trivial rfl ?_
  refine Tr.extract rfl rfl rfl trivial rfl ?_
  first | refine Tr.indexAddr01 tab rfl rfl rfl rfl rfl (by omega) (by omega) rfl trivial rfl ?_ | refine Tr.indexAddr1 tab rfl rfl rfl rfl rfl (by omega) (by omega) rfl trivial rfl ?_
  refine Tr.storeS tab rfl rfl rfl rfl (by repeat (first | exact .here | apply MU.there | apply MU.app)) (by first | decide | (simp; done) | (simp; omega) | exact Nat.le_of_ble_eq_true rfl) trivial rfl ?_
  refine Tr.assign rfl rfl trivial rfl ?_
  refine Tr.nil ?_ (fun _ => rfl) (List.Perm.refl _)
  refine Wp.seq ?_
  refine Wp.reg allGen ?_
  first | refine Tr.indexAddr01 tab rfl rfl rfl rfl rfl (by omega) (by omega) rfl trivial rfl ?_ | refine Tr.indexAddr1 tab rfl rfl rfl rfl rfl (by omega) (by omega) rfl trivial rfl ?_
  refine Tr.loadS tab rfl rfl rfl (by repeat (first | exact .head _ | refine .tail _ ?_ | refine List.mem_append_right _ ?_)) (by first | rfl | with_reducible assumption | assumption | (simp; done)) rfl trivial rfl ?_
  refine Tr.move rfl rfl trivial rfl ?_
  refine Tr.move rfl rfl trivial rfl ?_
  refine Tr.callX rfl (add64 _ _ _ c0) rfl trivial rfl ?_
  refine Tr.move rfl rfl trivial rfl ?_
  refine Tr.extract rfl rfl rfl trivial rfl ?_
  refine Tr.extract rfl rfl rfl trivial rfl ?_
  first | refine Tr.indexAddr01 tab rfl rfl rfl rfl rfl (by omega) (by omega) rfl trivial rfl ?_ | refine Tr.indexAddr1 tab rfl rfl rfl rfl rfl (by omega) (by omega) rfl trivial rfl ?_
  refine Tr.storeS tab rfl rfl rfl rfl (by repeat (first | exact .here | apply MU.there | apply MU.app)) (by first | decide | (simp; done) | (simp; omega) | exact Nat.le_of_ble_eq_true rfl) trivial rfl ?_
  refine Tr.assign rfl rfl trivial rfl ?_
  refine Tr.nil ?_ (fun _ => rfl) (List.Perm.refl _)
  refine Wp.seq ?_
  refine Wp.reg allGen ?_
  first | refine Tr.indexAddr01 tab rfl rfl rfl rfl rfl (by omega) (by omega) rfl trivial rfl ?_ | refine Tr.indexAddr1 tab rfl rfl rfl rfl rfl (by omega) (by omega) rfl trivial rfl ?_
  refine Tr.loadS tab rfl rfl rfl (by repeat (first | exact .head _ | refine .tail _ ?_ | refine List.mem_append_right _ ?_)) (by first | rfl | with_reducible assumption | assumption | (simp; done)) rfl trivial rfl ?_
  refine Tr.move rfl rfl trivial rfl ?_
  refine Tr.callX (vs := [u64 x2, u64 0, u64 (addC x1 (mulHi top 38) (addC x0 (top * 38) 0))]) rfl (add64 _ _ _ c1) rfl trivial rfl ?_
  refine Tr.move rfl rfl trivial rfl ?_
  refine Tr.extract rfl rfl rfl trivial rfl ?_
  refine Tr.extract rfl rfl rfl trivial rfl ?_
  first | refine Tr.indexAddr01 tab rfl rfl rfl rfl rfl (by omega) (by omega) rfl trivial rfl ?_ | refine Tr.indexAddr1 tab rfl rfl rfl rfl rfl (by omega) (by omega) rfl trivial rfl ?_
  refine Tr.storeS tab rfl rfl rfl rfl (by repeat (first | exact .here | apply MU.there | apply MU.app)) (by first | decide | (simp; done) | (simp; omega) | exact Nat.le_of_ble_eq_true rfl) trivial rfl ?_
  refine Tr.assign rfl rfl trivial rfl ?_
  refine Tr.nil ?_ (fun _ => rfl) (List.Perm.refl _)
  refine Wp.seq ?_
  refine Wp.reg allGen ?_
  first | refine Tr.indexAddr01 tab rfl rfl rfl rfl rfl (by omega) (by omega) rfl trivial rfl ?_ | refine Tr.indexAddr1 tab rfl rfl rfl rfl rfl (by omega) (by omega) rfl trivial rfl ?_
  refine Tr.loadS tab rfl rfl rfl (by repeat (first | exact .head _ | refine .tail _ ?_ | refine List.mem_append_right _ ?_)) (by first | rfl | with_reducible assumption | assumption | (simp; done)) rfl trivial rfl ?_
  refine Tr.move rfl rfl trivial rfl ?_
  refine Tr.callX (vs := [u64 x3, u64 0, u64 (addC x2 0 (addC x1 (mulHi top 38) (addC x0 (top * 38) 0)))]) rfl (add64 _ _ _ c2) rfl trivial rfl ?_
  refine Tr.move rfl rfl trivial rfl ?_
  refine Tr.extract rfl rfl rfl trivial rfl ?_
  refine Tr.extract rfl rfl rfl trivial rfl ?_
  first | refine Tr.indexAddr01 tab rfl rfl rfl rfl rfl (by omega) (by omega) rfl trivial rfl ?_ | refine Tr.indexAddr1 tab rfl rfl rfl rfl rfl (by omega) (by omega) rfl trivial rfl ?_
  refine Tr.storeS tab rfl rfl rfl rfl (by repeat (first | exact .here | apply MU.there | apply MU.app)) (by first | decide | (simp; done) | (simp; omega) | exact Nat.le_of_ble_eq_true rfl) trivial rfl ?_
  refine Tr.assign rfl rfl trivial rfl ?_
  refine Tr.nil ?_ (fun _ => rfl) (List.Perm.refl _)
  refine Wp.reg allGen ?_
  refine Tr.move rfl rfl trivial rfl ?_
  refine Tr.assign rfl rfl trivial rfl ?_
  refine Tr.nil ?_ (fun _ => rfl) (List.Perm.refl _)
  exact WpL.weak hnext (Wk.mk (by repeat (first | exact ESub.nil | refine ESub.cons rfl (by first | rfl | (simp; done) | (simp; omega)) ?_)) (by repeat (first | exact MSub.nil | refine MSub.cons (by repeat (first | exact .here | apply Pick.there | apply Pick.append)) (by first | rfl | (simp; done)) ?_)))

/-- what fold's loop comes to -/
def FoldQ (g : Gh) (b2 b4 : Nat) (z : List Value) (V : Nat) : Exit → Env → Mem → Prop := fun e env mem =>
  e = .exit 0 ∧ ∃ Z : Nat, Z < 115792089237316195423570985008687907853269984665640564039457584007913129639936 ∧ Z % P = V % P ∧ Wk g env mem [(2, .pointer (some ⟨b2, 0, none⟩)), (4, .pointer (some ⟨b4, 0, none⟩))] [⟨b2, u64s (w64 4 Z), true⟩, ⟨b4, z, true⟩]

theorem fold_out {g : Gh} (hg : g.n = 51) (b2 b4 : Nat) (z : List Value) (x : List UInt64) (hx : x.length = 4) (top : UInt64) (ht : top.toNat = 0) (V : Nat) (hV : V = n64 x + 115792089237316195423570985008687907853269984665640564039457584007913129639936 * top.toNat) :
    WpL Try.prog g loop158 (FoldQ g b2 b4 z V) [(1, u64 top), (2, .pointer (some ⟨b2, 0, none⟩)), (4, .pointer (some ⟨b4, 0, none⟩))] [⟨b2, u64s x, true⟩, ⟨b4, z, true⟩] := by
  obtain ⟨gn, w0, may⟩ := g
  obtain rfl : gn = 51 := hg
  have hl := n64_lt x
  rw [hx, pow4] at hl
  have hw : x = w64 4 (n64 x) := w64_of hx rfl
  have hVx : V = n64 x := by rw [hV, ht]; omega
  rw [hVx]
  generalize n64 x = Z at *
  subst hw
  refine WpL.step ?_
  refine Wp.seq ?_
  refine Wp.seq ?_
  refine Wp.reg allGen ?_
  refine Tr.move rfl rfl trivial rfl ?_
  refine Tr.gtr (r := false) rfl rfl (by first | with_reducible assumption | exact decide_eq_true (by omega) | exact decide_eq_false (by omega) | exact beq_iff_eq.2 (by omega) | exact beq_eq_false_iff_ne.2 (by omega) | exact bne_iff_ne.2 (by omega) | rfl) rfl trivial rfl ?_
  refine Tr.nil ?_ (fun _ => rfl) (List.Perm.refl _)
  refine Wp.condF rfl ?_
  refine Wp.exit ?_
  exact ⟨rfl, Z, hl, rfl, Wk.mk (by repeat (first | exact ESub.nil | refine ESub.cons rfl (by first | rfl | (simp; done) | (simp; omega)) ?_)) (by repeat (first | exact MSub.nil | refine MSub.cons (by repeat (first | exact .here | apply Pick.there | apply Pick.append)) (by first | rfl | (simp; done)) ?_))⟩

theorem fold_step {g : Gh} (hg : g.n = 51) (b2 b4 : Nat) (z : List Value) (x : List UInt64) (hx : x.length = 4) (top : UInt64) (ht : top.toNat ≠ 0)
    (hnext : ∀ (x' : List UInt64) (top' : UInt64), x'.length = 4 → top'.toNat ≤ 1 → n64 x' + 115792089237316195423570985008687907853269984665640564039457584007913129639936 * top'.toNat = n64 x + 38 * top.toNat → WpL Try.prog g loop158 (FoldQ g b2 b4 z (n64 x' + 115792089237316195423570985008687907853269984665640564039457584007913129639936 * top'.toNat)) [(1, u64 top'), (2, .pointer (some ⟨b2, 0, none⟩)), (4, .pointer (some ⟨b4, 0, none⟩))] [⟨b2, u64s x', true⟩, ⟨b4, z, true⟩]) :
    WpL Try.prog g loop158 (FoldQ g b2 b4 z (n64 x + 115792089237316195423570985008687907853269984665640564039457584007913129639936 * top.toNat)) [(1, u64 top), (2, .pointer (some ⟨b2, 0, none⟩)), (4, .pointer (some ⟨b4, 0, none⟩))] [⟨b2, u64s x, true⟩, ⟨b4, z, true⟩] := by
  obtain ⟨x0, x1, x2, x3, rfl⟩ := split4 x hx
  have a0 := addOk x0 (top * 38) 0 u0_le
  have a1 := addOk x1 (mulHi top 38) _ a0.le
  have a2 := addOk x2 0 _ a1.le
  have a3 := addOk x3 0 _ a2.le
  have hs := add4 a0 a1 a2 a3
  have hm := (mulOk top 38).eq
  have z0 : (0 : UInt64).toNat = 0 := rfl
  have z38 : (38 : UInt64).toNat = 38 := rfl
  have hn : n64 [top * 38, mulHi top 38, 0, 0] = 38 * top.toNat := by
    simp only [n64, z0]; rw [z38] at hm; omega
  rw [hn, z0, pow4] at hs
  refine fold_next hg b2 b4 z x0 x1 x2 x3 top ht ?_
  have := hnext _ _ rfl a3.le (by omega)
  refine this.mono ?_
  rintro e env mem ⟨h1, Z, h2, h3, h4⟩
  refine ⟨h1, Z, h2, ?_, h4⟩
  rw [h3, hs]
  have h38 := P_38
  have : n64 [x0, x1, x2, x3] + 115792089237316195423570985008687907853269984665640564039457584007913129639936 * top.toNat = (n64 [x0, x1, x2, x3] + 38 * top.toNat) + P * (2 * top.toNat) := by
    rw [h38, Nat.add_mul, Nat.mul_comm 2 P, Nat.mul_assoc]; omega
  rw [this, Nat.add_mul_mod_self_left]; rfl

theorem fold_loop {g : Gh} (hg : g.n = 51) (b2 b4 : Nat) (z : List Value) (x : List UInt64) (hx : x.length = 4) (top : UInt64) :
    WpL Try.prog g loop158 (FoldQ g b2 b4 z (n64 x + 115792089237316195423570985008687907853269984665640564039457584007913129639936 * top.toNat)) [(1, u64 top), (2, .pointer (some ⟨b2, 0, none⟩)), (4, .pointer (some ⟨b4, 0, none⟩))] [⟨b2, u64s x, true⟩, ⟨b4, z, true⟩] := by
  by_cases h0 : top.toNat = 0
  · exact fold_out hg b2 b4 z x hx top h0 _ rfl
  refine fold_step hg b2 b4 z x hx top h0 fun x1 t1 hx1 ht1 he1 => ?_
  by_cases h1 : t1.toNat = 0
  · exact fold_out hg b2 b4 z x1 hx1 t1 h1 _ rfl
  refine fold_step hg b2 b4 z x1 hx1 t1 h1 fun x2 t2 hx2 ht2 he2 => ?_
  refine fold_out hg b2 b4 z x2 hx2 t2 ?_ _ rfl
  have l0 := n64_lt x; have l1 := n64_lt x1; have l2 := n64_lt x2
  rw [hx, pow4] at l0
  rw [hx1, pow4] at l1
  rw [hx2, pow4] at l2
  have := top.toNat_lt
  omega

theorem f158_fold (x : List UInt64) (hx : x.length = 4) (top : UInt64) : FnR Try.prog 158 [.agg (u64s x).toArray, u64 top] [] (el ((n64 x + 115792089237316195423570985008687907853269984665640564039457584007913129639936 * top.toNat) % P)) := by
  have hl : (u64s x).length = 4 := by simp [hx]
  refine fnR_of 51 rfl Try.func158 rfl (by kernel_rfl) rfl (by simp) fun w => ?_
  refine Wp.seq ?_
  refine Wp.reg allGen ?_
  refine Tr.boxA rfl rfl trivial rfl (fun B2 _ => ?_)
  refine Tr.alloc tab rfl rfl trivial rfl (fun B4 _ => ?_)
  refine Tr.nil ?_ (fun _ => rfl) (List.Perm.refl _)
  refine Wp.seq ?_
  refine Wp.block ?_
  refine Wp.loopQ (fold_loop rfl B2 B4 _ x hx top) (Wk.mk (by repeat (first | exact ESub.nil | refine ESub.cons rfl (by first | rfl | (simp; done) | (simp; omega)) ?_)) (by repeat (first | exact MSub.nil | refine MSub.cons (by repeat (first | exact .here | apply Pick.there | apply Pick.append)) (by first | rfl | (simp; done)) ?_))) ?_
  rintro _ env1 mem1 ⟨rfl, Z, hZ, hm, hk1⟩
  refine Wp.weak ?_ hk1
  have hfz := f159_freeze Z hZ
  rw [hm] at hfz
  refine Wp.seq ?_
  refine Wp.reg allGen ?_
  refine Tr.loadA tab rfl rfl rfl (by repeat (first | exact .head _ | refine .tail _ ?_ | refine List.mem_append_right _ ?_)) (At.all _) (el_len _) rfl trivial rfl ?_
  refine Tr.call rfl hfz (by repeat (first | exact Has.nil | refine Has.cons (by repeat (first | exact .head _ | refine .tail _ ?_ | refine List.mem_append_right _ ?_)) ?_)) rfl trivial rfl ?_
  refine Tr.storeA tab rfl rfl rfl (by repeat (first | exact .here | apply MU.there | apply MU.app)) (by exact el_len _) (by exact el_len _) (el_one _) trivial rfl ?_
  refine Tr.nil ?_ (fun _ => rfl) (List.Perm.refl _)
  refine Wp.ret ?_
  exact ⟨.inr rfl, .r1 rfl (RvIs.cellA tab rfl rfl rfl (by repeat (first | exact .head _ | refine .tail _ ?_ | refine List.mem_append_right _ ?_)) (At.all _) (el_len _))⟩

/-! ### add, neg -/
theorem f155_add (X Y : Nat) (hX : X < 115792089237316195423570985008687907853269984665640564039457584007913129639936) (hY : Y < 115792089237316195423570985008687907853269984665640564039457584007913129639936) : FnR Try.prog 155 [el X, el Y] [] (el ((X + Y) % P)) := by
  have nX := n64_w64 4 X (by rw [pow4]; exact hX)
  have nY := n64_w64 4 Y (by rw [pow4]; exact hY)
  obtain ⟨x0, x1, x2, x3, ex⟩ := split4 _ (w64_len 4 X)
  obtain ⟨y0, y1, y2, y3, ey⟩ := split4 _ (w64_len 4 Y)
  show FnR _ _ [.agg (u64s (w64 4 X)).toArray, .agg (u64s (w64 4 Y)).toArray] _ _
  rw [ex, ey]
  rw [ex] at nX
  rw [ey] at nY
  have s0 := addOk x0 y0 0 u0_le
  have s1 := addOk x1 y1 _ s0.le
  have s2 := addOk x2 y2 _ s1.le
  have s3 := addOk x3 y3 _ s2.le
  have hs := add4 s0 s1 s2 s3
  rw [nX, nY, pow4, show (0 : UInt64).toNat = 0 from rfl, Nat.add_zero] at hs
  have hf := f158_fold [x0 + y0 + 0, x1 + y1 + addC x0 y0 0, x2 + y2 + addC x1 y1 (addC x0 y0 0), x3 + y3 + addC x2 y2 (addC x1 y1 (addC x0 y0 0))] rfl (addC x3 y3 (addC x2 y2 (addC x1 y1 (addC x0 y0 0))))
  rw [hs] at hf
  refine fnR_of 27 rfl Try.func155 rfl (by kernel_rfl) rfl (by simp) fun w => ?_
  refine Wp.seq ?_
  refine Wp.reg allGen ?_
  refine Tr.boxA rfl rfl trivial rfl (fun B2 _ => ?_)
  refine Tr.boxA rfl rfl trivial rfl (fun B3 _ => ?_)
  refine Tr.alloc tab rfl rfl trivial rfl (fun B4 _ => ?_)
  refine Tr.nil ?_ (fun _ => rfl) (List.Perm.refl _)
  refine Wp.seq ?_
  refine Wp.reg allGen ?_
  refine Tr.assign (v := u64 0) rfl rfl trivial rfl ?_
  refine Tr.nil ?_ (fun _ => rfl) (List.Perm.refl _)
  refine Wp.seq ?_
  refine Wp.seq ?_
  refine Wp.reg allGen ?_
  refine Tr.move rfl rfl trivial rfl ?_
  refine Tr.nil ?_ (fun _ => rfl) (List.Perm.refl _)
  refine Wp.block ?_
  refine Wp.loopL ?_
  refine WpL.step ?_
  refine Wp.seq ?_
  refine Wp.reg allGen ?_
  refine Tr.lss rfl rfl (by first | with_reducible assumption | exact decide_eq_true (by omega) | exact decide_eq_false (by omega) | exact beq_iff_eq.2 (by omega) | exact beq_eq_false_iff_ne.2 (by omega) | exact bne_iff_ne.2 (by omega) | rfl) rfl trivial rfl ?_
  refine Tr.nil ?_ (fun _ => rfl) (List.Perm.refl _)
  refine Wp.seq ?_
  refine Wp.condT rfl ?_
  refine Wp.skip ?_
  refine Wp.seq ?_
  refine Wp.block ?_
  refine Wp.seq ?_
  refine Wp.reg allGen ?_
  refine Tr.move rfl rfl trivial rfl ?_
  refine Tr.assign rfl rfl trivial rfl ?_
  refine Tr.nil ?_ (fun _ => rfl) (List.Perm.refl _)
  refine Wp.regE kindOf mo (by kernel_rfl) ?_
  refine Tr.move rfl rfl trivial rfl ?_
  refine Tr.move rfl rfl trivial rfl ?_
  first | refine Tr.indexAddr01 tab rfl rfl rfl rfl rfl (by omega) (by omega) rfl trivial rfl ?_ | refine Tr.indexAddr1 tab rfl rfl rfl rfl rfl (by omega) (by omega) rfl trivial rfl ?_
  refine Tr.loadS tab rfl rfl rfl (by repeat (first | exact .head _ | refine .tail _ ?_ | refine List.mem_append_right _ ?_)) (by first | rfl | with_reducible assumption | assumption | (simp; done)) rfl trivial rfl ?_
  refine Tr.move rfl rfl trivial rfl ?_
  first | refine Tr.indexAddr01 tab rfl rfl rfl rfl rfl (by omega) (by omega) rfl trivial rfl ?_ | refine Tr.indexAddr1 tab rfl rfl rfl rfl rfl (by omega) (by omega) rfl trivial rfl ?_
  refine Tr.loadS tab rfl rfl rfl (by repeat (first | exact .head _ | refine .tail _ ?_ | refine List.mem_append_right _ ?_)) (by first | rfl | with_reducible assumption | assumption | (simp; done)) rfl trivial rfl ?_
  refine Tr.move rfl rfl trivial rfl ?_
  refine Tr.callX rfl (add64 _ _ _ (by first | decide | exact s0.le | exact s1.le | exact s2.le)) rfl trivial rfl ?_
  refine Tr.move rfl rfl trivial rfl ?_
  refine Tr.extract rfl rfl rfl trivial rfl ?_
  refine Tr.extract rfl rfl rfl trivial rfl ?_
  first | refine Tr.indexAddr01 tab rfl rfl rfl rfl rfl (by omega) (by omega) rfl trivial rfl ?_ | refine Tr.indexAddr1 tab rfl rfl rfl rfl rfl (by omega) (by omega) rfl trivial rfl ?_
  refine Tr.storeS tab rfl rfl rfl rfl (by repeat (first | exact .here | apply MU.there | apply MU.app)) (by first | decide | (simp; done) | (simp; omega) | exact Nat.le_of_ble_eq_true rfl) trivial rfl ?_
  refine Tr.assign rfl rfl trivial rfl ?_
  refine Tr.nil ?_ (fun _ => rfl) (List.Perm.refl _)
  refine Wp.reg allGen ?_
  refine Tr.add rfl rfl (by first | exact wrap_i64 (by omega) (by omega) | rfl) rfl trivial rfl ?_
  refine Tr.move rfl rfl trivial rfl ?_
  refine Tr.nil ?_ (fun _ => rfl) (List.Perm.refl _)
  refine WpL.step ?_
  refine Wp.seq ?_
  refine Wp.reg allGen ?_
  refine Tr.lss rfl rfl (by first | with_reducible assumption | exact decide_eq_true (by omega) | exact decide_eq_false (by omega) | exact beq_iff_eq.2 (by omega) | exact beq_eq_false_iff_ne.2 (by omega) | exact bne_iff_ne.2 (by omega) | rfl) rfl trivial rfl ?_
  refine Tr.nil ?_ (fun _ => rfl) (List.Perm.refl _)
  refine Wp.seq ?_
  refine Wp.condT rfl ?_
  refine Wp.skip ?_
  refine Wp.seq ?_
  refine Wp.block ?_
  refine Wp.seq ?_
  refine Wp.reg allGen ?_
  refine Tr.move rfl rfl trivial rfl ?_
  refine Tr.assign rfl rfl trivial rfl ?_
  refine Tr.nil ?_ (fun _ => rfl) (List.Perm.refl _)
  refine Wp.regE kindOf mo (by kernel_rfl) ?_
  refine Tr.move rfl rfl trivial rfl ?_
  refine Tr.move rfl rfl trivial rfl ?_
  first | refine Tr.indexAddr01 tab rfl rfl rfl rfl rfl (by omega) (by omega) rfl trivial rfl ?_ | refine Tr.indexAddr1 tab rfl rfl rfl rfl rfl (by omega) (by omega) rfl trivial rfl ?_
  refine Tr.loadS tab rfl rfl rfl (by repeat (first | exact .head _ | refine .tail _ ?_ | refine List.mem_append_right _ ?_)) (by first | rfl | with_reducible assumption | assumption | (simp; done)) rfl trivial rfl ?_
  refine Tr.move rfl rfl trivial rfl ?_
  first | refine Tr.indexAddr01 tab rfl rfl rfl rfl rfl (by omega) (by omega) rfl trivial rfl ?_ | refine Tr.indexAddr1 tab rfl rfl rfl rfl rfl (by omega) (by omega) rfl trivial rfl ?_
  refine Tr.loadS tab rfl rfl rfl (by repeat (first | exact .head _ | refine .tail _ ?_ | refine List.mem_append_right _ ?_)) (by first | rfl | with_reducible assumption | assumption | (simp; done)) rfl trivial rfl ?_
  refine Tr.move rfl rfl trivial rfl ?_
  refine Tr.callX rfl (add64 _ _ _ (by first | decide | exact s0.le | exact s1.le | exact s2.le)) rfl trivial rfl ?_
  refine Tr.move rfl rfl trivial rfl ?_
  refine Tr.extract rfl rfl rfl trivial rfl ?_
  refine Tr.extract rfl rfl rfl trivial rfl ?_
  first | refine Tr.indexAddr01 tab rfl rfl rfl rfl rfl (by omega) (by omega) rfl trivial rfl ?_ | refine Tr.indexAddr1 tab rfl rfl rfl rfl rfl (by omega) (by omega) rfl trivial rfl ?_
  refine Tr.storeS tab rfl rfl rfl rfl (by repeat (first | exact .here | apply MU.there | apply MU.app)) (by first | decide | (simp; done) | (simp; omega) | exact Nat.le_of_ble_eq_true rfl) trivial rfl ?_
  refine Tr.assign rfl rfl trivial rfl ?_
  refine Tr.nil ?_ (fun _ => rfl) (List.Perm.refl _)
  refine Wp.reg allGen ?_
  refine Tr.add rfl rfl (by first | exact wrap_i64 (by omega) (by omega) | rfl) rfl trivial rfl ?_
  refine Tr.move rfl rfl trivial rfl ?_
  refine Tr.nil ?_ (fun _ => rfl) (List.Perm.refl _)
  refine WpL.step ?_
  refine Wp.seq ?_
  refine Wp.reg allGen ?_
  refine Tr.lss rfl rfl (by first | with_reducible assumption | exact decide_eq_true (by omega) | exact decide_eq_false (by omega) | exact beq_iff_eq.2 (by omega) | exact beq_eq_false_iff_ne.2 (by omega) | exact bne_iff_ne.2 (by omega) | rfl) rfl trivial rfl ?_
  refine Tr.nil ?_ (fun _ => rfl) (List.Perm.refl _)
  refine Wp.seq ?_
  refine Wp.condT rfl ?_
  refine Wp.skip ?_
  refine Wp.seq ?_
  refine Wp.block ?_
  refine Wp.seq ?_
  refine Wp.reg allGen ?_
  refine Tr.move rfl rfl trivial rfl ?_
  refine Tr.assign rfl rfl trivial rfl ?_
  refine Tr.nil ?_ (fun _ => rfl) (List.Perm.refl _)
  refine Wp.regE kindOf mo (by kernel_rfl) ?_
  refine Tr.move rfl rfl trivial rfl ?_
  refine Tr.move rfl rfl trivial rfl ?_
  first | refine Tr.indexAddr01 tab rfl rfl rfl rfl rfl (by omega) (by omega) rfl trivial rfl ?_ | refine Tr.indexAddr1 tab rfl rfl rfl rfl rfl (by omega) (by omega) rfl trivial rfl ?_
  refine Tr.loadS tab rfl rfl rfl (by repeat (first | exact .head _ | refine .tail _ ?_ | refine List.mem_append_right _ ?_)) (by first | rfl | with_reducible assumption | assumption | (simp; done)) rfl trivial rfl ?_
  refine Tr.move rfl rfl trivial rfl ?_
  first | refine Tr.indexAddr01 tab rfl rfl rfl rfl rfl (by omega) (by omega) rfl trivial rfl ?_ | refine Tr.indexAddr1 tab rfl rfl rfl rfl rfl (by omega) (by omega) rfl trivial rfl ?_
  refine Tr.loadS tab rfl rfl rfl (by repeat (first | exact .head _ | refine .tail _ ?_ | refine List.mem_append_right _ ?_)) (by first | rfl | with_reducible assumption | assumption | (simp; done)) rfl trivial rfl ?_
  refine Tr.move rfl rfl trivial rfl ?_
  refine Tr.callX rfl (add64 _ _ _ (by first | decide | exact s0.le | exact s1.le | exact s2.le)) rfl trivial rfl ?_
  refine Tr.move rfl rfl trivial rfl ?_
  refine Tr.extract rfl rfl rfl trivial rfl ?_
  refine Tr.extract rfl rfl rfl trivial rfl ?_
  first | refine Tr.indexAddr01 tab rfl rfl rfl rfl rfl (by omega) (by omega) rfl trivial rfl ?_ | refine Tr.indexAddr1 tab rfl rfl rfl rfl rfl (by omega) (by omega) rfl trivial rfl ?_
  refine Tr.storeS tab rfl rfl rfl rfl (by repeat (first | exact .here | apply MU.there | apply MU.app)) (by first | decide | (simp; done) | (simp; omega) | exact Nat.le_of_ble_eq_true rfl) trivial rfl ?_
  refine Tr.assign rfl rfl trivial rfl ?_
  refine Tr.nil ?_ (fun _ => rfl) (List.Perm.refl _)
  refine Wp.reg allGen ?_
  refine Tr.add rfl rfl (by first | exact wrap_i64 (by omega) (by omega) | rfl) rfl trivial rfl ?_
  refine Tr.move rfl rfl trivial rfl ?_
  refine Tr.nil ?_ (fun _ => rfl) (List.Perm.refl _)
  refine WpL.step ?_
  refine Wp.seq ?_
  refine Wp.reg allGen ?_
  refine Tr.lss rfl rfl (by first | with_reducible assumption | exact decide_eq_true (by omega) | exact decide_eq_false (by omega) | exact beq_iff_eq.2 (by omega) | exact beq_eq_false_iff_ne.2 (by omega) | exact bne_iff_ne.2 (by omega) | rfl) rfl trivial rfl ?_
  refine Tr.nil ?_ (fun _ => rfl) (List.Perm.refl _)
  refine Wp.seq ?_
  refine Wp.condT rfl ?_
  refine Wp.skip ?_
  refine Wp.seq ?_
  refine Wp.block ?_
  refine Wp.seq ?_
  refine Wp.reg allGen ?_
  refine Tr.move rfl rfl trivial rfl ?_
  refine Tr.assign rfl rfl trivial rfl ?_
  refine Tr.nil ?_ (fun _ => rfl) (List.Perm.refl _)
  refine Wp.regE kindOf mo (by kernel_rfl) ?_
  refine Tr.move rfl rfl trivial rfl ?_
  refine Tr.move rfl rfl trivial rfl ?_
  first | refine Tr.indexAddr01 tab rfl rfl rfl rfl rfl (by omega) (by omega) rfl trivial rfl ?_ | refine Tr.indexAddr1 tab rfl rfl rfl rfl rfl (by omega) (by omega) rfl trivial rfl ?_
  refine Tr.loadS tab rfl rfl rfl (by repeat (first | exact .head _ | refine .tail _ ?_ | refine List.mem_append_right _ ?_)) (by first | rfl | with_reducible assumption | assumption | (simp; done)) rfl trivial rfl ?_
  refine Tr.move rfl rfl trivial rfl ?_
  first | refine Tr.indexAddr01 tab rfl rfl rfl rfl rfl (by omega) (by omega) rfl trivial rfl ?_ | refine Tr.indexAddr1 tab rfl rfl rfl rfl rfl (by omega) (by omega) rfl trivial rfl ?_
  refine Tr.loadS tab rfl rfl rfl (by repeat (first | exact .head _ | refine .tail _ ?_ | refine List.mem_append_right _ ?_)) (by first | rfl | with_reducible assumption | assumption | (simp; done)) rfl trivial rfl ?_
  refine Tr.move rfl rfl trivial rfl ?_
  refine Tr.callX rfl (add64 _ _ _ (by first | decide | exact s0.le | exact s1.le | exact s2.le)) rfl trivial rfl ?_
  refine Tr.move rfl rfl trivial rfl ?_
  refine Tr.extract rfl rfl rfl trivial rfl ?_
  refine Tr.extract rfl rfl rfl trivial rfl ?_
  first | refine Tr.indexAddr01 tab rfl rfl rfl rfl rfl (by omega) (by omega) rfl trivial rfl ?_ | refine Tr.indexAddr1 tab rfl rfl rfl rfl rfl (by omega) (by omega) rfl trivial rfl ?_
  refine Tr.storeS tab rfl rfl rfl rfl (by repeat (first | exact .here | apply MU.there | apply MU.app)) (by first | decide | (simp; done) | (simp; omega) | exact Nat.le_of_ble_eq_true rfl) trivial rfl ?_
  refine Tr.assign rfl rfl trivial rfl ?_
  refine Tr.nil ?_ (fun _ => rfl) (List.Perm.refl _)
  refine Wp.reg allGen ?_
  refine Tr.add rfl rfl (by first | exact wrap_i64 (by omega) (by omega) | rfl) rfl trivial rfl ?_
  refine Tr.move rfl rfl trivial rfl ?_
  refine Tr.nil ?_ (fun _ => rfl) (List.Perm.refl _)
  refine WpL.step ?_
  refine Wp.seq ?_
  refine Wp.reg allGen ?_
  refine Tr.lss rfl rfl (by first | with_reducible assumption | exact decide_eq_true (by omega) | exact decide_eq_false (by omega) | exact beq_iff_eq.2 (by omega) | exact beq_eq_false_iff_ne.2 (by omega) | exact bne_iff_ne.2 (by omega) | rfl) rfl trivial rfl ?_
  refine Tr.nil ?_ (fun _ => rfl) (List.Perm.refl _)
  refine Wp.seq ?_
  refine Wp.condF rfl ?_
  refine Wp.exit ?_
  refine Wp.seq ?_
  refine Wp.reg allGen ?_
  refine Tr.loadA tab rfl rfl rfl (by repeat (first | exact .head _ | refine .tail _ ?_ | refine List.mem_append_right _ ?_)) (by first | exact At.all _ | with_reducible assumption | assumption) (by first | with_reducible rfl | with_reducible assumption | (simp; done) | (simp; omega) | rfl) rfl trivial rfl ?_
  refine Tr.move rfl rfl trivial rfl ?_
  refine Tr.call rfl hf (by repeat (first | exact Has.nil | refine Has.cons (by repeat (first | exact .head _ | refine .tail _ ?_ | refine List.mem_append_right _ ?_)) ?_)) rfl trivial rfl ?_
  refine Tr.storeA tab rfl rfl rfl (by repeat (first | exact .here | apply MU.there | apply MU.app)) (by exact el_len _) (by exact el_len _) (el_one _) trivial rfl ?_
  refine Tr.nil ?_ (fun _ => rfl) (List.Perm.refl _)
  refine Wp.ret ?_
  exact ⟨.inr rfl, .r1 rfl (RvIs.cellA tab rfl rfl rfl (by repeat (first | exact .head _ | refine .tail _ ?_ | refine List.mem_append_right _ ?_)) (At.all _) (el_len _))⟩

theorem f138_neg (X : Nat) (hX : X ≤ P) : FnR Try.prog 138 [el X] [] (el ((P - X) % P)) := by
  have hP := P_lt
  have hl := f130_less P X hP (by omega)
  rw [decide_eq_true hX, show (P + 115792089237316195423570985008687907853269984665640564039457584007913129639936 - X) % 115792089237316195423570985008687907853269984665640564039457584007913129639936 = P - X by omega] at hl
  have hf := f159_freeze (P - X) (by omega)
  refine fnR_of 13 rfl Try.func138 rfl (by kernel_rfl) rfl (by simp) fun w => ?_
  refine Wp.seq ?_
  refine Wp.reg allGen ?_
  refine Tr.boxA rfl rfl trivial rfl (fun B1 _ => ?_)
  refine Tr.alloc tab rfl rfl trivial rfl (fun B2 _ => ?_)
  refine Tr.nil ?_ (fun _ => rfl) (List.Perm.refl _)
  refine Wp.seq ?_
  refine Wp.regE kindOf mo (by kernel_rfl) ?_
  refine Tr.call rfl f131_prime (by repeat (first | exact Has.nil | refine Has.cons (by repeat (first | exact .head _ | refine .tail _ ?_ | refine List.mem_append_right _ ?_)) ?_)) rfl trivial rfl ?_
  refine Tr.loadA tab rfl rfl rfl (by repeat (first | exact .head _ | refine .tail _ ?_ | refine List.mem_append_right _ ?_)) (At.all _) (el_len _) rfl trivial rfl ?_
  refine Tr.call rfl hl (by repeat (first | exact Has.nil | refine Has.cons (by repeat (first | exact .head _ | refine .tail _ ?_ | refine List.mem_append_right _ ?_)) ?_)) rfl trivial rfl ?_
  refine Tr.move rfl rfl trivial rfl ?_
  refine Tr.extract rfl rfl rfl trivial rfl ?_
  refine Tr.extract rfl rfl rfl trivial rfl ?_
  refine Tr.alloc tab rfl rfl trivial rfl (fun B3 _ => ?_)
  refine Tr.storeA tab rfl rfl rfl (by repeat (first | exact .here | apply MU.there | apply MU.app)) (by exact el_len _) (by exact el_len _) (el_one _) trivial rfl ?_
  refine Tr.assign rfl rfl trivial rfl ?_
  refine Tr.nil ?_ (fun _ => rfl) (List.Perm.refl _)
  refine Wp.seq ?_
  refine Wp.reg allGen ?_
  refine Tr.loadA tab rfl rfl rfl (by repeat (first | exact .head _ | refine .tail _ ?_ | refine List.mem_append_right _ ?_)) (At.all _) (el_len _) rfl trivial rfl ?_
  refine Tr.call rfl hf (by repeat (first | exact Has.nil | refine Has.cons (by repeat (first | exact .head _ | refine .tail _ ?_ | refine List.mem_append_right _ ?_)) ?_)) rfl trivial rfl ?_
  refine Tr.storeA tab rfl rfl rfl (by repeat (first | exact .here | apply MU.there | apply MU.app)) (by exact el_len _) (by exact el_len _) (el_one _) trivial rfl ?_
  refine Tr.nil ?_ (fun _ => rfl) (List.Perm.refl _)
  refine Wp.ret ?_
  exact ⟨.inr rfl, .r1 rfl (RvIs.cellA tab rfl rfl rfl (by repeat (first | exact .head _ | refine .tail _ ?_ | refine List.mem_append_right _ ?_)) (At.all _) (el_len _))⟩
end Go.Proofs.Ytffghaeaohabhaa.AW
