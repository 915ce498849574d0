import Derived.Test.YtffghaeaohabhaaF3
import Derived.Test.YtffghaeaohabhaaM6
namespace Go.Proofs.Ytffghaeaohabhaa.AW
open Go NT
set_option maxRecDepth 100000

/-! ### read -/
def loop129a : Code := (Code.seq (Code.region 3 #[{ dst := (some 7), op := (Op.binOp BinOp.lss 3 (Operand.tmp 6) (Operand.const (Value.int IntKind.i64 4)) 3), type := 0, pos := "field.go:18", after := #[], guard := none }] false) (Code.seq (Code.cond (Operand.tmp 7) Code.skip (Code.exit 0)) (Code.seq (Code.block 1 (Code.seq (Code.region 4 #[{ dst := (some 8), op := (Op.move (Operand.tmp 6)), type := 3, pos := "field.go:18", after := #[], guard := none }, { dst := (some 4), op := (Op.assign (Operand.tmp 8)), type := 3, pos := "field.go:18", after := #[{ on := 0, ground := Ground.data }, { on := 0, ground := Ground.phase }], guard := none }] false) (Code.seq (Code.region 5 #[{ dst := (some 5), op := (Op.assign (Operand.const (Value.int IntKind.i64 7))), type := 3, pos := "field.go:19", after := #[], guard := none }] false) (Code.block 2 (Code.loop (Code.seq (Code.seq (Code.region 6 #[{ dst := (some 9), op := (Op.move (Operand.tmp 5)), type := 3, pos := "field.go:19", after := #[], guard := none }, { dst := (some 10), op := (Op.binOp BinOp.geq 3 (Operand.tmp 9) (Operand.const (Value.int IntKind.i64 0)) 3), type := 4, pos := "field.go:19", after := #[{ on := 0, ground := Ground.data }], guard := none }] false) (Code.cond (Operand.tmp 10) Code.skip (Code.exit 2))) (Code.seq (Code.block 3 (Code.region 8 #[{ dst := (some 13), op := (Op.move (Operand.tmp 4)), type := 3, pos := "field.go:20", after := #[], guard := none }, { dst := (some 14), op := (Op.move (Operand.tmp 4)), type := 3, pos := "field.go:20", after := #[], guard := none }, { dst := (some 15), op := (Op.indexAddr 148 (Operand.tmp 3) (Operand.tmp 14)), type := 0, pos := "field.go:20", after := #[{ on := 1, ground := Ground.data }], guard := none }, { dst := (some 16), op := (Op.load 121 (Operand.tmp 15)), type := 121, pos := "field.go:20", after := #[{ on := 2, ground := Ground.data }], guard := none }, { dst := (some 17), op := (Op.binOp BinOp.shl 121 (Operand.tmp 16) (Operand.const (Value.int IntKind.u64 8)) 51), type := 121, pos := "field.go:20", after := #[{ on := 3, ground := Ground.data }], guard := none }, { dst := (some 18), op := (Op.move (Operand.tmp 4)), type := 3, pos := "field.go:20", after := #[], guard := none }, { dst := (some 19), op := (Op.binOp BinOp.mul 3 (Operand.const (Value.int IntKind.i64 8)) (Operand.tmp 18) 3), type := 3, pos := "field.go:20", after := #[{ on := 5, ground := Ground.data }], guard := none }, { dst := (some 20), op := (Op.move (Operand.tmp 5)), type := 3, pos := "field.go:20", after := #[], guard := none }, { dst := (some 21), op := (Op.binOp BinOp.add 3 (Operand.tmp 19) (Operand.tmp 20) 3), type := 3, pos := "field.go:20", after := #[{ on := 6, ground := Ground.data }, { on := 7, ground := Ground.data }], guard := none }, { dst := (some 22), op := (Op.indexAddr 37 (Operand.tmp 1) (Operand.tmp 21)), type := 0, pos := "field.go:20", after := #[{ on := 8, ground := Ground.data }], guard := none }, { dst := (some 23), op := (Op.load 5 (Operand.tmp 22)), type := 5, pos := "field.go:20", after := #[{ on := 9, ground := Ground.data }], guard := none }, { dst := (some 24), op := (Op.convert 5 121 (Operand.tmp 23)), type := 121, pos := "field.go:20", after := #[{ on := 10, ground := Ground.data }], guard := none }, { dst := (some 25), op := (Op.binOp BinOp.or 121 (Operand.tmp 17) (Operand.tmp 24) 121), type := 121, pos := "field.go:20", after := #[{ on := 4, ground := Ground.data }, { on := 11, ground := Ground.data }], guard := none }, { dst := (some 26), op := (Op.indexAddr 148 (Operand.tmp 3) (Operand.tmp 13)), type := 0, pos := "field.go:20", after := #[{ on := 0, ground := Ground.data }, { on := 0, ground := Ground.phase }, { on := 1, ground := Ground.phase }, { on := 2, ground := Ground.phase }, { on := 3, ground := Ground.phase }, { on := 4, ground := Ground.phase }, { on := 5, ground := Ground.phase }, { on := 6, ground := Ground.phase }, { on := 7, ground := Ground.phase }, { on := 8, ground := Ground.phase }, { on := 9, ground := Ground.phase }, { on := 10, ground := Ground.phase }, { on := 11, ground := Ground.phase }, { on := 12, ground := Ground.phase }], guard := none }, { dst := none, op := (Op.store 121 (Operand.tmp 26) (Operand.tmp 25)), type := 0, pos := "field.go:20", after := #[{ on := 13, ground := Ground.data }, { on := 12, ground := Ground.data }, { on := 0, ground := Ground.phase }, { on := 1, ground := Ground.phase }, { on := 2, ground := Ground.phase }, { on := 3, ground := Ground.phase }, { on := 4, ground := Ground.phase }, { on := 5, ground := Ground.phase }, { on := 6, ground := Ground.phase }, { on := 7, ground := Ground.phase }, { on := 8, ground := Ground.phase }, { on := 9, ground := Ground.phase }, { on := 10, ground := Ground.phase }, { on := 11, ground := Ground.phase }, { on := 12, ground := Ground.phase }], guard := none }] true)) (Code.region 7 #[{ dst := (some 11), op := (Op.move (Operand.tmp 5)), type := 3, pos := "field.go:19", after := #[], guard := none }, { dst := (some 12), op := (Op.binOp BinOp.sub 3 (Operand.tmp 11) (Operand.const (Value.int IntKind.i64 1)) 3), type := 3, pos := "field.go:19", after := #[{ on := 0, ground := Ground.data }], guard := none }, { dst := (some 5), op := (Op.assign (Operand.tmp 12)), type := 3, pos := "field.go:19", after := #[{ on := 1, ground := Ground.data }, { on := 0, ground := Ground.phase }, { on := 1, ground := Ground.phase }], guard := none }] false)))))))) (Code.region 9 #[{ dst := (some 27), op := (Op.binOp BinOp.add 3 (Operand.tmp 6) (Operand.const (Value.int IntKind.i64 1)) 3), type := 3, pos := "field.go:18", after := #[], guard := none }, { dst := (some 6), op := (Op.move (Operand.tmp 27)), type := 3, pos := "field.go:18", after := #[{ on := 0, ground := Ground.data }], guard := none }] false))))
def loop129b : Code := (Code.seq (Code.seq (Code.region 6 #[{ dst := (some 9), op := (Op.move (Operand.tmp 5)), type := 3, pos := "field.go:19", after := #[], guard := none }, { dst := (some 10), op := (Op.binOp BinOp.geq 3 (Operand.tmp 9) (Operand.const (Value.int IntKind.i64 0)) 3), type := 4, pos := "field.go:19", after := #[{ on := 0, ground := Ground.data }], guard := none }] false) (Code.cond (Operand.tmp 10) Code.skip (Code.exit 2))) (Code.seq (Code.block 3 (Code.region 8 #[{ dst := (some 13), op := (Op.move (Operand.tmp 4)), type := 3, pos := "field.go:20", after := #[], guard := none }, { dst := (some 14), op := (Op.move (Operand.tmp 4)), type := 3, pos := "field.go:20", after := #[], guard := none }, { dst := (some 15), op := (Op.indexAddr 148 (Operand.tmp 3) (Operand.tmp 14)), type := 0, pos := "field.go:20", after := #[{ on := 1, ground := Ground.data }], guard := none }, { dst := (some 16), op := (Op.load 121 (Operand.tmp 15)), type := 121, pos := "field.go:20", after := #[{ on := 2, ground := Ground.data }], guard := none }, { dst := (some 17), op := (Op.binOp BinOp.shl 121 (Operand.tmp 16) (Operand.const (Value.int IntKind.u64 8)) 51), type := 121, pos := "field.go:20", after := #[{ on := 3, ground := Ground.data }], guard := none }, { dst := (some 18), op := (Op.move (Operand.tmp 4)), type := 3, pos := "field.go:20", after := #[], guard := none }, { dst := (some 19), op := (Op.binOp BinOp.mul 3 (Operand.const (Value.int IntKind.i64 8)) (Operand.tmp 18) 3), type := 3, pos := "field.go:20", after := #[{ on := 5, ground := Ground.data }], guard := none }, { dst := (some 20), op := (Op.move (Operand.tmp 5)), type := 3, pos := "field.go:20", after := #[], guard := none }, { dst := (some 21), op := (Op.binOp BinOp.add 3 (Operand.tmp 19) (Operand.tmp 20) 3), type := 3, pos := "field.go:20", after := #[{ on := 6, ground := Ground.data }, { on := 7, ground := Ground.data }], guard := none }, { dst := (some 22), op := (Op.indexAddr 37 (Operand.tmp 1) (Operand.tmp 21)), type := 0, pos := "field.go:20", after := #[{ on := 8, ground := Ground.data }], guard := none }, { dst := (some 23), op := (Op.load 5 (Operand.tmp 22)), type := 5, pos := "field.go:20", after := #[{ on := 9, ground := Ground.data }], guard := none }, { dst := (some 24), op := (Op.convert 5 121 (Operand.tmp 23)), type := 121, pos := "field.go:20", after := #[{ on := 10, ground := Ground.data }], guard := none }, { dst := (some 25), op := (Op.binOp BinOp.or 121 (Operand.tmp 17) (Operand.tmp 24) 121), type := 121, pos := "field.go:20", after := #[{ on := 4, ground := Ground.data }, { on := 11, ground := Ground.data }], guard := none }, { dst := (some 26), op := (Op.indexAddr 148 (Operand.tmp 3) (Operand.tmp 13)), type := 0, pos := "field.go:20", after := #[{ on := 0, ground := Ground.data }, { on := 0, ground := Ground.phase }, { on := 1, ground := Ground.phase }, { on := 2, ground := Ground.phase }, { on := 3, ground := Ground.phase }, { on := 4, ground := Ground.phase }, { on := 5, ground := Ground.phase }, { on := 6, ground := Ground.phase }, { on := 7, ground := Ground.phase }, { on := 8, ground := Ground.phase }, { on := 9, ground := Ground.phase }, { on := 10, ground := Ground.phase }, { on := 11, ground := Ground.phase }, { on := 12, ground := Ground.phase }], guard := none }, { dst := none, op := (Op.store 121 (Operand.tmp 26) (Operand.tmp 25)), type := 0, pos := "field.go:20", after := #[{ on := 13, ground := Ground.data }, { on := 12, ground := Ground.data }, { on := 0, ground := Ground.phase }, { on := 1, ground := Ground.phase }, { on := 2, ground := Ground.phase }, { on := 3, ground := Ground.phase }, { on := 4, ground := Ground.phase }, { on := 5, ground := Ground.phase }, { on := 6, ground := Ground.phase }, { on := 7, ground := Ground.phase }, { on := 8, ground := Ground.phase }, { on := 9, ground := Ground.phase }, { on := 10, ground := Ground.phase }, { on := 11, ground := Ground.phase }, { on := 12, ground := Ground.phase }], guard := none }] true)) (Code.region 7 #[{ dst := (some 11), op := (Op.move (Operand.tmp 5)), type := 3, pos := "field.go:19", after := #[], guard := none }, { dst := (some 12), op := (Op.binOp BinOp.sub 3 (Operand.tmp 11) (Operand.const (Value.int IntKind.i64 1)) 3), type := 3, pos := "field.go:19", after := #[{ on := 0, ground := Ground.data }], guard := none }, { dst := (some 5), op := (Op.assign (Operand.tmp 12)), type := 3, pos := "field.go:19", after := #[{ on := 1, ground := Ground.data }, { on := 0, ground := Ground.phase }, { on := 1, ground := Ground.phase }], guard := none }] false)))

theorem list_set_getD {l : List UInt64} {i : Nat} {v : UInt64} (h : i < l.length) : (l.set i v).getD i 0 = v := by
  simp [List.getD, h]

theorem read_in {g : Gh} (hg : g.n = 29) (b1 b2 b3 : Nat) (a : List UInt8) (ha : a.length = 32) (z2 : List Value) (O0 : List UInt64) (i : Nat) (hi : i < 4) : ∀ (r : Nat) (O : List UInt64), r ≤ 8 → O.length = 4 → (∀ j, j ≠ i → O.getD j 0 = O0.getD j 0) → (O.getD i 0).toNat = n8 ((a.drop (8 * i + r)).take (8 - r)) →
    WpL Try.prog g loop129b (fun e env mem => e = .exit 2 ∧ ∃ O : List UInt64, O.length = 4 ∧ (∀ j, j ≠ i → O.getD j 0 = O0.getD j 0) ∧ (O.getD i 0).toNat = n8 ((a.drop (8 * i)).take 8) ∧
        Wk g env mem [(1, .pointer (some ⟨b1, 0, none⟩)), (2, .pointer (some ⟨b2, 0, none⟩)), (3, .pointer (some ⟨b3, 0, none⟩)), (6, i64 i)] [⟨b3, u64s O, true⟩, ⟨b2, z2, true⟩, ⟨b1, u8s a, true⟩])
      [(1, .pointer (some ⟨b1, 0, none⟩)), (2, .pointer (some ⟨b2, 0, none⟩)), (3, .pointer (some ⟨b3, 0, none⟩)), (4, i64 i), (5, i64 ((r : Int) - 1)), (6, i64 i)] [⟨b3, u64s O, true⟩, ⟨b2, z2, true⟩, ⟨b1, u8s a, true⟩] := by
  obtain ⟨gn, w0, may⟩ := g
  obtain rfl : gn = 29 := hg
  intro r
  induction r with
  | zero =>
    intro O _ hl h1 h2
    refine WpL.step ?_
    refine Wp.seq ?_
    refine Wp.seq ?_
    refine Wp.reg allGen ?_
    refine Tr.move rfl rfl trivial rfl ?_
    refine Tr.geq rfl rfl (by first | with_reducible assumption | exact decide_eq_true (by omega) | exact decide_eq_false (by omega) | exact beq_iff_eq.2 (by omega) | exact beq_eq_false_iff_ne.2 (by omega) | exact bne_iff_ne.2 (by omega) | rfl) rfl trivial rfl ?_
    refine Tr.nil ?_ (fun _ => rfl) (List.Perm.refl _)
    refine Wp.condF rfl ?_
    refine Wp.exit ?_
    exact ⟨rfl, O, hl, h1, h2, Wk.mk (by repeat (first | exact ESub.nil | refine ESub.cons rfl (by first | rfl | (simp; done) | (simp; omega)) ?_)) (by repeat (first | exact MSub.nil | refine MSub.cons (by repeat (first | exact .here | apply Pick.there | apply Pick.append)) (by first | rfl | (simp; done)) ?_))⟩
  | succ r ih =>
    intro O hr hl h1 h2
    have e1 : ((r + 1 : Nat) : Int) - 1 = (r : Int) := by omega
    rw [e1]
    have hOl : (u64s O).length = 4 := by simp [hl]
    have ga := at_get u8 (At.all (u8s a)) 0 (j := 8 * i + r) (by omega) (k := 8 * (i : Int) + (r : Int)) (by omega)
    rw [Nat.zero_add] at ga
    have gO := at_get u64 (At.all (u64s O)) 0 (j := i) (by omega) (k := (i : Int)) rfl
    rw [Nat.zero_add] at gO
    have hch := n8_chunk a (8 * i + r) (8 - (r + 1)) (by omega)
    rw [show 8 - (r + 1) + 1 = 8 - r by omega, show 8 * i + r + 1 = 8 * i + (r + 1) by omega, ← h2] at hch
    have hv : (O.getD i 0).toNat < 72057594037927936 := by
      rw [h2]
      have := n8_lt ((a.drop (8 * i + (r + 1))).take (8 - (r + 1)))
      have hle : ((a.drop (8 * i + (r + 1))).take (8 - (r + 1))).length ≤ 7 := by simp; omega
      have := Nat.pow_le_pow_right (show 0 < 256 by decide) hle
      omega
    have hst := word_step (O.getD i 0) (a.getD (8 * i + r) 0) hv
    rw [← hch] at hst
    have hih := ih (O.set i ((O.getD i 0) <<< UInt64.ofNat 8 ||| (a.getD (8 * i + r) 0).toUInt64)) (by omega) (by simp [hl]) (fun j hj => by rw [NT.getD_set_ne (fun h => hj h.symm)]; exact h1 j hj) (by rw [list_set_getD (by omega)]; exact hst)
    rw [← u64s_set] at hih
    generalize O.getD i 0 = v at *
    generalize a.getD (8 * i + r) 0 = bb at *
    refine WpL.step ?_
    refine Wp.seq ?_
    refine Wp.seq ?_
    refine Wp.reg allGen ?_
    refine Tr.move rfl rfl trivial rfl ?_
    refine Tr.geq rfl rfl (by first | with_reducible assumption | exact decide_eq_true (by omega) | exact decide_eq_false (by omega) | exact beq_iff_eq.2 (by omega) | exact beq_eq_false_iff_ne.2 (by omega) | exact bne_iff_ne.2 (by omega) | rfl) rfl trivial rfl ?_
    refine Tr.nil ?_ (fun _ => rfl) (List.Perm.refl _)
    refine Wp.condT rfl ?_
    refine Wp.skip ?_
    refine Wp.seq ?_
    refine Wp.block ?_
    refine Wp.regE kindOf mo (by kernel_rfl) ?_
    refine Tr.move rfl rfl trivial rfl ?_
    refine Tr.move rfl rfl trivial rfl ?_
    first | refine Tr.indexAddr01 tab rfl rfl rfl rfl rfl (by omega) (by omega) rfl trivial rfl ?_ | refine Tr.indexAddr1 tab rfl rfl rfl rfl rfl (by omega) (by omega) rfl trivial rfl ?_
    refine Tr.loadS tab rfl rfl rfl (by repeat (first | exact .head _ | refine .tail _ ?_ | refine List.mem_append_right _ ?_)) gO rfl trivial rfl ?_
    refine Tr.shl rfl rfl (by omega) (by first | exact u64_shl _ 8 (by decide) | rfl) rfl trivial rfl ?_
    refine Tr.move rfl rfl trivial rfl ?_
    refine Tr.mul rfl rfl (by first | exact wrap_i64 (by omega) (by omega) | rfl) rfl trivial rfl ?_
    refine Tr.move rfl rfl trivial rfl ?_
    refine Tr.add rfl rfl (by first | exact wrap_i64 (by omega) (by omega) | rfl) rfl trivial rfl ?_
    first | refine Tr.indexAddr01 tab rfl rfl rfl rfl rfl (by omega) (by omega) rfl trivial rfl ?_ | refine Tr.indexAddr1 tab rfl rfl rfl rfl rfl (by omega) (by omega) rfl trivial rfl ?_
    refine Tr.loadS tab rfl rfl rfl (by repeat (first | exact .head _ | refine .tail _ ?_ | refine List.mem_append_right _ ?_)) ga rfl trivial rfl ?_
    refine Tr.conv tab rfl rfl rfl rfl (by first | exact conv_u8_u64 _ | rfl) rfl trivial rfl ?_
    refine Tr.bor rfl rfl (by first | exact u64_or _ _ | rfl) rfl trivial rfl ?_
    first | refine Tr.indexAddr01 tab rfl rfl rfl rfl rfl (by omega) (by omega) rfl trivial rfl ?_ | refine Tr.indexAddr1 tab rfl rfl rfl rfl rfl (by omega) (by omega) rfl trivial rfl ?_
    refine Tr.storeS tab rfl rfl rfl rfl (by repeat (first | exact .here | apply MU.there | apply MU.app)) (by omega) trivial rfl ?_
    refine Tr.nil ?_ (fun _ => rfl) (List.Perm.refl _)
    refine Wp.reg allGen ?_
    refine Tr.move rfl rfl trivial rfl ?_
    refine Tr.sub rfl rfl (by first | exact wrap_i64 (by omega) (by omega) | rfl) rfl trivial rfl ?_
    refine Tr.assign rfl rfl trivial rfl ?_
    refine Tr.nil ?_ (fun _ => rfl) (List.Perm.refl _)
    exact WpL.weak hih (Wk.mk (by repeat (first | exact ESub.nil | refine ESub.cons rfl (by first | rfl | (simp; done) | (simp; omega)) ?_)) (by repeat (first | exact MSub.nil | refine MSub.cons (by repeat (first | exact .here | apply Pick.there | apply Pick.append)) (by first | rfl | (simp; done)) ?_)))

theorem read_out {g : Gh} (hg : g.n = 29) (b1 b2 b3 : Nat) (a : List UInt8) (ha : a.length = 32) (z2 : List Value) : ∀ (r i : Nat) (O : List UInt64), i + r = 4 → O.length = 4 → (∀ j, j < i → (O.getD j 0).toNat = n8 ((a.drop (8 * j)).take 8)) → (∀ j, i ≤ j → O.getD j 0 = 0) →
    WpL Try.prog g loop129a (fun e env mem => e = .exit 0 ∧ Wk g env mem [(2, .pointer (some ⟨b2, 0, none⟩)), (3, .pointer (some ⟨b3, 0, none⟩))] [⟨b3, u64s (w64 4 (n8 a)), true⟩, ⟨b2, z2, true⟩])
      [(1, .pointer (some ⟨b1, 0, none⟩)), (2, .pointer (some ⟨b2, 0, none⟩)), (3, .pointer (some ⟨b3, 0, none⟩)), (6, i64 i)] [⟨b3, u64s O, true⟩, ⟨b2, z2, true⟩, ⟨b1, u8s a, true⟩] := by
  obtain ⟨gn, w0, may⟩ := g
  obtain rfl : gn = 29 := hg
  intro r
  induction r with
  | zero =>
    intro i O hi hl h1 h2
    obtain rfl : i = 4 := by omega
    rw [← words_of a ha O hl h1]
    refine WpL.step ?_
    refine Wp.seq ?_
    refine Wp.reg allGen ?_
    refine Tr.lss rfl rfl (by first | with_reducible assumption | exact decide_eq_true (by omega) | exact decide_eq_false (by omega) | exact beq_iff_eq.2 (by omega) | exact beq_eq_false_iff_ne.2 (by omega) | exact bne_iff_ne.2 (by omega) | rfl) rfl trivial rfl ?_
    refine Tr.nil ?_ (fun _ => rfl) (List.Perm.refl _)
    refine Wp.seq ?_
    refine Wp.condF rfl ?_
    refine Wp.exit ?_
    exact ⟨rfl, Wk.mk (by repeat (first | exact ESub.nil | refine ESub.cons rfl (by first | rfl | (simp; done) | (simp; omega)) ?_)) (by repeat (first | exact MSub.nil | refine MSub.cons (by repeat (first | exact .here | apply Pick.there | apply Pick.append)) (by first | rfl | (simp; done)) ?_))⟩
  | succ r ih =>
    intro i O hi hl h1 h2
    have hin := read_in (g := ⟨29, w0, may⟩) rfl b1 b2 b3 a ha z2 O i (by omega) 8 O (by omega) hl (fun _ _ => rfl) (by rw [h2 i (Nat.le_refl _)]; rfl)
    refine WpL.step ?_
    refine Wp.seq ?_
    refine Wp.reg allGen ?_
    refine Tr.lss rfl rfl (by first | with_reducible assumption | exact decide_eq_true (by omega) | exact decide_eq_false (by omega) | exact beq_iff_eq.2 (by omega) | exact beq_eq_false_iff_ne.2 (by omega) | exact bne_iff_ne.2 (by omega) | rfl) rfl trivial rfl ?_
    refine Tr.nil ?_ (fun _ => rfl) (List.Perm.refl _)
    refine Wp.seq ?_
    refine Wp.condT rfl ?_
    refine Wp.skip ?_
    refine Wp.seq ?_
    refine Wp.block ?_
    refine Wp.seq ?_
    refine Wp.reg allGen ?_
    refine Tr.move rfl rfl trivial rfl ?_
    refine Tr.assign rfl rfl trivial rfl ?_
    refine Tr.nil ?_ (fun _ => rfl) (List.Perm.refl _)
    refine Wp.seq ?_
    refine Wp.reg allGen ?_
    refine Tr.assign rfl rfl trivial rfl ?_
    refine Tr.nil ?_ (fun _ => rfl) (List.Perm.refl _)
    refine Wp.block ?_
    refine Wp.loopQ (hin) (Wk.mk (by repeat (first | exact ESub.nil | refine ESub.cons rfl (by first | rfl | (simp; done) | (simp; omega)) ?_)) (by repeat (first | exact MSub.nil | refine MSub.cons (by repeat (first | exact .here | apply Pick.there | apply Pick.append)) (by first | rfl | (simp; done)) ?_))) ?_
    rintro _ env1 mem1 ⟨rfl, O1, k1, k2, k3, hk1⟩
    refine Wp.weak ?_ hk1
    refine Wp.reg allGen ?_
    refine Tr.add rfl rfl (by first | exact wrap_i64 (by omega) (by omega) | rfl) rfl trivial rfl ?_
    refine Tr.move rfl rfl trivial rfl ?_
    refine Tr.nil ?_ (fun _ => rfl) (List.Perm.refl _)
    refine WpL.weak (ih (i + 1) O1 (by omega) k1 (fun j hj => ?_) (fun j hj => by rw [k2 j (by omega)]; exact h2 j (by omega))) (Wk.mk (by repeat (first | exact ESub.nil | refine ESub.cons rfl (by first | rfl | (simp; done) | (simp; omega)) ?_)) (by repeat (first | exact MSub.nil | refine MSub.cons (by repeat (first | exact .here | apply Pick.there | apply Pick.append)) (by first | rfl | (simp; done)) ?_)))
    by_cases hji : j = i
    · subst hji; exact k3
    · rw [k2 j hji]; exact h1 j (by omega)

theorem f129_read (a : List UInt8) (ha : a.length = 32) : FnR Try.prog 129 [.agg (u8s a).toArray] [] (el (n8 a)) := by
  have hrep : List.replicate 4 (Value.int .u64 0) = u64s [0, 0, 0, 0] := rfl
  have hz : ∀ j, ([0, 0, 0, 0] : List UInt64).getD j 0 = 0 := fun j => by
    match j with
    | 0 => rfl
    | 1 => rfl
    | 2 => rfl
    | 3 => rfl
    | n + 4 => rfl
  refine fnR_of 29 rfl Try.func129 rfl (by kernel_rfl) rfl (by simp) fun w => ?_
  refine Wp.seq ?_
  refine Wp.reg allGen ?_
  refine Tr.boxA rfl rfl trivial rfl (fun B1 _ => ?_)
  refine Tr.alloc tab rfl rfl trivial rfl (fun B2 _ => ?_)
  refine Tr.nil ?_ (fun _ => rfl) (List.Perm.refl _)
  refine Wp.seq ?_
  refine Wp.reg allGen ?_
  refine Tr.alloc tab rfl rfl trivial rfl (fun B3 _ => ?_)
  refine Tr.nil ?_ (fun _ => rfl) (List.Perm.refl _)
  refine Wp.seq ?_
  refine Wp.seq ?_
  refine Wp.reg allGen ?_
  refine Tr.move rfl rfl trivial rfl ?_
  refine Tr.nil ?_ (fun _ => rfl) (List.Perm.refl _)
  refine Wp.block ?_
  refine Wp.loopQ (read_out rfl B1 B2 B3 a ha _ 4 0 [0, 0, 0, 0] rfl rfl (fun j hj => by omega) (fun j _ => hz j)) (Wk.mk (by repeat (first | exact ESub.nil | refine ESub.cons rfl (by first | rfl | (simp; done) | (simp; omega)) ?_)) (by repeat (first | exact MSub.nil | refine MSub.cons (by repeat (first | exact .here | apply Pick.there | apply Pick.append)) (by first | rfl | (simp; done)) ?_))) ?_
  rintro _ env1 mem1 ⟨rfl, hk1⟩
  refine Wp.weak ?_ hk1
  refine Wp.seq ?_
  refine Wp.reg allGen ?_
  refine Tr.loadA tab rfl rfl rfl (by repeat (first | exact .head _ | refine .tail _ ?_ | refine List.mem_append_right _ ?_)) (At.all _) (el_len _) rfl trivial rfl ?_
  refine Tr.storeA tab rfl rfl rfl (by repeat (first | exact .here | apply MU.there | apply MU.app)) (by exact el_len _) (by exact el_len _) (el_one _) trivial rfl ?_
  refine Tr.nil ?_ (fun _ => rfl) (List.Perm.refl _)
  refine Wp.ret ?_
  exact ⟨.inr rfl, .r1 rfl (RvIs.cellA tab rfl rfl rfl (by repeat (first | exact .head _ | refine .tail _ ?_ | refine List.mem_append_right _ ?_)) (At.all _) (el_len _))⟩

/-! ### bytes -/
def loop139a : Code := (Code.seq (Code.region 3 #[{ dst := (some 9), op := (Op.binOp BinOp.lss 3 (Operand.tmp 8) (Operand.const (Value.int IntKind.i64 4)) 3), type := 0, pos := "field.go:28", after := #[], guard := none }] false) (Code.seq (Code.cond (Operand.tmp 9) Code.skip (Code.exit 0)) (Code.seq (Code.block 1 (Code.seq (Code.region 4 #[{ dst := (some 10), op := (Op.move (Operand.tmp 8)), type := 3, pos := "field.go:28", after := #[], guard := none }, { dst := (some 11), op := (Op.index 148 (Operand.tmp 7) (Operand.tmp 8)), type := 121, pos := "field.go:28", after := #[], guard := none }, { dst := (some 4), op := (Op.assign (Operand.tmp 10)), type := 3, pos := "field.go:28", after := #[{ on := 0, ground := Ground.data }, { on := 0, ground := Ground.phase }, { on := 1, ground := Ground.phase }], guard := none }, { dst := (some 5), op := (Op.assign (Operand.tmp 11)), type := 121, pos := "field.go:28", after := #[{ on := 1, ground := Ground.data }, { on := 2, ground := Ground.chain }, { on := 0, ground := Ground.phase }, { on := 1, ground := Ground.phase }, { on := 2, ground := Ground.phase }], guard := none }] false) (Code.seq (Code.region 5 #[{ dst := (some 12), op := (Op.move (Operand.const (Value.int IntKind.i64 0))), type := 3, pos := "field.go:29", after := #[], guard := none }] false) (Code.block 2 (Code.loop (Code.seq (Code.region 6 #[{ dst := (some 13), op := (Op.binOp BinOp.lss 3 (Operand.tmp 12) (Operand.const (Value.int IntKind.i64 8)) 3), type := 4, pos := "field.go:29", after := #[], guard := none }] false) (Code.seq (Code.cond (Operand.tmp 13) Code.skip (Code.exit 2)) (Code.seq (Code.block 3 (Code.seq (Code.region 7 #[{ dst := (some 14), op := (Op.move (Operand.tmp 12)), type := 3, pos := "field.go:29", after := #[], guard := none }, { dst := (some 6), op := (Op.assign (Operand.tmp 14)), type := 3, pos := "field.go:29", after := #[{ on := 0, ground := Ground.data }, { on := 0, ground := Ground.phase }], guard := none }] false) (Code.region 8 #[{ dst := (some 15), op := (Op.move (Operand.tmp 4)), type := 3, pos := "field.go:30", after := #[], guard := none }, { dst := (some 16), op := (Op.binOp BinOp.mul 3 (Operand.const (Value.int IntKind.i64 8)) (Operand.tmp 15) 3), type := 3, pos := "field.go:30", after := #[{ on := 0, ground := Ground.data }], guard := none }, { dst := (some 17), op := (Op.move (Operand.tmp 6)), type := 3, pos := "field.go:30", after := #[], guard := none }, { dst := (some 18), op := (Op.binOp BinOp.add 3 (Operand.tmp 16) (Operand.tmp 17) 3), type := 3, pos := "field.go:30", after := #[{ on := 1, ground := Ground.data }, { on := 2, ground := Ground.data }], guard := none }, { dst := (some 19), op := (Op.move (Operand.tmp 5)), type := 121, pos := "field.go:30", after := #[], guard := none }, { dst := (some 20), op := (Op.move (Operand.tmp 6)), type := 3, pos := "field.go:30", after := #[], guard := none }, { dst := (some 21), op := (Op.binOp BinOp.mul 3 (Operand.const (Value.int IntKind.i64 8)) (Operand.tmp 20) 3), type := 3, pos := "field.go:30", after := #[{ on := 5, ground := Ground.data }], guard := none }, { dst := (some 22), op := (Op.binOp BinOp.shr 121 (Operand.tmp 19) (Operand.tmp 21) 3), type := 121, pos := "field.go:30", after := #[{ on := 4, ground := Ground.data }, { on := 6, ground := Ground.data }], guard := none }, { dst := (some 23), op := (Op.convert 121 5 (Operand.tmp 22)), type := 5, pos := "field.go:30", after := #[{ on := 7, ground := Ground.data }], guard := none }, { dst := (some 24), op := (Op.indexAddr 37 (Operand.tmp 3) (Operand.tmp 18)), type := 0, pos := "field.go:30", after := #[{ on := 3, ground := Ground.data }, { on := 0, ground := Ground.phase }, { on := 1, ground := Ground.phase }, { on := 2, ground := Ground.phase }, { on := 3, ground := Ground.phase }, { on := 4, ground := Ground.phase }, { on := 5, ground := Ground.phase }, { on := 6, ground := Ground.phase }, { on := 7, ground := Ground.phase }, { on := 8, ground := Ground.phase }], guard := none }, { dst := none, op := (Op.store 5 (Operand.tmp 24) (Operand.tmp 23)), type := 0, pos := "field.go:30", after := #[{ on := 9, ground := Ground.data }, { on := 8, ground := Ground.data }, { on := 0, ground := Ground.phase }, { on := 1, ground := Ground.phase }, { on := 2, ground := Ground.phase }, { on := 3, ground := Ground.phase }, { on := 4, ground := Ground.phase }, { on := 5, ground := Ground.phase }, { on := 6, ground := Ground.phase }, { on := 7, ground := Ground.phase }, { on := 8, ground := Ground.phase }], guard := none }] false))) (Code.region 9 #[{ dst := (some 25), op := (Op.binOp BinOp.add 3 (Operand.tmp 12) (Operand.const (Value.int IntKind.i64 1)) 3), type := 3, pos := "field.go:29", after := #[], guard := none }, { dst := (some 12), op := (Op.move (Operand.tmp 25)), type := 3, pos := "field.go:29", after := #[{ on := 0, ground := Ground.data }], guard := none }] false))))))))) (Code.region 10 #[{ dst := (some 26), op := (Op.binOp BinOp.add 3 (Operand.tmp 8) (Operand.const (Value.int IntKind.i64 1)) 3), type := 3, pos := "field.go:28", after := #[], guard := none }, { dst := (some 8), op := (Op.move (Operand.tmp 26)), type := 3, pos := "field.go:28", after := #[{ on := 0, ground := Ground.data }], guard := none }] false))))
def loop139b : Code := (Code.seq (Code.region 6 #[{ dst := (some 13), op := (Op.binOp BinOp.lss 3 (Operand.tmp 12) (Operand.const (Value.int IntKind.i64 8)) 3), type := 4, pos := "field.go:29", after := #[], guard := none }] false) (Code.seq (Code.cond (Operand.tmp 13) Code.skip (Code.exit 2)) (Code.seq (Code.block 3 (Code.seq (Code.region 7 #[{ dst := (some 14), op := (Op.move (Operand.tmp 12)), type := 3, pos := "field.go:29", after := #[], guard := none }, { dst := (some 6), op := (Op.assign (Operand.tmp 14)), type := 3, pos := "field.go:29", after := #[{ on := 0, ground := Ground.data }, { on := 0, ground := Ground.phase }], guard := none }] false) (Code.region 8 #[{ dst := (some 15), op := (Op.move (Operand.tmp 4)), type := 3, pos := "field.go:30", after := #[], guard := none }, { dst := (some 16), op := (Op.binOp BinOp.mul 3 (Operand.const (Value.int IntKind.i64 8)) (Operand.tmp 15) 3), type := 3, pos := "field.go:30", after := #[{ on := 0, ground := Ground.data }], guard := none }, { dst := (some 17), op := (Op.move (Operand.tmp 6)), type := 3, pos := "field.go:30", after := #[], guard := none }, { dst := (some 18), op := (Op.binOp BinOp.add 3 (Operand.tmp 16) (Operand.tmp 17) 3), type := 3, pos := "field.go:30", after := #[{ on := 1, ground := Ground.data }, { on := 2, ground := Ground.data }], guard := none }, { dst := (some 19), op := (Op.move (Operand.tmp 5)), type := 121, pos := "field.go:30", after := #[], guard := none }, { dst := (some 20), op := (Op.move (Operand.tmp 6)), type := 3, pos := "field.go:30", after := #[], guard := none }, { dst := (some 21), op := (Op.binOp BinOp.mul 3 (Operand.const (Value.int IntKind.i64 8)) (Operand.tmp 20) 3), type := 3, pos := "field.go:30", after := #[{ on := 5, ground := Ground.data }], guard := none }, { dst := (some 22), op := (Op.binOp BinOp.shr 121 (Operand.tmp 19) (Operand.tmp 21) 3), type := 121, pos := "field.go:30", after := #[{ on := 4, ground := Ground.data }, { on := 6, ground := Ground.data }], guard := none }, { dst := (some 23), op := (Op.convert 121 5 (Operand.tmp 22)), type := 5, pos := "field.go:30", after := #[{ on := 7, ground := Ground.data }], guard := none }, { dst := (some 24), op := (Op.indexAddr 37 (Operand.tmp 3) (Operand.tmp 18)), type := 0, pos := "field.go:30", after := #[{ on := 3, ground := Ground.data }, { on := 0, ground := Ground.phase }, { on := 1, ground := Ground.phase }, { on := 2, ground := Ground.phase }, { on := 3, ground := Ground.phase }, { on := 4, ground := Ground.phase }, { on := 5, ground := Ground.phase }, { on := 6, ground := Ground.phase }, { on := 7, ground := Ground.phase }, { on := 8, ground := Ground.phase }], guard := none }, { dst := none, op := (Op.store 5 (Operand.tmp 24) (Operand.tmp 23)), type := 0, pos := "field.go:30", after := #[{ on := 9, ground := Ground.data }, { on := 8, ground := Ground.data }, { on := 0, ground := Ground.phase }, { on := 1, ground := Ground.phase }, { on := 2, ground := Ground.phase }, { on := 3, ground := Ground.phase }, { on := 4, ground := Ground.phase }, { on := 5, ground := Ground.phase }, { on := 6, ground := Ground.phase }, { on := 7, ground := Ground.phase }, { on := 8, ground := Ground.phase }], guard := none }] false))) (Code.region 9 #[{ dst := (some 25), op := (Op.binOp BinOp.add 3 (Operand.tmp 12) (Operand.const (Value.int IntKind.i64 1)) 3), type := 3, pos := "field.go:29", after := #[], guard := none }, { dst := (some 12), op := (Op.move (Operand.tmp 25)), type := 3, pos := "field.go:29", after := #[{ on := 0, ground := Ground.data }], guard := none }] false))))

theorem b8_one (k n : Nat) : (u8s (b8 k n)).all Value.oneCell' = true := by simp [Value.oneCell']
theorem b8u_len (k n : Nat) : (u8s (b8 k n)).length = k := by simp [b8_len]

theorem bytes_in' {g : Gh} (hg : g.n = 28) (b2 b3 : Nat) (X : Nat) (z2 : List Value) (i : Nat) (hi : i < 4) : ∀ (r k : Nat), k + r = 8 →
    WpL Try.prog g loop139b (fun e env mem => e = .exit 2 ∧ Wk g env mem [(2, .pointer (some ⟨b2, 0, none⟩)), (3, .pointer (some ⟨b3, 0, none⟩)), (7, el X), (8, i64 i)] [⟨b3, u8s (b8 (8 * (i + 1)) X) ++ List.replicate (32 - 8 * (i + 1)) (Value.int .u8 0), true⟩, ⟨b2, z2, true⟩])
      [(2, .pointer (some ⟨b2, 0, none⟩)), (3, .pointer (some ⟨b3, 0, none⟩)), (4, i64 i), (5, u64 ((w64 4 X).getD i 0)), (7, el X), (8, i64 i), (12, i64 k)] [⟨b3, u8s (b8 (8 * i + k) X) ++ List.replicate (32 - (8 * i + k)) (Value.int .u8 0), true⟩, ⟨b2, z2, true⟩] := by
  obtain ⟨gn, w0, may⟩ := g
  obtain rfl : gn = 28 := hg
  intro r
  induction r with
  | zero =>
    intro k hk
    obtain rfl : k = 8 := by omega
    rw [show 8 * (i + 1) = 8 * i + 8 by omega]
    refine WpL.step ?_
    refine Wp.seq ?_
    refine Wp.reg allGen ?_
    refine Tr.lss rfl rfl (by first | with_reducible assumption | exact decide_eq_true (by omega) | exact decide_eq_false (by omega) | exact beq_iff_eq.2 (by omega) | exact beq_eq_false_iff_ne.2 (by omega) | exact bne_iff_ne.2 (by omega) | rfl) rfl trivial rfl ?_
    refine Tr.nil ?_ (fun _ => rfl) (List.Perm.refl _)
    refine Wp.seq ?_
    refine Wp.condF rfl ?_
    refine Wp.exit ?_
    exact ⟨rfl, Wk.mk (by repeat (first | exact ESub.nil | refine ESub.cons rfl (by first | rfl | (simp; done) | (simp; omega)) ?_)) (by repeat (first | exact MSub.nil | refine MSub.cons (by repeat (first | exact .here | apply Pick.there | apply Pick.append)) (by first | rfl | (simp; done)) ?_))⟩
  | succ r ih =>
    intro k hk
    have hih := ih (k + 1) (by omega)
    have hidx : (8 * (i : Int) + (k : Int)).toNat = 8 * i + k := by omega
    have hset : (u8s (b8 (8 * i + k) X) ++ List.replicate (32 - (8 * i + k)) (Value.int .u8 0)).set (8 * i + k) (u8 (((w64 4 X).getD i 0) >>> UInt64.ofNat (8 * k)).toUInt8) = u8s (b8 (8 * i + (k + 1)) X) ++ List.replicate (32 - (8 * i + (k + 1))) (Value.int .u8 0) := by
      rw [show 32 - (8 * i + k) = (32 - (8 * i + (k + 1))) + 1 by omega, set_rep _ _ _ _ _ (b8u_len _ _), word_byte X i k hi (by omega), ← Nat.add_assoc, b8_snoc]
      simp
    rw [← hset] at hih
    have hlen : (u8s (b8 (8 * i + k) X) ++ List.replicate (32 - (8 * i + k)) (Value.int .u8 0)).length = 32 := by simp [b8_len]; omega
    generalize (w64 4 X).getD i 0 = wd at *
    have hsh : shrv .u64 (wd.toNat : Int) (8 * (k : Int)) = ((wd >>> UInt64.ofNat (8 * k)).toNat : Int) := by
      rw [show 8 * (k : Int) = ((8 * k : Nat) : Int) by omega]; exact u64_shr _ _ (by omega)
    generalize u8s (b8 (8 * i + k) X) ++ List.replicate (32 - (8 * i + k)) (Value.int .u8 0) = C at *
    rw [← hidx] at hih
    refine WpL.step ?_
    refine Wp.seq ?_
    refine Wp.reg allGen ?_
    refine Tr.lss rfl rfl (by first | with_reducible assumption | exact decide_eq_true (by omega) | exact decide_eq_false (by omega) | exact beq_iff_eq.2 (by omega) | exact beq_eq_false_iff_ne.2 (by omega) | exact bne_iff_ne.2 (by omega) | rfl) rfl trivial rfl ?_
    refine Tr.nil ?_ (fun _ => rfl) (List.Perm.refl _)
    refine Wp.seq ?_
    refine Wp.condT rfl ?_
    refine Wp.skip ?_
    refine Wp.seq ?_
    refine Wp.block ?_
    refine Wp.seq ?_
    refine Wp.reg allGen ?_
    refine Tr.move rfl rfl trivial rfl ?_
    refine Tr.assign rfl rfl trivial rfl ?_
    refine Tr.nil ?_ (fun _ => rfl) (List.Perm.refl _)
    refine Wp.reg allGen ?_
    refine Tr.move rfl rfl trivial rfl ?_
    refine Tr.mul rfl rfl (by first | exact wrap_i64 (by omega) (by omega) | rfl) rfl trivial rfl ?_
    refine Tr.move rfl rfl trivial rfl ?_
    refine Tr.add rfl rfl (by first | exact wrap_i64 (by omega) (by omega) | rfl) rfl trivial rfl ?_
    refine Tr.move rfl rfl trivial rfl ?_
    refine Tr.move rfl rfl trivial rfl ?_
    refine Tr.mul rfl rfl (by first | exact wrap_i64 (by omega) (by omega) | rfl) rfl trivial rfl ?_
    refine Tr.shr rfl rfl (by omega) hsh rfl trivial rfl ?_
    refine Tr.conv tab rfl rfl rfl rfl (by first | exact conv_u64_u8 _ | rfl) rfl trivial rfl ?_
    first | refine Tr.indexAddr01 tab rfl rfl rfl rfl rfl (by omega) (by omega) rfl trivial rfl ?_ | refine Tr.indexAddr1 tab rfl rfl rfl rfl rfl (by omega) (by omega) rfl trivial rfl ?_
    refine Tr.storeS tab rfl rfl rfl rfl (by repeat (first | exact .here | apply MU.there | apply MU.app)) (by omega) trivial rfl ?_
    refine Tr.nil ?_ (fun _ => rfl) (List.Perm.refl _)
    refine Wp.reg allGen ?_
    refine Tr.add rfl rfl (by first | exact wrap_i64 (by omega) (by omega) | rfl) rfl trivial rfl ?_
    refine Tr.move rfl rfl trivial rfl ?_
    refine Tr.nil ?_ (fun _ => rfl) (List.Perm.refl _)
    exact WpL.weak hih (Wk.mk (by repeat (first | exact ESub.nil | refine ESub.cons rfl (by first | rfl | (simp; done) | (simp; omega)) ?_)) (by repeat (first | exact MSub.nil | refine MSub.cons (by repeat (first | exact .here | apply Pick.there | apply Pick.append)) (by first | rfl | (simp; done)) ?_)))

theorem bytes_out {g : Gh} (hg : g.n = 28) (b2 b3 : Nat) (X : Nat) (z2 : List Value) : ∀ (r i : Nat), i + r = 4 →
    WpL Try.prog g loop139a (fun e env mem => e = .exit 0 ∧ Wk g env mem [(2, .pointer (some ⟨b2, 0, none⟩)), (3, .pointer (some ⟨b3, 0, none⟩))] [⟨b3, u8s (b8 32 X), true⟩, ⟨b2, z2, true⟩])
      [(2, .pointer (some ⟨b2, 0, none⟩)), (3, .pointer (some ⟨b3, 0, none⟩)), (7, el X), (8, i64 i)] [⟨b3, u8s (b8 (8 * i) X) ++ List.replicate (32 - 8 * i) (Value.int .u8 0), true⟩, ⟨b2, z2, true⟩] := by
  obtain ⟨gn, w0, may⟩ := g
  obtain rfl : gn = 28 := hg
  intro r
  induction r with
  | zero =>
    intro i hi
    obtain rfl : i = 4 := by omega
    refine WpL.step ?_
    refine Wp.seq ?_
    refine Wp.reg allGen ?_
    refine Tr.lss rfl rfl (by first | with_reducible assumption | exact decide_eq_true (by omega) | exact decide_eq_false (by omega) | exact beq_iff_eq.2 (by omega) | exact beq_eq_false_iff_ne.2 (by omega) | exact bne_iff_ne.2 (by omega) | rfl) rfl trivial rfl ?_
    refine Tr.nil ?_ (fun _ => rfl) (List.Perm.refl _)
    refine Wp.seq ?_
    refine Wp.condF rfl ?_
    refine Wp.exit ?_
    exact ⟨rfl, Wk.mk (by repeat (first | exact ESub.nil | refine ESub.cons rfl (by first | rfl | (simp; done) | (simp; omega)) ?_)) (MSub.cons (by repeat (first | exact .here | apply Pick.there | apply Pick.append)) (List.append_nil _) (MSub.cons (by repeat (first | exact .here | apply Pick.there | apply Pick.append)) rfl .nil))⟩
  | succ r ih =>
    intro i hi
    have gx := at_get u64 (At.all (u64s (w64 4 X))) 0 (j := i) (by rw [w64_len]; omega) (k := (i : Int)) rfl
    rw [Nat.zero_add] at gx
    have hin := bytes_in' (g := ⟨28, w0, may⟩) rfl b2 b3 X z2 i (by omega) 8 0 rfl
    rw [Nat.add_zero] at hin
    have hih := ih (i + 1) (by omega)
    refine WpL.step ?_
    refine Wp.seq ?_
    refine Wp.reg allGen ?_
    refine Tr.lss rfl rfl (by first | with_reducible assumption | exact decide_eq_true (by omega) | exact decide_eq_false (by omega) | exact beq_iff_eq.2 (by omega) | exact beq_eq_false_iff_ne.2 (by omega) | exact bne_iff_ne.2 (by omega) | rfl) rfl trivial rfl ?_
    refine Tr.nil ?_ (fun _ => rfl) (List.Perm.refl _)
    refine Wp.seq ?_
    refine Wp.condT rfl ?_
    refine Wp.skip ?_
    refine Wp.seq ?_
    refine Wp.block ?_
    refine Wp.seq ?_
    refine Wp.reg allGen ?_
    refine Tr.move rfl rfl trivial rfl ?_
    refine Tr.indexS tab rfl rfl rfl rfl rfl rfl rfl (by omega) (by omega) gx rfl trivial rfl ?_
    refine Tr.assign rfl rfl trivial rfl ?_
    refine Tr.assign rfl rfl trivial rfl ?_
    refine Tr.nil ?_ (fun _ => rfl) (List.Perm.refl _)
    refine Wp.seq ?_
    refine Wp.reg allGen ?_
    refine Tr.move rfl rfl trivial rfl ?_
    refine Tr.nil ?_ (fun _ => rfl) (List.Perm.refl _)
    refine Wp.block ?_
    refine Wp.loopQ (hin) (Wk.mk (by repeat (first | exact ESub.nil | refine ESub.cons rfl (by first | rfl | (simp; done) | (simp; omega)) ?_)) (by repeat (first | exact MSub.nil | refine MSub.cons (by repeat (first | exact .here | apply Pick.there | apply Pick.append)) (by first | rfl | (simp; done)) ?_))) ?_
    rintro _ env1 mem1 ⟨rfl, hk1⟩
    refine Wp.weak ?_ hk1
    refine Wp.reg allGen ?_
    refine Tr.add rfl rfl (by first | exact wrap_i64 (by omega) (by omega) | rfl) rfl trivial rfl ?_
    refine Tr.move rfl rfl trivial rfl ?_
    refine Tr.nil ?_ (fun _ => rfl) (List.Perm.refl _)
    exact WpL.weak hih (Wk.mk (by repeat (first | exact ESub.nil | refine ESub.cons rfl (by first | rfl | (simp; done) | (simp; omega)) ?_)) (by repeat (first | exact MSub.nil | refine MSub.cons (by repeat (first | exact .here | apply Pick.there | apply Pick.append)) (by first | rfl | (simp; done)) ?_)))

theorem f139_bytes (X : Nat) : FnR Try.prog 139 [el X] [] (.agg (u8s (b8 32 X)).toArray) := by
  refine fnR_of 28 rfl Try.func139 rfl (by kernel_rfl) rfl (by simp) fun w => ?_
  refine Wp.seq ?_
  refine Wp.reg allGen ?_
  refine Tr.boxA rfl rfl trivial rfl (fun B1 _ => ?_)
  refine Tr.alloc tab rfl rfl trivial rfl (fun B2 _ => ?_)
  refine Tr.nil ?_ (fun _ => rfl) (List.Perm.refl _)
  refine Wp.seq ?_
  refine Wp.reg allGen ?_
  refine Tr.alloc tab rfl rfl trivial rfl (fun B3 _ => ?_)
  refine Tr.nil ?_ (fun _ => rfl) (List.Perm.refl _)
  refine Wp.seq ?_
  refine Wp.seq ?_
  refine Wp.reg allGen ?_
  refine Tr.loadA tab rfl rfl rfl (by repeat (first | exact .head _ | refine .tail _ ?_ | refine List.mem_append_right _ ?_)) (At.all _) (el_len _) rfl trivial rfl ?_
  refine Tr.move rfl rfl trivial rfl ?_
  refine Tr.nil ?_ (fun _ => rfl) (List.Perm.refl _)
  refine Wp.block ?_
  refine Wp.loopQ (bytes_out rfl B2 B3 X _ 4 0 rfl) (Wk.mk (by repeat (first | exact ESub.nil | refine ESub.cons rfl (by first | rfl | (simp; done) | (simp; omega)) ?_)) (by repeat (first | exact MSub.nil | refine MSub.cons (by repeat (first | exact .here | apply Pick.there | apply Pick.append)) (by first | rfl | (simp; done)) ?_))) ?_
  rintro _ env1 mem1 ⟨rfl, hk1⟩
  refine Wp.weak ?_ hk1
  refine Wp.seq ?_
  refine Wp.reg allGen ?_
  refine Tr.loadA tab rfl rfl rfl (by repeat (first | exact .head _ | refine .tail _ ?_ | refine List.mem_append_right _ ?_)) (At.all _) (b8u_len _ _) rfl trivial rfl ?_
  refine Tr.storeA tab rfl rfl rfl (by repeat (first | exact .here | apply MU.there | apply MU.app)) (by exact b8u_len _ _) (by exact b8u_len _ _) (b8_one _ _) trivial rfl ?_
  refine Tr.nil ?_ (fun _ => rfl) (List.Perm.refl _)
  refine Wp.ret ?_
  exact ⟨.inr rfl, .r1 rfl (RvIs.cellA tab rfl rfl rfl (by repeat (first | exact .head _ | refine .tail _ ?_ | refine List.mem_append_right _ ?_)) (At.all _) (b8u_len _ _))⟩
end Go.Proofs.Ytffghaeaohabhaa.AW
