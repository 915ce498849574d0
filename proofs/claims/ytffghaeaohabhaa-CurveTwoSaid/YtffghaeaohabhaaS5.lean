import Derived.Test.YtffghaeaohabhaaS4
namespace Go.Proofs.Ytffghaeaohabhaa.AW
open Go
set_option maxRecDepth 100000

/-! ### pad -/
/-- a slice of bytes of the call's own -/
abbrev slv (b : Nat) (pre : List Value) (l : List UInt8) (sp : List Value) : Value := .slice (some ⟨b, pre.length, none⟩) l.length (l.length + sp.length)
abbrev sle (b : Nat) (pre : List Value) (l : List UInt8) (sp : List Value) : Ent := ⟨b, pre ++ u8s l ++ sp, true⟩

def beN (m : UInt64) : Nat → List UInt8
  | 0 => []
  | j + 1 => (m >>> UInt64.ofNat (8 * j)).toUInt8 :: beN m j

def loop73a : Code := (Code.seq (Code.seq (Code.region 3 #[{ dst := (some 8), op := (Op.move (Operand.tmp 0)), type := 3, pos := "sha256.go:100", after := #[], guard := none }, { dst := (some 9), op := (Op.move (Operand.tmp 3)), type := 36, pos := "sha256.go:100", after := #[], guard := none }, { dst := (some 10), op := (Op.call { callee := (Callee.builtin Builtin.len), args := #[(Operand.tmp 9)], argTypes := #[36] }), type := 3, pos := "sha256.go:100", after := #[{ on := 1, ground := Ground.data }], guard := none }, { dst := (some 11), op := (Op.binOp BinOp.add 3 (Operand.tmp 8) (Operand.tmp 10) 3), type := 3, pos := "sha256.go:100", after := #[{ on := 0, ground := Ground.data }, { on := 2, ground := Ground.data }], guard := none }, { dst := (some 12), op := (Op.binOp BinOp.add 3 (Operand.tmp 11) (Operand.const (Value.int IntKind.i64 8)) 3), type := 3, pos := "sha256.go:100", after := #[{ on := 3, ground := Ground.data }], guard := none }, { dst := (some 13), op := (Op.binOp BinOp.rem 3 (Operand.tmp 12) (Operand.const (Value.int IntKind.i64 64)) 3), type := 3, pos := "sha256.go:100", after := #[{ on := 4, ground := Ground.data }], guard := none }, { dst := (some 14), op := (Op.binOp BinOp.neq 3 (Operand.tmp 13) (Operand.const (Value.int IntKind.i64 0)) 3), type := 4, pos := "sha256.go:100", after := #[{ on := 5, ground := Ground.data }], guard := none }] false) (Code.cond (Operand.tmp 14) Code.skip (Code.exit 0))) (Code.block 1 (Code.region 4 #[{ dst := (some 15), op := (Op.move (Operand.tmp 3)), type := 36, pos := "sha256.go:101", after := #[], guard := none }, { dst := (some 16), op := (Op.buildSlice 36 1 #[(0, (Operand.const (Value.int IntKind.u8 0)))]), type := 36, pos := "sha256.go:101", after := #[], guard := none }, { dst := (some 17), op := (Op.call { callee := (Callee.builtin Builtin.append), args := #[(Operand.tmp 15), (Operand.tmp 16)], argTypes := #[36, 36] }), type := 36, pos := "sha256.go:101", after := #[{ on := 0, ground := Ground.data }, { on := 1, ground := Ground.data }], guard := none }, { dst := (some 3), op := (Op.assign (Operand.tmp 17)), type := 36, pos := "sha256.go:101", after := #[{ on := 2, ground := Ground.data }, { on := 2, ground := Ground.chain }, { on := 0, ground := Ground.phase }, { on := 1, ground := Ground.phase }, { on := 2, ground := Ground.phase }], guard := none }] false)))
def loop73b : Code := (Code.seq (Code.seq (Code.region 6 #[{ dst := (some 18), op := (Op.move (Operand.tmp 4)), type := 3, pos := "sha256.go:103", after := #[], guard := none }, { dst := (some 19), op := (Op.binOp BinOp.geq 3 (Operand.tmp 18) (Operand.const (Value.int IntKind.i64 0)) 3), type := 4, pos := "sha256.go:103", after := #[{ on := 0, ground := Ground.data }], guard := none }] false) (Code.cond (Operand.tmp 19) Code.skip (Code.exit 2))) (Code.seq (Code.block 3 (Code.region 8 #[{ dst := (some 22), op := (Op.move (Operand.tmp 3)), type := 36, pos := "sha256.go:104", after := #[], guard := none }, { dst := (some 23), op := (Op.move (Operand.tmp 0)), type := 3, pos := "sha256.go:104", after := #[], guard := none }, { dst := (some 24), op := (Op.convert 3 121 (Operand.tmp 23)), type := 121, pos := "sha256.go:104", after := #[{ on := 1, ground := Ground.data }], guard := none }, { dst := (some 25), op := (Op.binOp BinOp.mul 121 (Operand.const (Value.int IntKind.u64 8)) (Operand.tmp 24) 121), type := 121, pos := "sha256.go:104", after := #[{ on := 2, ground := Ground.data }], guard := none }, { dst := (some 26), op := (Op.move (Operand.tmp 4)), type := 3, pos := "sha256.go:104", after := #[], guard := none }, { dst := (some 27), op := (Op.binOp BinOp.shr 121 (Operand.tmp 25) (Operand.tmp 26) 3), type := 121, pos := "sha256.go:104", after := #[{ on := 3, ground := Ground.data }, { on := 4, ground := Ground.data }], guard := none }, { dst := (some 28), op := (Op.convert 121 5 (Operand.tmp 27)), type := 5, pos := "sha256.go:104", after := #[{ on := 5, ground := Ground.data }], guard := none }, { dst := (some 29), op := (Op.buildSlice 36 1 #[(0, (Operand.tmp 28))]), type := 36, pos := "sha256.go:104", after := #[{ on := 6, ground := Ground.data }], guard := none }, { dst := (some 30), op := (Op.call { callee := (Callee.builtin Builtin.append), args := #[(Operand.tmp 22), (Operand.tmp 29)], argTypes := #[36, 36] }), type := 36, pos := "sha256.go:104", after := #[{ on := 0, ground := Ground.data }, { on := 7, ground := Ground.data }], guard := none }, { dst := (some 3), op := (Op.assign (Operand.tmp 30)), type := 36, pos := "sha256.go:104", after := #[{ on := 8, ground := Ground.data }, { on := 8, ground := Ground.chain }, { on := 0, ground := Ground.phase }, { on := 1, ground := Ground.phase }, { on := 2, ground := Ground.phase }, { on := 3, ground := Ground.phase }, { on := 4, ground := Ground.phase }, { on := 5, ground := Ground.phase }, { on := 6, ground := Ground.phase }, { on := 7, ground := Ground.phase }, { on := 8, ground := Ground.phase }], guard := none }] false)) (Code.region 7 #[{ dst := (some 20), op := (Op.move (Operand.tmp 4)), type := 3, pos := "sha256.go:103", after := #[], guard := none }, { dst := (some 21), op := (Op.binOp BinOp.sub 3 (Operand.tmp 20) (Operand.const (Value.int IntKind.i64 8)) 3), type := 3, pos := "sha256.go:103", after := #[{ on := 0, ground := Ground.data }], guard := none }, { dst := (some 4), op := (Op.assign (Operand.tmp 21)), type := 3, pos := "sha256.go:103", after := #[{ on := 1, ground := Ground.data }, { on := 0, ground := Ground.phase }, { on := 1, ground := Ground.phase }], guard := none }] false)))

theorem pad_loop1 {g : Gh} (hg : g.n = 32) (n : Nat) (hn : n ≤ 1099511627776) : ∀ (r : Nat) (b : Nat) (pre sp : List Value) (l : List UInt8), r < 64 → l.length + r ≤ 128 → (n + l.length + 8 + r) % 64 = 0 →
    WpL Try.prog g loop73a (fun e env mem => e = .exit 0 ∧ ∃ b pre sp, Wk g env mem [(0, i64 n), (3, slv b pre (l ++ List.replicate r 0) sp)] [sle b pre (l ++ List.replicate r 0) sp])
      [(0, i64 n), (3, slv b pre l sp)] [sle b pre l sp]
  | 0, b, pre, sp, l, hr, hl, hm => by
    obtain ⟨gn, w0, may⟩ := g
    obtain rfl : gn = 32 := hg
    have hmod : (((n : Int) + (l.length : Int) + 8).tmod 64 != 0) = false := by
      have : ((n : Int) + (l.length : Int) + 8).tmod 64 = ((n : Int) + (l.length : Int) + 8) % 64 := Int.tmod_eq_emod_of_nonneg (by omega)
      rw [this]; simp; omega
    refine WpL.step ?_
    refine Wp.seq ?_
    refine Wp.seq ?_
    refine Wp.reg allGen ?_
    refine Tr.move rfl rfl trivial rfl ?_
    refine Tr.move rfl rfl trivial rfl ?_
    refine Tr.lenS tab rfl rfl rfl rfl trivial rfl ?_
    refine Tr.add rfl rfl (by first | exact wrap_i64 (by omega) (by omega) | rfl) rfl trivial rfl ?_
    refine Tr.add rfl rfl (by first | exact wrap_i64 (by omega) (by omega) | rfl) rfl trivial rfl ?_
    refine Tr.rem rfl rfl (by omega) rfl rfl trivial rfl ?_
    refine Tr.neq rfl rfl (by first | with_reducible assumption | exact decide_eq_true (by omega) | exact decide_eq_false (by omega) | exact beq_iff_eq.2 (by omega) | exact beq_eq_false_iff_ne.2 (by omega) | exact bne_iff_ne.2 (by omega) | rfl) rfl trivial rfl ?_
    refine Tr.nil ?_ (fun _ => rfl) (List.Perm.refl _)
    refine Wp.condF rfl ?_
    refine Wp.exit ?_
    exact ⟨rfl, b, pre, sp, Wk.mk (by repeat (first | exact ESub.nil | refine ESub.cons rfl (by first | rfl | (simp; done) | (simp; omega)) ?_)) (by repeat (first | exact MSub.nil | refine MSub.cons (by first | exact .here | exact (.there .here) | exact (.there (.there .here)) | exact (.there (.there (.there .here))) | exact (.there (.there (.there (.there .here)))) | exact (.there (.there (.there (.there (.there .here))))) | exact (.there (.there (.there (.there (.there (.there .here)))))) | exact (.there (.there (.there (.there (.there (.there (.there .here))))))) | exact (.there (.there (.there (.there (.there (.there (.there (.there .here)))))))) | exact (.there (.there (.there (.there (.there (.there (.there (.there (.there .here)))))))))) (by first | rfl | (simp; done)) ?_))⟩
  | r + 1, b, pre, sp, l, hr, hl, hm => by
    obtain ⟨gn, w0, may⟩ := g
    obtain rfl : gn = 32 := hg
    have hmod : (((n : Int) + (l.length : Int) + 8).tmod 64 != 0) = true := by
      have : ((n : Int) + (l.length : Int) + 8).tmod 64 = ((n : Int) + (l.length : Int) + 8) % 64 := Int.tmod_eq_emod_of_nonneg (by omega)
      rw [this]; simp; omega
    refine WpL.step ?_
    refine Wp.seq ?_
    refine Wp.seq ?_
    refine Wp.reg allGen ?_
    refine Tr.move rfl rfl trivial rfl ?_
    refine Tr.move rfl rfl trivial rfl ?_
    refine Tr.lenS tab rfl rfl rfl rfl trivial rfl ?_
    refine Tr.add rfl rfl (by first | exact wrap_i64 (by omega) (by omega) | rfl) rfl trivial rfl ?_
    refine Tr.add rfl rfl (by first | exact wrap_i64 (by omega) (by omega) | rfl) rfl trivial rfl ?_
    refine Tr.rem rfl rfl (by omega) rfl rfl trivial rfl ?_
    refine Tr.neq rfl rfl (by first | with_reducible assumption | exact decide_eq_true (by omega) | exact decide_eq_false (by omega) | exact beq_iff_eq.2 (by omega) | exact beq_eq_false_iff_ne.2 (by omega) | exact bne_iff_ne.2 (by omega) | rfl) rfl trivial rfl ?_
    refine Tr.nil ?_ (fun _ => rfl) (List.Perm.refl _)
    refine Wp.condT rfl ?_
    refine Wp.skip ?_
    refine Wp.block ?_
    refine Wp.reg allGen ?_
    refine Tr.move rfl rfl trivial rfl ?_
    refine Tr.buildSlice tab rfl rfl rfl rfl rfl rfl (by simp [fillC, splice, vcells, Value.cells, zrep_one]; rfl) rfl trivial rfl (fun _ _ => ?_)
    refine Tr.appendO tab rfl (by first | exact .here | exact (.there .here) | exact (.there (.there .here)) | exact (.there (.there (.there .here))) | exact (.there (.there (.there (.there .here)))) | exact (.there (.there (.there (.there (.there .here))))) | exact (.there (.there (.there (.there (.there (.there .here)))))) | exact (.there (.there (.there (.there (.there (.there (.there .here))))))) | exact (.there (.there (.there (.there (.there (.there (.there (.there .here)))))))) | exact (.there (.there (.there (.there (.there (.there (.there (.there (.there .here)))))))))) rfl rfl (by simp) rfl rfl (SrcOf.row (by first | exact (.head _) | exact (.tail _ (.head _)) | exact (.tail _ (.tail _ (.head _))) | exact (.tail _ (.tail _ (.tail _ (.head _)))) | exact (.tail _ (.tail _ (.tail _ (.tail _ (.head _))))) | exact (.tail _ (.tail _ (.tail _ (.tail _ (.tail _ (.head _)))))) | exact (.tail _ (.tail _ (.tail _ (.tail _ (.tail _ (.tail _ (.head _))))))) | exact (.tail _ (.tail _ (.tail _ (.tail _ (.tail _ (.tail _ (.tail _ (.head _)))))))) | exact (.tail _ (.tail _ (.tail _ (.tail _ (.tail _ (.tail _ (.tail _ (.tail _ (.head _))))))))) | exact (.tail _ (.tail _ (.tail _ (.tail _ (.tail _ (.tail _ (.tail _ (.tail _ (.tail _ (.head _))))))))))) (by first | exact At.all _ | with_reducible assumption | assumption) (by first | with_reducible rfl | with_reducible assumption | (simp; done) | (simp; omega) | rfl)) (by first | with_reducible assumption | rfl | (simp [Value.oneCell']; done)) rfl rfl rfl rfl (by simp) (by first | (simp; done) | (simp; omega)) (by first | (simp; done) | (simp; omega)) rfl trivial rfl (fun b1 pre1 sp1 => ?_)
    refine Tr.assign rfl rfl trivial rfl ?_
    refine Tr.nil ?_ (fun _ => rfl) (List.Perm.refl _)
    refine WpL.weak ((pad_loop1 rfl n hn r b1 pre1 sp1 (l ++ [0]) (by omega) (by simp; omega) (by simp; omega)).mono ?_) (Wk.mk (by repeat (first | exact ESub.nil | refine ESub.cons rfl (by first | rfl | (simp; done) | (simp; omega)) ?_)) (by repeat (first | exact MSub.nil | refine MSub.cons (by first | exact .here | exact (.there .here) | exact (.there (.there .here)) | exact (.there (.there (.there .here))) | exact (.there (.there (.there (.there .here)))) | exact (.there (.there (.there (.there (.there .here))))) | exact (.there (.there (.there (.there (.there (.there .here)))))) | exact (.there (.there (.there (.there (.there (.there (.there .here))))))) | exact (.there (.there (.there (.there (.there (.there (.there (.there .here)))))))) | exact (.there (.there (.there (.there (.there (.there (.there (.there (.there .here)))))))))) (by first | rfl | (simp; done)) ?_)))
    intro e env mem h
    have e1 : l ++ [0] ++ List.replicate r 0 = l ++ List.replicate (r + 1) (0 : UInt8) := by simp [List.replicate_succ]
    rw [e1] at h
    exact h

theorem pad_loop2 {g : Gh} (hg : g.n = 32) (n : Nat) (hn : n ≤ 1099511627776) : ∀ (j : Nat) (b : Nat) (pre sp : List Value) (l : List UInt8), j ≤ 8 → l.length + j ≤ 256 →
    WpL Try.prog g loop73b (fun e env mem => e = .exit 2 ∧ ∃ b pre sp, Wk g env mem [(3, slv b pre (l ++ beN (8 * UInt64.ofNat n) j) sp)] [sle b pre (l ++ beN (8 * UInt64.ofNat n) j) sp])
      [(0, i64 n), (3, slv b pre l sp), (4, i64 (8 * (j : Int) - 8))] [sle b pre l sp]
  | 0, b, pre, sp, l, hj, hl => by
    obtain ⟨gn, w0, may⟩ := g
    obtain rfl : gn = 32 := hg
    have e0 : l ++ beN (8 * UInt64.ofNat n) 0 = l := by simp [beN]
    simp only [e0]
    refine WpL.step ?_
    refine Wp.seq ?_
    refine Wp.seq ?_
    refine Wp.reg allGen ?_
    refine Tr.move rfl rfl trivial rfl ?_
    refine Tr.geq rfl rfl (by first | with_reducible assumption | exact decide_eq_true (by omega) | exact decide_eq_false (by omega) | exact beq_iff_eq.2 (by omega) | exact beq_eq_false_iff_ne.2 (by omega) | exact bne_iff_ne.2 (by omega) | rfl) rfl trivial rfl ?_
    refine Tr.nil ?_ (fun _ => rfl) (List.Perm.refl _)
    refine Wp.condF rfl ?_
    refine Wp.exit ?_
    exact ⟨rfl, b, pre, sp, Wk.mk (by repeat (first | exact ESub.nil | refine ESub.cons rfl (by first | rfl | (simp; done) | (simp; omega)) ?_)) (by repeat (first | exact MSub.nil | refine MSub.cons (by first | exact .here | exact (.there .here) | exact (.there (.there .here)) | exact (.there (.there (.there .here))) | exact (.there (.there (.there (.there .here)))) | exact (.there (.there (.there (.there (.there .here))))) | exact (.there (.there (.there (.there (.there (.there .here)))))) | exact (.there (.there (.there (.there (.there (.there (.there .here))))))) | exact (.there (.there (.there (.there (.there (.there (.there (.there .here)))))))) | exact (.there (.there (.there (.there (.there (.there (.there (.there (.there .here)))))))))) (by first | rfl | (simp; done)) ?_))⟩
  | j + 1, b, pre, sp, l, hj, hl => by
    obtain ⟨gn, w0, may⟩ := g
    obtain rfl : gn = 32 := hg
    have hcv : IntKind.u64.wrap (n : Int) = ((UInt64.ofNat n).toNat : Int) := by
      rw [wrap_u64 (by omega) (by omega), UInt64.toNat_ofNat_of_lt' (by show _ < 18446744073709551616; omega)]
    have hsh : shrv .u64 ((8 * UInt64.ofNat n).toNat : Int) (8 * ((j + 1 : Nat) : Int) - 8) = (((8 * UInt64.ofNat n) >>> UInt64.ofNat (8 * j)).toNat : Int) := by
      rw [show (8 * ((j + 1 : Nat) : Int) - 8) = ((8 * j : Nat) : Int) by omega]
      exact u64_shr _ _ (by omega)
    refine WpL.step ?_
    refine Wp.seq ?_
    refine Wp.seq ?_
    refine Wp.reg allGen ?_
    refine Tr.move rfl rfl trivial rfl ?_
    refine Tr.geq rfl rfl (by first | with_reducible assumption | exact decide_eq_true (by omega) | exact decide_eq_false (by omega) | exact beq_iff_eq.2 (by omega) | exact beq_eq_false_iff_ne.2 (by omega) | exact bne_iff_ne.2 (by omega) | rfl) rfl trivial rfl ?_
    refine Tr.nil ?_ (fun _ => rfl) (List.Perm.refl _)
    refine Wp.condT rfl ?_
    refine Wp.skip ?_
    refine Wp.seq ?_
    refine Wp.block ?_
    refine Wp.reg allGen ?_
    refine Tr.move rfl rfl trivial rfl ?_
    refine Tr.move rfl rfl trivial rfl ?_
    refine Tr.conv tab rfl rfl rfl rfl hcv rfl trivial rfl ?_
    refine Tr.mul (a := ((8 : UInt64).toNat : Int)) rfl rfl (by first | exact u64_mul _ _ | exact wrap_u64 (by omega) (by omega) | rfl) rfl trivial rfl ?_
    refine Tr.move rfl rfl trivial rfl ?_
    refine Tr.shr rfl rfl (by omega) hsh rfl trivial rfl ?_
    refine Tr.conv tab rfl rfl rfl rfl (by first | exact conv_u64_u8 _ | rfl) rfl trivial rfl ?_
    refine Tr.buildSlice tab rfl rfl rfl rfl rfl rfl (by simp [fillC, splice, vcells, Value.cells, zrep_one]; rfl) rfl trivial rfl (fun _ _ => ?_)
    refine Tr.appendO tab rfl (by first | exact .here | exact (.there .here) | exact (.there (.there .here)) | exact (.there (.there (.there .here))) | exact (.there (.there (.there (.there .here)))) | exact (.there (.there (.there (.there (.there .here))))) | exact (.there (.there (.there (.there (.there (.there .here)))))) | exact (.there (.there (.there (.there (.there (.there (.there .here))))))) | exact (.there (.there (.there (.there (.there (.there (.there (.there .here)))))))) | exact (.there (.there (.there (.there (.there (.there (.there (.there (.there .here)))))))))) rfl rfl (by simp) rfl rfl (SrcOf.row (by first | exact (.head _) | exact (.tail _ (.head _)) | exact (.tail _ (.tail _ (.head _))) | exact (.tail _ (.tail _ (.tail _ (.head _)))) | exact (.tail _ (.tail _ (.tail _ (.tail _ (.head _))))) | exact (.tail _ (.tail _ (.tail _ (.tail _ (.tail _ (.head _)))))) | exact (.tail _ (.tail _ (.tail _ (.tail _ (.tail _ (.tail _ (.head _))))))) | exact (.tail _ (.tail _ (.tail _ (.tail _ (.tail _ (.tail _ (.tail _ (.head _)))))))) | exact (.tail _ (.tail _ (.tail _ (.tail _ (.tail _ (.tail _ (.tail _ (.tail _ (.head _))))))))) | exact (.tail _ (.tail _ (.tail _ (.tail _ (.tail _ (.tail _ (.tail _ (.tail _ (.tail _ (.head _))))))))))) (by first | exact At.all _ | with_reducible assumption | assumption) (by first | with_reducible rfl | with_reducible assumption | (simp; done) | (simp; omega) | rfl)) (by first | with_reducible assumption | rfl | (simp [Value.oneCell']; done)) rfl rfl rfl rfl (by simp) (by first | (simp; done) | (simp; omega)) (by first | (simp; done) | (simp; omega)) rfl trivial rfl (fun b1 pre1 sp1 => ?_)
    refine Tr.assign rfl rfl trivial rfl ?_
    refine Tr.nil ?_ (fun _ => rfl) (List.Perm.refl _)
    refine Wp.reg allGen ?_
    refine Tr.move rfl rfl trivial rfl ?_
    refine Tr.sub rfl rfl (by first | exact wrap_i64 (by omega) (by omega) | rfl) rfl trivial rfl ?_
    refine Tr.assign rfl rfl trivial rfl ?_
    refine Tr.nil ?_ (fun _ => rfl) (List.Perm.refl _)
    refine WpL.weak ((pad_loop2 rfl n hn j b1 pre1 sp1 (l ++ [((8 * UInt64.ofNat n) >>> UInt64.ofNat (8 * j)).toUInt8]) (by omega) (by simp; omega)).mono ?_) (Wk.mk (by repeat (first | exact ESub.nil | refine ESub.cons rfl (by first | rfl | (simp; done) | (simp; omega)) ?_)) (by repeat (first | exact MSub.nil | refine MSub.cons (by first | exact .here | exact (.there .here) | exact (.there (.there .here)) | exact (.there (.there (.there .here))) | exact (.there (.there (.there (.there .here)))) | exact (.there (.there (.there (.there (.there .here))))) | exact (.there (.there (.there (.there (.there (.there .here)))))) | exact (.there (.there (.there (.there (.there (.there (.there .here))))))) | exact (.there (.there (.there (.there (.there (.there (.there (.there .here)))))))) | exact (.there (.there (.there (.there (.there (.there (.there (.there (.there .here)))))))))) (by first | rfl | (simp; done)) ?_)))
    intro e env mem h
    have e1 : l ++ [((8 * UInt64.ofNat n) >>> UInt64.ofNat (8 * j)).toUInt8] ++ beN (8 * UInt64.ofNat n) j = l ++ beN (8 * UInt64.ofNat n) (j + 1) := by simp [beN]
    rw [e1] at h
    exact h

def padZ (n : Nat) : Nat := (119 - n % 64) % 64
/-- what comes behind n bytes -/
def padS (n : Nat) : List UInt8 := 128 :: (List.replicate (padZ n) 0 ++ beN (8 * UInt64.ofNat n) 8)

theorem beN_len (m : UInt64) : ∀ j, (beN m j).length = j
  | 0 => rfl
  | j + 1 => by simp [beN, beN_len m j]

theorem f73_pad (n : Nat) (hn : n ≤ 1099511627776) : FnG Try.prog 73 [i64 n] [] (fun v es => Fresh (u8s (padS n)) v es) := by
  have hz : padZ n < 64 ∧ (n + 1 + 8 + padZ n) % 64 = 0 := by unfold padZ; omega
  refine fnG_of 32 rfl Try.func73 rfl (by kernel_rfl) rfl (by simp) fun w => ?_
  refine Wp.seq ?_
  refine Wp.reg allGen ?_
  refine Tr.assign rfl rfl trivial rfl ?_
  refine Tr.nil ?_ (fun _ => rfl) (List.Perm.refl _)
  refine Wp.seq ?_
  refine Wp.reg allGen ?_
  refine Tr.makeSlice tab rfl rfl rfl rfl rfl (by omega) (by omega) (by omega) (by omega) rfl trivial rfl (fun _ _ => ?_)
  refine Tr.assign rfl rfl trivial rfl ?_
  refine Tr.nil ?_ (fun _ => rfl) (List.Perm.refl _)
  refine Wp.seq ?_
  refine Wp.reg allGen ?_
  refine Tr.move rfl rfl trivial rfl ?_
  first | refine Tr.indexAddrS01 tab rfl rfl rfl rfl rfl (by omega) (by omega) rfl trivial rfl ?_ | refine Tr.indexAddrS1 tab rfl rfl rfl rfl rfl (by omega) (by omega) rfl trivial rfl ?_
  refine Tr.storeS tab rfl rfl rfl rfl (by first | exact .here | exact (.there .here) | exact (.there (.there .here)) | exact (.there (.there (.there .here))) | exact (.there (.there (.there (.there .here)))) | exact (.there (.there (.there (.there (.there .here))))) | exact (.there (.there (.there (.there (.there (.there .here)))))) | exact (.there (.there (.there (.there (.there (.there (.there .here))))))) | exact (.there (.there (.there (.there (.there (.there (.there (.there .here)))))))) | exact (.there (.there (.there (.there (.there (.there (.there (.there (.there .here)))))))))) (by first | decide | (simp; done) | (simp; omega) | exact Nat.le_of_ble_eq_true rfl) trivial rfl ?_
  refine Tr.nil ?_ (fun _ => rfl) (List.Perm.refl _)
  refine Wp.seq ?_
  refine Wp.block ?_
  refine Wp.loopQ (pad_loop1 rfl n hn (padZ n) _ [] (List.replicate 127 (.int .u8 0)) [128] hz.1 (by simp; omega) (by simpa using hz.2)) (Wk.mk (by repeat (first | exact ESub.nil | refine ESub.cons rfl (by first | rfl | (simp; done) | (simp; omega)) ?_)) (by repeat (first | exact MSub.nil | refine MSub.cons (by first | exact .here | exact (.there .here) | exact (.there (.there .here)) | exact (.there (.there (.there .here))) | exact (.there (.there (.there (.there .here)))) | exact (.there (.there (.there (.there (.there .here))))) | exact (.there (.there (.there (.there (.there (.there .here)))))) | exact (.there (.there (.there (.there (.there (.there (.there .here))))))) | exact (.there (.there (.there (.there (.there (.there (.there (.there .here)))))))) | exact (.there (.there (.there (.there (.there (.there (.there (.there (.there .here)))))))))) (by first | rfl | (simp; done)) ?_))) ?_
  rintro _ env1 mem1 ⟨rfl, b1, pre1, sp1, hk1⟩
  refine Wp.weak ?_ hk1
  refine Wp.seq ?_
  refine Wp.seq ?_
  refine Wp.reg allGen ?_
  refine Tr.assign rfl rfl trivial rfl ?_
  refine Tr.nil ?_ (fun _ => rfl) (List.Perm.refl _)
  refine Wp.block ?_
  refine Wp.loopQ (pad_loop2 rfl n hn 8 b1 pre1 sp1 ([128] ++ List.replicate (padZ n) 0) (by omega) (by simp; omega)) (Wk.mk (by repeat (first | exact ESub.nil | refine ESub.cons rfl (by first | rfl | (simp; done) | (simp; omega)) ?_)) (by repeat (first | exact MSub.nil | refine MSub.cons (by first | exact .here | exact (.there .here) | exact (.there (.there .here)) | exact (.there (.there (.there .here))) | exact (.there (.there (.there (.there .here)))) | exact (.there (.there (.there (.there (.there .here))))) | exact (.there (.there (.there (.there (.there (.there .here)))))) | exact (.there (.there (.there (.there (.there (.there (.there .here))))))) | exact (.there (.there (.there (.there (.there (.there (.there (.there .here)))))))) | exact (.there (.there (.there (.there (.there (.there (.there (.there (.there .here)))))))))) (by first | rfl | (simp; done)) ?_))) ?_
  rintro _ env2 mem2 ⟨rfl, b2, pre2, sp2, hk2⟩
  refine Wp.weak ?_ hk2
  refine Wp.seq ?_
  refine Wp.reg allGen ?_
  refine Tr.move rfl rfl trivial rfl ?_
  refine Tr.assign rfl rfl trivial rfl ?_
  refine Tr.nil ?_ (fun _ => rfl) (List.Perm.refl _)
  refine Wp.ret ?_
  exact ⟨.inr rfl, _, _, .inr ⟨b2, pre2, sp2, rfl, rfl⟩, by simp only [List.length_map]; exact .r1 rfl (RvIs.tmp rfl), MSub.refl _, by simp⟩
end Go.Proofs.Ytffghaeaohabhaa.AW
