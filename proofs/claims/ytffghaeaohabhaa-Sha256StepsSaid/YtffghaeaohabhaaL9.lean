import Derived.Test.YtffghaeaohabhaaS12
namespace Go.Proofs.Ytffghaeaohabhaa.AW
open Go Go.Proofs
set_option maxRecDepth 100000
attribute [local irreducible] blockS

theorem bytes_get (s : W8) : ∀ i, i < 32 → s.bytes[i]? = some ((s.l.getD (i / 4) 0) >>> UInt32.ofNat (24 - 8 * (i % 4))).toUInt8
  | 0, _ => rfl
  | 1, _ => rfl
  | 2, _ => rfl
  | 3, _ => rfl
  | 4, _ => rfl
  | 5, _ => rfl
  | 6, _ => rfl
  | 7, _ => rfl
  | 8, _ => rfl
  | 9, _ => rfl
  | 10, _ => rfl
  | 11, _ => rfl
  | 12, _ => rfl
  | 13, _ => rfl
  | 14, _ => rfl
  | 15, _ => rfl
  | 16, _ => rfl
  | 17, _ => rfl
  | 18, _ => rfl
  | 19, _ => rfl
  | 20, _ => rfl
  | 21, _ => rfl
  | 22, _ => rfl
  | 23, _ => rfl
  | 24, _ => rfl
  | 25, _ => rfl
  | 26, _ => rfl
  | 27, _ => rfl
  | 28, _ => rfl
  | 29, _ => rfl
  | 30, _ => rfl
  | 31, _ => rfl
  | n + 32, h => absurd h (by omega)

def loop9a : Code := (Code.seq (Code.seq (Code.region 6 #[{ dst := (some 16), op := (Op.move (Operand.tmp 5)), type := 3, pos := "more.go:25", after := #[], guard := none }, { dst := (some 17), op := (Op.binOp BinOp.add 3 (Operand.tmp 16) (Operand.const (Value.int IntKind.i64 64)) 3), type := 3, pos := "more.go:25", after := #[{ on := 0, ground := Ground.data }], guard := none }, { dst := (some 18), op := (Op.move (Operand.tmp 3)), type := 36, pos := "more.go:25", after := #[], guard := none }, { dst := (some 19), op := (Op.call { callee := (Callee.builtin Builtin.len), args := #[(Operand.tmp 18)], argTypes := #[36] }), type := 3, pos := "more.go:25", after := #[{ on := 2, ground := Ground.data }], guard := none }, { dst := (some 20), op := (Op.binOp BinOp.leq 3 (Operand.tmp 17) (Operand.tmp 19) 3), type := 4, pos := "more.go:25", after := #[{ on := 1, ground := Ground.data }, { on := 3, ground := Ground.data }], guard := none }] false) (Code.cond (Operand.tmp 20) Code.skip (Code.exit 0))) (Code.seq (Code.block 1 (Code.seq (Code.region 8 #[{ dst := (some 24), op := (Op.load 30 (Operand.tmp 4)), type := 30, pos := "more.go:26", after := #[], guard := none }, { dst := (some 25), op := (Op.move (Operand.tmp 3)), type := 36, pos := "more.go:26", after := #[], guard := none }, { dst := (some 26), op := (Op.move (Operand.tmp 5)), type := 3, pos := "more.go:26", after := #[], guard := none }, { dst := (some 27), op := (Op.move (Operand.tmp 5)), type := 3, pos := "more.go:26", after := #[], guard := none }, { dst := (some 28), op := (Op.binOp BinOp.add 3 (Operand.tmp 27) (Operand.const (Value.int IntKind.i64 64)) 3), type := 3, pos := "more.go:26", after := #[{ on := 3, ground := Ground.data }], guard := none }, { dst := (some 29), op := (Op.slice 36 (Operand.tmp 25) (some (Operand.tmp 26)) (some (Operand.tmp 28)) none), type := 36, pos := "more.go:26", after := #[{ on := 1, ground := Ground.data }, { on := 2, ground := Ground.data }, { on := 4, ground := Ground.data }], guard := none }, { dst := (some 30), op := (Op.call { callee := (Callee.value (Operand.func 37)), args := #[(Operand.tmp 24), (Operand.tmp 29)], argTypes := #[30, 36] }), type := 47, pos := "more.go:26", after := #[{ on := 0, ground := Ground.data }, { on := 5, ground := Ground.data }], guard := none }, { dst := (some 23), op := (Op.move (Operand.tmp 30)), type := 47, pos := "more.go:26", after := #[{ on := 6, ground := Ground.data }], guard := none }, { dst := (some 31), op := (Op.extract (Operand.tmp 23) 0), type := 30, pos := "more.go:26", after := #[{ on := 7, ground := Ground.data }], guard := none }, { dst := (some 32), op := (Op.extract (Operand.tmp 23) 1), type := 23, pos := "more.go:26", after := #[{ on := 7, ground := Ground.data }, { on := 11, ground := (Ground.gcOnly Departure.lateStores) }], guard := none }, { dst := (some 6), op := (Op.alloc 30), type := 0, pos := "more.go:26", after := #[], guard := none }, { dst := none, op := (Op.store 30 (Operand.tmp 6) (Operand.tmp 31)), type := 0, pos := "more.go:26", after := #[{ on := 10, ground := Ground.data }, { on := 8, ground := Ground.data }, { on := 6, ground := Ground.chain }, { on := 0, ground := Ground.phase }, { on := 1, ground := Ground.phase }, { on := 2, ground := Ground.phase }, { on := 3, ground := Ground.phase }, { on := 4, ground := Ground.phase }, { on := 5, ground := Ground.phase }, { on := 6, ground := Ground.phase }, { on := 7, ground := Ground.phase }, { on := 8, ground := Ground.phase }, { on := 9, ground := (Ground.textOnly Departure.lateStores) }, { on := 10, ground := Ground.phase }], guard := none }, { dst := (some 7), op := (Op.assign (Operand.tmp 32)), type := 23, pos := "more.go:26", after := #[{ on := 9, ground := Ground.data }, { on := 11, ground := Ground.chain }, { on := 0, ground := Ground.phase }, { on := 1, ground := Ground.phase }, { on := 2, ground := Ground.phase }, { on := 3, ground := Ground.phase }, { on := 4, ground := Ground.phase }, { on := 5, ground := Ground.phase }, { on := 6, ground := Ground.phase }, { on := 7, ground := Ground.phase }, { on := 8, ground := Ground.phase }, { on := 9, ground := Ground.phase }, { on := 10, ground := Ground.phase }, { on := 11, ground := Ground.phase }], guard := none }] true) (Code.seq (Code.seq (Code.region 9 #[{ dst := (some 33), op := (Op.move (Operand.tmp 7)), type := 23, pos := "more.go:27", after := #[], guard := none }, { dst := (some 34), op := (Op.binOp BinOp.neq 23 (Operand.tmp 33) (Operand.const (Value.int IntKind.i64 0)) 23), type := 4, pos := "more.go:27", after := #[{ on := 0, ground := Ground.data }], guard := none }] false) (Code.cond (Operand.tmp 34) (Code.seq (Code.region 10 #[{ dst := (some 2), op := (Op.assign (Operand.const (Value.bool false))), type := 4, pos := "more.go:28", after := #[], guard := none }] false) Code.ret) Code.skip)) (Code.region 11 #[{ dst := (some 35), op := (Op.load 30 (Operand.tmp 6)), type := 30, pos := "more.go:30", after := #[], guard := none }, { dst := none, op := (Op.store 30 (Operand.tmp 4) (Operand.tmp 35)), type := 0, pos := "more.go:30", after := #[{ on := 0, ground := Ground.data }, { on := 0, ground := Ground.phase }], guard := none }] false)))) (Code.region 7 #[{ dst := (some 21), op := (Op.move (Operand.tmp 5)), type := 3, pos := "more.go:25", after := #[], guard := none }, { dst := (some 22), op := (Op.binOp BinOp.add 3 (Operand.tmp 21) (Operand.const (Value.int IntKind.i64 64)) 3), type := 3, pos := "more.go:25", after := #[{ on := 0, ground := Ground.data }], guard := none }, { dst := (some 5), op := (Op.assign (Operand.tmp 22)), type := 3, pos := "more.go:25", after := #[{ on := 1, ground := Ground.data }, { on := 0, ground := Ground.phase }, { on := 1, ground := Ground.phase }], guard := none }] false)))
def loop9b : Code := (Code.seq (Code.seq (Code.region 14 #[{ dst := (some 38), op := (Op.move (Operand.tmp 9)), type := 3, pos := "more.go:33", after := #[], guard := none }, { dst := (some 39), op := (Op.binOp BinOp.lss 3 (Operand.tmp 38) (Operand.const (Value.int IntKind.i64 32)) 3), type := 4, pos := "more.go:33", after := #[{ on := 0, ground := Ground.data }], guard := none }] false) (Code.cond (Operand.tmp 39) Code.skip (Code.exit 2))) (Code.seq (Code.block 3 (Code.seq (Code.region 16 #[{ dst := (some 42), op := (Op.move (Operand.tmp 9)), type := 3, pos := "more.go:34", after := #[], guard := none }, { dst := (some 43), op := (Op.indexAddr 37 (Operand.tmp 8) (Operand.tmp 42)), type := 0, pos := "more.go:34", after := #[{ on := 0, ground := Ground.data }], guard := none }, { dst := (some 44), op := (Op.load 5 (Operand.tmp 43)), type := 5, pos := "more.go:34", after := #[{ on := 1, ground := Ground.data }], guard := none }, { dst := (some 45), op := (Op.move (Operand.tmp 9)), type := 3, pos := "more.go:34", after := #[], guard := none }, { dst := (some 46), op := (Op.binOp BinOp.quo 3 (Operand.tmp 45) (Operand.const (Value.int IntKind.i64 4)) 3), type := 3, pos := "more.go:34", after := #[{ on := 3, ground := Ground.data }], guard := none }, { dst := (some 47), op := (Op.indexAddr 30 (Operand.tmp 4) (Operand.tmp 46)), type := 0, pos := "more.go:34", after := #[{ on := 4, ground := Ground.data }], guard := none }, { dst := (some 48), op := (Op.load 29 (Operand.tmp 47)), type := 29, pos := "more.go:34", after := #[{ on := 5, ground := Ground.data }], guard := none }, { dst := (some 49), op := (Op.move (Operand.tmp 9)), type := 3, pos := "more.go:34", after := #[], guard := none }, { dst := (some 50), op := (Op.binOp BinOp.rem 3 (Operand.tmp 49) (Operand.const (Value.int IntKind.i64 4)) 3), type := 3, pos := "more.go:34", after := #[{ on := 7, ground := Ground.data }], guard := none }, { dst := (some 51), op := (Op.binOp BinOp.mul 3 (Operand.const (Value.int IntKind.i64 8)) (Operand.tmp 50) 3), type := 3, pos := "more.go:34", after := #[{ on := 8, ground := Ground.data }], guard := none }, { dst := (some 52), op := (Op.binOp BinOp.sub 3 (Operand.const (Value.int IntKind.i64 24)) (Operand.tmp 51) 3), type := 3, pos := "more.go:34", after := #[{ on := 9, ground := Ground.data }], guard := none }, { dst := (some 53), op := (Op.convert 3 51 (Operand.tmp 52)), type := 51, pos := "more.go:34", after := #[{ on := 10, ground := Ground.data }], guard := none }, { dst := (some 54), op := (Op.binOp BinOp.shr 29 (Operand.tmp 48) (Operand.tmp 53) 51), type := 29, pos := "more.go:34", after := #[{ on := 6, ground := Ground.data }, { on := 11, ground := Ground.data }], guard := none }, { dst := (some 55), op := (Op.convert 29 5 (Operand.tmp 54)), type := 5, pos := "more.go:34", after := #[{ on := 12, ground := Ground.data }], guard := none }, { dst := (some 56), op := (Op.binOp BinOp.neq 5 (Operand.tmp 44) (Operand.tmp 55) 5), type := 4, pos := "more.go:34", after := #[{ on := 2, ground := Ground.data }, { on := 13, ground := Ground.data }], guard := none }] true) (Code.cond (Operand.tmp 56) (Code.seq (Code.region 17 #[{ dst := (some 2), op := (Op.assign (Operand.const (Value.bool false))), type := 4, pos := "more.go:35", after := #[], guard := none }] false) Code.ret) Code.skip))) (Code.region 15 #[{ dst := (some 40), op := (Op.move (Operand.tmp 9)), type := 3, pos := "more.go:33", after := #[], guard := none }, { dst := (some 41), op := (Op.binOp BinOp.add 3 (Operand.tmp 40) (Operand.const (Value.int IntKind.i64 1)) 3), type := 3, pos := "more.go:33", after := #[{ on := 0, ground := Ground.data }], guard := none }, { dst := (some 9), op := (Op.assign (Operand.tmp 41)), type := 3, pos := "more.go:33", after := #[{ on := 1, ground := Ground.data }, { on := 0, ground := Ground.phase }, { on := 1, ground := Ground.phase }], guard := none }] false)))

theorem f26_start8 : FnR Try.prog 26 [] [] (.agg (u32s start8.l).toArray) := by rw [start8_l]; exact f26_start

theorem steps_loop1 {g : Gh} (hg : g.n = 58) (x0 : Value) (L : List UInt8) (N : Nat) (hL : L.length = 64 * N) (hN : N ≤ 1000000) (b4 bp : Nat) (pre sp : List Value) (R : List Ent) : ∀ (r k : Nat), k + r = N →
    WpL Try.prog g loop9a (fun e env mem => e = .exit 0 ∧ Wk g env mem [(0, x0), (4, .pointer (some ⟨b4, 0, none⟩))] (⟨b4, u32s (blocksS roundsS N start8 L).l, true⟩ :: ⟨bp, pre ++ u8s L ++ sp, true⟩ :: R))
      [(0, x0), (3, .slice (some ⟨bp, pre.length, none⟩) L.length (L.length + sp.length)), (4, .pointer (some ⟨b4, 0, none⟩)), (5, i64 (64 * (k : Int)))]
      (⟨b4, u32s (blocksS roundsS k start8 L).l, true⟩ :: ⟨bp, pre ++ u8s L ++ sp, true⟩ :: R) := by
  obtain ⟨gn, w0, may⟩ := g
  obtain rfl : gn = 58 := hg
  intro r
  induction r with
  | zero =>
    intro k hk
    obtain rfl : k = N := by omega
    refine WpL.step ?_
    refine Wp.seq ?_
    refine Wp.seq ?_
    refine Wp.reg allGen ?_
    refine Tr.move rfl rfl trivial rfl ?_
    refine Tr.add rfl rfl (by first | exact wrap_i64 (by omega) (by omega) | rfl) rfl trivial rfl ?_
    refine Tr.move rfl rfl trivial rfl ?_
    refine Tr.lenS tab rfl rfl rfl rfl trivial rfl ?_
    refine Tr.leq rfl rfl (by first | with_reducible assumption | exact decide_eq_true (by omega) | exact decide_eq_false (by omega) | exact beq_iff_eq.2 (by omega) | exact beq_eq_false_iff_ne.2 (by omega) | exact bne_iff_ne.2 (by omega) | rfl) rfl trivial rfl ?_
    refine Tr.nil ?_ (fun _ => rfl) (List.Perm.refl _)
    refine Wp.condF rfl ?_
    refine Wp.exit ?_
    exact ⟨rfl, ⟨fun a ha => EH.sub (ESub.sub (by repeat (first | exact ESub.nil | refine ESub.cons rfl (by first | rfl | (simp; done) | (simp; omega)) ?_))) a ha, fun w hw => hw⟩⟩
  | succ r ih =>
    intro k hk
    have hih := ih (k + 1) (by omega)
    have hd : ((L.drop (64 * k)).take 64).length = 64 := by simp; omega
    have hstep : blocksS roundsS (k + 1) start8 L = blockS roundsS (blocksS roundsS k start8 L) ((L.drop (64 * k)).take 64) := by
      rw [blocksS_add, blocksS_succ, blocksS_zero]
    rw [hstep] at hih
    generalize blocksS roundsS k start8 L = s at hih ⊢
    have hoff : (if L.length + sp.length = (64 * (k : Int)).toNat then pre.length else pre.length + (64 * (k : Int)).toNat) = pre.length + 64 * k := by
      rw [if_neg (by omega)]; omega
    have hl29 : (64 * (k : Int) + 64).toNat - (64 * (k : Int)).toNat = 64 := by omega
    have hB : At (pre ++ u8s L ++ sp) (pre.length + 64 * k) (u8s ((L.drop (64 * k)).take 64)) := by
      refine ⟨pre ++ u8s (L.take (64 * k)), u8s ((L.drop (64 * k)).drop 64) ++ sp, ?_, by simp; omega⟩
      have e : L = L.take (64 * k) ++ ((L.drop (64 * k)).take 64 ++ (L.drop (64 * k)).drop 64) := by simp only [List.take_append_drop]
      have e2 : u8s L = u8s (L.take (64 * k)) ++ (u8s ((L.drop (64 * k)).take 64) ++ u8s ((L.drop (64 * k)).drop 64)) := by
        rw [← List.map_append, ← List.map_append, ← e]
      rw [e2]
      simp only [List.append_assoc]
    have hblk := fun cp => f37_block s ((L.drop (64 * k)).take 64) hd bp (pre.length + 64 * k) cp _ hB
    generalize blockS roundsS s ((L.drop (64 * k)).take 64) = s' at hih hblk
    have hl8 : (u32s s.l).length = 8 := rfl
    have hl8' : (u32s s'.l).length = 8 := rfl
    have h5 : (64 * (k : Int) + 64) = 64 * ((k + 1 : Nat) : Int) := by omega
    refine WpL.step ?_
    refine Wp.seq ?_
    refine Wp.seq ?_
    refine Wp.reg allGen ?_
    refine Tr.move rfl rfl trivial rfl ?_
    refine Tr.add rfl rfl (by first | exact wrap_i64 (by omega) (by omega) | rfl) rfl trivial rfl ?_
    refine Tr.move rfl rfl trivial rfl ?_
    refine Tr.lenS tab rfl rfl rfl rfl trivial rfl ?_
    refine Tr.leq rfl rfl (by first | with_reducible assumption | exact decide_eq_true (by omega) | exact decide_eq_false (by omega) | exact beq_iff_eq.2 (by omega) | exact beq_eq_false_iff_ne.2 (by omega) | exact bne_iff_ne.2 (by omega) | rfl) rfl trivial rfl ?_
    refine Tr.nil ?_ (fun _ => rfl) (List.Perm.refl _)
    refine Wp.condT rfl ?_
    refine Wp.skip ?_
    refine Wp.seq ?_
    refine Wp.block ?_
    refine Wp.seq ?_
    refine Wp.regE kindOf mo (by kernel_rfl) ?_
    refine Tr.loadA tab rfl rfl rfl (by first | exact (.head _) | exact (.tail _ (.head _)) | exact (.tail _ (.tail _ (.head _))) | exact (.tail _ (.tail _ (.tail _ (.head _)))) | exact (.tail _ (.tail _ (.tail _ (.tail _ (.head _))))) | exact (.tail _ (.tail _ (.tail _ (.tail _ (.tail _ (.head _)))))) | exact (.tail _ (.tail _ (.tail _ (.tail _ (.tail _ (.tail _ (.head _))))))) | exact (.tail _ (.tail _ (.tail _ (.tail _ (.tail _ (.tail _ (.tail _ (.head _)))))))) | exact (.tail _ (.tail _ (.tail _ (.tail _ (.tail _ (.tail _ (.tail _ (.tail _ (.head _))))))))) | exact (.tail _ (.tail _ (.tail _ (.tail _ (.tail _ (.tail _ (.tail _ (.tail _ (.tail _ (.head _))))))))))) (by first | exact At.all _ | with_reducible assumption | assumption) (by first | with_reducible rfl | with_reducible assumption | (simp; done) | (simp; omega) | rfl) rfl trivial rfl ?_
    refine Tr.move rfl rfl trivial rfl ?_
    refine Tr.move rfl rfl trivial rfl ?_
    refine Tr.move rfl rfl trivial rfl ?_
    refine Tr.add rfl rfl (by first | exact wrap_i64 (by omega) (by omega) | rfl) rfl trivial rfl ?_
    refine Tr.sliceLH (off' := pre.length + 64 * k) tab rfl rfl rfl rfl rfl rfl (by omega) (by omega) (by omega) hoff rfl trivial rfl ?_; rw [hl29]
    refine Tr.call rfl (hblk _) (by repeat (first | exact Has.nil | refine Has.cons (by first | exact (.head _) | exact (.tail _ (.head _)) | exact (.tail _ (.tail _ (.head _))) | exact (.tail _ (.tail _ (.tail _ (.head _)))) | exact (.tail _ (.tail _ (.tail _ (.tail _ (.head _))))) | exact (.tail _ (.tail _ (.tail _ (.tail _ (.tail _ (.head _)))))) | exact (.tail _ (.tail _ (.tail _ (.tail _ (.tail _ (.tail _ (.head _))))))) | exact (.tail _ (.tail _ (.tail _ (.tail _ (.tail _ (.tail _ (.tail _ (.head _)))))))) | exact (.tail _ (.tail _ (.tail _ (.tail _ (.tail _ (.tail _ (.tail _ (.tail _ (.head _))))))))) | exact (.tail _ (.tail _ (.tail _ (.tail _ (.tail _ (.tail _ (.tail _ (.tail _ (.tail _ (.head _))))))))))) ?_)) rfl trivial rfl ?_
    refine Tr.move rfl rfl trivial rfl ?_
    refine Tr.extract rfl rfl rfl trivial rfl ?_
    refine Tr.extract rfl rfl rfl trivial rfl ?_
    refine Tr.alloc tab rfl rfl trivial rfl (fun B6 _ => ?_)
    refine Tr.storeA tab rfl rfl rfl (by first | exact .here | exact (.there .here) | exact (.there (.there .here)) | exact (.there (.there (.there .here))) | exact (.there (.there (.there (.there .here)))) | exact (.there (.there (.there (.there (.there .here))))) | exact (.there (.there (.there (.there (.there (.there .here)))))) | exact (.there (.there (.there (.there (.there (.there (.there .here))))))) | exact (.there (.there (.there (.there (.there (.there (.there (.there .here)))))))) | exact (.there (.there (.there (.there (.there (.there (.there (.there (.there .here)))))))))) (by with_reducible exact W8u_len _) (by exact (W8u_len _)) (u32s_one _) trivial rfl ?_
    refine Tr.assign rfl rfl trivial rfl ?_
    refine Tr.nil ?_ (fun _ => rfl) (List.Perm.refl _)
    refine Wp.seq ?_
    refine Wp.seq ?_
    refine Wp.reg allGen ?_
    refine Tr.move rfl rfl trivial rfl ?_
    refine Tr.neq rfl rfl (by first | with_reducible assumption | exact decide_eq_true (by omega) | exact decide_eq_false (by omega) | exact beq_iff_eq.2 (by omega) | exact beq_eq_false_iff_ne.2 (by omega) | exact bne_iff_ne.2 (by omega) | rfl) rfl trivial rfl ?_
    refine Tr.nil ?_ (fun _ => rfl) (List.Perm.refl _)
    refine Wp.condF rfl ?_
    refine Wp.skip ?_
    refine Wp.reg allGen ?_
    refine Tr.loadA tab rfl rfl rfl (by first | exact (.head _) | exact (.tail _ (.head _)) | exact (.tail _ (.tail _ (.head _))) | exact (.tail _ (.tail _ (.tail _ (.head _)))) | exact (.tail _ (.tail _ (.tail _ (.tail _ (.head _))))) | exact (.tail _ (.tail _ (.tail _ (.tail _ (.tail _ (.head _)))))) | exact (.tail _ (.tail _ (.tail _ (.tail _ (.tail _ (.tail _ (.head _))))))) | exact (.tail _ (.tail _ (.tail _ (.tail _ (.tail _ (.tail _ (.tail _ (.head _)))))))) | exact (.tail _ (.tail _ (.tail _ (.tail _ (.tail _ (.tail _ (.tail _ (.tail _ (.head _))))))))) | exact (.tail _ (.tail _ (.tail _ (.tail _ (.tail _ (.tail _ (.tail _ (.tail _ (.tail _ (.head _))))))))))) (by first | exact At.all _ | with_reducible assumption | assumption) (by first | with_reducible rfl | with_reducible assumption | (simp; done) | (simp; omega) | rfl) rfl trivial rfl ?_
    refine Tr.storeA tab rfl rfl rfl (by first | exact .here | exact (.there .here) | exact (.there (.there .here)) | exact (.there (.there (.there .here))) | exact (.there (.there (.there (.there .here)))) | exact (.there (.there (.there (.there (.there .here))))) | exact (.there (.there (.there (.there (.there (.there .here)))))) | exact (.there (.there (.there (.there (.there (.there (.there .here))))))) | exact (.there (.there (.there (.there (.there (.there (.there (.there .here)))))))) | exact (.there (.there (.there (.there (.there (.there (.there (.there (.there .here)))))))))) (by with_reducible exact W8u_len _) (by exact (W8u_len _)) (u32s_one _) trivial rfl ?_
    refine Tr.nil ?_ (fun _ => rfl) (List.Perm.refl _)
    refine Wp.reg allGen ?_
    refine Tr.move rfl rfl trivial rfl ?_
    refine Tr.add rfl rfl (by first | exact wrap_i64 (by omega) (by omega) | rfl) rfl trivial rfl ?_
    refine Tr.assign rfl rfl trivial rfl ?_
    refine Tr.nil ?_ (fun _ => rfl) (List.Perm.refl _)
    rw [h5]
    exact WpL.weak hih ⟨fun a ha => EH.sub (ESub.sub (by repeat (first | exact ESub.nil | refine ESub.cons rfl (by first | rfl | (simp; done) | (simp; omega)) ?_))) a ha, fun w hw => hw.tail⟩

theorem steps_loop1' {g : Gh} (hg : g.n = 58) (x0 : Value) (L : List UInt8) (N : Nat) (hL : L.length = 64 * N) (hN : N ≤ 1000000) (b4 bp : Nat) (pre sp : List Value) (R : List Ent) :
    WpL Try.prog g loop9a (fun e env mem => e = .exit 0 ∧ Wk g env mem [(0, x0), (4, .pointer (some ⟨b4, 0, none⟩))] (⟨b4, u32s (blocksS roundsS N start8 L).l, true⟩ :: ⟨bp, pre ++ u8s L ++ sp, true⟩ :: R))
      [(0, x0), (3, .slice (some ⟨bp, pre.length, none⟩) L.length (L.length + sp.length)), (4, .pointer (some ⟨b4, 0, none⟩)), (5, i64 0)]
      (⟨b4, u32s start8.l, true⟩ :: ⟨bp, pre ++ u8s L ++ sp, true⟩ :: R) := by
  have := steps_loop1 hg x0 L N hL hN b4 bp pre sp R N 0 (by omega)
  rw [blocksS_zero] at this
  exact this

theorem steps_loop2 {g : Gh} (hg : g.n = 58) (s : W8) (b4 b8 : Nat) (R : List Ent) : ∀ (r i : Nat), i + r = 32 →
    WpL Try.prog g loop9b (fun e _ _ => e = .exit 2)
      [(4, .pointer (some ⟨b4, 0, none⟩)), (8, .pointer (some ⟨b8, 0, none⟩)), (9, i64 i)]
      (⟨b8, u8s s.bytes, true⟩ :: ⟨b4, u32s s.l, true⟩ :: R) := by
  obtain ⟨gn, w0, may⟩ := g
  obtain rfl : gn = 58 := hg
  intro r
  induction r with
  | zero =>
    intro i hi
    obtain rfl : i = 32 := by omega
    refine WpL.step ?_
    refine Wp.seq ?_
    refine Wp.seq ?_
    refine Wp.reg allGen ?_
    refine Tr.move rfl rfl trivial rfl ?_
    refine Tr.lss rfl rfl (by first | with_reducible assumption | exact decide_eq_true (by omega) | exact decide_eq_false (by omega) | exact beq_iff_eq.2 (by omega) | exact beq_eq_false_iff_ne.2 (by omega) | exact bne_iff_ne.2 (by omega) | rfl) rfl trivial rfl ?_
    refine Tr.nil ?_ (fun _ => rfl) (List.Perm.refl _)
    refine Wp.condF rfl ?_
    refine Wp.exit ?_
    exact rfl
  | succ r ih =>
    intro i hi
    have hih := ih (i + 1) (by omega)
    have hq : IntKind.i64.wrap ((i : Int).tdiv 4) = ((i / 4 : Nat) : Int) := by
      rw [show (i : Int).tdiv 4 = ((i / 4 : Nat) : Int) by rw [Int.tdiv_eq_ediv_of_nonneg (by omega)]; omega]
      exact wrap_i64 (by omega) (by omega)
    have hrm : (i : Int).tmod 4 = ((i % 4 : Nat) : Int) := by rw [Int.tmod_eq_emod_of_nonneg (by omega)]; omega
    have g44 : (u8s s.bytes)[(i : Int).toNat]? = some (u8 ((s.l.getD (i / 4) 0) >>> UInt32.ofNat (24 - 8 * (i % 4))).toUInt8) := by
      show (u8s s.bytes)[i]? = _
      rw [List.getElem?_map, bytes_get s i (by omega)]; rfl
    have g48 : (u32s s.l)[((i / 4 : Nat) : Int).toNat]? = some (u32 (s.l.getD (i / 4) 0)) := by
      have : i / 4 < s.l.length := by rw [W8.l_len]; omega
      show (u32s s.l)[i / 4]? = _
      simp [List.getElem?_map, List.getElem?_eq_getElem this, List.getD]
    generalize s.l.getD (i / 4) 0 = x at g44 g48
    have hsh : shrv .u32 (x.toNat : Int) (24 - 8 * ((i % 4 : Nat) : Int)) = ((x >>> UInt32.ofNat (24 - 8 * (i % 4))).toNat : Int) := by
      rw [show (24 - 8 * ((i % 4 : Nat) : Int)) = ((24 - 8 * (i % 4) : Nat) : Int) by omega]
      exact u32_shr _ _ (by omega)
    refine WpL.step ?_
    refine Wp.seq ?_
    refine Wp.seq ?_
    refine Wp.reg allGen ?_
    refine Tr.move rfl rfl trivial rfl ?_
    refine Tr.lss rfl rfl (by first | with_reducible assumption | exact decide_eq_true (by omega) | exact decide_eq_false (by omega) | exact beq_iff_eq.2 (by omega) | exact beq_eq_false_iff_ne.2 (by omega) | exact bne_iff_ne.2 (by omega) | rfl) rfl trivial rfl ?_
    refine Tr.nil ?_ (fun _ => rfl) (List.Perm.refl _)
    refine Wp.condT rfl ?_
    refine Wp.skip ?_
    refine Wp.seq ?_
    refine Wp.block ?_
    refine Wp.seq ?_
    refine Wp.regE kindOf mo (by kernel_rfl) ?_
    refine Tr.move rfl rfl trivial rfl ?_
    first | refine Tr.indexAddr01 tab rfl rfl rfl rfl rfl (by omega) (by omega) rfl trivial rfl ?_ | refine Tr.indexAddr1 tab rfl rfl rfl rfl rfl (by omega) (by omega) rfl trivial rfl ?_
    refine Tr.loadS tab rfl rfl rfl (by first | exact (.head _) | exact (.tail _ (.head _)) | exact (.tail _ (.tail _ (.head _))) | exact (.tail _ (.tail _ (.tail _ (.head _)))) | exact (.tail _ (.tail _ (.tail _ (.tail _ (.head _))))) | exact (.tail _ (.tail _ (.tail _ (.tail _ (.tail _ (.head _)))))) | exact (.tail _ (.tail _ (.tail _ (.tail _ (.tail _ (.tail _ (.head _))))))) | exact (.tail _ (.tail _ (.tail _ (.tail _ (.tail _ (.tail _ (.tail _ (.head _)))))))) | exact (.tail _ (.tail _ (.tail _ (.tail _ (.tail _ (.tail _ (.tail _ (.tail _ (.head _))))))))) | exact (.tail _ (.tail _ (.tail _ (.tail _ (.tail _ (.tail _ (.tail _ (.tail _ (.tail _ (.head _))))))))))) (by first | rfl | with_reducible assumption | assumption | (simp; done)) rfl trivial rfl ?_
    refine Tr.move rfl rfl trivial rfl ?_
    refine Tr.quo rfl rfl (by omega) hq rfl trivial rfl ?_
    first | refine Tr.indexAddr01 tab rfl rfl rfl rfl rfl (by omega) (by omega) rfl trivial rfl ?_ | refine Tr.indexAddr1 tab rfl rfl rfl rfl rfl (by omega) (by omega) rfl trivial rfl ?_
    refine Tr.loadS tab rfl rfl rfl (by first | exact (.head _) | exact (.tail _ (.head _)) | exact (.tail _ (.tail _ (.head _))) | exact (.tail _ (.tail _ (.tail _ (.head _)))) | exact (.tail _ (.tail _ (.tail _ (.tail _ (.head _))))) | exact (.tail _ (.tail _ (.tail _ (.tail _ (.tail _ (.head _)))))) | exact (.tail _ (.tail _ (.tail _ (.tail _ (.tail _ (.tail _ (.head _))))))) | exact (.tail _ (.tail _ (.tail _ (.tail _ (.tail _ (.tail _ (.tail _ (.head _)))))))) | exact (.tail _ (.tail _ (.tail _ (.tail _ (.tail _ (.tail _ (.tail _ (.tail _ (.head _))))))))) | exact (.tail _ (.tail _ (.tail _ (.tail _ (.tail _ (.tail _ (.tail _ (.tail _ (.tail _ (.head _))))))))))) (by first | rfl | with_reducible assumption | assumption | (simp; done)) rfl trivial rfl ?_
    refine Tr.move rfl rfl trivial rfl ?_
    refine Tr.rem rfl rfl (by omega) hrm rfl trivial rfl ?_
    refine Tr.mul rfl rfl (by first | exact wrap_i64 (by omega) (by omega) | rfl) rfl trivial rfl ?_
    refine Tr.sub rfl rfl (by first | exact wrap_i64 (by omega) (by omega) | rfl) rfl trivial rfl ?_
    refine Tr.conv tab rfl rfl rfl rfl (by first | exact wrap_u64 (by omega) (by omega) | rfl) rfl trivial rfl ?_
    refine Tr.shr rfl rfl (by omega) hsh rfl trivial rfl ?_
    refine Tr.conv tab rfl rfl rfl rfl (by first | exact conv_u32_u8 _ | rfl) rfl trivial rfl ?_
    refine Tr.neq (r := false) rfl rfl (by simp) rfl trivial rfl ?_
    refine Tr.nil ?_ (fun _ => rfl) (List.Perm.refl _)
    refine Wp.condF rfl ?_
    refine Wp.skip ?_
    refine Wp.reg allGen ?_
    refine Tr.move rfl rfl trivial rfl ?_
    refine Tr.add rfl rfl (by first | exact wrap_i64 (by omega) (by omega) | rfl) rfl trivial rfl ?_
    refine Tr.assign rfl rfl trivial rfl ?_
    refine Tr.nil ?_ (fun _ => rfl) (List.Perm.refl _)
    exact WpL.weak hih ⟨fun a ha => EH.sub (ESub.sub (by repeat (first | exact ESub.nil | refine ESub.cons rfl (by first | rfl | (simp; done) | (simp; omega)) ?_))) a ha, fun w hw => hw⟩

section
variable (a0 : Option Addr) (dd : List UInt8) (cp : Nat) (rd : List Ent) (hsrc : Src a0 dd cp rd) (hrd : ∀ e, e ∈ rd → e.rw = false)

include hrd in
theorem f9_far (hd : 1000 < dd.length) (hd2 : dd.length ≤ 9223372036854775807) : FnR Try.prog 9 [.slice a0 dd.length cp] rd (.bool true) := by
  refine fnR_of 58 rfl Try.func9 rfl (by kernel_rfl) rfl hrd fun w => ?_
  refine Wp.seq ?_
  refine Wp.reg allGen ?_
  refine Tr.assign rfl rfl trivial rfl ?_
  refine Tr.nil ?_ (fun _ => rfl) (List.Perm.refl _)
  refine Wp.seq ?_
  refine Wp.seq ?_
  refine Wp.reg allGen ?_
  refine Tr.move rfl rfl trivial rfl ?_
  refine Tr.lenS tab rfl rfl rfl rfl trivial rfl ?_
  refine Tr.gtr rfl rfl (by first | with_reducible assumption | exact decide_eq_true (by omega) | exact decide_eq_false (by omega) | exact beq_iff_eq.2 (by omega) | exact beq_eq_false_iff_ne.2 (by omega) | exact bne_iff_ne.2 (by omega) | rfl) rfl trivial rfl ?_
  refine Tr.nil ?_ (fun _ => rfl) (List.Perm.refl _)
  refine Wp.condT rfl ?_
  refine Wp.seq ?_
  refine Wp.reg allGen ?_
  refine Tr.assign rfl rfl trivial rfl ?_
  refine Tr.nil ?_ (fun _ => rfl) (List.Perm.refl _)
  refine Wp.ret ?_
  refine ⟨by first | exact .inl rfl | exact .inr rfl, ?_⟩
  exact .r1 rfl (RvIs.tmp rfl)
include hsrc hrd
theorem f9_steps (hd : dd.length ≤ 1000) : FnR Try.prog 9 [.slice a0 dd.length cp] rd (.bool true) := by
  have hp := padS_len dd.length
  have hL : (dd ++ padS dd.length).length = 64 * ((dd ++ padS dd.length).length / 64) := by
    rw [List.length_append]; unfold padZ at hp; omega
  have hN : (dd ++ padS dd.length).length / 64 ≤ 1000 := by
    rw [List.length_append]; unfold padZ at hp; omega
  have h0 : 0 < (dd ++ padS dd.length).length := by rw [List.length_append]; omega
  have hl32 : ∀ s : W8, (u8s s.bytes).length = 32 := fun s => by unfold W8.bytes; rfl
  have hone : ∀ l : List UInt8, (u8s l).all Value.oneCell' = true := fun l => by simp [Value.oneCell']
  have hsum := f30_sum a0 dd cp rd hsrc hrd (by omega)
  unfold sumS at hsum
  have hpad := f35_pad a0 dd cp rd hsrc hrd (by omega)
  generalize dd ++ padS dd.length = L at *
  refine fnR_of 58 rfl Try.func9 rfl (by kernel_rfl) rfl hrd fun w => ?_
  refine Wp.seq ?_
  refine Wp.reg allGen ?_
  refine Tr.assign rfl rfl trivial rfl ?_
  refine Tr.nil ?_ (fun _ => rfl) (List.Perm.refl _)
  refine Wp.seq ?_
  refine Wp.seq ?_
  refine Wp.reg allGen ?_
  refine Tr.move rfl rfl trivial rfl ?_
  refine Tr.lenS tab rfl rfl rfl rfl trivial rfl ?_
  refine Tr.gtr rfl rfl (by first | with_reducible assumption | exact decide_eq_true (by omega) | exact decide_eq_false (by omega) | exact beq_iff_eq.2 (by omega) | exact beq_eq_false_iff_ne.2 (by omega) | exact bne_iff_ne.2 (by omega) | rfl) rfl trivial rfl ?_
  refine Tr.nil ?_ (fun _ => rfl) (List.Perm.refl _)
  refine Wp.condF rfl ?_
  refine Wp.skip ?_
  refine Wp.seq ?_
  refine Wp.reg allGen ?_
  refine Tr.move rfl rfl trivial rfl ?_
  refine Tr.callG rfl hpad (Has.sub (by intro e he; repeat (first | exact he | refine .tail _ ?_))) rfl trivial rfl ?_
  rintro _ es hfr
  obtain ⟨bp, pre, sp, rfl, rfl⟩ := hfr.row (n := L.length) (by simp) h0
  refine Tr.assign rfl rfl trivial rfl ?_
  refine Tr.nil ?_ (fun _ => rfl) (List.Perm.refl _)
  refine Wp.seq ?_
  refine Wp.reg allGen ?_
  refine Tr.call rfl f26_start8 (by repeat (first | exact Has.nil | refine Has.cons (by first | exact (.head _) | exact (.tail _ (.head _)) | exact (.tail _ (.tail _ (.head _))) | exact (.tail _ (.tail _ (.tail _ (.head _)))) | exact (.tail _ (.tail _ (.tail _ (.tail _ (.head _))))) | exact (.tail _ (.tail _ (.tail _ (.tail _ (.tail _ (.head _)))))) | exact (.tail _ (.tail _ (.tail _ (.tail _ (.tail _ (.tail _ (.head _))))))) | exact (.tail _ (.tail _ (.tail _ (.tail _ (.tail _ (.tail _ (.tail _ (.head _)))))))) | exact (.tail _ (.tail _ (.tail _ (.tail _ (.tail _ (.tail _ (.tail _ (.tail _ (.head _))))))))) | exact (.tail _ (.tail _ (.tail _ (.tail _ (.tail _ (.tail _ (.tail _ (.tail _ (.tail _ (.head _))))))))))) ?_)) rfl trivial rfl ?_
  refine Tr.alloc tab rfl rfl trivial rfl (fun B4 _ => ?_)
  refine Tr.storeA tab rfl rfl rfl (by first | exact .here | exact (.there .here) | exact (.there (.there .here)) | exact (.there (.there (.there .here))) | exact (.there (.there (.there (.there .here)))) | exact (.there (.there (.there (.there (.there .here))))) | exact (.there (.there (.there (.there (.there (.there .here)))))) | exact (.there (.there (.there (.there (.there (.there (.there .here))))))) | exact (.there (.there (.there (.there (.there (.there (.there (.there .here)))))))) | exact (.there (.there (.there (.there (.there (.there (.there (.there (.there .here)))))))))) (by with_reducible exact W8u_len _) (by exact (W8u_len _)) (u32s_one _) trivial rfl ?_
  refine Tr.nil ?_ (fun _ => rfl) (List.Perm.refl _)
  refine Wp.seq ?_
  refine Wp.seq ?_
  refine Wp.reg allGen ?_
  refine Tr.assign rfl rfl trivial rfl ?_
  refine Tr.nil ?_ (fun _ => rfl) (List.Perm.refl _)
  refine Wp.block ?_
  refine Wp.loopQ (steps_loop1' rfl (.slice a0 dd.length cp) L (L.length / 64) hL (by omega) B4 bp pre sp rd) (Wk.mk (by repeat (first | exact ESub.nil | refine ESub.cons rfl (by first | rfl | (simp; done) | (simp; omega)) ?_)) (MSub.refl _)) ?_
  rintro _ env1 mem1 ⟨rfl, hk1⟩
  refine Wp.weak ?_ hk1
  generalize blocksS roundsS (L.length / 64) start8 L = S at hsum ⊢
  refine Wp.seq ?_
  refine Wp.reg allGen ?_
  refine Tr.move rfl rfl trivial rfl ?_
  refine Tr.call rfl hsum (Has.sub (by intro e he; repeat (first | exact he | refine .tail _ ?_))) rfl trivial rfl ?_
  refine Tr.alloc tab rfl rfl trivial rfl (fun B8 _ => ?_)
  refine Tr.storeA tab rfl rfl rfl (by first | exact .here | exact (.there .here) | exact (.there (.there .here)) | exact (.there (.there (.there .here))) | exact (.there (.there (.there (.there .here)))) | exact (.there (.there (.there (.there (.there .here))))) | exact (.there (.there (.there (.there (.there (.there .here)))))) | exact (.there (.there (.there (.there (.there (.there (.there .here))))))) | exact (.there (.there (.there (.there (.there (.there (.there (.there .here)))))))) | exact (.there (.there (.there (.there (.there (.there (.there (.there (.there .here)))))))))) (by with_reducible exact hl32 _) (by exact (hl32 _)) (hone _) trivial rfl ?_
  refine Tr.nil ?_ (fun _ => rfl) (List.Perm.refl _)
  refine Wp.seq ?_
  refine Wp.seq ?_
  refine Wp.reg allGen ?_
  refine Tr.assign rfl rfl trivial rfl ?_
  refine Tr.nil ?_ (fun _ => rfl) (List.Perm.refl _)
  refine Wp.block ?_
  refine Wp.loopQ (steps_loop2 rfl S B4 B8 (⟨bp, pre ++ u8s L ++ sp, true⟩ :: rd) 32 0 rfl) (Wk.mk (by repeat (first | exact ESub.nil | refine ESub.cons rfl (by first | rfl | (simp; done) | (simp; omega)) ?_)) (MSub.refl _)) ?_
  rintro _ env2 mem2 rfl
  refine Wp.weak (env' := []) (mem' := []) ?_ (Wk.mk .nil .nil)
  refine Wp.seq ?_
  refine Wp.reg allGen ?_
  refine Tr.call rfl f23_awake (by repeat (first | exact Has.nil | refine Has.cons (by first | exact (.head _) | exact (.tail _ (.head _)) | exact (.tail _ (.tail _ (.head _))) | exact (.tail _ (.tail _ (.tail _ (.head _)))) | exact (.tail _ (.tail _ (.tail _ (.tail _ (.head _))))) | exact (.tail _ (.tail _ (.tail _ (.tail _ (.tail _ (.head _)))))) | exact (.tail _ (.tail _ (.tail _ (.tail _ (.tail _ (.tail _ (.head _))))))) | exact (.tail _ (.tail _ (.tail _ (.tail _ (.tail _ (.tail _ (.tail _ (.head _)))))))) | exact (.tail _ (.tail _ (.tail _ (.tail _ (.tail _ (.tail _ (.tail _ (.tail _ (.head _))))))))) | exact (.tail _ (.tail _ (.tail _ (.tail _ (.tail _ (.tail _ (.tail _ (.tail _ (.tail _ (.head _))))))))))) ?_)) rfl trivial rfl ?_
  refine Tr.assign rfl rfl trivial rfl ?_
  refine Tr.nil ?_ (fun _ => rfl) (List.Perm.refl _)
  refine Wp.ret ?_
  refine ⟨by first | exact .inl rfl | exact .inr rfl, ?_⟩
  exact .r1 rfl (RvIs.tmp rfl)
end
end Go.Proofs.Ytffghaeaohabhaa.AW
