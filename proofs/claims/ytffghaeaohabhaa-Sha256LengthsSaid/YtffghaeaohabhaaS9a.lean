import Derived.Test.YtffghaeaohabhaaS8
namespace Go.Proofs.Ytffghaeaohabhaa.AW
open Go Go.Proofs
set_option maxRecDepth 100000

attribute [local irreducible] blockS

/-! ### Sum -/
def be4 (x : UInt32) : List UInt8 := [(x >>> UInt32.ofNat 24).toUInt8, (x >>> UInt32.ofNat 16).toUInt8, (x >>> UInt32.ofNat 8).toUInt8, (x >>> UInt32.ofNat 0).toUInt8]
def W8.bytes (s : W8) : List UInt8 := be4 s.a ++ (be4 s.b ++ (be4 s.c ++ (be4 s.d ++ (be4 s.e ++ (be4 s.f ++ (be4 s.g ++ be4 s.h))))))

theorem W8u_len (s : W8) : (u32s s.l).length = 8 := rfl
theorem blocksS_zero (K : List UInt32) (s : W8) (l : List UInt8) : blocksS K 0 s l = s := rfl
theorem blocksS_succ (K : List UInt32) (n : Nat) (s : W8) (l : List UInt8) : blocksS K (n + 1) s l = blocksS K n (blockS K s (l.take 64)) (l.drop 64) := rfl

def loop34 : Code := (Code.seq (Code.seq (Code.region 7 #[{ dst := (some 39), op := (Op.move (Operand.tmp 5)), type := 36, pos := "sha256.go:191", after := #[], guard := none }, { dst := (some 40), op := (Op.call { callee := (Callee.builtin Builtin.len), args := #[(Operand.tmp 39)], argTypes := #[36] }), type := 3, pos := "sha256.go:191", after := #[{ on := 0, ground := Ground.data }], guard := none }, { dst := (some 41), op := (Op.binOp BinOp.gtr 3 (Operand.tmp 40) (Operand.const (Value.int IntKind.i64 0)) 3), type := 4, pos := "sha256.go:191", after := #[{ on := 1, ground := Ground.data }], guard := none }] false) (Code.cond (Operand.tmp 41) Code.skip (Code.exit 0))) (Code.seq (Code.block 1 (Code.region 9 #[{ dst := (some 44), op := (Op.move (Operand.tmp 0)), type := 42, pos := "sha256.go:192", after := #[], guard := none }, { dst := (some 45), op := (Op.nilCheck (Operand.tmp 44)), type := 0, pos := "sha256.go:192", after := #[{ on := 0, ground := Ground.data }], guard := none }, { dst := (some 46), op := (Op.fieldAddr 101 (Operand.tmp 45) 1), type := 0, pos := "sha256.go:192", after := #[{ on := 1, ground := Ground.data }], guard := none }, { dst := (some 47), op := (Op.load 30 (Operand.tmp 4)), type := 30, pos := "sha256.go:192", after := #[], guard := none }, { dst := (some 48), op := (Op.move (Operand.tmp 5)), type := 36, pos := "sha256.go:192", after := #[], guard := none }, { dst := (some 49), op := (Op.slice 36 (Operand.tmp 48) none (some (Operand.const (Value.int IntKind.i64 64))) none), type := 36, pos := "sha256.go:192", after := #[{ on := 4, ground := Ground.data }], guard := none }, { dst := (some 50), op := (Op.call { callee := (Callee.value (Operand.func 72)), args := #[(Operand.tmp 46), (Operand.tmp 47), (Operand.tmp 49)], argTypes := #[104, 30, 36] }), type := 30, pos := "sha256.go:192", after := #[{ on := 2, ground := Ground.data }, { on := 3, ground := Ground.data }, { on := 5, ground := Ground.data }], guard := none }, { dst := none, op := (Op.store 30 (Operand.tmp 4) (Operand.tmp 50)), type := 0, pos := "sha256.go:192", after := #[{ on := 6, ground := Ground.data }, { on := 6, ground := Ground.chain }, { on := 0, ground := Ground.phase }, { on := 1, ground := Ground.phase }, { on := 2, ground := Ground.phase }, { on := 3, ground := Ground.phase }, { on := 4, ground := Ground.phase }, { on := 5, ground := Ground.phase }, { on := 6, ground := Ground.phase }], guard := none }] true)) (Code.region 8 #[{ dst := (some 42), op := (Op.move (Operand.tmp 5)), type := 36, pos := "sha256.go:191", after := #[], guard := none }, { dst := (some 43), op := (Op.slice 36 (Operand.tmp 42) (some (Operand.const (Value.int IntKind.i64 64))) none none), type := 36, pos := "sha256.go:191", after := #[{ on := 0, ground := Ground.data }], guard := none }, { dst := (some 5), op := (Op.assign (Operand.tmp 43)), type := 36, pos := "sha256.go:191", after := #[{ on := 1, ground := Ground.data }, { on := 0, ground := Ground.phase }, { on := 1, ground := Ground.phase }], guard := none }] false)))

theorem sum_loop {g : Gh} (hg : g.n = 73) (h b2 b3 bs : Nat) (r : Value) (c : Int) (s0 : W8) (R : List Ent) : ∀ (n : Nat) (s : W8) (l : List UInt8) (b : Nat) (pre sp : List Value), l.length = 64 * n →
    WpL Try.prog g loop34 (fun e env mem => e = .exit 0 ∧ Wk g env mem [(2, .pointer (some ⟨b2, 0, none⟩)), (3, .pointer (some ⟨b3, 0, none⟩)), (4, .pointer (some ⟨bs, 0, none⟩))] (⟨bs, u32s (blocksS roundsS n s l).l, true⟩ :: ⟨h, hc 1 0 roundsS s0.l r c, true⟩ :: R))
      [(0, .pointer (some ⟨h, 0, none⟩)), (2, .pointer (some ⟨b2, 0, none⟩)), (3, .pointer (some ⟨b3, 0, none⟩)), (4, .pointer (some ⟨bs, 0, none⟩)), (5, .slice (some ⟨b, pre.length, none⟩) l.length (l.length + sp.length))]
      (⟨b, pre ++ u8s l ++ sp, true⟩ :: ⟨bs, u32s s.l, true⟩ :: ⟨h, hc 1 0 roundsS s0.l r c, true⟩ :: R) := by
  obtain ⟨gn, w0, may⟩ := g
  obtain rfl : gn = 73 := hg
  have hr := roundsS_len
  intro n
  induction n with
  | zero =>
    intro s l b pre sp hn
    rw [blocksS_zero]
    refine WpL.step ?_
    refine Wp.seq ?_
    refine Wp.seq ?_
    refine Wp.reg allGen ?_
    refine Tr.move rfl rfl trivial rfl ?_
    refine Tr.lenS tab rfl rfl rfl rfl trivial rfl ?_
    refine Tr.gtr rfl rfl (by first | with_reducible assumption | exact decide_eq_true (by omega) | exact decide_eq_false (by omega) | exact beq_iff_eq.2 (by omega) | exact beq_eq_false_iff_ne.2 (by omega) | exact bne_iff_ne.2 (by omega) | rfl) rfl trivial rfl ?_
    refine Tr.nil ?_ (fun _ => rfl) (List.Perm.refl _)
    refine Wp.condF rfl ?_
    refine Wp.exit ?_
    exact ⟨rfl, ⟨fun a ha => EH.sub (ESub.sub (by repeat (first | exact ESub.nil | refine ESub.cons rfl (by first | rfl | (simp; done) | (simp; omega)) ?_))) a ha, fun w hw => hw.tail⟩⟩
  | succ n ih =>
    intro s l b pre sp hn
    rw [blocksS_succ]
    have hsplit : u8s l = u8s (l.take 64) ++ u8s (l.drop 64) := by rw [← List.map_append, List.take_append_drop]
    have ht : (l.take 64).length = 64 := by simp; omega
    have hB : At (pre ++ u8s l ++ sp) pre.length (u8s (l.take 64)) := ⟨pre, u8s (l.drop 64) ++ sp, by rw [hsplit]; simp only [List.append_assoc], rfl⟩
    have hblk := f72_block roundsS hr s (l.take 64) ht h 3 b pre.length (l.length + sp.length) _ _ (hc_atK (dn := 1) (mu := 0) (st := s0.l) (r := r) (c := c)) hB
    have hl8 : (u32s s.l).length = 8 := rfl
    obtain ⟨pre', tl, hoff, hcells⟩ : ∃ pre' tl : List Value, (if l.length + sp.length = (64 : Int).toNat then pre.length else pre.length + (64 : Int).toNat) = pre'.length ∧ pre ++ u8s l ++ sp = (pre' ++ u8s (l.drop 64) ++ sp) ++ tl := by
      by_cases hcap : l.length + sp.length = 64
      · have e1 : sp = [] := List.length_eq_zero_iff.1 (by omega)
        have e2 : l.drop 64 = [] := List.length_eq_zero_iff.1 (by simp; omega)
        exact ⟨pre, u8s l, by rw [if_pos (by simpa using hcap)], by rw [e1, e2]; simp⟩
      · refine ⟨pre ++ u8s (l.take 64), [], ?_, ?_⟩
        · rw [if_neg (by simpa using hcap)]
          simp only [List.length_append, List.length_map, ht]
          rfl
        · rw [hsplit]; simp only [List.append_assoc, List.append_nil]
    have hlen' : l.length - (64 : Int).toNat = (l.drop 64).length := by simp
    have hcap' : l.length + sp.length - (64 : Int).toNat = (l.drop 64).length + sp.length := by
      have : (64 : Int).toNat = 64 := rfl
      simp only [List.length_drop, this]; omega
    have hih := ih (blockS roundsS s (l.take 64)) (l.drop 64) b pre' sp (by simp; omega)
    refine WpL.step ?_
    refine Wp.seq ?_
    refine Wp.seq ?_
    refine Wp.reg allGen ?_
    refine Tr.move rfl rfl trivial rfl ?_
    refine Tr.lenS tab rfl rfl rfl rfl trivial rfl ?_
    refine Tr.gtr rfl rfl (by first | with_reducible assumption | exact decide_eq_true (by omega) | exact decide_eq_false (by omega) | exact beq_iff_eq.2 (by omega) | exact beq_eq_false_iff_ne.2 (by omega) | exact bne_iff_ne.2 (by omega) | rfl) rfl trivial rfl ?_
    refine Tr.nil ?_ (fun _ => rfl) (List.Perm.refl _)
    refine Wp.condT rfl ?_
    refine Wp.skip ?_
    refine Wp.seq ?_
    refine Wp.block ?_
    refine Wp.regE kindOf mo (by kernel_rfl) ?_
    refine Tr.move rfl rfl trivial rfl ?_
    refine Tr.nilCheck rfl rfl trivial rfl ?_
    refine Tr.fieldAddr tab rfl rfl rfl rfl rfl rfl rfl trivial rfl ?_
    refine Tr.loadA tab rfl rfl rfl (by first | exact (.head _) | exact (.tail _ (.head _)) | exact (.tail _ (.tail _ (.head _))) | exact (.tail _ (.tail _ (.tail _ (.head _)))) | exact (.tail _ (.tail _ (.tail _ (.tail _ (.head _))))) | exact (.tail _ (.tail _ (.tail _ (.tail _ (.tail _ (.head _)))))) | exact (.tail _ (.tail _ (.tail _ (.tail _ (.tail _ (.tail _ (.head _))))))) | exact (.tail _ (.tail _ (.tail _ (.tail _ (.tail _ (.tail _ (.tail _ (.head _)))))))) | exact (.tail _ (.tail _ (.tail _ (.tail _ (.tail _ (.tail _ (.tail _ (.tail _ (.head _))))))))) | exact (.tail _ (.tail _ (.tail _ (.tail _ (.tail _ (.tail _ (.tail _ (.tail _ (.tail _ (.head _))))))))))) (by first | exact At.all _ | with_reducible assumption | assumption) (by first | with_reducible rfl | with_reducible assumption | (simp; done) | (simp; omega) | rfl) rfl trivial rfl ?_
    refine Tr.move rfl rfl trivial rfl ?_
    refine Tr.sliceH tab rfl rfl rfl rfl rfl (by omega) (by omega) rfl trivial rfl ?_
    refine Tr.call rfl hblk (by repeat (first | exact Has.nil | refine Has.cons (by first | exact (.head _) | exact (.tail _ (.head _)) | exact (.tail _ (.tail _ (.head _))) | exact (.tail _ (.tail _ (.tail _ (.head _)))) | exact (.tail _ (.tail _ (.tail _ (.tail _ (.head _))))) | exact (.tail _ (.tail _ (.tail _ (.tail _ (.tail _ (.head _)))))) | exact (.tail _ (.tail _ (.tail _ (.tail _ (.tail _ (.tail _ (.head _))))))) | exact (.tail _ (.tail _ (.tail _ (.tail _ (.tail _ (.tail _ (.tail _ (.head _)))))))) | exact (.tail _ (.tail _ (.tail _ (.tail _ (.tail _ (.tail _ (.tail _ (.tail _ (.head _))))))))) | exact (.tail _ (.tail _ (.tail _ (.tail _ (.tail _ (.tail _ (.tail _ (.tail _ (.tail _ (.head _))))))))))) ?_)) rfl trivial rfl ?_
    refine Tr.storeA tab rfl rfl rfl (by first | exact .here | exact (.there .here) | exact (.there (.there .here)) | exact (.there (.there (.there .here))) | exact (.there (.there (.there (.there .here)))) | exact (.there (.there (.there (.there (.there .here))))) | exact (.there (.there (.there (.there (.there (.there .here)))))) | exact (.there (.there (.there (.there (.there (.there (.there .here))))))) | exact (.there (.there (.there (.there (.there (.there (.there (.there .here)))))))) | exact (.there (.there (.there (.there (.there (.there (.there (.there (.there .here)))))))))) (by with_reducible exact W8u_len _) (by with_reducible exact (W8u_len _).trans (W8u_len _).symm) (u32s_one _) trivial rfl ?_
    refine Tr.nil ?_ (fun _ => rfl) (List.Perm.refl _)
    refine Wp.reg allGen ?_
    refine Tr.move rfl rfl trivial rfl ?_
    refine Tr.sliceL (off' := pre'.length) tab rfl rfl rfl rfl rfl (by omega) (by omega) hoff rfl trivial rfl ?_
    refine Tr.assign rfl rfl trivial rfl ?_
    refine Tr.nil ?_ (fun _ => rfl) (List.Perm.refl _)
    skip
    rw [hlen', hcap', hcells]
    refine WpL.weak hih (Wk.trans ⟨fun a ha => EH.sub (ESub.sub (by repeat (first | exact ESub.nil | refine ESub.cons rfl (by first | rfl | (simp; done) | (simp; omega)) ?_))) a ha, fun w hw => hw⟩ Wk.cut)

def loop34b : Code := (Code.seq (Code.region 11 #[{ dst := (some 53), op := (Op.binOp BinOp.lss 3 (Operand.tmp 52) (Operand.const (Value.int IntKind.i64 8)) 3), type := 0, pos := "sha256.go:194", after := #[], guard := none }] false) (Code.seq (Code.cond (Operand.tmp 53) Code.skip (Code.exit 2)) (Code.seq (Code.block 3 (Code.seq (Code.region 12 #[{ dst := (some 54), op := (Op.move (Operand.tmp 52)), type := 3, pos := "sha256.go:194", after := #[], guard := none }, { dst := (some 55), op := (Op.index 30 (Operand.tmp 51) (Operand.tmp 52)), type := 29, pos := "sha256.go:194", after := #[], guard := none }, { dst := (some 6), op := (Op.assign (Operand.tmp 54)), type := 3, pos := "sha256.go:194", after := #[{ on := 0, ground := Ground.data }, { on := 0, ground := Ground.phase }, { on := 1, ground := Ground.phase }], guard := none }, { dst := (some 7), op := (Op.assign (Operand.tmp 55)), type := 29, pos := "sha256.go:194", after := #[{ on := 1, ground := Ground.data }, { on := 2, ground := Ground.chain }, { on := 0, ground := Ground.phase }, { on := 1, ground := Ground.phase }, { on := 2, ground := Ground.phase }], guard := none }] false) (Code.seq (Code.region 13 #[{ dst := (some 56), op := (Op.move (Operand.const (Value.int IntKind.i64 0))), type := 3, pos := "sha256.go:195", after := #[], guard := none }] false) (Code.block 4 (Code.loop (Code.seq (Code.region 14 #[{ dst := (some 57), op := (Op.binOp BinOp.lss 3 (Operand.tmp 56) (Operand.const (Value.int IntKind.i64 4)) 3), type := 4, pos := "sha256.go:195", after := #[], guard := none }] false) (Code.seq (Code.cond (Operand.tmp 57) Code.skip (Code.exit 4)) (Code.seq (Code.block 5 (Code.seq (Code.region 15 #[{ dst := (some 58), op := (Op.move (Operand.tmp 56)), type := 3, pos := "sha256.go:195", after := #[], guard := none }, { dst := (some 8), op := (Op.assign (Operand.tmp 58)), type := 3, pos := "sha256.go:195", after := #[{ on := 0, ground := Ground.data }, { on := 0, ground := Ground.phase }], guard := none }] false) (Code.region 16 #[{ dst := (some 59), op := (Op.move (Operand.tmp 6)), type := 3, pos := "sha256.go:196", after := #[], guard := none }, { dst := (some 60), op := (Op.binOp BinOp.mul 3 (Operand.const (Value.int IntKind.i64 4)) (Operand.tmp 59) 3), type := 3, pos := "sha256.go:196", after := #[{ on := 0, ground := Ground.data }], guard := none }, { dst := (some 61), op := (Op.move (Operand.tmp 8)), type := 3, pos := "sha256.go:196", after := #[], guard := none }, { dst := (some 62), op := (Op.binOp BinOp.add 3 (Operand.tmp 60) (Operand.tmp 61) 3), type := 3, pos := "sha256.go:196", after := #[{ on := 1, ground := Ground.data }, { on := 2, ground := Ground.data }], guard := none }, { dst := (some 63), op := (Op.move (Operand.tmp 7)), type := 29, pos := "sha256.go:196", after := #[], guard := none }, { dst := (some 64), op := (Op.move (Operand.tmp 8)), type := 3, pos := "sha256.go:196", after := #[], guard := none }, { dst := (some 65), op := (Op.binOp BinOp.mul 3 (Operand.const (Value.int IntKind.i64 8)) (Operand.tmp 64) 3), type := 3, pos := "sha256.go:196", after := #[{ on := 5, ground := Ground.data }], guard := none }, { dst := (some 66), op := (Op.binOp BinOp.sub 3 (Operand.const (Value.int IntKind.i64 24)) (Operand.tmp 65) 3), type := 3, pos := "sha256.go:196", after := #[{ on := 6, ground := Ground.data }], guard := none }, { dst := (some 67), op := (Op.binOp BinOp.shr 29 (Operand.tmp 63) (Operand.tmp 66) 3), type := 29, pos := "sha256.go:196", after := #[{ on := 4, ground := Ground.data }, { on := 7, ground := Ground.data }], guard := none }, { dst := (some 68), op := (Op.convert 29 5 (Operand.tmp 67)), type := 5, pos := "sha256.go:196", after := #[{ on := 8, ground := Ground.data }], guard := none }, { dst := (some 69), op := (Op.indexAddr 37 (Operand.tmp 3) (Operand.tmp 62)), type := 0, pos := "sha256.go:196", after := #[{ on := 3, ground := Ground.data }, { on := 0, ground := Ground.phase }, { on := 1, ground := Ground.phase }, { on := 2, ground := Ground.phase }, { on := 3, ground := Ground.phase }, { on := 4, ground := Ground.phase }, { on := 5, ground := Ground.phase }, { on := 6, ground := Ground.phase }, { on := 7, ground := Ground.phase }, { on := 8, ground := Ground.phase }, { on := 9, ground := Ground.phase }], guard := none }, { dst := none, op := (Op.store 5 (Operand.tmp 69) (Operand.tmp 68)), type := 0, pos := "sha256.go:196", after := #[{ on := 10, ground := Ground.data }, { on := 9, ground := Ground.data }, { on := 0, ground := Ground.phase }, { on := 1, ground := Ground.phase }, { on := 2, ground := Ground.phase }, { on := 3, ground := Ground.phase }, { on := 4, ground := Ground.phase }, { on := 5, ground := Ground.phase }, { on := 6, ground := Ground.phase }, { on := 7, ground := Ground.phase }, { on := 8, ground := Ground.phase }, { on := 9, ground := Ground.phase }], guard := none }] false))) (Code.region 17 #[{ dst := (some 70), op := (Op.binOp BinOp.add 3 (Operand.tmp 56) (Operand.const (Value.int IntKind.i64 1)) 3), type := 3, pos := "sha256.go:195", after := #[], guard := none }, { dst := (some 56), op := (Op.move (Operand.tmp 70)), type := 3, pos := "sha256.go:195", after := #[{ on := 0, ground := Ground.data }], guard := none }] false))))))))) (Code.region 18 #[{ dst := (some 71), op := (Op.binOp BinOp.add 3 (Operand.tmp 52) (Operand.const (Value.int IntKind.i64 1)) 3), type := 3, pos := "sha256.go:194", after := #[], guard := none }, { dst := (some 52), op := (Op.move (Operand.tmp 71)), type := 3, pos := "sha256.go:194", after := #[{ on := 0, ground := Ground.data }], guard := none }] false))))

/-- the digest's first bytes -/
def outS (s : W8) (i : Nat) : List UInt8 := (s.l.take i).flatMap be4
theorem outS_len (s : W8) : ∀ i, i ≤ 8 → (outS s i).length = 4 * i
  | 0, _ => rfl
  | i + 1, h => by
    have hi : i < s.l.length := by rw [W8.l_len]; omega
    have := outS_len s i (by omega)
    unfold outS at this ⊢
    rw [List.take_add_one, List.flatMap_append, List.length_append, this]
    simp only [List.getElem?_eq_getElem hi, Option.toList_some, List.flatMap_cons, List.flatMap_nil, List.append_nil]
    rfl
theorem outS_succ (s : W8) (i : Nat) (h : i < 8) : outS s (i + 1) = outS s i ++ be4 (s.l.getD i 0) := by
  have hi : i < s.l.length := by rw [W8.l_len]; omega
  unfold outS
  rw [List.take_add_one, List.flatMap_append]
  simp [List.getElem?_eq_getElem hi, List.getD]
theorem outS_all (s : W8) : outS s 8 = s.bytes := by
  simp [outS, W8.bytes, W8.l, List.flatMap_cons]

abbrev zu8 : Value := .int .u8 0

theorem set4 (p : List UInt8) (r : Nat) (v0 v1 v2 v3 : UInt8) (k0 k1 k2 k3 : Nat) (h0 : k0 = p.length) (h1 : k1 = p.length + 1) (h2 : k2 = p.length + 2) (h3 : k3 = p.length + 3) :
    ((((u8s p ++ List.replicate (4 * (r + 1)) zu8).set k0 (u8 v0)).set k1 (u8 v1)).set k2 (u8 v2)).set k3 (u8 v3) = u8s (p ++ [v0, v1, v2, v3]) ++ List.replicate (4 * r) zu8 := by
  subst h0 h1 h2 h3
  have hl : (u8s p).length = p.length := by simp
  rw [show 4 * (r + 1) = 4 * r + 1 + 1 + 1 + 1 by omega]
  simp only [List.replicate_succ]
  rw [List.set_append_right _ _ (by omega), List.set_append_right _ _ (by omega), List.set_append_right _ _ (by omega), List.set_append_right _ _ (by omega)]
  simp only [hl, Nat.sub_self, Nat.add_sub_cancel_left, List.set_cons_zero, List.set_cons_succ]
  simp

theorem sum_out {g : Gh} (hg : g.n = 73) (b2 b3 : Nat) (S : W8) (R : List Ent) : ∀ (r i : Nat), i + r = 8 →
    WpL Try.prog g loop34b (fun e env mem => e = .exit 2 ∧ Wk g env mem [(2, .pointer (some ⟨b2, 0, none⟩)), (3, .pointer (some ⟨b3, 0, none⟩))] (⟨b3, u8s S.bytes, true⟩ :: R))
      [(2, .pointer (some ⟨b2, 0, none⟩)), (3, .pointer (some ⟨b3, 0, none⟩)), (51, .agg (u32s S.l).toArray), (52, i64 i)] (⟨b3, u8s (outS S i) ++ List.replicate (4 * r) zu8, true⟩ :: R) := by
  obtain ⟨gn, w0, may⟩ := g
  obtain rfl : gn = 73 := hg
  intro r
  induction r with
  | zero =>
    intro i hi
    obtain rfl : i = 8 := by omega
    rw [outS_all]
    simp only [Nat.mul_zero, List.replicate_zero, List.append_nil]
    refine WpL.step ?_
    refine Wp.seq ?_
    refine Wp.reg allGen ?_
    refine Tr.lss rfl rfl (by first | with_reducible assumption | exact decide_eq_true (by omega) | exact decide_eq_false (by omega) | exact beq_iff_eq.2 (by omega) | exact beq_eq_false_iff_ne.2 (by omega) | exact bne_iff_ne.2 (by omega) | rfl) rfl trivial rfl ?_
    refine Tr.nil ?_ (fun _ => rfl) (List.Perm.refl _)
    refine Wp.seq ?_
    refine Wp.condF rfl ?_
    refine Wp.exit ?_
    exact ⟨rfl, ⟨fun a ha => EH.sub (ESub.sub (by repeat (first | exact ESub.nil | refine ESub.cons rfl (by first | rfl | (simp; done) | (simp; omega)) ?_))) a ha, fun w hw => hw⟩⟩
  | succ r ih =>
    intro i hi
    have g7 : (u32s S.l)[(i : Int).toNat]? = some (u32 (S.l.getD i 0)) := by
      have : i < S.l.length := by rw [W8.l_len]; omega
      show (u32s S.l)[i]? = _
      simp [List.getElem?_map, List.getElem?_eq_getElem this, List.getD]
    have hlen := outS_len S i (by omega)
    have hih := ih (i + 1) (by omega)
    rw [outS_succ S i (by omega)] at hih
    have h32 : (u8s (outS S i) ++ List.replicate (4 * (r + 1)) zu8).length = 32 := by simp [hlen]; omega
    generalize S.l.getD i 0 = x at g7 hih
    have hset := set4 (outS S i) r (x >>> UInt32.ofNat 24).toUInt8 (x >>> UInt32.ofNat 16).toUInt8 (x >>> UInt32.ofNat 8).toUInt8 (x >>> UInt32.ofNat 0).toUInt8 (4 * (i : Int) + 0).toNat (4 * (i : Int) + 1).toNat (4 * (i : Int) + 2).toNat (4 * (i : Int) + 3).toNat (by omega) (by omega) (by omega) (by omega)
    refine WpL.step ?_
    refine Wp.seq ?_
    refine Wp.reg allGen ?_
    refine Tr.lss rfl rfl (by first | with_reducible assumption | exact decide_eq_true (by omega) | exact decide_eq_false (by omega) | exact beq_iff_eq.2 (by omega) | exact beq_eq_false_iff_ne.2 (by omega) | exact bne_iff_ne.2 (by omega) | rfl) rfl trivial rfl ?_
    refine Tr.nil ?_ (fun _ => rfl) (List.Perm.refl _)
    refine Wp.seq ?_
    refine Wp.condT rfl ?_
    refine Wp.skip ?_
    refine Wp.seq ?_
    refine Wp.block ?_
    refine Wp.seq ?_
    refine Wp.reg allGen ?_
    refine Tr.move rfl rfl trivial rfl ?_
    refine Tr.indexS tab rfl rfl rfl rfl rfl rfl rfl (by omega) (by omega) g7 rfl trivial rfl ?_
    refine Tr.assign rfl rfl trivial rfl ?_
    refine Tr.assign rfl rfl trivial rfl ?_
    refine Tr.nil ?_ (fun _ => rfl) (List.Perm.refl _)
    refine Wp.seq ?_
    refine Wp.reg allGen ?_
    refine Tr.move rfl rfl trivial rfl ?_
    refine Tr.nil ?_ (fun _ => rfl) (List.Perm.refl _)
    refine Wp.block ?_
    refine Wp.loopL ?_
    refine WpL.step ?_
    refine Wp.seq ?_
    refine Wp.reg allGen ?_
    refine Tr.lss rfl rfl (by first | with_reducible assumption | exact decide_eq_true (by omega) | exact decide_eq_false (by omega) | exact beq_iff_eq.2 (by omega) | exact beq_eq_false_iff_ne.2 (by omega) | exact bne_iff_ne.2 (by omega) | rfl) rfl trivial rfl ?_
    refine Tr.nil ?_ (fun _ => rfl) (List.Perm.refl _)
    refine Wp.seq ?_
    refine Wp.condT rfl ?_
    refine Wp.skip ?_
    refine Wp.seq ?_
    refine Wp.block ?_
    refine Wp.seq ?_
    refine Wp.reg allGen ?_
    refine Tr.move rfl rfl trivial rfl ?_
    refine Tr.assign rfl rfl trivial rfl ?_
    refine Tr.nil ?_ (fun _ => rfl) (List.Perm.refl _)
    refine Wp.reg allGen ?_
    refine Tr.move rfl rfl trivial rfl ?_
    refine Tr.mul rfl rfl (by first | exact wrap_i64 (by omega) (by omega) | rfl) rfl trivial rfl ?_
    refine Tr.move rfl rfl trivial rfl ?_
    refine Tr.add rfl rfl (by first | exact wrap_i64 (by omega) (by omega) | rfl) rfl trivial rfl ?_
    refine Tr.move rfl rfl trivial rfl ?_
    refine Tr.move rfl rfl trivial rfl ?_
    refine Tr.mul rfl rfl (by first | exact wrap_i64 (by omega) (by omega) | rfl) rfl trivial rfl ?_
    refine Tr.sub rfl rfl (by first | exact wrap_i64 (by omega) (by omega) | rfl) rfl trivial rfl ?_
    refine Tr.shr rfl rfl (by omega) (by first | exact u32_shr _ _ (by omega) | rfl) rfl trivial rfl ?_
    refine Tr.conv tab rfl rfl rfl rfl (by first | exact conv_u32_u8 _ | rfl) rfl trivial rfl ?_
    first | refine Tr.indexAddr01 tab rfl rfl rfl rfl rfl (by omega) (by omega) rfl trivial rfl ?_ | refine Tr.indexAddr1 tab rfl rfl rfl rfl rfl (by omega) (by omega) rfl trivial rfl ?_
    refine Tr.storeS tab rfl rfl rfl rfl (by first | exact .here | exact (.there .here) | exact (.there (.there .here)) | exact (.there (.there (.there .here))) | exact (.there (.there (.there (.there .here)))) | exact (.there (.there (.there (.there (.there .here))))) | exact (.there (.there (.there (.there (.there (.there .here)))))) | exact (.there (.there (.there (.there (.there (.there (.there .here))))))) | exact (.there (.there (.there (.there (.there (.there (.there (.there .here)))))))) | exact (.there (.there (.there (.there (.there (.there (.there (.there (.there .here)))))))))) (by simp only [List.length_set, h32]; omega) trivial rfl ?_
    refine Tr.nil ?_ (fun _ => rfl) (List.Perm.refl _)
    refine Wp.reg allGen ?_
    refine Tr.add rfl rfl (by first | exact wrap_i64 (by omega) (by omega) | rfl) rfl trivial rfl ?_
    refine Tr.move rfl rfl trivial rfl ?_
    refine Tr.nil ?_ (fun _ => rfl) (List.Perm.refl _)
    refine WpL.step ?_
    refine Wp.seq ?_
    refine Wp.reg allGen ?_
    refine Tr.lss rfl rfl (by first | with_reducible assumption | exact decide_eq_true (by omega) | exact decide_eq_false (by omega) | exact beq_iff_eq.2 (by omega) | exact beq_eq_false_iff_ne.2 (by omega) | exact bne_iff_ne.2 (by omega) | rfl) rfl trivial rfl ?_
    refine Tr.nil ?_ (fun _ => rfl) (List.Perm.refl _)
    refine Wp.seq ?_
    refine Wp.condT rfl ?_
    refine Wp.skip ?_
    refine Wp.seq ?_
    refine Wp.block ?_
    refine Wp.seq ?_
    refine Wp.reg allGen ?_
    refine Tr.move rfl rfl trivial rfl ?_
    refine Tr.assign rfl rfl trivial rfl ?_
    refine Tr.nil ?_ (fun _ => rfl) (List.Perm.refl _)
    refine Wp.reg allGen ?_
    refine Tr.move rfl rfl trivial rfl ?_
    refine Tr.mul rfl rfl (by first | exact wrap_i64 (by omega) (by omega) | rfl) rfl trivial rfl ?_
    refine Tr.move rfl rfl trivial rfl ?_
    refine Tr.add rfl rfl (by first | exact wrap_i64 (by omega) (by omega) | rfl) rfl trivial rfl ?_
    refine Tr.move rfl rfl trivial rfl ?_
    refine Tr.move rfl rfl trivial rfl ?_
    refine Tr.mul rfl rfl (by first | exact wrap_i64 (by omega) (by omega) | rfl) rfl trivial rfl ?_
    refine Tr.sub rfl rfl (by first | exact wrap_i64 (by omega) (by omega) | rfl) rfl trivial rfl ?_
    refine Tr.shr rfl rfl (by omega) (by first | exact u32_shr _ _ (by omega) | rfl) rfl trivial rfl ?_
    refine Tr.conv tab rfl rfl rfl rfl (by first | exact conv_u32_u8 _ | rfl) rfl trivial rfl ?_
    first | refine Tr.indexAddr01 tab rfl rfl rfl rfl rfl (by omega) (by omega) rfl trivial rfl ?_ | refine Tr.indexAddr1 tab rfl rfl rfl rfl rfl (by omega) (by omega) rfl trivial rfl ?_
    refine Tr.storeS tab rfl rfl rfl rfl (by first | exact .here | exact (.there .here) | exact (.there (.there .here)) | exact (.there (.there (.there .here))) | exact (.there (.there (.there (.there .here)))) | exact (.there (.there (.there (.there (.there .here))))) | exact (.there (.there (.there (.there (.there (.there .here)))))) | exact (.there (.there (.there (.there (.there (.there (.there .here))))))) | exact (.there (.there (.there (.there (.there (.there (.there (.there .here)))))))) | exact (.there (.there (.there (.there (.there (.there (.there (.there (.there .here)))))))))) (by simp only [List.length_set, h32]; omega) trivial rfl ?_
    refine Tr.nil ?_ (fun _ => rfl) (List.Perm.refl _)
    refine Wp.reg allGen ?_
    refine Tr.add rfl rfl (by first | exact wrap_i64 (by omega) (by omega) | rfl) rfl trivial rfl ?_
    refine Tr.move rfl rfl trivial rfl ?_
    refine Tr.nil ?_ (fun _ => rfl) (List.Perm.refl _)
    refine WpL.step ?_
    refine Wp.seq ?_
    refine Wp.reg allGen ?_
    refine Tr.lss rfl rfl (by first | with_reducible assumption | exact decide_eq_true (by omega) | exact decide_eq_false (by omega) | exact beq_iff_eq.2 (by omega) | exact beq_eq_false_iff_ne.2 (by omega) | exact bne_iff_ne.2 (by omega) | rfl) rfl trivial rfl ?_
    refine Tr.nil ?_ (fun _ => rfl) (List.Perm.refl _)
    refine Wp.seq ?_
    refine Wp.condT rfl ?_
    refine Wp.skip ?_
    refine Wp.seq ?_
    refine Wp.block ?_
    refine Wp.seq ?_
    refine Wp.reg allGen ?_
    refine Tr.move rfl rfl trivial rfl ?_
    refine Tr.assign rfl rfl trivial rfl ?_
    refine Tr.nil ?_ (fun _ => rfl) (List.Perm.refl _)
    refine Wp.reg allGen ?_
    refine Tr.move rfl rfl trivial rfl ?_
    refine Tr.mul rfl rfl (by first | exact wrap_i64 (by omega) (by omega) | rfl) rfl trivial rfl ?_
    refine Tr.move rfl rfl trivial rfl ?_
    refine Tr.add rfl rfl (by first | exact wrap_i64 (by omega) (by omega) | rfl) rfl trivial rfl ?_
    refine Tr.move rfl rfl trivial rfl ?_
    refine Tr.move rfl rfl trivial rfl ?_
    refine Tr.mul rfl rfl (by first | exact wrap_i64 (by omega) (by omega) | rfl) rfl trivial rfl ?_
    refine Tr.sub rfl rfl (by first | exact wrap_i64 (by omega) (by omega) | rfl) rfl trivial rfl ?_
    refine Tr.shr rfl rfl (by omega) (by first | exact u32_shr _ _ (by omega) | rfl) rfl trivial rfl ?_
    refine Tr.conv tab rfl rfl rfl rfl (by first | exact conv_u32_u8 _ | rfl) rfl trivial rfl ?_
    first | refine Tr.indexAddr01 tab rfl rfl rfl rfl rfl (by omega) (by omega) rfl trivial rfl ?_ | refine Tr.indexAddr1 tab rfl rfl rfl rfl rfl (by omega) (by omega) rfl trivial rfl ?_
    refine Tr.storeS tab rfl rfl rfl rfl (by first | exact .here | exact (.there .here) | exact (.there (.there .here)) | exact (.there (.there (.there .here))) | exact (.there (.there (.there (.there .here)))) | exact (.there (.there (.there (.there (.there .here))))) | exact (.there (.there (.there (.there (.there (.there .here)))))) | exact (.there (.there (.there (.there (.there (.there (.there .here))))))) | exact (.there (.there (.there (.there (.there (.there (.there (.there .here)))))))) | exact (.there (.there (.there (.there (.there (.there (.there (.there (.there .here)))))))))) (by simp only [List.length_set, h32]; omega) trivial rfl ?_
    refine Tr.nil ?_ (fun _ => rfl) (List.Perm.refl _)
    refine Wp.reg allGen ?_
    refine Tr.add rfl rfl (by first | exact wrap_i64 (by omega) (by omega) | rfl) rfl trivial rfl ?_
    refine Tr.move rfl rfl trivial rfl ?_
    refine Tr.nil ?_ (fun _ => rfl) (List.Perm.refl _)
    refine WpL.step ?_
    refine Wp.seq ?_
    refine Wp.reg allGen ?_
    refine Tr.lss rfl rfl (by first | with_reducible assumption | exact decide_eq_true (by omega) | exact decide_eq_false (by omega) | exact beq_iff_eq.2 (by omega) | exact beq_eq_false_iff_ne.2 (by omega) | exact bne_iff_ne.2 (by omega) | rfl) rfl trivial rfl ?_
    refine Tr.nil ?_ (fun _ => rfl) (List.Perm.refl _)
    refine Wp.seq ?_
    refine Wp.condT rfl ?_
    refine Wp.skip ?_
    refine Wp.seq ?_
    refine Wp.block ?_
    refine Wp.seq ?_
    refine Wp.reg allGen ?_
    refine Tr.move rfl rfl trivial rfl ?_
    refine Tr.assign rfl rfl trivial rfl ?_
    refine Tr.nil ?_ (fun _ => rfl) (List.Perm.refl _)
    refine Wp.reg allGen ?_
    refine Tr.move rfl rfl trivial rfl ?_
    refine Tr.mul rfl rfl (by first | exact wrap_i64 (by omega) (by omega) | rfl) rfl trivial rfl ?_
    refine Tr.move rfl rfl trivial rfl ?_
    refine Tr.add rfl rfl (by first | exact wrap_i64 (by omega) (by omega) | rfl) rfl trivial rfl ?_
    refine Tr.move rfl rfl trivial rfl ?_
    refine Tr.move rfl rfl trivial rfl ?_
    refine Tr.mul rfl rfl (by first | exact wrap_i64 (by omega) (by omega) | rfl) rfl trivial rfl ?_
    refine Tr.sub rfl rfl (by first | exact wrap_i64 (by omega) (by omega) | rfl) rfl trivial rfl ?_
    refine Tr.shr rfl rfl (by omega) (by first | exact u32_shr _ _ (by omega) | rfl) rfl trivial rfl ?_
    refine Tr.conv tab rfl rfl rfl rfl (by first | exact conv_u32_u8 _ | rfl) rfl trivial rfl ?_
    first | refine Tr.indexAddr01 tab rfl rfl rfl rfl rfl (by omega) (by omega) rfl trivial rfl ?_ | refine Tr.indexAddr1 tab rfl rfl rfl rfl rfl (by omega) (by omega) rfl trivial rfl ?_
    refine Tr.storeS tab rfl rfl rfl rfl (by first | exact .here | exact (.there .here) | exact (.there (.there .here)) | exact (.there (.there (.there .here))) | exact (.there (.there (.there (.there .here)))) | exact (.there (.there (.there (.there (.there .here))))) | exact (.there (.there (.there (.there (.there (.there .here)))))) | exact (.there (.there (.there (.there (.there (.there (.there .here))))))) | exact (.there (.there (.there (.there (.there (.there (.there (.there .here)))))))) | exact (.there (.there (.there (.there (.there (.there (.there (.there (.there .here)))))))))) (by simp only [List.length_set, h32]; omega) trivial rfl ?_
    refine Tr.nil ?_ (fun _ => rfl) (List.Perm.refl _)
    refine Wp.reg allGen ?_
    refine Tr.add rfl rfl (by first | exact wrap_i64 (by omega) (by omega) | rfl) rfl trivial rfl ?_
    refine Tr.move rfl rfl trivial rfl ?_
    refine Tr.nil ?_ (fun _ => rfl) (List.Perm.refl _)
    refine WpL.step ?_
    refine Wp.seq ?_
    refine Wp.reg allGen ?_
    refine Tr.lss rfl rfl (by first | with_reducible assumption | exact decide_eq_true (by omega) | exact decide_eq_false (by omega) | exact beq_iff_eq.2 (by omega) | exact beq_eq_false_iff_ne.2 (by omega) | exact bne_iff_ne.2 (by omega) | rfl) rfl trivial rfl ?_
    refine Tr.nil ?_ (fun _ => rfl) (List.Perm.refl _)
    refine Wp.seq ?_
    refine Wp.condF rfl ?_
    refine Wp.exit ?_
    refine Wp.reg allGen ?_
    refine Tr.add rfl rfl (by first | exact wrap_i64 (by omega) (by omega) | rfl) rfl trivial rfl ?_
    refine Tr.move rfl rfl trivial rfl ?_
    refine Tr.nil ?_ (fun _ => rfl) (List.Perm.refl _)
    skip
    refine WpL.weak hih ⟨fun a ha => EH.sub (ESub.sub (by repeat (first | exact ESub.nil | refine ESub.cons rfl (by first | rfl | (simp; done) | (simp; omega)) ?_))) a ha, fun w hw => ?_⟩
    have e : be4 x = [(x >>> UInt32.ofNat 24).toUInt8, (x >>> UInt32.ofNat 16).toUInt8, (x >>> UInt32.ofNat 8).toUInt8, (x >>> UInt32.ofNat 0).toUInt8] := rfl
    have vk : ∀ (z : Int) (n : Nat), z = n → n < 32 → IntKind.u8.wrap (shrv .u32 (x.toNat : Int) z) = (((x >>> UInt32.ofNat n).toUInt8).toNat : Int) := by
      rintro z n rfl hn
      rw [u32_shr x n hn, conv_u32_u8]
    rw [vk (24 - 8 * 0) 24 (by decide) (by decide), vk (24 - 8 * (0 + 1)) 16 (by decide) (by decide), vk (24 - 8 * (0 + 1 + 1)) 8 (by decide) (by decide), vk (24 - 8 * (0 + 1 + 1 + 1)) 0 (by decide) (by decide)] at hw
    rw [e, ← hset]
    exact hw

end Go.Proofs.Ytffghaeaohabhaa.AW
