import Derived.Test.YtffghaeaohabhaaR9
namespace Go.Proofs.Ytffghaeaohabhaa.AW
open Go Go.Proofs
set_option maxRecDepth 100000

def loop3 : Code := (Code.seq (Code.seq (Code.region 11 #[{ dst := (some 44), op := (Op.move (Operand.tmp 9)), type := 3, pos := "law.go:32", after := #[], guard := none }, { dst := (some 45), op := (Op.binOp BinOp.lss 3 (Operand.tmp 44) (Operand.const (Value.int IntKind.i64 64)) 3), type := 4, pos := "law.go:32", after := #[{ on := 0, ground := Ground.data }], guard := none }] false) (Code.cond (Operand.tmp 45) Code.skip (Code.exit 0))) (Code.seq (Code.block 1 (Code.seq (Code.region 13 #[{ dst := (some 48), op := (Op.move (Operand.tmp 9)), type := 3, pos := "law.go:33", after := #[], guard := none }, { dst := (some 49), op := (Op.binOp BinOp.lss 3 (Operand.tmp 48) (Operand.const (Value.int IntKind.i64 8)) 3), type := 4, pos := "law.go:33", after := #[{ on := 0, ground := Ground.data }], guard := none }, { dst := (some 50), op := (Op.move (Operand.tmp 49)), type := 4, pos := "law.go:33", after := #[{ on := 1, ground := Ground.data }], guard := none }, { dst := (some 51), op := (Op.move (Operand.tmp 9)), type := 3, pos := "law.go:33", after := #[{ on := 2, ground := Ground.guard }], guard := (some (2, true)) }, { dst := (some 52), op := (Op.indexAddr 30 (Operand.tmp 5) (Operand.tmp 51)), type := 0, pos := "law.go:33", after := #[{ on := 3, ground := Ground.data }, { on := 2, ground := Ground.guard }], guard := (some (2, true)) }, { dst := (some 53), op := (Op.load 29 (Operand.tmp 52)), type := 29, pos := "law.go:33", after := #[{ on := 4, ground := Ground.data }, { on := 2, ground := Ground.guard }], guard := (some (2, true)) }, { dst := (some 54), op := (Op.convert 29 3 (Operand.tmp 53)), type := 3, pos := "law.go:33", after := #[{ on := 5, ground := Ground.data }, { on := 2, ground := Ground.guard }], guard := (some (2, true)) }, { dst := (some 55), op := (Op.move (Operand.tmp 7)), type := 22, pos := "law.go:33", after := #[{ on := 2, ground := Ground.guard }], guard := (some (2, true)) }, { dst := (some 56), op := (Op.move (Operand.tmp 9)), type := 3, pos := "law.go:33", after := #[{ on := 2, ground := Ground.guard }], guard := (some (2, true)) }, { dst := (some 57), op := (Op.indexAddr 22 (Operand.tmp 55) (Operand.tmp 56)), type := 0, pos := "law.go:33", after := #[{ on := 7, ground := Ground.data }, { on := 8, ground := Ground.data }, { on := 2, ground := Ground.guard }], guard := (some (2, true)) }, { dst := (some 58), op := (Op.load 3 (Operand.tmp 57)), type := 3, pos := "law.go:33", after := #[{ on := 9, ground := Ground.data }, { on := 2, ground := Ground.guard }], guard := (some (2, true)) }, { dst := (some 59), op := (Op.binOp BinOp.neq 3 (Operand.tmp 54) (Operand.tmp 58) 3), type := 4, pos := "law.go:33", after := #[{ on := 6, ground := Ground.data }, { on := 10, ground := Ground.data }, { on := 2, ground := Ground.guard }], guard := (some (2, true)) }, { dst := (some 60), op := (Op.pick (Operand.tmp 50) (Operand.tmp 59) (Operand.const (Value.bool false))), type := 4, pos := "law.go:33", after := #[{ on := 2, ground := Ground.data }, { on := 11, ground := Ground.data }], guard := none }, { dst := (some 61), op := (Op.move (Operand.tmp 60)), type := 4, pos := "law.go:33", after := #[{ on := 12, ground := Ground.data }, { on := 2, ground := Ground.chain }], guard := none }, { dst := (some 62), op := (Op.move (Operand.tmp 9)), type := 3, pos := "law.go:33", after := #[{ on := 13, ground := Ground.guard }], guard := (some (13, false)) }, { dst := (some 63), op := (Op.indexAddr 32 (Operand.tmp 6) (Operand.tmp 62)), type := 0, pos := "law.go:33", after := #[{ on := 14, ground := Ground.data }, { on := 13, ground := Ground.guard }], guard := (some (13, false)) }, { dst := (some 64), op := (Op.load 29 (Operand.tmp 63)), type := 29, pos := "law.go:33", after := #[{ on := 15, ground := Ground.data }, { on := 13, ground := Ground.guard }], guard := (some (13, false)) }, { dst := (some 65), op := (Op.convert 29 3 (Operand.tmp 64)), type := 3, pos := "law.go:33", after := #[{ on := 16, ground := Ground.data }, { on := 13, ground := Ground.guard }], guard := (some (13, false)) }, { dst := (some 66), op := (Op.move (Operand.tmp 8)), type := 22, pos := "law.go:33", after := #[{ on := 13, ground := Ground.guard }], guard := (some (13, false)) }, { dst := (some 67), op := (Op.move (Operand.tmp 9)), type := 3, pos := "law.go:33", after := #[{ on := 13, ground := Ground.guard }], guard := (some (13, false)) }, { dst := (some 68), op := (Op.indexAddr 22 (Operand.tmp 66) (Operand.tmp 67)), type := 0, pos := "law.go:33", after := #[{ on := 18, ground := Ground.data }, { on := 19, ground := Ground.data }, { on := 13, ground := Ground.guard }], guard := (some (13, false)) }, { dst := (some 69), op := (Op.load 3 (Operand.tmp 68)), type := 3, pos := "law.go:33", after := #[{ on := 20, ground := Ground.data }, { on := 13, ground := Ground.guard }], guard := (some (13, false)) }, { dst := (some 70), op := (Op.binOp BinOp.neq 3 (Operand.tmp 65) (Operand.tmp 69) 3), type := 4, pos := "law.go:33", after := #[{ on := 17, ground := Ground.data }, { on := 21, ground := Ground.data }, { on := 13, ground := Ground.guard }], guard := (some (13, false)) }, { dst := (some 71), op := (Op.pick (Operand.tmp 61) (Operand.const (Value.bool true)) (Operand.tmp 70)), type := 4, pos := "law.go:33", after := #[{ on := 13, ground := Ground.data }, { on := 22, ground := Ground.data }], guard := none }] true) (Code.cond (Operand.tmp 71) (Code.seq (Code.region 14 #[{ dst := (some 2), op := (Op.assign (Operand.const (Value.bool false))), type := 4, pos := "law.go:34", after := #[], guard := none }] false) Code.ret) Code.skip))) (Code.region 12 #[{ dst := (some 46), op := (Op.move (Operand.tmp 9)), type := 3, pos := "law.go:32", after := #[], guard := none }, { dst := (some 47), op := (Op.binOp BinOp.add 3 (Operand.tmp 46) (Operand.const (Value.int IntKind.i64 1)) 3), type := 3, pos := "law.go:32", after := #[{ on := 0, ground := Ground.data }], guard := none }, { dst := (some 9), op := (Op.assign (Operand.tmp 47)), type := 3, pos := "law.go:32", after := #[{ on := 1, ground := Ground.data }, { on := 0, ground := Ground.phase }, { on := 1, ground := Ground.phase }], guard := none }] false)))

theorem const_loop {g : Gh} (hg : g.n = 73) (S K : List UInt32) (hS : S.length = 8) (hK : K.length = 64) (b5 b6 bx ox cx by_ oy cy : Nat) (cX cY : List Value) (hcX : At cX ox (w32s S)) (hcY : At cY oy (w32s K)) : ∀ (r i : Nat), i + r = 64 →
    WpL Try.prog g loop3 (fun e env mem => e = .exit 0)
      [(5, .pointer (some ⟨b5, 0, none⟩)), (6, .pointer (some ⟨b6, 0, none⟩)), (7, .slice (some ⟨bx, ox, none⟩) 8 cx), (8, .slice (some ⟨by_, oy, none⟩) 64 cy), (9, i64 i)]
      [⟨b5, u32s S, true⟩, ⟨b6, u32s K, true⟩, ⟨bx, cX, true⟩, ⟨by_, cY, true⟩] := by
  obtain ⟨gn, w0, may⟩ := g
  obtain rfl : gn = 73 := hg
  intro r
  induction r with
  | zero =>
    intro i hi
    obtain rfl : i = 64 := by omega
    refine WpL.step ?_
    refine Wp.seq ?_
    refine Wp.seq ?_
    refine Wp.reg allGen ?_
    refine Tr.move rfl rfl trivial rfl ?_
    refine Tr.lss rfl rfl (by first | with_reducible assumption | exact decide_eq_true (by omega) | exact decide_eq_false (by omega) | exact beq_iff_eq.2 (by omega) | exact beq_eq_false_iff_ne.2 (by omega) | exact bne_iff_ne.2 (by omega) | rfl) rfl trivial rfl ?_
    refine Tr.nil ?_ (fun _ => rfl) (List.Perm.refl _)
    refine Wp.condF rfl ?_
    refine Wp.exit ?_
    exact rfl
  | succ r ih =>
    intro i hi
    have hih := ih (i + 1) (by omega)
    have gk := at_get u32 (At.all (u32s K)) 0 (j := i) (by omega) (k := (i : Int)) rfl
    rw [Nat.zero_add] at gk
    have gy := at_get w32 hcY 0 (j := i) (by omega) (k := (i : Int)) rfl
    by_cases h8 : i < 8
    · have gs := at_get u32 (At.all (u32s S)) 0 (j := i) (by omega) (k := (i : Int)) rfl
      rw [Nat.zero_add] at gs
      have gx := at_get w32 hcX 0 (j := i) (by omega) (k := (i : Int)) rfl
      refine WpL.step ?_
      refine Wp.seq ?_
      refine Wp.seq ?_
      refine Wp.reg allGen ?_
      refine Tr.move rfl rfl trivial rfl ?_
      refine Tr.lss rfl rfl (by first | with_reducible assumption | exact decide_eq_true (by omega) | exact decide_eq_false (by omega) | exact beq_iff_eq.2 (by omega) | exact beq_eq_false_iff_ne.2 (by omega) | exact bne_iff_ne.2 (by omega) | rfl) rfl trivial rfl ?_
      refine Tr.nil ?_ (fun _ => rfl) (List.Perm.refl _)
      refine Wp.condT rfl ?_
      refine Wp.skip ?_
      refine Wp.seq ?_
      refine Wp.block ?_
      refine Wp.seq ?_
      refine Wp.regE kindOf mo (by kernel_rfl) ?_
      refine Tr.move rfl rfl trivial rfl ?_
      refine Tr.lss (r := true) rfl rfl (by first | with_reducible assumption | exact decide_eq_true (by omega) | exact decide_eq_false (by omega) | exact beq_iff_eq.2 (by omega) | exact beq_eq_false_iff_ne.2 (by omega) | exact bne_iff_ne.2 (by omega) | rfl) rfl trivial rfl ?_
      refine Tr.move rfl rfl trivial rfl ?_
      first | refine Tr.skp rfl ⟨_, _, rfl, rfl, by first | exact .inl rfl | exact .inr rfl⟩ ?_ | (refine Tr.move rfl rfl ⟨_, rfl, rfl⟩ rfl ?_)
      first | refine Tr.skp rfl ⟨_, _, rfl, rfl, by first | exact .inl rfl | exact .inr rfl⟩ ?_ | (first | refine Tr.indexAddr01 tab rfl rfl rfl rfl rfl (by omega) (by omega) rfl ⟨_, rfl, rfl⟩ rfl ?_ | refine Tr.indexAddr1 tab rfl rfl rfl rfl rfl (by omega) (by omega) rfl ⟨_, rfl, rfl⟩ rfl ?_)
      first | refine Tr.skp rfl ⟨_, _, rfl, rfl, by first | exact .inl rfl | exact .inr rfl⟩ ?_ | (refine Tr.loadS tab rfl rfl rfl (by repeat (first | exact .head _ | refine .tail _ ?_ | refine List.mem_append_right _ ?_)) (by first | rfl | with_reducible assumption | assumption | (simp; done)) rfl ⟨_, rfl, rfl⟩ rfl ?_)
      first | refine Tr.skp rfl ⟨_, _, rfl, rfl, by first | exact .inl rfl | exact .inr rfl⟩ ?_ | (refine Tr.conv tab rfl rfl rfl rfl (by first | exact conv_u32_i64 _ | exact wrap_i64 (by omega) (by omega) | rfl) rfl ⟨_, rfl, rfl⟩ rfl ?_)
      first | refine Tr.skp rfl ⟨_, _, rfl, rfl, by first | exact .inl rfl | exact .inr rfl⟩ ?_ | (refine Tr.move rfl rfl ⟨_, rfl, rfl⟩ rfl ?_)
      first | refine Tr.skp rfl ⟨_, _, rfl, rfl, by first | exact .inl rfl | exact .inr rfl⟩ ?_ | (refine Tr.move rfl rfl ⟨_, rfl, rfl⟩ rfl ?_)
      first | refine Tr.skp rfl ⟨_, _, rfl, rfl, by first | exact .inl rfl | exact .inr rfl⟩ ?_ | (first | refine Tr.indexAddrS01 tab rfl rfl rfl rfl rfl (by omega) (by omega) rfl ⟨_, rfl, rfl⟩ rfl ?_ | refine Tr.indexAddrS1 tab rfl rfl rfl rfl rfl (by omega) (by omega) rfl ⟨_, rfl, rfl⟩ rfl ?_)
      first | refine Tr.skp rfl ⟨_, _, rfl, rfl, by first | exact .inl rfl | exact .inr rfl⟩ ?_ | (refine Tr.loadS tab rfl rfl rfl (by repeat (first | exact .head _ | refine .tail _ ?_ | refine List.mem_append_right _ ?_)) (by first | rfl | with_reducible assumption | assumption | (simp; done)) rfl ⟨_, rfl, rfl⟩ rfl ?_)
      first | refine Tr.skp rfl ⟨_, _, rfl, rfl, by first | exact .inl rfl | exact .inr rfl⟩ ?_ | (refine Tr.neq (r := false) rfl rfl (by simp) rfl ⟨_, rfl, rfl⟩ rfl ?_)
      first | refine Tr.pickT rfl rfl rfl trivial rfl ?_ | refine Tr.pickF rfl rfl rfl trivial rfl ?_
      refine Tr.move rfl rfl trivial rfl ?_
      first | refine Tr.skp rfl ⟨_, _, rfl, rfl, by first | exact .inl rfl | exact .inr rfl⟩ ?_ | (refine Tr.move rfl rfl ⟨_, rfl, rfl⟩ rfl ?_)
      first | refine Tr.skp rfl ⟨_, _, rfl, rfl, by first | exact .inl rfl | exact .inr rfl⟩ ?_ | (first | refine Tr.indexAddr01 tab rfl rfl rfl rfl rfl (by omega) (by omega) rfl ⟨_, rfl, rfl⟩ rfl ?_ | refine Tr.indexAddr1 tab rfl rfl rfl rfl rfl (by omega) (by omega) rfl ⟨_, rfl, rfl⟩ rfl ?_)
      first | refine Tr.skp rfl ⟨_, _, rfl, rfl, by first | exact .inl rfl | exact .inr rfl⟩ ?_ | (refine Tr.loadS tab rfl rfl rfl (by repeat (first | exact .head _ | refine .tail _ ?_ | refine List.mem_append_right _ ?_)) (by first | rfl | with_reducible assumption | assumption | (simp; done)) rfl ⟨_, rfl, rfl⟩ rfl ?_)
      first | refine Tr.skp rfl ⟨_, _, rfl, rfl, by first | exact .inl rfl | exact .inr rfl⟩ ?_ | (refine Tr.conv tab rfl rfl rfl rfl (by first | exact conv_u32_i64 _ | exact wrap_i64 (by omega) (by omega) | rfl) rfl ⟨_, rfl, rfl⟩ rfl ?_)
      first | refine Tr.skp rfl ⟨_, _, rfl, rfl, by first | exact .inl rfl | exact .inr rfl⟩ ?_ | (refine Tr.move rfl rfl ⟨_, rfl, rfl⟩ rfl ?_)
      first | refine Tr.skp rfl ⟨_, _, rfl, rfl, by first | exact .inl rfl | exact .inr rfl⟩ ?_ | (refine Tr.move rfl rfl ⟨_, rfl, rfl⟩ rfl ?_)
      first | refine Tr.skp rfl ⟨_, _, rfl, rfl, by first | exact .inl rfl | exact .inr rfl⟩ ?_ | (first | refine Tr.indexAddrS01 tab rfl rfl rfl rfl rfl (by omega) (by omega) rfl ⟨_, rfl, rfl⟩ rfl ?_ | refine Tr.indexAddrS1 tab rfl rfl rfl rfl rfl (by omega) (by omega) rfl ⟨_, rfl, rfl⟩ rfl ?_)
      first | refine Tr.skp rfl ⟨_, _, rfl, rfl, by first | exact .inl rfl | exact .inr rfl⟩ ?_ | (refine Tr.loadS tab rfl rfl rfl (by repeat (first | exact .head _ | refine .tail _ ?_ | refine List.mem_append_right _ ?_)) (by first | rfl | with_reducible assumption | assumption | (simp; done)) rfl ⟨_, rfl, rfl⟩ rfl ?_)
      first | refine Tr.skp rfl ⟨_, _, rfl, rfl, by first | exact .inl rfl | exact .inr rfl⟩ ?_ | (refine Tr.neq (r := false) rfl rfl (by simp) rfl ⟨_, rfl, rfl⟩ rfl ?_)
      first | refine Tr.pickT rfl rfl rfl trivial rfl ?_ | refine Tr.pickF rfl rfl rfl trivial rfl ?_
      refine Tr.nil ?_ (fun _ => rfl) (List.Perm.refl _)
      refine Wp.condF rfl ?_
      refine Wp.skip ?_
      refine Wp.reg allGen ?_
      refine Tr.move rfl rfl trivial rfl ?_
      refine Tr.add rfl rfl (by first | exact wrap_i64 (by omega) (by omega) | rfl) rfl trivial rfl ?_
      refine Tr.assign rfl rfl trivial rfl ?_
      refine Tr.nil ?_ (fun _ => rfl) (List.Perm.refl _)
      exact WpL.weak hih (Wk.mk (by repeat (first | exact ESub.nil | refine ESub.cons rfl (by first | rfl | (simp; done) | (simp; omega)) ?_)) (by repeat (first | exact MSub.nil | refine MSub.cons (by repeat (first | exact .here | apply Pick.there | apply Pick.append)) (by first | rfl | (simp; done)) ?_)))
    ·
      refine WpL.step ?_
      refine Wp.seq ?_
      refine Wp.seq ?_
      refine Wp.reg allGen ?_
      refine Tr.move rfl rfl trivial rfl ?_
      refine Tr.lss rfl rfl (by first | with_reducible assumption | exact decide_eq_true (by omega) | exact decide_eq_false (by omega) | exact beq_iff_eq.2 (by omega) | exact beq_eq_false_iff_ne.2 (by omega) | exact bne_iff_ne.2 (by omega) | rfl) rfl trivial rfl ?_
      refine Tr.nil ?_ (fun _ => rfl) (List.Perm.refl _)
      refine Wp.condT rfl ?_
      refine Wp.skip ?_
      refine Wp.seq ?_
      refine Wp.block ?_
      refine Wp.seq ?_
      refine Wp.regE kindOf mo (by kernel_rfl) ?_
      refine Tr.move rfl rfl trivial rfl ?_
      refine Tr.lss (r := false) rfl rfl (by first | with_reducible assumption | exact decide_eq_true (by omega) | exact decide_eq_false (by omega) | exact beq_iff_eq.2 (by omega) | exact beq_eq_false_iff_ne.2 (by omega) | exact bne_iff_ne.2 (by omega) | rfl) rfl trivial rfl ?_
      refine Tr.move rfl rfl trivial rfl ?_
      first | refine Tr.skp rfl ⟨_, _, rfl, rfl, by first | exact .inl rfl | exact .inr rfl⟩ ?_ | (refine Tr.move rfl rfl ⟨_, rfl, rfl⟩ rfl ?_)
      first | refine Tr.skp rfl ⟨_, _, rfl, rfl, by first | exact .inl rfl | exact .inr rfl⟩ ?_ | (first | refine Tr.indexAddr01 tab rfl rfl rfl rfl rfl (by omega) (by omega) rfl ⟨_, rfl, rfl⟩ rfl ?_ | refine Tr.indexAddr1 tab rfl rfl rfl rfl rfl (by omega) (by omega) rfl ⟨_, rfl, rfl⟩ rfl ?_)
      first | refine Tr.skp rfl ⟨_, _, rfl, rfl, by first | exact .inl rfl | exact .inr rfl⟩ ?_ | (refine Tr.loadS tab rfl rfl rfl (by repeat (first | exact .head _ | refine .tail _ ?_ | refine List.mem_append_right _ ?_)) (by first | rfl | with_reducible assumption | assumption | (simp; done)) rfl ⟨_, rfl, rfl⟩ rfl ?_)
      first | refine Tr.skp rfl ⟨_, _, rfl, rfl, by first | exact .inl rfl | exact .inr rfl⟩ ?_ | (refine Tr.conv tab rfl rfl rfl rfl (by first | exact conv_u32_i64 _ | exact wrap_i64 (by omega) (by omega) | rfl) rfl ⟨_, rfl, rfl⟩ rfl ?_)
      first | refine Tr.skp rfl ⟨_, _, rfl, rfl, by first | exact .inl rfl | exact .inr rfl⟩ ?_ | (refine Tr.move rfl rfl ⟨_, rfl, rfl⟩ rfl ?_)
      first | refine Tr.skp rfl ⟨_, _, rfl, rfl, by first | exact .inl rfl | exact .inr rfl⟩ ?_ | (refine Tr.move rfl rfl ⟨_, rfl, rfl⟩ rfl ?_)
      first | refine Tr.skp rfl ⟨_, _, rfl, rfl, by first | exact .inl rfl | exact .inr rfl⟩ ?_ | (first | refine Tr.indexAddrS01 tab rfl rfl rfl rfl rfl (by omega) (by omega) rfl ⟨_, rfl, rfl⟩ rfl ?_ | refine Tr.indexAddrS1 tab rfl rfl rfl rfl rfl (by omega) (by omega) rfl ⟨_, rfl, rfl⟩ rfl ?_)
      first | refine Tr.skp rfl ⟨_, _, rfl, rfl, by first | exact .inl rfl | exact .inr rfl⟩ ?_ | (refine Tr.loadS tab rfl rfl rfl (by repeat (first | exact .head _ | refine .tail _ ?_ | refine List.mem_append_right _ ?_)) (by first | rfl | with_reducible assumption | assumption | (simp; done)) rfl ⟨_, rfl, rfl⟩ rfl ?_)
      first | refine Tr.skp rfl ⟨_, _, rfl, rfl, by first | exact .inl rfl | exact .inr rfl⟩ ?_ | (refine Tr.skp rfl ⟨_, _, rfl, rfl, .inr rfl⟩ ?_)
      first | refine Tr.pickT rfl rfl rfl trivial rfl ?_ | refine Tr.pickF rfl rfl rfl trivial rfl ?_
      refine Tr.move rfl rfl trivial rfl ?_
      first | refine Tr.skp rfl ⟨_, _, rfl, rfl, by first | exact .inl rfl | exact .inr rfl⟩ ?_ | (refine Tr.move rfl rfl ⟨_, rfl, rfl⟩ rfl ?_)
      first | refine Tr.skp rfl ⟨_, _, rfl, rfl, by first | exact .inl rfl | exact .inr rfl⟩ ?_ | (first | refine Tr.indexAddr01 tab rfl rfl rfl rfl rfl (by omega) (by omega) rfl ⟨_, rfl, rfl⟩ rfl ?_ | refine Tr.indexAddr1 tab rfl rfl rfl rfl rfl (by omega) (by omega) rfl ⟨_, rfl, rfl⟩ rfl ?_)
      first | refine Tr.skp rfl ⟨_, _, rfl, rfl, by first | exact .inl rfl | exact .inr rfl⟩ ?_ | (refine Tr.loadS tab rfl rfl rfl (by repeat (first | exact .head _ | refine .tail _ ?_ | refine List.mem_append_right _ ?_)) (by first | rfl | with_reducible assumption | assumption | (simp; done)) rfl ⟨_, rfl, rfl⟩ rfl ?_)
      first | refine Tr.skp rfl ⟨_, _, rfl, rfl, by first | exact .inl rfl | exact .inr rfl⟩ ?_ | (refine Tr.conv tab rfl rfl rfl rfl (by first | exact conv_u32_i64 _ | exact wrap_i64 (by omega) (by omega) | rfl) rfl ⟨_, rfl, rfl⟩ rfl ?_)
      first | refine Tr.skp rfl ⟨_, _, rfl, rfl, by first | exact .inl rfl | exact .inr rfl⟩ ?_ | (refine Tr.move rfl rfl ⟨_, rfl, rfl⟩ rfl ?_)
      first | refine Tr.skp rfl ⟨_, _, rfl, rfl, by first | exact .inl rfl | exact .inr rfl⟩ ?_ | (refine Tr.move rfl rfl ⟨_, rfl, rfl⟩ rfl ?_)
      first | refine Tr.skp rfl ⟨_, _, rfl, rfl, by first | exact .inl rfl | exact .inr rfl⟩ ?_ | (first | refine Tr.indexAddrS01 tab rfl rfl rfl rfl rfl (by omega) (by omega) rfl ⟨_, rfl, rfl⟩ rfl ?_ | refine Tr.indexAddrS1 tab rfl rfl rfl rfl rfl (by omega) (by omega) rfl ⟨_, rfl, rfl⟩ rfl ?_)
      first | refine Tr.skp rfl ⟨_, _, rfl, rfl, by first | exact .inl rfl | exact .inr rfl⟩ ?_ | (refine Tr.loadS tab rfl rfl rfl (by repeat (first | exact .head _ | refine .tail _ ?_ | refine List.mem_append_right _ ?_)) (by first | rfl | with_reducible assumption | assumption | (simp; done)) rfl ⟨_, rfl, rfl⟩ rfl ?_)
      first | refine Tr.skp rfl ⟨_, _, rfl, rfl, by first | exact .inl rfl | exact .inr rfl⟩ ?_ | (refine Tr.neq (r := false) rfl rfl (by simp) rfl ⟨_, rfl, rfl⟩ rfl ?_)
      first | refine Tr.pickT rfl rfl rfl trivial rfl ?_ | refine Tr.pickF rfl rfl rfl trivial rfl ?_
      refine Tr.nil ?_ (fun _ => rfl) (List.Perm.refl _)
      refine Wp.condF rfl ?_
      refine Wp.skip ?_
      refine Wp.reg allGen ?_
      refine Tr.move rfl rfl trivial rfl ?_
      refine Tr.add rfl rfl (by first | exact wrap_i64 (by omega) (by omega) | rfl) rfl trivial rfl ?_
      refine Tr.assign rfl rfl trivial rfl ?_
      refine Tr.nil ?_ (fun _ => rfl) (List.Perm.refl _)
      exact WpL.weak hih (Wk.mk (by repeat (first | exact ESub.nil | refine ESub.cons rfl (by first | rfl | (simp; done) | (simp; omega)) ?_)) (by repeat (first | exact MSub.nil | refine MSub.cons (by repeat (first | exact .here | apply Pick.there | apply Pick.append)) (by first | rfl | (simp; done)) ?_)))

theorem f3_bad (n : Int) (hn : n < 0 ∨ 100 < n) : FnR Try.prog 3 [i64 n] [] (.bool true) := by
  have h22 := f22_no n hn
  by_cases h : n < 0
  · refine fnR_of 73 rfl Try.func3 rfl (by kernel_rfl) rfl (by simp) fun w => ?_
    refine Wp.seq ?_
    refine Wp.reg allGen ?_
    refine Tr.assign rfl rfl trivial rfl ?_
    refine Tr.nil ?_ (fun _ => rfl) (List.Perm.refl _)
    refine Wp.seq ?_
    refine Wp.reg allGen ?_
    refine Tr.move rfl rfl trivial rfl ?_
    refine Tr.call rfl h22 (by repeat (first | exact Has.nil | refine Has.cons (by repeat (first | exact .head _ | refine .tail _ ?_ | refine List.mem_append_right _ ?_)) ?_)) rfl trivial rfl ?_
    refine Tr.move rfl rfl trivial rfl ?_
    refine Tr.extract rfl rfl rfl trivial rfl ?_
    refine Tr.extract rfl rfl rfl trivial rfl ?_
    refine Tr.assign rfl rfl trivial rfl ?_
    refine Tr.assign rfl rfl trivial rfl ?_
    refine Tr.nil ?_ (fun _ => rfl) (List.Perm.refl _)
    refine Wp.seq ?_
    refine Wp.seq ?_
    refine Wp.reg allGen ?_
    refine Tr.move rfl rfl trivial rfl ?_
    refine Tr.lss (r := true) rfl rfl (by first | with_reducible assumption | exact decide_eq_true (by omega) | exact decide_eq_false (by omega) | exact beq_iff_eq.2 (by omega) | exact beq_eq_false_iff_ne.2 (by omega) | exact bne_iff_ne.2 (by omega) | rfl) rfl trivial rfl ?_
    refine Tr.move rfl rfl trivial rfl ?_
    first | refine Tr.skp rfl ⟨_, _, rfl, rfl, by first | exact .inl rfl | exact .inr rfl⟩ ?_ | (refine Tr.move rfl rfl ⟨_, rfl, rfl⟩ rfl ?_)
    first | refine Tr.skp rfl ⟨_, _, rfl, rfl, by first | exact .inl rfl | exact .inr rfl⟩ ?_ | (refine Tr.gtr rfl rfl (by first | with_reducible assumption | exact decide_eq_true (by omega) | exact decide_eq_false (by omega) | exact beq_iff_eq.2 (by omega) | exact beq_eq_false_iff_ne.2 (by omega) | exact bne_iff_ne.2 (by omega) | rfl) rfl ⟨_, rfl, rfl⟩ rfl ?_)
    first | refine Tr.pickT rfl rfl rfl trivial rfl ?_ | refine Tr.pickF rfl rfl rfl trivial rfl ?_
    refine Tr.nil ?_ (fun _ => rfl) (List.Perm.refl _)
    refine Wp.condT rfl ?_
    refine Wp.seq ?_
    refine Wp.reg allGen ?_
    refine Tr.call rfl f23_awake (by repeat (first | exact Has.nil | refine Has.cons (by repeat (first | exact .head _ | refine .tail _ ?_ | refine List.mem_append_right _ ?_)) ?_)) rfl trivial rfl ?_
    refine Tr.move rfl rfl trivial rfl ?_
    first | refine Tr.skp rfl ⟨_, _, rfl, rfl, by first | exact .inl rfl | exact .inr rfl⟩ ?_ | (refine Tr.move rfl rfl ⟨_, rfl, rfl⟩ rfl ?_)
    first | refine Tr.skp rfl ⟨_, _, rfl, rfl, by first | exact .inl rfl | exact .inr rfl⟩ ?_ | (refine Tr.eql rfl rfl (by first | with_reducible assumption | exact decide_eq_true (by omega) | exact decide_eq_false (by omega) | exact beq_iff_eq.2 (by omega) | exact beq_eq_false_iff_ne.2 (by omega) | exact bne_iff_ne.2 (by omega) | rfl) rfl ⟨_, rfl, rfl⟩ rfl ?_)
    first | refine Tr.pickT rfl rfl rfl trivial rfl ?_ | refine Tr.pickF rfl rfl rfl trivial rfl ?_
    refine Tr.move rfl rfl trivial rfl ?_
    first | refine Tr.skp rfl ⟨_, _, rfl, rfl, by first | exact .inl rfl | exact .inr rfl⟩ ?_ | (refine Tr.move rfl rfl ⟨_, rfl, rfl⟩ rfl ?_)
    first | refine Tr.skp rfl ⟨_, _, rfl, rfl, by first | exact .inl rfl | exact .inr rfl⟩ ?_ | (refine Tr.lenS tab rfl rfl rfl rfl ⟨_, rfl, rfl⟩ rfl ?_)
    first | refine Tr.skp rfl ⟨_, _, rfl, rfl, by first | exact .inl rfl | exact .inr rfl⟩ ?_ | (refine Tr.eql rfl rfl (by first | with_reducible assumption | exact decide_eq_true (by omega) | exact decide_eq_false (by omega) | exact beq_iff_eq.2 (by omega) | exact beq_eq_false_iff_ne.2 (by omega) | exact bne_iff_ne.2 (by omega) | rfl) rfl ⟨_, rfl, rfl⟩ rfl ?_)
    first | refine Tr.pickT rfl rfl rfl trivial rfl ?_ | refine Tr.pickF rfl rfl rfl trivial rfl ?_
    refine Tr.assign rfl rfl trivial rfl ?_
    refine Tr.nil ?_ (fun _ => rfl) (List.Perm.refl _)
    refine Wp.ret ?_
    refine ⟨by first | exact .inl rfl | exact .inr rfl, ?_⟩
    exact .r1 rfl (RvIs.tmp rfl)
  · have h' : 100 < n := by omega
    refine fnR_of 73 rfl Try.func3 rfl (by kernel_rfl) rfl (by simp) fun w => ?_
    refine Wp.seq ?_
    refine Wp.reg allGen ?_
    refine Tr.assign rfl rfl trivial rfl ?_
    refine Tr.nil ?_ (fun _ => rfl) (List.Perm.refl _)
    refine Wp.seq ?_
    refine Wp.reg allGen ?_
    refine Tr.move rfl rfl trivial rfl ?_
    refine Tr.call rfl h22 (by repeat (first | exact Has.nil | refine Has.cons (by repeat (first | exact .head _ | refine .tail _ ?_ | refine List.mem_append_right _ ?_)) ?_)) rfl trivial rfl ?_
    refine Tr.move rfl rfl trivial rfl ?_
    refine Tr.extract rfl rfl rfl trivial rfl ?_
    refine Tr.extract rfl rfl rfl trivial rfl ?_
    refine Tr.assign rfl rfl trivial rfl ?_
    refine Tr.assign rfl rfl trivial rfl ?_
    refine Tr.nil ?_ (fun _ => rfl) (List.Perm.refl _)
    refine Wp.seq ?_
    refine Wp.seq ?_
    refine Wp.reg allGen ?_
    refine Tr.move rfl rfl trivial rfl ?_
    refine Tr.lss (r := false) rfl rfl (by first | with_reducible assumption | exact decide_eq_true (by omega) | exact decide_eq_false (by omega) | exact beq_iff_eq.2 (by omega) | exact beq_eq_false_iff_ne.2 (by omega) | exact bne_iff_ne.2 (by omega) | rfl) rfl trivial rfl ?_
    refine Tr.move rfl rfl trivial rfl ?_
    first | refine Tr.skp rfl ⟨_, _, rfl, rfl, by first | exact .inl rfl | exact .inr rfl⟩ ?_ | (refine Tr.move rfl rfl ⟨_, rfl, rfl⟩ rfl ?_)
    first | refine Tr.skp rfl ⟨_, _, rfl, rfl, by first | exact .inl rfl | exact .inr rfl⟩ ?_ | (refine Tr.gtr (r := true) rfl rfl (by first | with_reducible assumption | exact decide_eq_true (by omega) | exact decide_eq_false (by omega) | exact beq_iff_eq.2 (by omega) | exact beq_eq_false_iff_ne.2 (by omega) | exact bne_iff_ne.2 (by omega) | rfl) rfl ⟨_, rfl, rfl⟩ rfl ?_)
    first | refine Tr.pickT rfl rfl rfl trivial rfl ?_ | refine Tr.pickF rfl rfl rfl trivial rfl ?_
    refine Tr.nil ?_ (fun _ => rfl) (List.Perm.refl _)
    refine Wp.condT rfl ?_
    refine Wp.seq ?_
    refine Wp.reg allGen ?_
    refine Tr.call rfl f23_awake (by repeat (first | exact Has.nil | refine Has.cons (by repeat (first | exact .head _ | refine .tail _ ?_ | refine List.mem_append_right _ ?_)) ?_)) rfl trivial rfl ?_
    refine Tr.move rfl rfl trivial rfl ?_
    first | refine Tr.skp rfl ⟨_, _, rfl, rfl, by first | exact .inl rfl | exact .inr rfl⟩ ?_ | (refine Tr.move rfl rfl ⟨_, rfl, rfl⟩ rfl ?_)
    first | refine Tr.skp rfl ⟨_, _, rfl, rfl, by first | exact .inl rfl | exact .inr rfl⟩ ?_ | (refine Tr.eql rfl rfl (by first | with_reducible assumption | exact decide_eq_true (by omega) | exact decide_eq_false (by omega) | exact beq_iff_eq.2 (by omega) | exact beq_eq_false_iff_ne.2 (by omega) | exact bne_iff_ne.2 (by omega) | rfl) rfl ⟨_, rfl, rfl⟩ rfl ?_)
    first | refine Tr.pickT rfl rfl rfl trivial rfl ?_ | refine Tr.pickF rfl rfl rfl trivial rfl ?_
    refine Tr.move rfl rfl trivial rfl ?_
    first | refine Tr.skp rfl ⟨_, _, rfl, rfl, by first | exact .inl rfl | exact .inr rfl⟩ ?_ | (refine Tr.move rfl rfl ⟨_, rfl, rfl⟩ rfl ?_)
    first | refine Tr.skp rfl ⟨_, _, rfl, rfl, by first | exact .inl rfl | exact .inr rfl⟩ ?_ | (refine Tr.lenS tab rfl rfl rfl rfl ⟨_, rfl, rfl⟩ rfl ?_)
    first | refine Tr.skp rfl ⟨_, _, rfl, rfl, by first | exact .inl rfl | exact .inr rfl⟩ ?_ | (refine Tr.eql rfl rfl (by first | with_reducible assumption | exact decide_eq_true (by omega) | exact decide_eq_false (by omega) | exact beq_iff_eq.2 (by omega) | exact beq_eq_false_iff_ne.2 (by omega) | exact bne_iff_ne.2 (by omega) | rfl) rfl ⟨_, rfl, rfl⟩ rfl ?_)
    first | refine Tr.pickT rfl rfl rfl trivial rfl ?_ | refine Tr.pickF rfl rfl rfl trivial rfl ?_
    refine Tr.assign rfl rfl trivial rfl ?_
    refine Tr.nil ?_ (fun _ => rfl) (List.Perm.refl _)
    refine Wp.ret ?_
    refine ⟨by first | exact .inl rfl | exact .inr rfl, ?_⟩
    exact .r1 rfl (RvIs.tmp rfl)

theorem f3_good (n : Nat) (hn : n ≤ 100) : FnR Try.prog 3 [i64 (n : Int)] [] (.bool true) := by
  have h22 := f22_primes n hn
  have h25 := f25_primes n hn
  have hlen := primesL_len hn
  have hlen' : (iv (primesL n)).length = n := by simp [hlen]
  have hst := f26_start'
  have hrn := f27_rounds'
  have h28 := f28_start
  have h29 := f29_rounds
  have hS : startL.length = 8 := rfl
  have hK : roundsL.length = 64 := rfl
  generalize startL = S at *
  generalize roundsL = K at *
  have hS' : (w32s S).length = 8 := by simp [hS]
  have hK' : (w32s K).length = 64 := by simp [hK]
  have hS2 : (u32s S).length = 8 := by simp [hS]
  have hK2 : (u32s K).length = 64 := by simp [hK]
  have hone : ∀ l : List UInt32, (u32s l).all Value.oneCell' = true := fun l => by simp [Value.oneCell']
  by_cases h0 : n = 0
  · subst h0
    have hnil : primesL 0 = [] := List.length_eq_zero_iff.1 hlen
    rw [hnil] at h22 h25
    refine fnR_of 73 rfl Try.func3 rfl (by kernel_rfl) rfl (by simp) fun w => ?_
    refine Wp.seq ?_
    refine Wp.reg allGen ?_
    refine Tr.assign rfl rfl trivial rfl ?_
    refine Tr.nil ?_ (fun _ => rfl) (List.Perm.refl _)
    refine Wp.seq ?_
    refine Wp.reg allGen ?_
    refine Tr.move rfl rfl trivial rfl ?_
    refine Tr.callG rfl h22 (by repeat (first | exact Has.nil | refine Has.cons (by repeat (first | exact .head _ | refine .tail _ ?_ | refine List.mem_append_right _ ?_)) ?_)) rfl trivial rfl ?_
    rintro _ es1 ⟨s, rfl, hf⟩
    obtain ⟨a1, c1, rfl⟩ := hf.slice
    refine Tr.move rfl rfl trivial rfl ?_
    refine Tr.extract rfl rfl rfl trivial rfl ?_
    refine Tr.extract rfl rfl rfl trivial rfl ?_
    refine Tr.assign rfl rfl trivial rfl ?_
    refine Tr.assign rfl rfl trivial rfl ?_
    refine Tr.nil ?_ (fun _ => rfl) (List.Perm.refl _)
    refine Wp.seq ?_
    refine Wp.seq ?_
    refine Wp.reg allGen ?_
    refine Tr.move rfl rfl trivial rfl ?_
    refine Tr.lss rfl rfl (by first | with_reducible assumption | exact decide_eq_true (by omega) | exact decide_eq_false (by omega) | exact beq_iff_eq.2 (by omega) | exact beq_eq_false_iff_ne.2 (by omega) | exact bne_iff_ne.2 (by omega) | rfl) rfl trivial rfl ?_
    refine Tr.move rfl rfl trivial rfl ?_
    first | refine Tr.skp rfl ⟨_, _, rfl, rfl, by first | exact .inl rfl | exact .inr rfl⟩ ?_ | (refine Tr.move rfl rfl ⟨_, rfl, rfl⟩ rfl ?_)
    first | refine Tr.skp rfl ⟨_, _, rfl, rfl, by first | exact .inl rfl | exact .inr rfl⟩ ?_ | (refine Tr.gtr rfl rfl (by first | with_reducible assumption | exact decide_eq_true (by omega) | exact decide_eq_false (by omega) | exact beq_iff_eq.2 (by omega) | exact beq_eq_false_iff_ne.2 (by omega) | exact bne_iff_ne.2 (by omega) | rfl) rfl ⟨_, rfl, rfl⟩ rfl ?_)
    first | refine Tr.pickT rfl rfl rfl trivial rfl ?_ | refine Tr.pickF rfl rfl rfl trivial rfl ?_
    refine Tr.nil ?_ (fun _ => rfl) (List.Perm.refl _)
    refine Wp.condF rfl ?_
    refine Wp.skip ?_
    refine Wp.seq ?_
    refine Wp.seq ?_
    refine Wp.reg allGen ?_
    refine Tr.move rfl rfl trivial rfl ?_
    refine Tr.neq rfl rfl (by first | with_reducible assumption | exact decide_eq_true (by omega) | exact decide_eq_false (by omega) | exact beq_iff_eq.2 (by omega) | exact beq_eq_false_iff_ne.2 (by omega) | exact bne_iff_ne.2 (by omega) | rfl) rfl trivial rfl ?_
    refine Tr.move rfl rfl trivial rfl ?_
    first | refine Tr.skp rfl ⟨_, _, rfl, rfl, by first | exact .inl rfl | exact .inr rfl⟩ ?_ | (refine Tr.move rfl rfl ⟨_, rfl, rfl⟩ rfl ?_)
    first | refine Tr.skp rfl ⟨_, _, rfl, rfl, by first | exact .inl rfl | exact .inr rfl⟩ ?_ | (refine Tr.move rfl rfl ⟨_, rfl, rfl⟩ rfl ?_)
    first | refine Tr.skp rfl ⟨_, _, rfl, rfl, by first | exact .inl rfl | exact .inr rfl⟩ ?_ | (refine Tr.callG rfl h25 (by repeat (first | exact Has.nil | refine Has.cons (by repeat (first | exact .head _ | refine .tail _ ?_ | refine List.mem_append_right _ ?_)) ?_)) rfl ⟨_, rfl, rfl⟩ rfl ?_; rintro _ es2 hf2; obtain ⟨a2, c2, rfl⟩ := hf2.slice)
    first | refine Tr.skp rfl ⟨_, _, rfl, rfl, by first | exact .inl rfl | exact .inr rfl⟩ ?_ | (refine Tr.call rfl (f24_zero a1 a2 c1 c2) (by repeat (first | exact Has.nil | refine Has.cons (by repeat (first | exact .head _ | refine .tail _ ?_ | refine List.mem_append_right _ ?_)) ?_)) rfl ⟨_, rfl, rfl⟩ rfl ?_)
    first | refine Tr.skp rfl ⟨_, _, rfl, rfl, by first | exact .inl rfl | exact .inr rfl⟩ ?_ | (refine Tr.not rfl rfl rfl ⟨_, rfl, rfl⟩ rfl ?_)
    first | refine Tr.pickT rfl rfl rfl trivial rfl ?_ | refine Tr.pickF rfl rfl rfl trivial rfl ?_
    refine Tr.nil ?_ (fun _ => rfl) (List.Perm.refl _)
    refine Wp.condF rfl ?_
    refine Wp.skip ?_
    refine Wp.seq ?_
    refine Wp.reg allGen ?_
    refine Tr.call rfl hst (by repeat (first | exact Has.nil | refine Has.cons (by repeat (first | exact .head _ | refine .tail _ ?_ | refine List.mem_append_right _ ?_)) ?_)) rfl trivial rfl ?_
    refine Tr.alloc tab rfl rfl trivial rfl (fun B5 _ => ?_)
    refine Tr.storeA tab rfl rfl rfl (by repeat (first | exact .here | apply MU.there | apply MU.app)) (by with_reducible exact hS2) (by exact hS2) (hone _) trivial rfl ?_
    refine Tr.nil ?_ (fun _ => rfl) (List.Perm.refl _)
    refine Wp.seq ?_
    refine Wp.reg allGen ?_
    refine Tr.call rfl hrn (by repeat (first | exact Has.nil | refine Has.cons (by repeat (first | exact .head _ | refine .tail _ ?_ | refine List.mem_append_right _ ?_)) ?_)) rfl trivial rfl ?_
    refine Tr.alloc tab rfl rfl trivial rfl (fun B6 _ => ?_)
    refine Tr.storeA tab rfl rfl rfl (by repeat (first | exact .here | apply MU.there | apply MU.app)) (by with_reducible exact hK2) (by exact hK2) (hone _) trivial rfl ?_
    refine Tr.nil ?_ (fun _ => rfl) (List.Perm.refl _)
    refine Wp.seq ?_
    refine Wp.reg allGen ?_
    refine Tr.callG rfl h28 (by repeat (first | exact Has.nil | refine Has.cons (by repeat (first | exact .head _ | refine .tail _ ?_ | refine List.mem_append_right _ ?_)) ?_)) rfl trivial rfl ?_
    rintro _ es hf
    obtain ⟨bx, prex, spx, rfl, rfl⟩ := hf.row (n := 8) hS' (by decide)
    refine Tr.assign rfl rfl trivial rfl ?_
    refine Tr.nil ?_ (fun _ => rfl) (List.Perm.refl _)
    refine Wp.seq ?_
    refine Wp.reg allGen ?_
    refine Tr.callG rfl h29 (by repeat (first | exact Has.nil | refine Has.cons (by repeat (first | exact .head _ | refine .tail _ ?_ | refine List.mem_append_right _ ?_)) ?_)) rfl trivial rfl ?_
    rintro _ es hf
    obtain ⟨by_, prey, spy, rfl, rfl⟩ := hf.row (n := 64) hK' (by decide)
    refine Tr.assign rfl rfl trivial rfl ?_
    refine Tr.nil ?_ (fun _ => rfl) (List.Perm.refl _)
    refine Wp.seq ?_
    refine Wp.seq ?_
    refine Wp.reg allGen ?_
    refine Tr.assign rfl rfl trivial rfl ?_
    refine Tr.nil ?_ (fun _ => rfl) (List.Perm.refl _)
    refine Wp.block ?_
    refine Wp.loopQ (const_loop rfl S K hS hK B5 B6 bx prex.length (8 + spx.length) by_ prey.length (64 + spy.length) _ _ ⟨prex, spx, rfl, rfl⟩ ⟨prey, spy, rfl, rfl⟩ 64 0 rfl) (Wk.mk (by repeat (first | exact ESub.nil | refine ESub.cons rfl (by first | rfl | (simp; done) | (simp; omega)) ?_)) (by repeat (first | exact MSub.nil | refine MSub.cons (by repeat (first | exact .here | apply Pick.there | apply Pick.append)) (by first | rfl | (simp; done)) ?_))) ?_
    rintro _ env1 mem1 rfl
    refine Wp.weak (env' := []) (mem' := []) ?_ (Wk.mk .nil .nil)
    refine Wp.seq ?_
    refine Wp.reg allGen ?_
    refine Tr.call rfl f23_awake (by repeat (first | exact Has.nil | refine Has.cons (by repeat (first | exact .head _ | refine .tail _ ?_ | refine List.mem_append_right _ ?_)) ?_)) rfl trivial rfl ?_
    refine Tr.assign rfl rfl trivial rfl ?_
    refine Tr.nil ?_ (fun _ => rfl) (List.Perm.refl _)
    refine Wp.ret ?_
    refine ⟨by first | exact .inl rfl | exact .inr rfl, ?_⟩
    exact .r1 rfl (RvIs.tmp rfl)
  · have h24 := f24_same (primesL n) (by omega)
    rw [hlen] at h24
    refine fnR_of 73 rfl Try.func3 rfl (by kernel_rfl) rfl (by simp) fun w => ?_
    refine Wp.seq ?_
    refine Wp.reg allGen ?_
    refine Tr.assign rfl rfl trivial rfl ?_
    refine Tr.nil ?_ (fun _ => rfl) (List.Perm.refl _)
    refine Wp.seq ?_
    refine Wp.reg allGen ?_
    refine Tr.move rfl rfl trivial rfl ?_
    refine Tr.callG rfl h22 (by repeat (first | exact Has.nil | refine Has.cons (by repeat (first | exact .head _ | refine .tail _ ?_ | refine List.mem_append_right _ ?_)) ?_)) rfl trivial rfl ?_
    rintro _ es1 ⟨s, rfl, hf⟩
    obtain ⟨b1, pre1, sp1, rfl, rfl⟩ := hf.row (n := n) hlen' (by omega)
    refine Tr.move rfl rfl trivial rfl ?_
    refine Tr.extract rfl rfl rfl trivial rfl ?_
    refine Tr.extract rfl rfl rfl trivial rfl ?_
    refine Tr.assign rfl rfl trivial rfl ?_
    refine Tr.assign rfl rfl trivial rfl ?_
    refine Tr.nil ?_ (fun _ => rfl) (List.Perm.refl _)
    refine Wp.seq ?_
    refine Wp.seq ?_
    refine Wp.reg allGen ?_
    refine Tr.move rfl rfl trivial rfl ?_
    refine Tr.lss rfl rfl (by first | with_reducible assumption | exact decide_eq_true (by omega) | exact decide_eq_false (by omega) | exact beq_iff_eq.2 (by omega) | exact beq_eq_false_iff_ne.2 (by omega) | exact bne_iff_ne.2 (by omega) | rfl) rfl trivial rfl ?_
    refine Tr.move rfl rfl trivial rfl ?_
    first | refine Tr.skp rfl ⟨_, _, rfl, rfl, by first | exact .inl rfl | exact .inr rfl⟩ ?_ | (refine Tr.move rfl rfl ⟨_, rfl, rfl⟩ rfl ?_)
    first | refine Tr.skp rfl ⟨_, _, rfl, rfl, by first | exact .inl rfl | exact .inr rfl⟩ ?_ | (refine Tr.gtr rfl rfl (by first | with_reducible assumption | exact decide_eq_true (by omega) | exact decide_eq_false (by omega) | exact beq_iff_eq.2 (by omega) | exact beq_eq_false_iff_ne.2 (by omega) | exact bne_iff_ne.2 (by omega) | rfl) rfl ⟨_, rfl, rfl⟩ rfl ?_)
    first | refine Tr.pickT rfl rfl rfl trivial rfl ?_ | refine Tr.pickF rfl rfl rfl trivial rfl ?_
    refine Tr.nil ?_ (fun _ => rfl) (List.Perm.refl _)
    refine Wp.condF rfl ?_
    refine Wp.skip ?_
    refine Wp.seq ?_
    refine Wp.seq ?_
    refine Wp.reg allGen ?_
    refine Tr.move rfl rfl trivial rfl ?_
    refine Tr.neq rfl rfl (by first | with_reducible assumption | exact decide_eq_true (by omega) | exact decide_eq_false (by omega) | exact beq_iff_eq.2 (by omega) | exact beq_eq_false_iff_ne.2 (by omega) | exact bne_iff_ne.2 (by omega) | rfl) rfl trivial rfl ?_
    refine Tr.move rfl rfl trivial rfl ?_
    first | refine Tr.skp rfl ⟨_, _, rfl, rfl, by first | exact .inl rfl | exact .inr rfl⟩ ?_ | (refine Tr.move rfl rfl ⟨_, rfl, rfl⟩ rfl ?_)
    first | refine Tr.skp rfl ⟨_, _, rfl, rfl, by first | exact .inl rfl | exact .inr rfl⟩ ?_ | (refine Tr.move rfl rfl ⟨_, rfl, rfl⟩ rfl ?_)
    first | refine Tr.skp rfl ⟨_, _, rfl, rfl, by first | exact .inl rfl | exact .inr rfl⟩ ?_ | (refine Tr.callG rfl h25 (by repeat (first | exact Has.nil | refine Has.cons (by repeat (first | exact .head _ | refine .tail _ ?_ | refine List.mem_append_right _ ?_)) ?_)) rfl ⟨_, rfl, rfl⟩ rfl ?_; rintro _ es2 hf2; obtain ⟨b2, pre2, sp2, rfl, rfl⟩ := hf2.row (n := n) hlen' (by omega))
    first | refine Tr.skp rfl ⟨_, _, rfl, rfl, by first | exact .inl rfl | exact .inr rfl⟩ ?_ | (refine Tr.call rfl (h24 b1 pre1.length (n + sp1.length) b2 pre2.length (n + sp2.length) _ _ ⟨pre1, sp1, rfl, rfl⟩ ⟨pre2, sp2, rfl, rfl⟩) (by repeat (first | exact Has.nil | refine Has.cons (by repeat (first | exact .head _ | refine .tail _ ?_ | refine List.mem_append_right _ ?_)) ?_)) rfl ⟨_, rfl, rfl⟩ rfl ?_)
    first | refine Tr.skp rfl ⟨_, _, rfl, rfl, by first | exact .inl rfl | exact .inr rfl⟩ ?_ | (refine Tr.not rfl rfl rfl ⟨_, rfl, rfl⟩ rfl ?_)
    first | refine Tr.pickT rfl rfl rfl trivial rfl ?_ | refine Tr.pickF rfl rfl rfl trivial rfl ?_
    refine Tr.nil ?_ (fun _ => rfl) (List.Perm.refl _)
    refine Wp.condF rfl ?_
    refine Wp.skip ?_
    refine Wp.seq ?_
    refine Wp.reg allGen ?_
    refine Tr.call rfl hst (by repeat (first | exact Has.nil | refine Has.cons (by repeat (first | exact .head _ | refine .tail _ ?_ | refine List.mem_append_right _ ?_)) ?_)) rfl trivial rfl ?_
    refine Tr.alloc tab rfl rfl trivial rfl (fun B5 _ => ?_)
    refine Tr.storeA tab rfl rfl rfl (by repeat (first | exact .here | apply MU.there | apply MU.app)) (by with_reducible exact hS2) (by exact hS2) (hone _) trivial rfl ?_
    refine Tr.nil ?_ (fun _ => rfl) (List.Perm.refl _)
    refine Wp.seq ?_
    refine Wp.reg allGen ?_
    refine Tr.call rfl hrn (by repeat (first | exact Has.nil | refine Has.cons (by repeat (first | exact .head _ | refine .tail _ ?_ | refine List.mem_append_right _ ?_)) ?_)) rfl trivial rfl ?_
    refine Tr.alloc tab rfl rfl trivial rfl (fun B6 _ => ?_)
    refine Tr.storeA tab rfl rfl rfl (by repeat (first | exact .here | apply MU.there | apply MU.app)) (by with_reducible exact hK2) (by exact hK2) (hone _) trivial rfl ?_
    refine Tr.nil ?_ (fun _ => rfl) (List.Perm.refl _)
    refine Wp.seq ?_
    refine Wp.reg allGen ?_
    refine Tr.callG rfl h28 (by repeat (first | exact Has.nil | refine Has.cons (by repeat (first | exact .head _ | refine .tail _ ?_ | refine List.mem_append_right _ ?_)) ?_)) rfl trivial rfl ?_
    rintro _ es hf
    obtain ⟨bx, prex, spx, rfl, rfl⟩ := hf.row (n := 8) hS' (by decide)
    refine Tr.assign rfl rfl trivial rfl ?_
    refine Tr.nil ?_ (fun _ => rfl) (List.Perm.refl _)
    refine Wp.seq ?_
    refine Wp.reg allGen ?_
    refine Tr.callG rfl h29 (by repeat (first | exact Has.nil | refine Has.cons (by repeat (first | exact .head _ | refine .tail _ ?_ | refine List.mem_append_right _ ?_)) ?_)) rfl trivial rfl ?_
    rintro _ es hf
    obtain ⟨by_, prey, spy, rfl, rfl⟩ := hf.row (n := 64) hK' (by decide)
    refine Tr.assign rfl rfl trivial rfl ?_
    refine Tr.nil ?_ (fun _ => rfl) (List.Perm.refl _)
    refine Wp.seq ?_
    refine Wp.seq ?_
    refine Wp.reg allGen ?_
    refine Tr.assign rfl rfl trivial rfl ?_
    refine Tr.nil ?_ (fun _ => rfl) (List.Perm.refl _)
    refine Wp.block ?_
    refine Wp.loopQ (const_loop rfl S K hS hK B5 B6 bx prex.length (8 + spx.length) by_ prey.length (64 + spy.length) _ _ ⟨prex, spx, rfl, rfl⟩ ⟨prey, spy, rfl, rfl⟩ 64 0 rfl) (Wk.mk (by repeat (first | exact ESub.nil | refine ESub.cons rfl (by first | rfl | (simp; done) | (simp; omega)) ?_)) (by repeat (first | exact MSub.nil | refine MSub.cons (by repeat (first | exact .here | apply Pick.there | apply Pick.append)) (by first | rfl | (simp; done)) ?_))) ?_
    rintro _ env1 mem1 rfl
    refine Wp.weak (env' := []) (mem' := []) ?_ (Wk.mk .nil .nil)
    refine Wp.seq ?_
    refine Wp.reg allGen ?_
    refine Tr.call rfl f23_awake (by repeat (first | exact Has.nil | refine Has.cons (by repeat (first | exact .head _ | refine .tail _ ?_ | refine List.mem_append_right _ ?_)) ?_)) rfl trivial rfl ?_
    refine Tr.assign rfl rfl trivial rfl ?_
    refine Tr.nil ?_ (fun _ => rfl) (List.Perm.refl _)
    refine Wp.ret ?_
    refine ⟨by first | exact .inl rfl | exact .inr rfl, ?_⟩
    exact .r1 rfl (RvIs.tmp rfl)

theorem f3_all (n : Int) : FnR Try.prog 3 [i64 n] [] (.bool true) := by
  by_cases h : n < 0 ∨ 100 < n
  · exact f3_bad n h
  · have := f3_good n.toNat (by omega)
    rwa [show ((n.toNat : Nat) : Int) = n by omega] at this
end Go.Proofs.Ytffghaeaohabhaa.AW
