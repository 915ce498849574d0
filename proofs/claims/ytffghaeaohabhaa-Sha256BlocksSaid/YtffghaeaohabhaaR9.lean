import Derived.Test.YtffghaeaohabhaaR8
import Derived.Test.YtffghaeaohabhaaS12
namespace Go.Proofs.Ytffghaeaohabhaa.AW
open Go NT
set_option maxRecDepth 100000
attribute [local irreducible] blockS

/-! ### Ints -/
def loop24 : Code := (Code.seq (Code.seq (Code.region 4 #[{ dst := (some 11), op := (Op.move (Operand.tmp 5)), type := 3, pos := "ref.go:70", after := #[], guard := none }, { dst := (some 12), op := (Op.move (Operand.tmp 0)), type := 22, pos := "ref.go:70", after := #[], guard := none }, { dst := (some 13), op := (Op.call { callee := (Callee.builtin Builtin.len), args := #[(Operand.tmp 12)], argTypes := #[22] }), type := 3, pos := "ref.go:70", after := #[{ on := 1, ground := Ground.data }], guard := none }, { dst := (some 14), op := (Op.binOp BinOp.lss 3 (Operand.tmp 11) (Operand.tmp 13) 3), type := 4, pos := "ref.go:70", after := #[{ on := 0, ground := Ground.data }, { on := 2, ground := Ground.data }], guard := none }] false) (Code.cond (Operand.tmp 14) Code.skip (Code.exit 0))) (Code.seq (Code.block 1 (Code.seq (Code.region 6 #[{ dst := (some 17), op := (Op.move (Operand.tmp 0)), type := 22, pos := "ref.go:71", after := #[], guard := none }, { dst := (some 18), op := (Op.move (Operand.tmp 5)), type := 3, pos := "ref.go:71", after := #[], guard := none }, { dst := (some 19), op := (Op.indexAddr 22 (Operand.tmp 17) (Operand.tmp 18)), type := 0, pos := "ref.go:71", after := #[{ on := 0, ground := Ground.data }, { on := 1, ground := Ground.data }], guard := none }, { dst := (some 20), op := (Op.load 3 (Operand.tmp 19)), type := 3, pos := "ref.go:71", after := #[{ on := 2, ground := Ground.data }], guard := none }, { dst := (some 21), op := (Op.move (Operand.tmp 1)), type := 22, pos := "ref.go:71", after := #[], guard := none }, { dst := (some 22), op := (Op.move (Operand.tmp 5)), type := 3, pos := "ref.go:71", after := #[], guard := none }, { dst := (some 23), op := (Op.indexAddr 22 (Operand.tmp 21) (Operand.tmp 22)), type := 0, pos := "ref.go:71", after := #[{ on := 4, ground := Ground.data }, { on := 5, ground := Ground.data }], guard := none }, { dst := (some 24), op := (Op.load 3 (Operand.tmp 23)), type := 3, pos := "ref.go:71", after := #[{ on := 6, ground := Ground.data }], guard := none }, { dst := (some 25), op := (Op.binOp BinOp.neq 3 (Operand.tmp 20) (Operand.tmp 24) 3), type := 4, pos := "ref.go:71", after := #[{ on := 3, ground := Ground.data }, { on := 7, ground := Ground.data }], guard := none }] true) (Code.cond (Operand.tmp 25) (Code.seq (Code.region 7 #[{ dst := (some 4), op := (Op.assign (Operand.const (Value.bool false))), type := 4, pos := "ref.go:72", after := #[], guard := none }] false) Code.ret) Code.skip))) (Code.region 5 #[{ dst := (some 15), op := (Op.move (Operand.tmp 5)), type := 3, pos := "ref.go:70", after := #[], guard := none }, { dst := (some 16), op := (Op.binOp BinOp.add 3 (Operand.tmp 15) (Operand.const (Value.int IntKind.i64 1)) 3), type := 3, pos := "ref.go:70", after := #[{ on := 0, ground := Ground.data }], guard := none }, { dst := (some 5), op := (Op.assign (Operand.tmp 16)), type := 3, pos := "ref.go:70", after := #[{ on := 1, ground := Ground.data }, { on := 0, ground := Ground.phase }, { on := 1, ground := Ground.phase }], guard := none }] false)))
theorem ints_loop {g : Gh} (hg : g.n = 26) (b off cp b' off' cp' n : Nat) (c c' : List Value) (r1 r2 : Bool) (hn : n ≤ 1000000) : ∀ (r : List Int) (k : Nat), k + r.length = n → At c (off + k) (iv r) → At c' (off' + k) (iv r) →
    WpL Try.prog g loop24 (fun e env mem => e = .exit 0) [(0, .slice (some ⟨b, off, none⟩) n cp), (1, .slice (some ⟨b', off', none⟩) n cp'), (5, i64 k)] [⟨b, c, r1⟩, ⟨b', c', r2⟩]
  | [], k, hk, hc, hc' => by
    obtain ⟨gn, w0, may⟩ := g
    obtain rfl : gn = 26 := hg
    simp only [List.length_nil] at hk
    refine WpL.step ?_
    refine Wp.seq ?_
    refine Wp.seq ?_
    refine Wp.reg allGen ?_
    refine Tr.move rfl rfl trivial rfl ?_
    refine Tr.move rfl rfl trivial rfl ?_
    refine Tr.lenS tab rfl rfl rfl rfl trivial rfl ?_
    refine Tr.lss rfl rfl (by first | with_reducible assumption | exact decide_eq_true (by omega) | exact decide_eq_false (by omega) | exact beq_iff_eq.2 (by omega) | exact beq_eq_false_iff_ne.2 (by omega) | exact bne_iff_ne.2 (by omega) | rfl) rfl trivial rfl ?_
    refine Tr.nil ?_ (fun _ => rfl) (List.Perm.refl _)
    refine Wp.condF rfl ?_
    refine Wp.exit ?_
    exact rfl
  | q :: r, k, hk, hc, hc' => by
    obtain ⟨gn, w0, may⟩ := g
    obtain rfl : gn = 26 := hg
    simp only [List.length_cons] at hk
    have hget : c[off + k]? = some (i64 q) := hc.head
    have hget' : c'[off' + k]? = some (i64 q) := hc'.head
    have hih := ints_loop (g := ⟨26, w0, may⟩) rfl b off cp b' off' cp' n c c' r1 r2 hn r (k + 1) (by omega) (by have := hc.tail; rwa [Nat.add_assoc] at this) (by have := hc'.tail; rwa [Nat.add_assoc] at this)
    refine WpL.step ?_
    refine Wp.seq ?_
    refine Wp.seq ?_
    refine Wp.reg allGen ?_
    refine Tr.move rfl rfl trivial rfl ?_
    refine Tr.move rfl rfl trivial rfl ?_
    refine Tr.lenS tab rfl rfl rfl rfl trivial rfl ?_
    refine Tr.lss rfl rfl (by first | with_reducible assumption | exact decide_eq_true (by omega) | exact decide_eq_false (by omega) | exact beq_iff_eq.2 (by omega) | exact beq_eq_false_iff_ne.2 (by omega) | exact bne_iff_ne.2 (by omega) | rfl) rfl trivial rfl ?_
    refine Tr.nil ?_ (fun _ => rfl) (List.Perm.refl _)
    refine Wp.condT rfl ?_
    refine Wp.skip ?_
    refine Wp.seq ?_
    refine Wp.block ?_
    refine Wp.seq ?_
    refine Wp.regE kindOf mo (by kernel_rfl) ?_
    refine Tr.move rfl rfl trivial rfl ?_
    refine Tr.move rfl rfl trivial rfl ?_
    first | refine Tr.indexAddrS01 tab rfl rfl rfl rfl rfl (by omega) (by omega) rfl trivial rfl ?_ | refine Tr.indexAddrS1 tab rfl rfl rfl rfl rfl (by omega) (by omega) rfl trivial rfl ?_
    refine Tr.loadS tab rfl rfl rfl (by repeat (first | exact .head _ | refine .tail _ ?_ | refine List.mem_append_right _ ?_)) (by first | rfl | with_reducible assumption | assumption | (simp; done)) rfl trivial rfl ?_
    refine Tr.move rfl rfl trivial rfl ?_
    refine Tr.move rfl rfl trivial rfl ?_
    first | refine Tr.indexAddrS01 tab rfl rfl rfl rfl rfl (by omega) (by omega) rfl trivial rfl ?_ | refine Tr.indexAddrS1 tab rfl rfl rfl rfl rfl (by omega) (by omega) rfl trivial rfl ?_
    refine Tr.loadS tab rfl rfl rfl (by repeat (first | exact .head _ | refine .tail _ ?_ | refine List.mem_append_right _ ?_)) (by first | rfl | with_reducible assumption | assumption | (simp; done)) rfl trivial rfl ?_
    refine Tr.neq (r := false) rfl rfl (by simp) rfl trivial rfl ?_
    refine Tr.nil ?_ (fun _ => rfl) (List.Perm.refl _)
    refine Wp.condF rfl ?_
    refine Wp.skip ?_
    refine Wp.reg allGen ?_
    refine Tr.move rfl rfl trivial rfl ?_
    refine Tr.add rfl rfl (by first | exact wrap_i64 (by omega) (by omega) | rfl) rfl trivial rfl ?_
    refine Tr.assign rfl rfl trivial rfl ?_
    refine Tr.nil ?_ (fun _ => rfl) (List.Perm.refl _)
    exact WpL.weak hih (Wk.mk (by repeat (first | exact ESub.nil | refine ESub.cons rfl (by first | rfl | (simp; done) | (simp; omega)) ?_)) (by repeat (first | exact MSub.nil | refine MSub.cons (by repeat (first | exact .here | apply Pick.there | apply Pick.append)) (by first | rfl | (simp; done)) ?_)))

theorem f24_same (l : List Int) (hl : l.length ≤ 1000000) (b off cp b' off' cp' : Nat) (c c' : List Value) (hc : At c off (iv l)) (hc' : At c' off' (iv l)) :
    FnR Try.prog 24 [.slice (some ⟨b, off, none⟩) l.length cp, .slice (some ⟨b', off', none⟩) l.length cp'] [⟨b, c, false⟩, ⟨b', c', false⟩] (.bool true) := by
  refine fnR_of 26 rfl Try.func24 rfl (by kernel_rfl) rfl (by simp) fun w => ?_
  refine Wp.seq ?_
  refine Wp.reg allGen ?_
  refine Tr.assign rfl rfl trivial rfl ?_
  refine Tr.nil ?_ (fun _ => rfl) (List.Perm.refl _)
  refine Wp.seq ?_
  refine Wp.seq ?_
  refine Wp.reg allGen ?_
  refine Tr.move rfl rfl trivial rfl ?_
  refine Tr.lenS tab rfl rfl rfl rfl trivial rfl ?_
  refine Tr.move rfl rfl trivial rfl ?_
  refine Tr.lenS tab rfl rfl rfl rfl trivial rfl ?_
  refine Tr.neq (r := false) rfl rfl (by simp) rfl trivial rfl ?_
  refine Tr.nil ?_ (fun _ => rfl) (List.Perm.refl _)
  refine Wp.condF rfl ?_
  refine Wp.skip ?_
  refine Wp.seq ?_
  refine Wp.seq ?_
  refine Wp.reg allGen ?_
  refine Tr.assign rfl rfl trivial rfl ?_
  refine Tr.nil ?_ (fun _ => rfl) (List.Perm.refl _)
  refine Wp.block ?_
  refine Wp.loopQ (ints_loop rfl b off cp b' off' cp' l.length c c' false false hl l 0 (by simp) hc hc') (Wk.mk (by repeat (first | exact ESub.nil | refine ESub.cons rfl (by first | rfl | (simp; done) | (simp; omega)) ?_)) (by repeat (first | exact MSub.nil | refine MSub.cons (by repeat (first | exact .here | apply Pick.there | apply Pick.append)) (by first | rfl | (simp; done)) ?_))) ?_
  rintro _ env1 mem1 rfl
  refine Wp.weak (env' := []) (mem' := []) ?_ (Wk.mk .nil .nil)
  refine Wp.seq ?_
  refine Wp.reg allGen ?_
  refine Tr.assign rfl rfl trivial rfl ?_
  refine Tr.nil ?_ (fun _ => rfl) (List.Perm.refl _)
  refine Wp.ret ?_
  refine ⟨by first | exact .inl rfl | exact .inr rfl, ?_⟩
  exact .r1 rfl (RvIs.tmp rfl)

theorem f24_zero (a a' : Option Addr) (c c' : Nat) : FnR Try.prog 24 [.slice a 0 c, .slice a' 0 c'] [] (.bool true) := by
  refine fnR_of 26 rfl Try.func24 rfl (by kernel_rfl) rfl (by simp) fun w => ?_
  refine Wp.seq ?_
  refine Wp.reg allGen ?_
  refine Tr.assign rfl rfl trivial rfl ?_
  refine Tr.nil ?_ (fun _ => rfl) (List.Perm.refl _)
  refine Wp.seq ?_
  refine Wp.seq ?_
  refine Wp.reg allGen ?_
  refine Tr.move rfl rfl trivial rfl ?_
  refine Tr.lenS tab rfl rfl rfl rfl trivial rfl ?_
  refine Tr.move rfl rfl trivial rfl ?_
  refine Tr.lenS tab rfl rfl rfl rfl trivial rfl ?_
  refine Tr.neq rfl rfl (by first | with_reducible assumption | exact decide_eq_true (by omega) | exact decide_eq_false (by omega) | exact beq_iff_eq.2 (by omega) | exact beq_eq_false_iff_ne.2 (by omega) | exact bne_iff_ne.2 (by omega) | rfl) rfl trivial rfl ?_
  refine Tr.nil ?_ (fun _ => rfl) (List.Perm.refl _)
  refine Wp.condF rfl ?_
  refine Wp.skip ?_
  refine Wp.seq ?_
  refine Wp.seq ?_
  refine Wp.reg allGen ?_
  refine Tr.assign rfl rfl trivial rfl ?_
  refine Tr.nil ?_ (fun _ => rfl) (List.Perm.refl _)
  refine Wp.block ?_
  refine Wp.loopL ?_
  refine WpL.step ?_
  refine Wp.seq ?_
  refine Wp.seq ?_
  refine Wp.reg allGen ?_
  refine Tr.move rfl rfl trivial rfl ?_
  refine Tr.move rfl rfl trivial rfl ?_
  refine Tr.lenS tab rfl rfl rfl rfl trivial rfl ?_
  refine Tr.lss rfl rfl (by first | with_reducible assumption | exact decide_eq_true (by omega) | exact decide_eq_false (by omega) | exact beq_iff_eq.2 (by omega) | exact beq_eq_false_iff_ne.2 (by omega) | exact bne_iff_ne.2 (by omega) | rfl) rfl trivial rfl ?_
  refine Tr.nil ?_ (fun _ => rfl) (List.Perm.refl _)
  refine Wp.condF rfl ?_
  refine Wp.exit ?_
  refine Wp.seq ?_
  refine Wp.reg allGen ?_
  refine Tr.assign rfl rfl trivial rfl ?_
  refine Tr.nil ?_ (fun _ => rfl) (List.Perm.refl _)
  refine Wp.ret ?_
  refine ⟨by first | exact .inl rfl | exact .inr rfl, ?_⟩
  exact .r1 rfl (RvIs.tmp rfl)

/-! ### Sum -/
def loop31a : Code := (Code.seq (Code.seq (Code.region 5 #[{ dst := (some 14), op := (Op.move (Operand.tmp 6)), type := 3, pos := "ref.go:214", after := #[], guard := none }, { dst := (some 15), op := (Op.move (Operand.tmp 3)), type := 36, pos := "ref.go:214", after := #[], guard := none }, { dst := (some 16), op := (Op.call { callee := (Callee.builtin Builtin.len), args := #[(Operand.tmp 15)], argTypes := #[36] }), type := 3, pos := "ref.go:214", after := #[{ on := 1, ground := Ground.data }], guard := none }, { dst := (some 17), op := (Op.binOp BinOp.lss 3 (Operand.tmp 14) (Operand.tmp 16) 3), type := 4, pos := "ref.go:214", after := #[{ on := 0, ground := Ground.data }, { on := 2, ground := Ground.data }], guard := none }] false) (Code.cond (Operand.tmp 17) Code.skip (Code.exit 0))) (Code.seq (Code.block 1 (Code.region 7 #[{ dst := (some 20), op := (Op.move (Operand.tmp 4)), type := 22, pos := "ref.go:215", after := #[], guard := none }, { dst := (some 21), op := (Op.move (Operand.tmp 5)), type := 22, pos := "ref.go:215", after := #[], guard := none }, { dst := (some 22), op := (Op.move (Operand.tmp 3)), type := 36, pos := "ref.go:215", after := #[], guard := none }, { dst := (some 23), op := (Op.move (Operand.tmp 6)), type := 3, pos := "ref.go:215", after := #[], guard := none }, { dst := (some 24), op := (Op.move (Operand.tmp 6)), type := 3, pos := "ref.go:215", after := #[], guard := none }, { dst := (some 25), op := (Op.binOp BinOp.add 3 (Operand.tmp 24) (Operand.const (Value.int IntKind.i64 64)) 3), type := 3, pos := "ref.go:215", after := #[{ on := 4, ground := Ground.data }], guard := none }, { dst := (some 26), op := (Op.slice 36 (Operand.tmp 22) (some (Operand.tmp 23)) (some (Operand.tmp 25)) none), type := 36, pos := "ref.go:215", after := #[{ on := 2, ground := Ground.data }, { on := 3, ground := Ground.data }, { on := 5, ground := Ground.data }], guard := none }, { dst := (some 27), op := (Op.call { callee := (Callee.value (Operand.func 38)), args := #[(Operand.tmp 20), (Operand.tmp 21), (Operand.tmp 26)], argTypes := #[22, 22, 36] }), type := 22, pos := "ref.go:215", after := #[{ on := 0, ground := Ground.data }, { on := 1, ground := Ground.data }, { on := 6, ground := Ground.data }], guard := none }, { dst := (some 5), op := (Op.assign (Operand.tmp 27)), type := 22, pos := "ref.go:215", after := #[{ on := 7, ground := Ground.data }, { on := 7, ground := Ground.chain }, { on := 0, ground := Ground.phase }, { on := 1, ground := Ground.phase }, { on := 2, ground := Ground.phase }, { on := 3, ground := Ground.phase }, { on := 4, ground := Ground.phase }, { on := 5, ground := Ground.phase }, { on := 6, ground := Ground.phase }, { on := 7, ground := Ground.phase }], guard := none }] false)) (Code.region 6 #[{ dst := (some 18), op := (Op.move (Operand.tmp 6)), type := 3, pos := "ref.go:214", after := #[], guard := none }, { dst := (some 19), op := (Op.binOp BinOp.add 3 (Operand.tmp 18) (Operand.const (Value.int IntKind.i64 64)) 3), type := 3, pos := "ref.go:214", after := #[{ on := 0, ground := Ground.data }], guard := none }, { dst := (some 6), op := (Op.assign (Operand.tmp 19)), type := 3, pos := "ref.go:214", after := #[{ on := 1, ground := Ground.data }, { on := 0, ground := Ground.phase }, { on := 1, ground := Ground.phase }], guard := none }] false)))
def loop31b : Code := (Code.seq (Code.seq (Code.region 10 #[{ dst := (some 28), op := (Op.move (Operand.tmp 8)), type := 3, pos := "ref.go:218", after := #[], guard := none }, { dst := (some 29), op := (Op.binOp BinOp.lss 3 (Operand.tmp 28) (Operand.const (Value.int IntKind.i64 8)) 3), type := 4, pos := "ref.go:218", after := #[{ on := 0, ground := Ground.data }], guard := none }] false) (Code.cond (Operand.tmp 29) Code.skip (Code.exit 2))) (Code.seq (Code.block 3 (Code.seq (Code.region 12 #[{ dst := (some 9), op := (Op.assign (Operand.const (Value.int IntKind.i64 3))), type := 3, pos := "ref.go:219", after := #[], guard := none }] false) (Code.block 4 (Code.loop (Code.seq (Code.seq (Code.region 13 #[{ dst := (some 32), op := (Op.move (Operand.tmp 9)), type := 3, pos := "ref.go:219", after := #[], guard := none }, { dst := (some 33), op := (Op.binOp BinOp.geq 3 (Operand.tmp 32) (Operand.const (Value.int IntKind.i64 0)) 3), type := 4, pos := "ref.go:219", after := #[{ on := 0, ground := Ground.data }], guard := none }] false) (Code.cond (Operand.tmp 33) Code.skip (Code.exit 4))) (Code.seq (Code.block 5 (Code.region 15 #[{ dst := (some 36), op := (Op.move (Operand.tmp 7)), type := 36, pos := "ref.go:220", after := #[], guard := none }, { dst := (some 37), op := (Op.move (Operand.tmp 5)), type := 22, pos := "ref.go:220", after := #[], guard := none }, { dst := (some 38), op := (Op.move (Operand.tmp 8)), type := 3, pos := "ref.go:220", after := #[], guard := none }, { dst := (some 39), op := (Op.indexAddr 22 (Operand.tmp 37) (Operand.tmp 38)), type := 0, pos := "ref.go:220", after := #[{ on := 1, ground := Ground.data }, { on := 2, ground := Ground.data }], guard := none }, { dst := (some 40), op := (Op.load 3 (Operand.tmp 39)), type := 3, pos := "ref.go:220", after := #[{ on := 3, ground := Ground.data }], guard := none }, { dst := (some 41), op := (Op.move (Operand.tmp 9)), type := 3, pos := "ref.go:220", after := #[], guard := none }, { dst := (some 42), op := (Op.binOp BinOp.mul 3 (Operand.const (Value.int IntKind.i64 8)) (Operand.tmp 41) 3), type := 3, pos := "ref.go:220", after := #[{ on := 5, ground := Ground.data }], guard := none }, { dst := (some 43), op := (Op.call { callee := (Callee.value (Operand.func 69)), args := #[(Operand.tmp 42)], argTypes := #[3] }), type := 3, pos := "ref.go:220", after := #[{ on := 6, ground := Ground.data }], guard := none }, { dst := (some 44), op := (Op.binOp BinOp.quo 3 (Operand.tmp 40) (Operand.tmp 43) 3), type := 3, pos := "ref.go:220", after := #[{ on := 4, ground := Ground.data }, { on := 7, ground := Ground.data }], guard := none }, { dst := (some 45), op := (Op.binOp BinOp.rem 3 (Operand.tmp 44) (Operand.const (Value.int IntKind.i64 256)) 3), type := 3, pos := "ref.go:220", after := #[{ on := 8, ground := Ground.data }], guard := none }, { dst := (some 46), op := (Op.convert 3 5 (Operand.tmp 45)), type := 5, pos := "ref.go:220", after := #[{ on := 9, ground := Ground.data }], guard := none }, { dst := (some 47), op := (Op.buildSlice 36 1 #[(0, (Operand.tmp 46))]), type := 36, pos := "ref.go:220", after := #[{ on := 10, ground := Ground.data }], guard := none }, { dst := (some 48), op := (Op.call { callee := (Callee.builtin Builtin.append), args := #[(Operand.tmp 36), (Operand.tmp 47)], argTypes := #[36, 36] }), type := 36, pos := "ref.go:220", after := #[{ on := 0, ground := Ground.data }, { on := 11, ground := Ground.data }, { on := 7, ground := Ground.chain }], guard := none }, { dst := (some 7), op := (Op.assign (Operand.tmp 48)), type := 36, pos := "ref.go:220", after := #[{ on := 12, ground := Ground.data }, { on := 12, ground := Ground.chain }, { on := 0, ground := Ground.phase }, { on := 1, ground := Ground.phase }, { on := 2, ground := Ground.phase }, { on := 3, ground := Ground.phase }, { on := 4, ground := Ground.phase }, { on := 5, ground := Ground.phase }, { on := 6, ground := Ground.phase }, { on := 7, ground := Ground.phase }, { on := 8, ground := Ground.phase }, { on := 9, ground := Ground.phase }, { on := 10, ground := Ground.phase }, { on := 11, ground := Ground.phase }, { on := 12, ground := Ground.phase }], guard := none }] true)) (Code.region 14 #[{ dst := (some 34), op := (Op.move (Operand.tmp 9)), type := 3, pos := "ref.go:219", after := #[], guard := none }, { dst := (some 35), op := (Op.binOp BinOp.sub 3 (Operand.tmp 34) (Operand.const (Value.int IntKind.i64 1)) 3), type := 3, pos := "ref.go:219", after := #[{ on := 0, ground := Ground.data }], guard := none }, { dst := (some 9), op := (Op.assign (Operand.tmp 35)), type := 3, pos := "ref.go:219", after := #[{ on := 1, ground := Ground.data }, { on := 0, ground := Ground.phase }, { on := 1, ground := Ground.phase }], guard := none }] false))))))) (Code.region 11 #[{ dst := (some 30), op := (Op.move (Operand.tmp 8)), type := 3, pos := "ref.go:218", after := #[], guard := none }, { dst := (some 31), op := (Op.binOp BinOp.add 3 (Operand.tmp 30) (Operand.const (Value.int IntKind.i64 1)) 3), type := 3, pos := "ref.go:218", after := #[{ on := 0, ground := Ground.data }], guard := none }, { dst := (some 8), op := (Op.assign (Operand.tmp 31)), type := 3, pos := "ref.go:218", after := #[{ on := 1, ground := Ground.data }, { on := 0, ground := Ground.phase }, { on := 1, ground := Ground.phase }], guard := none }] false)))

theorem rsum_loop1 {g : Gh} (hg : g.n = 50) (K : List UInt32) (hK : K.length = 64) (s0 : W8) (L : List UInt8) (N : Nat) (hL : L.length = 64 * N) (hN : N ≤ 1000000) (bL oL cL bK oK cK' : Nat) (cl ck : List Value) (hcL : At cl oL (u8s L)) (hcL2 : L.length ≤ cL) (hcK : At ck oK (w32s K)) :
    ∀ (r k : Nat), k + r = N → ∀ (b off cp : Nat) (c : List Value), At c off (w32s (blocksS K k s0 L).l) →
    WpL Try.prog g loop31a (fun e env mem => e = .exit 0 ∧ ∃ b off cp c, At c off (w32s (blocksS K N s0 L).l) ∧ Wk g env mem [(5, .slice (some ⟨b, off, none⟩) 8 cp)] [⟨b, c, true⟩])
      [(3, .slice (some ⟨bL, oL, none⟩) L.length cL), (4, .slice (some ⟨bK, oK, none⟩) 64 cK'), (5, .slice (some ⟨b, off, none⟩) 8 cp), (6, i64 (64 * (k : Int)))]
      [⟨b, c, true⟩, ⟨bK, ck, true⟩, ⟨bL, cl, true⟩] := by
  obtain ⟨gn, w0, may⟩ := g
  obtain rfl : gn = 50 := hg
  intro r
  induction r with
  | zero =>
    intro k hk b off cp c hc
    obtain rfl : k = N := by omega
    refine WpL.step ?_
    refine Wp.seq ?_
    refine Wp.seq ?_
    refine Wp.reg allGen ?_
    refine Tr.move rfl rfl trivial rfl ?_
    refine Tr.move rfl rfl trivial rfl ?_
    refine Tr.lenS tab rfl rfl rfl rfl trivial rfl ?_
    refine Tr.lss rfl rfl (by first | with_reducible assumption | exact decide_eq_true (by omega) | exact decide_eq_false (by omega) | exact beq_iff_eq.2 (by omega) | exact beq_eq_false_iff_ne.2 (by omega) | exact bne_iff_ne.2 (by omega) | rfl) rfl trivial rfl ?_
    refine Tr.nil ?_ (fun _ => rfl) (List.Perm.refl _)
    refine Wp.condF rfl ?_
    refine Wp.exit ?_
    exact ⟨rfl, b, off, cp, c, hc, Wk.mk (by repeat (first | exact ESub.nil | refine ESub.cons rfl (by first | rfl | (simp; done) | (simp; omega)) ?_)) (by repeat (first | exact MSub.nil | refine MSub.cons (by repeat (first | exact .here | apply Pick.there | apply Pick.append)) (by first | rfl | (simp; done)) ?_))⟩
  | succ r ih =>
    intro k hk b off cp c hc
    have hih := ih (k + 1) (by omega)
    have hd : ((L.drop (64 * k)).take 64).length = 64 := by simp; omega
    have hstep : blocksS K (k + 1) s0 L = blockS K (blocksS K k s0 L) ((L.drop (64 * k)).take 64) := by
      rw [blocksS_add, blocksS_succ, blocksS_zero]
    rw [hstep] at hih
    generalize blocksS K k s0 L = s at hih hc
    have hl29 : (64 * (k : Int) + 64).toNat - (64 * (k : Int)).toNat = 64 := by omega
    have hB : At cl (oL + 64 * k) (u8s ((L.drop (64 * k)).take 64)) := by
      obtain ⟨pre, sp, e1, e2⟩ := hcL
      refine ⟨pre ++ u8s (L.take (64 * k)), u8s ((L.drop (64 * k)).drop 64) ++ sp, ?_, by simp [e2]; omega⟩
      have e : L = L.take (64 * k) ++ ((L.drop (64 * k)).take 64 ++ (L.drop (64 * k)).drop 64) := by simp only [List.take_append_drop]
      have e2 : u8s L = u8s (L.take (64 * k)) ++ (u8s ((L.drop (64 * k)).take 64) ++ u8s ((L.drop (64 * k)).drop 64)) := by
        rw [← List.map_append, ← List.map_append, ← e]
      rw [e1, e2]
      simp only [List.append_assoc]
    have hblk := fun cp2 => f38_block K hK s ((L.drop (64 * k)).take 64) hd bK oK cK' b off cp bL (oL + 64 * k) cp2 ck c cl hcK hc hB
    generalize blockS K s ((L.drop (64 * k)).take 64) = s' at hih hblk
    have h5 : (64 * (k : Int) + 64) = 64 * ((k + 1 : Nat) : Int) := by omega
    have hoff : (if cL = (64 * (k : Int)).toNat then oL else oL + (64 * (k : Int)).toNat) = oL + 64 * k := by
      rw [if_neg (by omega)]; omega
    refine WpL.step ?_
    refine Wp.seq ?_
    refine Wp.seq ?_
    refine Wp.reg allGen ?_
    refine Tr.move rfl rfl trivial rfl ?_
    refine Tr.move rfl rfl trivial rfl ?_
    refine Tr.lenS tab rfl rfl rfl rfl trivial rfl ?_
    refine Tr.lss rfl rfl (by first | with_reducible assumption | exact decide_eq_true (by omega) | exact decide_eq_false (by omega) | exact beq_iff_eq.2 (by omega) | exact beq_eq_false_iff_ne.2 (by omega) | exact bne_iff_ne.2 (by omega) | rfl) rfl trivial rfl ?_
    refine Tr.nil ?_ (fun _ => rfl) (List.Perm.refl _)
    refine Wp.condT rfl ?_
    refine Wp.skip ?_
    refine Wp.seq ?_
    refine Wp.block ?_
    refine Wp.reg allGen ?_
    refine Tr.move rfl rfl trivial rfl ?_
    refine Tr.move rfl rfl trivial rfl ?_
    refine Tr.move rfl rfl trivial rfl ?_
    refine Tr.move rfl rfl trivial rfl ?_
    refine Tr.move rfl rfl trivial rfl ?_
    refine Tr.add rfl rfl (by first | exact wrap_i64 (by omega) (by omega) | rfl) rfl trivial rfl ?_
    refine Tr.sliceLH (off' := oL + 64 * k) tab rfl rfl rfl rfl rfl rfl (by omega) (by omega) (by omega) hoff rfl trivial rfl ?_; rw [hl29]
    refine Tr.callG rfl (hblk _) (by repeat (first | exact Has.nil | refine Has.cons (by repeat (first | exact .head _ | refine .tail _ ?_ | refine List.mem_append_right _ ?_)) ?_)) rfl trivial rfl ?_
    rintro _ es hf
    obtain ⟨b1, pre1, sp1, rfl, rfl⟩ := hf.row (n := 8) rfl (by decide)
    refine Tr.assign rfl rfl trivial rfl ?_
    refine Tr.nil ?_ (fun _ => rfl) (List.Perm.refl _)
    refine Wp.reg allGen ?_
    refine Tr.move rfl rfl trivial rfl ?_
    refine Tr.add rfl rfl (by first | exact wrap_i64 (by omega) (by omega) | rfl) rfl trivial rfl ?_
    refine Tr.assign rfl rfl trivial rfl ?_
    refine Tr.nil ?_ (fun _ => rfl) (List.Perm.refl _)
    rw [h5]
    exact WpL.weak (hih b1 pre1.length _ _ ⟨pre1, sp1, rfl, rfl⟩) (Wk.mk (by repeat (first | exact ESub.nil | refine ESub.cons rfl (by first | rfl | (simp; done) | (simp; omega)) ?_)) (by repeat (first | exact MSub.nil | refine MSub.cons (by repeat (first | exact .here | apply Pick.there | apply Pick.append)) (by first | rfl | (simp; done)) ?_)))

theorem be4_step (s : W8) (i : Nat) (hi : i < 8) : s.bytes.take (4 * (i + 1)) = s.bytes.take (4 * i) ++ [((s.l.getD i 0) >>> UInt32.ofNat 24).toUInt8] ++ [((s.l.getD i 0) >>> UInt32.ofNat 16).toUInt8] ++ [((s.l.getD i 0) >>> UInt32.ofNat 8).toUInt8] ++ [((s.l.getD i 0) >>> UInt32.ofNat 0).toUInt8] := by
  match i, hi with
  | 0, _ => rfl
  | 1, _ => rfl
  | 2, _ => rfl
  | 3, _ => rfl
  | 4, _ => rfl
  | 5, _ => rfl
  | 6, _ => rfl
  | 7, _ => rfl
  | n + 8, h => omega

theorem byte_of_word (x : UInt32) (n : Nat) (hn : n < 32) : ((x.toNat / 2 ^ n : Nat) : Int).tmod 256 = (((x >>> UInt32.ofNat n).toUInt8).toNat : Int) := by
  rw [show ((x.toNat / 2 ^ n : Nat) : Int).tmod 256 = ((x.toNat / 2 ^ n % 256 : Nat) : Int) from tmodN _ 256]
  congr 1
  show _ = (x >>> UInt32.ofNat n).toNat % 256
  rw [UInt32.toNat_shiftRight, ofNat32 hn, Nat.shiftRight_eq_div_pow]

theorem word_quo (x : UInt32) (n : Nat) : IntKind.i64.wrap ((x.toNat : Int).tdiv ((2 ^ n : Nat) : Int)) = ((x.toNat / 2 ^ n : Nat) : Int) := by
  rw [tdivN]
  have := x.toNat_lt
  have := Nat.div_le_self x.toNat (2 ^ n)
  generalize x.toNat / 2 ^ n = q at *
  exact wrap_i64 (by omega) (by omega)

theorem rsum_loop2 {g : Gh} (hg : g.n = 50) (s : W8) (b off cp : Nat) (c : List Value) (hc : At c off (w32s s.l)) : ∀ (r i : Nat), i + r = 8 → ∀ (v : Value) (es : List Ent), Fresh (u8s (s.bytes.take (4 * i))) v es →
    WpL Try.prog g loop31b (fun e env mem => e = .exit 2 ∧ ∃ v es, Fresh (u8s s.bytes) v es ∧ Wk g env mem [(7, v)] es)
      [(5, .slice (some ⟨b, off, none⟩) 8 cp), (7, v), (8, i64 i)] (es ++ [⟨b, c, true⟩]) := by
  obtain ⟨gn, w0, may⟩ := g
  obtain rfl : gn = 50 := hg
  have hbl : s.bytes.length = 32 := by unfold W8.bytes; rfl
  intro r
  induction r with
  | zero =>
    intro i hi v es hf
    obtain rfl : i = 8 := by omega
    rw [List.take_of_length_le (by omega)] at hf
    refine WpL.step ?_
    refine Wp.seq ?_
    refine Wp.seq ?_
    refine Wp.reg allGen ?_
    refine Tr.move rfl rfl trivial rfl ?_
    refine Tr.lss rfl rfl (by first | with_reducible assumption | exact decide_eq_true (by omega) | exact decide_eq_false (by omega) | exact beq_iff_eq.2 (by omega) | exact beq_eq_false_iff_ne.2 (by omega) | exact bne_iff_ne.2 (by omega) | rfl) rfl trivial rfl ?_
    refine Tr.nil ?_ (fun _ => rfl) (List.Perm.refl _)
    refine Wp.condF rfl ?_
    refine Wp.exit ?_
    exact ⟨rfl, v, es, hf, ⟨fun a ha => EH.sub (ESub.sub (by repeat (first | exact ESub.nil | refine ESub.cons rfl (by first | rfl | (simp; done) | (simp; omega)) ?_))) a ha, MH.sub (MSub.left _ _)⟩⟩
  | succ r ih =>
    intro i hi v es hf0
    have hih := ih (i + 1) (by omega)
    rw [be4_step s i (by omega), u8s_app, u8s_app, u8s_app, u8s_app] at hih
    have hlt : i < s.l.length := by show i < 8; omega
    have g0 := at_get w32 hc 0 (j := i) hlt (k := (i : Int)) rfl
    have hl : (u8s (s.bytes.take (4 * i))).length ≤ 32 := by simp; omega
    generalize s.l.getD i 0 = x at *
    have hp3 := f69_power 24 (by decide)
    have hp2 := f69_power 16 (by decide)
    have hp1 := f69_power 8 (by decide)
    have hp0 := f69_power 0 (by decide)
    have hq3 := word_quo x 24
    have hq2 := word_quo x 16
    have hq1 := word_quo x 8
    have hq0 := word_quo x 0
    have hr3 := byte_of_word x 24 (by decide)
    have hr2 := byte_of_word x 16 (by decide)
    have hr1 := byte_of_word x 8 (by decide)
    have hr0 := byte_of_word x 0 (by decide)
    have hfO := hf0
    refine WpL.step ?_
    refine Wp.seq ?_
    refine Wp.seq ?_
    refine Wp.reg allGen ?_
    refine Tr.move rfl rfl trivial rfl ?_
    refine Tr.lss rfl rfl (by first | with_reducible assumption | exact decide_eq_true (by omega) | exact decide_eq_false (by omega) | exact beq_iff_eq.2 (by omega) | exact beq_eq_false_iff_ne.2 (by omega) | exact bne_iff_ne.2 (by omega) | rfl) rfl trivial rfl ?_
    refine Tr.nil ?_ (fun _ => rfl) (List.Perm.refl _)
    refine Wp.condT rfl ?_
    refine Wp.skip ?_
    refine Wp.seq ?_
    refine Wp.block ?_
    refine Wp.seq ?_
    refine Wp.reg allGen ?_
    refine Tr.assign rfl rfl trivial rfl ?_
    refine Tr.nil ?_ (fun _ => rfl) (List.Perm.refl _)
    refine Wp.block ?_
    refine Wp.loopL ?_
    refine WpL.step ?_
    refine Wp.seq ?_
    refine Wp.seq ?_
    refine Wp.reg allGen ?_
    refine Tr.move rfl rfl trivial rfl ?_
    refine Tr.geq rfl rfl (by first | with_reducible assumption | exact decide_eq_true (by omega) | exact decide_eq_false (by omega) | exact beq_iff_eq.2 (by omega) | exact beq_eq_false_iff_ne.2 (by omega) | exact bne_iff_ne.2 (by omega) | rfl) rfl trivial rfl ?_
    refine Tr.nil ?_ (fun _ => rfl) (List.Perm.refl _)
    refine Wp.condT rfl ?_
    refine Wp.skip ?_
    refine Wp.seq ?_
    refine Wp.block ?_
    refine Wp.regE kindOf mo (by kernel_rfl) ?_
    refine Tr.move rfl rfl trivial rfl ?_
    refine Tr.move rfl rfl trivial rfl ?_
    refine Tr.move rfl rfl trivial rfl ?_
    first | refine Tr.indexAddrS01 tab rfl rfl rfl rfl rfl (by omega) (by omega) rfl trivial rfl ?_ | refine Tr.indexAddrS1 tab rfl rfl rfl rfl rfl (by omega) (by omega) rfl trivial rfl ?_
    refine Tr.loadS tab rfl rfl rfl (by repeat (first | exact .head _ | refine .tail _ ?_ | refine List.mem_append_right _ ?_)) (by first | rfl | with_reducible assumption | assumption | (simp; done)) rfl trivial rfl ?_
    refine Tr.move rfl rfl trivial rfl ?_
    refine Tr.mul rfl rfl (by first | exact wrap_i64 (by omega) (by omega) | rfl) rfl trivial rfl ?_
    refine Tr.call (vs := [i64 ((24 : Nat) : Int)]) rfl hp3 (by repeat (first | exact Has.nil | refine Has.cons (by repeat (first | exact .head _ | refine .tail _ ?_ | refine List.mem_append_right _ ?_)) ?_)) rfl trivial rfl ?_
    first | refine Tr.quo rfl rfl (by decide) hq3 rfl trivial rfl ?_ | refine Tr.quo rfl rfl (by decide) hq2 rfl trivial rfl ?_ | refine Tr.quo rfl rfl (by decide) hq1 rfl trivial rfl ?_ | refine Tr.quo rfl rfl (by decide) hq0 rfl trivial rfl ?_
    first | refine Tr.rem rfl rfl (by omega) hr3 rfl trivial rfl ?_ | refine Tr.rem rfl rfl (by omega) hr2 rfl trivial rfl ?_ | refine Tr.rem rfl rfl (by omega) hr1 rfl trivial rfl ?_ | refine Tr.rem rfl rfl (by omega) hr0 rfl trivial rfl ?_
    refine Tr.conv tab rfl rfl rfl rfl (u8_wrap _) rfl trivial rfl ?_
    refine Tr.buildSlice tab rfl rfl rfl rfl rfl rfl (by simp [fillC, splice, vcells, Value.cells, zrep_one]; rfl) rfl trivial rfl (fun _ _ => ?_)
    refine Tr.appendF tab rfl hfO (by repeat (first | exact Take.app _ _ | exact Take.self _ | exact Take.nil | apply Take.skip)) rfl (SrcOf.row (by repeat (first | exact .head _ | refine .tail _ ?_ | refine List.mem_append_right _ ?_)) (by first | exact At.all _ | with_reducible assumption | assumption) (by first | with_reducible rfl | with_reducible assumption | (simp; done) | (simp; omega) | rfl)) (by first | with_reducible assumption | rfl | (simp [Value.oneCell']; done)) rfl rfl rfl rfl (by simp) (by decide) (by simp; omega) rfl trivial rfl (fun vO esO hfO => ?_)
    refine Tr.assign rfl rfl trivial rfl ?_
    refine Tr.nil ?_ (fun _ => rfl) (List.Perm.refl _)
    refine Wp.reg allGen ?_
    refine Tr.move rfl rfl trivial rfl ?_
    refine Tr.sub rfl rfl (by first | exact wrap_i64 (by omega) (by omega) | rfl) rfl trivial rfl ?_
    refine Tr.assign rfl rfl trivial rfl ?_
    refine Tr.nil ?_ (fun _ => rfl) (List.Perm.refl _)
    refine WpL.step ?_
    refine Wp.seq ?_
    refine Wp.seq ?_
    refine Wp.reg allGen ?_
    refine Tr.move rfl rfl trivial rfl ?_
    refine Tr.geq rfl rfl (by first | with_reducible assumption | exact decide_eq_true (by omega) | exact decide_eq_false (by omega) | exact beq_iff_eq.2 (by omega) | exact beq_eq_false_iff_ne.2 (by omega) | exact bne_iff_ne.2 (by omega) | rfl) rfl trivial rfl ?_
    refine Tr.nil ?_ (fun _ => rfl) (List.Perm.refl _)
    refine Wp.condT rfl ?_
    refine Wp.skip ?_
    refine Wp.seq ?_
    refine Wp.block ?_
    refine Wp.regE kindOf mo (by kernel_rfl) ?_
    refine Tr.move rfl rfl trivial rfl ?_
    refine Tr.move rfl rfl trivial rfl ?_
    refine Tr.move rfl rfl trivial rfl ?_
    first | refine Tr.indexAddrS01 tab rfl rfl rfl rfl rfl (by omega) (by omega) rfl trivial rfl ?_ | refine Tr.indexAddrS1 tab rfl rfl rfl rfl rfl (by omega) (by omega) rfl trivial rfl ?_
    refine Tr.loadS tab rfl rfl rfl (by repeat (first | exact .head _ | refine .tail _ ?_ | refine List.mem_append_right _ ?_)) (by first | rfl | with_reducible assumption | assumption | (simp; done)) rfl trivial rfl ?_
    refine Tr.move rfl rfl trivial rfl ?_
    refine Tr.mul rfl rfl (by first | exact wrap_i64 (by omega) (by omega) | rfl) rfl trivial rfl ?_
    refine Tr.call (vs := [i64 ((16 : Nat) : Int)]) rfl hp2 (by repeat (first | exact Has.nil | refine Has.cons (by repeat (first | exact .head _ | refine .tail _ ?_ | refine List.mem_append_right _ ?_)) ?_)) rfl trivial rfl ?_
    first | refine Tr.quo rfl rfl (by decide) hq3 rfl trivial rfl ?_ | refine Tr.quo rfl rfl (by decide) hq2 rfl trivial rfl ?_ | refine Tr.quo rfl rfl (by decide) hq1 rfl trivial rfl ?_ | refine Tr.quo rfl rfl (by decide) hq0 rfl trivial rfl ?_
    first | refine Tr.rem rfl rfl (by omega) hr3 rfl trivial rfl ?_ | refine Tr.rem rfl rfl (by omega) hr2 rfl trivial rfl ?_ | refine Tr.rem rfl rfl (by omega) hr1 rfl trivial rfl ?_ | refine Tr.rem rfl rfl (by omega) hr0 rfl trivial rfl ?_
    refine Tr.conv tab rfl rfl rfl rfl (u8_wrap _) rfl trivial rfl ?_
    refine Tr.buildSlice tab rfl rfl rfl rfl rfl rfl (by simp [fillC, splice, vcells, Value.cells, zrep_one]; rfl) rfl trivial rfl (fun _ _ => ?_)
    refine Tr.appendF tab rfl hfO (by repeat (first | exact Take.app _ _ | exact Take.self _ | exact Take.nil | apply Take.skip)) rfl (SrcOf.row (by repeat (first | exact .head _ | refine .tail _ ?_ | refine List.mem_append_right _ ?_)) (by first | exact At.all _ | with_reducible assumption | assumption) (by first | with_reducible rfl | with_reducible assumption | (simp; done) | (simp; omega) | rfl)) (by first | with_reducible assumption | rfl | (simp [Value.oneCell']; done)) rfl rfl rfl rfl (by simp) (by decide) (by simp; omega) rfl trivial rfl (fun vO esO hfO => ?_)
    refine Tr.assign rfl rfl trivial rfl ?_
    refine Tr.nil ?_ (fun _ => rfl) (List.Perm.refl _)
    refine Wp.reg allGen ?_
    refine Tr.move rfl rfl trivial rfl ?_
    refine Tr.sub rfl rfl (by first | exact wrap_i64 (by omega) (by omega) | rfl) rfl trivial rfl ?_
    refine Tr.assign rfl rfl trivial rfl ?_
    refine Tr.nil ?_ (fun _ => rfl) (List.Perm.refl _)
    refine WpL.step ?_
    refine Wp.seq ?_
    refine Wp.seq ?_
    refine Wp.reg allGen ?_
    refine Tr.move rfl rfl trivial rfl ?_
    refine Tr.geq rfl rfl (by first | with_reducible assumption | exact decide_eq_true (by omega) | exact decide_eq_false (by omega) | exact beq_iff_eq.2 (by omega) | exact beq_eq_false_iff_ne.2 (by omega) | exact bne_iff_ne.2 (by omega) | rfl) rfl trivial rfl ?_
    refine Tr.nil ?_ (fun _ => rfl) (List.Perm.refl _)
    refine Wp.condT rfl ?_
    refine Wp.skip ?_
    refine Wp.seq ?_
    refine Wp.block ?_
    refine Wp.regE kindOf mo (by kernel_rfl) ?_
    refine Tr.move rfl rfl trivial rfl ?_
    refine Tr.move rfl rfl trivial rfl ?_
    refine Tr.move rfl rfl trivial rfl ?_
    first | refine Tr.indexAddrS01 tab rfl rfl rfl rfl rfl (by omega) (by omega) rfl trivial rfl ?_ | refine Tr.indexAddrS1 tab rfl rfl rfl rfl rfl (by omega) (by omega) rfl trivial rfl ?_
    refine Tr.loadS tab rfl rfl rfl (by repeat (first | exact .head _ | refine .tail _ ?_ | refine List.mem_append_right _ ?_)) (by first | rfl | with_reducible assumption | assumption | (simp; done)) rfl trivial rfl ?_
    refine Tr.move rfl rfl trivial rfl ?_
    refine Tr.mul rfl rfl (by first | exact wrap_i64 (by omega) (by omega) | rfl) rfl trivial rfl ?_
    refine Tr.call (vs := [i64 ((8 : Nat) : Int)]) rfl hp1 (by repeat (first | exact Has.nil | refine Has.cons (by repeat (first | exact .head _ | refine .tail _ ?_ | refine List.mem_append_right _ ?_)) ?_)) rfl trivial rfl ?_
    first | refine Tr.quo rfl rfl (by decide) hq3 rfl trivial rfl ?_ | refine Tr.quo rfl rfl (by decide) hq2 rfl trivial rfl ?_ | refine Tr.quo rfl rfl (by decide) hq1 rfl trivial rfl ?_ | refine Tr.quo rfl rfl (by decide) hq0 rfl trivial rfl ?_
    first | refine Tr.rem rfl rfl (by omega) hr3 rfl trivial rfl ?_ | refine Tr.rem rfl rfl (by omega) hr2 rfl trivial rfl ?_ | refine Tr.rem rfl rfl (by omega) hr1 rfl trivial rfl ?_ | refine Tr.rem rfl rfl (by omega) hr0 rfl trivial rfl ?_
    refine Tr.conv tab rfl rfl rfl rfl (u8_wrap _) rfl trivial rfl ?_
    refine Tr.buildSlice tab rfl rfl rfl rfl rfl rfl (by simp [fillC, splice, vcells, Value.cells, zrep_one]; rfl) rfl trivial rfl (fun _ _ => ?_)
    refine Tr.appendF tab rfl hfO (by repeat (first | exact Take.app _ _ | exact Take.self _ | exact Take.nil | apply Take.skip)) rfl (SrcOf.row (by repeat (first | exact .head _ | refine .tail _ ?_ | refine List.mem_append_right _ ?_)) (by first | exact At.all _ | with_reducible assumption | assumption) (by first | with_reducible rfl | with_reducible assumption | (simp; done) | (simp; omega) | rfl)) (by first | with_reducible assumption | rfl | (simp [Value.oneCell']; done)) rfl rfl rfl rfl (by simp) (by decide) (by simp; omega) rfl trivial rfl (fun vO esO hfO => ?_)
    refine Tr.assign rfl rfl trivial rfl ?_
    refine Tr.nil ?_ (fun _ => rfl) (List.Perm.refl _)
    refine Wp.reg allGen ?_
    refine Tr.move rfl rfl trivial rfl ?_
    refine Tr.sub rfl rfl (by first | exact wrap_i64 (by omega) (by omega) | rfl) rfl trivial rfl ?_
    refine Tr.assign rfl rfl trivial rfl ?_
    refine Tr.nil ?_ (fun _ => rfl) (List.Perm.refl _)
    refine WpL.step ?_
    refine Wp.seq ?_
    refine Wp.seq ?_
    refine Wp.reg allGen ?_
    refine Tr.move rfl rfl trivial rfl ?_
    refine Tr.geq rfl rfl (by first | with_reducible assumption | exact decide_eq_true (by omega) | exact decide_eq_false (by omega) | exact beq_iff_eq.2 (by omega) | exact beq_eq_false_iff_ne.2 (by omega) | exact bne_iff_ne.2 (by omega) | rfl) rfl trivial rfl ?_
    refine Tr.nil ?_ (fun _ => rfl) (List.Perm.refl _)
    refine Wp.condT rfl ?_
    refine Wp.skip ?_
    refine Wp.seq ?_
    refine Wp.block ?_
    refine Wp.regE kindOf mo (by kernel_rfl) ?_
    refine Tr.move rfl rfl trivial rfl ?_
    refine Tr.move rfl rfl trivial rfl ?_
    refine Tr.move rfl rfl trivial rfl ?_
    first | refine Tr.indexAddrS01 tab rfl rfl rfl rfl rfl (by omega) (by omega) rfl trivial rfl ?_ | refine Tr.indexAddrS1 tab rfl rfl rfl rfl rfl (by omega) (by omega) rfl trivial rfl ?_
    refine Tr.loadS tab rfl rfl rfl (by repeat (first | exact .head _ | refine .tail _ ?_ | refine List.mem_append_right _ ?_)) (by first | rfl | with_reducible assumption | assumption | (simp; done)) rfl trivial rfl ?_
    refine Tr.move rfl rfl trivial rfl ?_
    refine Tr.mul rfl rfl (by first | exact wrap_i64 (by omega) (by omega) | rfl) rfl trivial rfl ?_
    refine Tr.call (vs := [i64 ((0 : Nat) : Int)]) rfl hp0 (by repeat (first | exact Has.nil | refine Has.cons (by repeat (first | exact .head _ | refine .tail _ ?_ | refine List.mem_append_right _ ?_)) ?_)) rfl trivial rfl ?_
    first | refine Tr.quo rfl rfl (by decide) hq3 rfl trivial rfl ?_ | refine Tr.quo rfl rfl (by decide) hq2 rfl trivial rfl ?_ | refine Tr.quo rfl rfl (by decide) hq1 rfl trivial rfl ?_ | refine Tr.quo rfl rfl (by decide) hq0 rfl trivial rfl ?_
    first | refine Tr.rem rfl rfl (by omega) hr3 rfl trivial rfl ?_ | refine Tr.rem rfl rfl (by omega) hr2 rfl trivial rfl ?_ | refine Tr.rem rfl rfl (by omega) hr1 rfl trivial rfl ?_ | refine Tr.rem rfl rfl (by omega) hr0 rfl trivial rfl ?_
    refine Tr.conv tab rfl rfl rfl rfl (u8_wrap _) rfl trivial rfl ?_
    refine Tr.buildSlice tab rfl rfl rfl rfl rfl rfl (by simp [fillC, splice, vcells, Value.cells, zrep_one]; rfl) rfl trivial rfl (fun _ _ => ?_)
    refine Tr.appendF tab rfl hfO (by repeat (first | exact Take.app _ _ | exact Take.self _ | exact Take.nil | apply Take.skip)) rfl (SrcOf.row (by repeat (first | exact .head _ | refine .tail _ ?_ | refine List.mem_append_right _ ?_)) (by first | exact At.all _ | with_reducible assumption | assumption) (by first | with_reducible rfl | with_reducible assumption | (simp; done) | (simp; omega) | rfl)) (by first | with_reducible assumption | rfl | (simp [Value.oneCell']; done)) rfl rfl rfl rfl (by simp) (by decide) (by simp; omega) rfl trivial rfl (fun vO esO hfO => ?_)
    refine Tr.assign rfl rfl trivial rfl ?_
    refine Tr.nil ?_ (fun _ => rfl) (List.Perm.refl _)
    refine Wp.reg allGen ?_
    refine Tr.move rfl rfl trivial rfl ?_
    refine Tr.sub rfl rfl (by first | exact wrap_i64 (by omega) (by omega) | rfl) rfl trivial rfl ?_
    refine Tr.assign rfl rfl trivial rfl ?_
    refine Tr.nil ?_ (fun _ => rfl) (List.Perm.refl _)
    refine WpL.step ?_
    refine Wp.seq ?_
    refine Wp.seq ?_
    refine Wp.reg allGen ?_
    refine Tr.move rfl rfl trivial rfl ?_
    refine Tr.geq rfl rfl (by first | with_reducible assumption | exact decide_eq_true (by omega) | exact decide_eq_false (by omega) | exact beq_iff_eq.2 (by omega) | exact beq_eq_false_iff_ne.2 (by omega) | exact bne_iff_ne.2 (by omega) | rfl) rfl trivial rfl ?_
    refine Tr.nil ?_ (fun _ => rfl) (List.Perm.refl _)
    refine Wp.condF rfl ?_
    refine Wp.exit ?_
    refine Wp.reg allGen ?_
    refine Tr.move rfl rfl trivial rfl ?_
    refine Tr.add rfl rfl (by first | exact wrap_i64 (by omega) (by omega) | rfl) rfl trivial rfl ?_
    refine Tr.assign rfl rfl trivial rfl ?_
    refine Tr.nil ?_ (fun _ => rfl) (List.Perm.refl _)
    exact WpL.weak (hih _ _ hfO) ⟨fun a ha => EH.sub (ESub.sub (by repeat (first | exact ESub.nil | refine ESub.cons rfl (by first | rfl | (simp; done) | (simp; omega)) ?_))) a ha, MH.sub (MSub.app (MSub.drop (MSub.drop (MSub.drop (MSub.drop (MSub.refl _))))) _)⟩

theorem f31_sum (a0 : Option Addr) (dd : List UInt8) (cp : Nat) (rd : List Ent) (hsrc : Src a0 dd cp rd) (hrd : ∀ e, e ∈ rd → e.rw = false) (hd : dd.length ≤ 1000000) :
    FnG Try.prog 31 [.slice a0 dd.length cp] rd (fun v es => Fresh (u8s (sumS dd)) v es) := by
  have hp := padS_len dd.length
  have hpad := f36_pad a0 dd cp rd hsrc hrd (by omega)
  have hL : (dd ++ padS dd.length).length = 64 * ((dd ++ padS dd.length).length / 64) := by
    rw [List.length_append]; unfold padZ at hp; omega
  have hN : (dd ++ padS dd.length).length / 64 ≤ 1000000 := by
    rw [List.length_append]; unfold padZ at hp; omega
  have h0 : 0 < (dd ++ padS dd.length).length := by rw [List.length_append]; omega
  have hK : roundsS.length = 64 := roundsS_len
  have hst := f28_start
  have hrn := f29_rounds
  rw [← roundsS_eq] at hrn
  have hs8 : w32s startL = w32s start8.l := by rw [start8_l, startS_eq]
  rw [hs8] at hst
  unfold sumS
  generalize dd ++ padS dd.length = L at *
  have hK' : (w32s roundsS).length = 64 := by simp [hK]
  have hloop := fun {g : Gh} (hg : g.n = 50) bL oL cL bK oK cK' cl ck h1 h2 h3 => rsum_loop1 (g := g) hg roundsS hK start8 L (L.length / 64) hL hN bL oL cL bK oK cK' cl ck h1 h2 h3 (L.length / 64) 0 (by omega)
  rw [blocksS_zero] at hloop
  generalize blocksS roundsS (L.length / 64) start8 L = S at *
  refine fnG_of 50 rfl Try.func31 rfl (by kernel_rfl) rfl hrd fun w => ?_
  refine Wp.seq ?_
  refine Wp.reg allGen ?_
  refine Tr.assign rfl rfl trivial rfl ?_
  refine Tr.nil ?_ (fun _ => rfl) (List.Perm.refl _)
  refine Wp.seq ?_
  refine Wp.reg allGen ?_
  refine Tr.move rfl rfl trivial rfl ?_
  refine Tr.callG rfl hpad (Has.sub (by intro e he; repeat (first | exact he | refine .tail _ ?_))) rfl trivial rfl ?_
  rintro _ es hf
  obtain ⟨b1, pre1, sp1, rfl, rfl⟩ := hf.row (n := L.length) (by simp) h0
  refine Tr.assign rfl rfl trivial rfl ?_
  refine Tr.nil ?_ (fun _ => rfl) (List.Perm.refl _)
  refine Wp.seq ?_
  refine Wp.reg allGen ?_
  refine Tr.callG rfl hrn (by repeat (first | exact Has.nil | refine Has.cons (by repeat (first | exact .head _ | refine .tail _ ?_ | refine List.mem_append_right _ ?_)) ?_)) rfl trivial rfl ?_
  rintro _ es hf
  obtain ⟨b2, pre2, sp2, rfl, rfl⟩ := hf.row (n := 64) hK' (by decide)
  refine Tr.assign rfl rfl trivial rfl ?_
  refine Tr.nil ?_ (fun _ => rfl) (List.Perm.refl _)
  refine Wp.seq ?_
  refine Wp.reg allGen ?_
  refine Tr.callG rfl hst (by repeat (first | exact Has.nil | refine Has.cons (by repeat (first | exact .head _ | refine .tail _ ?_ | refine List.mem_append_right _ ?_)) ?_)) rfl trivial rfl ?_
  rintro _ es hf
  obtain ⟨b3, pre3, sp3, rfl, rfl⟩ := hf.row (n := 8) rfl (by decide)
  refine Tr.assign rfl rfl trivial rfl ?_
  refine Tr.nil ?_ (fun _ => rfl) (List.Perm.refl _)
  refine Wp.seq ?_
  refine Wp.seq ?_
  refine Wp.reg allGen ?_
  refine Tr.assign rfl rfl trivial rfl ?_
  refine Tr.nil ?_ (fun _ => rfl) (List.Perm.refl _)
  refine Wp.block ?_
  refine Wp.loopQ (hloop rfl b1 pre1.length (L.length + sp1.length) b2 pre2.length (64 + sp2.length) _ _ ⟨pre1, sp1, rfl, rfl⟩ (by omega) ⟨pre2, sp2, rfl, rfl⟩ b3 pre3.length (8 + sp3.length) _ ⟨pre3, sp3, rfl, rfl⟩) (Wk.mk (by repeat (first | exact ESub.nil | refine ESub.cons rfl (by first | rfl | (simp; done) | (simp; omega)) ?_)) (by repeat (first | exact MSub.nil | refine MSub.cons (by repeat (first | exact .here | apply Pick.there | apply Pick.append)) (by first | rfl | (simp; done)) ?_))) ?_
  rintro _ env1 mem1 ⟨rfl, b4, off4, cp4, c4, hc4, hk1⟩
  refine Wp.weak ?_ hk1
  refine Wp.seq ?_
  refine Wp.reg allGen ?_
  refine Tr.assign rfl rfl trivial rfl ?_
  refine Tr.nil ?_ (fun _ => rfl) (List.Perm.refl _)
  refine Wp.seq ?_
  refine Wp.seq ?_
  refine Wp.reg allGen ?_
  refine Tr.assign rfl rfl trivial rfl ?_
  refine Tr.nil ?_ (fun _ => rfl) (List.Perm.refl _)
  refine Wp.block ?_
  refine Wp.loopQ (rsum_loop2 rfl S b4 off4 cp4 c4 hc4 8 0 rfl (.slice none 0 0) [] Fresh.nil) (Wk.mk (by repeat (first | exact ESub.nil | refine ESub.cons rfl (by first | rfl | (simp; done) | (simp; omega)) ?_)) (by repeat (first | exact MSub.nil | refine MSub.cons (by repeat (first | exact .here | apply Pick.there | apply Pick.append)) (by first | rfl | (simp; done)) ?_))) ?_
  rintro _ env2 mem2 ⟨rfl, v5, es5, hf5, hk2⟩
  refine Wp.weak ?_ hk2
  refine Wp.seq ?_
  refine Wp.reg allGen ?_
  refine Tr.move rfl rfl trivial rfl ?_
  refine Tr.assign rfl rfl trivial rfl ?_
  refine Tr.nil ?_ (fun _ => rfl) (List.Perm.refl _)
  refine Wp.ret ?_
  exact ⟨.inr rfl, _, _, hf5, .r1 rfl (RvIs.tmp rfl), hf5.sub, hf5.rw⟩
end Go.Proofs.Ytffghaeaohabhaa.AW
