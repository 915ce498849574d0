import Derived.Test.YtffghaeaohabhaaR2
import Derived.Test.YtffghaeaohabhaaR5n
namespace Go.Proofs.Ytffghaeaohabhaa.AW
open Go NT
set_option maxRecDepth 100000

/-- whole numbers as values -/
abbrev dn (l : List Nat) : List Value := l.map fun n : Nat => i64 (n : Int)
theorem dn_app (a b : List Nat) : dn (a ++ b) = dn a ++ dn b := List.map_append
theorem dn_one (l : List Nat) : (dn l).all Value.oneCell' = true := by simp [Value.oneCell']

def loop145 : Code := (Code.seq (Code.seq (Code.region 2 #[{ dst := (some 4), op := (Op.move (Operand.tmp 0)), type := 3, pos := "ref.go:51", after := #[], guard := none }, { dst := (some 5), op := (Op.binOp BinOp.gtr 3 (Operand.tmp 4) (Operand.const (Value.int IntKind.i64 0)) 3), type := 4, pos := "ref.go:51", after := #[{ on := 0, ground := Ground.data }], guard := none }] false) (Code.cond (Operand.tmp 5) Code.skip (Code.exit 0))) (Code.block 1 (Code.seq (Code.region 3 #[{ dst := (some 6), op := (Op.move (Operand.tmp 3)), type := 22, pos := "ref.go:52", after := #[], guard := none }, { dst := (some 7), op := (Op.move (Operand.tmp 0)), type := 3, pos := "ref.go:52", after := #[], guard := none }, { dst := (some 8), op := (Op.binOp BinOp.rem 3 (Operand.tmp 7) (Operand.const (Value.int IntKind.i64 65536)) 3), type := 3, pos := "ref.go:52", after := #[{ on := 1, ground := Ground.data }], guard := none }, { dst := (some 9), op := (Op.buildSlice 22 1 #[(0, (Operand.tmp 8))]), type := 22, pos := "ref.go:52", after := #[{ on := 2, ground := Ground.data }], guard := none }, { dst := (some 10), op := (Op.call { callee := (Callee.builtin Builtin.append), args := #[(Operand.tmp 6), (Operand.tmp 9)], argTypes := #[22, 22] }), type := 22, pos := "ref.go:52", after := #[{ on := 0, ground := Ground.data }, { on := 3, ground := Ground.data }], guard := none }, { dst := (some 3), op := (Op.assign (Operand.tmp 10)), type := 22, pos := "ref.go:52", after := #[{ on := 4, ground := Ground.data }, { on := 4, ground := Ground.chain }, { on := 0, ground := Ground.phase }, { on := 1, ground := Ground.phase }, { on := 2, ground := Ground.phase }, { on := 3, ground := Ground.phase }, { on := 4, ground := Ground.phase }], guard := none }] false) (Code.region 4 #[{ dst := (some 11), op := (Op.move (Operand.tmp 0)), type := 3, pos := "ref.go:53", after := #[], guard := none }, { dst := (some 12), op := (Op.binOp BinOp.quo 3 (Operand.tmp 11) (Operand.const (Value.int IntKind.i64 65536)) 3), type := 3, pos := "ref.go:53", after := #[{ on := 0, ground := Ground.data }], guard := none }, { dst := (some 0), op := (Op.assign (Operand.tmp 12)), type := 3, pos := "ref.go:53", after := #[{ on := 1, ground := Ground.data }, { on := 0, ground := Ground.phase }, { on := 1, ground := Ground.phase }], guard := none }] false))))

theorem digits_loop {g : Gh} (hg : g.n = 14) : ∀ (f x : Nat) (l : List Nat) (v : Value) (es : List Ent), x < 65536 ^ f → x < 4611686018427387904 → l.length + f ≤ 1000 → Fresh (dn l) v es →
    WpL Try.prog g loop145 (fun e env mem => e = .exit 0 ∧ ∃ v es, Fresh (dn (l ++ digS f x)) v es ∧ Wk g env mem [(3, v)] es)
      [(0, i64 (x : Int)), (3, v)] (es ++ []) := by
  obtain ⟨gn, w0, may⟩ := g
  obtain rfl : gn = 14 := hg
  have out : ∀ (l : List Nat) (v : Value) (es : List Ent), Fresh (dn l) v es → WpL Try.prog ⟨14, w0, may⟩ loop145 (fun e env mem => e = .exit 0 ∧ ∃ v es, Fresh (dn (l ++ [])) v es ∧ Wk ⟨14, w0, may⟩ env mem [(3, v)] es)
      [(0, i64 ((0 : Nat) : Int)), (3, v)] (es ++ []) := by
    intro l v es hf
    refine WpL.step ?_
    refine Wp.seq ?_
    refine Wp.seq ?_
    refine Wp.reg allGen ?_
    refine Tr.move rfl rfl trivial rfl ?_
    refine Tr.gtr rfl rfl (by first | with_reducible assumption | exact decide_eq_true (by omega) | exact decide_eq_false (by omega) | exact beq_iff_eq.2 (by omega) | exact beq_eq_false_iff_ne.2 (by omega) | exact bne_iff_ne.2 (by omega) | rfl) rfl trivial rfl ?_
    refine Tr.nil ?_ (fun _ => rfl) (List.Perm.refl _)
    refine Wp.condF rfl ?_
    refine Wp.exit ?_
    exact ⟨rfl, v, es, by simpa using hf, ⟨fun a ha => EH.sub (ESub.sub (by repeat (first | exact ESub.nil | refine ESub.cons rfl (by first | rfl | (simp; done) | (simp; omega)) ?_))) a ha, MH.sub (MSub.left _ _)⟩⟩
  intro f
  induction f with
  | zero =>
    intro x l v es hx _ hl hf
    obtain rfl : x = 0 := by simpa using hx
    exact out l v es hf
  | succ f ih =>
    intro x l v es hx hx2 hl hf
    by_cases h0 : x = 0
    · subst h0
      have e : digS (f + 1) 0 = [] := by simp [digS]
      rw [e]
      exact out l v es hf
    · have h1 : x / 65536 < 65536 ^ f := by rw [Nat.div_lt_iff_lt_mul (by decide), ← Nat.pow_succ]; exact hx
      have e : digS (f + 1) x = x % 65536 :: digS f (x / 65536) := by simp [digS, h0]
      have hih := fun v es h => ih (x / 65536) (l ++ [x % 65536]) v es h1 (by omega) (by simp; omega) h
      have e2 : l ++ [x % 65536] ++ digS f (x / 65536) = l ++ digS (f + 1) x := by rw [e]; simp
      rw [e2, dn_app] at hih
      have hr : (x : Int).tmod 65536 = ((x % 65536 : Nat) : Int) := tmodN x 65536
      have hq : IntKind.i64.wrap ((x : Int).tdiv 65536) = ((x / 65536 : Nat) : Int) := by rw [show (x : Int).tdiv 65536 = ((x / 65536 : Nat) : Int) from tdivN x 65536]; exact wrap_i64 (by omega) (by omega)
      refine WpL.step ?_
      refine Wp.seq ?_
      refine Wp.seq ?_
      refine Wp.reg allGen ?_
      refine Tr.move rfl rfl trivial rfl ?_
      refine Tr.gtr rfl rfl (by first | with_reducible assumption | exact decide_eq_true (by omega) | exact decide_eq_false (by omega) | exact beq_iff_eq.2 (by omega) | exact beq_eq_false_iff_ne.2 (by omega) | exact bne_iff_ne.2 (by omega) | rfl) rfl trivial rfl ?_
      refine Tr.nil ?_ (fun _ => rfl) (List.Perm.refl _)
      refine Wp.condT rfl ?_
      refine Wp.skip ?_
      refine Wp.block ?_
      refine Wp.seq ?_
      refine Wp.reg allGen ?_
      refine Tr.move rfl rfl trivial rfl ?_
      refine Tr.move rfl rfl trivial rfl ?_
      refine Tr.rem rfl rfl (by omega) hr rfl trivial rfl ?_
      refine Tr.buildSlice tab rfl rfl rfl rfl rfl rfl (by simp [fillC, splice, vcells, Value.cells, zrep_one]; rfl) rfl trivial rfl (fun _ _ => ?_)
      refine Tr.appendF tab rfl hf (by repeat (first | exact Take.app _ _ | exact Take.self _ | exact Take.nil | apply Take.skip)) rfl (SrcOf.row (by repeat (first | exact .head _ | refine .tail _ ?_ | refine List.mem_append_right _ ?_)) (by first | exact At.all _ | with_reducible assumption | assumption) (by first | with_reducible rfl | with_reducible assumption | (simp; done) | (simp; omega) | rfl)) (by first | with_reducible assumption | rfl | (simp [Value.oneCell']; done)) rfl rfl rfl rfl (by simp) (by decide) (by simp; omega) rfl trivial rfl (fun v1 es1 hf1 => ?_)
      refine Tr.assign rfl rfl trivial rfl ?_
      refine Tr.nil ?_ (fun _ => rfl) (List.Perm.refl _)
      refine Wp.reg allGen ?_
      refine Tr.move rfl rfl trivial rfl ?_
      refine Tr.quo rfl rfl (by omega) hq rfl trivial rfl ?_
      refine Tr.assign rfl rfl trivial rfl ?_
      refine Tr.nil ?_ (fun _ => rfl) (List.Perm.refl _)
      exact WpL.weak (hih _ _ hf1) ⟨fun a ha => EH.sub (ESub.sub (by repeat (first | exact ESub.nil | refine ESub.cons rfl (by first | rfl | (simp; done) | (simp; omega)) ?_))) a ha, MH.sub (MSub.app (MSub.drop (MSub.refl _)) _)⟩

theorem f145_digits (x f : Nat) (hx : x < 65536 ^ f) (hx2 : x < 4611686018427387904) (hf : f ≤ 1000) : FnG Try.prog 145 [i64 (x : Int)] [] (fun v es => Fresh (dn (digS f x)) v es) := by
  refine fnG_of 14 rfl Try.func145 rfl (by kernel_rfl) rfl (by simp) fun w => ?_
  refine Wp.seq ?_
  refine Wp.reg allGen ?_
  refine Tr.assign rfl rfl trivial rfl ?_
  refine Tr.nil ?_ (fun _ => rfl) (List.Perm.refl _)
  refine Wp.seq ?_
  refine Wp.reg allGen ?_
  refine Tr.assign rfl rfl trivial rfl ?_
  refine Tr.nil ?_ (fun _ => rfl) (List.Perm.refl _)
  refine Wp.seq ?_
  refine Wp.block ?_
  refine Wp.loopQ (digits_loop rfl f x [] (.slice none 0 0) [] hx hx2 (by simpa using hf) Fresh.nil) (Wk.mk (by repeat (first | exact ESub.nil | refine ESub.cons rfl (by first | rfl | (simp; done) | (simp; omega)) ?_)) (by repeat (first | exact MSub.nil | refine MSub.cons (by repeat (first | exact .here | apply Pick.there | apply Pick.append)) (by first | rfl | (simp; done)) ?_))) ?_
  rintro _ env1 mem1 ⟨rfl, v1, es1, hf1, hk1⟩
  refine Wp.weak ?_ hk1
  refine Wp.seq ?_
  refine Wp.reg allGen ?_
  refine Tr.move rfl rfl trivial rfl ?_
  refine Tr.assign rfl rfl trivial rfl ?_
  refine Tr.nil ?_ (fun _ => rfl) (List.Perm.refl _)
  refine Wp.ret ?_
  exact ⟨.inr rfl, v1, es1, hf1, .r1 rfl (RvIs.tmp rfl), MSub.refl _, hf1.rw⟩

/-! ### Times -/
def loop146a : Code := (Code.seq (Code.seq (Code.region 3 #[{ dst := (some 17), op := (Op.move (Operand.tmp 6)), type := 3, pos := "ref.go:61", after := #[], guard := none }, { dst := (some 18), op := (Op.move (Operand.tmp 0)), type := 22, pos := "ref.go:61", after := #[], guard := none }, { dst := (some 19), op := (Op.call { callee := (Callee.builtin Builtin.len), args := #[(Operand.tmp 18)], argTypes := #[22] }), type := 3, pos := "ref.go:61", after := #[{ on := 1, ground := Ground.data }], guard := none }, { dst := (some 20), op := (Op.binOp BinOp.lss 3 (Operand.tmp 17) (Operand.tmp 19) 3), type := 4, pos := "ref.go:61", after := #[{ on := 0, ground := Ground.data }, { on := 2, ground := Ground.data }], guard := none }] false) (Code.cond (Operand.tmp 20) Code.skip (Code.exit 0))) (Code.seq (Code.block 1 (Code.seq (Code.region 5 #[{ dst := (some 7), op := (Op.assign (Operand.const (Value.int IntKind.i64 0))), type := 3, pos := "ref.go:62", after := #[], guard := none }] false) (Code.seq (Code.region 6 #[{ dst := (some 8), op := (Op.assign (Operand.const (Value.int IntKind.i64 0))), type := 3, pos := "ref.go:63", after := #[], guard := none }] false) (Code.block 2 (Code.loop (Code.seq (Code.seq (Code.region 7 #[{ dst := (some 23), op := (Op.move (Operand.tmp 8)), type := 3, pos := "ref.go:63", after := #[], guard := none }, { dst := (some 24), op := (Op.move (Operand.tmp 1)), type := 22, pos := "ref.go:63", after := #[], guard := none }, { dst := (some 25), op := (Op.call { callee := (Callee.builtin Builtin.len), args := #[(Operand.tmp 24)], argTypes := #[22] }), type := 3, pos := "ref.go:63", after := #[{ on := 1, ground := Ground.data }], guard := none }, { dst := (some 26), op := (Op.binOp BinOp.lss 3 (Operand.tmp 23) (Operand.tmp 25) 3), type := 4, pos := "ref.go:63", after := #[{ on := 0, ground := Ground.data }, { on := 2, ground := Ground.data }], guard := none }, { dst := (some 27), op := (Op.move (Operand.tmp 26)), type := 4, pos := "ref.go:63", after := #[{ on := 3, ground := Ground.data }], guard := none }, { dst := (some 28), op := (Op.move (Operand.tmp 7)), type := 3, pos := "ref.go:63", after := #[{ on := 4, ground := Ground.guard }], guard := (some (4, false)) }, { dst := (some 29), op := (Op.binOp BinOp.gtr 3 (Operand.tmp 28) (Operand.const (Value.int IntKind.i64 0)) 3), type := 4, pos := "ref.go:63", after := #[{ on := 5, ground := Ground.data }, { on := 4, ground := Ground.guard }], guard := (some (4, false)) }, { dst := (some 30), op := (Op.pick (Operand.tmp 27) (Operand.const (Value.bool true)) (Operand.tmp 29)), type := 4, pos := "ref.go:63", after := #[{ on := 4, ground := Ground.data }, { on := 6, ground := Ground.data }], guard := none }] false) (Code.cond (Operand.tmp 30) Code.skip (Code.exit 2))) (Code.seq (Code.block 3 (Code.seq (Code.region 9 #[{ dst := (some 33), op := (Op.move (Operand.tmp 5)), type := 22, pos := "ref.go:64", after := #[], guard := none }, { dst := (some 34), op := (Op.move (Operand.tmp 6)), type := 3, pos := "ref.go:64", after := #[], guard := none }, { dst := (some 35), op := (Op.move (Operand.tmp 8)), type := 3, pos := "ref.go:64", after := #[], guard := none }, { dst := (some 36), op := (Op.binOp BinOp.add 3 (Operand.tmp 34) (Operand.tmp 35) 3), type := 3, pos := "ref.go:64", after := #[{ on := 1, ground := Ground.data }, { on := 2, ground := Ground.data }], guard := none }, { dst := (some 37), op := (Op.indexAddr 22 (Operand.tmp 33) (Operand.tmp 36)), type := 0, pos := "ref.go:64", after := #[{ on := 0, ground := Ground.data }, { on := 3, ground := Ground.data }], guard := none }, { dst := (some 38), op := (Op.load 3 (Operand.tmp 37)), type := 3, pos := "ref.go:64", after := #[{ on := 4, ground := Ground.data }], guard := none }, { dst := (some 39), op := (Op.move (Operand.tmp 7)), type := 3, pos := "ref.go:64", after := #[], guard := none }, { dst := (some 40), op := (Op.binOp BinOp.add 3 (Operand.tmp 38) (Operand.tmp 39) 3), type := 3, pos := "ref.go:64", after := #[{ on := 5, ground := Ground.data }, { on := 6, ground := Ground.data }], guard := none }, { dst := (some 9), op := (Op.assign (Operand.tmp 40)), type := 3, pos := "ref.go:64", after := #[{ on := 7, ground := Ground.data }, { on := 0, ground := Ground.phase }, { on := 1, ground := Ground.phase }, { on := 2, ground := Ground.phase }, { on := 3, ground := Ground.phase }, { on := 4, ground := Ground.phase }, { on := 5, ground := Ground.phase }, { on := 6, ground := Ground.phase }, { on := 7, ground := Ground.phase }], guard := none }] false) (Code.seq (Code.seq (Code.region 10 #[{ dst := (some 41), op := (Op.move (Operand.tmp 8)), type := 3, pos := "ref.go:65", after := #[], guard := none }, { dst := (some 42), op := (Op.move (Operand.tmp 1)), type := 22, pos := "ref.go:65", after := #[], guard := none }, { dst := (some 43), op := (Op.call { callee := (Callee.builtin Builtin.len), args := #[(Operand.tmp 42)], argTypes := #[22] }), type := 3, pos := "ref.go:65", after := #[{ on := 1, ground := Ground.data }], guard := none }, { dst := (some 44), op := (Op.binOp BinOp.lss 3 (Operand.tmp 41) (Operand.tmp 43) 3), type := 4, pos := "ref.go:65", after := #[{ on := 0, ground := Ground.data }, { on := 2, ground := Ground.data }], guard := none }] false) (Code.cond (Operand.tmp 44) (Code.region 11 #[{ dst := (some 45), op := (Op.move (Operand.tmp 9)), type := 3, pos := "ref.go:66", after := #[], guard := none }, { dst := (some 46), op := (Op.move (Operand.tmp 0)), type := 22, pos := "ref.go:66", after := #[], guard := none }, { dst := (some 47), op := (Op.move (Operand.tmp 6)), type := 3, pos := "ref.go:66", after := #[], guard := none }, { dst := (some 48), op := (Op.indexAddr 22 (Operand.tmp 46) (Operand.tmp 47)), type := 0, pos := "ref.go:66", after := #[{ on := 1, ground := Ground.data }, { on := 2, ground := Ground.data }], guard := none }, { dst := (some 49), op := (Op.load 3 (Operand.tmp 48)), type := 3, pos := "ref.go:66", after := #[{ on := 3, ground := Ground.data }], guard := none }, { dst := (some 50), op := (Op.move (Operand.tmp 1)), type := 22, pos := "ref.go:66", after := #[], guard := none }, { dst := (some 51), op := (Op.move (Operand.tmp 8)), type := 3, pos := "ref.go:66", after := #[], guard := none }, { dst := (some 52), op := (Op.indexAddr 22 (Operand.tmp 50) (Operand.tmp 51)), type := 0, pos := "ref.go:66", after := #[{ on := 5, ground := Ground.data }, { on := 6, ground := Ground.data }], guard := none }, { dst := (some 53), op := (Op.load 3 (Operand.tmp 52)), type := 3, pos := "ref.go:66", after := #[{ on := 7, ground := Ground.data }], guard := none }, { dst := (some 54), op := (Op.binOp BinOp.mul 3 (Operand.tmp 49) (Operand.tmp 53) 3), type := 3, pos := "ref.go:66", after := #[{ on := 4, ground := Ground.data }, { on := 8, ground := Ground.data }], guard := none }, { dst := (some 55), op := (Op.binOp BinOp.add 3 (Operand.tmp 45) (Operand.tmp 54) 3), type := 3, pos := "ref.go:66", after := #[{ on := 0, ground := Ground.data }, { on := 9, ground := Ground.data }], guard := none }, { dst := (some 9), op := (Op.assign (Operand.tmp 55)), type := 3, pos := "ref.go:66", after := #[{ on := 10, ground := Ground.data }, { on := 0, ground := Ground.phase }, { on := 1, ground := Ground.phase }, { on := 2, ground := Ground.phase }, { on := 3, ground := Ground.phase }, { on := 4, ground := Ground.phase }, { on := 5, ground := Ground.phase }, { on := 6, ground := Ground.phase }, { on := 7, ground := Ground.phase }, { on := 8, ground := Ground.phase }, { on := 9, ground := Ground.phase }, { on := 10, ground := Ground.phase }], guard := none }] true) Code.skip)) (Code.seq (Code.region 12 #[{ dst := (some 56), op := (Op.move (Operand.tmp 5)), type := 22, pos := "ref.go:68", after := #[], guard := none }, { dst := (some 57), op := (Op.move (Operand.tmp 6)), type := 3, pos := "ref.go:68", after := #[], guard := none }, { dst := (some 58), op := (Op.move (Operand.tmp 8)), type := 3, pos := "ref.go:68", after := #[], guard := none }, { dst := (some 59), op := (Op.binOp BinOp.add 3 (Operand.tmp 57) (Operand.tmp 58) 3), type := 3, pos := "ref.go:68", after := #[{ on := 1, ground := Ground.data }, { on := 2, ground := Ground.data }], guard := none }, { dst := (some 60), op := (Op.move (Operand.tmp 9)), type := 3, pos := "ref.go:68", after := #[], guard := none }, { dst := (some 61), op := (Op.binOp BinOp.rem 3 (Operand.tmp 60) (Operand.const (Value.int IntKind.i64 65536)) 3), type := 3, pos := "ref.go:68", after := #[{ on := 4, ground := Ground.data }], guard := none }, { dst := (some 62), op := (Op.indexAddr 22 (Operand.tmp 56) (Operand.tmp 59)), type := 0, pos := "ref.go:68", after := #[{ on := 0, ground := Ground.data }, { on := 3, ground := Ground.data }, { on := 0, ground := Ground.phase }, { on := 1, ground := Ground.phase }, { on := 2, ground := Ground.phase }, { on := 3, ground := Ground.phase }, { on := 4, ground := Ground.phase }, { on := 5, ground := Ground.phase }], guard := none }, { dst := none, op := (Op.store 3 (Operand.tmp 62) (Operand.tmp 61)), type := 0, pos := "ref.go:68", after := #[{ on := 6, ground := Ground.data }, { on := 5, ground := Ground.data }, { on := 0, ground := Ground.phase }, { on := 1, ground := Ground.phase }, { on := 2, ground := Ground.phase }, { on := 3, ground := Ground.phase }, { on := 4, ground := Ground.phase }, { on := 5, ground := Ground.phase }], guard := none }] false) (Code.region 13 #[{ dst := (some 63), op := (Op.move (Operand.tmp 9)), type := 3, pos := "ref.go:69", after := #[], guard := none }, { dst := (some 64), op := (Op.binOp BinOp.quo 3 (Operand.tmp 63) (Operand.const (Value.int IntKind.i64 65536)) 3), type := 3, pos := "ref.go:69", after := #[{ on := 0, ground := Ground.data }], guard := none }, { dst := (some 7), op := (Op.assign (Operand.tmp 64)), type := 3, pos := "ref.go:69", after := #[{ on := 1, ground := Ground.data }, { on := 0, ground := Ground.phase }, { on := 1, ground := Ground.phase }], guard := none }] false))))) (Code.region 8 #[{ dst := (some 31), op := (Op.move (Operand.tmp 8)), type := 3, pos := "ref.go:63", after := #[], guard := none }, { dst := (some 32), op := (Op.binOp BinOp.add 3 (Operand.tmp 31) (Operand.const (Value.int IntKind.i64 1)) 3), type := 3, pos := "ref.go:63", after := #[{ on := 0, ground := Ground.data }], guard := none }, { dst := (some 8), op := (Op.assign (Operand.tmp 32)), type := 3, pos := "ref.go:63", after := #[{ on := 1, ground := Ground.data }, { on := 0, ground := Ground.phase }, { on := 1, ground := Ground.phase }], guard := none }] false)))))))) (Code.region 4 #[{ dst := (some 21), op := (Op.move (Operand.tmp 6)), type := 3, pos := "ref.go:61", after := #[], guard := none }, { dst := (some 22), op := (Op.binOp BinOp.add 3 (Operand.tmp 21) (Operand.const (Value.int IntKind.i64 1)) 3), type := 3, pos := "ref.go:61", after := #[{ on := 0, ground := Ground.data }], guard := none }, { dst := (some 6), op := (Op.assign (Operand.tmp 22)), type := 3, pos := "ref.go:61", after := #[{ on := 1, ground := Ground.data }, { on := 0, ground := Ground.phase }, { on := 1, ground := Ground.phase }], guard := none }] false)))
def loop146b : Code := (Code.seq (Code.seq (Code.region 7 #[{ dst := (some 23), op := (Op.move (Operand.tmp 8)), type := 3, pos := "ref.go:63", after := #[], guard := none }, { dst := (some 24), op := (Op.move (Operand.tmp 1)), type := 22, pos := "ref.go:63", after := #[], guard := none }, { dst := (some 25), op := (Op.call { callee := (Callee.builtin Builtin.len), args := #[(Operand.tmp 24)], argTypes := #[22] }), type := 3, pos := "ref.go:63", after := #[{ on := 1, ground := Ground.data }], guard := none }, { dst := (some 26), op := (Op.binOp BinOp.lss 3 (Operand.tmp 23) (Operand.tmp 25) 3), type := 4, pos := "ref.go:63", after := #[{ on := 0, ground := Ground.data }, { on := 2, ground := Ground.data }], guard := none }, { dst := (some 27), op := (Op.move (Operand.tmp 26)), type := 4, pos := "ref.go:63", after := #[{ on := 3, ground := Ground.data }], guard := none }, { dst := (some 28), op := (Op.move (Operand.tmp 7)), type := 3, pos := "ref.go:63", after := #[{ on := 4, ground := Ground.guard }], guard := (some (4, false)) }, { dst := (some 29), op := (Op.binOp BinOp.gtr 3 (Operand.tmp 28) (Operand.const (Value.int IntKind.i64 0)) 3), type := 4, pos := "ref.go:63", after := #[{ on := 5, ground := Ground.data }, { on := 4, ground := Ground.guard }], guard := (some (4, false)) }, { dst := (some 30), op := (Op.pick (Operand.tmp 27) (Operand.const (Value.bool true)) (Operand.tmp 29)), type := 4, pos := "ref.go:63", after := #[{ on := 4, ground := Ground.data }, { on := 6, ground := Ground.data }], guard := none }] false) (Code.cond (Operand.tmp 30) Code.skip (Code.exit 2))) (Code.seq (Code.block 3 (Code.seq (Code.region 9 #[{ dst := (some 33), op := (Op.move (Operand.tmp 5)), type := 22, pos := "ref.go:64", after := #[], guard := none }, { dst := (some 34), op := (Op.move (Operand.tmp 6)), type := 3, pos := "ref.go:64", after := #[], guard := none }, { dst := (some 35), op := (Op.move (Operand.tmp 8)), type := 3, pos := "ref.go:64", after := #[], guard := none }, { dst := (some 36), op := (Op.binOp BinOp.add 3 (Operand.tmp 34) (Operand.tmp 35) 3), type := 3, pos := "ref.go:64", after := #[{ on := 1, ground := Ground.data }, { on := 2, ground := Ground.data }], guard := none }, { dst := (some 37), op := (Op.indexAddr 22 (Operand.tmp 33) (Operand.tmp 36)), type := 0, pos := "ref.go:64", after := #[{ on := 0, ground := Ground.data }, { on := 3, ground := Ground.data }], guard := none }, { dst := (some 38), op := (Op.load 3 (Operand.tmp 37)), type := 3, pos := "ref.go:64", after := #[{ on := 4, ground := Ground.data }], guard := none }, { dst := (some 39), op := (Op.move (Operand.tmp 7)), type := 3, pos := "ref.go:64", after := #[], guard := none }, { dst := (some 40), op := (Op.binOp BinOp.add 3 (Operand.tmp 38) (Operand.tmp 39) 3), type := 3, pos := "ref.go:64", after := #[{ on := 5, ground := Ground.data }, { on := 6, ground := Ground.data }], guard := none }, { dst := (some 9), op := (Op.assign (Operand.tmp 40)), type := 3, pos := "ref.go:64", after := #[{ on := 7, ground := Ground.data }, { on := 0, ground := Ground.phase }, { on := 1, ground := Ground.phase }, { on := 2, ground := Ground.phase }, { on := 3, ground := Ground.phase }, { on := 4, ground := Ground.phase }, { on := 5, ground := Ground.phase }, { on := 6, ground := Ground.phase }, { on := 7, ground := Ground.phase }], guard := none }] false) (Code.seq (Code.seq (Code.region 10 #[{ dst := (some 41), op := (Op.move (Operand.tmp 8)), type := 3, pos := "ref.go:65", after := #[], guard := none }, { dst := (some 42), op := (Op.move (Operand.tmp 1)), type := 22, pos := "ref.go:65", after := #[], guard := none }, { dst := (some 43), op := (Op.call { callee := (Callee.builtin Builtin.len), args := #[(Operand.tmp 42)], argTypes := #[22] }), type := 3, pos := "ref.go:65", after := #[{ on := 1, ground := Ground.data }], guard := none }, { dst := (some 44), op := (Op.binOp BinOp.lss 3 (Operand.tmp 41) (Operand.tmp 43) 3), type := 4, pos := "ref.go:65", after := #[{ on := 0, ground := Ground.data }, { on := 2, ground := Ground.data }], guard := none }] false) (Code.cond (Operand.tmp 44) (Code.region 11 #[{ dst := (some 45), op := (Op.move (Operand.tmp 9)), type := 3, pos := "ref.go:66", after := #[], guard := none }, { dst := (some 46), op := (Op.move (Operand.tmp 0)), type := 22, pos := "ref.go:66", after := #[], guard := none }, { dst := (some 47), op := (Op.move (Operand.tmp 6)), type := 3, pos := "ref.go:66", after := #[], guard := none }, { dst := (some 48), op := (Op.indexAddr 22 (Operand.tmp 46) (Operand.tmp 47)), type := 0, pos := "ref.go:66", after := #[{ on := 1, ground := Ground.data }, { on := 2, ground := Ground.data }], guard := none }, { dst := (some 49), op := (Op.load 3 (Operand.tmp 48)), type := 3, pos := "ref.go:66", after := #[{ on := 3, ground := Ground.data }], guard := none }, { dst := (some 50), op := (Op.move (Operand.tmp 1)), type := 22, pos := "ref.go:66", after := #[], guard := none }, { dst := (some 51), op := (Op.move (Operand.tmp 8)), type := 3, pos := "ref.go:66", after := #[], guard := none }, { dst := (some 52), op := (Op.indexAddr 22 (Operand.tmp 50) (Operand.tmp 51)), type := 0, pos := "ref.go:66", after := #[{ on := 5, ground := Ground.data }, { on := 6, ground := Ground.data }], guard := none }, { dst := (some 53), op := (Op.load 3 (Operand.tmp 52)), type := 3, pos := "ref.go:66", after := #[{ on := 7, ground := Ground.data }], guard := none }, { dst := (some 54), op := (Op.binOp BinOp.mul 3 (Operand.tmp 49) (Operand.tmp 53) 3), type := 3, pos := "ref.go:66", after := #[{ on := 4, ground := Ground.data }, { on := 8, ground := Ground.data }], guard := none }, { dst := (some 55), op := (Op.binOp BinOp.add 3 (Operand.tmp 45) (Operand.tmp 54) 3), type := 3, pos := "ref.go:66", after := #[{ on := 0, ground := Ground.data }, { on := 9, ground := Ground.data }], guard := none }, { dst := (some 9), op := (Op.assign (Operand.tmp 55)), type := 3, pos := "ref.go:66", after := #[{ on := 10, ground := Ground.data }, { on := 0, ground := Ground.phase }, { on := 1, ground := Ground.phase }, { on := 2, ground := Ground.phase }, { on := 3, ground := Ground.phase }, { on := 4, ground := Ground.phase }, { on := 5, ground := Ground.phase }, { on := 6, ground := Ground.phase }, { on := 7, ground := Ground.phase }, { on := 8, ground := Ground.phase }, { on := 9, ground := Ground.phase }, { on := 10, ground := Ground.phase }], guard := none }] true) Code.skip)) (Code.seq (Code.region 12 #[{ dst := (some 56), op := (Op.move (Operand.tmp 5)), type := 22, pos := "ref.go:68", after := #[], guard := none }, { dst := (some 57), op := (Op.move (Operand.tmp 6)), type := 3, pos := "ref.go:68", after := #[], guard := none }, { dst := (some 58), op := (Op.move (Operand.tmp 8)), type := 3, pos := "ref.go:68", after := #[], guard := none }, { dst := (some 59), op := (Op.binOp BinOp.add 3 (Operand.tmp 57) (Operand.tmp 58) 3), type := 3, pos := "ref.go:68", after := #[{ on := 1, ground := Ground.data }, { on := 2, ground := Ground.data }], guard := none }, { dst := (some 60), op := (Op.move (Operand.tmp 9)), type := 3, pos := "ref.go:68", after := #[], guard := none }, { dst := (some 61), op := (Op.binOp BinOp.rem 3 (Operand.tmp 60) (Operand.const (Value.int IntKind.i64 65536)) 3), type := 3, pos := "ref.go:68", after := #[{ on := 4, ground := Ground.data }], guard := none }, { dst := (some 62), op := (Op.indexAddr 22 (Operand.tmp 56) (Operand.tmp 59)), type := 0, pos := "ref.go:68", after := #[{ on := 0, ground := Ground.data }, { on := 3, ground := Ground.data }, { on := 0, ground := Ground.phase }, { on := 1, ground := Ground.phase }, { on := 2, ground := Ground.phase }, { on := 3, ground := Ground.phase }, { on := 4, ground := Ground.phase }, { on := 5, ground := Ground.phase }], guard := none }, { dst := none, op := (Op.store 3 (Operand.tmp 62) (Operand.tmp 61)), type := 0, pos := "ref.go:68", after := #[{ on := 6, ground := Ground.data }, { on := 5, ground := Ground.data }, { on := 0, ground := Ground.phase }, { on := 1, ground := Ground.phase }, { on := 2, ground := Ground.phase }, { on := 3, ground := Ground.phase }, { on := 4, ground := Ground.phase }, { on := 5, ground := Ground.phase }], guard := none }] false) (Code.region 13 #[{ dst := (some 63), op := (Op.move (Operand.tmp 9)), type := 3, pos := "ref.go:69", after := #[], guard := none }, { dst := (some 64), op := (Op.binOp BinOp.quo 3 (Operand.tmp 63) (Operand.const (Value.int IntKind.i64 65536)) 3), type := 3, pos := "ref.go:69", after := #[{ on := 0, ground := Ground.data }], guard := none }, { dst := (some 7), op := (Op.assign (Operand.tmp 64)), type := 3, pos := "ref.go:69", after := #[{ on := 1, ground := Ground.data }, { on := 0, ground := Ground.phase }, { on := 1, ground := Ground.phase }], guard := none }] false))))) (Code.region 8 #[{ dst := (some 31), op := (Op.move (Operand.tmp 8)), type := 3, pos := "ref.go:63", after := #[], guard := none }, { dst := (some 32), op := (Op.binOp BinOp.add 3 (Operand.tmp 31) (Operand.const (Value.int IntKind.i64 1)) 3), type := 3, pos := "ref.go:63", after := #[{ on := 0, ground := Ground.data }], guard := none }, { dst := (some 8), op := (Op.assign (Operand.tmp 32)), type := 3, pos := "ref.go:63", after := #[{ on := 1, ground := Ground.data }, { on := 0, ground := Ground.phase }, { on := 1, ground := Ground.phase }], guard := none }] false)))

/-- the row's state -/
structure TRow (a b : List Nat) (O0 O : List Nat) (i k c : Nat) : Prop where
  len : O.length = a.length + b.length + 1
  lt : ∀ x, x ∈ O → x < 65536
  cl : c < 65536
  val : val16 O + c * 65536 ^ (i + k) = val16 O0 + a.getD i 0 * val16 (b.take k) * 65536 ^ i
  zero : ∀ j, i + k ≤ j → i + b.length ≤ j → O.getD j 0 = 0

section
variable (a b : List Nat) (ha : ∀ x, x ∈ a → x < 65536) (hb : ∀ x, x ∈ b → x < 65536) (hla : a.length ≤ 1000) (hlb : b.length ≤ 1000)
variable (ba ao cpa bb bo cpb : Nat) (ca cb : List Value) (hca : At ca ao (dn a)) (hcb : At cb bo (dn b)) (ra rb : Bool)
include ha hb hla hlb hca hcb

omit ha hb hla hlb hca hcb in
theorem TRow.step {O0 O : List Nat} {i k c : Nat} (h : TRow a b O0 O i k c) (hi : i < a.length) (hk : k < b.length) (hA : a.getD i 0 < 65536) (hB : b.getD k 0 < 65536) :
    TRow a b O0 (O.set (i + k) ((O.getD (i + k) 0 + c + a.getD i 0 * b.getD k 0) % 65536)) i (k + 1) ((O.getD (i + k) 0 + c + a.getD i 0 * b.getD k 0) / 65536) := by
  obtain ⟨h1, h2, h3, h4, h5⟩ := h
  have hO := getD_lt h2 (i + k)
  have hprod := Nat.mul_le_mul (show a.getD i 0 ≤ 65535 by omega) (show b.getD k 0 ≤ 65535 by omega)
  refine ⟨by simp [h1], fun x hx => ?_, by omega, ?_, fun j hj hj2 => ?_⟩
  · rcases List.mem_or_eq_of_mem_set hx with hx | rfl
    · exact h2 x hx
    · exact Nat.mod_lt _ (by decide)
  · have hs := val16_set O (i + k) ((O.getD (i + k) 0 + c + a.getD i 0 * b.getD k 0) % 65536) (by omega)
    have ht := val16_take b k hk
    rw [ht]
    have hdm := Nat.div_add_mod (O.getD (i + k) 0 + c + a.getD i 0 * b.getD k 0) 65536
    generalize (O.getD (i + k) 0 + c + a.getD i 0 * b.getD k 0) % 65536 = m at *
    generalize (O.getD (i + k) 0 + c + a.getD i 0 * b.getD k 0) / 65536 = q at *
    generalize val16 (O.set (i + k) m) = V at *
    generalize O.getD (i + k) 0 = o at *
    generalize a.getD i 0 = A at *
    generalize b.getD k 0 = B at *
    generalize val16 (b.take k) = T at *
    have e1 : (65536 : Nat) ^ (i + (k + 1)) = 65536 * 65536 ^ (i + k) := by rw [← Nat.add_assoc, Nat.pow_succ, Nat.mul_comm]
    have e2 : (65536 : Nat) ^ (i + k) = 65536 ^ k * 65536 ^ i := by rw [Nat.add_comm, Nat.pow_add]
    rw [e1]
    have e3 : A * (T + B * 65536 ^ k) * 65536 ^ i = A * T * 65536 ^ i + A * B * 65536 ^ (i + k) := by
      rw [e2, Nat.mul_add, Nat.add_mul]; congr 1; simp only [Nat.mul_assoc]
    rw [e3]
    generalize (65536 : Nat) ^ (i + k) = W at *
    have e4 : q * (65536 * W) = (65536 * q) * W := by rw [← Nat.mul_assoc, Nat.mul_comm q]
    rw [e4]
    have e5 : 65536 * q * W + m * W = o * W + c * W + A * B * W := by rw [← Nat.add_mul, hdm, Nat.add_mul, Nat.add_mul]
    omega
  · have : (O.set (i + k) ((O.getD (i + k) 0 + c + a.getD i 0 * b.getD k 0) % 65536)).getD j 0 = O.getD j 0 := by
      simp only [List.getD_eq_getElem?_getD]
      rw [List.getElem?_set_ne (by omega)]
    rw [this]; exact h5 j (by omega) hj2

omit ha hb hla hlb hca hcb in
theorem TRow.last {O0 O : List Nat} {i c : Nat} (h : TRow a b O0 O i b.length c) (hi : i < a.length) :
    TRow a b O0 (O.set (i + b.length) ((O.getD (i + b.length) 0 + c) % 65536)) i (b.length + 1) 0 ∧ (O.getD (i + b.length) 0 + c) / 65536 = 0 := by
  obtain ⟨h1, h2, h3, h4, h5⟩ := h
  have h0 := h5 (i + b.length) (by omega) (by omega)
  rw [h0, Nat.zero_add, Nat.mod_eq_of_lt h3]
  refine ⟨⟨by simp [h1], fun x hx => ?_, by decide, ?_, fun j hj hj2 => ?_⟩, by omega⟩
  · rcases List.mem_or_eq_of_mem_set hx with hx | rfl
    · exact h2 x hx
    · exact h3
  · have hs := val16_set O (i + b.length) c (by omega)
    rw [h0] at hs
    have : b.take (b.length + 1) = b.take b.length := by rw [List.take_of_length_le (by omega), List.take_of_length_le (by omega)]
    rw [this, ← h4]; omega
  · have : (O.set (i + b.length) c).getD j 0 = O.getD j 0 := by
      simp only [List.getD_eq_getElem?_getD]
      rw [List.getElem?_set_ne (by omega)]
    rw [this]; exact h5 j (by omega) hj2

theorem times_in {g : Gh} (hg : g.n = 66) (O0 : List Nat) (x0 : Value) (bO : Nat) (i : Nat) (hi : i < a.length) : ∀ (r k c : Nat) (O : List Nat), k + r = b.length + 1 → TRow a b O0 O i k c → (k = b.length + 1 → c = 0) →
    WpL Try.prog g loop146b (fun e env mem => e = .exit 2 ∧ ∃ O k, TRow a b O0 O i k 0 ∧ b.length ≤ k ∧ k ≤ b.length + 1 ∧ Wk g env mem [(0, .slice (some ⟨ba, ao, none⟩) a.length cpa), (1, .slice (some ⟨bb, bo, none⟩) b.length cpb), (5, .slice (some ⟨bO, 0, none⟩) (a.length + b.length + 1) (a.length + b.length + 1)), (6, i64 i)] [⟨bO, dn O, true⟩, ⟨ba, ca, ra⟩, ⟨bb, cb, rb⟩])
      [(0, .slice (some ⟨ba, ao, none⟩) a.length cpa), (1, .slice (some ⟨bb, bo, none⟩) b.length cpb), (5, .slice (some ⟨bO, 0, none⟩) (a.length + b.length + 1) (a.length + b.length + 1)), (6, i64 i), (7, i64 c), (8, i64 k)]
      [⟨bO, dn O, true⟩, ⟨ba, ca, ra⟩, ⟨bb, cb, rb⟩] := by
  obtain ⟨gn, w0, may⟩ := g
  obtain rfl : gn = 66 := hg
  intro r
  induction r with
  | zero =>
    intro k c O hk hT hc
    have hc0 := hc (by omega)
    subst hc0
    refine WpL.step ?_
    refine Wp.seq ?_
    refine Wp.seq ?_
    refine Wp.reg allGen ?_
    refine Tr.move rfl rfl trivial rfl ?_
    refine Tr.move rfl rfl trivial rfl ?_
    refine Tr.lenS tab rfl rfl rfl rfl trivial rfl ?_
    refine Tr.lss (r := false) rfl rfl (by first | with_reducible assumption | exact decide_eq_true (by omega) | exact decide_eq_false (by omega) | exact beq_iff_eq.2 (by omega) | exact beq_eq_false_iff_ne.2 (by omega) | exact bne_iff_ne.2 (by omega) | rfl) rfl trivial rfl ?_
    refine Tr.move rfl rfl trivial rfl ?_
    first | refine Tr.skp rfl ⟨_, _, rfl, rfl, by first | exact .inl rfl | exact .inr rfl⟩ ?_ | (refine Tr.move rfl rfl ⟨_, rfl, rfl⟩ rfl ?_)
    first | refine Tr.skp rfl ⟨_, _, rfl, rfl, by first | exact .inl rfl | exact .inr rfl⟩ ?_ | (refine Tr.gtr rfl rfl (by first | with_reducible assumption | exact decide_eq_true (by omega) | exact decide_eq_false (by omega) | exact beq_iff_eq.2 (by omega) | exact beq_eq_false_iff_ne.2 (by omega) | exact bne_iff_ne.2 (by omega) | rfl) rfl ⟨_, rfl, rfl⟩ rfl ?_)
    first | refine Tr.pickT rfl rfl rfl trivial rfl ?_ | refine Tr.pickF rfl rfl rfl trivial rfl ?_
    refine Tr.nil ?_ (fun _ => rfl) (List.Perm.refl _)
    refine Wp.condF rfl ?_
    refine Wp.exit ?_
    exact ⟨rfl, O, k, hT, by omega, by omega, Wk.mk (by repeat (first | exact ESub.nil | refine ESub.cons rfl (by first | rfl | (simp; done) | (simp; omega)) ?_)) (by repeat (first | exact MSub.nil | refine MSub.cons (by repeat (first | exact .here | apply Pick.there | apply Pick.append)) (by first | rfl | (simp; done)) ?_))⟩
  | succ r ih =>
    intro k c O hk hT hc
    have hOl : (dn O).length = a.length + b.length + 1 := by simp [hT.len]
    have hO := getD_lt hT.lt (i + k)
    have hcl := hT.cl
    have gO := at_get (fun n : Nat => i64 (n : Int)) (At.all (dn O)) 0 (j := i + k) (by have := hT.len; omega) (k := (i : Int) + (k : Int)) (by omega)
    rw [Nat.zero_add] at gO
    have hidx : ((i : Int) + (k : Int)).toNat = i + k := by omega
    have hset : ∀ v : Nat, (dn O).set (i + k) (i64 (v : Int)) = dn (O.set (i + k) v) := fun v => (List.map_set (f := fun n : Nat => i64 (n : Int))).symm
    by_cases hkb : k < b.length
    · have hA := getD_lt ha i
      have hB := getD_lt hb k
      have gA := at_get (fun n : Nat => i64 (n : Int)) hca 0 (j := i) hi (k := (i : Int)) rfl
      have gB := at_get (fun n : Nat => i64 (n : Int)) hcb 0 (j := k) hkb (k := (k : Int)) rfl
      have hstep := hT.step a b hi hkb hA hB
      have hih := ih (k + 1) _ _ (by omega) hstep (fun h => by omega)
      have hprod : ((a.getD i 0 : Nat) : Int) * ((b.getD k 0 : Nat) : Int) = ((a.getD i 0 * b.getD k 0 : Nat) : Int) := (Int.natCast_mul _ _).symm
      have hpl := Nat.mul_le_mul (show a.getD i 0 ≤ 65535 by omega) (show b.getD k 0 ≤ 65535 by omega)
      rw [← hset] at hih
      generalize O.getD (i + k) 0 = o at *
      generalize hp : a.getD i 0 * b.getD k 0 = p at *
      have hm54 : IntKind.i64.wrap (((a.getD i 0 : Nat) : Int) * ((b.getD k 0 : Nat) : Int)) = (p : Int) := by rw [hprod]; exact wrap_i64 (by omega) (by omega)
      have hr : ((o : Int) + (c : Int) + (p : Int)).tmod 65536 = (((o + c + p) % 65536 : Nat) : Int) := by rw [show (o : Int) + (c : Int) + (p : Int) = ((o + c + p : Nat) : Int) by omega]; exact tmodN _ 65536
      have hq : IntKind.i64.wrap (((o : Int) + (c : Int) + (p : Int)).tdiv 65536) = (((o + c + p) / 65536 : Nat) : Int) := by
        rw [show (o : Int) + (c : Int) + (p : Int) = ((o + c + p : Nat) : Int) by omega, show (((o + c + p : Nat) : Int)).tdiv 65536 = (((o + c + p) / 65536 : Nat) : Int) from tdivN _ 65536]; exact wrap_i64 (by omega) (by omega)
      rw [← hidx] at hih
      refine WpL.step ?_
      refine Wp.seq ?_
      refine Wp.seq ?_
      refine Wp.reg allGen ?_
      refine Tr.move rfl rfl trivial rfl ?_
      refine Tr.move rfl rfl trivial rfl ?_
      refine Tr.lenS tab rfl rfl rfl rfl trivial rfl ?_
      refine Tr.lss (r := true) rfl rfl (by first | with_reducible assumption | exact decide_eq_true (by omega) | exact decide_eq_false (by omega) | exact beq_iff_eq.2 (by omega) | exact beq_eq_false_iff_ne.2 (by omega) | exact bne_iff_ne.2 (by omega) | rfl) rfl trivial rfl ?_
      refine Tr.move rfl rfl trivial rfl ?_
      first | refine Tr.skp rfl ⟨_, _, rfl, rfl, by first | exact .inl rfl | exact .inr rfl⟩ ?_ | (refine Tr.move rfl rfl ⟨_, rfl, rfl⟩ rfl ?_)
      first | refine Tr.skp rfl ⟨_, _, rfl, rfl, by first | exact .inl rfl | exact .inr rfl⟩ ?_ | (refine Tr.gtr rfl rfl (by first | with_reducible assumption | exact decide_eq_true (by omega) | exact decide_eq_false (by omega) | exact beq_iff_eq.2 (by omega) | exact beq_eq_false_iff_ne.2 (by omega) | exact bne_iff_ne.2 (by omega) | rfl) rfl ⟨_, rfl, rfl⟩ rfl ?_)
      first | refine Tr.pickT rfl rfl rfl trivial rfl ?_ | refine Tr.pickF rfl rfl rfl trivial rfl ?_
      refine Tr.nil ?_ (fun _ => rfl) (List.Perm.refl _)
      refine Wp.condT rfl ?_
      refine Wp.skip ?_
      refine Wp.seq ?_
      refine Wp.block ?_
      refine Wp.seq ?_
      refine Wp.reg allGen ?_
      refine Tr.move rfl rfl trivial rfl ?_
      refine Tr.move rfl rfl trivial rfl ?_
      refine Tr.move rfl rfl trivial rfl ?_
      refine Tr.add rfl rfl (by first | exact wrap_i64 (by omega) (by omega) | rfl) rfl trivial rfl ?_
      first | refine Tr.indexAddrS01 tab rfl rfl rfl rfl rfl (by omega) (by omega) rfl trivial rfl ?_ | refine Tr.indexAddrS1 tab rfl rfl rfl rfl rfl (by omega) (by omega) rfl trivial rfl ?_
      refine Tr.loadS tab rfl rfl rfl (by repeat (first | exact .head _ | refine .tail _ ?_ | refine List.mem_append_right _ ?_)) (by first | rfl | with_reducible assumption | assumption | (simp; done)) rfl trivial rfl ?_
      refine Tr.move rfl rfl trivial rfl ?_
      refine Tr.add rfl rfl (by first | exact wrap_i64 (by omega) (by omega) | rfl) rfl trivial rfl ?_
      refine Tr.assign rfl rfl trivial rfl ?_
      refine Tr.nil ?_ (fun _ => rfl) (List.Perm.refl _)
      refine Wp.seq ?_
      refine Wp.seq ?_
      refine Wp.reg allGen ?_
      refine Tr.move rfl rfl trivial rfl ?_
      refine Tr.move rfl rfl trivial rfl ?_
      refine Tr.lenS tab rfl rfl rfl rfl trivial rfl ?_
      refine Tr.lss rfl rfl (by first | with_reducible assumption | exact decide_eq_true (by omega) | exact decide_eq_false (by omega) | exact beq_iff_eq.2 (by omega) | exact beq_eq_false_iff_ne.2 (by omega) | exact bne_iff_ne.2 (by omega) | rfl) rfl trivial rfl ?_
      refine Tr.nil ?_ (fun _ => rfl) (List.Perm.refl _)
      refine Wp.condT rfl ?_
      refine Wp.regE kindOf mo (by kernel_rfl) ?_
      refine Tr.move rfl rfl trivial rfl ?_
      refine Tr.move rfl rfl trivial rfl ?_
      refine Tr.move rfl rfl trivial rfl ?_
      first | refine Tr.indexAddrS01 tab rfl rfl rfl rfl rfl (by omega) (by omega) rfl trivial rfl ?_ | refine Tr.indexAddrS1 tab rfl rfl rfl rfl rfl (by omega) (by omega) rfl trivial rfl ?_
      refine Tr.loadS tab rfl rfl rfl (by repeat (first | exact .head _ | refine .tail _ ?_ | refine List.mem_append_right _ ?_)) (by first | rfl | with_reducible assumption | assumption | (simp; done)) rfl trivial rfl ?_
      refine Tr.move rfl rfl trivial rfl ?_
      refine Tr.move rfl rfl trivial rfl ?_
      first | refine Tr.indexAddrS01 tab rfl rfl rfl rfl rfl (by omega) (by omega) rfl trivial rfl ?_ | refine Tr.indexAddrS1 tab rfl rfl rfl rfl rfl (by omega) (by omega) rfl trivial rfl ?_
      refine Tr.loadS tab rfl rfl rfl (by repeat (first | exact .head _ | refine .tail _ ?_ | refine List.mem_append_right _ ?_)) (by first | rfl | with_reducible assumption | assumption | (simp; done)) rfl trivial rfl ?_
      refine Tr.mul rfl rfl hm54 rfl trivial rfl ?_
      refine Tr.add rfl rfl (by first | exact wrap_i64 (by omega) (by omega) | rfl) rfl trivial rfl ?_
      refine Tr.assign rfl rfl trivial rfl ?_
      refine Tr.nil ?_ (fun _ => rfl) (List.Perm.refl _)
      refine Wp.seq ?_
      refine Wp.reg allGen ?_
      refine Tr.move rfl rfl trivial rfl ?_
      refine Tr.move rfl rfl trivial rfl ?_
      refine Tr.move rfl rfl trivial rfl ?_
      refine Tr.add rfl rfl (by first | exact wrap_i64 (by omega) (by omega) | rfl) rfl trivial rfl ?_
      refine Tr.move rfl rfl trivial rfl ?_
      refine Tr.rem rfl rfl (by omega) hr rfl trivial rfl ?_
      first | refine Tr.indexAddrS01 tab rfl rfl rfl rfl rfl (by omega) (by omega) rfl trivial rfl ?_ | refine Tr.indexAddrS1 tab rfl rfl rfl rfl rfl (by omega) (by omega) rfl trivial rfl ?_
      refine Tr.storeS tab rfl rfl rfl rfl (by repeat (first | exact .here | apply MU.there | apply MU.app)) (by omega) trivial rfl ?_
      refine Tr.nil ?_ (fun _ => rfl) (List.Perm.refl _)
      refine Wp.reg allGen ?_
      refine Tr.move rfl rfl trivial rfl ?_
      refine Tr.quo rfl rfl (by omega) hq rfl trivial rfl ?_
      refine Tr.assign rfl rfl trivial rfl ?_
      refine Tr.nil ?_ (fun _ => rfl) (List.Perm.refl _)
      refine Wp.reg allGen ?_
      refine Tr.move rfl rfl trivial rfl ?_
      refine Tr.add rfl rfl (by first | exact wrap_i64 (by omega) (by omega) | rfl) rfl trivial rfl ?_
      refine Tr.assign rfl rfl trivial rfl ?_
      refine Tr.nil ?_ (fun _ => rfl) (List.Perm.refl _)
      exact WpL.weak hih (Wk.mk (by repeat (first | exact ESub.nil | refine ESub.cons rfl (by first | rfl | (simp; done) | (simp; omega)) ?_)) (by repeat (first | exact MSub.nil | refine MSub.cons (by repeat (first | exact .here | apply Pick.there | apply Pick.append)) (by first | rfl | (simp; done)) ?_)))
    · have hkb' : k = b.length := by omega
      by_cases hc0 : c = 0
      · subst hc0
        refine WpL.step ?_
        refine Wp.seq ?_
        refine Wp.seq ?_
        refine Wp.reg allGen ?_
        refine Tr.move rfl rfl trivial rfl ?_
        refine Tr.move rfl rfl trivial rfl ?_
        refine Tr.lenS tab rfl rfl rfl rfl trivial rfl ?_
        refine Tr.lss (r := false) rfl rfl (by first | with_reducible assumption | exact decide_eq_true (by omega) | exact decide_eq_false (by omega) | exact beq_iff_eq.2 (by omega) | exact beq_eq_false_iff_ne.2 (by omega) | exact bne_iff_ne.2 (by omega) | rfl) rfl trivial rfl ?_
        refine Tr.move rfl rfl trivial rfl ?_
        first | refine Tr.skp rfl ⟨_, _, rfl, rfl, by first | exact .inl rfl | exact .inr rfl⟩ ?_ | (refine Tr.move rfl rfl ⟨_, rfl, rfl⟩ rfl ?_)
        first | refine Tr.skp rfl ⟨_, _, rfl, rfl, by first | exact .inl rfl | exact .inr rfl⟩ ?_ | (refine Tr.gtr rfl rfl (by first | with_reducible assumption | exact decide_eq_true (by omega) | exact decide_eq_false (by omega) | exact beq_iff_eq.2 (by omega) | exact beq_eq_false_iff_ne.2 (by omega) | exact bne_iff_ne.2 (by omega) | rfl) rfl ⟨_, rfl, rfl⟩ rfl ?_)
        first | refine Tr.pickT rfl rfl rfl trivial rfl ?_ | refine Tr.pickF rfl rfl rfl trivial rfl ?_
        refine Tr.nil ?_ (fun _ => rfl) (List.Perm.refl _)
        refine Wp.condF rfl ?_
        refine Wp.exit ?_
        exact ⟨rfl, O, k, hT, by omega, by omega, Wk.mk (by repeat (first | exact ESub.nil | refine ESub.cons rfl (by first | rfl | (simp; done) | (simp; omega)) ?_)) (by repeat (first | exact MSub.nil | refine MSub.cons (by repeat (first | exact .here | apply Pick.there | apply Pick.append)) (by first | rfl | (simp; done)) ?_))⟩
      · subst hkb'
        obtain ⟨hlast, hz⟩ := hT.last a b hi
        have hih := ih (b.length + 1) _ _ (by omega) hlast (fun _ => rfl)
        rw [← hset] at hih
        generalize O.getD (i + b.length) 0 = o at *
        have hr : ((o : Int) + (c : Int)).tmod 65536 = (((o + c) % 65536 : Nat) : Int) := by rw [show (o : Int) + (c : Int) = ((o + c : Nat) : Int) by omega]; exact tmodN _ 65536
        have hq : IntKind.i64.wrap (((o : Int) + (c : Int)).tdiv 65536) = ((0 : Nat) : Int) := by
          rw [show (o : Int) + (c : Int) = ((o + c : Nat) : Int) by omega, show (((o + c : Nat) : Int)).tdiv 65536 = (((o + c) / 65536 : Nat) : Int) from tdivN _ 65536, hz]; exact wrap_i64 (by omega) (by omega)
        rw [← hidx] at hih
        refine WpL.step ?_
        refine Wp.seq ?_
        refine Wp.seq ?_
        refine Wp.reg allGen ?_
        refine Tr.move rfl rfl trivial rfl ?_
        refine Tr.move rfl rfl trivial rfl ?_
        refine Tr.lenS tab rfl rfl rfl rfl trivial rfl ?_
        refine Tr.lss (r := false) rfl rfl (by first | with_reducible assumption | exact decide_eq_true (by omega) | exact decide_eq_false (by omega) | exact beq_iff_eq.2 (by omega) | exact beq_eq_false_iff_ne.2 (by omega) | exact bne_iff_ne.2 (by omega) | rfl) rfl trivial rfl ?_
        refine Tr.move rfl rfl trivial rfl ?_
        first | refine Tr.skp rfl ⟨_, _, rfl, rfl, by first | exact .inl rfl | exact .inr rfl⟩ ?_ | (refine Tr.move rfl rfl ⟨_, rfl, rfl⟩ rfl ?_)
        first | refine Tr.skp rfl ⟨_, _, rfl, rfl, by first | exact .inl rfl | exact .inr rfl⟩ ?_ | (refine Tr.gtr rfl rfl (by first | with_reducible assumption | exact decide_eq_true (by omega) | exact decide_eq_false (by omega) | exact beq_iff_eq.2 (by omega) | exact beq_eq_false_iff_ne.2 (by omega) | exact bne_iff_ne.2 (by omega) | rfl) rfl ⟨_, rfl, rfl⟩ rfl ?_)
        first | refine Tr.pickT rfl rfl rfl trivial rfl ?_ | refine Tr.pickF rfl rfl rfl trivial rfl ?_
        refine Tr.nil ?_ (fun _ => rfl) (List.Perm.refl _)
        refine Wp.condT rfl ?_
        refine Wp.skip ?_
        refine Wp.seq ?_
        refine Wp.block ?_
        refine Wp.seq ?_
        refine Wp.reg allGen ?_
        refine Tr.move rfl rfl trivial rfl ?_
        refine Tr.move rfl rfl trivial rfl ?_
        refine Tr.move rfl rfl trivial rfl ?_
        refine Tr.add rfl rfl (by first | exact wrap_i64 (by omega) (by omega) | rfl) rfl trivial rfl ?_
        first | refine Tr.indexAddrS01 tab rfl rfl rfl rfl rfl (by omega) (by omega) rfl trivial rfl ?_ | refine Tr.indexAddrS1 tab rfl rfl rfl rfl rfl (by omega) (by omega) rfl trivial rfl ?_
        refine Tr.loadS tab rfl rfl rfl (by repeat (first | exact .head _ | refine .tail _ ?_ | refine List.mem_append_right _ ?_)) (by first | rfl | with_reducible assumption | assumption | (simp; done)) rfl trivial rfl ?_
        refine Tr.move rfl rfl trivial rfl ?_
        refine Tr.add rfl rfl (by first | exact wrap_i64 (by omega) (by omega) | rfl) rfl trivial rfl ?_
        refine Tr.assign rfl rfl trivial rfl ?_
        refine Tr.nil ?_ (fun _ => rfl) (List.Perm.refl _)
        refine Wp.seq ?_
        refine Wp.seq ?_
        refine Wp.reg allGen ?_
        refine Tr.move rfl rfl trivial rfl ?_
        refine Tr.move rfl rfl trivial rfl ?_
        refine Tr.lenS tab rfl rfl rfl rfl trivial rfl ?_
        refine Tr.lss rfl rfl (by first | with_reducible assumption | exact decide_eq_true (by omega) | exact decide_eq_false (by omega) | exact beq_iff_eq.2 (by omega) | exact beq_eq_false_iff_ne.2 (by omega) | exact bne_iff_ne.2 (by omega) | rfl) rfl trivial rfl ?_
        refine Tr.nil ?_ (fun _ => rfl) (List.Perm.refl _)
        refine Wp.condF rfl ?_
        refine Wp.skip ?_
        refine Wp.seq ?_
        refine Wp.reg allGen ?_
        refine Tr.move rfl rfl trivial rfl ?_
        refine Tr.move rfl rfl trivial rfl ?_
        refine Tr.move rfl rfl trivial rfl ?_
        refine Tr.add rfl rfl (by first | exact wrap_i64 (by omega) (by omega) | rfl) rfl trivial rfl ?_
        refine Tr.move rfl rfl trivial rfl ?_
        refine Tr.rem rfl rfl (by omega) hr rfl trivial rfl ?_
        first | refine Tr.indexAddrS01 tab rfl rfl rfl rfl rfl (by omega) (by omega) rfl trivial rfl ?_ | refine Tr.indexAddrS1 tab rfl rfl rfl rfl rfl (by omega) (by omega) rfl trivial rfl ?_
        refine Tr.storeS tab rfl rfl rfl rfl (by repeat (first | exact .here | apply MU.there | apply MU.app)) (by omega) trivial rfl ?_
        refine Tr.nil ?_ (fun _ => rfl) (List.Perm.refl _)
        refine Wp.reg allGen ?_
        refine Tr.move rfl rfl trivial rfl ?_
        refine Tr.quo rfl rfl (by omega) hq rfl trivial rfl ?_
        refine Tr.assign rfl rfl trivial rfl ?_
        refine Tr.nil ?_ (fun _ => rfl) (List.Perm.refl _)
        refine Wp.reg allGen ?_
        refine Tr.move rfl rfl trivial rfl ?_
        refine Tr.add rfl rfl (by first | exact wrap_i64 (by omega) (by omega) | rfl) rfl trivial rfl ?_
        refine Tr.assign rfl rfl trivial rfl ?_
        refine Tr.nil ?_ (fun _ => rfl) (List.Perm.refl _)
        exact WpL.weak hih (Wk.mk (by repeat (first | exact ESub.nil | refine ESub.cons rfl (by first | rfl | (simp; done) | (simp; omega)) ?_)) (by repeat (first | exact MSub.nil | refine MSub.cons (by repeat (first | exact .here | apply Pick.there | apply Pick.append)) (by first | rfl | (simp; done)) ?_)))
end
end Go.Proofs.Ytffghaeaohabhaa.AW
