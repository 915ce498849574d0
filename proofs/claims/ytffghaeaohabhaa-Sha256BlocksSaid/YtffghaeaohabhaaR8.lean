import Derived.Test.YtffghaeaohabhaaR7
import Derived.Test.YtffghaeaohabhaaR4
namespace Go.Proofs.Ytffghaeaohabhaa.AW
open Go NT
set_option maxRecDepth 100000

/-! ### Primes -/
abbrev iv (l : List Int) : List Value := l.map i64

theorem pl_ref : (List.range 542).all (fun x => decide (x < 2) || (primeB x (pl x) == (pl x).all (fun q => (x : Int).tmod q != 0))) = true := by decide +kernel

theorem primeB_ref {x : Nat} (h2 : 2 ≤ x) (hx : x < 542) : primeB x (pl x) = (pl x).all (fun q => (x : Int).tmod q != 0) := by
  have := List.all_eq_true.1 pl_ref x (List.mem_range.2 hx)
  rw [decide_eq_false (by omega), Bool.false_or] at this
  exact eq_of_beq this

def loop25a : Code := (Code.seq (Code.seq (Code.region 3 #[{ dst := (some 7), op := (Op.move (Operand.tmp 3)), type := 22, pos := "ref.go:9", after := #[], guard := none }, { dst := (some 8), op := (Op.call { callee := (Callee.builtin Builtin.len), args := #[(Operand.tmp 7)], argTypes := #[22] }), type := 3, pos := "ref.go:9", after := #[{ on := 0, ground := Ground.data }], guard := none }, { dst := (some 9), op := (Op.move (Operand.tmp 0)), type := 3, pos := "ref.go:9", after := #[], guard := none }, { dst := (some 10), op := (Op.binOp BinOp.lss 3 (Operand.tmp 8) (Operand.tmp 9) 3), type := 4, pos := "ref.go:9", after := #[{ on := 1, ground := Ground.data }, { on := 2, ground := Ground.data }], guard := none }] false) (Code.cond (Operand.tmp 10) Code.skip (Code.exit 0))) (Code.seq (Code.block 1 (Code.seq (Code.region 5 #[{ dst := (some 5), op := (Op.assign (Operand.const (Value.bool true))), type := 4, pos := "ref.go:10", after := #[], guard := none }] false) (Code.seq (Code.seq (Code.region 6 #[{ dst := (some 6), op := (Op.assign (Operand.const (Value.int IntKind.i64 0))), type := 3, pos := "ref.go:11", after := #[], guard := none }] false) (Code.block 2 (Code.loop (Code.seq (Code.seq (Code.region 7 #[{ dst := (some 13), op := (Op.move (Operand.tmp 6)), type := 3, pos := "ref.go:11", after := #[], guard := none }, { dst := (some 14), op := (Op.move (Operand.tmp 3)), type := 22, pos := "ref.go:11", after := #[], guard := none }, { dst := (some 15), op := (Op.call { callee := (Callee.builtin Builtin.len), args := #[(Operand.tmp 14)], argTypes := #[22] }), type := 3, pos := "ref.go:11", after := #[{ on := 1, ground := Ground.data }], guard := none }, { dst := (some 16), op := (Op.binOp BinOp.lss 3 (Operand.tmp 13) (Operand.tmp 15) 3), type := 4, pos := "ref.go:11", after := #[{ on := 0, ground := Ground.data }, { on := 2, ground := Ground.data }], guard := none }] false) (Code.cond (Operand.tmp 16) Code.skip (Code.exit 2))) (Code.seq (Code.block 3 (Code.region 9 #[{ dst := (some 19), op := (Op.move (Operand.tmp 5)), type := 4, pos := "ref.go:12", after := #[], guard := none }, { dst := (some 20), op := (Op.move (Operand.tmp 19)), type := 4, pos := "ref.go:12", after := #[{ on := 0, ground := Ground.data }], guard := none }, { dst := (some 21), op := (Op.move (Operand.tmp 4)), type := 3, pos := "ref.go:12", after := #[{ on := 1, ground := Ground.guard }], guard := (some (1, true)) }, { dst := (some 22), op := (Op.move (Operand.tmp 3)), type := 22, pos := "ref.go:12", after := #[{ on := 1, ground := Ground.guard }], guard := (some (1, true)) }, { dst := (some 23), op := (Op.move (Operand.tmp 6)), type := 3, pos := "ref.go:12", after := #[{ on := 1, ground := Ground.guard }], guard := (some (1, true)) }, { dst := (some 24), op := (Op.indexAddr 22 (Operand.tmp 22) (Operand.tmp 23)), type := 0, pos := "ref.go:12", after := #[{ on := 3, ground := Ground.data }, { on := 4, ground := Ground.data }, { on := 1, ground := Ground.guard }], guard := (some (1, true)) }, { dst := (some 25), op := (Op.load 3 (Operand.tmp 24)), type := 3, pos := "ref.go:12", after := #[{ on := 5, ground := Ground.data }, { on := 1, ground := Ground.guard }], guard := (some (1, true)) }, { dst := (some 26), op := (Op.binOp BinOp.rem 3 (Operand.tmp 21) (Operand.tmp 25) 3), type := 3, pos := "ref.go:12", after := #[{ on := 2, ground := Ground.data }, { on := 6, ground := Ground.data }, { on := 1, ground := Ground.guard }], guard := (some (1, true)) }, { dst := (some 27), op := (Op.binOp BinOp.neq 3 (Operand.tmp 26) (Operand.const (Value.int IntKind.i64 0)) 3), type := 4, pos := "ref.go:12", after := #[{ on := 7, ground := Ground.data }, { on := 1, ground := Ground.guard }], guard := (some (1, true)) }, { dst := (some 28), op := (Op.pick (Operand.tmp 20) (Operand.tmp 27) (Operand.const (Value.bool false))), type := 4, pos := "ref.go:12", after := #[{ on := 1, ground := Ground.data }, { on := 8, ground := Ground.data }], guard := none }, { dst := (some 5), op := (Op.assign (Operand.tmp 28)), type := 4, pos := "ref.go:12", after := #[{ on := 9, ground := Ground.data }, { on := 1, ground := Ground.chain }, { on := 0, ground := Ground.phase }, { on := 1, ground := Ground.phase }, { on := 2, ground := Ground.phase }, { on := 3, ground := Ground.phase }, { on := 4, ground := Ground.phase }, { on := 5, ground := Ground.phase }, { on := 6, ground := Ground.phase }, { on := 7, ground := Ground.phase }, { on := 8, ground := Ground.phase }, { on := 9, ground := Ground.phase }], guard := none }] false)) (Code.region 8 #[{ dst := (some 17), op := (Op.move (Operand.tmp 6)), type := 3, pos := "ref.go:11", after := #[], guard := none }, { dst := (some 18), op := (Op.binOp BinOp.add 3 (Operand.tmp 17) (Operand.const (Value.int IntKind.i64 1)) 3), type := 3, pos := "ref.go:11", after := #[{ on := 0, ground := Ground.data }], guard := none }, { dst := (some 6), op := (Op.assign (Operand.tmp 18)), type := 3, pos := "ref.go:11", after := #[{ on := 1, ground := Ground.data }, { on := 0, ground := Ground.phase }, { on := 1, ground := Ground.phase }], guard := none }] false)))))) (Code.seq (Code.region 10 #[{ dst := (some 29), op := (Op.move (Operand.tmp 5)), type := 4, pos := "ref.go:14", after := #[], guard := none }] false) (Code.cond (Operand.tmp 29) (Code.region 11 #[{ dst := (some 30), op := (Op.move (Operand.tmp 3)), type := 22, pos := "ref.go:15", after := #[], guard := none }, { dst := (some 31), op := (Op.move (Operand.tmp 4)), type := 3, pos := "ref.go:15", after := #[], guard := none }, { dst := (some 32), op := (Op.buildSlice 22 1 #[(0, (Operand.tmp 31))]), type := 22, pos := "ref.go:15", after := #[{ on := 1, ground := Ground.data }], guard := none }, { dst := (some 33), op := (Op.call { callee := (Callee.builtin Builtin.append), args := #[(Operand.tmp 30), (Operand.tmp 32)], argTypes := #[22, 22] }), type := 22, pos := "ref.go:15", after := #[{ on := 0, ground := Ground.data }, { on := 2, ground := Ground.data }], guard := none }, { dst := (some 3), op := (Op.assign (Operand.tmp 33)), type := 22, pos := "ref.go:15", after := #[{ on := 3, ground := Ground.data }, { on := 3, ground := Ground.chain }, { on := 0, ground := Ground.phase }, { on := 1, ground := Ground.phase }, { on := 2, ground := Ground.phase }, { on := 3, ground := Ground.phase }], guard := none }] false) Code.skip))))) (Code.region 4 #[{ dst := (some 11), op := (Op.move (Operand.tmp 4)), type := 3, pos := "ref.go:9", after := #[], guard := none }, { dst := (some 12), op := (Op.binOp BinOp.add 3 (Operand.tmp 11) (Operand.const (Value.int IntKind.i64 1)) 3), type := 3, pos := "ref.go:9", after := #[{ on := 0, ground := Ground.data }], guard := none }, { dst := (some 4), op := (Op.assign (Operand.tmp 12)), type := 3, pos := "ref.go:9", after := #[{ on := 1, ground := Ground.data }, { on := 0, ground := Ground.phase }, { on := 1, ground := Ground.phase }], guard := none }] false)))
def loop25b : Code := (Code.seq (Code.seq (Code.region 7 #[{ dst := (some 13), op := (Op.move (Operand.tmp 6)), type := 3, pos := "ref.go:11", after := #[], guard := none }, { dst := (some 14), op := (Op.move (Operand.tmp 3)), type := 22, pos := "ref.go:11", after := #[], guard := none }, { dst := (some 15), op := (Op.call { callee := (Callee.builtin Builtin.len), args := #[(Operand.tmp 14)], argTypes := #[22] }), type := 3, pos := "ref.go:11", after := #[{ on := 1, ground := Ground.data }], guard := none }, { dst := (some 16), op := (Op.binOp BinOp.lss 3 (Operand.tmp 13) (Operand.tmp 15) 3), type := 4, pos := "ref.go:11", after := #[{ on := 0, ground := Ground.data }, { on := 2, ground := Ground.data }], guard := none }] false) (Code.cond (Operand.tmp 16) Code.skip (Code.exit 2))) (Code.seq (Code.block 3 (Code.region 9 #[{ dst := (some 19), op := (Op.move (Operand.tmp 5)), type := 4, pos := "ref.go:12", after := #[], guard := none }, { dst := (some 20), op := (Op.move (Operand.tmp 19)), type := 4, pos := "ref.go:12", after := #[{ on := 0, ground := Ground.data }], guard := none }, { dst := (some 21), op := (Op.move (Operand.tmp 4)), type := 3, pos := "ref.go:12", after := #[{ on := 1, ground := Ground.guard }], guard := (some (1, true)) }, { dst := (some 22), op := (Op.move (Operand.tmp 3)), type := 22, pos := "ref.go:12", after := #[{ on := 1, ground := Ground.guard }], guard := (some (1, true)) }, { dst := (some 23), op := (Op.move (Operand.tmp 6)), type := 3, pos := "ref.go:12", after := #[{ on := 1, ground := Ground.guard }], guard := (some (1, true)) }, { dst := (some 24), op := (Op.indexAddr 22 (Operand.tmp 22) (Operand.tmp 23)), type := 0, pos := "ref.go:12", after := #[{ on := 3, ground := Ground.data }, { on := 4, ground := Ground.data }, { on := 1, ground := Ground.guard }], guard := (some (1, true)) }, { dst := (some 25), op := (Op.load 3 (Operand.tmp 24)), type := 3, pos := "ref.go:12", after := #[{ on := 5, ground := Ground.data }, { on := 1, ground := Ground.guard }], guard := (some (1, true)) }, { dst := (some 26), op := (Op.binOp BinOp.rem 3 (Operand.tmp 21) (Operand.tmp 25) 3), type := 3, pos := "ref.go:12", after := #[{ on := 2, ground := Ground.data }, { on := 6, ground := Ground.data }, { on := 1, ground := Ground.guard }], guard := (some (1, true)) }, { dst := (some 27), op := (Op.binOp BinOp.neq 3 (Operand.tmp 26) (Operand.const (Value.int IntKind.i64 0)) 3), type := 4, pos := "ref.go:12", after := #[{ on := 7, ground := Ground.data }, { on := 1, ground := Ground.guard }], guard := (some (1, true)) }, { dst := (some 28), op := (Op.pick (Operand.tmp 20) (Operand.tmp 27) (Operand.const (Value.bool false))), type := 4, pos := "ref.go:12", after := #[{ on := 1, ground := Ground.data }, { on := 8, ground := Ground.data }], guard := none }, { dst := (some 5), op := (Op.assign (Operand.tmp 28)), type := 4, pos := "ref.go:12", after := #[{ on := 9, ground := Ground.data }, { on := 1, ground := Ground.chain }, { on := 0, ground := Ground.phase }, { on := 1, ground := Ground.phase }, { on := 2, ground := Ground.phase }, { on := 3, ground := Ground.phase }, { on := 4, ground := Ground.phase }, { on := 5, ground := Ground.phase }, { on := 6, ground := Ground.phase }, { on := 7, ground := Ground.phase }, { on := 8, ground := Ground.phase }, { on := 9, ground := Ground.phase }], guard := none }] false)) (Code.region 8 #[{ dst := (some 17), op := (Op.move (Operand.tmp 6)), type := 3, pos := "ref.go:11", after := #[], guard := none }, { dst := (some 18), op := (Op.binOp BinOp.add 3 (Operand.tmp 17) (Operand.const (Value.int IntKind.i64 1)) 3), type := 3, pos := "ref.go:11", after := #[{ on := 0, ground := Ground.data }], guard := none }, { dst := (some 6), op := (Op.assign (Operand.tmp 18)), type := 3, pos := "ref.go:11", after := #[{ on := 1, ground := Ground.data }, { on := 0, ground := Ground.phase }, { on := 1, ground := Ground.phase }], guard := none }] false)))

theorem rprime_loop {g : Gh} (hg : g.n = 35) (x : Int) (x0 : Value) (b off n cp : Nat) (c : List Value) (rw_ : Bool) (hn : n ≤ 1000) : ∀ (r : List Int) (k : Nat) (acc : Bool), k + r.length = n → At c (off + k) (iv r) → (∀ q, q ∈ r → 0 < q ∧ q < 2147483648) →
    WpL Try.prog g loop25b (fun e env mem => e = .exit 2 ∧ Wk g env mem [(0, x0), (3, .slice (some ⟨b, off, none⟩) n cp), (4, i64 x), (5, .bool (acc && r.all (fun q => x.tmod q != 0)))] [⟨b, c, rw_⟩])
      [(0, x0), (3, .slice (some ⟨b, off, none⟩) n cp), (4, i64 x), (5, .bool acc), (6, i64 k)] [⟨b, c, rw_⟩]
  | [], k, acc, hk, hc, hq => by
    obtain ⟨gn, w0, may⟩ := g
    obtain rfl : gn = 35 := hg
    simp only [List.length_nil] at hk
    simp only [List.all_nil, Bool.and_true]
    refine WpL.step ?_
    refine Wp.seq ?_
    refine Wp.seq ?_
    refine Wp.reg allGen ?_
    refine Tr.move rfl rfl trivial rfl ?_
    refine Tr.move rfl rfl trivial rfl ?_
    refine Tr.lenS tab rfl rfl rfl rfl trivial rfl ?_
    refine Tr.lss rfl rfl (by first | with_reducible assumption | exact decide_eq_true (by omega) | exact decide_eq_false (by omega) | exact beq_iff_eq.2 (by omega) | exact beq_eq_false_iff_ne.2 (by omega) | exact bne_iff_ne.2 (by omega) | rfl) rfl trivial rfl ?_
    refine Tr.nil ?_ (fun _ => rfl) (List.Perm.refl _)
    refine Wp.condF rfl ?_
    refine Wp.exit ?_
    exact ⟨rfl, Wk.mk (by repeat (first | exact ESub.nil | refine ESub.cons rfl (by first | rfl | (simp; done) | (simp; omega)) ?_)) (by repeat (first | exact MSub.nil | refine MSub.cons (by repeat (first | exact .here | apply Pick.there | apply Pick.append)) (by first | rfl | (simp; done)) ?_))⟩
  | q :: r, k, acc, hk, hc, hq => by
    obtain ⟨gn, w0, may⟩ := g
    obtain rfl : gn = 35 := hg
    simp only [List.length_cons] at hk
    have hget : c[off + k]? = some (i64 q) := hc.get (j := 0) (by simp)
    have hq0 := hq q (by simp)
    have hA : At c (off + (k + 1)) (iv r) := by
      obtain ⟨l, rr, h3, h4⟩ := hc
      exact ⟨l ++ [i64 q], rr, by simp [h3], by simp [h4]; omega⟩
    cases acc with
    | true =>
      have hih := rprime_loop (g := ⟨35, w0, may⟩) rfl x x0 b off n cp c rw_ hn r (k + 1) (x.tmod q != 0) (by omega) hA (fun z hz => hq z (by simp [hz]))
      rw [List.all_cons, Bool.true_and]
      refine WpL.step ?_
      refine Wp.seq ?_
      refine Wp.seq ?_
      refine Wp.reg allGen ?_
      refine Tr.move rfl rfl trivial rfl ?_
      refine Tr.move rfl rfl trivial rfl ?_
      refine Tr.lenS tab rfl rfl rfl rfl trivial rfl ?_
      refine Tr.lss rfl rfl (by first | with_reducible assumption | exact decide_eq_true (by omega) | exact decide_eq_false (by omega) | exact beq_iff_eq.2 (by omega) | exact beq_eq_false_iff_ne.2 (by omega) | exact bne_iff_ne.2 (by omega) | rfl) rfl trivial rfl ?_
      refine Tr.nil ?_ (fun _ => rfl) (List.Perm.refl _)
      refine Wp.condT rfl ?_
      refine Wp.skip ?_
      refine Wp.seq ?_
      refine Wp.block ?_
      refine Wp.reg allGen ?_
      refine Tr.move rfl rfl trivial rfl ?_
      refine Tr.move rfl rfl trivial rfl ?_
      first | refine Tr.skp rfl ⟨_, _, rfl, rfl, by first | exact .inl rfl | exact .inr rfl⟩ ?_ | (refine Tr.move rfl rfl ⟨_, rfl, rfl⟩ rfl ?_)
      first | refine Tr.skp rfl ⟨_, _, rfl, rfl, by first | exact .inl rfl | exact .inr rfl⟩ ?_ | (refine Tr.move rfl rfl ⟨_, rfl, rfl⟩ rfl ?_)
      first | refine Tr.skp rfl ⟨_, _, rfl, rfl, by first | exact .inl rfl | exact .inr rfl⟩ ?_ | (refine Tr.move rfl rfl ⟨_, rfl, rfl⟩ rfl ?_)
      first | refine Tr.skp rfl ⟨_, _, rfl, rfl, by first | exact .inl rfl | exact .inr rfl⟩ ?_ | (first | refine Tr.indexAddrS01 tab rfl rfl rfl rfl rfl (by omega) (by omega) rfl ⟨_, rfl, rfl⟩ rfl ?_ | refine Tr.indexAddrS1 tab rfl rfl rfl rfl rfl (by omega) (by omega) rfl ⟨_, rfl, rfl⟩ rfl ?_)
      first | refine Tr.skp rfl ⟨_, _, rfl, rfl, by first | exact .inl rfl | exact .inr rfl⟩ ?_ | (refine Tr.loadS tab rfl rfl rfl (by repeat (first | exact .head _ | refine .tail _ ?_ | refine List.mem_append_right _ ?_)) (by first | rfl | with_reducible assumption | assumption | (simp; done)) rfl ⟨_, rfl, rfl⟩ rfl ?_)
      first | refine Tr.skp rfl ⟨_, _, rfl, rfl, by first | exact .inl rfl | exact .inr rfl⟩ ?_ | (refine Tr.rem (r := x.tmod q) rfl rfl (by omega) rfl rfl ⟨_, rfl, rfl⟩ rfl ?_)
      first | refine Tr.skp rfl ⟨_, _, rfl, rfl, by first | exact .inl rfl | exact .inr rfl⟩ ?_ | (refine Tr.neq (r := (x.tmod q != 0)) rfl rfl rfl rfl ⟨_, rfl, rfl⟩ rfl ?_)
      first | refine Tr.pickT rfl rfl rfl trivial rfl ?_ | refine Tr.pickF rfl rfl rfl trivial rfl ?_
      refine Tr.assign rfl rfl trivial rfl ?_
      refine Tr.nil ?_ (fun _ => rfl) (List.Perm.refl _)
      refine Wp.reg allGen ?_
      refine Tr.move rfl rfl trivial rfl ?_
      refine Tr.add rfl rfl (by first | exact wrap_i64 (by omega) (by omega) | rfl) rfl trivial rfl ?_
      refine Tr.assign rfl rfl trivial rfl ?_
      refine Tr.nil ?_ (fun _ => rfl) (List.Perm.refl _)
      exact WpL.weak hih (Wk.mk (by repeat (first | exact ESub.nil | refine ESub.cons rfl (by first | rfl | (simp; done) | (simp; omega)) ?_)) (by repeat (first | exact MSub.nil | refine MSub.cons (by repeat (first | exact .here | apply Pick.there | apply Pick.append)) (by first | rfl | (simp; done)) ?_)))
    | false =>
      have hih := rprime_loop (g := ⟨35, w0, may⟩) rfl x x0 b off n cp c rw_ hn r (k + 1) false (by omega) hA (fun z hz => hq z (by simp [hz]))
      rw [Bool.false_and] at hih ⊢
      refine WpL.step ?_
      refine Wp.seq ?_
      refine Wp.seq ?_
      refine Wp.reg allGen ?_
      refine Tr.move rfl rfl trivial rfl ?_
      refine Tr.move rfl rfl trivial rfl ?_
      refine Tr.lenS tab rfl rfl rfl rfl trivial rfl ?_
      refine Tr.lss rfl rfl (by first | with_reducible assumption | exact decide_eq_true (by omega) | exact decide_eq_false (by omega) | exact beq_iff_eq.2 (by omega) | exact beq_eq_false_iff_ne.2 (by omega) | exact bne_iff_ne.2 (by omega) | rfl) rfl trivial rfl ?_
      refine Tr.nil ?_ (fun _ => rfl) (List.Perm.refl _)
      refine Wp.condT rfl ?_
      refine Wp.skip ?_
      refine Wp.seq ?_
      refine Wp.block ?_
      refine Wp.reg allGen ?_
      refine Tr.move rfl rfl trivial rfl ?_
      refine Tr.move rfl rfl trivial rfl ?_
      first | refine Tr.skp rfl ⟨_, _, rfl, rfl, by first | exact .inl rfl | exact .inr rfl⟩ ?_ | (refine Tr.move rfl rfl ⟨_, rfl, rfl⟩ rfl ?_)
      first | refine Tr.skp rfl ⟨_, _, rfl, rfl, by first | exact .inl rfl | exact .inr rfl⟩ ?_ | (refine Tr.move rfl rfl ⟨_, rfl, rfl⟩ rfl ?_)
      first | refine Tr.skp rfl ⟨_, _, rfl, rfl, by first | exact .inl rfl | exact .inr rfl⟩ ?_ | (refine Tr.move rfl rfl ⟨_, rfl, rfl⟩ rfl ?_)
      first | refine Tr.skp rfl ⟨_, _, rfl, rfl, by first | exact .inl rfl | exact .inr rfl⟩ ?_ | (first | refine Tr.indexAddrS01 tab rfl rfl rfl rfl rfl (by omega) (by omega) rfl ⟨_, rfl, rfl⟩ rfl ?_ | refine Tr.indexAddrS1 tab rfl rfl rfl rfl rfl (by omega) (by omega) rfl ⟨_, rfl, rfl⟩ rfl ?_)
      first | refine Tr.skp rfl ⟨_, _, rfl, rfl, by first | exact .inl rfl | exact .inr rfl⟩ ?_ | (refine Tr.loadS tab rfl rfl rfl (by repeat (first | exact .head _ | refine .tail _ ?_ | refine List.mem_append_right _ ?_)) (by first | rfl | with_reducible assumption | assumption | (simp; done)) rfl ⟨_, rfl, rfl⟩ rfl ?_)
      first | refine Tr.skp rfl ⟨_, _, rfl, rfl, by first | exact .inl rfl | exact .inr rfl⟩ ?_ | (refine Tr.skp rfl ⟨_, _, rfl, rfl, .inr rfl⟩ ?_)
      first | refine Tr.skp rfl ⟨_, _, rfl, rfl, by first | exact .inl rfl | exact .inr rfl⟩ ?_ | (refine Tr.skp rfl ⟨_, _, rfl, rfl, .inr rfl⟩ ?_)
      first | refine Tr.pickT rfl rfl rfl trivial rfl ?_ | refine Tr.pickF rfl rfl rfl trivial rfl ?_
      refine Tr.assign rfl rfl trivial rfl ?_
      refine Tr.nil ?_ (fun _ => rfl) (List.Perm.refl _)
      refine Wp.reg allGen ?_
      refine Tr.move rfl rfl trivial rfl ?_
      refine Tr.add rfl rfl (by first | exact wrap_i64 (by omega) (by omega) | rfl) rfl trivial rfl ?_
      refine Tr.assign rfl rfl trivial rfl ?_
      refine Tr.nil ?_ (fun _ => rfl) (List.Perm.refl _)
      exact WpL.weak hih (Wk.mk (by repeat (first | exact ESub.nil | refine ESub.cons rfl (by first | rfl | (simp; done) | (simp; omega)) ?_)) (by repeat (first | exact MSub.nil | refine MSub.cons (by repeat (first | exact .here | apply Pick.there | apply Pick.append)) (by first | rfl | (simp; done)) ?_)))

theorem rprimes_loop {g : Gh} (hg : g.n = 35) (n : Nat) (hn : n ≤ 100) : ∀ (d x : Nat), x + d = 542 → 2 ≤ x → (pl x).length ≤ n → ∀ (v : Value) (es : List Ent), Fresh (iv (pl x)) v es →
    WpL Try.prog g loop25a (fun e env mem => e = .exit 0 ∧ ∃ v es, Fresh (iv (primesL n)) v es ∧ Wk g env mem [(3, v)] es)
      [(0, i64 n), (3, v), (4, i64 x)] es := by
  obtain ⟨gn, w0, may⟩ := g
  obtain rfl : gn = 35 := hg
  have fin : ∀ (x : Nat) (v : Value) (es : List Ent), (pl x).length = n → x ≤ 542 → Fresh (iv (pl x)) v es → WpL Try.prog ⟨35, w0, may⟩ loop25a (fun e env mem => e = .exit 0 ∧ ∃ v es, Fresh (iv (primesL n)) v es ∧ Wk ⟨35, w0, may⟩ env mem [(3, v)] es)
      [(0, i64 n), (3, v), (4, i64 x)] es := by
    intro x v es hl hx hf
    have hfin : pl x = primesL n := pl_of_len hl hx
    have hfr := hf
    obtain ⟨a, c, rfl⟩ := hf.slice
    have hl2 : (iv (pl x)).length = n := by simp [hl]
    rw [hfin] at hfr
    rw [hl2]
    have hl3 : (iv (primesL n)).length = n := by rw [← hfin]; exact hl2
    rw [hl3] at hfr
    refine WpL.step ?_
    refine Wp.seq ?_
    refine Wp.seq ?_
    refine Wp.reg allGen ?_
    refine Tr.move rfl rfl trivial rfl ?_
    refine Tr.lenS tab rfl rfl rfl rfl trivial rfl ?_
    refine Tr.move rfl rfl trivial rfl ?_
    refine Tr.lss rfl rfl (by first | with_reducible assumption | exact decide_eq_true (by omega) | exact decide_eq_false (by omega) | exact beq_iff_eq.2 (by omega) | exact beq_eq_false_iff_ne.2 (by omega) | exact bne_iff_ne.2 (by omega) | rfl) rfl trivial rfl ?_
    refine Tr.nil ?_ (fun _ => rfl) (List.Perm.refl _)
    refine Wp.condF rfl ?_
    refine Wp.exit ?_
    exact ⟨rfl, _, _, hfr, ⟨fun a ha => EH.sub (ESub.sub (by repeat (first | exact ESub.nil | refine ESub.cons rfl (by first | rfl | (simp; done) | (simp; omega)) ?_))) a ha, fun w hw => hw⟩⟩
  intro d
  induction d with
  | zero =>
    intro x hx h2 hl v es hf
    obtain rfl : x = 542 := by omega
    have hll := pl_542
    exact fin 542 v es (by omega) (Nat.le_refl _) hf
  | succ d ih =>
    intro x hx h2 hl v es hf
    by_cases hlt : (pl x).length < n
    · have hb : ∀ q, q ∈ pl x → 0 < q ∧ q < 2147483648 := fun q hq => by have := pl_bd x q hq; omega
      have hlen := pl_len x
      have href := primeB_ref h2 (by omega)
      have hl2 : (iv (pl x)).length = (pl x).length := by simp
      rcases hf with ⟨h1, rfl, rfl⟩ | ⟨b, pre, sp, rfl, rfl⟩
      · have hnil : pl x = [] := by simpa using h1
        have hs : pl (x + 1) = [(x : Int)] := by simp only [pl, hnil]; rw [if_pos ⟨h2, rfl⟩]; rfl
        have ih' := ih (x + 1) (by omega) (by omega) (by rw [hs]; simp; rw [hnil] at hlt; simp at hlt; omega)
        rw [hs] at ih'
        rw [hnil] at hlt
        simp only [List.length_nil] at hlt
        refine WpL.step ?_
        refine Wp.seq ?_
        refine Wp.seq ?_
        refine Wp.reg allGen ?_
        refine Tr.move rfl rfl trivial rfl ?_
        refine Tr.lenS tab rfl rfl rfl rfl trivial rfl ?_
        refine Tr.move rfl rfl trivial rfl ?_
        refine Tr.lss rfl rfl (by first | with_reducible assumption | exact decide_eq_true (by omega) | exact decide_eq_false (by omega) | exact beq_iff_eq.2 (by omega) | exact beq_eq_false_iff_ne.2 (by omega) | exact bne_iff_ne.2 (by omega) | rfl) rfl trivial rfl ?_
        refine Tr.nil ?_ (fun _ => rfl) (List.Perm.refl _)
        refine Wp.condT rfl ?_
        refine Wp.skip ?_
        refine Wp.seq ?_
        refine Wp.block ?_
        refine Wp.seq ?_
        refine Wp.reg allGen ?_
        refine Tr.assign rfl rfl trivial rfl ?_
        refine Tr.nil ?_ (fun _ => rfl) (List.Perm.refl _)
        refine Wp.seq ?_
        refine Wp.seq ?_
        refine Wp.reg allGen ?_
        refine Tr.assign rfl rfl trivial rfl ?_
        refine Tr.nil ?_ (fun _ => rfl) (List.Perm.refl _)
        refine Wp.block ?_
        refine Wp.loopL ?_
        refine WpL.step ?_
        refine Wp.seq ?_
        refine Wp.seq ?_
        refine Wp.reg allGen ?_
        refine Tr.move rfl rfl trivial rfl ?_
        refine Tr.move rfl rfl trivial rfl ?_
        refine Tr.lenS tab rfl rfl rfl rfl trivial rfl ?_
        refine Tr.lss rfl rfl (by first | with_reducible assumption | exact decide_eq_true (by omega) | exact decide_eq_false (by omega) | exact beq_iff_eq.2 (by omega) | exact beq_eq_false_iff_ne.2 (by omega) | exact bne_iff_ne.2 (by omega) | rfl) rfl trivial rfl ?_
        refine Tr.nil ?_ (fun _ => rfl) (List.Perm.refl _)
        refine Wp.condF rfl ?_
        refine Wp.exit ?_
        refine Wp.seq ?_
        refine Wp.reg allGen ?_
        refine Tr.move rfl rfl trivial rfl ?_
        refine Tr.nil ?_ (fun _ => rfl) (List.Perm.refl _)
        refine Wp.condT rfl ?_
        refine Wp.reg allGen ?_
        refine Tr.move rfl rfl trivial rfl ?_
        refine Tr.move rfl rfl trivial rfl ?_
        refine Tr.buildSlice tab rfl rfl rfl rfl rfl rfl (by simp [fillC, splice, vcells, Value.cells, zrep_one]; rfl) rfl trivial rfl (fun _ _ => ?_)
        refine Tr.appendF tab rfl Fresh.nil Take.nil rfl (SrcOf.row (by repeat (first | exact .head _ | refine .tail _ ?_ | refine List.mem_append_right _ ?_)) (by first | exact At.all _ | with_reducible assumption | assumption) (by first | with_reducible rfl | with_reducible assumption | (simp; done) | (simp; omega) | rfl)) (by first | with_reducible assumption | rfl | (simp [Value.oneCell']; done)) rfl rfl rfl rfl (by simp) (by decide) (by simp) rfl trivial rfl (fun v1 es1 hf1 => ?_)
        refine Tr.assign rfl rfl trivial rfl ?_
        refine Tr.nil ?_ (fun _ => rfl) (List.Perm.refl _)
        refine Wp.reg allGen ?_
        refine Tr.move rfl rfl trivial rfl ?_
        refine Tr.add rfl rfl (by first | exact wrap_i64 (by omega) (by omega) | rfl) rfl trivial rfl ?_
        refine Tr.assign rfl rfl trivial rfl ?_
        refine Tr.nil ?_ (fun _ => rfl) (List.Perm.refl _)
        exact WpL.weak (ih' _ _ hf1) ⟨fun a ha => EH.sub (ESub.sub (by repeat (first | exact ESub.nil | refine ESub.cons rfl (by first | rfl | (simp; done) | (simp; omega)) ?_))) a ha, MH.sub (MSub.left _ _)⟩
      · have hlp := rprime_loop (g := ⟨35, w0, may⟩) rfl (x : Int) (i64 n) b pre.length (pl x).length ((pl x).length + sp.length) (pre ++ iv (pl x) ++ sp) true (by omega) (pl x) 0 true (by omega) ⟨pre, sp, rfl, rfl⟩ hb
        rw [Bool.true_and, ← href] at hlp
        by_cases hp : primeB x (pl x) = true
        · have hs : pl (x + 1) = pl x ++ [(x : Int)] := by simp only [pl]; rw [if_pos ⟨h2, hp⟩]
          have ih' := ih (x + 1) (by omega) (by omega) (by rw [hs]; simp; omega)
          rw [hs, show iv (pl x ++ [(x : Int)]) = iv (pl x) ++ iv [(x : Int)] from List.map_append] at ih'
          rw [hp] at hlp
          rw [hl2]
          refine WpL.step ?_
          refine Wp.seq ?_
          refine Wp.seq ?_
          refine Wp.reg allGen ?_
          refine Tr.move rfl rfl trivial rfl ?_
          refine Tr.lenS tab rfl rfl rfl rfl trivial rfl ?_
          refine Tr.move rfl rfl trivial rfl ?_
          refine Tr.lss rfl rfl (by first | with_reducible assumption | exact decide_eq_true (by omega) | exact decide_eq_false (by omega) | exact beq_iff_eq.2 (by omega) | exact beq_eq_false_iff_ne.2 (by omega) | exact bne_iff_ne.2 (by omega) | rfl) rfl trivial rfl ?_
          refine Tr.nil ?_ (fun _ => rfl) (List.Perm.refl _)
          refine Wp.condT rfl ?_
          refine Wp.skip ?_
          refine Wp.seq ?_
          refine Wp.block ?_
          refine Wp.seq ?_
          refine Wp.reg allGen ?_
          refine Tr.assign rfl rfl trivial rfl ?_
          refine Tr.nil ?_ (fun _ => rfl) (List.Perm.refl _)
          refine Wp.seq ?_
          refine Wp.seq ?_
          refine Wp.reg allGen ?_
          refine Tr.assign rfl rfl trivial rfl ?_
          refine Tr.nil ?_ (fun _ => rfl) (List.Perm.refl _)
          refine Wp.block ?_
          refine Wp.loopQ (hlp) (Wk.mk (by repeat (first | exact ESub.nil | refine ESub.cons rfl (by first | rfl | (simp; done) | (simp; omega)) ?_)) (by repeat (first | exact MSub.nil | refine MSub.cons (by repeat (first | exact .here | apply Pick.there | apply Pick.append)) (by first | rfl | (simp; done)) ?_))) ?_
          rintro _ env1 mem1 ⟨rfl, hk1⟩
          refine Wp.weak ?_ hk1
          refine Wp.seq ?_
          refine Wp.reg allGen ?_
          refine Tr.move rfl rfl trivial rfl ?_
          refine Tr.nil ?_ (fun _ => rfl) (List.Perm.refl _)
          refine Wp.condT rfl ?_
          refine Wp.reg allGen ?_
          refine Tr.move rfl rfl trivial rfl ?_
          refine Tr.move rfl rfl trivial rfl ?_
          refine Tr.buildSlice tab rfl rfl rfl rfl rfl rfl (by simp [fillC, splice, vcells, Value.cells, zrep_one]; rfl) rfl trivial rfl (fun _ _ => ?_)
          refine Tr.appendO tab rfl (by repeat (first | exact .here | apply Pick.there | apply Pick.append)) rfl rfl hl2 rfl rfl (SrcOf.row (by repeat (first | exact .head _ | refine .tail _ ?_ | refine List.mem_append_right _ ?_)) (by first | exact At.all _ | with_reducible assumption | assumption) (by first | with_reducible rfl | with_reducible assumption | (simp; done) | (simp; omega) | rfl)) (by first | with_reducible assumption | rfl | (simp [Value.oneCell']; done)) rfl rfl rfl rfl (by simp) (by simp; omega) (by simp; omega) rfl trivial rfl (fun b1 pre1 sp1 => ?_)
          refine Tr.assign rfl rfl trivial rfl ?_
          refine Tr.nil ?_ (fun _ => rfl) (List.Perm.refl _)
          refine Wp.reg allGen ?_
          refine Tr.move rfl rfl trivial rfl ?_
          refine Tr.add rfl rfl (by first | exact wrap_i64 (by omega) (by omega) | rfl) rfl trivial rfl ?_
          refine Tr.assign rfl rfl trivial rfl ?_
          refine Tr.nil ?_ (fun _ => rfl) (List.Perm.refl _)
          exact WpL.weak (ih' _ _ (.inr ⟨b1, pre1, sp1, rfl, rfl⟩)) (Wk.mk (by simp only [List.length_append]; exact (by repeat (first | exact ESub.nil | refine ESub.cons rfl (by first | rfl | (simp; done) | (simp; omega)) ?_))) (by repeat (first | exact MSub.nil | refine MSub.cons (by repeat (first | exact .here | apply Pick.there | apply Pick.append)) (by first | rfl | (simp; done)) ?_)))
        · have hs : pl (x + 1) = pl x := by simp only [pl]; rw [if_neg (by simp [hp])]
          have ih' := ih (x + 1) (by omega) (by omega) (by rw [hs]; omega)
          rw [hs] at ih'
          have hp' : primeB x (pl x) = false := by simpa using hp
          rw [hp'] at hlp
          have hfr : Fresh (iv (pl x)) (.slice (some ⟨b, pre.length, none⟩) (pl x).length ((pl x).length + sp.length)) [⟨b, pre ++ iv (pl x) ++ sp, true⟩] := .inr ⟨b, pre, sp, by rw [hl2], rfl⟩
          rw [hl2]
          refine WpL.step ?_
          refine Wp.seq ?_
          refine Wp.seq ?_
          refine Wp.reg allGen ?_
          refine Tr.move rfl rfl trivial rfl ?_
          refine Tr.lenS tab rfl rfl rfl rfl trivial rfl ?_
          refine Tr.move rfl rfl trivial rfl ?_
          refine Tr.lss rfl rfl (by first | with_reducible assumption | exact decide_eq_true (by omega) | exact decide_eq_false (by omega) | exact beq_iff_eq.2 (by omega) | exact beq_eq_false_iff_ne.2 (by omega) | exact bne_iff_ne.2 (by omega) | rfl) rfl trivial rfl ?_
          refine Tr.nil ?_ (fun _ => rfl) (List.Perm.refl _)
          refine Wp.condT rfl ?_
          refine Wp.skip ?_
          refine Wp.seq ?_
          refine Wp.block ?_
          refine Wp.seq ?_
          refine Wp.reg allGen ?_
          refine Tr.assign rfl rfl trivial rfl ?_
          refine Tr.nil ?_ (fun _ => rfl) (List.Perm.refl _)
          refine Wp.seq ?_
          refine Wp.seq ?_
          refine Wp.reg allGen ?_
          refine Tr.assign rfl rfl trivial rfl ?_
          refine Tr.nil ?_ (fun _ => rfl) (List.Perm.refl _)
          refine Wp.block ?_
          refine Wp.loopQ (hlp) (Wk.mk (by repeat (first | exact ESub.nil | refine ESub.cons rfl (by first | rfl | (simp; done) | (simp; omega)) ?_)) (by repeat (first | exact MSub.nil | refine MSub.cons (by repeat (first | exact .here | apply Pick.there | apply Pick.append)) (by first | rfl | (simp; done)) ?_))) ?_
          rintro _ env1 mem1 ⟨rfl, hk1⟩
          refine Wp.weak ?_ hk1
          refine Wp.seq ?_
          refine Wp.reg allGen ?_
          refine Tr.move rfl rfl trivial rfl ?_
          refine Tr.nil ?_ (fun _ => rfl) (List.Perm.refl _)
          refine Wp.condF rfl ?_
          refine Wp.skip ?_
          refine Wp.reg allGen ?_
          refine Tr.move rfl rfl trivial rfl ?_
          refine Tr.add rfl rfl (by first | exact wrap_i64 (by omega) (by omega) | rfl) rfl trivial rfl ?_
          refine Tr.assign rfl rfl trivial rfl ?_
          refine Tr.nil ?_ (fun _ => rfl) (List.Perm.refl _)
          exact WpL.weak (ih' _ _ hfr) (Wk.mk (by repeat (first | exact ESub.nil | refine ESub.cons rfl (by first | rfl | (simp; done) | (simp; omega)) ?_)) (by repeat (first | exact MSub.nil | refine MSub.cons (by repeat (first | exact .here | apply Pick.there | apply Pick.append)) (by first | rfl | (simp; done)) ?_)))
    · exact fin x v es (by omega) (by omega) hf

theorem f25_primes (n : Nat) (hn : n ≤ 100) : FnG Try.prog 25 [i64 n] [] (fun v es => Fresh (iv (primesL n)) v es) := by
  have hpl : (pl 2).length ≤ n := by rw [pl_2]; simp
  refine fnG_of 35 rfl Try.func25 rfl (by kernel_rfl) rfl (by simp) fun w => ?_
  refine Wp.seq ?_
  refine Wp.reg allGen ?_
  refine Tr.assign rfl rfl trivial rfl ?_
  refine Tr.nil ?_ (fun _ => rfl) (List.Perm.refl _)
  refine Wp.seq ?_
  refine Wp.reg allGen ?_
  refine Tr.assign rfl rfl trivial rfl ?_
  refine Tr.nil ?_ (fun _ => rfl) (List.Perm.refl _)
  refine Wp.seq ?_
  refine Wp.seq ?_
  refine Wp.reg allGen ?_
  refine Tr.assign rfl rfl trivial rfl ?_
  refine Tr.nil ?_ (fun _ => rfl) (List.Perm.refl _)
  refine Wp.block ?_
  refine Wp.loopQ (rprimes_loop rfl n hn 540 2 rfl (by omega) hpl (.slice none 0 0) [] (.inl ⟨by rw [pl_2]; rfl, rfl, rfl⟩)) (Wk.mk (by repeat (first | exact ESub.nil | refine ESub.cons rfl (by first | rfl | (simp; done) | (simp; omega)) ?_)) (by repeat (first | exact MSub.nil | refine MSub.cons (by repeat (first | exact .here | apply Pick.there | apply Pick.append)) (by first | rfl | (simp; done)) ?_))) ?_
  rintro _ env1 mem1 ⟨rfl, v, es, hfr, hk1⟩
  refine Wp.weak ?_ hk1
  refine Wp.seq ?_
  refine Wp.reg allGen ?_
  refine Tr.move rfl rfl trivial rfl ?_
  refine Tr.assign rfl rfl trivial rfl ?_
  refine Tr.nil ?_ (fun _ => rfl) (List.Perm.refl _)
  refine Wp.ret ?_
  exact ⟨.inr rfl, _, _, hfr, .r1 rfl (RvIs.tmp rfl), hfr.sub, hfr.rw⟩

/-! ### Start, Rounds -/
theorem start_ref : (primesL 8).map (fun p => fracS p.toNat 2) = startL.map (·.toNat) := by decide +kernel
theorem rounds_ref : (primesL 64).map (fun p => fracS p.toNat 3) = roundsL.map (·.toNat) := by decide +kernel

def loop28 : Code := (Code.seq (Code.seq (Code.region 4 #[{ dst := (some 5), op := (Op.move (Operand.tmp 3)), type := 3, pos := "ref.go:97", after := #[], guard := none }, { dst := (some 6), op := (Op.binOp BinOp.lss 3 (Operand.tmp 5) (Operand.const (Value.int IntKind.i64 8)) 3), type := 4, pos := "ref.go:97", after := #[{ on := 0, ground := Ground.data }], guard := none }] false) (Code.cond (Operand.tmp 6) Code.skip (Code.exit 0))) (Code.seq (Code.block 1 (Code.region 6 #[{ dst := (some 9), op := (Op.move (Operand.tmp 2)), type := 22, pos := "ref.go:98", after := #[], guard := none }, { dst := (some 10), op := (Op.move (Operand.tmp 1)), type := 22, pos := "ref.go:98", after := #[], guard := none }, { dst := (some 11), op := (Op.move (Operand.tmp 3)), type := 3, pos := "ref.go:98", after := #[], guard := none }, { dst := (some 12), op := (Op.indexAddr 22 (Operand.tmp 10) (Operand.tmp 11)), type := 0, pos := "ref.go:98", after := #[{ on := 1, ground := Ground.data }, { on := 2, ground := Ground.data }], guard := none }, { dst := (some 13), op := (Op.load 3 (Operand.tmp 12)), type := 3, pos := "ref.go:98", after := #[{ on := 3, ground := Ground.data }], guard := none }, { dst := (some 14), op := (Op.call { callee := (Callee.value (Operand.func 68)), args := #[(Operand.tmp 13), (Operand.const (Value.int IntKind.i64 2))], argTypes := #[3, 3] }), type := 3, pos := "ref.go:98", after := #[{ on := 4, ground := Ground.data }], guard := none }, { dst := (some 15), op := (Op.buildSlice 22 1 #[(0, (Operand.tmp 14))]), type := 22, pos := "ref.go:98", after := #[{ on := 5, ground := Ground.data }], guard := none }, { dst := (some 16), op := (Op.call { callee := (Callee.builtin Builtin.append), args := #[(Operand.tmp 9), (Operand.tmp 15)], argTypes := #[22, 22] }), type := 22, pos := "ref.go:98", after := #[{ on := 0, ground := Ground.data }, { on := 6, ground := Ground.data }, { on := 5, ground := Ground.chain }], guard := none }, { dst := (some 2), op := (Op.assign (Operand.tmp 16)), type := 22, pos := "ref.go:98", after := #[{ on := 7, ground := Ground.data }, { on := 7, ground := Ground.chain }, { on := 0, ground := Ground.phase }, { on := 1, ground := Ground.phase }, { on := 2, ground := Ground.phase }, { on := 3, ground := Ground.phase }, { on := 4, ground := Ground.phase }, { on := 5, ground := Ground.phase }, { on := 6, ground := Ground.phase }, { on := 7, ground := Ground.phase }], guard := none }] false)) (Code.region 5 #[{ dst := (some 7), op := (Op.move (Operand.tmp 3)), type := 3, pos := "ref.go:97", after := #[], guard := none }, { dst := (some 8), op := (Op.binOp BinOp.add 3 (Operand.tmp 7) (Operand.const (Value.int IntKind.i64 1)) 3), type := 3, pos := "ref.go:97", after := #[{ on := 0, ground := Ground.data }], guard := none }, { dst := (some 3), op := (Op.assign (Operand.tmp 8)), type := 3, pos := "ref.go:97", after := #[{ on := 1, ground := Ground.data }, { on := 0, ground := Ground.phase }, { on := 1, ground := Ground.phase }], guard := none }] false)))
def loop29 : Code := (Code.seq (Code.seq (Code.region 4 #[{ dst := (some 5), op := (Op.move (Operand.tmp 3)), type := 3, pos := "ref.go:107", after := #[], guard := none }, { dst := (some 6), op := (Op.binOp BinOp.lss 3 (Operand.tmp 5) (Operand.const (Value.int IntKind.i64 64)) 3), type := 4, pos := "ref.go:107", after := #[{ on := 0, ground := Ground.data }], guard := none }] false) (Code.cond (Operand.tmp 6) Code.skip (Code.exit 0))) (Code.seq (Code.block 1 (Code.region 6 #[{ dst := (some 9), op := (Op.move (Operand.tmp 2)), type := 22, pos := "ref.go:108", after := #[], guard := none }, { dst := (some 10), op := (Op.move (Operand.tmp 1)), type := 22, pos := "ref.go:108", after := #[], guard := none }, { dst := (some 11), op := (Op.move (Operand.tmp 3)), type := 3, pos := "ref.go:108", after := #[], guard := none }, { dst := (some 12), op := (Op.indexAddr 22 (Operand.tmp 10) (Operand.tmp 11)), type := 0, pos := "ref.go:108", after := #[{ on := 1, ground := Ground.data }, { on := 2, ground := Ground.data }], guard := none }, { dst := (some 13), op := (Op.load 3 (Operand.tmp 12)), type := 3, pos := "ref.go:108", after := #[{ on := 3, ground := Ground.data }], guard := none }, { dst := (some 14), op := (Op.call { callee := (Callee.value (Operand.func 68)), args := #[(Operand.tmp 13), (Operand.const (Value.int IntKind.i64 3))], argTypes := #[3, 3] }), type := 3, pos := "ref.go:108", after := #[{ on := 4, ground := Ground.data }], guard := none }, { dst := (some 15), op := (Op.buildSlice 22 1 #[(0, (Operand.tmp 14))]), type := 22, pos := "ref.go:108", after := #[{ on := 5, ground := Ground.data }], guard := none }, { dst := (some 16), op := (Op.call { callee := (Callee.builtin Builtin.append), args := #[(Operand.tmp 9), (Operand.tmp 15)], argTypes := #[22, 22] }), type := 22, pos := "ref.go:108", after := #[{ on := 0, ground := Ground.data }, { on := 6, ground := Ground.data }, { on := 5, ground := Ground.chain }], guard := none }, { dst := (some 2), op := (Op.assign (Operand.tmp 16)), type := 22, pos := "ref.go:108", after := #[{ on := 7, ground := Ground.data }, { on := 7, ground := Ground.chain }, { on := 0, ground := Ground.phase }, { on := 1, ground := Ground.phase }, { on := 2, ground := Ground.phase }, { on := 3, ground := Ground.phase }, { on := 4, ground := Ground.phase }, { on := 5, ground := Ground.phase }, { on := 6, ground := Ground.phase }, { on := 7, ground := Ground.phase }], guard := none }] false)) (Code.region 5 #[{ dst := (some 7), op := (Op.move (Operand.tmp 3)), type := 3, pos := "ref.go:107", after := #[], guard := none }, { dst := (some 8), op := (Op.binOp BinOp.add 3 (Operand.tmp 7) (Operand.const (Value.int IntKind.i64 1)) 3), type := 3, pos := "ref.go:107", after := #[{ on := 0, ground := Ground.data }], guard := none }, { dst := (some 3), op := (Op.assign (Operand.tmp 8)), type := 3, pos := "ref.go:107", after := #[{ on := 1, ground := Ground.data }, { on := 0, ground := Ground.phase }, { on := 1, ground := Ground.phase }], guard := none }] false)))

section
variable (bp po cp : Nat) (cP : List Value)

theorem rstart_loop {g : Gh} (hg : g.n = 18) (hcP : At cP po (iv (primesL 8))) : ∀ (r i : Nat), i + r = 8 → ∀ (v : Value) (es : List Ent), Fresh (dn (((primesL 8).map (fun p => fracS p.toNat 2)).take i)) v es →
    WpL Try.prog g loop28 (fun e env mem => e = .exit 0 ∧ ∃ v es, Fresh (dn ((primesL 8).map (fun p => fracS p.toNat 2))) v es ∧ Wk g env mem [(2, v)] es)
      [(1, .slice (some ⟨bp, po, none⟩) 8 cp), (2, v), (3, i64 i)] (es ++ [⟨bp, cP, true⟩]) := by
  obtain ⟨gn, w0, may⟩ := g
  obtain rfl : gn = 18 := hg
  have hlen := primesL_len (n := 8) (by omega)
  have hbd := fun q => primesL_bd (n := 8) (q := q)
  generalize primesL 8 = ps at *
  intro r
  induction r with
  | zero =>
    intro i hi v es hf
    obtain rfl : i = 8 := by omega
    rw [List.take_of_length_le (by simp [hlen])] at hf
    refine WpL.step ?_
    refine Wp.seq ?_
    refine Wp.seq ?_
    refine Wp.reg allGen ?_
    refine Tr.move rfl rfl trivial rfl ?_
    refine Tr.lss rfl rfl (by first | with_reducible assumption | exact decide_eq_true (by omega) | exact decide_eq_false (by omega) | exact beq_iff_eq.2 (by omega) | exact beq_eq_false_iff_ne.2 (by omega) | exact bne_iff_ne.2 (by omega) | rfl) rfl trivial rfl ?_
    refine Tr.nil ?_ (fun _ => rfl) (List.Perm.refl _)
    refine Wp.condF rfl ?_
    refine Wp.exit ?_
    exact ⟨rfl, v, es, hf, ⟨fun a ha => EH.sub (ESub.sub (by repeat (first | exact ESub.nil | refine ESub.cons rfl (by first | rfl | (simp; done) | (simp; omega)) ?_))) a ha, MH.sub (MSub.left _ _)⟩⟩
  | succ r ih =>
    intro i hi v es hf
    have hih := ih (i + 1) (by omega)
    have hb := hbd ps[i] (List.getElem_mem (by omega))
    have g0 : cP[po + ((i : Int)).toNat]? = some (i64 ps[i]) := hcP.get (j := i) (by simp [List.getElem?_eq_getElem (show i < ps.length by omega)])
    have htk : (ps.map (fun p => fracS p.toNat 2)).take (i + 1) = (ps.map (fun p => fracS p.toNat 2)).take i ++ [fracS (ps[i]).toNat 2] := by
      rw [List.take_add_one]; simp [List.getElem?_eq_getElem (show i < ps.length by omega)]
    rw [htk, dn_app] at hih
    have hfr := f68_frac (ps[i]).toNat 2 (by decide) (by omega)
    rw [show (((ps[i]).toNat : Nat) : Int) = ps[i] by omega] at hfr
    have hl : (dn ((ps.map (fun p => fracS p.toNat 2)).take i)).length ≤ 8 := by simp; omega
    generalize fracS (ps[i]).toNat 2 = z at *
    generalize ps[i] = q at *
    refine WpL.step ?_
    refine Wp.seq ?_
    refine Wp.seq ?_
    refine Wp.reg allGen ?_
    refine Tr.move rfl rfl trivial rfl ?_
    refine Tr.lss rfl rfl (by first | with_reducible assumption | exact decide_eq_true (by omega) | exact decide_eq_false (by omega) | exact beq_iff_eq.2 (by omega) | exact beq_eq_false_iff_ne.2 (by omega) | exact bne_iff_ne.2 (by omega) | rfl) rfl trivial rfl ?_
    refine Tr.nil ?_ (fun _ => rfl) (List.Perm.refl _)
    refine Wp.condT rfl ?_
    refine Wp.skip ?_
    refine Wp.seq ?_
    refine Wp.block ?_
    refine Wp.reg allGen ?_
    refine Tr.move rfl rfl trivial rfl ?_
    refine Tr.move rfl rfl trivial rfl ?_
    refine Tr.move rfl rfl trivial rfl ?_
    first | refine Tr.indexAddrS01 tab rfl rfl rfl rfl rfl (by omega) (by omega) rfl trivial rfl ?_ | refine Tr.indexAddrS1 tab rfl rfl rfl rfl rfl (by omega) (by omega) rfl trivial rfl ?_
    refine Tr.loadS tab rfl rfl rfl (by repeat (first | exact .head _ | refine .tail _ ?_ | refine List.mem_append_right _ ?_)) (by first | rfl | with_reducible assumption | assumption | (simp; done)) rfl trivial rfl ?_
    refine Tr.call rfl hfr (by repeat (first | exact Has.nil | refine Has.cons (by repeat (first | exact .head _ | refine .tail _ ?_ | refine List.mem_append_right _ ?_)) ?_)) rfl trivial rfl ?_
    refine Tr.buildSlice tab rfl rfl rfl rfl rfl rfl (by simp [fillC, splice, vcells, Value.cells, zrep_one]; rfl) rfl trivial rfl (fun _ _ => ?_)
    refine Tr.appendF tab rfl hf (by repeat (first | exact Take.app _ _ | exact Take.self _ | exact Take.nil | apply Take.skip)) rfl (SrcOf.row (by repeat (first | exact .head _ | refine .tail _ ?_ | refine List.mem_append_right _ ?_)) (by first | exact At.all _ | with_reducible assumption | assumption) (by first | with_reducible rfl | with_reducible assumption | (simp; done) | (simp; omega) | rfl)) (by first | with_reducible assumption | rfl | (simp [Value.oneCell']; done)) rfl rfl rfl rfl (by simp) (by decide) (by simp; omega) rfl trivial rfl (fun v1 es1 hf1 => ?_)
    refine Tr.assign rfl rfl trivial rfl ?_
    refine Tr.nil ?_ (fun _ => rfl) (List.Perm.refl _)
    refine Wp.reg allGen ?_
    refine Tr.move rfl rfl trivial rfl ?_
    refine Tr.add rfl rfl (by first | exact wrap_i64 (by omega) (by omega) | rfl) rfl trivial rfl ?_
    refine Tr.assign rfl rfl trivial rfl ?_
    refine Tr.nil ?_ (fun _ => rfl) (List.Perm.refl _)
    exact WpL.weak (hih _ _ hf1) ⟨fun a ha => EH.sub (ESub.sub (by repeat (first | exact ESub.nil | refine ESub.cons rfl (by first | rfl | (simp; done) | (simp; omega)) ?_))) a ha, MH.sub (MSub.app (MSub.drop (MSub.refl _)) _)⟩

theorem rrounds_loop {g : Gh} (hg : g.n = 18) (hcP : At cP po (iv (primesL 64))) : ∀ (r i : Nat), i + r = 64 → ∀ (v : Value) (es : List Ent), Fresh (dn (((primesL 64).map (fun p => fracS p.toNat 3)).take i)) v es →
    WpL Try.prog g loop29 (fun e env mem => e = .exit 0 ∧ ∃ v es, Fresh (dn ((primesL 64).map (fun p => fracS p.toNat 3))) v es ∧ Wk g env mem [(2, v)] es)
      [(1, .slice (some ⟨bp, po, none⟩) 64 cp), (2, v), (3, i64 i)] (es ++ [⟨bp, cP, true⟩]) := by
  obtain ⟨gn, w0, may⟩ := g
  obtain rfl : gn = 18 := hg
  have hlen := primesL_len (n := 64) (by omega)
  have hbd := fun q => primesL_bd (n := 64) (q := q)
  generalize primesL 64 = ps at *
  intro r
  induction r with
  | zero =>
    intro i hi v es hf
    obtain rfl : i = 64 := by omega
    rw [List.take_of_length_le (by simp [hlen])] at hf
    refine WpL.step ?_
    refine Wp.seq ?_
    refine Wp.seq ?_
    refine Wp.reg allGen ?_
    refine Tr.move rfl rfl trivial rfl ?_
    refine Tr.lss rfl rfl (by first | with_reducible assumption | exact decide_eq_true (by omega) | exact decide_eq_false (by omega) | exact beq_iff_eq.2 (by omega) | exact beq_eq_false_iff_ne.2 (by omega) | exact bne_iff_ne.2 (by omega) | rfl) rfl trivial rfl ?_
    refine Tr.nil ?_ (fun _ => rfl) (List.Perm.refl _)
    refine Wp.condF rfl ?_
    refine Wp.exit ?_
    exact ⟨rfl, v, es, hf, ⟨fun a ha => EH.sub (ESub.sub (by repeat (first | exact ESub.nil | refine ESub.cons rfl (by first | rfl | (simp; done) | (simp; omega)) ?_))) a ha, MH.sub (MSub.left _ _)⟩⟩
  | succ r ih =>
    intro i hi v es hf
    have hih := ih (i + 1) (by omega)
    have hb := hbd ps[i] (List.getElem_mem (by omega))
    have g0 : cP[po + ((i : Int)).toNat]? = some (i64 ps[i]) := hcP.get (j := i) (by simp [List.getElem?_eq_getElem (show i < ps.length by omega)])
    have htk : (ps.map (fun p => fracS p.toNat 3)).take (i + 1) = (ps.map (fun p => fracS p.toNat 3)).take i ++ [fracS (ps[i]).toNat 3] := by
      rw [List.take_add_one]; simp [List.getElem?_eq_getElem (show i < ps.length by omega)]
    rw [htk, dn_app] at hih
    have hfr := f68_frac (ps[i]).toNat 3 (by decide) (by omega)
    rw [show (((ps[i]).toNat : Nat) : Int) = ps[i] by omega] at hfr
    have hl : (dn ((ps.map (fun p => fracS p.toNat 3)).take i)).length ≤ 64 := by simp; omega
    generalize fracS (ps[i]).toNat 3 = z at *
    generalize ps[i] = q at *
    refine WpL.step ?_
    refine Wp.seq ?_
    refine Wp.seq ?_
    refine Wp.reg allGen ?_
    refine Tr.move rfl rfl trivial rfl ?_
    refine Tr.lss rfl rfl (by first | with_reducible assumption | exact decide_eq_true (by omega) | exact decide_eq_false (by omega) | exact beq_iff_eq.2 (by omega) | exact beq_eq_false_iff_ne.2 (by omega) | exact bne_iff_ne.2 (by omega) | rfl) rfl trivial rfl ?_
    refine Tr.nil ?_ (fun _ => rfl) (List.Perm.refl _)
    refine Wp.condT rfl ?_
    refine Wp.skip ?_
    refine Wp.seq ?_
    refine Wp.block ?_
    refine Wp.reg allGen ?_
    refine Tr.move rfl rfl trivial rfl ?_
    refine Tr.move rfl rfl trivial rfl ?_
    refine Tr.move rfl rfl trivial rfl ?_
    first | refine Tr.indexAddrS01 tab rfl rfl rfl rfl rfl (by omega) (by omega) rfl trivial rfl ?_ | refine Tr.indexAddrS1 tab rfl rfl rfl rfl rfl (by omega) (by omega) rfl trivial rfl ?_
    refine Tr.loadS tab rfl rfl rfl (by repeat (first | exact .head _ | refine .tail _ ?_ | refine List.mem_append_right _ ?_)) (by first | rfl | with_reducible assumption | assumption | (simp; done)) rfl trivial rfl ?_
    refine Tr.call rfl hfr (by repeat (first | exact Has.nil | refine Has.cons (by repeat (first | exact .head _ | refine .tail _ ?_ | refine List.mem_append_right _ ?_)) ?_)) rfl trivial rfl ?_
    refine Tr.buildSlice tab rfl rfl rfl rfl rfl rfl (by simp [fillC, splice, vcells, Value.cells, zrep_one]; rfl) rfl trivial rfl (fun _ _ => ?_)
    refine Tr.appendF tab rfl hf (by repeat (first | exact Take.app _ _ | exact Take.self _ | exact Take.nil | apply Take.skip)) rfl (SrcOf.row (by repeat (first | exact .head _ | refine .tail _ ?_ | refine List.mem_append_right _ ?_)) (by first | exact At.all _ | with_reducible assumption | assumption) (by first | with_reducible rfl | with_reducible assumption | (simp; done) | (simp; omega) | rfl)) (by first | with_reducible assumption | rfl | (simp [Value.oneCell']; done)) rfl rfl rfl rfl (by simp) (by decide) (by simp; omega) rfl trivial rfl (fun v1 es1 hf1 => ?_)
    refine Tr.assign rfl rfl trivial rfl ?_
    refine Tr.nil ?_ (fun _ => rfl) (List.Perm.refl _)
    refine Wp.reg allGen ?_
    refine Tr.move rfl rfl trivial rfl ?_
    refine Tr.add rfl rfl (by first | exact wrap_i64 (by omega) (by omega) | rfl) rfl trivial rfl ?_
    refine Tr.assign rfl rfl trivial rfl ?_
    refine Tr.nil ?_ (fun _ => rfl) (List.Perm.refl _)
    exact WpL.weak (hih _ _ hf1) ⟨fun a ha => EH.sub (ESub.sub (by repeat (first | exact ESub.nil | refine ESub.cons rfl (by first | rfl | (simp; done) | (simp; omega)) ?_))) a ha, MH.sub (MSub.app (MSub.drop (MSub.refl _)) _)⟩
end

theorem dn_w32 (l : List UInt32) : dn (l.map (·.toNat)) = w32s l := by simp [Function.comp_def]

theorem f28_start : FnG Try.prog 28 [] [] (fun v es => Fresh (w32s startL) v es) := by
  have hps := f25_primes 8 (by omega)
  have hlen := primesL_len (n := 8) (by omega)
  have hlen' : (iv (primesL 8)).length = 8 := by simp [hlen]
  have hl := fun {g : Gh} (hg : g.n = 18) bp po cp cP hcP => rstart_loop bp po cp cP (g := g) hg hcP 8 0 rfl (.slice none 0 0) [] (by simpa using Fresh.nil)
  rw [start_ref, dn_w32] at hl
  refine fnG_of 18 rfl Try.func28 rfl (by kernel_rfl) rfl (by simp) fun w => ?_
  refine Wp.seq ?_
  refine Wp.reg allGen ?_
  refine Tr.assign rfl rfl trivial rfl ?_
  refine Tr.nil ?_ (fun _ => rfl) (List.Perm.refl _)
  refine Wp.seq ?_
  refine Wp.reg allGen ?_
  refine Tr.callG rfl hps (by repeat (first | exact Has.nil | refine Has.cons (by repeat (first | exact .head _ | refine .tail _ ?_ | refine List.mem_append_right _ ?_)) ?_)) rfl trivial rfl ?_
  rintro _ es hf
  obtain ⟨b1, pre1, sp1, rfl, rfl⟩ := hf.row (n := 8) hlen' (by decide)
  refine Tr.assign rfl rfl trivial rfl ?_
  refine Tr.nil ?_ (fun _ => rfl) (List.Perm.refl _)
  refine Wp.seq ?_
  refine Wp.reg allGen ?_
  refine Tr.assign rfl rfl trivial rfl ?_
  refine Tr.nil ?_ (fun _ => rfl) (List.Perm.refl _)
  refine Wp.seq ?_
  refine Wp.seq ?_
  refine Wp.reg allGen ?_
  refine Tr.assign rfl rfl trivial rfl ?_
  refine Tr.nil ?_ (fun _ => rfl) (List.Perm.refl _)
  refine Wp.block ?_
  refine Wp.loopQ (hl rfl b1 pre1.length (8 + sp1.length) _ ⟨pre1, sp1, rfl, rfl⟩) (Wk.mk (by repeat (first | exact ESub.nil | refine ESub.cons rfl (by first | rfl | (simp; done) | (simp; omega)) ?_)) (by repeat (first | exact MSub.nil | refine MSub.cons (by repeat (first | exact .here | apply Pick.there | apply Pick.append)) (by first | rfl | (simp; done)) ?_))) ?_
  rintro _ env1 mem1 ⟨rfl, v, es, hfr, hk1⟩
  refine Wp.weak ?_ hk1
  refine Wp.seq ?_
  refine Wp.reg allGen ?_
  refine Tr.move rfl rfl trivial rfl ?_
  refine Tr.assign rfl rfl trivial rfl ?_
  refine Tr.nil ?_ (fun _ => rfl) (List.Perm.refl _)
  refine Wp.ret ?_
  exact ⟨.inr rfl, _, _, hfr, .r1 rfl (RvIs.tmp rfl), hfr.sub, hfr.rw⟩

theorem f29_rounds : FnG Try.prog 29 [] [] (fun v es => Fresh (w32s roundsL) v es) := by
  have hps := f25_primes 64 (by omega)
  have hlen := primesL_len (n := 64) (by omega)
  have hlen' : (iv (primesL 64)).length = 64 := by simp [hlen]
  have hl := fun {g : Gh} (hg : g.n = 18) bp po cp cP hcP => rrounds_loop bp po cp cP (g := g) hg hcP 64 0 rfl (.slice none 0 0) [] (by simpa using Fresh.nil)
  rw [rounds_ref, dn_w32] at hl
  refine fnG_of 18 rfl Try.func29 rfl (by kernel_rfl) rfl (by simp) fun w => ?_
  refine Wp.seq ?_
  refine Wp.reg allGen ?_
  refine Tr.assign rfl rfl trivial rfl ?_
  refine Tr.nil ?_ (fun _ => rfl) (List.Perm.refl _)
  refine Wp.seq ?_
  refine Wp.reg allGen ?_
  refine Tr.callG rfl hps (by repeat (first | exact Has.nil | refine Has.cons (by repeat (first | exact .head _ | refine .tail _ ?_ | refine List.mem_append_right _ ?_)) ?_)) rfl trivial rfl ?_
  rintro _ es hf
  obtain ⟨b1, pre1, sp1, rfl, rfl⟩ := hf.row (n := 64) hlen' (by decide)
  refine Tr.assign rfl rfl trivial rfl ?_
  refine Tr.nil ?_ (fun _ => rfl) (List.Perm.refl _)
  refine Wp.seq ?_
  refine Wp.reg allGen ?_
  refine Tr.assign rfl rfl trivial rfl ?_
  refine Tr.nil ?_ (fun _ => rfl) (List.Perm.refl _)
  refine Wp.seq ?_
  refine Wp.seq ?_
  refine Wp.reg allGen ?_
  refine Tr.assign rfl rfl trivial rfl ?_
  refine Tr.nil ?_ (fun _ => rfl) (List.Perm.refl _)
  refine Wp.block ?_
  refine Wp.loopQ (hl rfl b1 pre1.length (64 + sp1.length) _ ⟨pre1, sp1, rfl, rfl⟩) (Wk.mk (by repeat (first | exact ESub.nil | refine ESub.cons rfl (by first | rfl | (simp; done) | (simp; omega)) ?_)) (by repeat (first | exact MSub.nil | refine MSub.cons (by repeat (first | exact .here | apply Pick.there | apply Pick.append)) (by first | rfl | (simp; done)) ?_))) ?_
  rintro _ env1 mem1 ⟨rfl, v, es, hfr, hk1⟩
  refine Wp.weak ?_ hk1
  refine Wp.seq ?_
  refine Wp.reg allGen ?_
  refine Tr.move rfl rfl trivial rfl ?_
  refine Tr.assign rfl rfl trivial rfl ?_
  refine Tr.nil ?_ (fun _ => rfl) (List.Perm.refl _)
  refine Wp.ret ?_
  exact ⟨.inr rfl, _, _, hfr, .r1 rfl (RvIs.tmp rfl), hfr.sub, hfr.rw⟩
end Go.Proofs.Ytffghaeaohabhaa.AW
