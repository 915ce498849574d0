import Derived.Test.YtffghaeaohabhaaS2
namespace Go.Proofs.Ytffghaeaohabhaa.AW
open Go
set_option maxRecDepth 100000

/-! ### roots, bit by bit -/
def sqOk (p : Int) (x : UInt64) : Bool := decide (((mulHi x x).toNat : Int) < p) || ((((mulHi x x).toNat : Int) == p) && (((x * x).toNat : Int) == 0))

def sqL (p : Int) : Nat → UInt64 → UInt64 → UInt64
  | 0, _, root => root
  | f + 1, bit, root => if bit = 0 then root else sqL p f (bit >>> UInt64.ofNat 1) (if sqOk p (root ||| bit) then root ||| bit else root)

def loop66 : Code := (Code.seq (Code.seq (Code.region 3 #[{ dst := (some 8), op := (Op.move (Operand.tmp 4)), type := 121, pos := "sha256.go:46", after := #[], guard := none }, { dst := (some 9), op := (Op.binOp BinOp.gtr 121 (Operand.tmp 8) (Operand.const (Value.int IntKind.u64 0)) 121), type := 4, pos := "sha256.go:46", after := #[{ on := 0, ground := Ground.data }], guard := none }] false) (Code.cond (Operand.tmp 9) Code.skip (Code.exit 0))) (Code.seq (Code.block 1 (Code.seq (Code.region 5 #[{ dst := (some 12), op := (Op.move (Operand.tmp 3)), type := 121, pos := "sha256.go:47", after := #[], guard := none }, { dst := (some 13), op := (Op.move (Operand.tmp 4)), type := 121, pos := "sha256.go:47", after := #[], guard := none }, { dst := (some 14), op := (Op.binOp BinOp.or 121 (Operand.tmp 12) (Operand.tmp 13) 121), type := 121, pos := "sha256.go:47", after := #[{ on := 0, ground := Ground.data }, { on := 1, ground := Ground.data }], guard := none }, { dst := (some 5), op := (Op.assign (Operand.tmp 14)), type := 121, pos := "sha256.go:47", after := #[{ on := 2, ground := Ground.data }, { on := 0, ground := Ground.phase }, { on := 1, ground := Ground.phase }, { on := 2, ground := Ground.phase }], guard := none }] false) (Code.seq (Code.region 6 #[{ dst := (some 16), op := (Op.move (Operand.tmp 5)), type := 121, pos := "sha256.go:48", after := #[], guard := none }, { dst := (some 17), op := (Op.move (Operand.tmp 5)), type := 121, pos := "sha256.go:48", after := #[], guard := none }, { dst := (some 18), op := (Op.call { callee := (Callee.value (Operand.func 101)), args := #[(Operand.tmp 16), (Operand.tmp 17)], argTypes := #[121, 121] }), type := 122, pos := "sha256.go:48", after := #[{ on := 0, ground := Ground.data }, { on := 1, ground := Ground.data }], guard := none }, { dst := (some 15), op := (Op.move (Operand.tmp 18)), type := 122, pos := "sha256.go:48", after := #[{ on := 2, ground := Ground.data }], guard := none }, { dst := (some 19), op := (Op.extract (Operand.tmp 15) 0), type := 121, pos := "sha256.go:48", after := #[{ on := 3, ground := Ground.data }], guard := none }, { dst := (some 20), op := (Op.extract (Operand.tmp 15) 1), type := 121, pos := "sha256.go:48", after := #[{ on := 3, ground := Ground.data }, { on := 6, ground := (Ground.gcOnly Departure.lateStores) }], guard := none }, { dst := (some 6), op := (Op.assign (Operand.tmp 19)), type := 121, pos := "sha256.go:48", after := #[{ on := 4, ground := Ground.data }, { on := 2, ground := Ground.chain }, { on := 0, ground := Ground.phase }, { on := 1, ground := Ground.phase }, { on := 2, ground := Ground.phase }, { on := 3, ground := Ground.phase }, { on := 4, ground := Ground.phase }, { on := 5, ground := (Ground.textOnly Departure.lateStores) }], guard := none }, { dst := (some 7), op := (Op.assign (Operand.tmp 20)), type := 121, pos := "sha256.go:48", after := #[{ on := 5, ground := Ground.data }, { on := 6, ground := Ground.chain }, { on := 0, ground := Ground.phase }, { on := 1, ground := Ground.phase }, { on := 2, ground := Ground.phase }, { on := 3, ground := Ground.phase }, { on := 4, ground := Ground.phase }, { on := 5, ground := Ground.phase }, { on := 6, ground := Ground.phase }], guard := none }] false) (Code.seq (Code.region 7 #[{ dst := (some 21), op := (Op.move (Operand.tmp 6)), type := 121, pos := "sha256.go:50", after := #[], guard := none }, { dst := (some 22), op := (Op.move (Operand.tmp 0)), type := 3, pos := "sha256.go:50", after := #[], guard := none }, { dst := (some 23), op := (Op.convert 3 121 (Operand.tmp 22)), type := 121, pos := "sha256.go:50", after := #[{ on := 1, ground := Ground.data }], guard := none }, { dst := (some 24), op := (Op.binOp BinOp.lss 121 (Operand.tmp 21) (Operand.tmp 23) 121), type := 4, pos := "sha256.go:50", after := #[{ on := 0, ground := Ground.data }, { on := 2, ground := Ground.data }], guard := none }, { dst := (some 25), op := (Op.move (Operand.tmp 24)), type := 4, pos := "sha256.go:50", after := #[{ on := 3, ground := Ground.data }], guard := none }, { dst := (some 26), op := (Op.move (Operand.tmp 6)), type := 121, pos := "sha256.go:50", after := #[{ on := 4, ground := Ground.guard }], guard := (some (4, false)) }, { dst := (some 27), op := (Op.move (Operand.tmp 0)), type := 3, pos := "sha256.go:50", after := #[{ on := 4, ground := Ground.guard }], guard := (some (4, false)) }, { dst := (some 28), op := (Op.convert 3 121 (Operand.tmp 27)), type := 121, pos := "sha256.go:50", after := #[{ on := 6, ground := Ground.data }, { on := 4, ground := Ground.guard }], guard := (some (4, false)) }, { dst := (some 29), op := (Op.binOp BinOp.eql 121 (Operand.tmp 26) (Operand.tmp 28) 121), type := 4, pos := "sha256.go:50", after := #[{ on := 5, ground := Ground.data }, { on := 7, ground := Ground.data }, { on := 4, ground := Ground.guard }], guard := (some (4, false)) }, { dst := (some 30), op := (Op.move (Operand.tmp 29)), type := 4, pos := "sha256.go:50", after := #[{ on := 8, ground := Ground.data }, { on := 4, ground := Ground.chain }, { on := 4, ground := Ground.guard }], guard := (some (4, false)) }, { dst := (some 31), op := (Op.move (Operand.tmp 7)), type := 121, pos := "sha256.go:50", after := #[{ on := 9, ground := Ground.guard }], guard := (some (9, true)) }, { dst := (some 32), op := (Op.binOp BinOp.eql 121 (Operand.tmp 31) (Operand.const (Value.int IntKind.u64 0)) 121), type := 4, pos := "sha256.go:50", after := #[{ on := 10, ground := Ground.data }, { on := 9, ground := Ground.guard }], guard := (some (9, true)) }, { dst := (some 33), op := (Op.pick (Operand.tmp 30) (Operand.tmp 32) (Operand.const (Value.bool false))), type := 4, pos := "sha256.go:50", after := #[{ on := 9, ground := Ground.data }, { on := 11, ground := Ground.data }, { on := 4, ground := Ground.guard }], guard := (some (4, false)) }, { dst := (some 34), op := (Op.pick (Operand.tmp 25) (Operand.const (Value.bool true)) (Operand.tmp 33)), type := 4, pos := "sha256.go:50", after := #[{ on := 4, ground := Ground.data }, { on := 12, ground := Ground.data }], guard := none }] false) (Code.cond (Operand.tmp 34) (Code.region 8 #[{ dst := (some 35), op := (Op.move (Operand.tmp 5)), type := 121, pos := "sha256.go:51", after := #[], guard := none }, { dst := (some 3), op := (Op.assign (Operand.tmp 35)), type := 121, pos := "sha256.go:51", after := #[{ on := 0, ground := Ground.data }, { on := 0, ground := Ground.phase }], guard := none }] false) Code.skip))))) (Code.region 4 #[{ dst := (some 10), op := (Op.move (Operand.tmp 4)), type := 121, pos := "sha256.go:46", after := #[], guard := none }, { dst := (some 11), op := (Op.binOp BinOp.shr 121 (Operand.tmp 10) (Operand.const (Value.int IntKind.u64 1)) 51), type := 121, pos := "sha256.go:46", after := #[{ on := 0, ground := Ground.data }], guard := none }, { dst := (some 4), op := (Op.assign (Operand.tmp 11)), type := 121, pos := "sha256.go:46", after := #[{ on := 1, ground := Ground.data }, { on := 0, ground := Ground.phase }, { on := 1, ground := Ground.phase }], guard := none }] false)))

theorem sq_loop {g : Gh} (hg : g.n = 38) (p : Int) (h0 : 0 ≤ p) (hp : p ≤ 1000) : ∀ (f : Nat) (bit root : UInt64), bit.toNat < 2 ^ f →
    WpL Try.prog g loop66 (fun e env mem => e = .exit 0 ∧ Wk g env mem [(3, u64 (sqL p (f + 1) bit root))] []) [(0, i64 p), (3, u64 root), (4, u64 bit)] [] := by
  obtain ⟨gn, w0, may⟩ := g
  obtain rfl : gn = 38 := hg
  intro f
  have out : ∀ (f : Nat) (bit root : UInt64), bit.toNat = 0 → WpL Try.prog ⟨38, w0, may⟩ loop66 (fun e env mem => e = .exit 0 ∧ Wk ⟨38, w0, may⟩ env mem [(3, u64 (sqL p (f + 1) bit root))] []) [(0, i64 p), (3, u64 root), (4, u64 bit)] [] := by
    intro f bit root hb
    have hbz : bit = 0 := UInt64.toNat_inj.1 (by simpa using hb)
    have hs : sqL p (f + 1) bit root = root := by simp [sqL, hbz]
    rw [hs]
    refine WpL.step ?_
    refine Wp.seq ?_
    refine Wp.seq ?_
    refine Wp.reg allGen ?_
    refine Tr.move rfl rfl trivial rfl ?_
    refine Tr.gtr rfl rfl (by first | with_reducible assumption | exact decide_eq_true (by omega) | exact decide_eq_false (by omega) | exact beq_iff_eq.2 (by omega) | exact beq_eq_false_iff_ne.2 (by omega) | exact bne_iff_ne.2 (by omega) | rfl) rfl trivial rfl ?_
    refine Tr.nil ?_ (fun _ => rfl) (List.Perm.refl _)
    refine Wp.condF rfl ?_
    refine Wp.exit ?_
    exact ⟨rfl, Wk.mk (by repeat (first | exact ESub.nil | refine ESub.cons rfl (by first | rfl | (simp; done) | (simp; omega)) ?_)) (by repeat (first | exact MSub.nil | refine MSub.cons (by first | exact .here | exact (.there .here) | exact (.there (.there .here)) | exact (.there (.there (.there .here))) | exact (.there (.there (.there (.there .here)))) | exact (.there (.there (.there (.there (.there .here))))) | exact (.there (.there (.there (.there (.there (.there .here)))))) | exact (.there (.there (.there (.there (.there (.there (.there .here))))))) | exact (.there (.there (.there (.there (.there (.there (.there (.there .here)))))))) | exact (.there (.there (.there (.there (.there (.there (.there (.there (.there .here)))))))))) (by first | rfl | (simp; done)) ?_))⟩
  induction f with
  | zero =>
    intro bit root hb
    exact out 0 bit root (by simpa using hb)
  | succ f ih =>
    intro bit root hb
    by_cases hz : bit.toNat = 0
    · exact out (f + 1) bit root hz
    have hbz : bit ≠ 0 := by rintro rfl; exact hz rfl
    have hsh : (bit >>> UInt64.ofNat 1).toNat < 2 ^ f := by
      rw [UInt64.toNat_shiftRight]
      show bit.toNat >>> 1 < _
      rw [Nat.shiftRight_eq_div_pow]
      have : (2 : Nat) ^ (f + 1) = 2 * 2 ^ f := by rw [Nat.pow_succ]; omega
      omega
    have hgt : decide ((0 : Int) < (bit.toNat : Int)) = true := decide_eq_true (by omega)
    have hs : sqL p (f + 1 + 1) bit root = sqL p (f + 1) (bit >>> UInt64.ofNat 1) (if sqOk p (root ||| bit) then root ||| bit else root) := by
      rw [sqL]; rw [if_neg hbz]
    rw [hs]
    cases hA : decide (((mulHi (root ||| bit) (root ||| bit)).toNat : Int) < p) with
    | true =>
      have ih' := ih (bit >>> UInt64.ofNat 1) (root ||| bit) hsh
      have hok : sqOk p (root ||| bit) = true := by simp only [sqOk, hA, Bool.true_or]
      rw [hok, if_pos rfl]
      refine WpL.step ?_
      refine Wp.seq ?_
      refine Wp.seq ?_
      refine Wp.reg allGen ?_
      refine Tr.move rfl rfl trivial rfl ?_
      refine Tr.gtr rfl rfl (by first | with_reducible assumption | exact decide_eq_true (by omega) | exact decide_eq_false (by omega) | exact beq_iff_eq.2 (by omega) | exact beq_eq_false_iff_ne.2 (by omega) | exact bne_iff_ne.2 (by omega) | rfl) rfl trivial rfl ?_
      refine Tr.nil ?_ (fun _ => rfl) (List.Perm.refl _)
      refine Wp.condT rfl ?_
      refine Wp.skip ?_
      refine Wp.seq ?_
      refine Wp.block ?_
      refine Wp.seq ?_
      refine Wp.reg allGen ?_
      refine Tr.move rfl rfl trivial rfl ?_
      refine Tr.move rfl rfl trivial rfl ?_
      refine Tr.bor rfl rfl (by first | exact u64_or _ _ | rfl) rfl trivial rfl ?_
      refine Tr.assign rfl rfl trivial rfl ?_
      refine Tr.nil ?_ (fun _ => rfl) (List.Perm.refl _)
      refine Wp.seq ?_
      refine Wp.reg allGen ?_
      refine Tr.move rfl rfl trivial rfl ?_
      refine Tr.move rfl rfl trivial rfl ?_
      refine Tr.call rfl (f101_mul64 _ _) (by repeat (first | exact Has.nil | refine Has.cons (by first | exact (.head _) | exact (.tail _ (.head _)) | exact (.tail _ (.tail _ (.head _))) | exact (.tail _ (.tail _ (.tail _ (.head _)))) | exact (.tail _ (.tail _ (.tail _ (.tail _ (.head _))))) | exact (.tail _ (.tail _ (.tail _ (.tail _ (.tail _ (.head _)))))) | exact (.tail _ (.tail _ (.tail _ (.tail _ (.tail _ (.tail _ (.head _))))))) | exact (.tail _ (.tail _ (.tail _ (.tail _ (.tail _ (.tail _ (.tail _ (.head _)))))))) | exact (.tail _ (.tail _ (.tail _ (.tail _ (.tail _ (.tail _ (.tail _ (.tail _ (.head _))))))))) | exact (.tail _ (.tail _ (.tail _ (.tail _ (.tail _ (.tail _ (.tail _ (.tail _ (.tail _ (.head _))))))))))) ?_)) rfl trivial rfl ?_
      refine Tr.move rfl rfl trivial rfl ?_
      refine Tr.extract rfl rfl rfl trivial rfl ?_
      refine Tr.extract rfl rfl rfl trivial rfl ?_
      refine Tr.assign rfl rfl trivial rfl ?_
      refine Tr.assign rfl rfl trivial rfl ?_
      refine Tr.nil ?_ (fun _ => rfl) (List.Perm.refl _)
      refine Wp.seq ?_
      refine Wp.reg allGen ?_
      refine Tr.move rfl rfl trivial rfl ?_
      refine Tr.move rfl rfl trivial rfl ?_
      refine Tr.conv tab rfl rfl rfl rfl (by first | exact wrap_u64 (by omega) (by omega) | rfl) rfl trivial rfl ?_
      refine Tr.lss rfl rfl (by first | with_reducible assumption | exact decide_eq_true (by omega) | exact decide_eq_false (by omega) | exact beq_iff_eq.2 (by omega) | exact beq_eq_false_iff_ne.2 (by omega) | exact bne_iff_ne.2 (by omega) | rfl) rfl trivial rfl ?_
      refine Tr.move rfl rfl trivial rfl ?_
      first | refine Tr.skp rfl ⟨_, _, rfl, rfl, by first | exact .inl rfl | exact .inr rfl⟩ ?_ | (refine Tr.move rfl rfl ⟨_, rfl, rfl⟩ rfl ?_)
      first | refine Tr.skp rfl ⟨_, _, rfl, rfl, by first | exact .inl rfl | exact .inr rfl⟩ ?_ | (refine Tr.move rfl rfl ⟨_, rfl, rfl⟩ rfl ?_)
      first | refine Tr.skp rfl ⟨_, _, rfl, rfl, by first | exact .inl rfl | exact .inr rfl⟩ ?_ | (refine Tr.conv tab rfl rfl rfl rfl (by first | exact wrap_u64 (by omega) (by omega) | rfl) rfl ⟨_, rfl, rfl⟩ rfl ?_)
      first | refine Tr.skp rfl ⟨_, _, rfl, rfl, by first | exact .inl rfl | exact .inr rfl⟩ ?_ | (refine Tr.eql rfl rfl (by first | with_reducible assumption | exact decide_eq_true (by omega) | exact decide_eq_false (by omega) | exact beq_iff_eq.2 (by omega) | exact beq_eq_false_iff_ne.2 (by omega) | exact bne_iff_ne.2 (by omega) | rfl) rfl ⟨_, rfl, rfl⟩ rfl ?_)
      first | refine Tr.skp rfl ⟨_, _, rfl, rfl, by first | exact .inl rfl | exact .inr rfl⟩ ?_ | (refine Tr.move rfl rfl ⟨_, rfl, rfl⟩ rfl ?_)
      first | refine Tr.skp rfl ⟨_, _, rfl, rfl, by first | exact .inl rfl | exact .inr rfl⟩ ?_ | (refine Tr.move rfl rfl ⟨_, rfl, rfl⟩ rfl ?_)
      first | refine Tr.skp rfl ⟨_, _, rfl, rfl, by first | exact .inl rfl | exact .inr rfl⟩ ?_ | (refine Tr.eql rfl rfl (by first | with_reducible assumption | exact decide_eq_true (by omega) | exact decide_eq_false (by omega) | exact beq_iff_eq.2 (by omega) | exact beq_eq_false_iff_ne.2 (by omega) | exact bne_iff_ne.2 (by omega) | rfl) rfl ⟨_, rfl, rfl⟩ rfl ?_)
      first | refine Tr.skp rfl ⟨_, _, rfl, rfl, by first | exact .inl rfl | exact .inr rfl⟩ ?_ | (first | refine Tr.pickT rfl rfl rfl ⟨_, rfl, rfl⟩ rfl ?_ | refine Tr.pickF rfl rfl rfl ⟨_, rfl, rfl⟩ rfl ?_)
      first | refine Tr.pickT rfl rfl rfl trivial rfl ?_ | refine Tr.pickF rfl rfl rfl trivial rfl ?_
      refine Tr.nil ?_ (fun _ => rfl) (List.Perm.refl _)
      refine Wp.condT rfl ?_
      refine Wp.reg allGen ?_
      refine Tr.move rfl rfl trivial rfl ?_
      refine Tr.assign rfl rfl trivial rfl ?_
      refine Tr.nil ?_ (fun _ => rfl) (List.Perm.refl _)
      refine Wp.reg allGen ?_
      refine Tr.move rfl rfl trivial rfl ?_
      refine Tr.shr rfl rfl (by omega) (by first | exact u64_shr _ 1 (by decide) | rfl) rfl trivial rfl ?_
      refine Tr.assign rfl rfl trivial rfl ?_
      refine Tr.nil ?_ (fun _ => rfl) (List.Perm.refl _)
      exact WpL.weak ih' (Wk.mk (by repeat (first | exact ESub.nil | refine ESub.cons rfl (by first | rfl | (simp; done) | (simp; omega)) ?_)) (by repeat (first | exact MSub.nil | refine MSub.cons (by first | exact .here | exact (.there .here) | exact (.there (.there .here)) | exact (.there (.there (.there .here))) | exact (.there (.there (.there (.there .here)))) | exact (.there (.there (.there (.there (.there .here))))) | exact (.there (.there (.there (.there (.there (.there .here)))))) | exact (.there (.there (.there (.there (.there (.there (.there .here))))))) | exact (.there (.there (.there (.there (.there (.there (.there (.there .here)))))))) | exact (.there (.there (.there (.there (.there (.there (.there (.there (.there .here)))))))))) (by first | rfl | (simp; done)) ?_)))
    | false =>
      cases hB : (((mulHi (root ||| bit) (root ||| bit)).toNat : Int) == p) with
      | false =>
        have ih' := ih (bit >>> UInt64.ofNat 1) root hsh
        have hok : sqOk p (root ||| bit) = false := by simp only [sqOk, hA, hB, Bool.false_or, Bool.false_and]
        rw [hok, if_neg (by decide)]
        refine WpL.step ?_
        refine Wp.seq ?_
        refine Wp.seq ?_
        refine Wp.reg allGen ?_
        refine Tr.move rfl rfl trivial rfl ?_
        refine Tr.gtr rfl rfl (by first | with_reducible assumption | exact decide_eq_true (by omega) | exact decide_eq_false (by omega) | exact beq_iff_eq.2 (by omega) | exact beq_eq_false_iff_ne.2 (by omega) | exact bne_iff_ne.2 (by omega) | rfl) rfl trivial rfl ?_
        refine Tr.nil ?_ (fun _ => rfl) (List.Perm.refl _)
        refine Wp.condT rfl ?_
        refine Wp.skip ?_
        refine Wp.seq ?_
        refine Wp.block ?_
        refine Wp.seq ?_
        refine Wp.reg allGen ?_
        refine Tr.move rfl rfl trivial rfl ?_
        refine Tr.move rfl rfl trivial rfl ?_
        refine Tr.bor rfl rfl (by first | exact u64_or _ _ | rfl) rfl trivial rfl ?_
        refine Tr.assign rfl rfl trivial rfl ?_
        refine Tr.nil ?_ (fun _ => rfl) (List.Perm.refl _)
        refine Wp.seq ?_
        refine Wp.reg allGen ?_
        refine Tr.move rfl rfl trivial rfl ?_
        refine Tr.move rfl rfl trivial rfl ?_
        refine Tr.call rfl (f101_mul64 _ _) (by repeat (first | exact Has.nil | refine Has.cons (by first | exact (.head _) | exact (.tail _ (.head _)) | exact (.tail _ (.tail _ (.head _))) | exact (.tail _ (.tail _ (.tail _ (.head _)))) | exact (.tail _ (.tail _ (.tail _ (.tail _ (.head _))))) | exact (.tail _ (.tail _ (.tail _ (.tail _ (.tail _ (.head _)))))) | exact (.tail _ (.tail _ (.tail _ (.tail _ (.tail _ (.tail _ (.head _))))))) | exact (.tail _ (.tail _ (.tail _ (.tail _ (.tail _ (.tail _ (.tail _ (.head _)))))))) | exact (.tail _ (.tail _ (.tail _ (.tail _ (.tail _ (.tail _ (.tail _ (.tail _ (.head _))))))))) | exact (.tail _ (.tail _ (.tail _ (.tail _ (.tail _ (.tail _ (.tail _ (.tail _ (.tail _ (.head _))))))))))) ?_)) rfl trivial rfl ?_
        refine Tr.move rfl rfl trivial rfl ?_
        refine Tr.extract rfl rfl rfl trivial rfl ?_
        refine Tr.extract rfl rfl rfl trivial rfl ?_
        refine Tr.assign rfl rfl trivial rfl ?_
        refine Tr.assign rfl rfl trivial rfl ?_
        refine Tr.nil ?_ (fun _ => rfl) (List.Perm.refl _)
        refine Wp.seq ?_
        refine Wp.reg allGen ?_
        refine Tr.move rfl rfl trivial rfl ?_
        refine Tr.move rfl rfl trivial rfl ?_
        refine Tr.conv tab rfl rfl rfl rfl (by first | exact wrap_u64 (by omega) (by omega) | rfl) rfl trivial rfl ?_
        refine Tr.lss rfl rfl (by first | with_reducible assumption | exact decide_eq_true (by omega) | exact decide_eq_false (by omega) | exact beq_iff_eq.2 (by omega) | exact beq_eq_false_iff_ne.2 (by omega) | exact bne_iff_ne.2 (by omega) | rfl) rfl trivial rfl ?_
        refine Tr.move rfl rfl trivial rfl ?_
        first | refine Tr.skp rfl ⟨_, _, rfl, rfl, by first | exact .inl rfl | exact .inr rfl⟩ ?_ | (refine Tr.move rfl rfl ⟨_, rfl, rfl⟩ rfl ?_)
        first | refine Tr.skp rfl ⟨_, _, rfl, rfl, by first | exact .inl rfl | exact .inr rfl⟩ ?_ | (refine Tr.move rfl rfl ⟨_, rfl, rfl⟩ rfl ?_)
        first | refine Tr.skp rfl ⟨_, _, rfl, rfl, by first | exact .inl rfl | exact .inr rfl⟩ ?_ | (refine Tr.conv tab rfl rfl rfl rfl (by first | exact wrap_u64 (by omega) (by omega) | rfl) rfl ⟨_, rfl, rfl⟩ rfl ?_)
        first | refine Tr.skp rfl ⟨_, _, rfl, rfl, by first | exact .inl rfl | exact .inr rfl⟩ ?_ | (refine Tr.eql rfl rfl (by first | with_reducible assumption | exact decide_eq_true (by omega) | exact decide_eq_false (by omega) | exact beq_iff_eq.2 (by omega) | exact beq_eq_false_iff_ne.2 (by omega) | exact bne_iff_ne.2 (by omega) | rfl) rfl ⟨_, rfl, rfl⟩ rfl ?_)
        first | refine Tr.skp rfl ⟨_, _, rfl, rfl, by first | exact .inl rfl | exact .inr rfl⟩ ?_ | (refine Tr.move rfl rfl ⟨_, rfl, rfl⟩ rfl ?_)
        first | refine Tr.skp rfl ⟨_, _, rfl, rfl, by first | exact .inl rfl | exact .inr rfl⟩ ?_ | (refine Tr.move rfl rfl ⟨_, rfl, rfl⟩ rfl ?_)
        first | refine Tr.skp rfl ⟨_, _, rfl, rfl, by first | exact .inl rfl | exact .inr rfl⟩ ?_ | (refine Tr.eql rfl rfl (by first | with_reducible assumption | exact decide_eq_true (by omega) | exact decide_eq_false (by omega) | exact beq_iff_eq.2 (by omega) | exact beq_eq_false_iff_ne.2 (by omega) | exact bne_iff_ne.2 (by omega) | rfl) rfl ⟨_, rfl, rfl⟩ rfl ?_)
        first | refine Tr.skp rfl ⟨_, _, rfl, rfl, by first | exact .inl rfl | exact .inr rfl⟩ ?_ | (first | refine Tr.pickT rfl rfl rfl ⟨_, rfl, rfl⟩ rfl ?_ | refine Tr.pickF rfl rfl rfl ⟨_, rfl, rfl⟩ rfl ?_)
        first | refine Tr.pickT rfl rfl rfl trivial rfl ?_ | refine Tr.pickF rfl rfl rfl trivial rfl ?_
        refine Tr.nil ?_ (fun _ => rfl) (List.Perm.refl _)
        refine Wp.condF rfl ?_
        refine Wp.skip ?_
        refine Wp.reg allGen ?_
        refine Tr.move rfl rfl trivial rfl ?_
        refine Tr.shr rfl rfl (by omega) (by first | exact u64_shr _ 1 (by decide) | rfl) rfl trivial rfl ?_
        refine Tr.assign rfl rfl trivial rfl ?_
        refine Tr.nil ?_ (fun _ => rfl) (List.Perm.refl _)
        exact WpL.weak ih' (Wk.mk (by repeat (first | exact ESub.nil | refine ESub.cons rfl (by first | rfl | (simp; done) | (simp; omega)) ?_)) (by repeat (first | exact MSub.nil | refine MSub.cons (by first | exact .here | exact (.there .here) | exact (.there (.there .here)) | exact (.there (.there (.there .here))) | exact (.there (.there (.there (.there .here)))) | exact (.there (.there (.there (.there (.there .here))))) | exact (.there (.there (.there (.there (.there (.there .here)))))) | exact (.there (.there (.there (.there (.there (.there (.there .here))))))) | exact (.there (.there (.there (.there (.there (.there (.there (.there .here)))))))) | exact (.there (.there (.there (.there (.there (.there (.there (.there (.there .here)))))))))) (by first | rfl | (simp; done)) ?_)))
      | true =>
        cases hC : ((((root ||| bit) * (root ||| bit)).toNat : Int) == 0) with
        | true =>
          have ih' := ih (bit >>> UInt64.ofNat 1) (root ||| bit) hsh
          have hok : sqOk p (root ||| bit) = true := by simp only [sqOk, hA, hB, hC, Bool.false_or, Bool.true_and]
          rw [hok, if_pos rfl]
          refine WpL.step ?_
          refine Wp.seq ?_
          refine Wp.seq ?_
          refine Wp.reg allGen ?_
          refine Tr.move rfl rfl trivial rfl ?_
          refine Tr.gtr rfl rfl (by first | with_reducible assumption | exact decide_eq_true (by omega) | exact decide_eq_false (by omega) | exact beq_iff_eq.2 (by omega) | exact beq_eq_false_iff_ne.2 (by omega) | exact bne_iff_ne.2 (by omega) | rfl) rfl trivial rfl ?_
          refine Tr.nil ?_ (fun _ => rfl) (List.Perm.refl _)
          refine Wp.condT rfl ?_
          refine Wp.skip ?_
          refine Wp.seq ?_
          refine Wp.block ?_
          refine Wp.seq ?_
          refine Wp.reg allGen ?_
          refine Tr.move rfl rfl trivial rfl ?_
          refine Tr.move rfl rfl trivial rfl ?_
          refine Tr.bor rfl rfl (by first | exact u64_or _ _ | rfl) rfl trivial rfl ?_
          refine Tr.assign rfl rfl trivial rfl ?_
          refine Tr.nil ?_ (fun _ => rfl) (List.Perm.refl _)
          refine Wp.seq ?_
          refine Wp.reg allGen ?_
          refine Tr.move rfl rfl trivial rfl ?_
          refine Tr.move rfl rfl trivial rfl ?_
          refine Tr.call rfl (f101_mul64 _ _) (by repeat (first | exact Has.nil | refine Has.cons (by first | exact (.head _) | exact (.tail _ (.head _)) | exact (.tail _ (.tail _ (.head _))) | exact (.tail _ (.tail _ (.tail _ (.head _)))) | exact (.tail _ (.tail _ (.tail _ (.tail _ (.head _))))) | exact (.tail _ (.tail _ (.tail _ (.tail _ (.tail _ (.head _)))))) | exact (.tail _ (.tail _ (.tail _ (.tail _ (.tail _ (.tail _ (.head _))))))) | exact (.tail _ (.tail _ (.tail _ (.tail _ (.tail _ (.tail _ (.tail _ (.head _)))))))) | exact (.tail _ (.tail _ (.tail _ (.tail _ (.tail _ (.tail _ (.tail _ (.tail _ (.head _))))))))) | exact (.tail _ (.tail _ (.tail _ (.tail _ (.tail _ (.tail _ (.tail _ (.tail _ (.tail _ (.head _))))))))))) ?_)) rfl trivial rfl ?_
          refine Tr.move rfl rfl trivial rfl ?_
          refine Tr.extract rfl rfl rfl trivial rfl ?_
          refine Tr.extract rfl rfl rfl trivial rfl ?_
          refine Tr.assign rfl rfl trivial rfl ?_
          refine Tr.assign rfl rfl trivial rfl ?_
          refine Tr.nil ?_ (fun _ => rfl) (List.Perm.refl _)
          refine Wp.seq ?_
          refine Wp.reg allGen ?_
          refine Tr.move rfl rfl trivial rfl ?_
          refine Tr.move rfl rfl trivial rfl ?_
          refine Tr.conv tab rfl rfl rfl rfl (by first | exact wrap_u64 (by omega) (by omega) | rfl) rfl trivial rfl ?_
          refine Tr.lss rfl rfl (by first | with_reducible assumption | exact decide_eq_true (by omega) | exact decide_eq_false (by omega) | exact beq_iff_eq.2 (by omega) | exact beq_eq_false_iff_ne.2 (by omega) | exact bne_iff_ne.2 (by omega) | rfl) rfl trivial rfl ?_
          refine Tr.move rfl rfl trivial rfl ?_
          first | refine Tr.skp rfl ⟨_, _, rfl, rfl, by first | exact .inl rfl | exact .inr rfl⟩ ?_ | (refine Tr.move rfl rfl ⟨_, rfl, rfl⟩ rfl ?_)
          first | refine Tr.skp rfl ⟨_, _, rfl, rfl, by first | exact .inl rfl | exact .inr rfl⟩ ?_ | (refine Tr.move rfl rfl ⟨_, rfl, rfl⟩ rfl ?_)
          first | refine Tr.skp rfl ⟨_, _, rfl, rfl, by first | exact .inl rfl | exact .inr rfl⟩ ?_ | (refine Tr.conv tab rfl rfl rfl rfl (by first | exact wrap_u64 (by omega) (by omega) | rfl) rfl ⟨_, rfl, rfl⟩ rfl ?_)
          first | refine Tr.skp rfl ⟨_, _, rfl, rfl, by first | exact .inl rfl | exact .inr rfl⟩ ?_ | (refine Tr.eql rfl rfl (by first | with_reducible assumption | exact decide_eq_true (by omega) | exact decide_eq_false (by omega) | exact beq_iff_eq.2 (by omega) | exact beq_eq_false_iff_ne.2 (by omega) | exact bne_iff_ne.2 (by omega) | rfl) rfl ⟨_, rfl, rfl⟩ rfl ?_)
          first | refine Tr.skp rfl ⟨_, _, rfl, rfl, by first | exact .inl rfl | exact .inr rfl⟩ ?_ | (refine Tr.move rfl rfl ⟨_, rfl, rfl⟩ rfl ?_)
          first | refine Tr.skp rfl ⟨_, _, rfl, rfl, by first | exact .inl rfl | exact .inr rfl⟩ ?_ | (refine Tr.move rfl rfl ⟨_, rfl, rfl⟩ rfl ?_)
          first | refine Tr.skp rfl ⟨_, _, rfl, rfl, by first | exact .inl rfl | exact .inr rfl⟩ ?_ | (refine Tr.eql rfl rfl (by first | with_reducible assumption | exact decide_eq_true (by omega) | exact decide_eq_false (by omega) | exact beq_iff_eq.2 (by omega) | exact beq_eq_false_iff_ne.2 (by omega) | exact bne_iff_ne.2 (by omega) | rfl) rfl ⟨_, rfl, rfl⟩ rfl ?_)
          first | refine Tr.skp rfl ⟨_, _, rfl, rfl, by first | exact .inl rfl | exact .inr rfl⟩ ?_ | (first | refine Tr.pickT rfl rfl rfl ⟨_, rfl, rfl⟩ rfl ?_ | refine Tr.pickF rfl rfl rfl ⟨_, rfl, rfl⟩ rfl ?_)
          first | refine Tr.pickT rfl rfl rfl trivial rfl ?_ | refine Tr.pickF rfl rfl rfl trivial rfl ?_
          refine Tr.nil ?_ (fun _ => rfl) (List.Perm.refl _)
          refine Wp.condT rfl ?_
          refine Wp.reg allGen ?_
          refine Tr.move rfl rfl trivial rfl ?_
          refine Tr.assign rfl rfl trivial rfl ?_
          refine Tr.nil ?_ (fun _ => rfl) (List.Perm.refl _)
          refine Wp.reg allGen ?_
          refine Tr.move rfl rfl trivial rfl ?_
          refine Tr.shr rfl rfl (by omega) (by first | exact u64_shr _ 1 (by decide) | rfl) rfl trivial rfl ?_
          refine Tr.assign rfl rfl trivial rfl ?_
          refine Tr.nil ?_ (fun _ => rfl) (List.Perm.refl _)
          exact WpL.weak ih' (Wk.mk (by repeat (first | exact ESub.nil | refine ESub.cons rfl (by first | rfl | (simp; done) | (simp; omega)) ?_)) (by repeat (first | exact MSub.nil | refine MSub.cons (by first | exact .here | exact (.there .here) | exact (.there (.there .here)) | exact (.there (.there (.there .here))) | exact (.there (.there (.there (.there .here)))) | exact (.there (.there (.there (.there (.there .here))))) | exact (.there (.there (.there (.there (.there (.there .here)))))) | exact (.there (.there (.there (.there (.there (.there (.there .here))))))) | exact (.there (.there (.there (.there (.there (.there (.there (.there .here)))))))) | exact (.there (.there (.there (.there (.there (.there (.there (.there (.there .here)))))))))) (by first | rfl | (simp; done)) ?_)))
        | false =>
          have ih' := ih (bit >>> UInt64.ofNat 1) root hsh
          have hok : sqOk p (root ||| bit) = false := by simp only [sqOk, hA, hB, hC, Bool.false_or, Bool.true_and]
          rw [hok, if_neg (by decide)]
          refine WpL.step ?_
          refine Wp.seq ?_
          refine Wp.seq ?_
          refine Wp.reg allGen ?_
          refine Tr.move rfl rfl trivial rfl ?_
          refine Tr.gtr rfl rfl (by first | with_reducible assumption | exact decide_eq_true (by omega) | exact decide_eq_false (by omega) | exact beq_iff_eq.2 (by omega) | exact beq_eq_false_iff_ne.2 (by omega) | exact bne_iff_ne.2 (by omega) | rfl) rfl trivial rfl ?_
          refine Tr.nil ?_ (fun _ => rfl) (List.Perm.refl _)
          refine Wp.condT rfl ?_
          refine Wp.skip ?_
          refine Wp.seq ?_
          refine Wp.block ?_
          refine Wp.seq ?_
          refine Wp.reg allGen ?_
          refine Tr.move rfl rfl trivial rfl ?_
          refine Tr.move rfl rfl trivial rfl ?_
          refine Tr.bor rfl rfl (by first | exact u64_or _ _ | rfl) rfl trivial rfl ?_
          refine Tr.assign rfl rfl trivial rfl ?_
          refine Tr.nil ?_ (fun _ => rfl) (List.Perm.refl _)
          refine Wp.seq ?_
          refine Wp.reg allGen ?_
          refine Tr.move rfl rfl trivial rfl ?_
          refine Tr.move rfl rfl trivial rfl ?_
          refine Tr.call rfl (f101_mul64 _ _) (by repeat (first | exact Has.nil | refine Has.cons (by first | exact (.head _) | exact (.tail _ (.head _)) | exact (.tail _ (.tail _ (.head _))) | exact (.tail _ (.tail _ (.tail _ (.head _)))) | exact (.tail _ (.tail _ (.tail _ (.tail _ (.head _))))) | exact (.tail _ (.tail _ (.tail _ (.tail _ (.tail _ (.head _)))))) | exact (.tail _ (.tail _ (.tail _ (.tail _ (.tail _ (.tail _ (.head _))))))) | exact (.tail _ (.tail _ (.tail _ (.tail _ (.tail _ (.tail _ (.tail _ (.head _)))))))) | exact (.tail _ (.tail _ (.tail _ (.tail _ (.tail _ (.tail _ (.tail _ (.tail _ (.head _))))))))) | exact (.tail _ (.tail _ (.tail _ (.tail _ (.tail _ (.tail _ (.tail _ (.tail _ (.tail _ (.head _))))))))))) ?_)) rfl trivial rfl ?_
          refine Tr.move rfl rfl trivial rfl ?_
          refine Tr.extract rfl rfl rfl trivial rfl ?_
          refine Tr.extract rfl rfl rfl trivial rfl ?_
          refine Tr.assign rfl rfl trivial rfl ?_
          refine Tr.assign rfl rfl trivial rfl ?_
          refine Tr.nil ?_ (fun _ => rfl) (List.Perm.refl _)
          refine Wp.seq ?_
          refine Wp.reg allGen ?_
          refine Tr.move rfl rfl trivial rfl ?_
          refine Tr.move rfl rfl trivial rfl ?_
          refine Tr.conv tab rfl rfl rfl rfl (by first | exact wrap_u64 (by omega) (by omega) | rfl) rfl trivial rfl ?_
          refine Tr.lss rfl rfl (by first | with_reducible assumption | exact decide_eq_true (by omega) | exact decide_eq_false (by omega) | exact beq_iff_eq.2 (by omega) | exact beq_eq_false_iff_ne.2 (by omega) | exact bne_iff_ne.2 (by omega) | rfl) rfl trivial rfl ?_
          refine Tr.move rfl rfl trivial rfl ?_
          first | refine Tr.skp rfl ⟨_, _, rfl, rfl, by first | exact .inl rfl | exact .inr rfl⟩ ?_ | (refine Tr.move rfl rfl ⟨_, rfl, rfl⟩ rfl ?_)
          first | refine Tr.skp rfl ⟨_, _, rfl, rfl, by first | exact .inl rfl | exact .inr rfl⟩ ?_ | (refine Tr.move rfl rfl ⟨_, rfl, rfl⟩ rfl ?_)
          first | refine Tr.skp rfl ⟨_, _, rfl, rfl, by first | exact .inl rfl | exact .inr rfl⟩ ?_ | (refine Tr.conv tab rfl rfl rfl rfl (by first | exact wrap_u64 (by omega) (by omega) | rfl) rfl ⟨_, rfl, rfl⟩ rfl ?_)
          first | refine Tr.skp rfl ⟨_, _, rfl, rfl, by first | exact .inl rfl | exact .inr rfl⟩ ?_ | (refine Tr.eql rfl rfl (by first | with_reducible assumption | exact decide_eq_true (by omega) | exact decide_eq_false (by omega) | exact beq_iff_eq.2 (by omega) | exact beq_eq_false_iff_ne.2 (by omega) | exact bne_iff_ne.2 (by omega) | rfl) rfl ⟨_, rfl, rfl⟩ rfl ?_)
          first | refine Tr.skp rfl ⟨_, _, rfl, rfl, by first | exact .inl rfl | exact .inr rfl⟩ ?_ | (refine Tr.move rfl rfl ⟨_, rfl, rfl⟩ rfl ?_)
          first | refine Tr.skp rfl ⟨_, _, rfl, rfl, by first | exact .inl rfl | exact .inr rfl⟩ ?_ | (refine Tr.move rfl rfl ⟨_, rfl, rfl⟩ rfl ?_)
          first | refine Tr.skp rfl ⟨_, _, rfl, rfl, by first | exact .inl rfl | exact .inr rfl⟩ ?_ | (refine Tr.eql rfl rfl (by first | with_reducible assumption | exact decide_eq_true (by omega) | exact decide_eq_false (by omega) | exact beq_iff_eq.2 (by omega) | exact beq_eq_false_iff_ne.2 (by omega) | exact bne_iff_ne.2 (by omega) | rfl) rfl ⟨_, rfl, rfl⟩ rfl ?_)
          first | refine Tr.skp rfl ⟨_, _, rfl, rfl, by first | exact .inl rfl | exact .inr rfl⟩ ?_ | (first | refine Tr.pickT rfl rfl rfl ⟨_, rfl, rfl⟩ rfl ?_ | refine Tr.pickF rfl rfl rfl ⟨_, rfl, rfl⟩ rfl ?_)
          first | refine Tr.pickT rfl rfl rfl trivial rfl ?_ | refine Tr.pickF rfl rfl rfl trivial rfl ?_
          refine Tr.nil ?_ (fun _ => rfl) (List.Perm.refl _)
          refine Wp.condF rfl ?_
          refine Wp.skip ?_
          refine Wp.reg allGen ?_
          refine Tr.move rfl rfl trivial rfl ?_
          refine Tr.shr rfl rfl (by omega) (by first | exact u64_shr _ 1 (by decide) | rfl) rfl trivial rfl ?_
          refine Tr.assign rfl rfl trivial rfl ?_
          refine Tr.nil ?_ (fun _ => rfl) (List.Perm.refl _)
          exact WpL.weak ih' (Wk.mk (by repeat (first | exact ESub.nil | refine ESub.cons rfl (by first | rfl | (simp; done) | (simp; omega)) ?_)) (by repeat (first | exact MSub.nil | refine MSub.cons (by first | exact .here | exact (.there .here) | exact (.there (.there .here)) | exact (.there (.there (.there .here))) | exact (.there (.there (.there (.there .here)))) | exact (.there (.there (.there (.there (.there .here))))) | exact (.there (.there (.there (.there (.there (.there .here)))))) | exact (.there (.there (.there (.there (.there (.there (.there .here))))))) | exact (.there (.there (.there (.there (.there (.there (.there (.there .here)))))))) | exact (.there (.there (.there (.there (.there (.there (.there (.there (.there .here)))))))))) (by first | rfl | (simp; done)) ?_)))

def squareS (p : Int) : UInt32 := (sqL p 38 68719476736 0).toUInt32

theorem f66_square (p : Int) (h0 : 0 ≤ p) (hp : p ≤ 1000) : FnR Try.prog 66 [i64 p] [] (u32 (squareS p)) := by
  refine fnR_of 38 rfl Try.func66 rfl (by kernel_rfl) rfl (by simp) fun w => ?_
  refine Wp.seq ?_
  refine Wp.reg allGen ?_
  refine Tr.assign (v := u32 0) rfl rfl trivial rfl ?_
  refine Tr.nil ?_ (fun _ => rfl) (List.Perm.refl _)
  refine Wp.seq ?_
  refine Wp.reg allGen ?_
  refine Tr.assign (v := u64 0) rfl rfl trivial rfl ?_
  refine Tr.nil ?_ (fun _ => rfl) (List.Perm.refl _)
  refine Wp.seq ?_
  refine Wp.seq ?_
  refine Wp.reg allGen ?_
  refine Tr.assign (v := u64 68719476736) rfl rfl trivial rfl ?_
  refine Tr.nil ?_ (fun _ => rfl) (List.Perm.refl _)
  refine Wp.block ?_
  refine Wp.loopQ (sq_loop rfl p h0 hp 37 68719476736 0 (by decide)) (Wk.mk (by repeat (first | exact ESub.nil | refine ESub.cons rfl (by first | rfl | (simp; done) | (simp; omega)) ?_)) (by repeat (first | exact MSub.nil | refine MSub.cons (by first | exact .here | exact (.there .here) | exact (.there (.there .here)) | exact (.there (.there (.there .here))) | exact (.there (.there (.there (.there .here)))) | exact (.there (.there (.there (.there (.there .here))))) | exact (.there (.there (.there (.there (.there (.there .here)))))) | exact (.there (.there (.there (.there (.there (.there (.there .here))))))) | exact (.there (.there (.there (.there (.there (.there (.there (.there .here)))))))) | exact (.there (.there (.there (.there (.there (.there (.there (.there (.there .here)))))))))) (by first | rfl | (simp; done)) ?_))) ?_
  rintro _ env1 mem1 ⟨rfl, hk1⟩
  refine Wp.weak ?_ hk1
  refine Wp.seq ?_
  refine Wp.reg allGen ?_
  refine Tr.move rfl rfl trivial rfl ?_
  refine Tr.conv tab rfl rfl rfl rfl (by first | exact conv_u64_u32 _ | rfl) rfl trivial rfl ?_
  refine Tr.assign rfl rfl trivial rfl ?_
  refine Tr.nil ?_ (fun _ => rfl) (List.Perm.refl _)
  refine Wp.ret ?_
  refine ⟨by first | exact .inl rfl | exact .inr rfl, ?_⟩
  exact .r1 rfl (RvIs.tmp rfl)

abbrev cTop (x : UInt64) : UInt64 := mulHi (mulHi x x) x + addC (mulHi x x * x) (mulHi (x * x) x) 0
abbrev cMid (x : UInt64) : UInt64 := mulHi x x * x + mulHi (x * x) x + 0
abbrev cLow (x : UInt64) : UInt64 := (x * x) * x

abbrev cubeLim (p : Int) : UInt64 := UInt64.ofNat p.toNat <<< UInt64.ofNat 32

def cubeOk (p : Int) (x : UInt64) : Bool :=
  (((cTop x).toNat : Int) == 0) && (decide (((cMid x).toNat : Int) < ((cubeLim p).toNat : Int)) || ((((cMid x).toNat : Int) == ((cubeLim p).toNat : Int)) && (((cLow x).toNat : Int) == 0)))

def cubeL (p : Int) : Nat → UInt64 → UInt64 → UInt64
  | 0, _, root => root
  | f + 1, bit, root => if bit = 0 then root else cubeL p f (bit >>> UInt64.ofNat 1) (if cubeOk p (root ||| bit) then root ||| bit else root)

def loop67 : Code := (Code.seq (Code.seq (Code.region 3 #[{ dst := (some 16), op := (Op.move (Operand.tmp 4)), type := 121, pos := "sha256.go:60", after := #[], guard := none }, { dst := (some 17), op := (Op.binOp BinOp.gtr 121 (Operand.tmp 16) (Operand.const (Value.int IntKind.u64 0)) 121), type := 4, pos := "sha256.go:60", after := #[{ on := 0, ground := Ground.data }], guard := none }] false) (Code.cond (Operand.tmp 17) Code.skip (Code.exit 0))) (Code.seq (Code.block 1 (Code.seq (Code.region 5 #[{ dst := (some 20), op := (Op.move (Operand.tmp 3)), type := 121, pos := "sha256.go:61", after := #[], guard := none }, { dst := (some 21), op := (Op.move (Operand.tmp 4)), type := 121, pos := "sha256.go:61", after := #[], guard := none }, { dst := (some 22), op := (Op.binOp BinOp.or 121 (Operand.tmp 20) (Operand.tmp 21) 121), type := 121, pos := "sha256.go:61", after := #[{ on := 0, ground := Ground.data }, { on := 1, ground := Ground.data }], guard := none }, { dst := (some 5), op := (Op.assign (Operand.tmp 22)), type := 121, pos := "sha256.go:61", after := #[{ on := 2, ground := Ground.data }, { on := 0, ground := Ground.phase }, { on := 1, ground := Ground.phase }, { on := 2, ground := Ground.phase }], guard := none }] false) (Code.seq (Code.region 6 #[{ dst := (some 24), op := (Op.move (Operand.tmp 5)), type := 121, pos := "sha256.go:62", after := #[], guard := none }, { dst := (some 25), op := (Op.move (Operand.tmp 5)), type := 121, pos := "sha256.go:62", after := #[], guard := none }, { dst := (some 26), op := (Op.call { callee := (Callee.value (Operand.func 101)), args := #[(Operand.tmp 24), (Operand.tmp 25)], argTypes := #[121, 121] }), type := 122, pos := "sha256.go:62", after := #[{ on := 0, ground := Ground.data }, { on := 1, ground := Ground.data }], guard := none }, { dst := (some 23), op := (Op.move (Operand.tmp 26)), type := 122, pos := "sha256.go:62", after := #[{ on := 2, ground := Ground.data }], guard := none }, { dst := (some 27), op := (Op.extract (Operand.tmp 23) 0), type := 121, pos := "sha256.go:62", after := #[{ on := 3, ground := Ground.data }], guard := none }, { dst := (some 28), op := (Op.extract (Operand.tmp 23) 1), type := 121, pos := "sha256.go:62", after := #[{ on := 3, ground := Ground.data }, { on := 6, ground := (Ground.gcOnly Departure.lateStores) }], guard := none }, { dst := (some 6), op := (Op.assign (Operand.tmp 27)), type := 121, pos := "sha256.go:62", after := #[{ on := 4, ground := Ground.data }, { on := 2, ground := Ground.chain }, { on := 0, ground := Ground.phase }, { on := 1, ground := Ground.phase }, { on := 2, ground := Ground.phase }, { on := 3, ground := Ground.phase }, { on := 4, ground := Ground.phase }, { on := 5, ground := (Ground.textOnly Departure.lateStores) }], guard := none }, { dst := (some 7), op := (Op.assign (Operand.tmp 28)), type := 121, pos := "sha256.go:62", after := #[{ on := 5, ground := Ground.data }, { on := 6, ground := Ground.chain }, { on := 0, ground := Ground.phase }, { on := 1, ground := Ground.phase }, { on := 2, ground := Ground.phase }, { on := 3, ground := Ground.phase }, { on := 4, ground := Ground.phase }, { on := 5, ground := Ground.phase }, { on := 6, ground := Ground.phase }], guard := none }] false) (Code.seq (Code.region 7 #[{ dst := (some 30), op := (Op.move (Operand.tmp 6)), type := 121, pos := "sha256.go:63", after := #[], guard := none }, { dst := (some 31), op := (Op.move (Operand.tmp 5)), type := 121, pos := "sha256.go:63", after := #[], guard := none }, { dst := (some 32), op := (Op.call { callee := (Callee.value (Operand.func 101)), args := #[(Operand.tmp 30), (Operand.tmp 31)], argTypes := #[121, 121] }), type := 122, pos := "sha256.go:63", after := #[{ on := 0, ground := Ground.data }, { on := 1, ground := Ground.data }], guard := none }, { dst := (some 29), op := (Op.move (Operand.tmp 32)), type := 122, pos := "sha256.go:63", after := #[{ on := 2, ground := Ground.data }], guard := none }, { dst := (some 33), op := (Op.extract (Operand.tmp 29) 0), type := 121, pos := "sha256.go:63", after := #[{ on := 3, ground := Ground.data }], guard := none }, { dst := (some 34), op := (Op.extract (Operand.tmp 29) 1), type := 121, pos := "sha256.go:63", after := #[{ on := 3, ground := Ground.data }, { on := 6, ground := (Ground.gcOnly Departure.lateStores) }], guard := none }, { dst := (some 8), op := (Op.assign (Operand.tmp 33)), type := 121, pos := "sha256.go:63", after := #[{ on := 4, ground := Ground.data }, { on := 2, ground := Ground.chain }, { on := 0, ground := Ground.phase }, { on := 1, ground := Ground.phase }, { on := 2, ground := Ground.phase }, { on := 3, ground := Ground.phase }, { on := 4, ground := Ground.phase }, { on := 5, ground := (Ground.textOnly Departure.lateStores) }], guard := none }, { dst := (some 9), op := (Op.assign (Operand.tmp 34)), type := 121, pos := "sha256.go:63", after := #[{ on := 5, ground := Ground.data }, { on := 6, ground := Ground.chain }, { on := 0, ground := Ground.phase }, { on := 1, ground := Ground.phase }, { on := 2, ground := Ground.phase }, { on := 3, ground := Ground.phase }, { on := 4, ground := Ground.phase }, { on := 5, ground := Ground.phase }, { on := 6, ground := Ground.phase }], guard := none }] false) (Code.seq (Code.region 8 #[{ dst := (some 36), op := (Op.move (Operand.tmp 7)), type := 121, pos := "sha256.go:64", after := #[], guard := none }, { dst := (some 37), op := (Op.move (Operand.tmp 5)), type := 121, pos := "sha256.go:64", after := #[], guard := none }, { dst := (some 38), op := (Op.call { callee := (Callee.value (Operand.func 101)), args := #[(Operand.tmp 36), (Operand.tmp 37)], argTypes := #[121, 121] }), type := 122, pos := "sha256.go:64", after := #[{ on := 0, ground := Ground.data }, { on := 1, ground := Ground.data }], guard := none }, { dst := (some 35), op := (Op.move (Operand.tmp 38)), type := 122, pos := "sha256.go:64", after := #[{ on := 2, ground := Ground.data }], guard := none }, { dst := (some 39), op := (Op.extract (Operand.tmp 35) 0), type := 121, pos := "sha256.go:64", after := #[{ on := 3, ground := Ground.data }], guard := none }, { dst := (some 40), op := (Op.extract (Operand.tmp 35) 1), type := 121, pos := "sha256.go:64", after := #[{ on := 3, ground := Ground.data }, { on := 6, ground := (Ground.gcOnly Departure.lateStores) }], guard := none }, { dst := (some 10), op := (Op.assign (Operand.tmp 39)), type := 121, pos := "sha256.go:64", after := #[{ on := 4, ground := Ground.data }, { on := 2, ground := Ground.chain }, { on := 0, ground := Ground.phase }, { on := 1, ground := Ground.phase }, { on := 2, ground := Ground.phase }, { on := 3, ground := Ground.phase }, { on := 4, ground := Ground.phase }, { on := 5, ground := (Ground.textOnly Departure.lateStores) }], guard := none }, { dst := (some 11), op := (Op.assign (Operand.tmp 40)), type := 121, pos := "sha256.go:64", after := #[{ on := 5, ground := Ground.data }, { on := 6, ground := Ground.chain }, { on := 0, ground := Ground.phase }, { on := 1, ground := Ground.phase }, { on := 2, ground := Ground.phase }, { on := 3, ground := Ground.phase }, { on := 4, ground := Ground.phase }, { on := 5, ground := Ground.phase }, { on := 6, ground := Ground.phase }], guard := none }] false) (Code.seq (Code.region 9 #[{ dst := (some 42), op := (Op.move (Operand.tmp 9)), type := 121, pos := "sha256.go:65", after := #[], guard := none }, { dst := (some 43), op := (Op.move (Operand.tmp 10)), type := 121, pos := "sha256.go:65", after := #[], guard := none }, { dst := (some 44), op := (Op.call { callee := (Callee.value (Operand.func 98)), args := #[(Operand.tmp 42), (Operand.tmp 43), (Operand.const (Value.int IntKind.u64 0))], argTypes := #[121, 121, 121] }), type := 122, pos := "sha256.go:65", after := #[{ on := 0, ground := Ground.data }, { on := 1, ground := Ground.data }], guard := none }, { dst := (some 41), op := (Op.move (Operand.tmp 44)), type := 122, pos := "sha256.go:65", after := #[{ on := 2, ground := Ground.data }], guard := none }, { dst := (some 45), op := (Op.extract (Operand.tmp 41) 0), type := 121, pos := "sha256.go:65", after := #[{ on := 3, ground := Ground.data }], guard := none }, { dst := (some 46), op := (Op.extract (Operand.tmp 41) 1), type := 121, pos := "sha256.go:65", after := #[{ on := 3, ground := Ground.data }, { on := 6, ground := (Ground.gcOnly Departure.lateStores) }], guard := none }, { dst := (some 12), op := (Op.assign (Operand.tmp 45)), type := 121, pos := "sha256.go:65", after := #[{ on := 4, ground := Ground.data }, { on := 2, ground := Ground.chain }, { on := 0, ground := Ground.phase }, { on := 1, ground := Ground.phase }, { on := 2, ground := Ground.phase }, { on := 3, ground := Ground.phase }, { on := 4, ground := Ground.phase }, { on := 5, ground := (Ground.textOnly Departure.lateStores) }], guard := none }, { dst := (some 13), op := (Op.assign (Operand.tmp 46)), type := 121, pos := "sha256.go:65", after := #[{ on := 5, ground := Ground.data }, { on := 6, ground := Ground.chain }, { on := 0, ground := Ground.phase }, { on := 1, ground := Ground.phase }, { on := 2, ground := Ground.phase }, { on := 3, ground := Ground.phase }, { on := 4, ground := Ground.phase }, { on := 5, ground := Ground.phase }, { on := 6, ground := Ground.phase }], guard := none }] false) (Code.seq (Code.region 10 #[{ dst := (some 47), op := (Op.move (Operand.tmp 8)), type := 121, pos := "sha256.go:66", after := #[], guard := none }, { dst := (some 48), op := (Op.move (Operand.tmp 13)), type := 121, pos := "sha256.go:66", after := #[], guard := none }, { dst := (some 49), op := (Op.binOp BinOp.add 121 (Operand.tmp 47) (Operand.tmp 48) 121), type := 121, pos := "sha256.go:66", after := #[{ on := 0, ground := Ground.data }, { on := 1, ground := Ground.data }], guard := none }, { dst := (some 14), op := (Op.assign (Operand.tmp 49)), type := 121, pos := "sha256.go:66", after := #[{ on := 2, ground := Ground.data }, { on := 0, ground := Ground.phase }, { on := 1, ground := Ground.phase }, { on := 2, ground := Ground.phase }], guard := none }] false) (Code.seq (Code.region 11 #[{ dst := (some 50), op := (Op.move (Operand.tmp 0)), type := 3, pos := "sha256.go:68", after := #[], guard := none }, { dst := (some 51), op := (Op.convert 3 121 (Operand.tmp 50)), type := 121, pos := "sha256.go:68", after := #[{ on := 0, ground := Ground.data }], guard := none }, { dst := (some 52), op := (Op.binOp BinOp.shl 121 (Operand.tmp 51) (Operand.const (Value.int IntKind.u64 32)) 51), type := 121, pos := "sha256.go:68", after := #[{ on := 1, ground := Ground.data }], guard := none }, { dst := (some 15), op := (Op.assign (Operand.tmp 52)), type := 121, pos := "sha256.go:68", after := #[{ on := 2, ground := Ground.data }, { on := 0, ground := Ground.phase }, { on := 1, ground := Ground.phase }, { on := 2, ground := Ground.phase }], guard := none }] false) (Code.seq (Code.region 12 #[{ dst := (some 53), op := (Op.move (Operand.tmp 14)), type := 121, pos := "sha256.go:69", after := #[], guard := none }, { dst := (some 54), op := (Op.binOp BinOp.eql 121 (Operand.tmp 53) (Operand.const (Value.int IntKind.u64 0)) 121), type := 4, pos := "sha256.go:69", after := #[{ on := 0, ground := Ground.data }], guard := none }, { dst := (some 55), op := (Op.move (Operand.tmp 54)), type := 4, pos := "sha256.go:69", after := #[{ on := 1, ground := Ground.data }], guard := none }, { dst := (some 56), op := (Op.move (Operand.tmp 12)), type := 121, pos := "sha256.go:69", after := #[{ on := 2, ground := Ground.guard }], guard := (some (2, true)) }, { dst := (some 57), op := (Op.move (Operand.tmp 15)), type := 121, pos := "sha256.go:69", after := #[{ on := 2, ground := Ground.guard }], guard := (some (2, true)) }, { dst := (some 58), op := (Op.binOp BinOp.lss 121 (Operand.tmp 56) (Operand.tmp 57) 121), type := 4, pos := "sha256.go:69", after := #[{ on := 3, ground := Ground.data }, { on := 4, ground := Ground.data }, { on := 2, ground := Ground.guard }], guard := (some (2, true)) }, { dst := (some 59), op := (Op.move (Operand.tmp 58)), type := 4, pos := "sha256.go:69", after := #[{ on := 5, ground := Ground.data }, { on := 2, ground := Ground.chain }, { on := 2, ground := Ground.guard }], guard := (some (2, true)) }, { dst := (some 60), op := (Op.move (Operand.tmp 12)), type := 121, pos := "sha256.go:69", after := #[{ on := 6, ground := Ground.guard }], guard := (some (6, false)) }, { dst := (some 61), op := (Op.move (Operand.tmp 15)), type := 121, pos := "sha256.go:69", after := #[{ on := 6, ground := Ground.guard }], guard := (some (6, false)) }, { dst := (some 62), op := (Op.binOp BinOp.eql 121 (Operand.tmp 60) (Operand.tmp 61) 121), type := 4, pos := "sha256.go:69", after := #[{ on := 7, ground := Ground.data }, { on := 8, ground := Ground.data }, { on := 6, ground := Ground.guard }], guard := (some (6, false)) }, { dst := (some 63), op := (Op.move (Operand.tmp 62)), type := 4, pos := "sha256.go:69", after := #[{ on := 9, ground := Ground.data }, { on := 6, ground := Ground.chain }, { on := 6, ground := Ground.guard }], guard := (some (6, false)) }, { dst := (some 64), op := (Op.move (Operand.tmp 11)), type := 121, pos := "sha256.go:69", after := #[{ on := 10, ground := Ground.guard }], guard := (some (10, true)) }, { dst := (some 65), op := (Op.binOp BinOp.eql 121 (Operand.tmp 64) (Operand.const (Value.int IntKind.u64 0)) 121), type := 4, pos := "sha256.go:69", after := #[{ on := 11, ground := Ground.data }, { on := 10, ground := Ground.guard }], guard := (some (10, true)) }, { dst := (some 66), op := (Op.pick (Operand.tmp 63) (Operand.tmp 65) (Operand.const (Value.bool false))), type := 4, pos := "sha256.go:69", after := #[{ on := 10, ground := Ground.data }, { on := 12, ground := Ground.data }, { on := 6, ground := Ground.guard }], guard := (some (6, false)) }, { dst := (some 67), op := (Op.pick (Operand.tmp 59) (Operand.const (Value.bool true)) (Operand.tmp 66)), type := 4, pos := "sha256.go:69", after := #[{ on := 6, ground := Ground.data }, { on := 13, ground := Ground.data }, { on := 2, ground := Ground.guard }], guard := (some (2, true)) }, { dst := (some 68), op := (Op.pick (Operand.tmp 55) (Operand.tmp 67) (Operand.const (Value.bool false))), type := 4, pos := "sha256.go:69", after := #[{ on := 2, ground := Ground.data }, { on := 14, ground := Ground.data }], guard := none }] false) (Code.cond (Operand.tmp 68) (Code.region 13 #[{ dst := (some 69), op := (Op.move (Operand.tmp 5)), type := 121, pos := "sha256.go:70", after := #[], guard := none }, { dst := (some 3), op := (Op.assign (Operand.tmp 69)), type := 121, pos := "sha256.go:70", after := #[{ on := 0, ground := Ground.data }, { on := 0, ground := Ground.phase }], guard := none }] false) Code.skip)))))))))) (Code.region 4 #[{ dst := (some 18), op := (Op.move (Operand.tmp 4)), type := 121, pos := "sha256.go:60", after := #[], guard := none }, { dst := (some 19), op := (Op.binOp BinOp.shr 121 (Operand.tmp 18) (Operand.const (Value.int IntKind.u64 1)) 51), type := 121, pos := "sha256.go:60", after := #[{ on := 0, ground := Ground.data }], guard := none }, { dst := (some 4), op := (Op.assign (Operand.tmp 19)), type := 121, pos := "sha256.go:60", after := #[{ on := 1, ground := Ground.data }, { on := 0, ground := Ground.phase }, { on := 1, ground := Ground.phase }], guard := none }] false)))

theorem cube_loop {g : Gh} (hg : g.n = 72) (p : Int) (h0 : 0 ≤ p) (hp : p ≤ 1000) : ∀ (f : Nat) (bit root : UInt64), bit.toNat < 2 ^ f →
    WpL Try.prog g loop67 (fun e env mem => e = .exit 0 ∧ Wk g env mem [(3, u64 (cubeL p (f + 1) bit root))] []) [(0, i64 p), (3, u64 root), (4, u64 bit)] [] := by
  obtain ⟨gn, w0, may⟩ := g
  obtain rfl : gn = 72 := hg
  have hcv : IntKind.u64.wrap p = ((UInt64.ofNat p.toNat).toNat : Int) := by
    rw [wrap_u64 (by omega) (by omega), UInt64.toNat_ofNat_of_lt' (by show _ < 18446744073709551616; omega)]; omega
  intro f
  have out : ∀ (f : Nat) (bit root : UInt64), bit.toNat = 0 → WpL Try.prog ⟨72, w0, may⟩ loop67 (fun e env mem => e = .exit 0 ∧ Wk ⟨72, w0, may⟩ env mem [(3, u64 (cubeL p (f + 1) bit root))] []) [(0, i64 p), (3, u64 root), (4, u64 bit)] [] := by
    intro f bit root hb
    have hbz : bit = 0 := UInt64.toNat_inj.1 (by simpa using hb)
    have hs : cubeL p (f + 1) bit root = root := by simp [cubeL, hbz]
    rw [hs]
    refine WpL.step ?_
    refine Wp.seq ?_
    refine Wp.seq ?_
    refine Wp.reg allGen ?_
    refine Tr.move rfl rfl trivial rfl ?_
    refine Tr.gtr rfl rfl (by first | with_reducible assumption | exact decide_eq_true (by omega) | exact decide_eq_false (by omega) | exact beq_iff_eq.2 (by omega) | exact beq_eq_false_iff_ne.2 (by omega) | exact bne_iff_ne.2 (by omega) | rfl) rfl trivial rfl ?_
    refine Tr.nil ?_ (fun _ => rfl) (List.Perm.refl _)
    refine Wp.condF rfl ?_
    refine Wp.exit ?_
    exact ⟨rfl, Wk.mk (by repeat (first | exact ESub.nil | refine ESub.cons rfl (by first | rfl | (simp; done) | (simp; omega)) ?_)) (by repeat (first | exact MSub.nil | refine MSub.cons (by first | exact .here | exact (.there .here) | exact (.there (.there .here)) | exact (.there (.there (.there .here))) | exact (.there (.there (.there (.there .here)))) | exact (.there (.there (.there (.there (.there .here))))) | exact (.there (.there (.there (.there (.there (.there .here)))))) | exact (.there (.there (.there (.there (.there (.there (.there .here))))))) | exact (.there (.there (.there (.there (.there (.there (.there (.there .here)))))))) | exact (.there (.there (.there (.there (.there (.there (.there (.there (.there .here)))))))))) (by first | rfl | (simp; done)) ?_))⟩
  induction f with
  | zero =>
    intro bit root hb
    exact out 0 bit root (by simpa using hb)
  | succ f ih =>
    intro bit root hb
    by_cases hz : bit.toNat = 0
    · exact out (f + 1) bit root hz
    have hbz : bit ≠ 0 := by rintro rfl; exact hz rfl
    have hsh : (bit >>> UInt64.ofNat 1).toNat < 2 ^ f := by
      rw [UInt64.toNat_shiftRight]
      show bit.toNat >>> 1 < _
      rw [Nat.shiftRight_eq_div_pow]
      have : (2 : Nat) ^ (f + 1) = 2 * 2 ^ f := by rw [Nat.pow_succ]; omega
      omega
    have hgt : decide ((0 : Int) < (bit.toNat : Int)) = true := decide_eq_true (by omega)
    have hs : cubeL p (f + 1 + 1) bit root = cubeL p (f + 1) (bit >>> UInt64.ofNat 1) (if cubeOk p (root ||| bit) then root ||| bit else root) := by
      rw [cubeL]; rw [if_neg hbz]
    rw [hs]
    cases hT : (((cTop (root ||| bit)).toNat : Int) == 0) with
    | false =>
      have ih' := ih (bit >>> UInt64.ofNat 1) root hsh
      have hok : cubeOk p (root ||| bit) = false := by simp only [cubeOk, hT]; rfl
      rw [hok, if_neg (by decide)]
      refine WpL.step ?_
      refine Wp.seq ?_
      refine Wp.seq ?_
      refine Wp.reg allGen ?_
      refine Tr.move rfl rfl trivial rfl ?_
      refine Tr.gtr rfl rfl (by first | with_reducible assumption | exact decide_eq_true (by omega) | exact decide_eq_false (by omega) | exact beq_iff_eq.2 (by omega) | exact beq_eq_false_iff_ne.2 (by omega) | exact bne_iff_ne.2 (by omega) | rfl) rfl trivial rfl ?_
      refine Tr.nil ?_ (fun _ => rfl) (List.Perm.refl _)
      refine Wp.condT rfl ?_
      refine Wp.skip ?_
      refine Wp.seq ?_
      refine Wp.block ?_
      refine Wp.seq ?_
      refine Wp.reg allGen ?_
      refine Tr.move rfl rfl trivial rfl ?_
      refine Tr.move rfl rfl trivial rfl ?_
      refine Tr.bor rfl rfl (by first | exact u64_or _ _ | rfl) rfl trivial rfl ?_
      refine Tr.assign rfl rfl trivial rfl ?_
      refine Tr.nil ?_ (fun _ => rfl) (List.Perm.refl _)
      refine Wp.seq ?_
      refine Wp.reg allGen ?_
      refine Tr.move rfl rfl trivial rfl ?_
      refine Tr.move rfl rfl trivial rfl ?_
      refine Tr.call rfl (f101_mul64 _ _) (by repeat (first | exact Has.nil | refine Has.cons (by first | exact (.head _) | exact (.tail _ (.head _)) | exact (.tail _ (.tail _ (.head _))) | exact (.tail _ (.tail _ (.tail _ (.head _)))) | exact (.tail _ (.tail _ (.tail _ (.tail _ (.head _))))) | exact (.tail _ (.tail _ (.tail _ (.tail _ (.tail _ (.head _)))))) | exact (.tail _ (.tail _ (.tail _ (.tail _ (.tail _ (.tail _ (.head _))))))) | exact (.tail _ (.tail _ (.tail _ (.tail _ (.tail _ (.tail _ (.tail _ (.head _)))))))) | exact (.tail _ (.tail _ (.tail _ (.tail _ (.tail _ (.tail _ (.tail _ (.tail _ (.head _))))))))) | exact (.tail _ (.tail _ (.tail _ (.tail _ (.tail _ (.tail _ (.tail _ (.tail _ (.tail _ (.head _))))))))))) ?_)) rfl trivial rfl ?_
      refine Tr.move rfl rfl trivial rfl ?_
      refine Tr.extract rfl rfl rfl trivial rfl ?_
      refine Tr.extract rfl rfl rfl trivial rfl ?_
      refine Tr.assign rfl rfl trivial rfl ?_
      refine Tr.assign rfl rfl trivial rfl ?_
      refine Tr.nil ?_ (fun _ => rfl) (List.Perm.refl _)
      refine Wp.seq ?_
      refine Wp.reg allGen ?_
      refine Tr.move rfl rfl trivial rfl ?_
      refine Tr.move rfl rfl trivial rfl ?_
      refine Tr.call rfl (f101_mul64 _ _) (by repeat (first | exact Has.nil | refine Has.cons (by first | exact (.head _) | exact (.tail _ (.head _)) | exact (.tail _ (.tail _ (.head _))) | exact (.tail _ (.tail _ (.tail _ (.head _)))) | exact (.tail _ (.tail _ (.tail _ (.tail _ (.head _))))) | exact (.tail _ (.tail _ (.tail _ (.tail _ (.tail _ (.head _)))))) | exact (.tail _ (.tail _ (.tail _ (.tail _ (.tail _ (.tail _ (.head _))))))) | exact (.tail _ (.tail _ (.tail _ (.tail _ (.tail _ (.tail _ (.tail _ (.head _)))))))) | exact (.tail _ (.tail _ (.tail _ (.tail _ (.tail _ (.tail _ (.tail _ (.tail _ (.head _))))))))) | exact (.tail _ (.tail _ (.tail _ (.tail _ (.tail _ (.tail _ (.tail _ (.tail _ (.tail _ (.head _))))))))))) ?_)) rfl trivial rfl ?_
      refine Tr.move rfl rfl trivial rfl ?_
      refine Tr.extract rfl rfl rfl trivial rfl ?_
      refine Tr.extract rfl rfl rfl trivial rfl ?_
      refine Tr.assign rfl rfl trivial rfl ?_
      refine Tr.assign rfl rfl trivial rfl ?_
      refine Tr.nil ?_ (fun _ => rfl) (List.Perm.refl _)
      refine Wp.seq ?_
      refine Wp.reg allGen ?_
      refine Tr.move rfl rfl trivial rfl ?_
      refine Tr.move rfl rfl trivial rfl ?_
      refine Tr.call rfl (f101_mul64 _ _) (by repeat (first | exact Has.nil | refine Has.cons (by first | exact (.head _) | exact (.tail _ (.head _)) | exact (.tail _ (.tail _ (.head _))) | exact (.tail _ (.tail _ (.tail _ (.head _)))) | exact (.tail _ (.tail _ (.tail _ (.tail _ (.head _))))) | exact (.tail _ (.tail _ (.tail _ (.tail _ (.tail _ (.head _)))))) | exact (.tail _ (.tail _ (.tail _ (.tail _ (.tail _ (.tail _ (.head _))))))) | exact (.tail _ (.tail _ (.tail _ (.tail _ (.tail _ (.tail _ (.tail _ (.head _)))))))) | exact (.tail _ (.tail _ (.tail _ (.tail _ (.tail _ (.tail _ (.tail _ (.tail _ (.head _))))))))) | exact (.tail _ (.tail _ (.tail _ (.tail _ (.tail _ (.tail _ (.tail _ (.tail _ (.tail _ (.head _))))))))))) ?_)) rfl trivial rfl ?_
      refine Tr.move rfl rfl trivial rfl ?_
      refine Tr.extract rfl rfl rfl trivial rfl ?_
      refine Tr.extract rfl rfl rfl trivial rfl ?_
      refine Tr.assign rfl rfl trivial rfl ?_
      refine Tr.assign rfl rfl trivial rfl ?_
      refine Tr.nil ?_ (fun _ => rfl) (List.Perm.refl _)
      refine Wp.seq ?_
      refine Wp.reg allGen ?_
      refine Tr.move rfl rfl trivial rfl ?_
      refine Tr.move rfl rfl trivial rfl ?_
      refine Tr.callX rfl (add64 _ _ 0 (by decide)) rfl trivial rfl ?_
      refine Tr.move rfl rfl trivial rfl ?_
      refine Tr.extract rfl rfl rfl trivial rfl ?_
      refine Tr.extract rfl rfl rfl trivial rfl ?_
      refine Tr.assign rfl rfl trivial rfl ?_
      refine Tr.assign rfl rfl trivial rfl ?_
      refine Tr.nil ?_ (fun _ => rfl) (List.Perm.refl _)
      refine Wp.seq ?_
      refine Wp.reg allGen ?_
      refine Tr.move rfl rfl trivial rfl ?_
      refine Tr.move rfl rfl trivial rfl ?_
      refine Tr.add rfl rfl (by first | exact u64_add _ _ | exact wrap_u64 (by omega) (by omega) | rfl) rfl trivial rfl ?_
      refine Tr.assign rfl rfl trivial rfl ?_
      refine Tr.nil ?_ (fun _ => rfl) (List.Perm.refl _)
      refine Wp.seq ?_
      refine Wp.reg allGen ?_
      refine Tr.move rfl rfl trivial rfl ?_
      refine Tr.conv tab rfl rfl rfl rfl hcv rfl trivial rfl ?_
      refine Tr.shl rfl rfl (by omega) (by first | exact u64_shl _ 32 (by decide) | rfl) rfl trivial rfl ?_
      refine Tr.assign rfl rfl trivial rfl ?_
      refine Tr.nil ?_ (fun _ => rfl) (List.Perm.refl _)
      refine Wp.seq ?_
      refine Wp.reg allGen ?_
      refine Tr.move rfl rfl trivial rfl ?_
      refine Tr.eql rfl rfl (by first | with_reducible assumption | exact decide_eq_true (by omega) | exact decide_eq_false (by omega) | exact beq_iff_eq.2 (by omega) | exact beq_eq_false_iff_ne.2 (by omega) | exact bne_iff_ne.2 (by omega) | rfl) rfl trivial rfl ?_
      refine Tr.move rfl rfl trivial rfl ?_
      first | refine Tr.skp rfl ⟨_, _, rfl, rfl, by first | exact .inl rfl | exact .inr rfl⟩ ?_ | (refine Tr.move rfl rfl ⟨_, rfl, rfl⟩ rfl ?_)
      first | refine Tr.skp rfl ⟨_, _, rfl, rfl, by first | exact .inl rfl | exact .inr rfl⟩ ?_ | (refine Tr.move rfl rfl ⟨_, rfl, rfl⟩ rfl ?_)
      first | refine Tr.skp rfl ⟨_, _, rfl, rfl, by first | exact .inl rfl | exact .inr rfl⟩ ?_ | (refine Tr.lss rfl rfl (by first | with_reducible assumption | exact decide_eq_true (by omega) | exact decide_eq_false (by omega) | exact beq_iff_eq.2 (by omega) | exact beq_eq_false_iff_ne.2 (by omega) | exact bne_iff_ne.2 (by omega) | rfl) rfl ⟨_, rfl, rfl⟩ rfl ?_)
      first | refine Tr.skp rfl ⟨_, _, rfl, rfl, by first | exact .inl rfl | exact .inr rfl⟩ ?_ | (refine Tr.move rfl rfl ⟨_, rfl, rfl⟩ rfl ?_)
      first | refine Tr.skp rfl ⟨_, _, rfl, rfl, by first | exact .inl rfl | exact .inr rfl⟩ ?_ | (refine Tr.move rfl rfl ⟨_, rfl, rfl⟩ rfl ?_)
      first | refine Tr.skp rfl ⟨_, _, rfl, rfl, by first | exact .inl rfl | exact .inr rfl⟩ ?_ | (refine Tr.move rfl rfl ⟨_, rfl, rfl⟩ rfl ?_)
      first | refine Tr.skp rfl ⟨_, _, rfl, rfl, by first | exact .inl rfl | exact .inr rfl⟩ ?_ | (refine Tr.eql rfl rfl (by first | with_reducible assumption | exact decide_eq_true (by omega) | exact decide_eq_false (by omega) | exact beq_iff_eq.2 (by omega) | exact beq_eq_false_iff_ne.2 (by omega) | exact bne_iff_ne.2 (by omega) | rfl) rfl ⟨_, rfl, rfl⟩ rfl ?_)
      first | refine Tr.skp rfl ⟨_, _, rfl, rfl, by first | exact .inl rfl | exact .inr rfl⟩ ?_ | (refine Tr.move rfl rfl ⟨_, rfl, rfl⟩ rfl ?_)
      first | refine Tr.skp rfl ⟨_, _, rfl, rfl, by first | exact .inl rfl | exact .inr rfl⟩ ?_ | (refine Tr.move rfl rfl ⟨_, rfl, rfl⟩ rfl ?_)
      first | refine Tr.skp rfl ⟨_, _, rfl, rfl, by first | exact .inl rfl | exact .inr rfl⟩ ?_ | (refine Tr.eql rfl rfl (by first | with_reducible assumption | exact decide_eq_true (by omega) | exact decide_eq_false (by omega) | exact beq_iff_eq.2 (by omega) | exact beq_eq_false_iff_ne.2 (by omega) | exact bne_iff_ne.2 (by omega) | rfl) rfl ⟨_, rfl, rfl⟩ rfl ?_)
      first | refine Tr.skp rfl ⟨_, _, rfl, rfl, by first | exact .inl rfl | exact .inr rfl⟩ ?_ | (first | refine Tr.pickT rfl rfl rfl ⟨_, rfl, rfl⟩ rfl ?_ | refine Tr.pickF rfl rfl rfl ⟨_, rfl, rfl⟩ rfl ?_)
      first | refine Tr.skp rfl ⟨_, _, rfl, rfl, by first | exact .inl rfl | exact .inr rfl⟩ ?_ | (first | refine Tr.pickT rfl rfl rfl ⟨_, rfl, rfl⟩ rfl ?_ | refine Tr.pickF rfl rfl rfl ⟨_, rfl, rfl⟩ rfl ?_)
      first | refine Tr.pickT rfl rfl rfl trivial rfl ?_ | refine Tr.pickF rfl rfl rfl trivial rfl ?_
      refine Tr.nil ?_ (fun _ => rfl) (List.Perm.refl _)
      refine Wp.condF rfl ?_
      refine Wp.skip ?_
      refine Wp.reg allGen ?_
      refine Tr.move rfl rfl trivial rfl ?_
      refine Tr.shr rfl rfl (by omega) (by first | exact u64_shr _ 1 (by decide) | rfl) rfl trivial rfl ?_
      refine Tr.assign rfl rfl trivial rfl ?_
      refine Tr.nil ?_ (fun _ => rfl) (List.Perm.refl _)
      exact WpL.weak ih' (Wk.mk (by repeat (first | exact ESub.nil | refine ESub.cons rfl (by first | rfl | (simp; done) | (simp; omega)) ?_)) (by repeat (first | exact MSub.nil | refine MSub.cons (by first | exact .here | exact (.there .here) | exact (.there (.there .here)) | exact (.there (.there (.there .here))) | exact (.there (.there (.there (.there .here)))) | exact (.there (.there (.there (.there (.there .here))))) | exact (.there (.there (.there (.there (.there (.there .here)))))) | exact (.there (.there (.there (.there (.there (.there (.there .here))))))) | exact (.there (.there (.there (.there (.there (.there (.there (.there .here)))))))) | exact (.there (.there (.there (.there (.there (.there (.there (.there (.there .here)))))))))) (by first | rfl | (simp; done)) ?_)))
    | true =>
      cases hA : decide (((cMid (root ||| bit)).toNat : Int) < ((cubeLim p).toNat : Int)) with
      | true =>
        have ih' := ih (bit >>> UInt64.ofNat 1) (root ||| bit) hsh
        have hok : cubeOk p (root ||| bit) = true := by simp only [cubeOk, hT, hA]; rfl
        rw [hok, if_pos rfl]
        refine WpL.step ?_
        refine Wp.seq ?_
        refine Wp.seq ?_
        refine Wp.reg allGen ?_
        refine Tr.move rfl rfl trivial rfl ?_
        refine Tr.gtr rfl rfl (by first | with_reducible assumption | exact decide_eq_true (by omega) | exact decide_eq_false (by omega) | exact beq_iff_eq.2 (by omega) | exact beq_eq_false_iff_ne.2 (by omega) | exact bne_iff_ne.2 (by omega) | rfl) rfl trivial rfl ?_
        refine Tr.nil ?_ (fun _ => rfl) (List.Perm.refl _)
        refine Wp.condT rfl ?_
        refine Wp.skip ?_
        refine Wp.seq ?_
        refine Wp.block ?_
        refine Wp.seq ?_
        refine Wp.reg allGen ?_
        refine Tr.move rfl rfl trivial rfl ?_
        refine Tr.move rfl rfl trivial rfl ?_
        refine Tr.bor rfl rfl (by first | exact u64_or _ _ | rfl) rfl trivial rfl ?_
        refine Tr.assign rfl rfl trivial rfl ?_
        refine Tr.nil ?_ (fun _ => rfl) (List.Perm.refl _)
        refine Wp.seq ?_
        refine Wp.reg allGen ?_
        refine Tr.move rfl rfl trivial rfl ?_
        refine Tr.move rfl rfl trivial rfl ?_
        refine Tr.call rfl (f101_mul64 _ _) (by repeat (first | exact Has.nil | refine Has.cons (by first | exact (.head _) | exact (.tail _ (.head _)) | exact (.tail _ (.tail _ (.head _))) | exact (.tail _ (.tail _ (.tail _ (.head _)))) | exact (.tail _ (.tail _ (.tail _ (.tail _ (.head _))))) | exact (.tail _ (.tail _ (.tail _ (.tail _ (.tail _ (.head _)))))) | exact (.tail _ (.tail _ (.tail _ (.tail _ (.tail _ (.tail _ (.head _))))))) | exact (.tail _ (.tail _ (.tail _ (.tail _ (.tail _ (.tail _ (.tail _ (.head _)))))))) | exact (.tail _ (.tail _ (.tail _ (.tail _ (.tail _ (.tail _ (.tail _ (.tail _ (.head _))))))))) | exact (.tail _ (.tail _ (.tail _ (.tail _ (.tail _ (.tail _ (.tail _ (.tail _ (.tail _ (.head _))))))))))) ?_)) rfl trivial rfl ?_
        refine Tr.move rfl rfl trivial rfl ?_
        refine Tr.extract rfl rfl rfl trivial rfl ?_
        refine Tr.extract rfl rfl rfl trivial rfl ?_
        refine Tr.assign rfl rfl trivial rfl ?_
        refine Tr.assign rfl rfl trivial rfl ?_
        refine Tr.nil ?_ (fun _ => rfl) (List.Perm.refl _)
        refine Wp.seq ?_
        refine Wp.reg allGen ?_
        refine Tr.move rfl rfl trivial rfl ?_
        refine Tr.move rfl rfl trivial rfl ?_
        refine Tr.call rfl (f101_mul64 _ _) (by repeat (first | exact Has.nil | refine Has.cons (by first | exact (.head _) | exact (.tail _ (.head _)) | exact (.tail _ (.tail _ (.head _))) | exact (.tail _ (.tail _ (.tail _ (.head _)))) | exact (.tail _ (.tail _ (.tail _ (.tail _ (.head _))))) | exact (.tail _ (.tail _ (.tail _ (.tail _ (.tail _ (.head _)))))) | exact (.tail _ (.tail _ (.tail _ (.tail _ (.tail _ (.tail _ (.head _))))))) | exact (.tail _ (.tail _ (.tail _ (.tail _ (.tail _ (.tail _ (.tail _ (.head _)))))))) | exact (.tail _ (.tail _ (.tail _ (.tail _ (.tail _ (.tail _ (.tail _ (.tail _ (.head _))))))))) | exact (.tail _ (.tail _ (.tail _ (.tail _ (.tail _ (.tail _ (.tail _ (.tail _ (.tail _ (.head _))))))))))) ?_)) rfl trivial rfl ?_
        refine Tr.move rfl rfl trivial rfl ?_
        refine Tr.extract rfl rfl rfl trivial rfl ?_
        refine Tr.extract rfl rfl rfl trivial rfl ?_
        refine Tr.assign rfl rfl trivial rfl ?_
        refine Tr.assign rfl rfl trivial rfl ?_
        refine Tr.nil ?_ (fun _ => rfl) (List.Perm.refl _)
        refine Wp.seq ?_
        refine Wp.reg allGen ?_
        refine Tr.move rfl rfl trivial rfl ?_
        refine Tr.move rfl rfl trivial rfl ?_
        refine Tr.call rfl (f101_mul64 _ _) (by repeat (first | exact Has.nil | refine Has.cons (by first | exact (.head _) | exact (.tail _ (.head _)) | exact (.tail _ (.tail _ (.head _))) | exact (.tail _ (.tail _ (.tail _ (.head _)))) | exact (.tail _ (.tail _ (.tail _ (.tail _ (.head _))))) | exact (.tail _ (.tail _ (.tail _ (.tail _ (.tail _ (.head _)))))) | exact (.tail _ (.tail _ (.tail _ (.tail _ (.tail _ (.tail _ (.head _))))))) | exact (.tail _ (.tail _ (.tail _ (.tail _ (.tail _ (.tail _ (.tail _ (.head _)))))))) | exact (.tail _ (.tail _ (.tail _ (.tail _ (.tail _ (.tail _ (.tail _ (.tail _ (.head _))))))))) | exact (.tail _ (.tail _ (.tail _ (.tail _ (.tail _ (.tail _ (.tail _ (.tail _ (.tail _ (.head _))))))))))) ?_)) rfl trivial rfl ?_
        refine Tr.move rfl rfl trivial rfl ?_
        refine Tr.extract rfl rfl rfl trivial rfl ?_
        refine Tr.extract rfl rfl rfl trivial rfl ?_
        refine Tr.assign rfl rfl trivial rfl ?_
        refine Tr.assign rfl rfl trivial rfl ?_
        refine Tr.nil ?_ (fun _ => rfl) (List.Perm.refl _)
        refine Wp.seq ?_
        refine Wp.reg allGen ?_
        refine Tr.move rfl rfl trivial rfl ?_
        refine Tr.move rfl rfl trivial rfl ?_
        refine Tr.callX rfl (add64 _ _ 0 (by decide)) rfl trivial rfl ?_
        refine Tr.move rfl rfl trivial rfl ?_
        refine Tr.extract rfl rfl rfl trivial rfl ?_
        refine Tr.extract rfl rfl rfl trivial rfl ?_
        refine Tr.assign rfl rfl trivial rfl ?_
        refine Tr.assign rfl rfl trivial rfl ?_
        refine Tr.nil ?_ (fun _ => rfl) (List.Perm.refl _)
        refine Wp.seq ?_
        refine Wp.reg allGen ?_
        refine Tr.move rfl rfl trivial rfl ?_
        refine Tr.move rfl rfl trivial rfl ?_
        refine Tr.add rfl rfl (by first | exact u64_add _ _ | exact wrap_u64 (by omega) (by omega) | rfl) rfl trivial rfl ?_
        refine Tr.assign rfl rfl trivial rfl ?_
        refine Tr.nil ?_ (fun _ => rfl) (List.Perm.refl _)
        refine Wp.seq ?_
        refine Wp.reg allGen ?_
        refine Tr.move rfl rfl trivial rfl ?_
        refine Tr.conv tab rfl rfl rfl rfl hcv rfl trivial rfl ?_
        refine Tr.shl rfl rfl (by omega) (by first | exact u64_shl _ 32 (by decide) | rfl) rfl trivial rfl ?_
        refine Tr.assign rfl rfl trivial rfl ?_
        refine Tr.nil ?_ (fun _ => rfl) (List.Perm.refl _)
        refine Wp.seq ?_
        refine Wp.reg allGen ?_
        refine Tr.move rfl rfl trivial rfl ?_
        refine Tr.eql rfl rfl (by first | with_reducible assumption | exact decide_eq_true (by omega) | exact decide_eq_false (by omega) | exact beq_iff_eq.2 (by omega) | exact beq_eq_false_iff_ne.2 (by omega) | exact bne_iff_ne.2 (by omega) | rfl) rfl trivial rfl ?_
        refine Tr.move rfl rfl trivial rfl ?_
        first | refine Tr.skp rfl ⟨_, _, rfl, rfl, by first | exact .inl rfl | exact .inr rfl⟩ ?_ | (refine Tr.move rfl rfl ⟨_, rfl, rfl⟩ rfl ?_)
        first | refine Tr.skp rfl ⟨_, _, rfl, rfl, by first | exact .inl rfl | exact .inr rfl⟩ ?_ | (refine Tr.move rfl rfl ⟨_, rfl, rfl⟩ rfl ?_)
        first | refine Tr.skp rfl ⟨_, _, rfl, rfl, by first | exact .inl rfl | exact .inr rfl⟩ ?_ | (refine Tr.lss rfl rfl (by first | with_reducible assumption | exact decide_eq_true (by omega) | exact decide_eq_false (by omega) | exact beq_iff_eq.2 (by omega) | exact beq_eq_false_iff_ne.2 (by omega) | exact bne_iff_ne.2 (by omega) | rfl) rfl ⟨_, rfl, rfl⟩ rfl ?_)
        first | refine Tr.skp rfl ⟨_, _, rfl, rfl, by first | exact .inl rfl | exact .inr rfl⟩ ?_ | (refine Tr.move rfl rfl ⟨_, rfl, rfl⟩ rfl ?_)
        first | refine Tr.skp rfl ⟨_, _, rfl, rfl, by first | exact .inl rfl | exact .inr rfl⟩ ?_ | (refine Tr.move rfl rfl ⟨_, rfl, rfl⟩ rfl ?_)
        first | refine Tr.skp rfl ⟨_, _, rfl, rfl, by first | exact .inl rfl | exact .inr rfl⟩ ?_ | (refine Tr.move rfl rfl ⟨_, rfl, rfl⟩ rfl ?_)
        first | refine Tr.skp rfl ⟨_, _, rfl, rfl, by first | exact .inl rfl | exact .inr rfl⟩ ?_ | (refine Tr.eql rfl rfl (by first | with_reducible assumption | exact decide_eq_true (by omega) | exact decide_eq_false (by omega) | exact beq_iff_eq.2 (by omega) | exact beq_eq_false_iff_ne.2 (by omega) | exact bne_iff_ne.2 (by omega) | rfl) rfl ⟨_, rfl, rfl⟩ rfl ?_)
        first | refine Tr.skp rfl ⟨_, _, rfl, rfl, by first | exact .inl rfl | exact .inr rfl⟩ ?_ | (refine Tr.move rfl rfl ⟨_, rfl, rfl⟩ rfl ?_)
        first | refine Tr.skp rfl ⟨_, _, rfl, rfl, by first | exact .inl rfl | exact .inr rfl⟩ ?_ | (refine Tr.move rfl rfl ⟨_, rfl, rfl⟩ rfl ?_)
        first | refine Tr.skp rfl ⟨_, _, rfl, rfl, by first | exact .inl rfl | exact .inr rfl⟩ ?_ | (refine Tr.eql rfl rfl (by first | with_reducible assumption | exact decide_eq_true (by omega) | exact decide_eq_false (by omega) | exact beq_iff_eq.2 (by omega) | exact beq_eq_false_iff_ne.2 (by omega) | exact bne_iff_ne.2 (by omega) | rfl) rfl ⟨_, rfl, rfl⟩ rfl ?_)
        first | refine Tr.skp rfl ⟨_, _, rfl, rfl, by first | exact .inl rfl | exact .inr rfl⟩ ?_ | (first | refine Tr.pickT rfl rfl rfl ⟨_, rfl, rfl⟩ rfl ?_ | refine Tr.pickF rfl rfl rfl ⟨_, rfl, rfl⟩ rfl ?_)
        first | refine Tr.skp rfl ⟨_, _, rfl, rfl, by first | exact .inl rfl | exact .inr rfl⟩ ?_ | (first | refine Tr.pickT rfl rfl rfl ⟨_, rfl, rfl⟩ rfl ?_ | refine Tr.pickF rfl rfl rfl ⟨_, rfl, rfl⟩ rfl ?_)
        first | refine Tr.pickT rfl rfl rfl trivial rfl ?_ | refine Tr.pickF rfl rfl rfl trivial rfl ?_
        refine Tr.nil ?_ (fun _ => rfl) (List.Perm.refl _)
        refine Wp.condT rfl ?_
        refine Wp.reg allGen ?_
        refine Tr.move rfl rfl trivial rfl ?_
        refine Tr.assign rfl rfl trivial rfl ?_
        refine Tr.nil ?_ (fun _ => rfl) (List.Perm.refl _)
        refine Wp.reg allGen ?_
        refine Tr.move rfl rfl trivial rfl ?_
        refine Tr.shr rfl rfl (by omega) (by first | exact u64_shr _ 1 (by decide) | rfl) rfl trivial rfl ?_
        refine Tr.assign rfl rfl trivial rfl ?_
        refine Tr.nil ?_ (fun _ => rfl) (List.Perm.refl _)
        exact WpL.weak ih' (Wk.mk (by repeat (first | exact ESub.nil | refine ESub.cons rfl (by first | rfl | (simp; done) | (simp; omega)) ?_)) (by repeat (first | exact MSub.nil | refine MSub.cons (by first | exact .here | exact (.there .here) | exact (.there (.there .here)) | exact (.there (.there (.there .here))) | exact (.there (.there (.there (.there .here)))) | exact (.there (.there (.there (.there (.there .here))))) | exact (.there (.there (.there (.there (.there (.there .here)))))) | exact (.there (.there (.there (.there (.there (.there (.there .here))))))) | exact (.there (.there (.there (.there (.there (.there (.there (.there .here)))))))) | exact (.there (.there (.there (.there (.there (.there (.there (.there (.there .here)))))))))) (by first | rfl | (simp; done)) ?_)))
      | false =>
        cases hB : (((cMid (root ||| bit)).toNat : Int) == ((cubeLim p).toNat : Int)) with
        | false =>
          have ih' := ih (bit >>> UInt64.ofNat 1) root hsh
          have hok : cubeOk p (root ||| bit) = false := by simp only [cubeOk, hT, hA, hB]; rfl
          rw [hok, if_neg (by decide)]
          refine WpL.step ?_
          refine Wp.seq ?_
          refine Wp.seq ?_
          refine Wp.reg allGen ?_
          refine Tr.move rfl rfl trivial rfl ?_
          refine Tr.gtr rfl rfl (by first | with_reducible assumption | exact decide_eq_true (by omega) | exact decide_eq_false (by omega) | exact beq_iff_eq.2 (by omega) | exact beq_eq_false_iff_ne.2 (by omega) | exact bne_iff_ne.2 (by omega) | rfl) rfl trivial rfl ?_
          refine Tr.nil ?_ (fun _ => rfl) (List.Perm.refl _)
          refine Wp.condT rfl ?_
          refine Wp.skip ?_
          refine Wp.seq ?_
          refine Wp.block ?_
          refine Wp.seq ?_
          refine Wp.reg allGen ?_
          refine Tr.move rfl rfl trivial rfl ?_
          refine Tr.move rfl rfl trivial rfl ?_
          refine Tr.bor rfl rfl (by first | exact u64_or _ _ | rfl) rfl trivial rfl ?_
          refine Tr.assign rfl rfl trivial rfl ?_
          refine Tr.nil ?_ (fun _ => rfl) (List.Perm.refl _)
          refine Wp.seq ?_
          refine Wp.reg allGen ?_
          refine Tr.move rfl rfl trivial rfl ?_
          refine Tr.move rfl rfl trivial rfl ?_
          refine Tr.call rfl (f101_mul64 _ _) (by repeat (first | exact Has.nil | refine Has.cons (by first | exact (.head _) | exact (.tail _ (.head _)) | exact (.tail _ (.tail _ (.head _))) | exact (.tail _ (.tail _ (.tail _ (.head _)))) | exact (.tail _ (.tail _ (.tail _ (.tail _ (.head _))))) | exact (.tail _ (.tail _ (.tail _ (.tail _ (.tail _ (.head _)))))) | exact (.tail _ (.tail _ (.tail _ (.tail _ (.tail _ (.tail _ (.head _))))))) | exact (.tail _ (.tail _ (.tail _ (.tail _ (.tail _ (.tail _ (.tail _ (.head _)))))))) | exact (.tail _ (.tail _ (.tail _ (.tail _ (.tail _ (.tail _ (.tail _ (.tail _ (.head _))))))))) | exact (.tail _ (.tail _ (.tail _ (.tail _ (.tail _ (.tail _ (.tail _ (.tail _ (.tail _ (.head _))))))))))) ?_)) rfl trivial rfl ?_
          refine Tr.move rfl rfl trivial rfl ?_
          refine Tr.extract rfl rfl rfl trivial rfl ?_
          refine Tr.extract rfl rfl rfl trivial rfl ?_
          refine Tr.assign rfl rfl trivial rfl ?_
          refine Tr.assign rfl rfl trivial rfl ?_
          refine Tr.nil ?_ (fun _ => rfl) (List.Perm.refl _)
          refine Wp.seq ?_
          refine Wp.reg allGen ?_
          refine Tr.move rfl rfl trivial rfl ?_
          refine Tr.move rfl rfl trivial rfl ?_
          refine Tr.call rfl (f101_mul64 _ _) (by repeat (first | exact Has.nil | refine Has.cons (by first | exact (.head _) | exact (.tail _ (.head _)) | exact (.tail _ (.tail _ (.head _))) | exact (.tail _ (.tail _ (.tail _ (.head _)))) | exact (.tail _ (.tail _ (.tail _ (.tail _ (.head _))))) | exact (.tail _ (.tail _ (.tail _ (.tail _ (.tail _ (.head _)))))) | exact (.tail _ (.tail _ (.tail _ (.tail _ (.tail _ (.tail _ (.head _))))))) | exact (.tail _ (.tail _ (.tail _ (.tail _ (.tail _ (.tail _ (.tail _ (.head _)))))))) | exact (.tail _ (.tail _ (.tail _ (.tail _ (.tail _ (.tail _ (.tail _ (.tail _ (.head _))))))))) | exact (.tail _ (.tail _ (.tail _ (.tail _ (.tail _ (.tail _ (.tail _ (.tail _ (.tail _ (.head _))))))))))) ?_)) rfl trivial rfl ?_
          refine Tr.move rfl rfl trivial rfl ?_
          refine Tr.extract rfl rfl rfl trivial rfl ?_
          refine Tr.extract rfl rfl rfl trivial rfl ?_
          refine Tr.assign rfl rfl trivial rfl ?_
          refine Tr.assign rfl rfl trivial rfl ?_
          refine Tr.nil ?_ (fun _ => rfl) (List.Perm.refl _)
          refine Wp.seq ?_
          refine Wp.reg allGen ?_
          refine Tr.move rfl rfl trivial rfl ?_
          refine Tr.move rfl rfl trivial rfl ?_
          refine Tr.call rfl (f101_mul64 _ _) (by repeat (first | exact Has.nil | refine Has.cons (by first | exact (.head _) | exact (.tail _ (.head _)) | exact (.tail _ (.tail _ (.head _))) | exact (.tail _ (.tail _ (.tail _ (.head _)))) | exact (.tail _ (.tail _ (.tail _ (.tail _ (.head _))))) | exact (.tail _ (.tail _ (.tail _ (.tail _ (.tail _ (.head _)))))) | exact (.tail _ (.tail _ (.tail _ (.tail _ (.tail _ (.tail _ (.head _))))))) | exact (.tail _ (.tail _ (.tail _ (.tail _ (.tail _ (.tail _ (.tail _ (.head _)))))))) | exact (.tail _ (.tail _ (.tail _ (.tail _ (.tail _ (.tail _ (.tail _ (.tail _ (.head _))))))))) | exact (.tail _ (.tail _ (.tail _ (.tail _ (.tail _ (.tail _ (.tail _ (.tail _ (.tail _ (.head _))))))))))) ?_)) rfl trivial rfl ?_
          refine Tr.move rfl rfl trivial rfl ?_
          refine Tr.extract rfl rfl rfl trivial rfl ?_
          refine Tr.extract rfl rfl rfl trivial rfl ?_
          refine Tr.assign rfl rfl trivial rfl ?_
          refine Tr.assign rfl rfl trivial rfl ?_
          refine Tr.nil ?_ (fun _ => rfl) (List.Perm.refl _)
          refine Wp.seq ?_
          refine Wp.reg allGen ?_
          refine Tr.move rfl rfl trivial rfl ?_
          refine Tr.move rfl rfl trivial rfl ?_
          refine Tr.callX rfl (add64 _ _ 0 (by decide)) rfl trivial rfl ?_
          refine Tr.move rfl rfl trivial rfl ?_
          refine Tr.extract rfl rfl rfl trivial rfl ?_
          refine Tr.extract rfl rfl rfl trivial rfl ?_
          refine Tr.assign rfl rfl trivial rfl ?_
          refine Tr.assign rfl rfl trivial rfl ?_
          refine Tr.nil ?_ (fun _ => rfl) (List.Perm.refl _)
          refine Wp.seq ?_
          refine Wp.reg allGen ?_
          refine Tr.move rfl rfl trivial rfl ?_
          refine Tr.move rfl rfl trivial rfl ?_
          refine Tr.add rfl rfl (by first | exact u64_add _ _ | exact wrap_u64 (by omega) (by omega) | rfl) rfl trivial rfl ?_
          refine Tr.assign rfl rfl trivial rfl ?_
          refine Tr.nil ?_ (fun _ => rfl) (List.Perm.refl _)
          refine Wp.seq ?_
          refine Wp.reg allGen ?_
          refine Tr.move rfl rfl trivial rfl ?_
          refine Tr.conv tab rfl rfl rfl rfl hcv rfl trivial rfl ?_
          refine Tr.shl rfl rfl (by omega) (by first | exact u64_shl _ 32 (by decide) | rfl) rfl trivial rfl ?_
          refine Tr.assign rfl rfl trivial rfl ?_
          refine Tr.nil ?_ (fun _ => rfl) (List.Perm.refl _)
          refine Wp.seq ?_
          refine Wp.reg allGen ?_
          refine Tr.move rfl rfl trivial rfl ?_
          refine Tr.eql rfl rfl (by first | with_reducible assumption | exact decide_eq_true (by omega) | exact decide_eq_false (by omega) | exact beq_iff_eq.2 (by omega) | exact beq_eq_false_iff_ne.2 (by omega) | exact bne_iff_ne.2 (by omega) | rfl) rfl trivial rfl ?_
          refine Tr.move rfl rfl trivial rfl ?_
          first | refine Tr.skp rfl ⟨_, _, rfl, rfl, by first | exact .inl rfl | exact .inr rfl⟩ ?_ | (refine Tr.move rfl rfl ⟨_, rfl, rfl⟩ rfl ?_)
          first | refine Tr.skp rfl ⟨_, _, rfl, rfl, by first | exact .inl rfl | exact .inr rfl⟩ ?_ | (refine Tr.move rfl rfl ⟨_, rfl, rfl⟩ rfl ?_)
          first | refine Tr.skp rfl ⟨_, _, rfl, rfl, by first | exact .inl rfl | exact .inr rfl⟩ ?_ | (refine Tr.lss rfl rfl (by first | with_reducible assumption | exact decide_eq_true (by omega) | exact decide_eq_false (by omega) | exact beq_iff_eq.2 (by omega) | exact beq_eq_false_iff_ne.2 (by omega) | exact bne_iff_ne.2 (by omega) | rfl) rfl ⟨_, rfl, rfl⟩ rfl ?_)
          first | refine Tr.skp rfl ⟨_, _, rfl, rfl, by first | exact .inl rfl | exact .inr rfl⟩ ?_ | (refine Tr.move rfl rfl ⟨_, rfl, rfl⟩ rfl ?_)
          first | refine Tr.skp rfl ⟨_, _, rfl, rfl, by first | exact .inl rfl | exact .inr rfl⟩ ?_ | (refine Tr.move rfl rfl ⟨_, rfl, rfl⟩ rfl ?_)
          first | refine Tr.skp rfl ⟨_, _, rfl, rfl, by first | exact .inl rfl | exact .inr rfl⟩ ?_ | (refine Tr.move rfl rfl ⟨_, rfl, rfl⟩ rfl ?_)
          first | refine Tr.skp rfl ⟨_, _, rfl, rfl, by first | exact .inl rfl | exact .inr rfl⟩ ?_ | (refine Tr.eql rfl rfl (by first | with_reducible assumption | exact decide_eq_true (by omega) | exact decide_eq_false (by omega) | exact beq_iff_eq.2 (by omega) | exact beq_eq_false_iff_ne.2 (by omega) | exact bne_iff_ne.2 (by omega) | rfl) rfl ⟨_, rfl, rfl⟩ rfl ?_)
          first | refine Tr.skp rfl ⟨_, _, rfl, rfl, by first | exact .inl rfl | exact .inr rfl⟩ ?_ | (refine Tr.move rfl rfl ⟨_, rfl, rfl⟩ rfl ?_)
          first | refine Tr.skp rfl ⟨_, _, rfl, rfl, by first | exact .inl rfl | exact .inr rfl⟩ ?_ | (refine Tr.move rfl rfl ⟨_, rfl, rfl⟩ rfl ?_)
          first | refine Tr.skp rfl ⟨_, _, rfl, rfl, by first | exact .inl rfl | exact .inr rfl⟩ ?_ | (refine Tr.eql rfl rfl (by first | with_reducible assumption | exact decide_eq_true (by omega) | exact decide_eq_false (by omega) | exact beq_iff_eq.2 (by omega) | exact beq_eq_false_iff_ne.2 (by omega) | exact bne_iff_ne.2 (by omega) | rfl) rfl ⟨_, rfl, rfl⟩ rfl ?_)
          first | refine Tr.skp rfl ⟨_, _, rfl, rfl, by first | exact .inl rfl | exact .inr rfl⟩ ?_ | (first | refine Tr.pickT rfl rfl rfl ⟨_, rfl, rfl⟩ rfl ?_ | refine Tr.pickF rfl rfl rfl ⟨_, rfl, rfl⟩ rfl ?_)
          first | refine Tr.skp rfl ⟨_, _, rfl, rfl, by first | exact .inl rfl | exact .inr rfl⟩ ?_ | (first | refine Tr.pickT rfl rfl rfl ⟨_, rfl, rfl⟩ rfl ?_ | refine Tr.pickF rfl rfl rfl ⟨_, rfl, rfl⟩ rfl ?_)
          first | refine Tr.pickT rfl rfl rfl trivial rfl ?_ | refine Tr.pickF rfl rfl rfl trivial rfl ?_
          refine Tr.nil ?_ (fun _ => rfl) (List.Perm.refl _)
          refine Wp.condF rfl ?_
          refine Wp.skip ?_
          refine Wp.reg allGen ?_
          refine Tr.move rfl rfl trivial rfl ?_
          refine Tr.shr rfl rfl (by omega) (by first | exact u64_shr _ 1 (by decide) | rfl) rfl trivial rfl ?_
          refine Tr.assign rfl rfl trivial rfl ?_
          refine Tr.nil ?_ (fun _ => rfl) (List.Perm.refl _)
          exact WpL.weak ih' (Wk.mk (by repeat (first | exact ESub.nil | refine ESub.cons rfl (by first | rfl | (simp; done) | (simp; omega)) ?_)) (by repeat (first | exact MSub.nil | refine MSub.cons (by first | exact .here | exact (.there .here) | exact (.there (.there .here)) | exact (.there (.there (.there .here))) | exact (.there (.there (.there (.there .here)))) | exact (.there (.there (.there (.there (.there .here))))) | exact (.there (.there (.there (.there (.there (.there .here)))))) | exact (.there (.there (.there (.there (.there (.there (.there .here))))))) | exact (.there (.there (.there (.there (.there (.there (.there (.there .here)))))))) | exact (.there (.there (.there (.there (.there (.there (.there (.there (.there .here)))))))))) (by first | rfl | (simp; done)) ?_)))
        | true =>
          cases hC : (((cLow (root ||| bit)).toNat : Int) == 0) with
          | true =>
            have ih' := ih (bit >>> UInt64.ofNat 1) (root ||| bit) hsh
            have hok : cubeOk p (root ||| bit) = true := by simp only [cubeOk, hT, hA, hB, hC]; rfl
            rw [hok, if_pos rfl]
            refine WpL.step ?_
            refine Wp.seq ?_
            refine Wp.seq ?_
            refine Wp.reg allGen ?_
            refine Tr.move rfl rfl trivial rfl ?_
            refine Tr.gtr rfl rfl (by first | with_reducible assumption | exact decide_eq_true (by omega) | exact decide_eq_false (by omega) | exact beq_iff_eq.2 (by omega) | exact beq_eq_false_iff_ne.2 (by omega) | exact bne_iff_ne.2 (by omega) | rfl) rfl trivial rfl ?_
            refine Tr.nil ?_ (fun _ => rfl) (List.Perm.refl _)
            refine Wp.condT rfl ?_
            refine Wp.skip ?_
            refine Wp.seq ?_
            refine Wp.block ?_
            refine Wp.seq ?_
            refine Wp.reg allGen ?_
            refine Tr.move rfl rfl trivial rfl ?_
            refine Tr.move rfl rfl trivial rfl ?_
            refine Tr.bor rfl rfl (by first | exact u64_or _ _ | rfl) rfl trivial rfl ?_
            refine Tr.assign rfl rfl trivial rfl ?_
            refine Tr.nil ?_ (fun _ => rfl) (List.Perm.refl _)
            refine Wp.seq ?_
            refine Wp.reg allGen ?_
            refine Tr.move rfl rfl trivial rfl ?_
            refine Tr.move rfl rfl trivial rfl ?_
            refine Tr.call rfl (f101_mul64 _ _) (by repeat (first | exact Has.nil | refine Has.cons (by first | exact (.head _) | exact (.tail _ (.head _)) | exact (.tail _ (.tail _ (.head _))) | exact (.tail _ (.tail _ (.tail _ (.head _)))) | exact (.tail _ (.tail _ (.tail _ (.tail _ (.head _))))) | exact (.tail _ (.tail _ (.tail _ (.tail _ (.tail _ (.head _)))))) | exact (.tail _ (.tail _ (.tail _ (.tail _ (.tail _ (.tail _ (.head _))))))) | exact (.tail _ (.tail _ (.tail _ (.tail _ (.tail _ (.tail _ (.tail _ (.head _)))))))) | exact (.tail _ (.tail _ (.tail _ (.tail _ (.tail _ (.tail _ (.tail _ (.tail _ (.head _))))))))) | exact (.tail _ (.tail _ (.tail _ (.tail _ (.tail _ (.tail _ (.tail _ (.tail _ (.tail _ (.head _))))))))))) ?_)) rfl trivial rfl ?_
            refine Tr.move rfl rfl trivial rfl ?_
            refine Tr.extract rfl rfl rfl trivial rfl ?_
            refine Tr.extract rfl rfl rfl trivial rfl ?_
            refine Tr.assign rfl rfl trivial rfl ?_
            refine Tr.assign rfl rfl trivial rfl ?_
            refine Tr.nil ?_ (fun _ => rfl) (List.Perm.refl _)
            refine Wp.seq ?_
            refine Wp.reg allGen ?_
            refine Tr.move rfl rfl trivial rfl ?_
            refine Tr.move rfl rfl trivial rfl ?_
            refine Tr.call rfl (f101_mul64 _ _) (by repeat (first | exact Has.nil | refine Has.cons (by first | exact (.head _) | exact (.tail _ (.head _)) | exact (.tail _ (.tail _ (.head _))) | exact (.tail _ (.tail _ (.tail _ (.head _)))) | exact (.tail _ (.tail _ (.tail _ (.tail _ (.head _))))) | exact (.tail _ (.tail _ (.tail _ (.tail _ (.tail _ (.head _)))))) | exact (.tail _ (.tail _ (.tail _ (.tail _ (.tail _ (.tail _ (.head _))))))) | exact (.tail _ (.tail _ (.tail _ (.tail _ (.tail _ (.tail _ (.tail _ (.head _)))))))) | exact (.tail _ (.tail _ (.tail _ (.tail _ (.tail _ (.tail _ (.tail _ (.tail _ (.head _))))))))) | exact (.tail _ (.tail _ (.tail _ (.tail _ (.tail _ (.tail _ (.tail _ (.tail _ (.tail _ (.head _))))))))))) ?_)) rfl trivial rfl ?_
            refine Tr.move rfl rfl trivial rfl ?_
            refine Tr.extract rfl rfl rfl trivial rfl ?_
            refine Tr.extract rfl rfl rfl trivial rfl ?_
            refine Tr.assign rfl rfl trivial rfl ?_
            refine Tr.assign rfl rfl trivial rfl ?_
            refine Tr.nil ?_ (fun _ => rfl) (List.Perm.refl _)
            refine Wp.seq ?_
            refine Wp.reg allGen ?_
            refine Tr.move rfl rfl trivial rfl ?_
            refine Tr.move rfl rfl trivial rfl ?_
            refine Tr.call rfl (f101_mul64 _ _) (by repeat (first | exact Has.nil | refine Has.cons (by first | exact (.head _) | exact (.tail _ (.head _)) | exact (.tail _ (.tail _ (.head _))) | exact (.tail _ (.tail _ (.tail _ (.head _)))) | exact (.tail _ (.tail _ (.tail _ (.tail _ (.head _))))) | exact (.tail _ (.tail _ (.tail _ (.tail _ (.tail _ (.head _)))))) | exact (.tail _ (.tail _ (.tail _ (.tail _ (.tail _ (.tail _ (.head _))))))) | exact (.tail _ (.tail _ (.tail _ (.tail _ (.tail _ (.tail _ (.tail _ (.head _)))))))) | exact (.tail _ (.tail _ (.tail _ (.tail _ (.tail _ (.tail _ (.tail _ (.tail _ (.head _))))))))) | exact (.tail _ (.tail _ (.tail _ (.tail _ (.tail _ (.tail _ (.tail _ (.tail _ (.tail _ (.head _))))))))))) ?_)) rfl trivial rfl ?_
            refine Tr.move rfl rfl trivial rfl ?_
            refine Tr.extract rfl rfl rfl trivial rfl ?_
            refine Tr.extract rfl rfl rfl trivial rfl ?_
            refine Tr.assign rfl rfl trivial rfl ?_
            refine Tr.assign rfl rfl trivial rfl ?_
            refine Tr.nil ?_ (fun _ => rfl) (List.Perm.refl _)
            refine Wp.seq ?_
            refine Wp.reg allGen ?_
            refine Tr.move rfl rfl trivial rfl ?_
            refine Tr.move rfl rfl trivial rfl ?_
            refine Tr.callX rfl (add64 _ _ 0 (by decide)) rfl trivial rfl ?_
            refine Tr.move rfl rfl trivial rfl ?_
            refine Tr.extract rfl rfl rfl trivial rfl ?_
            refine Tr.extract rfl rfl rfl trivial rfl ?_
            refine Tr.assign rfl rfl trivial rfl ?_
            refine Tr.assign rfl rfl trivial rfl ?_
            refine Tr.nil ?_ (fun _ => rfl) (List.Perm.refl _)
            refine Wp.seq ?_
            refine Wp.reg allGen ?_
            refine Tr.move rfl rfl trivial rfl ?_
            refine Tr.move rfl rfl trivial rfl ?_
            refine Tr.add rfl rfl (by first | exact u64_add _ _ | exact wrap_u64 (by omega) (by omega) | rfl) rfl trivial rfl ?_
            refine Tr.assign rfl rfl trivial rfl ?_
            refine Tr.nil ?_ (fun _ => rfl) (List.Perm.refl _)
            refine Wp.seq ?_
            refine Wp.reg allGen ?_
            refine Tr.move rfl rfl trivial rfl ?_
            refine Tr.conv tab rfl rfl rfl rfl hcv rfl trivial rfl ?_
            refine Tr.shl rfl rfl (by omega) (by first | exact u64_shl _ 32 (by decide) | rfl) rfl trivial rfl ?_
            refine Tr.assign rfl rfl trivial rfl ?_
            refine Tr.nil ?_ (fun _ => rfl) (List.Perm.refl _)
            refine Wp.seq ?_
            refine Wp.reg allGen ?_
            refine Tr.move rfl rfl trivial rfl ?_
            refine Tr.eql rfl rfl (by first | with_reducible assumption | exact decide_eq_true (by omega) | exact decide_eq_false (by omega) | exact beq_iff_eq.2 (by omega) | exact beq_eq_false_iff_ne.2 (by omega) | exact bne_iff_ne.2 (by omega) | rfl) rfl trivial rfl ?_
            refine Tr.move rfl rfl trivial rfl ?_
            first | refine Tr.skp rfl ⟨_, _, rfl, rfl, by first | exact .inl rfl | exact .inr rfl⟩ ?_ | (refine Tr.move rfl rfl ⟨_, rfl, rfl⟩ rfl ?_)
            first | refine Tr.skp rfl ⟨_, _, rfl, rfl, by first | exact .inl rfl | exact .inr rfl⟩ ?_ | (refine Tr.move rfl rfl ⟨_, rfl, rfl⟩ rfl ?_)
            first | refine Tr.skp rfl ⟨_, _, rfl, rfl, by first | exact .inl rfl | exact .inr rfl⟩ ?_ | (refine Tr.lss rfl rfl (by first | with_reducible assumption | exact decide_eq_true (by omega) | exact decide_eq_false (by omega) | exact beq_iff_eq.2 (by omega) | exact beq_eq_false_iff_ne.2 (by omega) | exact bne_iff_ne.2 (by omega) | rfl) rfl ⟨_, rfl, rfl⟩ rfl ?_)
            first | refine Tr.skp rfl ⟨_, _, rfl, rfl, by first | exact .inl rfl | exact .inr rfl⟩ ?_ | (refine Tr.move rfl rfl ⟨_, rfl, rfl⟩ rfl ?_)
            first | refine Tr.skp rfl ⟨_, _, rfl, rfl, by first | exact .inl rfl | exact .inr rfl⟩ ?_ | (refine Tr.move rfl rfl ⟨_, rfl, rfl⟩ rfl ?_)
            first | refine Tr.skp rfl ⟨_, _, rfl, rfl, by first | exact .inl rfl | exact .inr rfl⟩ ?_ | (refine Tr.move rfl rfl ⟨_, rfl, rfl⟩ rfl ?_)
            first | refine Tr.skp rfl ⟨_, _, rfl, rfl, by first | exact .inl rfl | exact .inr rfl⟩ ?_ | (refine Tr.eql rfl rfl (by first | with_reducible assumption | exact decide_eq_true (by omega) | exact decide_eq_false (by omega) | exact beq_iff_eq.2 (by omega) | exact beq_eq_false_iff_ne.2 (by omega) | exact bne_iff_ne.2 (by omega) | rfl) rfl ⟨_, rfl, rfl⟩ rfl ?_)
            first | refine Tr.skp rfl ⟨_, _, rfl, rfl, by first | exact .inl rfl | exact .inr rfl⟩ ?_ | (refine Tr.move rfl rfl ⟨_, rfl, rfl⟩ rfl ?_)
            first | refine Tr.skp rfl ⟨_, _, rfl, rfl, by first | exact .inl rfl | exact .inr rfl⟩ ?_ | (refine Tr.move rfl rfl ⟨_, rfl, rfl⟩ rfl ?_)
            first | refine Tr.skp rfl ⟨_, _, rfl, rfl, by first | exact .inl rfl | exact .inr rfl⟩ ?_ | (refine Tr.eql rfl rfl (by first | with_reducible assumption | exact decide_eq_true (by omega) | exact decide_eq_false (by omega) | exact beq_iff_eq.2 (by omega) | exact beq_eq_false_iff_ne.2 (by omega) | exact bne_iff_ne.2 (by omega) | rfl) rfl ⟨_, rfl, rfl⟩ rfl ?_)
            first | refine Tr.skp rfl ⟨_, _, rfl, rfl, by first | exact .inl rfl | exact .inr rfl⟩ ?_ | (first | refine Tr.pickT rfl rfl rfl ⟨_, rfl, rfl⟩ rfl ?_ | refine Tr.pickF rfl rfl rfl ⟨_, rfl, rfl⟩ rfl ?_)
            first | refine Tr.skp rfl ⟨_, _, rfl, rfl, by first | exact .inl rfl | exact .inr rfl⟩ ?_ | (first | refine Tr.pickT rfl rfl rfl ⟨_, rfl, rfl⟩ rfl ?_ | refine Tr.pickF rfl rfl rfl ⟨_, rfl, rfl⟩ rfl ?_)
            first | refine Tr.pickT rfl rfl rfl trivial rfl ?_ | refine Tr.pickF rfl rfl rfl trivial rfl ?_
            refine Tr.nil ?_ (fun _ => rfl) (List.Perm.refl _)
            refine Wp.condT rfl ?_
            refine Wp.reg allGen ?_
            refine Tr.move rfl rfl trivial rfl ?_
            refine Tr.assign rfl rfl trivial rfl ?_
            refine Tr.nil ?_ (fun _ => rfl) (List.Perm.refl _)
            refine Wp.reg allGen ?_
            refine Tr.move rfl rfl trivial rfl ?_
            refine Tr.shr rfl rfl (by omega) (by first | exact u64_shr _ 1 (by decide) | rfl) rfl trivial rfl ?_
            refine Tr.assign rfl rfl trivial rfl ?_
            refine Tr.nil ?_ (fun _ => rfl) (List.Perm.refl _)
            exact WpL.weak ih' (Wk.mk (by repeat (first | exact ESub.nil | refine ESub.cons rfl (by first | rfl | (simp; done) | (simp; omega)) ?_)) (by repeat (first | exact MSub.nil | refine MSub.cons (by first | exact .here | exact (.there .here) | exact (.there (.there .here)) | exact (.there (.there (.there .here))) | exact (.there (.there (.there (.there .here)))) | exact (.there (.there (.there (.there (.there .here))))) | exact (.there (.there (.there (.there (.there (.there .here)))))) | exact (.there (.there (.there (.there (.there (.there (.there .here))))))) | exact (.there (.there (.there (.there (.there (.there (.there (.there .here)))))))) | exact (.there (.there (.there (.there (.there (.there (.there (.there (.there .here)))))))))) (by first | rfl | (simp; done)) ?_)))
          | false =>
            have ih' := ih (bit >>> UInt64.ofNat 1) root hsh
            have hok : cubeOk p (root ||| bit) = false := by simp only [cubeOk, hT, hA, hB, hC]; rfl
            rw [hok, if_neg (by decide)]
            refine WpL.step ?_
            refine Wp.seq ?_
            refine Wp.seq ?_
            refine Wp.reg allGen ?_
            refine Tr.move rfl rfl trivial rfl ?_
            refine Tr.gtr rfl rfl (by first | with_reducible assumption | exact decide_eq_true (by omega) | exact decide_eq_false (by omega) | exact beq_iff_eq.2 (by omega) | exact beq_eq_false_iff_ne.2 (by omega) | exact bne_iff_ne.2 (by omega) | rfl) rfl trivial rfl ?_
            refine Tr.nil ?_ (fun _ => rfl) (List.Perm.refl _)
            refine Wp.condT rfl ?_
            refine Wp.skip ?_
            refine Wp.seq ?_
            refine Wp.block ?_
            refine Wp.seq ?_
            refine Wp.reg allGen ?_
            refine Tr.move rfl rfl trivial rfl ?_
            refine Tr.move rfl rfl trivial rfl ?_
            refine Tr.bor rfl rfl (by first | exact u64_or _ _ | rfl) rfl trivial rfl ?_
            refine Tr.assign rfl rfl trivial rfl ?_
            refine Tr.nil ?_ (fun _ => rfl) (List.Perm.refl _)
            refine Wp.seq ?_
            refine Wp.reg allGen ?_
            refine Tr.move rfl rfl trivial rfl ?_
            refine Tr.move rfl rfl trivial rfl ?_
            refine Tr.call rfl (f101_mul64 _ _) (by repeat (first | exact Has.nil | refine Has.cons (by first | exact (.head _) | exact (.tail _ (.head _)) | exact (.tail _ (.tail _ (.head _))) | exact (.tail _ (.tail _ (.tail _ (.head _)))) | exact (.tail _ (.tail _ (.tail _ (.tail _ (.head _))))) | exact (.tail _ (.tail _ (.tail _ (.tail _ (.tail _ (.head _)))))) | exact (.tail _ (.tail _ (.tail _ (.tail _ (.tail _ (.tail _ (.head _))))))) | exact (.tail _ (.tail _ (.tail _ (.tail _ (.tail _ (.tail _ (.tail _ (.head _)))))))) | exact (.tail _ (.tail _ (.tail _ (.tail _ (.tail _ (.tail _ (.tail _ (.tail _ (.head _))))))))) | exact (.tail _ (.tail _ (.tail _ (.tail _ (.tail _ (.tail _ (.tail _ (.tail _ (.tail _ (.head _))))))))))) ?_)) rfl trivial rfl ?_
            refine Tr.move rfl rfl trivial rfl ?_
            refine Tr.extract rfl rfl rfl trivial rfl ?_
            refine Tr.extract rfl rfl rfl trivial rfl ?_
            refine Tr.assign rfl rfl trivial rfl ?_
            refine Tr.assign rfl rfl trivial rfl ?_
            refine Tr.nil ?_ (fun _ => rfl) (List.Perm.refl _)
            refine Wp.seq ?_
            refine Wp.reg allGen ?_
            refine Tr.move rfl rfl trivial rfl ?_
            refine Tr.move rfl rfl trivial rfl ?_
            refine Tr.call rfl (f101_mul64 _ _) (by repeat (first | exact Has.nil | refine Has.cons (by first | exact (.head _) | exact (.tail _ (.head _)) | exact (.tail _ (.tail _ (.head _))) | exact (.tail _ (.tail _ (.tail _ (.head _)))) | exact (.tail _ (.tail _ (.tail _ (.tail _ (.head _))))) | exact (.tail _ (.tail _ (.tail _ (.tail _ (.tail _ (.head _)))))) | exact (.tail _ (.tail _ (.tail _ (.tail _ (.tail _ (.tail _ (.head _))))))) | exact (.tail _ (.tail _ (.tail _ (.tail _ (.tail _ (.tail _ (.tail _ (.head _)))))))) | exact (.tail _ (.tail _ (.tail _ (.tail _ (.tail _ (.tail _ (.tail _ (.tail _ (.head _))))))))) | exact (.tail _ (.tail _ (.tail _ (.tail _ (.tail _ (.tail _ (.tail _ (.tail _ (.tail _ (.head _))))))))))) ?_)) rfl trivial rfl ?_
            refine Tr.move rfl rfl trivial rfl ?_
            refine Tr.extract rfl rfl rfl trivial rfl ?_
            refine Tr.extract rfl rfl rfl trivial rfl ?_
            refine Tr.assign rfl rfl trivial rfl ?_
            refine Tr.assign rfl rfl trivial rfl ?_
            refine Tr.nil ?_ (fun _ => rfl) (List.Perm.refl _)
            refine Wp.seq ?_
            refine Wp.reg allGen ?_
            refine Tr.move rfl rfl trivial rfl ?_
            refine Tr.move rfl rfl trivial rfl ?_
            refine Tr.call rfl (f101_mul64 _ _) (by repeat (first | exact Has.nil | refine Has.cons (by first | exact (.head _) | exact (.tail _ (.head _)) | exact (.tail _ (.tail _ (.head _))) | exact (.tail _ (.tail _ (.tail _ (.head _)))) | exact (.tail _ (.tail _ (.tail _ (.tail _ (.head _))))) | exact (.tail _ (.tail _ (.tail _ (.tail _ (.tail _ (.head _)))))) | exact (.tail _ (.tail _ (.tail _ (.tail _ (.tail _ (.tail _ (.head _))))))) | exact (.tail _ (.tail _ (.tail _ (.tail _ (.tail _ (.tail _ (.tail _ (.head _)))))))) | exact (.tail _ (.tail _ (.tail _ (.tail _ (.tail _ (.tail _ (.tail _ (.tail _ (.head _))))))))) | exact (.tail _ (.tail _ (.tail _ (.tail _ (.tail _ (.tail _ (.tail _ (.tail _ (.tail _ (.head _))))))))))) ?_)) rfl trivial rfl ?_
            refine Tr.move rfl rfl trivial rfl ?_
            refine Tr.extract rfl rfl rfl trivial rfl ?_
            refine Tr.extract rfl rfl rfl trivial rfl ?_
            refine Tr.assign rfl rfl trivial rfl ?_
            refine Tr.assign rfl rfl trivial rfl ?_
            refine Tr.nil ?_ (fun _ => rfl) (List.Perm.refl _)
            refine Wp.seq ?_
            refine Wp.reg allGen ?_
            refine Tr.move rfl rfl trivial rfl ?_
            refine Tr.move rfl rfl trivial rfl ?_
            refine Tr.callX rfl (add64 _ _ 0 (by decide)) rfl trivial rfl ?_
            refine Tr.move rfl rfl trivial rfl ?_
            refine Tr.extract rfl rfl rfl trivial rfl ?_
            refine Tr.extract rfl rfl rfl trivial rfl ?_
            refine Tr.assign rfl rfl trivial rfl ?_
            refine Tr.assign rfl rfl trivial rfl ?_
            refine Tr.nil ?_ (fun _ => rfl) (List.Perm.refl _)
            refine Wp.seq ?_
            refine Wp.reg allGen ?_
            refine Tr.move rfl rfl trivial rfl ?_
            refine Tr.move rfl rfl trivial rfl ?_
            refine Tr.add rfl rfl (by first | exact u64_add _ _ | exact wrap_u64 (by omega) (by omega) | rfl) rfl trivial rfl ?_
            refine Tr.assign rfl rfl trivial rfl ?_
            refine Tr.nil ?_ (fun _ => rfl) (List.Perm.refl _)
            refine Wp.seq ?_
            refine Wp.reg allGen ?_
            refine Tr.move rfl rfl trivial rfl ?_
            refine Tr.conv tab rfl rfl rfl rfl hcv rfl trivial rfl ?_
            refine Tr.shl rfl rfl (by omega) (by first | exact u64_shl _ 32 (by decide) | rfl) rfl trivial rfl ?_
            refine Tr.assign rfl rfl trivial rfl ?_
            refine Tr.nil ?_ (fun _ => rfl) (List.Perm.refl _)
            refine Wp.seq ?_
            refine Wp.reg allGen ?_
            refine Tr.move rfl rfl trivial rfl ?_
            refine Tr.eql rfl rfl (by first | with_reducible assumption | exact decide_eq_true (by omega) | exact decide_eq_false (by omega) | exact beq_iff_eq.2 (by omega) | exact beq_eq_false_iff_ne.2 (by omega) | exact bne_iff_ne.2 (by omega) | rfl) rfl trivial rfl ?_
            refine Tr.move rfl rfl trivial rfl ?_
            first | refine Tr.skp rfl ⟨_, _, rfl, rfl, by first | exact .inl rfl | exact .inr rfl⟩ ?_ | (refine Tr.move rfl rfl ⟨_, rfl, rfl⟩ rfl ?_)
            first | refine Tr.skp rfl ⟨_, _, rfl, rfl, by first | exact .inl rfl | exact .inr rfl⟩ ?_ | (refine Tr.move rfl rfl ⟨_, rfl, rfl⟩ rfl ?_)
            first | refine Tr.skp rfl ⟨_, _, rfl, rfl, by first | exact .inl rfl | exact .inr rfl⟩ ?_ | (refine Tr.lss rfl rfl (by first | with_reducible assumption | exact decide_eq_true (by omega) | exact decide_eq_false (by omega) | exact beq_iff_eq.2 (by omega) | exact beq_eq_false_iff_ne.2 (by omega) | exact bne_iff_ne.2 (by omega) | rfl) rfl ⟨_, rfl, rfl⟩ rfl ?_)
            first | refine Tr.skp rfl ⟨_, _, rfl, rfl, by first | exact .inl rfl | exact .inr rfl⟩ ?_ | (refine Tr.move rfl rfl ⟨_, rfl, rfl⟩ rfl ?_)
            first | refine Tr.skp rfl ⟨_, _, rfl, rfl, by first | exact .inl rfl | exact .inr rfl⟩ ?_ | (refine Tr.move rfl rfl ⟨_, rfl, rfl⟩ rfl ?_)
            first | refine Tr.skp rfl ⟨_, _, rfl, rfl, by first | exact .inl rfl | exact .inr rfl⟩ ?_ | (refine Tr.move rfl rfl ⟨_, rfl, rfl⟩ rfl ?_)
            first | refine Tr.skp rfl ⟨_, _, rfl, rfl, by first | exact .inl rfl | exact .inr rfl⟩ ?_ | (refine Tr.eql rfl rfl (by first | with_reducible assumption | exact decide_eq_true (by omega) | exact decide_eq_false (by omega) | exact beq_iff_eq.2 (by omega) | exact beq_eq_false_iff_ne.2 (by omega) | exact bne_iff_ne.2 (by omega) | rfl) rfl ⟨_, rfl, rfl⟩ rfl ?_)
            first | refine Tr.skp rfl ⟨_, _, rfl, rfl, by first | exact .inl rfl | exact .inr rfl⟩ ?_ | (refine Tr.move rfl rfl ⟨_, rfl, rfl⟩ rfl ?_)
            first | refine Tr.skp rfl ⟨_, _, rfl, rfl, by first | exact .inl rfl | exact .inr rfl⟩ ?_ | (refine Tr.move rfl rfl ⟨_, rfl, rfl⟩ rfl ?_)
            first | refine Tr.skp rfl ⟨_, _, rfl, rfl, by first | exact .inl rfl | exact .inr rfl⟩ ?_ | (refine Tr.eql rfl rfl (by first | with_reducible assumption | exact decide_eq_true (by omega) | exact decide_eq_false (by omega) | exact beq_iff_eq.2 (by omega) | exact beq_eq_false_iff_ne.2 (by omega) | exact bne_iff_ne.2 (by omega) | rfl) rfl ⟨_, rfl, rfl⟩ rfl ?_)
            first | refine Tr.skp rfl ⟨_, _, rfl, rfl, by first | exact .inl rfl | exact .inr rfl⟩ ?_ | (first | refine Tr.pickT rfl rfl rfl ⟨_, rfl, rfl⟩ rfl ?_ | refine Tr.pickF rfl rfl rfl ⟨_, rfl, rfl⟩ rfl ?_)
            first | refine Tr.skp rfl ⟨_, _, rfl, rfl, by first | exact .inl rfl | exact .inr rfl⟩ ?_ | (first | refine Tr.pickT rfl rfl rfl ⟨_, rfl, rfl⟩ rfl ?_ | refine Tr.pickF rfl rfl rfl ⟨_, rfl, rfl⟩ rfl ?_)
            first | refine Tr.pickT rfl rfl rfl trivial rfl ?_ | refine Tr.pickF rfl rfl rfl trivial rfl ?_
            refine Tr.nil ?_ (fun _ => rfl) (List.Perm.refl _)
            refine Wp.condF rfl ?_
            refine Wp.skip ?_
            refine Wp.reg allGen ?_
            refine Tr.move rfl rfl trivial rfl ?_
            refine Tr.shr rfl rfl (by omega) (by first | exact u64_shr _ 1 (by decide) | rfl) rfl trivial rfl ?_
            refine Tr.assign rfl rfl trivial rfl ?_
            refine Tr.nil ?_ (fun _ => rfl) (List.Perm.refl _)
            exact WpL.weak ih' (Wk.mk (by repeat (first | exact ESub.nil | refine ESub.cons rfl (by first | rfl | (simp; done) | (simp; omega)) ?_)) (by repeat (first | exact MSub.nil | refine MSub.cons (by first | exact .here | exact (.there .here) | exact (.there (.there .here)) | exact (.there (.there (.there .here))) | exact (.there (.there (.there (.there .here)))) | exact (.there (.there (.there (.there (.there .here))))) | exact (.there (.there (.there (.there (.there (.there .here)))))) | exact (.there (.there (.there (.there (.there (.there (.there .here))))))) | exact (.there (.there (.there (.there (.there (.there (.there (.there .here)))))))) | exact (.there (.there (.there (.there (.there (.there (.there (.there (.there .here)))))))))) (by first | rfl | (simp; done)) ?_)))

def cubeS (p : Int) : UInt32 := (cubeL p 37 34359738368 0).toUInt32

theorem f67_cube (p : Int) (h0 : 0 ≤ p) (hp : p ≤ 1000) : FnR Try.prog 67 [i64 p] [] (u32 (cubeS p)) := by
  refine fnR_of 72 rfl Try.func67 rfl (by kernel_rfl) rfl (by simp) fun w => ?_
  refine Wp.seq ?_
  refine Wp.reg allGen ?_
  refine Tr.assign (v := u32 0) rfl rfl trivial rfl ?_
  refine Tr.nil ?_ (fun _ => rfl) (List.Perm.refl _)
  refine Wp.seq ?_
  refine Wp.reg allGen ?_
  refine Tr.assign (v := u64 0) rfl rfl trivial rfl ?_
  refine Tr.nil ?_ (fun _ => rfl) (List.Perm.refl _)
  refine Wp.seq ?_
  refine Wp.seq ?_
  refine Wp.reg allGen ?_
  refine Tr.assign (v := u64 34359738368) rfl rfl trivial rfl ?_
  refine Tr.nil ?_ (fun _ => rfl) (List.Perm.refl _)
  refine Wp.block ?_
  refine Wp.loopQ (cube_loop rfl p h0 hp 36 34359738368 0 (by decide)) (Wk.mk (by repeat (first | exact ESub.nil | refine ESub.cons rfl (by first | rfl | (simp; done) | (simp; omega)) ?_)) (by repeat (first | exact MSub.nil | refine MSub.cons (by first | exact .here | exact (.there .here) | exact (.there (.there .here)) | exact (.there (.there (.there .here))) | exact (.there (.there (.there (.there .here)))) | exact (.there (.there (.there (.there (.there .here))))) | exact (.there (.there (.there (.there (.there (.there .here)))))) | exact (.there (.there (.there (.there (.there (.there (.there .here))))))) | exact (.there (.there (.there (.there (.there (.there (.there (.there .here)))))))) | exact (.there (.there (.there (.there (.there (.there (.there (.there (.there .here)))))))))) (by first | rfl | (simp; done)) ?_))) ?_
  rintro _ env1 mem1 ⟨rfl, hk1⟩
  refine Wp.weak ?_ hk1
  refine Wp.seq ?_
  refine Wp.reg allGen ?_
  refine Tr.move rfl rfl trivial rfl ?_
  refine Tr.conv tab rfl rfl rfl rfl (by first | exact conv_u64_u32 _ | rfl) rfl trivial rfl ?_
  refine Tr.assign rfl rfl trivial rfl ?_
  refine Tr.nil ?_ (fun _ => rfl) (List.Perm.refl _)
  refine Wp.ret ?_
  refine ⟨by first | exact .inl rfl | exact .inr rfl, ?_⟩
  exact .r1 rfl (RvIs.tmp rfl)
attribute [irreducible] squareS cubeS
end Go.Proofs.Ytffghaeaohabhaa.AW
