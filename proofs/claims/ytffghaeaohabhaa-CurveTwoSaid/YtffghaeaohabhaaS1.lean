import Derived.Test.YtffghaeaohabhaaB
namespace Go.Proofs.Ytffghaeaohabhaa.AW
open Go
set_option maxRecDepth 100000

/-- trial division, as the program does it -/
def primeB (x : Int) : List Int → Bool
  | [] => true
  | p :: r => if x < p * p then true else if x.tmod p == 0 then false else primeB x r

def loop65 : Code := (Code.seq (Code.region 2 #[{ dst := (some 10), op := (Op.binOp BinOp.lss 3 (Operand.tmp 9) (Operand.tmp 8) 3), type := 0, pos := "sha256.go:32", after := #[], guard := none }] false) (Code.seq (Code.cond (Operand.tmp 10) Code.skip (Code.exit 0)) (Code.seq (Code.block 1 (Code.seq (Code.region 3 #[{ dst := (some 11), op := (Op.indexAddr 22 (Operand.tmp 7) (Operand.tmp 9)), type := 0, pos := "sha256.go:32", after := #[], guard := none }, { dst := (some 12), op := (Op.load 3 (Operand.tmp 11)), type := 3, pos := "sha256.go:32", after := #[{ on := 0, ground := Ground.data }], guard := none }, { dst := (some 6), op := (Op.assign (Operand.tmp 12)), type := 3, pos := "sha256.go:32", after := #[{ on := 1, ground := Ground.data }, { on := 0, ground := Ground.phase }, { on := 1, ground := Ground.phase }], guard := none }] false) (Code.seq (Code.seq (Code.region 4 #[{ dst := (some 13), op := (Op.move (Operand.tmp 6)), type := 3, pos := "sha256.go:33", after := #[], guard := none }, { dst := (some 14), op := (Op.move (Operand.tmp 6)), type := 3, pos := "sha256.go:33", after := #[], guard := none }, { dst := (some 15), op := (Op.binOp BinOp.mul 3 (Operand.tmp 13) (Operand.tmp 14) 3), type := 3, pos := "sha256.go:33", after := #[{ on := 0, ground := Ground.data }, { on := 1, ground := Ground.data }], guard := none }, { dst := (some 16), op := (Op.move (Operand.tmp 0)), type := 3, pos := "sha256.go:33", after := #[], guard := none }, { dst := (some 17), op := (Op.binOp BinOp.gtr 3 (Operand.tmp 15) (Operand.tmp 16) 3), type := 4, pos := "sha256.go:33", after := #[{ on := 2, ground := Ground.data }, { on := 3, ground := Ground.data }], guard := none }] false) (Code.cond (Operand.tmp 17) (Code.exit 0) Code.skip)) (Code.seq (Code.region 5 #[{ dst := (some 18), op := (Op.move (Operand.tmp 0)), type := 3, pos := "sha256.go:36", after := #[], guard := none }, { dst := (some 19), op := (Op.move (Operand.tmp 6)), type := 3, pos := "sha256.go:36", after := #[], guard := none }, { dst := (some 20), op := (Op.binOp BinOp.rem 3 (Operand.tmp 18) (Operand.tmp 19) 3), type := 3, pos := "sha256.go:36", after := #[{ on := 0, ground := Ground.data }, { on := 1, ground := Ground.data }], guard := none }, { dst := (some 21), op := (Op.binOp BinOp.eql 3 (Operand.tmp 20) (Operand.const (Value.int IntKind.i64 0)) 3), type := 4, pos := "sha256.go:36", after := #[{ on := 2, ground := Ground.data }], guard := none }] false) (Code.cond (Operand.tmp 21) (Code.seq (Code.region 6 #[{ dst := (some 4), op := (Op.assign (Operand.const (Value.bool false))), type := 4, pos := "sha256.go:37", after := #[], guard := none }] false) Code.ret) Code.skip))))) (Code.region 7 #[{ dst := (some 22), op := (Op.binOp BinOp.add 3 (Operand.tmp 9) (Operand.const (Value.int IntKind.i64 1)) 3), type := 3, pos := "sha256.go:32", after := #[], guard := none }, { dst := (some 9), op := (Op.move (Operand.tmp 22)), type := 3, pos := "sha256.go:32", after := #[{ on := 0, ground := Ground.data }], guard := none }] false))))

theorem prime_loop {g : Gh} (hg : g.n = 23) (x : Int) (b off n cp : Nat) (c : List Value) (rw : Bool) (hn : n ≤ 1099511627776) : ∀ (r : List Int) (k : Nat), k + r.length = n → At c (off + k) (r.map i64) → (∀ q, q ∈ r → 0 < q ∧ q < 2147483648) →
    WpL Try.prog g loop65 (fun e env mem => (e = .exit 0 ∧ primeB x r = true ∧ Wk g env mem [] []) ∨ (e = .ret ∧ primeB x r = false ∧ Wk g env mem [(4, .bool false)] []))
      [(0, i64 x), (7, .slice (some ⟨b, off, none⟩) n cp), (8, i64 n), (9, i64 k)] [⟨b, c, rw⟩]
  | [], k, hk, hc, hq => by
    obtain ⟨gn, w0, may⟩ := g
    obtain rfl : gn = 23 := hg
    simp only [List.length_nil] at hk
    refine WpL.step ?_
    refine Wp.seq ?_
    refine Wp.reg allGen ?_
    refine Tr.lss rfl rfl (by first | with_reducible assumption | exact decide_eq_true (by omega) | exact decide_eq_false (by omega) | exact beq_iff_eq.2 (by omega) | exact beq_eq_false_iff_ne.2 (by omega) | exact bne_iff_ne.2 (by omega) | rfl) rfl trivial rfl ?_
    refine Tr.nil ?_ (fun _ => rfl) (List.Perm.refl _)
    refine Wp.seq ?_
    refine Wp.condF rfl ?_
    refine Wp.exit ?_
    exact .inl ⟨rfl, rfl, Wk.mk (by repeat (first | exact ESub.nil | refine ESub.cons rfl (by first | rfl | (simp; done) | (simp; omega)) ?_)) (by repeat (first | exact MSub.nil | refine MSub.cons (by first | exact .here | exact (.there .here) | exact (.there (.there .here)) | exact (.there (.there (.there .here))) | exact (.there (.there (.there (.there .here)))) | exact (.there (.there (.there (.there (.there .here))))) | exact (.there (.there (.there (.there (.there (.there .here)))))) | exact (.there (.there (.there (.there (.there (.there (.there .here))))))) | exact (.there (.there (.there (.there (.there (.there (.there (.there .here)))))))) | exact (.there (.there (.there (.there (.there (.there (.there (.there (.there .here)))))))))) (by first | rfl | (simp; done)) ?_))⟩
  | q :: r, k, hk, hc, hq => by
    obtain ⟨gn, w0, may⟩ := g
    obtain rfl : gn = 23 := hg
    simp only [List.length_cons] at hk
    have hget : c[off + k]? = some (i64 q) := hc.get (j := 0) (by simp)
    have hq0 := hq q (by simp)
    have hqq : q * q ≤ 4611686014132420609 := by
      have := Int.mul_le_mul (a := q) (b := q) (c := 2147483647) (d := 2147483647) (by omega) (by omega) (by omega) (by omega)
      omega
    have hqq0 : 0 ≤ q * q := Int.mul_nonneg (by omega) (by omega)
    by_cases h1 : x < q * q
    ·
      refine WpL.step ?_
      refine Wp.seq ?_
      refine Wp.reg allGen ?_
      refine Tr.lss rfl rfl (by first | with_reducible assumption | exact decide_eq_true (by omega) | exact decide_eq_false (by omega) | exact beq_iff_eq.2 (by omega) | exact beq_eq_false_iff_ne.2 (by omega) | exact bne_iff_ne.2 (by omega) | rfl) rfl trivial rfl ?_
      refine Tr.nil ?_ (fun _ => rfl) (List.Perm.refl _)
      refine Wp.seq ?_
      refine Wp.condT rfl ?_
      refine Wp.skip ?_
      refine Wp.seq ?_
      refine Wp.block ?_
      refine Wp.seq ?_
      refine Wp.reg allGen ?_
      first | refine Tr.indexAddrS01 tab rfl rfl rfl rfl rfl (by omega) (by omega) rfl trivial rfl ?_ | refine Tr.indexAddrS1 tab rfl rfl rfl rfl rfl (by omega) (by omega) rfl trivial rfl ?_
      refine Tr.loadS tab rfl rfl rfl (by first | exact (.head _) | exact (.tail _ (.head _)) | exact (.tail _ (.tail _ (.head _))) | exact (.tail _ (.tail _ (.tail _ (.head _)))) | exact (.tail _ (.tail _ (.tail _ (.tail _ (.head _))))) | exact (.tail _ (.tail _ (.tail _ (.tail _ (.tail _ (.head _)))))) | exact (.tail _ (.tail _ (.tail _ (.tail _ (.tail _ (.tail _ (.head _))))))) | exact (.tail _ (.tail _ (.tail _ (.tail _ (.tail _ (.tail _ (.tail _ (.head _)))))))) | exact (.tail _ (.tail _ (.tail _ (.tail _ (.tail _ (.tail _ (.tail _ (.tail _ (.head _))))))))) | exact (.tail _ (.tail _ (.tail _ (.tail _ (.tail _ (.tail _ (.tail _ (.tail _ (.tail _ (.head _))))))))))) (by first | rfl | with_reducible assumption | assumption | (simp; done)) rfl trivial rfl ?_
      refine Tr.assign rfl rfl trivial rfl ?_
      refine Tr.nil ?_ (fun _ => rfl) (List.Perm.refl _)
      refine Wp.seq ?_
      refine Wp.seq ?_
      refine Wp.reg allGen ?_
      refine Tr.move rfl rfl trivial rfl ?_
      refine Tr.move rfl rfl trivial rfl ?_
      refine Tr.mul rfl rfl (by first | exact wrap_i64 (by omega) (by omega) | rfl) rfl trivial rfl ?_
      refine Tr.move rfl rfl trivial rfl ?_
      refine Tr.gtr rfl rfl (by first | with_reducible assumption | exact decide_eq_true (by omega) | exact decide_eq_false (by omega) | exact beq_iff_eq.2 (by omega) | exact beq_eq_false_iff_ne.2 (by omega) | exact bne_iff_ne.2 (by omega) | rfl) rfl trivial rfl ?_
      refine Tr.nil ?_ (fun _ => rfl) (List.Perm.refl _)
      refine Wp.condT rfl ?_
      refine Wp.exit ?_
      exact .inl ⟨rfl, by simp [primeB, h1], Wk.mk (by repeat (first | exact ESub.nil | refine ESub.cons rfl (by first | rfl | (simp; done) | (simp; omega)) ?_)) (by repeat (first | exact MSub.nil | refine MSub.cons (by first | exact .here | exact (.there .here) | exact (.there (.there .here)) | exact (.there (.there (.there .here))) | exact (.there (.there (.there (.there .here)))) | exact (.there (.there (.there (.there (.there .here))))) | exact (.there (.there (.there (.there (.there (.there .here)))))) | exact (.there (.there (.there (.there (.there (.there (.there .here))))))) | exact (.there (.there (.there (.there (.there (.there (.there (.there .here)))))))) | exact (.there (.there (.there (.there (.there (.there (.there (.there (.there .here)))))))))) (by first | rfl | (simp; done)) ?_))⟩
    · by_cases h2 : x.tmod q = 0
      ·
        have h2' : (x.tmod q == 0) = true := by simp [h2]
        refine WpL.step ?_
        refine Wp.seq ?_
        refine Wp.reg allGen ?_
        refine Tr.lss rfl rfl (by first | with_reducible assumption | exact decide_eq_true (by omega) | exact decide_eq_false (by omega) | exact beq_iff_eq.2 (by omega) | exact beq_eq_false_iff_ne.2 (by omega) | exact bne_iff_ne.2 (by omega) | rfl) rfl trivial rfl ?_
        refine Tr.nil ?_ (fun _ => rfl) (List.Perm.refl _)
        refine Wp.seq ?_
        refine Wp.condT rfl ?_
        refine Wp.skip ?_
        refine Wp.seq ?_
        refine Wp.block ?_
        refine Wp.seq ?_
        refine Wp.reg allGen ?_
        first | refine Tr.indexAddrS01 tab rfl rfl rfl rfl rfl (by omega) (by omega) rfl trivial rfl ?_ | refine Tr.indexAddrS1 tab rfl rfl rfl rfl rfl (by omega) (by omega) rfl trivial rfl ?_
        refine Tr.loadS tab rfl rfl rfl (by first | exact (.head _) | exact (.tail _ (.head _)) | exact (.tail _ (.tail _ (.head _))) | exact (.tail _ (.tail _ (.tail _ (.head _)))) | exact (.tail _ (.tail _ (.tail _ (.tail _ (.head _))))) | exact (.tail _ (.tail _ (.tail _ (.tail _ (.tail _ (.head _)))))) | exact (.tail _ (.tail _ (.tail _ (.tail _ (.tail _ (.tail _ (.head _))))))) | exact (.tail _ (.tail _ (.tail _ (.tail _ (.tail _ (.tail _ (.tail _ (.head _)))))))) | exact (.tail _ (.tail _ (.tail _ (.tail _ (.tail _ (.tail _ (.tail _ (.tail _ (.head _))))))))) | exact (.tail _ (.tail _ (.tail _ (.tail _ (.tail _ (.tail _ (.tail _ (.tail _ (.tail _ (.head _))))))))))) (by first | rfl | with_reducible assumption | assumption | (simp; done)) rfl trivial rfl ?_
        refine Tr.assign rfl rfl trivial rfl ?_
        refine Tr.nil ?_ (fun _ => rfl) (List.Perm.refl _)
        refine Wp.seq ?_
        refine Wp.seq ?_
        refine Wp.reg allGen ?_
        refine Tr.move rfl rfl trivial rfl ?_
        refine Tr.move rfl rfl trivial rfl ?_
        refine Tr.mul rfl rfl (by first | exact wrap_i64 (by omega) (by omega) | rfl) rfl trivial rfl ?_
        refine Tr.move rfl rfl trivial rfl ?_
        refine Tr.gtr rfl rfl (by first | with_reducible assumption | exact decide_eq_true (by omega) | exact decide_eq_false (by omega) | exact beq_iff_eq.2 (by omega) | exact beq_eq_false_iff_ne.2 (by omega) | exact bne_iff_ne.2 (by omega) | rfl) rfl trivial rfl ?_
        refine Tr.nil ?_ (fun _ => rfl) (List.Perm.refl _)
        refine Wp.condF rfl ?_
        refine Wp.skip ?_
        refine Wp.seq ?_
        refine Wp.reg allGen ?_
        refine Tr.move rfl rfl trivial rfl ?_
        refine Tr.move rfl rfl trivial rfl ?_
        refine Tr.rem rfl rfl (by omega) rfl rfl trivial rfl ?_
        refine Tr.eql rfl rfl (by first | with_reducible assumption | exact decide_eq_true (by omega) | exact decide_eq_false (by omega) | exact beq_iff_eq.2 (by omega) | exact beq_eq_false_iff_ne.2 (by omega) | exact bne_iff_ne.2 (by omega) | rfl) rfl trivial rfl ?_
        refine Tr.nil ?_ (fun _ => rfl) (List.Perm.refl _)
        refine Wp.condT rfl ?_
        refine Wp.seq ?_
        refine Wp.reg allGen ?_
        refine Tr.assign rfl rfl trivial rfl ?_
        refine Tr.nil ?_ (fun _ => rfl) (List.Perm.refl _)
        refine Wp.ret ?_
        exact .inr ⟨rfl, by simp [primeB, h1, h2], Wk.mk (by repeat (first | exact ESub.nil | refine ESub.cons rfl (by first | rfl | (simp; done) | (simp; omega)) ?_)) (by repeat (first | exact MSub.nil | refine MSub.cons (by first | exact .here | exact (.there .here) | exact (.there (.there .here)) | exact (.there (.there (.there .here))) | exact (.there (.there (.there (.there .here)))) | exact (.there (.there (.there (.there (.there .here))))) | exact (.there (.there (.there (.there (.there (.there .here)))))) | exact (.there (.there (.there (.there (.there (.there (.there .here))))))) | exact (.there (.there (.there (.there (.there (.there (.there (.there .here)))))))) | exact (.there (.there (.there (.there (.there (.there (.there (.there (.there .here)))))))))) (by first | rfl | (simp; done)) ?_))⟩
      ·
        have h2' : (x.tmod q == 0) = false := by simp [h2]
        refine WpL.step ?_
        refine Wp.seq ?_
        refine Wp.reg allGen ?_
        refine Tr.lss rfl rfl (by first | with_reducible assumption | exact decide_eq_true (by omega) | exact decide_eq_false (by omega) | exact beq_iff_eq.2 (by omega) | exact beq_eq_false_iff_ne.2 (by omega) | exact bne_iff_ne.2 (by omega) | rfl) rfl trivial rfl ?_
        refine Tr.nil ?_ (fun _ => rfl) (List.Perm.refl _)
        refine Wp.seq ?_
        refine Wp.condT rfl ?_
        refine Wp.skip ?_
        refine Wp.seq ?_
        refine Wp.block ?_
        refine Wp.seq ?_
        refine Wp.reg allGen ?_
        first | refine Tr.indexAddrS01 tab rfl rfl rfl rfl rfl (by omega) (by omega) rfl trivial rfl ?_ | refine Tr.indexAddrS1 tab rfl rfl rfl rfl rfl (by omega) (by omega) rfl trivial rfl ?_
        refine Tr.loadS tab rfl rfl rfl (by first | exact (.head _) | exact (.tail _ (.head _)) | exact (.tail _ (.tail _ (.head _))) | exact (.tail _ (.tail _ (.tail _ (.head _)))) | exact (.tail _ (.tail _ (.tail _ (.tail _ (.head _))))) | exact (.tail _ (.tail _ (.tail _ (.tail _ (.tail _ (.head _)))))) | exact (.tail _ (.tail _ (.tail _ (.tail _ (.tail _ (.tail _ (.head _))))))) | exact (.tail _ (.tail _ (.tail _ (.tail _ (.tail _ (.tail _ (.tail _ (.head _)))))))) | exact (.tail _ (.tail _ (.tail _ (.tail _ (.tail _ (.tail _ (.tail _ (.tail _ (.head _))))))))) | exact (.tail _ (.tail _ (.tail _ (.tail _ (.tail _ (.tail _ (.tail _ (.tail _ (.tail _ (.head _))))))))))) (by first | rfl | with_reducible assumption | assumption | (simp; done)) rfl trivial rfl ?_
        refine Tr.assign rfl rfl trivial rfl ?_
        refine Tr.nil ?_ (fun _ => rfl) (List.Perm.refl _)
        refine Wp.seq ?_
        refine Wp.seq ?_
        refine Wp.reg allGen ?_
        refine Tr.move rfl rfl trivial rfl ?_
        refine Tr.move rfl rfl trivial rfl ?_
        refine Tr.mul rfl rfl (by first | exact wrap_i64 (by omega) (by omega) | rfl) rfl trivial rfl ?_
        refine Tr.move rfl rfl trivial rfl ?_
        refine Tr.gtr rfl rfl (by first | with_reducible assumption | exact decide_eq_true (by omega) | exact decide_eq_false (by omega) | exact beq_iff_eq.2 (by omega) | exact beq_eq_false_iff_ne.2 (by omega) | exact bne_iff_ne.2 (by omega) | rfl) rfl trivial rfl ?_
        refine Tr.nil ?_ (fun _ => rfl) (List.Perm.refl _)
        refine Wp.condF rfl ?_
        refine Wp.skip ?_
        refine Wp.seq ?_
        refine Wp.reg allGen ?_
        refine Tr.move rfl rfl trivial rfl ?_
        refine Tr.move rfl rfl trivial rfl ?_
        refine Tr.rem rfl rfl (by omega) rfl rfl trivial rfl ?_
        refine Tr.eql rfl rfl (by first | with_reducible assumption | exact decide_eq_true (by omega) | exact decide_eq_false (by omega) | exact beq_iff_eq.2 (by omega) | exact beq_eq_false_iff_ne.2 (by omega) | exact bne_iff_ne.2 (by omega) | rfl) rfl trivial rfl ?_
        refine Tr.nil ?_ (fun _ => rfl) (List.Perm.refl _)
        refine Wp.condF rfl ?_
        refine Wp.skip ?_
        refine Wp.reg allGen ?_
        refine Tr.add rfl rfl (by first | exact wrap_i64 (by omega) (by omega) | rfl) rfl trivial rfl ?_
        refine Tr.move rfl rfl trivial rfl ?_
        refine Tr.nil ?_ (fun _ => rfl) (List.Perm.refl _)
        refine WpL.weak ((prime_loop rfl x b off n cp c rw hn r (k + 1) (by omega) ?_ (fun z hz => hq z (by simp [hz]))).mono ?_) (Wk.mk (by repeat (first | exact ESub.nil | refine ESub.cons rfl (by first | rfl | (simp; done) | (simp; omega)) ?_)) (by repeat (first | exact MSub.nil | refine MSub.cons (by first | exact .here | exact (.there .here) | exact (.there (.there .here)) | exact (.there (.there (.there .here))) | exact (.there (.there (.there (.there .here)))) | exact (.there (.there (.there (.there (.there .here))))) | exact (.there (.there (.there (.there (.there (.there .here)))))) | exact (.there (.there (.there (.there (.there (.there (.there .here))))))) | exact (.there (.there (.there (.there (.there (.there (.there (.there .here)))))))) | exact (.there (.there (.there (.there (.there (.there (.there (.there (.there .here)))))))))) (by first | rfl | (simp; done)) ?_)))
        · obtain ⟨l, rr, h3, h4⟩ := hc
          exact ⟨l ++ [i64 q], rr, by simp [h3], by simp [h4]; omega⟩
        · intro e env mem h
          simpa [primeB, h1, h2] using h

theorem f65_prime (x : Int) (ps : List Int) (b off cp : Nat) (c : List Value) (hn : ps.length ≤ 1099511627776) (hc : At c off (ps.map i64)) (hq : ∀ q, q ∈ ps → 0 < q ∧ q < 2147483648) :
    FnR Try.prog 65 [i64 x, .slice (some ⟨b, off, none⟩) ps.length cp] [⟨b, c, false⟩] (.bool (primeB x ps)) := by
  refine fnR_of 23 rfl Try.func65 rfl (by kernel_rfl) rfl (by simp) fun w => ?_
  refine Wp.seq ?_
  refine Wp.reg allGen ?_
  refine Tr.assign rfl rfl trivial rfl ?_
  refine Tr.nil ?_ (fun _ => rfl) (List.Perm.refl _)
  refine Wp.seq ?_
  refine Wp.seq ?_
  refine Wp.reg allGen ?_
  refine Tr.move rfl rfl trivial rfl ?_
  refine Tr.lenS tab rfl rfl rfl rfl trivial rfl ?_
  refine Tr.move rfl rfl trivial rfl ?_
  refine Tr.nil ?_ (fun _ => rfl) (List.Perm.refl _)
  refine Wp.block ?_
  refine Wp.loopQ (prime_loop rfl x b off ps.length cp c false hn ps 0 (by simp) hc hq) (Wk.mk (by repeat (first | exact ESub.nil | refine ESub.cons rfl (by first | rfl | (simp; done) | (simp; omega)) ?_)) (by repeat (first | exact MSub.nil | refine MSub.cons (by first | exact .here | exact (.there .here) | exact (.there (.there .here)) | exact (.there (.there (.there .here))) | exact (.there (.there (.there (.there .here)))) | exact (.there (.there (.there (.there (.there .here))))) | exact (.there (.there (.there (.there (.there (.there .here)))))) | exact (.there (.there (.there (.there (.there (.there (.there .here))))))) | exact (.there (.there (.there (.there (.there (.there (.there (.there .here)))))))) | exact (.there (.there (.there (.there (.there (.there (.there (.there (.there .here)))))))))) (by first | rfl | (simp; done)) ?_))) ?_
  intro e env1 mem1 h
  rcases h with ⟨rfl, hp, hk1⟩ | ⟨rfl, hp, hk1⟩
  rotate_left
  exact ⟨.inr rfl, fun a w ha hw => by rw [hp]; exact ResIs.r1 rfl (RvIs.tmp rfl) a w (hk1.1 a ha) (hk1.2 w hw)⟩
  rw [hp]
  refine Wp.weak ?_ hk1
  refine Wp.seq ?_
  refine Wp.reg allGen ?_
  refine Tr.assign rfl rfl trivial rfl ?_
  refine Tr.nil ?_ (fun _ => rfl) (List.Perm.refl _)
  refine Wp.ret ?_
  refine ⟨by first | exact .inl rfl | exact .inr rfl, ?_⟩
  exact .r1 rfl (RvIs.tmp rfl)

theorem f65_prime0 (x : Int) : FnR Try.prog 65 [i64 x, .slice none 0 0] [] (.bool true) := by
  refine fnR_of 23 rfl Try.func65 rfl (by kernel_rfl) rfl (by simp) fun w => ?_
  refine Wp.seq ?_
  refine Wp.reg allGen ?_
  refine Tr.assign rfl rfl trivial rfl ?_
  refine Tr.nil ?_ (fun _ => rfl) (List.Perm.refl _)
  refine Wp.seq ?_
  refine Wp.seq ?_
  refine Wp.reg allGen ?_
  refine Tr.move rfl rfl trivial rfl ?_
  refine Tr.lenS tab rfl rfl rfl rfl trivial rfl ?_
  refine Tr.move rfl rfl trivial rfl ?_
  refine Tr.nil ?_ (fun _ => rfl) (List.Perm.refl _)
  refine Wp.block ?_
  refine Wp.loopL ?_
  refine WpL.step ?_
  refine Wp.seq ?_
  refine Wp.reg allGen ?_
  refine Tr.lss rfl rfl (by first | with_reducible assumption | exact decide_eq_true (by omega) | exact decide_eq_false (by omega) | exact beq_iff_eq.2 (by omega) | exact beq_eq_false_iff_ne.2 (by omega) | exact bne_iff_ne.2 (by omega) | rfl) rfl trivial rfl ?_
  refine Tr.nil ?_ (fun _ => rfl) (List.Perm.refl _)
  refine Wp.seq ?_
  refine Wp.condF rfl ?_
  refine Wp.exit ?_
  refine Wp.seq ?_
  refine Wp.reg allGen ?_
  refine Tr.assign rfl rfl trivial rfl ?_
  refine Tr.nil ?_ (fun _ => rfl) (List.Perm.refl _)
  refine Wp.ret ?_
  refine ⟨by first | exact .inl rfl | exact .inr rfl, ?_⟩
  exact .r1 rfl (RvIs.tmp rfl)

/-! ### Primes -/
/-- the primes below x, one by one -/
def pl : Nat → List Int
  | 0 => []
  | x + 1 => if 2 ≤ x ∧ primeB x (pl x) = true then pl x ++ [(x : Int)] else pl x

theorem pl_bd : ∀ (x : Nat) (q : Int), q ∈ pl x → 2 ≤ q ∧ q < x
  | 0, q, h => by simp [pl] at h
  | x + 1, q, h => by
    simp only [pl] at h
    split at h
    · rename_i hx
      rcases List.mem_append.1 h with h | h
      · have := pl_bd x q h; omega
      · simp at h; omega
    · have := pl_bd x q h; omega

theorem pl_len : ∀ (x : Nat), (pl x).length ≤ x
  | 0 => by simp [pl]
  | x + 1 => by
    simp only [pl]
    have := pl_len x
    split
    · simp; omega
    · omega

theorem pl_succ (x : Nat) : pl x <+: pl (x + 1) := by
  simp only [pl]
  split
  · exact List.prefix_append _ _
  · exact List.prefix_refl _

theorem pl_mono {x y : Nat} (h : x ≤ y) : pl x <+: pl y := by
  induction h with
  | refl => exact List.prefix_refl _
  | step _ ih => exact ih.trans (pl_succ _)

theorem pl_542 : (pl 542).length = 100 := by decide +kernel
theorem pl_2 : pl 2 = [] := by decide +kernel

/-- the n least primes -/
def primesL (n : Nat) : List Int := (pl 542).take n

theorem pl_of_len {x n : Nat} (h : (pl x).length = n) (hx : x ≤ 542) : pl x = primesL n := by
  obtain ⟨r, hr⟩ := pl_mono hx
  unfold primesL
  rw [← hr, ← h]; simp

def loop22 : Code := (Code.seq (Code.seq (Code.region 5 #[{ dst := (some 12), op := (Op.move (Operand.tmp 4)), type := 22, pos := "sha256.go:23", after := #[], guard := none }, { dst := (some 13), op := (Op.call { callee := (Callee.builtin Builtin.len), args := #[(Operand.tmp 12)], argTypes := #[22] }), type := 3, pos := "sha256.go:23", after := #[{ on := 0, ground := Ground.data }], guard := none }, { dst := (some 14), op := (Op.move (Operand.tmp 0)), type := 3, pos := "sha256.go:23", after := #[], guard := none }, { dst := (some 15), op := (Op.binOp BinOp.lss 3 (Operand.tmp 13) (Operand.tmp 14) 3), type := 4, pos := "sha256.go:23", after := #[{ on := 1, ground := Ground.data }, { on := 2, ground := Ground.data }], guard := none }] false) (Code.cond (Operand.tmp 15) Code.skip (Code.exit 0))) (Code.seq (Code.block 1 (Code.seq (Code.region 7 #[{ dst := (some 18), op := (Op.move (Operand.tmp 5)), type := 3, pos := "sha256.go:24", after := #[], guard := none }, { dst := (some 19), op := (Op.move (Operand.tmp 4)), type := 22, pos := "sha256.go:24", after := #[], guard := none }, { dst := (some 20), op := (Op.call { callee := (Callee.value (Operand.func 65)), args := #[(Operand.tmp 18), (Operand.tmp 19)], argTypes := #[3, 22] }), type := 4, pos := "sha256.go:24", after := #[{ on := 0, ground := Ground.data }, { on := 1, ground := Ground.data }], guard := none }] false) (Code.cond (Operand.tmp 20) (Code.region 8 #[{ dst := (some 21), op := (Op.move (Operand.tmp 4)), type := 22, pos := "sha256.go:25", after := #[], guard := none }, { dst := (some 22), op := (Op.move (Operand.tmp 5)), type := 3, pos := "sha256.go:25", after := #[], guard := none }, { dst := (some 23), op := (Op.buildSlice 22 1 #[(0, (Operand.tmp 22))]), type := 22, pos := "sha256.go:25", after := #[{ on := 1, ground := Ground.data }], guard := none }, { dst := (some 24), op := (Op.call { callee := (Callee.builtin Builtin.append), args := #[(Operand.tmp 21), (Operand.tmp 23)], argTypes := #[22, 22] }), type := 22, pos := "sha256.go:25", after := #[{ on := 0, ground := Ground.data }, { on := 2, ground := Ground.data }], guard := none }, { dst := (some 4), op := (Op.assign (Operand.tmp 24)), type := 22, pos := "sha256.go:25", after := #[{ on := 3, ground := Ground.data }, { on := 3, ground := Ground.chain }, { on := 0, ground := Ground.phase }, { on := 1, ground := Ground.phase }, { on := 2, ground := Ground.phase }, { on := 3, ground := Ground.phase }], guard := none }] false) Code.skip))) (Code.region 6 #[{ dst := (some 16), op := (Op.move (Operand.tmp 5)), type := 3, pos := "sha256.go:23", after := #[], guard := none }, { dst := (some 17), op := (Op.binOp BinOp.add 3 (Operand.tmp 16) (Operand.const (Value.int IntKind.i64 1)) 3), type := 3, pos := "sha256.go:23", after := #[{ on := 0, ground := Ground.data }], guard := none }, { dst := (some 5), op := (Op.assign (Operand.tmp 17)), type := 3, pos := "sha256.go:23", after := #[{ on := 1, ground := Ground.data }, { on := 0, ground := Ground.phase }, { on := 1, ground := Ground.phase }], guard := none }] false)))

theorem primes_loop {g : Gh} (hg : g.n = 26) (n : Nat) (hn : n ≤ 100) : ∀ (d x : Nat), x + d = 542 → 2 ≤ x → (pl x).length ≤ n → ∀ (v : Value) (es : List Ent), Fresh ((pl x).map i64) v es →
    WpL Try.prog g loop22 (fun e env mem => e = .exit 0 ∧ ∃ v es, Fresh ((primesL n).map i64) v es ∧ Wk g env mem [(4, v)] es)
      [(0, i64 n), (4, v), (5, i64 x)] es := by
  obtain ⟨gn, w0, may⟩ := g
  obtain rfl : gn = 26 := hg
  intro d
  induction d with
  | zero =>
    intro x hx h2 hl v es hf
    obtain rfl : x = 542 := by omega
    have hll := pl_542
    have hfin : pl 542 = primesL n := pl_of_len (by omega) (Nat.le_refl _)
    rw [hfin] at hf
    have hl2 : (primesL n).length = n := by rw [← hfin]; omega
    have hfr := hf
    rcases hf with ⟨h1, rfl, rfl⟩ | ⟨b, pre, sp, rfl, rfl⟩
    ·
      have : (primesL n).length = 0 := by simpa using congrArg List.length h1
      exfalso; omega
    ·
      have hl3 : ((primesL n).map i64).length = n := by simpa using hl2
      refine WpL.step ?_
      refine Wp.seq ?_
      refine Wp.seq ?_
      refine Wp.reg allGen ?_
      refine Tr.move rfl rfl trivial rfl ?_
      refine Tr.lenS tab rfl rfl rfl rfl trivial rfl ?_
      refine Tr.move rfl rfl trivial rfl ?_
      refine Tr.lss rfl rfl (by first | with_reducible assumption | exact decide_eq_true (by omega) | exact decide_eq_false (by omega) | exact beq_iff_eq.2 (by omega) | exact beq_eq_false_iff_ne.2 (by omega) | exact bne_iff_ne.2 (by omega) | rfl) rfl trivial rfl ?_
      refine Tr.nil ?_ (fun _ => rfl) (List.Perm.refl _)
      refine Wp.condF rfl ?_
      refine Wp.exit ?_
      exact ⟨rfl, _, _, hfr, Wk.mk (by repeat (first | exact ESub.nil | refine ESub.cons rfl (by first | rfl | (simp; done) | (simp; omega)) ?_)) (by repeat (first | exact MSub.nil | refine MSub.cons (by first | exact .here | exact (.there .here) | exact (.there (.there .here)) | exact (.there (.there (.there .here))) | exact (.there (.there (.there (.there .here)))) | exact (.there (.there (.there (.there (.there .here))))) | exact (.there (.there (.there (.there (.there (.there .here)))))) | exact (.there (.there (.there (.there (.there (.there (.there .here))))))) | exact (.there (.there (.there (.there (.there (.there (.there (.there .here)))))))) | exact (.there (.there (.there (.there (.there (.there (.there (.there (.there .here)))))))))) (by first | rfl | (simp; done)) ?_))⟩
  | succ d ih =>
    intro x hx h2 hl v es hf
    by_cases hlt : (pl x).length < n
    · have hb : ∀ q, q ∈ pl x → 0 < q ∧ q < 2147483648 := fun q hq => by have := pl_bd x q hq; omega
      have hlen := pl_len x
      by_cases hp : primeB x (pl x) = true
      · have hs : pl (x + 1) = pl x ++ [(x : Int)] := by simp only [pl]; rw [if_pos ⟨h2, hp⟩]
        have ih' := ih (x + 1) (by omega) (by omega) (by rw [hs]; simp; omega)
        rw [hs] at ih'
        rcases hf with ⟨h1, rfl, rfl⟩ | ⟨b, pre, sp, rfl, rfl⟩
        · have hnil : pl x = [] := by simpa using h1
          rw [hnil] at ih' hlt
          simp only [List.length_nil] at hlt
          refine WpL.step ?_
          refine Wp.seq ?_
          refine Wp.seq ?_
          refine Wp.reg allGen ?_
          refine Tr.move rfl rfl trivial rfl ?_
          refine Tr.lenS tab rfl rfl rfl rfl trivial rfl ?_
          refine Tr.move rfl rfl trivial rfl ?_
          refine Tr.lss rfl rfl (by first | with_reducible assumption | exact decide_eq_true (by omega) | exact decide_eq_false (by omega) | exact beq_iff_eq.2 (by omega) | exact beq_eq_false_iff_ne.2 (by omega) | exact bne_iff_ne.2 (by omega) | rfl) rfl trivial rfl ?_
          refine Tr.nil ?_ (fun _ => rfl) (List.Perm.refl _)
          refine Wp.condT rfl ?_
          refine Wp.skip ?_
          refine Wp.seq ?_
          refine Wp.block ?_
          refine Wp.seq ?_
          refine Wp.reg allGen ?_
          refine Tr.move rfl rfl trivial rfl ?_
          refine Tr.move rfl rfl trivial rfl ?_
          refine Tr.call rfl (f65_prime0 _) (by repeat (first | exact Has.nil | refine Has.cons (by first | exact (.head _) | exact (.tail _ (.head _)) | exact (.tail _ (.tail _ (.head _))) | exact (.tail _ (.tail _ (.tail _ (.head _)))) | exact (.tail _ (.tail _ (.tail _ (.tail _ (.head _))))) | exact (.tail _ (.tail _ (.tail _ (.tail _ (.tail _ (.head _)))))) | exact (.tail _ (.tail _ (.tail _ (.tail _ (.tail _ (.tail _ (.head _))))))) | exact (.tail _ (.tail _ (.tail _ (.tail _ (.tail _ (.tail _ (.tail _ (.head _)))))))) | exact (.tail _ (.tail _ (.tail _ (.tail _ (.tail _ (.tail _ (.tail _ (.tail _ (.head _))))))))) | exact (.tail _ (.tail _ (.tail _ (.tail _ (.tail _ (.tail _ (.tail _ (.tail _ (.tail _ (.head _))))))))))) ?_)) rfl trivial rfl ?_
          refine Tr.nil ?_ (fun _ => rfl) (List.Perm.refl _)
          refine Wp.condT rfl ?_
          refine Wp.reg allGen ?_
          refine Tr.move rfl rfl trivial rfl ?_
          refine Tr.move rfl rfl trivial rfl ?_
          refine Tr.buildSlice tab rfl rfl rfl rfl rfl rfl (by simp [fillC, splice, vcells, Value.cells, zrep_one]; rfl) rfl trivial rfl (fun _ _ => ?_)
          refine Tr.appendN tab rfl rfl (SrcOf.row (by first | exact (.head _) | exact (.tail _ (.head _)) | exact (.tail _ (.tail _ (.head _))) | exact (.tail _ (.tail _ (.tail _ (.head _)))) | exact (.tail _ (.tail _ (.tail _ (.tail _ (.head _))))) | exact (.tail _ (.tail _ (.tail _ (.tail _ (.tail _ (.head _)))))) | exact (.tail _ (.tail _ (.tail _ (.tail _ (.tail _ (.tail _ (.head _))))))) | exact (.tail _ (.tail _ (.tail _ (.tail _ (.tail _ (.tail _ (.tail _ (.head _)))))))) | exact (.tail _ (.tail _ (.tail _ (.tail _ (.tail _ (.tail _ (.tail _ (.tail _ (.head _))))))))) | exact (.tail _ (.tail _ (.tail _ (.tail _ (.tail _ (.tail _ (.tail _ (.tail _ (.tail _ (.head _))))))))))) (by first | exact At.all _ | with_reducible assumption | assumption) (by first | with_reducible rfl | with_reducible assumption | (simp; done) | (simp; omega) | rfl)) (by simp) rfl rfl rfl rfl (by simp) (by first | (simp; done) | (simp; omega)) (by first | (simp; done) | (simp; omega)) rfl trivial rfl (fun b1 pre1 sp1 => ?_)
          refine Tr.assign rfl rfl trivial rfl ?_
          refine Tr.nil ?_ (fun _ => rfl) (List.Perm.refl _)
          refine Wp.reg allGen ?_
          refine Tr.move rfl rfl trivial rfl ?_
          refine Tr.add rfl rfl (by first | exact wrap_i64 (by omega) (by omega) | rfl) rfl trivial rfl ?_
          refine Tr.assign rfl rfl trivial rfl ?_
          refine Tr.nil ?_ (fun _ => rfl) (List.Perm.refl _)
          refine WpL.weak (ih' _ _ (.inr ⟨b1, pre1, sp1, rfl, rfl⟩)) (Wk.mk (by repeat (first | exact ESub.nil | refine ESub.cons rfl (by first | rfl | (simp; done) | (simp; omega)) ?_)) (by repeat (first | exact MSub.nil | refine MSub.cons (by first | exact .here | exact (.there .here) | exact (.there (.there .here)) | exact (.there (.there (.there .here))) | exact (.there (.there (.there (.there .here)))) | exact (.there (.there (.there (.there (.there .here))))) | exact (.there (.there (.there (.there (.there (.there .here)))))) | exact (.there (.there (.there (.there (.there (.there (.there .here))))))) | exact (.there (.there (.there (.there (.there (.there (.there (.there .here)))))))) | exact (.there (.there (.there (.there (.there (.there (.there (.there (.there .here)))))))))) (by first | rfl | (simp; done)) ?_)))
        · have hf : FnR Try.prog 65 [i64 x, .slice (some ⟨b, pre.length, none⟩) (pl x).length ((pl x).length + sp.length)] [⟨b, pre ++ (pl x).map i64 ++ sp, false⟩] (.bool true) := by
            have hz := f65_prime x (pl x) b pre.length ((pl x).length + sp.length) (pre ++ (pl x).map i64 ++ sp) (by omega) ⟨pre, sp, rfl, rfl⟩ hb
            rw [hp] at hz
            exact hz
          simp only [List.length_map]
          refine WpL.step ?_
          refine Wp.seq ?_
          refine Wp.seq ?_
          refine Wp.reg allGen ?_
          refine Tr.move rfl rfl trivial rfl ?_
          refine Tr.lenS tab rfl rfl rfl rfl trivial rfl ?_
          refine Tr.move rfl rfl trivial rfl ?_
          refine Tr.lss rfl rfl (by first | with_reducible assumption | exact decide_eq_true (by omega) | exact decide_eq_false (by omega) | exact beq_iff_eq.2 (by omega) | exact beq_eq_false_iff_ne.2 (by omega) | exact bne_iff_ne.2 (by omega) | rfl) rfl trivial rfl ?_
          refine Tr.nil ?_ (fun _ => rfl) (List.Perm.refl _)
          refine Wp.condT rfl ?_
          refine Wp.skip ?_
          refine Wp.seq ?_
          refine Wp.block ?_
          refine Wp.seq ?_
          refine Wp.reg allGen ?_
          refine Tr.move rfl rfl trivial rfl ?_
          refine Tr.move rfl rfl trivial rfl ?_
          refine Tr.call rfl hf (by repeat (first | exact Has.nil | refine Has.cons (by first | exact (.head _) | exact (.tail _ (.head _)) | exact (.tail _ (.tail _ (.head _))) | exact (.tail _ (.tail _ (.tail _ (.head _)))) | exact (.tail _ (.tail _ (.tail _ (.tail _ (.head _))))) | exact (.tail _ (.tail _ (.tail _ (.tail _ (.tail _ (.head _)))))) | exact (.tail _ (.tail _ (.tail _ (.tail _ (.tail _ (.tail _ (.head _))))))) | exact (.tail _ (.tail _ (.tail _ (.tail _ (.tail _ (.tail _ (.tail _ (.head _)))))))) | exact (.tail _ (.tail _ (.tail _ (.tail _ (.tail _ (.tail _ (.tail _ (.tail _ (.head _))))))))) | exact (.tail _ (.tail _ (.tail _ (.tail _ (.tail _ (.tail _ (.tail _ (.tail _ (.tail _ (.head _))))))))))) ?_)) rfl trivial rfl ?_
          refine Tr.nil ?_ (fun _ => rfl) (List.Perm.refl _)
          refine Wp.condT rfl ?_
          refine Wp.reg allGen ?_
          refine Tr.move rfl rfl trivial rfl ?_
          refine Tr.move rfl rfl trivial rfl ?_
          refine Tr.buildSlice tab rfl rfl rfl rfl rfl rfl (by simp [fillC, splice, vcells, Value.cells, zrep_one]; rfl) rfl trivial rfl (fun _ _ => ?_)
          refine Tr.appendO tab rfl (by first | exact .here | exact (.there .here) | exact (.there (.there .here)) | exact (.there (.there (.there .here))) | exact (.there (.there (.there (.there .here)))) | exact (.there (.there (.there (.there (.there .here))))) | exact (.there (.there (.there (.there (.there (.there .here)))))) | exact (.there (.there (.there (.there (.there (.there (.there .here))))))) | exact (.there (.there (.there (.there (.there (.there (.there (.there .here)))))))) | exact (.there (.there (.there (.there (.there (.there (.there (.there (.there .here)))))))))) rfl rfl (by simp) rfl rfl (SrcOf.row (by first | exact (.head _) | exact (.tail _ (.head _)) | exact (.tail _ (.tail _ (.head _))) | exact (.tail _ (.tail _ (.tail _ (.head _)))) | exact (.tail _ (.tail _ (.tail _ (.tail _ (.head _))))) | exact (.tail _ (.tail _ (.tail _ (.tail _ (.tail _ (.head _)))))) | exact (.tail _ (.tail _ (.tail _ (.tail _ (.tail _ (.tail _ (.head _))))))) | exact (.tail _ (.tail _ (.tail _ (.tail _ (.tail _ (.tail _ (.tail _ (.head _)))))))) | exact (.tail _ (.tail _ (.tail _ (.tail _ (.tail _ (.tail _ (.tail _ (.tail _ (.head _))))))))) | exact (.tail _ (.tail _ (.tail _ (.tail _ (.tail _ (.tail _ (.tail _ (.tail _ (.tail _ (.head _))))))))))) (by first | exact At.all _ | with_reducible assumption | assumption) (by first | with_reducible rfl | with_reducible assumption | (simp; done) | (simp; omega) | rfl)) (by first | with_reducible assumption | rfl | (simp [Value.oneCell']; done)) rfl rfl rfl rfl (by simp) (by first | (simp; done) | (simp; omega)) (by first | (simp; done) | (simp; omega)) rfl trivial rfl (fun b1 pre1 sp1 => ?_)
          refine Tr.assign rfl rfl trivial rfl ?_
          refine Tr.nil ?_ (fun _ => rfl) (List.Perm.refl _)
          refine Wp.reg allGen ?_
          refine Tr.move rfl rfl trivial rfl ?_
          refine Tr.add rfl rfl (by first | exact wrap_i64 (by omega) (by omega) | rfl) rfl trivial rfl ?_
          refine Tr.assign rfl rfl trivial rfl ?_
          refine Tr.nil ?_ (fun _ => rfl) (List.Perm.refl _)
          refine WpL.weak (ih' _ _ (.inr ⟨b1, pre1, sp1, rfl, rfl⟩)) (Wk.mk (by repeat (first | exact ESub.nil | refine ESub.cons rfl (by first | rfl | (simp; done) | (simp; omega)) ?_)) (by repeat (first | exact MSub.nil | refine MSub.cons (by first | exact .here | exact (.there .here) | exact (.there (.there .here)) | exact (.there (.there (.there .here))) | exact (.there (.there (.there (.there .here)))) | exact (.there (.there (.there (.there (.there .here))))) | exact (.there (.there (.there (.there (.there (.there .here)))))) | exact (.there (.there (.there (.there (.there (.there (.there .here))))))) | exact (.there (.there (.there (.there (.there (.there (.there (.there .here)))))))) | exact (.there (.there (.there (.there (.there (.there (.there (.there (.there .here)))))))))) (by first | rfl | (simp; done)) ?_)))
      · have hs : pl (x + 1) = pl x := by simp only [pl]; rw [if_neg (by simp [hp])]
        have ih' := ih (x + 1) (by omega) (by omega) (by rw [hs]; omega)
        rw [hs] at ih'
        have hp' : primeB x (pl x) = false := by simpa using hp
        have hf' := hf
        rcases hf with ⟨h1, rfl, rfl⟩ | ⟨b, pre, sp, rfl, rfl⟩
        · have hnil : pl x = [] := by simpa using h1
          rw [hnil] at hp'
          simp [primeB] at hp'
        · have hf : FnR Try.prog 65 [i64 x, .slice (some ⟨b, pre.length, none⟩) (pl x).length ((pl x).length + sp.length)] [⟨b, pre ++ (pl x).map i64 ++ sp, false⟩] (.bool false) := by
            have hz := f65_prime x (pl x) b pre.length ((pl x).length + sp.length) (pre ++ (pl x).map i64 ++ sp) (by omega) ⟨pre, sp, rfl, rfl⟩ hb
            rw [hp'] at hz
            exact hz
          simp only [List.length_map] at hf' ih' ⊢
          refine WpL.step ?_
          refine Wp.seq ?_
          refine Wp.seq ?_
          refine Wp.reg allGen ?_
          refine Tr.move rfl rfl trivial rfl ?_
          refine Tr.lenS tab rfl rfl rfl rfl trivial rfl ?_
          refine Tr.move rfl rfl trivial rfl ?_
          refine Tr.lss rfl rfl (by first | with_reducible assumption | exact decide_eq_true (by omega) | exact decide_eq_false (by omega) | exact beq_iff_eq.2 (by omega) | exact beq_eq_false_iff_ne.2 (by omega) | exact bne_iff_ne.2 (by omega) | rfl) rfl trivial rfl ?_
          refine Tr.nil ?_ (fun _ => rfl) (List.Perm.refl _)
          refine Wp.condT rfl ?_
          refine Wp.skip ?_
          refine Wp.seq ?_
          refine Wp.block ?_
          refine Wp.seq ?_
          refine Wp.reg allGen ?_
          refine Tr.move rfl rfl trivial rfl ?_
          refine Tr.move rfl rfl trivial rfl ?_
          refine Tr.call rfl hf (by repeat (first | exact Has.nil | refine Has.cons (by first | exact (.head _) | exact (.tail _ (.head _)) | exact (.tail _ (.tail _ (.head _))) | exact (.tail _ (.tail _ (.tail _ (.head _)))) | exact (.tail _ (.tail _ (.tail _ (.tail _ (.head _))))) | exact (.tail _ (.tail _ (.tail _ (.tail _ (.tail _ (.head _)))))) | exact (.tail _ (.tail _ (.tail _ (.tail _ (.tail _ (.tail _ (.head _))))))) | exact (.tail _ (.tail _ (.tail _ (.tail _ (.tail _ (.tail _ (.tail _ (.head _)))))))) | exact (.tail _ (.tail _ (.tail _ (.tail _ (.tail _ (.tail _ (.tail _ (.tail _ (.head _))))))))) | exact (.tail _ (.tail _ (.tail _ (.tail _ (.tail _ (.tail _ (.tail _ (.tail _ (.tail _ (.head _))))))))))) ?_)) rfl trivial rfl ?_
          refine Tr.nil ?_ (fun _ => rfl) (List.Perm.refl _)
          refine Wp.condF rfl ?_
          refine Wp.skip ?_
          refine Wp.reg allGen ?_
          refine Tr.move rfl rfl trivial rfl ?_
          refine Tr.add rfl rfl (by first | exact wrap_i64 (by omega) (by omega) | rfl) rfl trivial rfl ?_
          refine Tr.assign rfl rfl trivial rfl ?_
          refine Tr.nil ?_ (fun _ => rfl) (List.Perm.refl _)
          refine WpL.weak (ih' _ _ hf') (Wk.mk (by repeat (first | exact ESub.nil | refine ESub.cons rfl (by first | rfl | (simp; done) | (simp; omega)) ?_)) (by repeat (first | exact MSub.nil | refine MSub.cons (by first | exact .here | exact (.there .here) | exact (.there (.there .here)) | exact (.there (.there (.there .here))) | exact (.there (.there (.there (.there .here)))) | exact (.there (.there (.there (.there (.there .here))))) | exact (.there (.there (.there (.there (.there (.there .here)))))) | exact (.there (.there (.there (.there (.there (.there (.there .here))))))) | exact (.there (.there (.there (.there (.there (.there (.there (.there .here)))))))) | exact (.there (.there (.there (.there (.there (.there (.there (.there (.there .here)))))))))) (by first | rfl | (simp; done)) ?_)))
    · have hfin : pl x = primesL n := pl_of_len (by omega) (by omega)
      have hlen : (pl x).length = n := by omega
      rw [hfin] at hf
      have hl2 : (primesL n).length = n := by rw [← hfin]; omega
      have hfr := hf
      rcases hf with ⟨h1, rfl, rfl⟩ | ⟨b, pre, sp, rfl, rfl⟩
      · have h0 : (primesL n).length = 0 := by simpa using congrArg List.length h1
        have hn0 : n = 0 := by omega
        subst hn0
        refine WpL.step ?_
        refine Wp.seq ?_
        refine Wp.seq ?_
        refine Wp.reg allGen ?_
        refine Tr.move rfl rfl trivial rfl ?_
        refine Tr.lenS tab rfl rfl rfl rfl trivial rfl ?_
        refine Tr.move rfl rfl trivial rfl ?_
        refine Tr.lss rfl rfl (by first | with_reducible assumption | exact decide_eq_true (by omega) | exact decide_eq_false (by omega) | exact beq_iff_eq.2 (by omega) | exact beq_eq_false_iff_ne.2 (by omega) | exact bne_iff_ne.2 (by omega) | rfl) rfl trivial rfl ?_
        refine Tr.nil ?_ (fun _ => rfl) (List.Perm.refl _)
        refine Wp.condF rfl ?_
        refine Wp.exit ?_
        exact ⟨rfl, _, _, hfr, Wk.mk (by repeat (first | exact ESub.nil | refine ESub.cons rfl (by first | rfl | (simp; done) | (simp; omega)) ?_)) (by repeat (first | exact MSub.nil | refine MSub.cons (by first | exact .here | exact (.there .here) | exact (.there (.there .here)) | exact (.there (.there (.there .here))) | exact (.there (.there (.there (.there .here)))) | exact (.there (.there (.there (.there (.there .here))))) | exact (.there (.there (.there (.there (.there (.there .here)))))) | exact (.there (.there (.there (.there (.there (.there (.there .here))))))) | exact (.there (.there (.there (.there (.there (.there (.there (.there .here)))))))) | exact (.there (.there (.there (.there (.there (.there (.there (.there (.there .here)))))))))) (by first | rfl | (simp; done)) ?_))⟩
      · have hl3 : ((primesL n).map i64).length = n := by simpa using hl2
        refine WpL.step ?_
        refine Wp.seq ?_
        refine Wp.seq ?_
        refine Wp.reg allGen ?_
        refine Tr.move rfl rfl trivial rfl ?_
        refine Tr.lenS tab rfl rfl rfl rfl trivial rfl ?_
        refine Tr.move rfl rfl trivial rfl ?_
        refine Tr.lss rfl rfl (by first | with_reducible assumption | exact decide_eq_true (by omega) | exact decide_eq_false (by omega) | exact beq_iff_eq.2 (by omega) | exact beq_eq_false_iff_ne.2 (by omega) | exact bne_iff_ne.2 (by omega) | rfl) rfl trivial rfl ?_
        refine Tr.nil ?_ (fun _ => rfl) (List.Perm.refl _)
        refine Wp.condF rfl ?_
        refine Wp.exit ?_
        exact ⟨rfl, _, _, hfr, Wk.mk (by repeat (first | exact ESub.nil | refine ESub.cons rfl (by first | rfl | (simp; done) | (simp; omega)) ?_)) (by repeat (first | exact MSub.nil | refine MSub.cons (by first | exact .here | exact (.there .here) | exact (.there (.there .here)) | exact (.there (.there (.there .here))) | exact (.there (.there (.there (.there .here)))) | exact (.there (.there (.there (.there (.there .here))))) | exact (.there (.there (.there (.there (.there (.there .here)))))) | exact (.there (.there (.there (.there (.there (.there (.there .here))))))) | exact (.there (.there (.there (.there (.there (.there (.there (.there .here)))))))) | exact (.there (.there (.there (.there (.there (.there (.there (.there (.there .here)))))))))) (by first | rfl | (simp; done)) ?_))⟩

theorem f22_primes (n : Nat) (hn : n ≤ 100) : FnG Try.prog 22 [i64 n] [] (fun v es => ∃ s, v = .tuple #[s, i64 0] ∧ Fresh ((primesL n).map i64) s es) := by
  have hpl : (pl 2).length ≤ n := by rw [pl_2]; simp
  refine fnG_of 26 rfl Try.func22 rfl (by kernel_rfl) rfl (by simp) fun w => ?_
  refine Wp.seq ?_
  refine Wp.reg allGen ?_
  refine Tr.assign rfl rfl trivial rfl ?_
  refine Tr.assign rfl rfl trivial rfl ?_
  refine Tr.nil ?_ (fun _ => rfl) (List.Perm.refl _)
  refine Wp.seq ?_
  refine Wp.seq ?_
  refine Wp.reg allGen ?_
  refine Tr.move rfl rfl trivial rfl ?_
  refine Tr.lss rfl rfl (by first | with_reducible assumption | exact decide_eq_true (by omega) | exact decide_eq_false (by omega) | exact beq_iff_eq.2 (by omega) | exact beq_eq_false_iff_ne.2 (by omega) | exact bne_iff_ne.2 (by omega) | rfl) rfl trivial rfl ?_
  refine Tr.move rfl rfl trivial rfl ?_
  first | refine Tr.skp rfl ⟨_, _, rfl, rfl, by first | exact .inl rfl | exact .inr rfl⟩ ?_ | (refine Tr.move rfl rfl ⟨_, rfl, rfl⟩ rfl ?_)
  first | refine Tr.skp rfl ⟨_, _, rfl, rfl, by first | exact .inl rfl | exact .inr rfl⟩ ?_ | (refine Tr.gtr rfl rfl (by first | with_reducible assumption | exact decide_eq_true (by omega) | exact decide_eq_false (by omega) | exact beq_iff_eq.2 (by omega) | exact beq_eq_false_iff_ne.2 (by omega) | exact bne_iff_ne.2 (by omega) | rfl) rfl ⟨_, rfl, rfl⟩ rfl ?_)
  first | refine Tr.pickT rfl rfl rfl trivial rfl ?_ | refine Tr.pickF rfl rfl rfl trivial rfl ?_
  refine Tr.nil ?_ (fun _ => rfl) (List.Perm.refl _)
  refine Wp.condF rfl ?_
  refine Wp.skip ?_
  refine Wp.seq ?_
  refine Wp.reg allGen ?_
  refine Tr.assign rfl rfl trivial rfl ?_
  refine Tr.nil ?_ (fun _ => rfl) (List.Perm.refl _)
  refine Wp.seq ?_
  refine Wp.seq ?_
  refine Wp.reg allGen ?_
  refine Tr.assign rfl rfl trivial rfl ?_
  refine Tr.nil ?_ (fun _ => rfl) (List.Perm.refl _)
  refine Wp.block ?_
  refine Wp.loopQ (primes_loop rfl n hn 540 2 rfl (by omega) hpl (.slice none 0 0) [] (.inl ⟨by rw [pl_2]; rfl, rfl, rfl⟩)) (Wk.mk (by repeat (first | exact ESub.nil | refine ESub.cons rfl (by first | rfl | (simp; done) | (simp; omega)) ?_)) (by repeat (first | exact MSub.nil | refine MSub.cons (by first | exact .here | exact (.there .here) | exact (.there (.there .here)) | exact (.there (.there (.there .here))) | exact (.there (.there (.there (.there .here)))) | exact (.there (.there (.there (.there (.there .here))))) | exact (.there (.there (.there (.there (.there (.there .here)))))) | exact (.there (.there (.there (.there (.there (.there (.there .here))))))) | exact (.there (.there (.there (.there (.there (.there (.there (.there .here)))))))) | exact (.there (.there (.there (.there (.there (.there (.there (.there (.there .here)))))))))) (by first | rfl | (simp; done)) ?_))) ?_
  rintro _ env1 mem1 ⟨rfl, v, es, hfr, hk1⟩
  refine Wp.weak ?_ hk1
  refine Wp.seq ?_
  refine Wp.reg allGen ?_
  refine Tr.move rfl rfl trivial rfl ?_
  refine Tr.assign rfl rfl trivial rfl ?_
  refine Tr.assign rfl rfl trivial rfl ?_
  refine Tr.nil ?_ (fun _ => rfl) (List.Perm.refl _)
  refine Wp.ret ?_
  exact ⟨.inr rfl, _, _, ⟨_, rfl, hfr⟩, .r2 rfl (RvIs.tmp rfl) (RvIs.tmp rfl), hfr.sub, hfr.rw⟩

theorem f22_no (n : Int) (hn : n < 0 ∨ 100 < n) : FnR Try.prog 22 [i64 n] [] (.tuple #[.slice none 0 0, i64 1]) := by
  by_cases h : n < 0
  · refine fnR_of 26 rfl Try.func22 rfl (by kernel_rfl) rfl (by simp) fun w => ?_
    refine Wp.seq ?_
    refine Wp.reg allGen ?_
    refine Tr.assign rfl rfl trivial rfl ?_
    refine Tr.assign rfl rfl trivial rfl ?_
    refine Tr.nil ?_ (fun _ => rfl) (List.Perm.refl _)
    refine Wp.seq ?_
    refine Wp.seq ?_
    refine Wp.reg allGen ?_
    refine Tr.move rfl rfl trivial rfl ?_
    refine Tr.lss rfl rfl (by first | with_reducible assumption | exact decide_eq_true (by omega) | exact decide_eq_false (by omega) | exact beq_iff_eq.2 (by omega) | exact beq_eq_false_iff_ne.2 (by omega) | exact bne_iff_ne.2 (by omega) | rfl) rfl trivial rfl ?_
    refine Tr.move rfl rfl trivial rfl ?_
    first | refine Tr.skp rfl ⟨_, _, rfl, rfl, by first | exact .inl rfl | exact .inr rfl⟩ ?_ | (refine Tr.move rfl rfl ⟨_, rfl, rfl⟩ rfl ?_)
    first | refine Tr.skp rfl ⟨_, _, rfl, rfl, by first | exact .inl rfl | exact .inr rfl⟩ ?_ | (refine Tr.gtr rfl rfl (by first | with_reducible assumption | exact decide_eq_true (by omega) | exact decide_eq_false (by omega) | exact beq_iff_eq.2 (by omega) | exact beq_eq_false_iff_ne.2 (by omega) | exact bne_iff_ne.2 (by omega) | rfl) rfl ⟨_, rfl, rfl⟩ rfl ?_)
    first | refine Tr.pickT rfl rfl rfl trivial rfl ?_ | refine Tr.pickF rfl rfl rfl trivial rfl ?_
    refine Tr.nil ?_ (fun _ => rfl) (List.Perm.refl _)
    refine Wp.condT rfl ?_
    refine Wp.seq ?_
    refine Wp.reg allGen ?_
    refine Tr.assign rfl rfl trivial rfl ?_
    refine Tr.assign rfl rfl trivial rfl ?_
    refine Tr.nil ?_ (fun _ => rfl) (List.Perm.refl _)
    refine Wp.ret ?_
    refine ⟨by first | exact .inl rfl | exact .inr rfl, ?_⟩
    exact .r2 rfl (RvIs.tmp rfl) (RvIs.tmp rfl)
  · have h' : 100 < n := by omega
    refine fnR_of 26 rfl Try.func22 rfl (by kernel_rfl) rfl (by simp) fun w => ?_
    refine Wp.seq ?_
    refine Wp.reg allGen ?_
    refine Tr.assign rfl rfl trivial rfl ?_
    refine Tr.assign rfl rfl trivial rfl ?_
    refine Tr.nil ?_ (fun _ => rfl) (List.Perm.refl _)
    refine Wp.seq ?_
    refine Wp.seq ?_
    refine Wp.reg allGen ?_
    refine Tr.move rfl rfl trivial rfl ?_
    refine Tr.lss rfl rfl (by first | with_reducible assumption | exact decide_eq_true (by omega) | exact decide_eq_false (by omega) | exact beq_iff_eq.2 (by omega) | exact beq_eq_false_iff_ne.2 (by omega) | exact bne_iff_ne.2 (by omega) | rfl) rfl trivial rfl ?_
    refine Tr.move rfl rfl trivial rfl ?_
    first | refine Tr.skp rfl ⟨_, _, rfl, rfl, by first | exact .inl rfl | exact .inr rfl⟩ ?_ | (refine Tr.move rfl rfl ⟨_, rfl, rfl⟩ rfl ?_)
    first | refine Tr.skp rfl ⟨_, _, rfl, rfl, by first | exact .inl rfl | exact .inr rfl⟩ ?_ | (refine Tr.gtr rfl rfl (by first | with_reducible assumption | exact decide_eq_true (by omega) | exact decide_eq_false (by omega) | exact beq_iff_eq.2 (by omega) | exact beq_eq_false_iff_ne.2 (by omega) | exact bne_iff_ne.2 (by omega) | rfl) rfl ⟨_, rfl, rfl⟩ rfl ?_)
    first | refine Tr.pickT rfl rfl rfl trivial rfl ?_ | refine Tr.pickF rfl rfl rfl trivial rfl ?_
    refine Tr.nil ?_ (fun _ => rfl) (List.Perm.refl _)
    refine Wp.condT rfl ?_
    refine Wp.seq ?_
    refine Wp.reg allGen ?_
    refine Tr.assign rfl rfl trivial rfl ?_
    refine Tr.assign rfl rfl trivial rfl ?_
    refine Tr.nil ?_ (fun _ => rfl) (List.Perm.refl _)
    refine Wp.ret ?_
    refine ⟨by first | exact .inl rfl | exact .inr rfl, ?_⟩
    exact .r2 rfl (RvIs.tmp rfl) (RvIs.tmp rfl)
attribute [irreducible] primesL pl
end Go.Proofs.Ytffghaeaohabhaa.AW
