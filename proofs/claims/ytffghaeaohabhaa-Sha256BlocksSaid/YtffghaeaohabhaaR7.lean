import Derived.Test.YtffghaeaohabhaaR6
import Derived.Test.YtffghaeaohabhaaS11
namespace Go.Proofs.Ytffghaeaohabhaa.AW
open Go NT
set_option maxRecDepth 100000

/-! ### above -/
def loop112a : Code := (Code.seq (Code.seq (Code.region 4 #[{ dst := (some 15), op := (Op.move (Operand.tmp 9)), type := 3, pos := "ref.go:37", after := #[], guard := none }, { dst := (some 16), op := (Op.move (Operand.tmp 1)), type := 3, pos := "ref.go:37", after := #[], guard := none }, { dst := (some 17), op := (Op.binOp BinOp.lss 3 (Operand.tmp 15) (Operand.tmp 16) 3), type := 4, pos := "ref.go:37", after := #[{ on := 0, ground := Ground.data }, { on := 1, ground := Ground.data }], guard := none }] false) (Code.cond (Operand.tmp 17) Code.skip (Code.exit 0))) (Code.seq (Code.block 1 (Code.region 6 #[{ dst := (some 20), op := (Op.move (Operand.tmp 8)), type := 22, pos := "ref.go:38", after := #[], guard := none }, { dst := (some 21), op := (Op.move (Operand.tmp 7)), type := 22, pos := "ref.go:38", after := #[], guard := none }, { dst := (some 22), op := (Op.call { callee := (Callee.value (Operand.func 146)), args := #[(Operand.tmp 20), (Operand.tmp 21)], argTypes := #[22, 22] }), type := 22, pos := "ref.go:38", after := #[{ on := 0, ground := Ground.data }, { on := 1, ground := Ground.data }], guard := none }, { dst := (some 8), op := (Op.assign (Operand.tmp 22)), type := 22, pos := "ref.go:38", after := #[{ on := 2, ground := Ground.data }, { on := 2, ground := Ground.chain }, { on := 0, ground := Ground.phase }, { on := 1, ground := Ground.phase }, { on := 2, ground := Ground.phase }], guard := none }] false)) (Code.region 5 #[{ dst := (some 18), op := (Op.move (Operand.tmp 9)), type := 3, pos := "ref.go:37", after := #[], guard := none }, { dst := (some 19), op := (Op.binOp BinOp.add 3 (Operand.tmp 18) (Operand.const (Value.int IntKind.i64 1)) 3), type := 3, pos := "ref.go:37", after := #[{ on := 0, ground := Ground.data }], guard := none }, { dst := (some 9), op := (Op.assign (Operand.tmp 19)), type := 3, pos := "ref.go:37", after := #[{ on := 1, ground := Ground.data }, { on := 0, ground := Ground.phase }, { on := 1, ground := Ground.phase }], guard := none }] false)))
def loop112b : Code := (Code.seq (Code.seq (Code.region 9 #[{ dst := (some 23), op := (Op.move (Operand.tmp 11)), type := 3, pos := "ref.go:41", after := #[], guard := none }, { dst := (some 24), op := (Op.move (Operand.tmp 1)), type := 3, pos := "ref.go:41", after := #[], guard := none }, { dst := (some 25), op := (Op.binOp BinOp.mul 3 (Operand.const (Value.int IntKind.i64 2)) (Operand.tmp 24) 3), type := 3, pos := "ref.go:41", after := #[{ on := 1, ground := Ground.data }], guard := none }, { dst := (some 26), op := (Op.binOp BinOp.lss 3 (Operand.tmp 23) (Operand.tmp 25) 3), type := 4, pos := "ref.go:41", after := #[{ on := 0, ground := Ground.data }, { on := 2, ground := Ground.data }], guard := none }] false) (Code.cond (Operand.tmp 26) Code.skip (Code.exit 2))) (Code.seq (Code.block 3 (Code.region 11 #[{ dst := (some 29), op := (Op.move (Operand.tmp 10)), type := 22, pos := "ref.go:42", after := #[], guard := none }, { dst := (some 30), op := (Op.buildSlice 22 1 #[(0, (Operand.const (Value.int IntKind.i64 0)))]), type := 22, pos := "ref.go:42", after := #[], guard := none }, { dst := (some 31), op := (Op.call { callee := (Callee.builtin Builtin.append), args := #[(Operand.tmp 29), (Operand.tmp 30)], argTypes := #[22, 22] }), type := 22, pos := "ref.go:42", after := #[{ on := 0, ground := Ground.data }, { on := 1, ground := Ground.data }], guard := none }, { dst := (some 10), op := (Op.assign (Operand.tmp 31)), type := 22, pos := "ref.go:42", after := #[{ on := 2, ground := Ground.data }, { on := 2, ground := Ground.chain }, { on := 0, ground := Ground.phase }, { on := 1, ground := Ground.phase }, { on := 2, ground := Ground.phase }], guard := none }] false)) (Code.region 10 #[{ dst := (some 27), op := (Op.move (Operand.tmp 11)), type := 3, pos := "ref.go:41", after := #[], guard := none }, { dst := (some 28), op := (Op.binOp BinOp.add 3 (Operand.tmp 27) (Operand.const (Value.int IntKind.i64 1)) 3), type := 3, pos := "ref.go:41", after := #[{ on := 0, ground := Ground.data }], guard := none }, { dst := (some 11), op := (Op.assign (Operand.tmp 28)), type := 3, pos := "ref.go:41", after := #[{ on := 1, ground := Ground.data }, { on := 0, ground := Ground.phase }, { on := 1, ground := Ground.phase }], guard := none }] false)))

theorem above_loop1 {g : Gh} (hg : g.n = 39) (x0 x2 : Value) (pw : Nat) (hpw : pw ≤ 3) (L : List Nat) (hL : ∀ x, x ∈ L → x < 65536) (hLl : L.length ≤ 10) (bl lo cl : Nat) (cL : List Value) (hcL : At cL lo (dn L)) :
    ∀ (r i : Nat), i + r = pw → ∀ (b off cp : Nat) (c : List Value) (O : List Nat), At c off (dn O) → O.length ≤ 1 + 11 * i → 0 < O.length → (∀ x, x ∈ O → x < 65536) → val16 O = val16 L ^ i →
    WpL Try.prog g loop112a (fun e env mem => e = .exit 0 ∧ ∃ b off cp c O, At c off (dn O) ∧ O.length ≤ 40 ∧ (∀ x, x ∈ O → x < 65536) ∧ val16 O = val16 L ^ pw ∧ Wk g env mem [(1, i64 pw), (2, x2), (8, .slice (some ⟨b, off, none⟩) O.length cp)] [⟨b, c, true⟩])
      [(0, x0), (1, i64 pw), (2, x2), (7, .slice (some ⟨bl, lo, none⟩) L.length cl), (8, .slice (some ⟨b, off, none⟩) O.length cp), (9, i64 i)] [⟨b, c, true⟩, ⟨bl, cL, true⟩] := by
  obtain ⟨gn, w0, may⟩ := g
  obtain rfl : gn = 39 := hg
  intro r
  induction r with
  | zero =>
    intro i hi b off cp c O h1 h2 h3 h4 h5
    obtain rfl : i = pw := by omega
    refine WpL.step ?_
    refine Wp.seq ?_
    refine Wp.seq ?_
    refine Wp.reg allGen ?_
    refine Tr.move rfl rfl trivial rfl ?_
    refine Tr.move rfl rfl trivial rfl ?_
    refine Tr.lss rfl rfl (by first | with_reducible assumption | exact decide_eq_true (by omega) | exact decide_eq_false (by omega) | exact beq_iff_eq.2 (by omega) | exact beq_eq_false_iff_ne.2 (by omega) | exact bne_iff_ne.2 (by omega) | rfl) rfl trivial rfl ?_
    refine Tr.nil ?_ (fun _ => rfl) (List.Perm.refl _)
    refine Wp.condF rfl ?_
    refine Wp.exit ?_
    exact ⟨rfl, b, off, cp, c, O, h1, by omega, h4, h5, Wk.mk (by repeat (first | exact ESub.nil | refine ESub.cons rfl (by first | rfl | (simp; done) | (simp; omega)) ?_)) (by repeat (first | exact MSub.nil | refine MSub.cons (by repeat (first | exact .here | apply Pick.there | apply Pick.append)) (by first | rfl | (simp; done)) ?_))⟩
  | succ r ih =>
    intro i hi b off cp c O h1 h2 h3 h4 h5
    have ht := f146_times O L h4 hL (by omega) (by omega) b off cp bl lo cl c cL h1 hcL
    refine WpL.step ?_
    refine Wp.seq ?_
    refine Wp.seq ?_
    refine Wp.reg allGen ?_
    refine Tr.move rfl rfl trivial rfl ?_
    refine Tr.move rfl rfl trivial rfl ?_
    refine Tr.lss rfl rfl (by first | with_reducible assumption | exact decide_eq_true (by omega) | exact decide_eq_false (by omega) | exact beq_iff_eq.2 (by omega) | exact beq_eq_false_iff_ne.2 (by omega) | exact bne_iff_ne.2 (by omega) | rfl) rfl trivial rfl ?_
    refine Tr.nil ?_ (fun _ => rfl) (List.Perm.refl _)
    refine Wp.condT rfl ?_
    refine Wp.skip ?_
    refine Wp.seq ?_
    refine Wp.block ?_
    refine Wp.reg allGen ?_
    refine Tr.move rfl rfl trivial rfl ?_
    refine Tr.move rfl rfl trivial rfl ?_
    refine Tr.callG rfl ht (by repeat (first | exact Has.nil | refine Has.cons (by repeat (first | exact .head _ | refine .tail _ ?_ | refine List.mem_append_right _ ?_)) ?_)) rfl trivial rfl ?_
    rintro _ es ⟨O1, k1, k2, k3, hf⟩
    obtain ⟨b1, pre1, sp1, rfl, rfl⟩ := hf.row (n := O1.length) (by simp) (by omega)
    refine Tr.assign rfl rfl trivial rfl ?_
    refine Tr.nil ?_ (fun _ => rfl) (List.Perm.refl _)
    refine Wp.reg allGen ?_
    refine Tr.move rfl rfl trivial rfl ?_
    refine Tr.add rfl rfl (by first | exact wrap_i64 (by omega) (by omega) | rfl) rfl trivial rfl ?_
    refine Tr.assign rfl rfl trivial rfl ?_
    refine Tr.nil ?_ (fun _ => rfl) (List.Perm.refl _)
    refine WpL.weak (ih (i + 1) (by omega) b1 pre1.length _ _ O1 ⟨pre1, sp1, rfl, rfl⟩ (by omega) (by omega) k2 ?_) (Wk.mk (by repeat (first | exact ESub.nil | refine ESub.cons rfl (by first | rfl | (simp; done) | (simp; omega)) ?_)) (by repeat (first | exact MSub.nil | refine MSub.cons (by repeat (first | exact .here | apply Pick.there | apply Pick.append)) (by first | rfl | (simp; done)) ?_)))
    rw [k3, h5, Nat.pow_succ]

theorem above_loop2 {g : Gh} (hg : g.n = 39) (x2 x8 : Value) (pw : Nat) (hpw : pw ≤ 3) (R : List Ent) : ∀ (r i : Nat), i + r = 2 * pw → ∀ (v : Value) (es : List Ent), Fresh (dn (List.replicate i 0)) v es →
    WpL Try.prog g loop112b (fun e env mem => e = .exit 2 ∧ ∃ v es, Fresh (dn (List.replicate (2 * pw) 0)) v es ∧ Wk g env mem [(2, x2), (8, x8), (10, v)] (es ++ R))
      [(1, i64 pw), (2, x2), (8, x8), (10, v), (11, i64 i)] (es ++ R) := by
  obtain ⟨gn, w0, may⟩ := g
  obtain rfl : gn = 39 := hg
  intro r
  induction r with
  | zero =>
    intro i hi v es hf
    obtain rfl : i = 2 * pw := by omega
    refine WpL.step ?_
    refine Wp.seq ?_
    refine Wp.seq ?_
    refine Wp.reg allGen ?_
    refine Tr.move rfl rfl trivial rfl ?_
    refine Tr.move rfl rfl trivial rfl ?_
    refine Tr.mul rfl rfl (by first | exact wrap_i64 (by omega) (by omega) | rfl) rfl trivial rfl ?_
    refine Tr.lss rfl rfl (by first | with_reducible assumption | exact decide_eq_true (by omega) | exact decide_eq_false (by omega) | exact beq_iff_eq.2 (by omega) | exact beq_eq_false_iff_ne.2 (by omega) | exact bne_iff_ne.2 (by omega) | rfl) rfl trivial rfl ?_
    refine Tr.nil ?_ (fun _ => rfl) (List.Perm.refl _)
    refine Wp.condF rfl ?_
    refine Wp.exit ?_
    exact ⟨rfl, v, es, hf, ⟨fun a ha => EH.sub (ESub.sub (by repeat (first | exact ESub.nil | refine ESub.cons rfl (by first | rfl | (simp; done) | (simp; omega)) ?_))) a ha, fun w hw => hw⟩⟩
  | succ r ih =>
    intro i hi v es hf
    have hih := ih (i + 1) (by omega)
    rw [List.replicate_succ', dn_app] at hih
    refine WpL.step ?_
    refine Wp.seq ?_
    refine Wp.seq ?_
    refine Wp.reg allGen ?_
    refine Tr.move rfl rfl trivial rfl ?_
    refine Tr.move rfl rfl trivial rfl ?_
    refine Tr.mul rfl rfl (by first | exact wrap_i64 (by omega) (by omega) | rfl) rfl trivial rfl ?_
    refine Tr.lss rfl rfl (by first | with_reducible assumption | exact decide_eq_true (by omega) | exact decide_eq_false (by omega) | exact beq_iff_eq.2 (by omega) | exact beq_eq_false_iff_ne.2 (by omega) | exact bne_iff_ne.2 (by omega) | rfl) rfl trivial rfl ?_
    refine Tr.nil ?_ (fun _ => rfl) (List.Perm.refl _)
    refine Wp.condT rfl ?_
    refine Wp.skip ?_
    refine Wp.seq ?_
    refine Wp.block ?_
    refine Wp.reg allGen ?_
    refine Tr.move rfl rfl trivial rfl ?_
    refine Tr.buildSlice tab rfl rfl rfl rfl rfl rfl (by simp [fillC, splice, vcells, Value.cells, zrep_one]; rfl) rfl trivial rfl (fun _ _ => ?_)
    refine Tr.appendF tab rfl hf (by repeat (first | exact Take.app _ _ | exact Take.self _ | exact Take.nil | apply Take.skip)) rfl (SrcOf.row (by repeat (first | exact .head _ | refine .tail _ ?_ | refine List.mem_append_right _ ?_)) (by first | exact At.all _ | with_reducible assumption | assumption) (by first | with_reducible rfl | with_reducible assumption | (simp; done) | (simp; omega) | rfl)) (by first | with_reducible assumption | rfl | (simp [Value.oneCell']; done)) rfl rfl rfl rfl (by simp) (by decide) (by simp; omega) rfl trivial rfl (fun v1 es1 hf1 => ?_)
    refine Tr.assign rfl rfl trivial rfl ?_
    refine Tr.nil ?_ (fun _ => rfl) (List.Perm.refl _)
    refine Wp.reg allGen ?_
    refine Tr.move rfl rfl trivial rfl ?_
    refine Tr.add rfl rfl (by first | exact wrap_i64 (by omega) (by omega) | rfl) rfl trivial rfl ?_
    refine Tr.assign rfl rfl trivial rfl ?_
    refine Tr.nil ?_ (fun _ => rfl) (List.Perm.refl _)
    exact WpL.weak (hih _ _ hf1) ⟨fun a ha => EH.sub (ESub.sub (by repeat (first | exact ESub.nil | refine ESub.cons rfl (by first | rfl | (simp; done) | (simp; omega)) ?_))) a ha, MH.sub (MSub.app (MSub.drop (MSub.refl _)) _)⟩

theorem val16_want (p pw : Nat) : val16 (List.replicate (2 * pw) 0 ++ [p]) = p * 2 ^ (32 * pw) := by
  rw [val16_app, val16_rep, List.length_replicate, Nat.zero_add]
  simp only [val16, Nat.mul_zero, Nat.add_zero]
  rw [show (65536 : Nat) = 2 ^ 16 from rfl, ← Nat.pow_mul, Nat.mul_comm, show 16 * (2 * pw) = 32 * pw by omega]

theorem f112_above (x pw p : Nat) (hx0 : 0 < x) (hx : x < 4611686018427387904) (hpw : pw ≤ 3) (hp : p < 65536) :
    FnR Try.prog 112 [i64 (x : Int), i64 (pw : Int), i64 (p : Int)] [] (.bool (decide (p * 2 ^ (32 * pw) < x ^ pw))) := by
  have hd := f145_digits x 4 (by omega) hx (by decide)
  have hv := digS_val 4 x (by omega)
  have hl := digS_len 4 x
  have hlt := digS_lt 4 x
  have h0 : 0 < (digS 4 x).length := Nat.pos_of_ne_zero fun e => by
    have : digS 4 x = [] := List.length_eq_zero_iff.1 e
    rw [this] at hv; simp [val16] at hv; omega
  have hw := val16_want p pw
  have hwl : (List.replicate (2 * pw) 0 ++ [p]).length = 2 * pw + 1 := by simp
  have hwlt : ∀ j, (List.replicate (2 * pw) 0 ++ [p]).getD j 0 < 65536 := fun j => getD_lt (fun y hy => by
    rcases List.mem_append.1 hy with h | h
    · rw [(List.mem_replicate.1 h).2]; decide
    · rw [List.mem_singleton.1 h]; exact hp) j
  have happ : dn (List.replicate (2 * pw) 0) ++ [i64 (p : Int)] = dn (List.replicate (2 * pw) 0 ++ [p]) := by rw [dn_app]; rfl
  rw [← hw, show x ^ pw = val16 (digS 4 x) ^ pw by rw [hv]]
  generalize digS 4 x = L at *
  generalize hW : List.replicate (2 * pw) 0 ++ [p] = W at *
  refine fnR_of 39 rfl Try.func112 rfl (by kernel_rfl) rfl (by simp) fun w => ?_
  refine Wp.seq ?_
  refine Wp.reg allGen ?_
  refine Tr.assign rfl rfl trivial rfl ?_
  refine Tr.nil ?_ (fun _ => rfl) (List.Perm.refl _)
  refine Wp.seq ?_
  refine Wp.reg allGen ?_
  refine Tr.move rfl rfl trivial rfl ?_
  refine Tr.callG rfl hd (by repeat (first | exact Has.nil | refine Has.cons (by repeat (first | exact .head _ | refine .tail _ ?_ | refine List.mem_append_right _ ?_)) ?_)) rfl trivial rfl ?_
  rintro _ es hf
  obtain ⟨bl, prel, spl, rfl, rfl⟩ := hf.row (n := L.length) (by simp) h0
  refine Tr.assign rfl rfl trivial rfl ?_
  refine Tr.nil ?_ (fun _ => rfl) (List.Perm.refl _)
  refine Wp.seq ?_
  refine Wp.reg allGen ?_
  refine Tr.buildSlice tab rfl rfl rfl rfl rfl rfl (by simp [fillC, splice, vcells, Value.cells, zrep_one]; rfl) rfl trivial rfl (fun B14 _ => ?_)
  refine Tr.assign rfl rfl trivial rfl ?_
  refine Tr.nil ?_ (fun _ => rfl) (List.Perm.refl _)
  refine Wp.seq ?_
  refine Wp.seq ?_
  refine Wp.reg allGen ?_
  refine Tr.assign rfl rfl trivial rfl ?_
  refine Tr.nil ?_ (fun _ => rfl) (List.Perm.refl _)
  refine Wp.block ?_
  refine Wp.loopQ (above_loop1 rfl (i64 (x : Int)) (i64 (p : Int)) pw hpw L hlt (by omega) bl prel.length (L.length + spl.length) _ ⟨prel, spl, rfl, rfl⟩ pw 0 (by omega) B14 0 1 _ [1] (At.all _) (by decide) (by decide) (by simp) (by simp [val16])) (Wk.mk (by repeat (first | exact ESub.nil | refine ESub.cons rfl (by first | rfl | (simp; done) | (simp; omega)) ?_)) (by repeat (first | exact MSub.nil | refine MSub.cons (by repeat (first | exact .here | apply Pick.there | apply Pick.append)) (by first | rfl | (simp; done)) ?_))) ?_
  rintro _ env1 mem1 ⟨rfl, bO, oO, cO, cc, O, k1, k2, k3, k4, hk1⟩
  refine Wp.weak ?_ hk1
  refine Wp.seq ?_
  refine Wp.reg allGen ?_
  refine Tr.assign rfl rfl trivial rfl ?_
  refine Tr.nil ?_ (fun _ => rfl) (List.Perm.refl _)
  refine Wp.seq ?_
  refine Wp.seq ?_
  refine Wp.reg allGen ?_
  refine Tr.assign rfl rfl trivial rfl ?_
  refine Tr.nil ?_ (fun _ => rfl) (List.Perm.refl _)
  refine Wp.block ?_
  refine Wp.loopQ (above_loop2 rfl (i64 (p : Int)) (.slice (some ⟨bO, oO, none⟩) O.length cO) pw hpw [⟨bO, cc, true⟩] (2 * pw) 0 (by omega) (.slice none 0 0) [] Fresh.nil) (Wk.mk (by repeat (first | exact ESub.nil | refine ESub.cons rfl (by first | rfl | (simp; done) | (simp; omega)) ?_)) (by repeat (first | exact MSub.nil | refine MSub.cons (by repeat (first | exact .here | apply Pick.there | apply Pick.append)) (by first | rfl | (simp; done)) ?_))) ?_
  rintro _ env2 mem2 ⟨rfl, vw, esw, hfw, hk2⟩
  refine Wp.weak ?_ hk2
  refine Wp.seq ?_
  refine Wp.reg allGen ?_
  refine Tr.move rfl rfl trivial rfl ?_
  refine Tr.move rfl rfl trivial rfl ?_
  refine Tr.buildSlice tab rfl rfl rfl rfl rfl rfl (by simp [fillC, splice, vcells, Value.cells, zrep_one]; rfl) rfl trivial rfl (fun _ _ => ?_)
  refine Tr.appendF tab rfl hfw (by repeat (first | exact Take.app _ _ | exact Take.self _ | exact Take.nil | apply Take.skip)) rfl (SrcOf.row (by repeat (first | exact .head _ | refine .tail _ ?_ | refine List.mem_append_right _ ?_)) (by first | exact At.all _ | with_reducible assumption | assumption) (by first | with_reducible rfl | with_reducible assumption | (simp; done) | (simp; omega) | rfl)) (by first | with_reducible assumption | rfl | (simp [Value.oneCell']; done)) rfl rfl rfl rfl (by simp) (by decide) (by simp; omega) rfl trivial rfl (fun v1 es1 hf1 => ?_)
  rw [show [Value.int .i64 (p : Int)] = [i64 (p : Int)] from rfl, happ] at hf1
  obtain ⟨bW, preW, spW, rfl, rfl⟩ := hf1.row (n := W.length) (by simp) (by omega)
  refine Tr.assign rfl rfl trivial rfl ?_
  refine Tr.nil ?_ (fun _ => rfl) (List.Perm.refl _)
  refine Wp.seq ?_
  refine Wp.reg allGen ?_
  refine Tr.move rfl rfl trivial rfl ?_
  refine Tr.move rfl rfl trivial rfl ?_
  refine Tr.call rfl (f147_greater O W bO oO cO bW preW.length (W.length + spW.length) cc _ k1 ⟨preW, spW, rfl, rfl⟩ (by omega) (by omega) hwlt (getD_lt k3)) (by repeat (first | exact Has.nil | refine Has.cons (by repeat (first | exact .head _ | refine .tail _ ?_ | refine List.mem_append_right _ ?_)) ?_)) rfl trivial rfl ?_
  rw [k4]
  refine Tr.assign rfl rfl trivial rfl ?_
  refine Tr.nil ?_ (fun _ => rfl) (List.Perm.refl _)
  refine Wp.ret ?_
  refine ⟨by first | exact .inl rfl | exact .inr rfl, ?_⟩
  exact .r1 rfl (RvIs.tmp rfl)

/-! ### frac -/
def loop68 : Code := (Code.seq (Code.seq (Code.region 3 #[{ dst := (some 8), op := (Op.move (Operand.tmp 6)), type := 3, pos := "ref.go:24", after := #[], guard := none }, { dst := (some 9), op := (Op.binOp BinOp.geq 3 (Operand.tmp 8) (Operand.const (Value.int IntKind.i64 1)) 3), type := 4, pos := "ref.go:24", after := #[{ on := 0, ground := Ground.data }], guard := none }] false) (Code.cond (Operand.tmp 9) Code.skip (Code.exit 0))) (Code.seq (Code.block 1 (Code.seq (Code.region 5 #[{ dst := (some 12), op := (Op.move (Operand.tmp 5)), type := 3, pos := "ref.go:25", after := #[], guard := none }, { dst := (some 13), op := (Op.move (Operand.tmp 6)), type := 3, pos := "ref.go:25", after := #[], guard := none }, { dst := (some 14), op := (Op.binOp BinOp.add 3 (Operand.tmp 12) (Operand.tmp 13) 3), type := 3, pos := "ref.go:25", after := #[{ on := 0, ground := Ground.data }, { on := 1, ground := Ground.data }], guard := none }, { dst := (some 7), op := (Op.assign (Operand.tmp 14)), type := 3, pos := "ref.go:25", after := #[{ on := 2, ground := Ground.data }, { on := 0, ground := Ground.phase }, { on := 1, ground := Ground.phase }, { on := 2, ground := Ground.phase }], guard := none }] false) (Code.seq (Code.region 6 #[{ dst := (some 15), op := (Op.move (Operand.tmp 7)), type := 3, pos := "ref.go:26", after := #[], guard := none }, { dst := (some 16), op := (Op.move (Operand.tmp 1)), type := 3, pos := "ref.go:26", after := #[], guard := none }, { dst := (some 17), op := (Op.move (Operand.tmp 0)), type := 3, pos := "ref.go:26", after := #[], guard := none }, { dst := (some 18), op := (Op.call { callee := (Callee.value (Operand.func 112)), args := #[(Operand.tmp 15), (Operand.tmp 16), (Operand.tmp 17)], argTypes := #[3, 3, 3] }), type := 4, pos := "ref.go:26", after := #[{ on := 0, ground := Ground.data }, { on := 1, ground := Ground.data }, { on := 2, ground := Ground.data }], guard := none }, { dst := (some 19), op := (Op.unOp UnOp.not 4 (Operand.tmp 18)), type := 4, pos := "ref.go:26", after := #[{ on := 3, ground := Ground.data }], guard := none }] false) (Code.cond (Operand.tmp 19) (Code.region 7 #[{ dst := (some 20), op := (Op.move (Operand.tmp 7)), type := 3, pos := "ref.go:27", after := #[], guard := none }, { dst := (some 5), op := (Op.assign (Operand.tmp 20)), type := 3, pos := "ref.go:27", after := #[{ on := 0, ground := Ground.data }, { on := 0, ground := Ground.phase }], guard := none }] false) Code.skip)))) (Code.region 4 #[{ dst := (some 10), op := (Op.move (Operand.tmp 6)), type := 3, pos := "ref.go:24", after := #[], guard := none }, { dst := (some 11), op := (Op.binOp BinOp.quo 3 (Operand.tmp 10) (Operand.const (Value.int IntKind.i64 2)) 3), type := 3, pos := "ref.go:24", after := #[{ on := 0, ground := Ground.data }], guard := none }, { dst := (some 6), op := (Op.assign (Operand.tmp 11)), type := 3, pos := "ref.go:24", after := #[{ on := 1, ground := Ground.data }, { on := 0, ground := Ground.phase }, { on := 1, ground := Ground.phase }], guard := none }] false)))

theorem frac_loop {g : Gh} (hg : g.n = 23) (p pw : Nat) (hpw : pw ≤ 3) (hp : p < 65536) : ∀ (f root : Nat), f ≤ 39 → root + 2 ^ f ≤ 1099511627776 →
    WpL Try.prog g loop68 (fun e env mem => e = .exit 0 ∧ Wk g env mem [(5, i64 ((fracL p pw f root : Nat) : Int))] [])
      [(0, i64 (p : Int)), (1, i64 (pw : Int)), (5, i64 (root : Int)), (6, i64 (((2 ^ f / 2 : Nat) : Nat) : Int))] [] := by
  obtain ⟨gn, w0, may⟩ := g
  obtain rfl : gn = 23 := hg
  intro f
  induction f with
  | zero =>
    intro root hf hr
    refine WpL.step ?_
    refine Wp.seq ?_
    refine Wp.seq ?_
    refine Wp.reg allGen ?_
    refine Tr.move rfl rfl trivial rfl ?_
    refine Tr.geq rfl rfl (by first | with_reducible assumption | exact decide_eq_true (by omega) | exact decide_eq_false (by omega) | exact beq_iff_eq.2 (by omega) | exact beq_eq_false_iff_ne.2 (by omega) | exact bne_iff_ne.2 (by omega) | rfl) rfl trivial rfl ?_
    refine Tr.nil ?_ (fun _ => rfl) (List.Perm.refl _)
    refine Wp.condF rfl ?_
    refine Wp.exit ?_
    exact ⟨rfl, Wk.mk (by repeat (first | exact ESub.nil | refine ESub.cons rfl (by first | rfl | (simp; done) | (simp; omega)) ?_)) (by repeat (first | exact MSub.nil | refine MSub.cons (by repeat (first | exact .here | apply Pick.there | apply Pick.append)) (by first | rfl | (simp; done)) ?_))⟩
  | succ f ih =>
    intro root hf hr
    have hp2 : (2 : Nat) ^ (f + 1) = 2 * 2 ^ f := by rw [Nat.pow_succ]; omega
    have hpos := Nat.two_pow_pos f
    have hbit : 2 ^ (f + 1) / 2 = 2 ^ f := by omega
    rw [hbit]
    have hab := f112_above (root + 2 ^ f) pw p (by omega) (by omega) hpw hp
    have hstep : fracL p pw (f + 1) root = fracL p pw f (if p * 2 ^ (32 * pw) < (root + 2 ^ f) ^ pw then root else root + 2 ^ f) := rfl
    rw [hstep]
    have ih1 := ih root (by omega) (by omega)
    have ih2 := ih (root + 2 ^ f) (by omega) (by omega)
    have hq : IntKind.i64.wrap (((2 ^ f : Nat) : Int).tdiv 2) = ((2 ^ f / 2 : Nat) : Int) := by
      rw [show ((2 ^ f : Nat) : Int).tdiv 2 = ((2 ^ f / 2 : Nat) : Int) from tdivN _ 2]; exact wrap_i64 (by omega) (by omega)
    rw [Int.natCast_add] at hab ih2
    by_cases hc : p * 2 ^ (32 * pw) < (root + 2 ^ f) ^ pw
    · rw [if_pos hc]
      rw [decide_eq_true hc] at hab
      generalize (2 : Nat) ^ f = B at *
      refine WpL.step ?_
      refine Wp.seq ?_
      refine Wp.seq ?_
      refine Wp.reg allGen ?_
      refine Tr.move rfl rfl trivial rfl ?_
      refine Tr.geq rfl rfl (by first | with_reducible assumption | exact decide_eq_true (by omega) | exact decide_eq_false (by omega) | exact beq_iff_eq.2 (by omega) | exact beq_eq_false_iff_ne.2 (by omega) | exact bne_iff_ne.2 (by omega) | rfl) rfl trivial rfl ?_
      refine Tr.nil ?_ (fun _ => rfl) (List.Perm.refl _)
      refine Wp.condT rfl ?_
      refine Wp.skip ?_
      refine Wp.seq ?_
      refine Wp.block ?_
      refine Wp.seq ?_
      refine Wp.reg allGen ?_
      refine Tr.move rfl rfl trivial rfl ?_
      refine Tr.move rfl rfl trivial rfl ?_
      refine Tr.add rfl rfl (by first | exact wrap_i64 (by omega) (by omega) | rfl) rfl trivial rfl ?_
      refine Tr.assign rfl rfl trivial rfl ?_
      refine Tr.nil ?_ (fun _ => rfl) (List.Perm.refl _)
      refine Wp.seq ?_
      refine Wp.reg allGen ?_
      refine Tr.move rfl rfl trivial rfl ?_
      refine Tr.move rfl rfl trivial rfl ?_
      refine Tr.move rfl rfl trivial rfl ?_
      refine Tr.call rfl hab (by repeat (first | exact Has.nil | refine Has.cons (by repeat (first | exact .head _ | refine .tail _ ?_ | refine List.mem_append_right _ ?_)) ?_)) rfl trivial rfl ?_
      refine Tr.not rfl rfl rfl trivial rfl ?_
      refine Tr.nil ?_ (fun _ => rfl) (List.Perm.refl _)
      refine Wp.condF rfl ?_
      refine Wp.skip ?_
      refine Wp.reg allGen ?_
      refine Tr.move rfl rfl trivial rfl ?_
      refine Tr.quo rfl rfl (by omega) hq rfl trivial rfl ?_
      refine Tr.assign rfl rfl trivial rfl ?_
      refine Tr.nil ?_ (fun _ => rfl) (List.Perm.refl _)
      exact WpL.weak ih1 (Wk.mk (by repeat (first | exact ESub.nil | refine ESub.cons rfl (by first | rfl | (simp; done) | (simp; omega)) ?_)) (by repeat (first | exact MSub.nil | refine MSub.cons (by repeat (first | exact .here | apply Pick.there | apply Pick.append)) (by first | rfl | (simp; done)) ?_)))
    · rw [if_neg hc]
      rw [decide_eq_false hc] at hab
      generalize (2 : Nat) ^ f = B at *
      refine WpL.step ?_
      refine Wp.seq ?_
      refine Wp.seq ?_
      refine Wp.reg allGen ?_
      refine Tr.move rfl rfl trivial rfl ?_
      refine Tr.geq rfl rfl (by first | with_reducible assumption | exact decide_eq_true (by omega) | exact decide_eq_false (by omega) | exact beq_iff_eq.2 (by omega) | exact beq_eq_false_iff_ne.2 (by omega) | exact bne_iff_ne.2 (by omega) | rfl) rfl trivial rfl ?_
      refine Tr.nil ?_ (fun _ => rfl) (List.Perm.refl _)
      refine Wp.condT rfl ?_
      refine Wp.skip ?_
      refine Wp.seq ?_
      refine Wp.block ?_
      refine Wp.seq ?_
      refine Wp.reg allGen ?_
      refine Tr.move rfl rfl trivial rfl ?_
      refine Tr.move rfl rfl trivial rfl ?_
      refine Tr.add rfl rfl (by first | exact wrap_i64 (by omega) (by omega) | rfl) rfl trivial rfl ?_
      refine Tr.assign rfl rfl trivial rfl ?_
      refine Tr.nil ?_ (fun _ => rfl) (List.Perm.refl _)
      refine Wp.seq ?_
      refine Wp.reg allGen ?_
      refine Tr.move rfl rfl trivial rfl ?_
      refine Tr.move rfl rfl trivial rfl ?_
      refine Tr.move rfl rfl trivial rfl ?_
      refine Tr.call rfl hab (by repeat (first | exact Has.nil | refine Has.cons (by repeat (first | exact .head _ | refine .tail _ ?_ | refine List.mem_append_right _ ?_)) ?_)) rfl trivial rfl ?_
      refine Tr.not rfl rfl rfl trivial rfl ?_
      refine Tr.nil ?_ (fun _ => rfl) (List.Perm.refl _)
      refine Wp.condT rfl ?_
      refine Wp.reg allGen ?_
      refine Tr.move rfl rfl trivial rfl ?_
      refine Tr.assign rfl rfl trivial rfl ?_
      refine Tr.nil ?_ (fun _ => rfl) (List.Perm.refl _)
      refine Wp.reg allGen ?_
      refine Tr.move rfl rfl trivial rfl ?_
      refine Tr.quo rfl rfl (by omega) hq rfl trivial rfl ?_
      refine Tr.assign rfl rfl trivial rfl ?_
      refine Tr.nil ?_ (fun _ => rfl) (List.Perm.refl _)
      exact WpL.weak ih2 (Wk.mk (by repeat (first | exact ESub.nil | refine ESub.cons rfl (by first | rfl | (simp; done) | (simp; omega)) ?_)) (by repeat (first | exact MSub.nil | refine MSub.cons (by repeat (first | exact .here | apply Pick.there | apply Pick.append)) (by first | rfl | (simp; done)) ?_)))

def fracS (p pw : Nat) : Nat := fracL p pw 39 0 % 4294967296

theorem f68_frac (p pw : Nat) (hpw : pw ≤ 3) (hp : p < 65536) : FnR Try.prog 68 [i64 (p : Int), i64 (pw : Int)] [] (i64 ((fracS p pw : Nat) : Int)) := by
  have hr : ((fracL p pw 39 0 : Nat) : Int).tmod 4294967296 = ((fracS p pw : Nat) : Int) := tmodN _ 4294967296
  generalize fracS p pw = z at *
  refine fnR_of 23 rfl Try.func68 rfl (by kernel_rfl) rfl (by simp) fun w => ?_
  refine Wp.seq ?_
  refine Wp.reg allGen ?_
  refine Tr.assign rfl rfl trivial rfl ?_
  refine Tr.nil ?_ (fun _ => rfl) (List.Perm.refl _)
  refine Wp.seq ?_
  refine Wp.reg allGen ?_
  refine Tr.assign rfl rfl trivial rfl ?_
  refine Tr.nil ?_ (fun _ => rfl) (List.Perm.refl _)
  refine Wp.seq ?_
  refine Wp.seq ?_
  refine Wp.reg allGen ?_
  refine Tr.assign rfl rfl trivial rfl ?_
  refine Tr.nil ?_ (fun _ => rfl) (List.Perm.refl _)
  refine Wp.block ?_
  refine Wp.loopQ (frac_loop rfl p pw hpw hp 39 0 (by omega) (by omega)) (Wk.mk (by repeat (first | exact ESub.nil | refine ESub.cons rfl (by first | rfl | (simp; done) | (simp; omega)) ?_)) (by repeat (first | exact MSub.nil | refine MSub.cons (by repeat (first | exact .here | apply Pick.there | apply Pick.append)) (by first | rfl | (simp; done)) ?_))) ?_
  rintro _ env1 mem1 ⟨rfl, hk1⟩
  refine Wp.weak ?_ hk1
  refine Wp.seq ?_
  refine Wp.reg allGen ?_
  refine Tr.move rfl rfl trivial rfl ?_
  refine Tr.rem rfl rfl (by omega) hr rfl trivial rfl ?_
  refine Tr.assign rfl rfl trivial rfl ?_
  refine Tr.nil ?_ (fun _ => rfl) (List.Perm.refl _)
  refine Wp.ret ?_
  refine ⟨by first | exact .inl rfl | exact .inr rfl, ?_⟩
  exact .r1 rfl (RvIs.tmp rfl)
end Go.Proofs.Ytffghaeaohabhaa.AW
