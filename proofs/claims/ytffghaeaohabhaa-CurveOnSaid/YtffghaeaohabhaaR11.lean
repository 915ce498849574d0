import Derived.Test.YtffghaeaohabhaaR10
namespace Go.Proofs.Ytffghaeaohabhaa.AW
open Go NT
set_option maxRecDepth 100000

theorem ofNat_val (x : Nat) : (UInt8.ofNat x).toNat = x % 256 := UInt8.toNat_ofNat'
theorem u8s_snoc (O : List UInt8) (x : UInt8) : u8s (O ++ [x]) = u8s O ++ [u8 x] := List.map_append (f := u8)
theorem n8_snoc (O : List UInt8) (x : UInt8) : n8 (O ++ [x]) = n8 O + 256 ^ O.length * x.toNat := by
  rw [n8_app]; simp only [n8, Nat.mul_zero, Nat.add_zero]
theorem dg_next (A i : Nat) : A / 256 ^ i = dg A i + 256 * (A / 256 ^ (i + 1)) := by
  unfold dg
  rw [Nat.pow_succ, ← Nat.div_div_eq_div_mul]
  omega

theorem add_step {A B S i c x : Nat} {O : List UInt8} (hl : O.length = i) (h : n8 O + 256 ^ i * (c + A / 256 ^ i + B / 256 ^ i) = S) (hx : x = dg A i + dg B i + c) :
    n8 (O ++ [UInt8.ofNat x]) + 256 ^ (i + 1) * (x / 256 + A / 256 ^ (i + 1) + B / 256 ^ (i + 1)) = S := by
  rw [n8_snoc, hl, ofNat_val, ← h, dg_next A i, dg_next B i, Nat.pow_succ, Nat.mul_assoc, Nat.add_assoc, ← Nat.mul_add]
  congr 2
  omega

theorem dg_out {A : List UInt8} {i : Nat} (h : A.length ≤ i) : dg (n8 A) i = 0 := by
  unfold dg
  rw [div_top (n8_lt' A) h]

/-! ### Add -/
def loop126 : Code := (Code.seq (Code.seq (Code.region 4 #[{ dst := (some 9), op := (Op.move (Operand.tmp 7)), type := 3, pos := "ref.go:40", after := #[], guard := none }, { dst := (some 10), op := (Op.move (Operand.tmp 0)), type := 36, pos := "ref.go:40", after := #[], guard := none }, { dst := (some 11), op := (Op.call { callee := (Callee.builtin Builtin.len), args := #[(Operand.tmp 10)], argTypes := #[36] }), type := 3, pos := "ref.go:40", after := #[{ on := 1, ground := Ground.data }], guard := none }, { dst := (some 12), op := (Op.binOp BinOp.lss 3 (Operand.tmp 9) (Operand.tmp 11) 3), type := 4, pos := "ref.go:40", after := #[{ on := 0, ground := Ground.data }, { on := 2, ground := Ground.data }], guard := none }, { dst := (some 13), op := (Op.move (Operand.tmp 12)), type := 4, pos := "ref.go:40", after := #[{ on := 3, ground := Ground.data }], guard := none }, { dst := (some 14), op := (Op.move (Operand.tmp 7)), type := 3, pos := "ref.go:40", after := #[{ on := 4, ground := Ground.guard }], guard := (some (4, false)) }, { dst := (some 15), op := (Op.move (Operand.tmp 1)), type := 36, pos := "ref.go:40", after := #[{ on := 4, ground := Ground.guard }], guard := (some (4, false)) }, { dst := (some 16), op := (Op.call { callee := (Callee.builtin Builtin.len), args := #[(Operand.tmp 15)], argTypes := #[36] }), type := 3, pos := "ref.go:40", after := #[{ on := 6, ground := Ground.data }, { on := 4, ground := Ground.guard }], guard := (some (4, false)) }, { dst := (some 17), op := (Op.binOp BinOp.lss 3 (Operand.tmp 14) (Operand.tmp 16) 3), type := 4, pos := "ref.go:40", after := #[{ on := 5, ground := Ground.data }, { on := 7, ground := Ground.data }, { on := 4, ground := Ground.guard }], guard := (some (4, false)) }, { dst := (some 18), op := (Op.pick (Operand.tmp 13) (Operand.const (Value.bool true)) (Operand.tmp 17)), type := 4, pos := "ref.go:40", after := #[{ on := 4, ground := Ground.data }, { on := 8, ground := Ground.data }], guard := none }, { dst := (some 19), op := (Op.move (Operand.tmp 18)), type := 4, pos := "ref.go:40", after := #[{ on := 9, ground := Ground.data }, { on := 4, ground := Ground.chain }], guard := none }, { dst := (some 20), op := (Op.move (Operand.tmp 6)), type := 3, pos := "ref.go:40", after := #[{ on := 10, ground := Ground.guard }], guard := (some (10, false)) }, { dst := (some 21), op := (Op.binOp BinOp.gtr 3 (Operand.tmp 20) (Operand.const (Value.int IntKind.i64 0)) 3), type := 4, pos := "ref.go:40", after := #[{ on := 11, ground := Ground.data }, { on := 10, ground := Ground.guard }], guard := (some (10, false)) }, { dst := (some 22), op := (Op.pick (Operand.tmp 19) (Operand.const (Value.bool true)) (Operand.tmp 21)), type := 4, pos := "ref.go:40", after := #[{ on := 10, ground := Ground.data }, { on := 12, ground := Ground.data }], guard := none }] false) (Code.cond (Operand.tmp 22) Code.skip (Code.exit 0))) (Code.seq (Code.block 1 (Code.seq (Code.region 6 #[{ dst := (some 25), op := (Op.move (Operand.tmp 0)), type := 36, pos := "ref.go:41", after := #[], guard := none }, { dst := (some 26), op := (Op.move (Operand.tmp 7)), type := 3, pos := "ref.go:41", after := #[], guard := none }, { dst := (some 27), op := (Op.call { callee := (Callee.value (Operand.func 151)), args := #[(Operand.tmp 25), (Operand.tmp 26)], argTypes := #[36, 3] }), type := 3, pos := "ref.go:41", after := #[{ on := 0, ground := Ground.data }, { on := 1, ground := Ground.data }], guard := none }, { dst := (some 28), op := (Op.move (Operand.tmp 1)), type := 36, pos := "ref.go:41", after := #[], guard := none }, { dst := (some 29), op := (Op.move (Operand.tmp 7)), type := 3, pos := "ref.go:41", after := #[], guard := none }, { dst := (some 30), op := (Op.call { callee := (Callee.value (Operand.func 151)), args := #[(Operand.tmp 28), (Operand.tmp 29)], argTypes := #[36, 3] }), type := 3, pos := "ref.go:41", after := #[{ on := 3, ground := Ground.data }, { on := 4, ground := Ground.data }, { on := 2, ground := Ground.chain }], guard := none }, { dst := (some 31), op := (Op.binOp BinOp.add 3 (Operand.tmp 27) (Operand.tmp 30) 3), type := 3, pos := "ref.go:41", after := #[{ on := 2, ground := Ground.data }, { on := 5, ground := Ground.data }], guard := none }, { dst := (some 32), op := (Op.move (Operand.tmp 6)), type := 3, pos := "ref.go:41", after := #[], guard := none }, { dst := (some 33), op := (Op.binOp BinOp.add 3 (Operand.tmp 31) (Operand.tmp 32) 3), type := 3, pos := "ref.go:41", after := #[{ on := 6, ground := Ground.data }, { on := 7, ground := Ground.data }], guard := none }, { dst := (some 8), op := (Op.assign (Operand.tmp 33)), type := 3, pos := "ref.go:41", after := #[{ on := 8, ground := Ground.data }, { on := 5, ground := Ground.chain }, { on := 0, ground := Ground.phase }, { on := 1, ground := Ground.phase }, { on := 2, ground := Ground.phase }, { on := 3, ground := Ground.phase }, { on := 4, ground := Ground.phase }, { on := 5, ground := Ground.phase }, { on := 6, ground := Ground.phase }, { on := 7, ground := Ground.phase }, { on := 8, ground := Ground.phase }], guard := none }] false) (Code.seq (Code.region 7 #[{ dst := (some 34), op := (Op.move (Operand.tmp 5)), type := 36, pos := "ref.go:42", after := #[], guard := none }, { dst := (some 35), op := (Op.move (Operand.tmp 8)), type := 3, pos := "ref.go:42", after := #[], guard := none }, { dst := (some 36), op := (Op.binOp BinOp.rem 3 (Operand.tmp 35) (Operand.const (Value.int IntKind.i64 256)) 3), type := 3, pos := "ref.go:42", after := #[{ on := 1, ground := Ground.data }], guard := none }, { dst := (some 37), op := (Op.convert 3 5 (Operand.tmp 36)), type := 5, pos := "ref.go:42", after := #[{ on := 2, ground := Ground.data }], guard := none }, { dst := (some 38), op := (Op.buildSlice 36 1 #[(0, (Operand.tmp 37))]), type := 36, pos := "ref.go:42", after := #[{ on := 3, ground := Ground.data }], guard := none }, { dst := (some 39), op := (Op.call { callee := (Callee.builtin Builtin.append), args := #[(Operand.tmp 34), (Operand.tmp 38)], argTypes := #[36, 36] }), type := 36, pos := "ref.go:42", after := #[{ on := 0, ground := Ground.data }, { on := 4, ground := Ground.data }], guard := none }, { dst := (some 5), op := (Op.assign (Operand.tmp 39)), type := 36, pos := "ref.go:42", after := #[{ on := 5, ground := Ground.data }, { on := 5, ground := Ground.chain }, { on := 0, ground := Ground.phase }, { on := 1, ground := Ground.phase }, { on := 2, ground := Ground.phase }, { on := 3, ground := Ground.phase }, { on := 4, ground := Ground.phase }, { on := 5, ground := Ground.phase }], guard := none }] false) (Code.region 8 #[{ dst := (some 40), op := (Op.move (Operand.tmp 8)), type := 3, pos := "ref.go:43", after := #[], guard := none }, { dst := (some 41), op := (Op.binOp BinOp.quo 3 (Operand.tmp 40) (Operand.const (Value.int IntKind.i64 256)) 3), type := 3, pos := "ref.go:43", after := #[{ on := 0, ground := Ground.data }], guard := none }, { dst := (some 6), op := (Op.assign (Operand.tmp 41)), type := 3, pos := "ref.go:43", after := #[{ on := 1, ground := Ground.data }, { on := 0, ground := Ground.phase }, { on := 1, ground := Ground.phase }], guard := none }] false)))) (Code.region 5 #[{ dst := (some 23), op := (Op.move (Operand.tmp 7)), type := 3, pos := "ref.go:40", after := #[], guard := none }, { dst := (some 24), op := (Op.binOp BinOp.add 3 (Operand.tmp 23) (Operand.const (Value.int IntKind.i64 1)) 3), type := 3, pos := "ref.go:40", after := #[{ on := 0, ground := Ground.data }], guard := none }, { dst := (some 7), op := (Op.assign (Operand.tmp 24)), type := 3, pos := "ref.go:40", after := #[{ on := 1, ground := Ground.data }, { on := 0, ground := Ground.phase }, { on := 1, ground := Ground.phase }], guard := none }] false)))

section
variable (a0 : Option Addr) (A : List UInt8) (ca : Nat) (b0 : Option Addr) (B : List UInt8) (cb : Nat) (rd : List Ent) (hra : Row a0 A ca rd) (hrb : Row b0 B cb rd) (hrd : ∀ e, e ∈ rd → e.rw = false) (hA : A.length ≤ 100000) (hB : B.length ≤ 100000)

include hra hrb hrd hA hB in
theorem add_loop {g : Gh} (hg : g.n = 44) (N : Nat) (hN : N = max A.length B.length) : ∀ (r i : Nat), i + r = N + 1 → ∀ (c : Nat) (O : List UInt8) (v : Value) (es : List Ent), c ≤ 1 → (i = N + 1 → c = 0) → O.length = i →
    n8 O + 256 ^ i * (c + n8 A / 256 ^ i + n8 B / 256 ^ i) = n8 A + n8 B → Fresh (u8s O) v es →
    WpL Try.prog g loop126 (fun e env mem => e = .exit 0 ∧ ∃ O v es, n8 O = n8 A + n8 B ∧ O.length ≤ 1000000 ∧ Fresh (u8s O) v es ∧ Wk g env mem [(5, v)] es)
      [(0, .slice a0 A.length ca), (1, .slice b0 B.length cb), (5, v), (6, i64 c), (7, i64 i)] (es ++ rd) := by
  obtain ⟨gn, w0, may⟩ := g
  obtain rfl : gn = 44 := hg
  have hlA := n8_lt' A
  have hlB := n8_lt' B
  have hend : ∀ i c (O : List UInt8), A.length ≤ i → B.length ≤ i → c = 0 → n8 O + 256 ^ i * (c + n8 A / 256 ^ i + n8 B / 256 ^ i) = n8 A + n8 B → n8 O = n8 A + n8 B := fun i c O h1 h2 h3 h => by
    rw [div_top hlA h1, div_top hlB h2, h3] at h
    simpa using h
  intro r
  induction r with
  | zero =>
    intro i hi c O v es hc hc0 hO hs hf
    have hc' := hc0 (by omega)
    subst hc'
    have hex := hend i 0 O (by omega) (by omega) rfl hs
    refine WpL.step ?_
    refine Wp.seq ?_
    refine Wp.seq ?_
    refine Wp.reg allGen ?_
    refine Tr.move rfl rfl trivial rfl ?_
    refine Tr.move rfl rfl trivial rfl ?_
    refine Tr.lenS tab rfl rfl rfl rfl trivial rfl ?_
    refine Tr.lss rfl rfl (by first | with_reducible assumption | exact decide_eq_true (by omega) | exact decide_eq_false (by omega) | exact beq_iff_eq.2 (by omega) | exact beq_eq_false_iff_ne.2 (by omega) | exact bne_iff_ne.2 (by omega) | rfl) rfl trivial rfl ?_
    refine Tr.move rfl rfl trivial rfl ?_
    first | refine Tr.skp rfl ⟨_, _, rfl, rfl, by first | exact .inl rfl | exact .inr rfl⟩ ?_ | (refine Tr.move rfl rfl ⟨_, rfl, rfl⟩ rfl ?_)
    first | refine Tr.skp rfl ⟨_, _, rfl, rfl, by first | exact .inl rfl | exact .inr rfl⟩ ?_ | (refine Tr.move rfl rfl ⟨_, rfl, rfl⟩ rfl ?_)
    first | refine Tr.skp rfl ⟨_, _, rfl, rfl, by first | exact .inl rfl | exact .inr rfl⟩ ?_ | (refine Tr.lenS tab rfl rfl rfl rfl ⟨_, rfl, rfl⟩ rfl ?_)
    first | refine Tr.skp rfl ⟨_, _, rfl, rfl, by first | exact .inl rfl | exact .inr rfl⟩ ?_ | (refine Tr.lss rfl rfl (by first | with_reducible assumption | exact decide_eq_true (by omega) | exact decide_eq_false (by omega) | exact beq_iff_eq.2 (by omega) | exact beq_eq_false_iff_ne.2 (by omega) | exact bne_iff_ne.2 (by omega) | rfl) rfl ⟨_, rfl, rfl⟩ rfl ?_)
    first | refine Tr.pickT rfl rfl rfl trivial rfl ?_ | refine Tr.pickF rfl rfl rfl trivial rfl ?_
    refine Tr.move rfl rfl trivial rfl ?_
    first | refine Tr.skp rfl ⟨_, _, rfl, rfl, by first | exact .inl rfl | exact .inr rfl⟩ ?_ | (refine Tr.move rfl rfl ⟨_, rfl, rfl⟩ rfl ?_)
    first | refine Tr.skp rfl ⟨_, _, rfl, rfl, by first | exact .inl rfl | exact .inr rfl⟩ ?_ | (refine Tr.gtr rfl rfl (by first | with_reducible assumption | exact decide_eq_true (by omega) | exact decide_eq_false (by omega) | exact beq_iff_eq.2 (by omega) | exact beq_eq_false_iff_ne.2 (by omega) | exact bne_iff_ne.2 (by omega) | rfl) rfl ⟨_, rfl, rfl⟩ rfl ?_)
    first | refine Tr.pickT rfl rfl rfl trivial rfl ?_ | refine Tr.pickF rfl rfl rfl trivial rfl ?_
    refine Tr.nil ?_ (fun _ => rfl) (List.Perm.refl _)
    refine Wp.condF rfl ?_
    refine Wp.exit ?_
    exact ⟨rfl, O, v, es, hex, by omega, hf, ⟨fun a ha => EH.sub (ESub.sub (by repeat (first | exact ESub.nil | refine ESub.cons rfl (by first | rfl | (simp; done) | (simp; omega)) ?_))) a ha, fun w hw => MH.sub (MSub.left es rd) w hw⟩⟩
  | succ r ih =>
    intro i hi c O v es hc hc0 hO hs hf
    have hcA := f151_at a0 A ca rd hra hrd (by omega) i (by omega)
    have hcB := f151_at b0 B cb rd hrb hrd (by omega) i (by omega)
    have hdA := dg_lt (n8 A) i
    have hdB := dg_lt (n8 B) i
    have hst := add_step hO hs rfl
    have hlast : i = N → (dg (n8 A) i + dg (n8 B) i + c) / 256 = 0 := fun h => by
      rw [dg_out (A := A) (by omega), dg_out (A := B) (by omega)]; omega
    have hih := ih (i + 1) (by omega) ((dg (n8 A) i + dg (n8 B) i + c) / 256) (O ++ [UInt8.ofNat (dg (n8 A) i + dg (n8 B) i + c)])
    generalize dg (n8 A) i = x at *
    generalize dg (n8 B) i = y at *
    have hov := ofNat_val (x + y + c)
    have hrm : ((x + y + c : Nat) : Int).tmod 256 = (((UInt8.ofNat (x + y + c)).toNat : Nat) : Int) := by
      rw [hov, Int.tmod_eq_emod_of_nonneg (by omega)]; omega
    have hq : IntKind.i64.wrap (((x + y + c : Nat) : Int).tdiv 256) = (((x + y + c) / 256 : Nat) : Int) := by
      rw [show ((x + y + c : Nat) : Int).tdiv 256 = (((x + y + c) / 256 : Nat) : Int) by rw [Int.tdiv_eq_ediv_of_nonneg (by omega)]; omega]
      exact wrap_i64 (by omega) (by omega)
    have hdl := (UInt8.ofNat (x + y + c)).toNat_lt
    have hgo := fun v' es' (hf' : Fresh (u8s (O ++ [UInt8.ofNat (x + y + c)])) v' es') => hih v' es' (by omega) (fun h => hlast (by omega)) (by simp [hO]) hst hf'
    clear hih
    rw [u8s_snoc] at hgo
    generalize UInt8.ofNat (x + y + c) = dgt at *
    by_cases h1 : i < A.length
    · skip
      refine WpL.step ?_
      refine Wp.seq ?_
      refine Wp.seq ?_
      refine Wp.reg allGen ?_
      refine Tr.move rfl rfl trivial rfl ?_
      refine Tr.move rfl rfl trivial rfl ?_
      refine Tr.lenS tab rfl rfl rfl rfl trivial rfl ?_
      refine Tr.lss rfl rfl (by first | with_reducible assumption | exact decide_eq_true (by omega) | exact decide_eq_false (by omega) | exact beq_iff_eq.2 (by omega) | exact beq_eq_false_iff_ne.2 (by omega) | exact bne_iff_ne.2 (by omega) | rfl) rfl trivial rfl ?_
      refine Tr.move rfl rfl trivial rfl ?_
      first | refine Tr.skp rfl ⟨_, _, rfl, rfl, by first | exact .inl rfl | exact .inr rfl⟩ ?_ | (refine Tr.move rfl rfl ⟨_, rfl, rfl⟩ rfl ?_)
      first | refine Tr.skp rfl ⟨_, _, rfl, rfl, by first | exact .inl rfl | exact .inr rfl⟩ ?_ | (refine Tr.move rfl rfl ⟨_, rfl, rfl⟩ rfl ?_)
      first | refine Tr.skp rfl ⟨_, _, rfl, rfl, by first | exact .inl rfl | exact .inr rfl⟩ ?_ | (refine Tr.lenS tab rfl rfl rfl rfl ⟨_, rfl, rfl⟩ rfl ?_)
      first | refine Tr.skp rfl ⟨_, _, rfl, rfl, by first | exact .inl rfl | exact .inr rfl⟩ ?_ | (refine Tr.lss rfl rfl (by first | with_reducible assumption | exact decide_eq_true (by omega) | exact decide_eq_false (by omega) | exact beq_iff_eq.2 (by omega) | exact beq_eq_false_iff_ne.2 (by omega) | exact bne_iff_ne.2 (by omega) | rfl) rfl ⟨_, rfl, rfl⟩ rfl ?_)
      first | refine Tr.pickT rfl rfl rfl trivial rfl ?_ | refine Tr.pickF rfl rfl rfl trivial rfl ?_
      refine Tr.move rfl rfl trivial rfl ?_
      first | refine Tr.skp rfl ⟨_, _, rfl, rfl, by first | exact .inl rfl | exact .inr rfl⟩ ?_ | (refine Tr.move rfl rfl ⟨_, rfl, rfl⟩ rfl ?_)
      first | refine Tr.skp rfl ⟨_, _, rfl, rfl, by first | exact .inl rfl | exact .inr rfl⟩ ?_ | (refine Tr.gtr rfl rfl (by first | with_reducible assumption | exact decide_eq_true (by omega) | exact decide_eq_false (by omega) | exact beq_iff_eq.2 (by omega) | exact beq_eq_false_iff_ne.2 (by omega) | exact bne_iff_ne.2 (by omega) | rfl) rfl ⟨_, rfl, rfl⟩ rfl ?_)
      first | refine Tr.pickT rfl rfl rfl trivial rfl ?_ | refine Tr.pickF rfl rfl rfl trivial rfl ?_
      refine Tr.nil ?_ (fun _ => rfl) (List.Perm.refl _)
      refine Wp.condT rfl ?_
      refine Wp.skip ?_
      refine Wp.seq ?_
      refine Wp.block ?_
      refine Wp.seq ?_
      refine Wp.reg allGen ?_
      refine Tr.move rfl rfl trivial rfl ?_
      refine Tr.move rfl rfl trivial rfl ?_
      refine Tr.call rfl hcA (Has.sub fun e he => List.mem_append_right _ he) rfl trivial rfl ?_
      refine Tr.move rfl rfl trivial rfl ?_
      refine Tr.move rfl rfl trivial rfl ?_
      refine Tr.call rfl hcB (Has.sub fun e he => List.mem_append_right _ he) rfl trivial rfl ?_
      refine Tr.add rfl rfl (by first | exact wrap_i64 (by omega) (by omega) | rfl) rfl trivial rfl ?_
      refine Tr.move rfl rfl trivial rfl ?_
      refine Tr.add rfl rfl ((wrap_i64 (by omega) (by omega)).trans (show (x : Int) + (y : Int) + (c : Int) = ((x + y + c : Nat) : Int) by omega)) rfl trivial rfl ?_
      refine Tr.assign rfl rfl trivial rfl ?_
      refine Tr.nil ?_ (fun _ => rfl) (List.Perm.refl _)
      refine Wp.seq ?_
      refine Wp.reg allGen ?_
      refine Tr.move rfl rfl trivial rfl ?_
      refine Tr.move rfl rfl trivial rfl ?_
      refine Tr.rem rfl rfl (by omega) hrm rfl trivial rfl ?_
      refine Tr.conv tab rfl rfl rfl rfl (by first | exact wrap_u8 (by omega) (by omega) | rfl) rfl trivial rfl ?_
      refine Tr.buildSlice tab rfl rfl rfl rfl rfl rfl (by simp [fillC, splice, vcells, Value.cells, zrep_one]; rfl) rfl trivial rfl (fun _ _ => ?_)
      refine Tr.appendF tab rfl hf (by repeat (first | exact Take.app _ _ | exact Take.self _ | exact Take.nil | apply Take.skip)) rfl (SrcOf.row (by repeat (first | exact .head _ | refine .tail _ ?_ | refine List.mem_append_right _ ?_)) (by first | exact At.all _ | with_reducible assumption | assumption) (by first | with_reducible rfl | with_reducible assumption | (simp; done) | (simp; omega) | rfl)) (by first | with_reducible exact pc_one _ | with_reducible assumption | exact el_one _ | exact bu_one _ | rfl | (simp [Value.oneCell']; done)) rfl rfl rfl rfl (by simp) (by decide) (by simp; omega) rfl trivial rfl (fun v1 es1 hf1 => ?_)
      refine Tr.assign rfl rfl trivial rfl ?_
      refine Tr.nil ?_ (fun _ => rfl) (List.Perm.refl _)
      refine Wp.reg allGen ?_
      refine Tr.move rfl rfl trivial rfl ?_
      refine Tr.quo rfl rfl (by omega) hq rfl trivial rfl ?_
      refine Tr.assign rfl rfl trivial rfl ?_
      refine Tr.nil ?_ (fun _ => rfl) (List.Perm.refl _)
      refine Wp.reg allGen ?_
      refine Tr.move rfl rfl trivial rfl ?_
      refine Tr.add rfl rfl (by first | exact wrap_i64 (by omega) (by omega) | rfl) rfl trivial rfl ?_
      refine Tr.assign rfl rfl trivial rfl ?_
      refine Tr.nil ?_ (fun _ => rfl) (List.Perm.refl _)
      exact WpL.weak (hgo _ _ hf1) ⟨fun a ha => EH.sub (ESub.sub (by repeat (first | exact ESub.nil | refine ESub.cons rfl (by first | rfl | (simp; done) | (simp; omega)) ?_))) a ha, MH.sub (MSub.app (MSub.drop (MSub.refl _)) _)⟩
    · by_cases h2 : i < B.length
      · skip
        refine WpL.step ?_
        refine Wp.seq ?_
        refine Wp.seq ?_
        refine Wp.reg allGen ?_
        refine Tr.move rfl rfl trivial rfl ?_
        refine Tr.move rfl rfl trivial rfl ?_
        refine Tr.lenS tab rfl rfl rfl rfl trivial rfl ?_
        refine Tr.lss rfl rfl (by first | with_reducible assumption | exact decide_eq_true (by omega) | exact decide_eq_false (by omega) | exact beq_iff_eq.2 (by omega) | exact beq_eq_false_iff_ne.2 (by omega) | exact bne_iff_ne.2 (by omega) | rfl) rfl trivial rfl ?_
        refine Tr.move rfl rfl trivial rfl ?_
        first | refine Tr.skp rfl ⟨_, _, rfl, rfl, by first | exact .inl rfl | exact .inr rfl⟩ ?_ | (refine Tr.move rfl rfl ⟨_, rfl, rfl⟩ rfl ?_)
        first | refine Tr.skp rfl ⟨_, _, rfl, rfl, by first | exact .inl rfl | exact .inr rfl⟩ ?_ | (refine Tr.move rfl rfl ⟨_, rfl, rfl⟩ rfl ?_)
        first | refine Tr.skp rfl ⟨_, _, rfl, rfl, by first | exact .inl rfl | exact .inr rfl⟩ ?_ | (refine Tr.lenS tab rfl rfl rfl rfl ⟨_, rfl, rfl⟩ rfl ?_)
        first | refine Tr.skp rfl ⟨_, _, rfl, rfl, by first | exact .inl rfl | exact .inr rfl⟩ ?_ | (refine Tr.lss rfl rfl (by first | with_reducible assumption | exact decide_eq_true (by omega) | exact decide_eq_false (by omega) | exact beq_iff_eq.2 (by omega) | exact beq_eq_false_iff_ne.2 (by omega) | exact bne_iff_ne.2 (by omega) | rfl) rfl ⟨_, rfl, rfl⟩ rfl ?_)
        first | refine Tr.pickT rfl rfl rfl trivial rfl ?_ | refine Tr.pickF rfl rfl rfl trivial rfl ?_
        refine Tr.move rfl rfl trivial rfl ?_
        first | refine Tr.skp rfl ⟨_, _, rfl, rfl, by first | exact .inl rfl | exact .inr rfl⟩ ?_ | (refine Tr.move rfl rfl ⟨_, rfl, rfl⟩ rfl ?_)
        first | refine Tr.skp rfl ⟨_, _, rfl, rfl, by first | exact .inl rfl | exact .inr rfl⟩ ?_ | (refine Tr.gtr rfl rfl (by first | with_reducible assumption | exact decide_eq_true (by omega) | exact decide_eq_false (by omega) | exact beq_iff_eq.2 (by omega) | exact beq_eq_false_iff_ne.2 (by omega) | exact bne_iff_ne.2 (by omega) | rfl) rfl ⟨_, rfl, rfl⟩ rfl ?_)
        first | refine Tr.pickT rfl rfl rfl trivial rfl ?_ | refine Tr.pickF rfl rfl rfl trivial rfl ?_
        refine Tr.nil ?_ (fun _ => rfl) (List.Perm.refl _)
        refine Wp.condT rfl ?_
        refine Wp.skip ?_
        refine Wp.seq ?_
        refine Wp.block ?_
        refine Wp.seq ?_
        refine Wp.reg allGen ?_
        refine Tr.move rfl rfl trivial rfl ?_
        refine Tr.move rfl rfl trivial rfl ?_
        refine Tr.call rfl hcA (Has.sub fun e he => List.mem_append_right _ he) rfl trivial rfl ?_
        refine Tr.move rfl rfl trivial rfl ?_
        refine Tr.move rfl rfl trivial rfl ?_
        refine Tr.call rfl hcB (Has.sub fun e he => List.mem_append_right _ he) rfl trivial rfl ?_
        refine Tr.add rfl rfl (by first | exact wrap_i64 (by omega) (by omega) | rfl) rfl trivial rfl ?_
        refine Tr.move rfl rfl trivial rfl ?_
        refine Tr.add rfl rfl ((wrap_i64 (by omega) (by omega)).trans (show (x : Int) + (y : Int) + (c : Int) = ((x + y + c : Nat) : Int) by omega)) rfl trivial rfl ?_
        refine Tr.assign rfl rfl trivial rfl ?_
        refine Tr.nil ?_ (fun _ => rfl) (List.Perm.refl _)
        refine Wp.seq ?_
        refine Wp.reg allGen ?_
        refine Tr.move rfl rfl trivial rfl ?_
        refine Tr.move rfl rfl trivial rfl ?_
        refine Tr.rem rfl rfl (by omega) hrm rfl trivial rfl ?_
        refine Tr.conv tab rfl rfl rfl rfl (by first | exact wrap_u8 (by omega) (by omega) | rfl) rfl trivial rfl ?_
        refine Tr.buildSlice tab rfl rfl rfl rfl rfl rfl (by simp [fillC, splice, vcells, Value.cells, zrep_one]; rfl) rfl trivial rfl (fun _ _ => ?_)
        refine Tr.appendF tab rfl hf (by repeat (first | exact Take.app _ _ | exact Take.self _ | exact Take.nil | apply Take.skip)) rfl (SrcOf.row (by repeat (first | exact .head _ | refine .tail _ ?_ | refine List.mem_append_right _ ?_)) (by first | exact At.all _ | with_reducible assumption | assumption) (by first | with_reducible rfl | with_reducible assumption | (simp; done) | (simp; omega) | rfl)) (by first | with_reducible exact pc_one _ | with_reducible assumption | exact el_one _ | exact bu_one _ | rfl | (simp [Value.oneCell']; done)) rfl rfl rfl rfl (by simp) (by decide) (by simp; omega) rfl trivial rfl (fun v1 es1 hf1 => ?_)
        refine Tr.assign rfl rfl trivial rfl ?_
        refine Tr.nil ?_ (fun _ => rfl) (List.Perm.refl _)
        refine Wp.reg allGen ?_
        refine Tr.move rfl rfl trivial rfl ?_
        refine Tr.quo rfl rfl (by omega) hq rfl trivial rfl ?_
        refine Tr.assign rfl rfl trivial rfl ?_
        refine Tr.nil ?_ (fun _ => rfl) (List.Perm.refl _)
        refine Wp.reg allGen ?_
        refine Tr.move rfl rfl trivial rfl ?_
        refine Tr.add rfl rfl (by first | exact wrap_i64 (by omega) (by omega) | rfl) rfl trivial rfl ?_
        refine Tr.assign rfl rfl trivial rfl ?_
        refine Tr.nil ?_ (fun _ => rfl) (List.Perm.refl _)
        exact WpL.weak (hgo _ _ hf1) ⟨fun a ha => EH.sub (ESub.sub (by repeat (first | exact ESub.nil | refine ESub.cons rfl (by first | rfl | (simp; done) | (simp; omega)) ?_))) a ha, MH.sub (MSub.app (MSub.drop (MSub.refl _)) _)⟩
      · by_cases h3 : 0 < c
        · skip
          refine WpL.step ?_
          refine Wp.seq ?_
          refine Wp.seq ?_
          refine Wp.reg allGen ?_
          refine Tr.move rfl rfl trivial rfl ?_
          refine Tr.move rfl rfl trivial rfl ?_
          refine Tr.lenS tab rfl rfl rfl rfl trivial rfl ?_
          refine Tr.lss rfl rfl (by first | with_reducible assumption | exact decide_eq_true (by omega) | exact decide_eq_false (by omega) | exact beq_iff_eq.2 (by omega) | exact beq_eq_false_iff_ne.2 (by omega) | exact bne_iff_ne.2 (by omega) | rfl) rfl trivial rfl ?_
          refine Tr.move rfl rfl trivial rfl ?_
          first | refine Tr.skp rfl ⟨_, _, rfl, rfl, by first | exact .inl rfl | exact .inr rfl⟩ ?_ | (refine Tr.move rfl rfl ⟨_, rfl, rfl⟩ rfl ?_)
          first | refine Tr.skp rfl ⟨_, _, rfl, rfl, by first | exact .inl rfl | exact .inr rfl⟩ ?_ | (refine Tr.move rfl rfl ⟨_, rfl, rfl⟩ rfl ?_)
          first | refine Tr.skp rfl ⟨_, _, rfl, rfl, by first | exact .inl rfl | exact .inr rfl⟩ ?_ | (refine Tr.lenS tab rfl rfl rfl rfl ⟨_, rfl, rfl⟩ rfl ?_)
          first | refine Tr.skp rfl ⟨_, _, rfl, rfl, by first | exact .inl rfl | exact .inr rfl⟩ ?_ | (refine Tr.lss rfl rfl (by first | with_reducible assumption | exact decide_eq_true (by omega) | exact decide_eq_false (by omega) | exact beq_iff_eq.2 (by omega) | exact beq_eq_false_iff_ne.2 (by omega) | exact bne_iff_ne.2 (by omega) | rfl) rfl ⟨_, rfl, rfl⟩ rfl ?_)
          first | refine Tr.pickT rfl rfl rfl trivial rfl ?_ | refine Tr.pickF rfl rfl rfl trivial rfl ?_
          refine Tr.move rfl rfl trivial rfl ?_
          first | refine Tr.skp rfl ⟨_, _, rfl, rfl, by first | exact .inl rfl | exact .inr rfl⟩ ?_ | (refine Tr.move rfl rfl ⟨_, rfl, rfl⟩ rfl ?_)
          first | refine Tr.skp rfl ⟨_, _, rfl, rfl, by first | exact .inl rfl | exact .inr rfl⟩ ?_ | (refine Tr.gtr rfl rfl (by first | with_reducible assumption | exact decide_eq_true (by omega) | exact decide_eq_false (by omega) | exact beq_iff_eq.2 (by omega) | exact beq_eq_false_iff_ne.2 (by omega) | exact bne_iff_ne.2 (by omega) | rfl) rfl ⟨_, rfl, rfl⟩ rfl ?_)
          first | refine Tr.pickT rfl rfl rfl trivial rfl ?_ | refine Tr.pickF rfl rfl rfl trivial rfl ?_
          refine Tr.nil ?_ (fun _ => rfl) (List.Perm.refl _)
          refine Wp.condT rfl ?_
          refine Wp.skip ?_
          refine Wp.seq ?_
          refine Wp.block ?_
          refine Wp.seq ?_
          refine Wp.reg allGen ?_
          refine Tr.move rfl rfl trivial rfl ?_
          refine Tr.move rfl rfl trivial rfl ?_
          refine Tr.call rfl hcA (Has.sub fun e he => List.mem_append_right _ he) rfl trivial rfl ?_
          refine Tr.move rfl rfl trivial rfl ?_
          refine Tr.move rfl rfl trivial rfl ?_
          refine Tr.call rfl hcB (Has.sub fun e he => List.mem_append_right _ he) rfl trivial rfl ?_
          refine Tr.add rfl rfl (by first | exact wrap_i64 (by omega) (by omega) | rfl) rfl trivial rfl ?_
          refine Tr.move rfl rfl trivial rfl ?_
          refine Tr.add rfl rfl ((wrap_i64 (by omega) (by omega)).trans (show (x : Int) + (y : Int) + (c : Int) = ((x + y + c : Nat) : Int) by omega)) rfl trivial rfl ?_
          refine Tr.assign rfl rfl trivial rfl ?_
          refine Tr.nil ?_ (fun _ => rfl) (List.Perm.refl _)
          refine Wp.seq ?_
          refine Wp.reg allGen ?_
          refine Tr.move rfl rfl trivial rfl ?_
          refine Tr.move rfl rfl trivial rfl ?_
          refine Tr.rem rfl rfl (by omega) hrm rfl trivial rfl ?_
          refine Tr.conv tab rfl rfl rfl rfl (by first | exact wrap_u8 (by omega) (by omega) | rfl) rfl trivial rfl ?_
          refine Tr.buildSlice tab rfl rfl rfl rfl rfl rfl (by simp [fillC, splice, vcells, Value.cells, zrep_one]; rfl) rfl trivial rfl (fun _ _ => ?_)
          refine Tr.appendF tab rfl hf (by repeat (first | exact Take.app _ _ | exact Take.self _ | exact Take.nil | apply Take.skip)) rfl (SrcOf.row (by repeat (first | exact .head _ | refine .tail _ ?_ | refine List.mem_append_right _ ?_)) (by first | exact At.all _ | with_reducible assumption | assumption) (by first | with_reducible rfl | with_reducible assumption | (simp; done) | (simp; omega) | rfl)) (by first | with_reducible exact pc_one _ | with_reducible assumption | exact el_one _ | exact bu_one _ | rfl | (simp [Value.oneCell']; done)) rfl rfl rfl rfl (by simp) (by decide) (by simp; omega) rfl trivial rfl (fun v1 es1 hf1 => ?_)
          refine Tr.assign rfl rfl trivial rfl ?_
          refine Tr.nil ?_ (fun _ => rfl) (List.Perm.refl _)
          refine Wp.reg allGen ?_
          refine Tr.move rfl rfl trivial rfl ?_
          refine Tr.quo rfl rfl (by omega) hq rfl trivial rfl ?_
          refine Tr.assign rfl rfl trivial rfl ?_
          refine Tr.nil ?_ (fun _ => rfl) (List.Perm.refl _)
          refine Wp.reg allGen ?_
          refine Tr.move rfl rfl trivial rfl ?_
          refine Tr.add rfl rfl (by first | exact wrap_i64 (by omega) (by omega) | rfl) rfl trivial rfl ?_
          refine Tr.assign rfl rfl trivial rfl ?_
          refine Tr.nil ?_ (fun _ => rfl) (List.Perm.refl _)
          exact WpL.weak (hgo _ _ hf1) ⟨fun a ha => EH.sub (ESub.sub (by repeat (first | exact ESub.nil | refine ESub.cons rfl (by first | rfl | (simp; done) | (simp; omega)) ?_))) a ha, MH.sub (MSub.app (MSub.drop (MSub.refl _)) _)⟩
        · have hex := hend i c O (by omega) (by omega) (by omega) hs
          refine WpL.step ?_
          refine Wp.seq ?_
          refine Wp.seq ?_
          refine Wp.reg allGen ?_
          refine Tr.move rfl rfl trivial rfl ?_
          refine Tr.move rfl rfl trivial rfl ?_
          refine Tr.lenS tab rfl rfl rfl rfl trivial rfl ?_
          refine Tr.lss rfl rfl (by first | with_reducible assumption | exact decide_eq_true (by omega) | exact decide_eq_false (by omega) | exact beq_iff_eq.2 (by omega) | exact beq_eq_false_iff_ne.2 (by omega) | exact bne_iff_ne.2 (by omega) | rfl) rfl trivial rfl ?_
          refine Tr.move rfl rfl trivial rfl ?_
          first | refine Tr.skp rfl ⟨_, _, rfl, rfl, by first | exact .inl rfl | exact .inr rfl⟩ ?_ | (refine Tr.move rfl rfl ⟨_, rfl, rfl⟩ rfl ?_)
          first | refine Tr.skp rfl ⟨_, _, rfl, rfl, by first | exact .inl rfl | exact .inr rfl⟩ ?_ | (refine Tr.move rfl rfl ⟨_, rfl, rfl⟩ rfl ?_)
          first | refine Tr.skp rfl ⟨_, _, rfl, rfl, by first | exact .inl rfl | exact .inr rfl⟩ ?_ | (refine Tr.lenS tab rfl rfl rfl rfl ⟨_, rfl, rfl⟩ rfl ?_)
          first | refine Tr.skp rfl ⟨_, _, rfl, rfl, by first | exact .inl rfl | exact .inr rfl⟩ ?_ | (refine Tr.lss rfl rfl (by first | with_reducible assumption | exact decide_eq_true (by omega) | exact decide_eq_false (by omega) | exact beq_iff_eq.2 (by omega) | exact beq_eq_false_iff_ne.2 (by omega) | exact bne_iff_ne.2 (by omega) | rfl) rfl ⟨_, rfl, rfl⟩ rfl ?_)
          first | refine Tr.pickT rfl rfl rfl trivial rfl ?_ | refine Tr.pickF rfl rfl rfl trivial rfl ?_
          refine Tr.move rfl rfl trivial rfl ?_
          first | refine Tr.skp rfl ⟨_, _, rfl, rfl, by first | exact .inl rfl | exact .inr rfl⟩ ?_ | (refine Tr.move rfl rfl ⟨_, rfl, rfl⟩ rfl ?_)
          first | refine Tr.skp rfl ⟨_, _, rfl, rfl, by first | exact .inl rfl | exact .inr rfl⟩ ?_ | (refine Tr.gtr rfl rfl (by first | with_reducible assumption | exact decide_eq_true (by omega) | exact decide_eq_false (by omega) | exact beq_iff_eq.2 (by omega) | exact beq_eq_false_iff_ne.2 (by omega) | exact bne_iff_ne.2 (by omega) | rfl) rfl ⟨_, rfl, rfl⟩ rfl ?_)
          first | refine Tr.pickT rfl rfl rfl trivial rfl ?_ | refine Tr.pickF rfl rfl rfl trivial rfl ?_
          refine Tr.nil ?_ (fun _ => rfl) (List.Perm.refl _)
          refine Wp.condF rfl ?_
          refine Wp.exit ?_
          exact ⟨rfl, O, v, es, hex, by omega, hf, ⟨fun a ha => EH.sub (ESub.sub (by repeat (first | exact ESub.nil | refine ESub.cons rfl (by first | rfl | (simp; done) | (simp; omega)) ?_))) a ha, fun w hw => MH.sub (MSub.left es rd) w hw⟩⟩

include hra hrb hrd hA hB in
theorem f126_add : FnG Try.prog 126 [.slice a0 A.length ca, .slice b0 B.length cb] rd (fun v es => Fresh (u8s (nat8 (n8 A + n8 B))) v es) := by
  have hl := fun {g : Gh} (hg : g.n = 44) => add_loop a0 A ca b0 B cb rd hra hrb hrd hA hB hg (max A.length B.length) rfl (max A.length B.length + 1) 0 (by omega) 0 [] (.slice none 0 0) [] (by omega) (fun _ => rfl) rfl (by simp [n8]) Fresh.nil
  generalize n8 A + n8 B = S at *
  refine fnG_of 44 rfl Try.func126 rfl (by kernel_rfl) rfl hrd fun w => ?_
  refine Wp.seq ?_
  refine Wp.reg allGen ?_
  refine Tr.assign rfl rfl trivial rfl ?_
  refine Tr.nil ?_ (fun _ => rfl) (List.Perm.refl _)
  refine Wp.seq ?_
  refine Wp.reg allGen ?_
  refine Tr.assign rfl rfl trivial rfl ?_
  refine Tr.nil ?_ (fun _ => rfl) (List.Perm.refl _)
  refine Wp.seq ?_
  refine Wp.reg allGen ?_
  refine Tr.assign rfl rfl trivial rfl ?_
  refine Tr.nil ?_ (fun _ => rfl) (List.Perm.refl _)
  refine Wp.seq ?_
  refine Wp.seq ?_
  refine Wp.reg allGen ?_
  refine Tr.assign rfl rfl trivial rfl ?_
  refine Tr.nil ?_ (fun _ => rfl) (List.Perm.refl _)
  refine Wp.block ?_
  refine Wp.loopQ (hl rfl) (Wk.mk (by repeat (first | exact ESub.nil | refine ESub.cons rfl (by first | rfl | (simp; done) | (simp; omega)) ?_)) (MSub.refl _)) ?_
  rintro _ env1 mem1 ⟨rfl, O, v, es, hO, hOl, hf, hw1⟩
  refine Wp.weak ?_ hw1
  obtain ⟨ao, co, rfl, hro⟩ := hf.toRow
  have hn := f152_norm ao O co (ro es) hro (ro_rw es) hOl
  rw [hO] at hn
  refine Wp.seq ?_
  refine Wp.reg allGen ?_
  refine Tr.move rfl rfl trivial rfl ?_
  refine Tr.callG rfl hn (Has.ro fun e he => he) rfl trivial rfl ?_
  intro v1 es1 hf1
  refine Tr.assign rfl rfl trivial rfl ?_
  refine Tr.nil ?_ (fun _ => rfl) (List.Perm.refl _)
  refine Wp.ret ?_
  exact ⟨.inr rfl, v1, es1, hf1, .r1 rfl (RvIs.tmp rfl), MSub.left _ _, hf1.rw⟩
end
end Go.Proofs.Ytffghaeaohabhaa.AW
