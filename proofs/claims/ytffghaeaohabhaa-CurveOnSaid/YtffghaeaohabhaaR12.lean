import Derived.Test.YtffghaeaohabhaaR11
namespace Go.Proofs.Ytffghaeaohabhaa.AW
open Go NT
set_option maxRecDepth 100000

theorem sub_alg {o D q x y c d a b e : Nat} (h : o + q * (x + 256 * a) = D + q * (c + (y + 256 * b))) (hd : d + c + y = x + 256 * e) : o + q * d + q * (256 * a) = D + q * (256 * (e + b)) := by
  have h2 : q * (d + c + y) = q * (x + 256 * e) := by rw [hd]
  simp only [Nat.mul_add, Nat.mul_left_comm q 256] at h h2 ⊢
  omega

theorem sub_step {A B D i c d e : Nat} {O : List UInt8} (hl : O.length = i) (h : n8 O + 256 ^ i * (A / 256 ^ i) = D + 256 ^ i * (c + B / 256 ^ i)) (hd : d + c + dg B i = dg A i + 256 * e) (hd8 : d < 256) :
    n8 (O ++ [UInt8.ofNat d]) + 256 ^ (i + 1) * (A / 256 ^ (i + 1)) = D + 256 ^ (i + 1) * (e + B / 256 ^ (i + 1)) := by
  rw [n8_snoc, hl, ofNat_val, Nat.mod_eq_of_lt hd8]
  rw [dg_next A i, dg_next B i] at h
  have := sub_alg h hd
  rw [Nat.pow_succ, Nat.mul_assoc, Nat.mul_assoc]
  rw [Nat.pow_succ] at this
  exact this

theorem cmpN_neg {a b : Nat} (h : a < b) : cmpN a b = -1 := by unfold cmpN; rw [if_pos h]
theorem cmpN_geq {a b : Nat} (h : b ≤ a) : 0 ≤ cmpN a b ∧ cmpN a b ≤ 1 := by
  unfold cmpN
  rw [if_neg (by omega)]
  split <;> decide

/-! ### Sub -/
def loop125 : Code := (Code.seq (Code.seq (Code.region 6 #[{ dst := (some 13), op := (Op.move (Operand.tmp 7)), type := 3, pos := "ref.go:55", after := #[], guard := none }, { dst := (some 14), op := (Op.move (Operand.tmp 0)), type := 36, pos := "ref.go:55", after := #[], guard := none }, { dst := (some 15), op := (Op.call { callee := (Callee.builtin Builtin.len), args := #[(Operand.tmp 14)], argTypes := #[36] }), type := 3, pos := "ref.go:55", after := #[{ on := 1, ground := Ground.data }], guard := none }, { dst := (some 16), op := (Op.binOp BinOp.lss 3 (Operand.tmp 13) (Operand.tmp 15) 3), type := 4, pos := "ref.go:55", after := #[{ on := 0, ground := Ground.data }, { on := 2, ground := Ground.data }], guard := none }] false) (Code.cond (Operand.tmp 16) Code.skip (Code.exit 0))) (Code.seq (Code.block 1 (Code.seq (Code.region 8 #[{ dst := (some 19), op := (Op.move (Operand.tmp 0)), type := 36, pos := "ref.go:56", after := #[], guard := none }, { dst := (some 20), op := (Op.move (Operand.tmp 7)), type := 3, pos := "ref.go:56", after := #[], guard := none }, { dst := (some 21), op := (Op.call { callee := (Callee.value (Operand.func 151)), args := #[(Operand.tmp 19), (Operand.tmp 20)], argTypes := #[36, 3] }), type := 3, pos := "ref.go:56", after := #[{ on := 0, ground := Ground.data }, { on := 1, ground := Ground.data }], guard := none }, { dst := (some 22), op := (Op.move (Operand.tmp 1)), type := 36, pos := "ref.go:56", after := #[], guard := none }, { dst := (some 23), op := (Op.move (Operand.tmp 7)), type := 3, pos := "ref.go:56", after := #[], guard := none }, { dst := (some 24), op := (Op.call { callee := (Callee.value (Operand.func 151)), args := #[(Operand.tmp 22), (Operand.tmp 23)], argTypes := #[36, 3] }), type := 3, pos := "ref.go:56", after := #[{ on := 3, ground := Ground.data }, { on := 4, ground := Ground.data }, { on := 2, ground := Ground.chain }], guard := none }, { dst := (some 25), op := (Op.binOp BinOp.sub 3 (Operand.tmp 21) (Operand.tmp 24) 3), type := 3, pos := "ref.go:56", after := #[{ on := 2, ground := Ground.data }, { on := 5, ground := Ground.data }], guard := none }, { dst := (some 26), op := (Op.move (Operand.tmp 6)), type := 3, pos := "ref.go:56", after := #[], guard := none }, { dst := (some 27), op := (Op.binOp BinOp.sub 3 (Operand.tmp 25) (Operand.tmp 26) 3), type := 3, pos := "ref.go:56", after := #[{ on := 6, ground := Ground.data }, { on := 7, ground := Ground.data }], guard := none }, { dst := (some 8), op := (Op.assign (Operand.tmp 27)), type := 3, pos := "ref.go:56", after := #[{ on := 8, ground := Ground.data }, { on := 5, ground := Ground.chain }, { on := 0, ground := Ground.phase }, { on := 1, ground := Ground.phase }, { on := 2, ground := Ground.phase }, { on := 3, ground := Ground.phase }, { on := 4, ground := Ground.phase }, { on := 5, ground := Ground.phase }, { on := 6, ground := Ground.phase }, { on := 7, ground := Ground.phase }, { on := 8, ground := Ground.phase }], guard := none }] false) (Code.seq (Code.region 9 #[{ dst := (some 6), op := (Op.assign (Operand.const (Value.int IntKind.i64 0))), type := 3, pos := "ref.go:57", after := #[], guard := none }] false) (Code.seq (Code.seq (Code.region 10 #[{ dst := (some 28), op := (Op.move (Operand.tmp 8)), type := 3, pos := "ref.go:58", after := #[], guard := none }, { dst := (some 29), op := (Op.binOp BinOp.lss 3 (Operand.tmp 28) (Operand.const (Value.int IntKind.i64 0)) 3), type := 4, pos := "ref.go:58", after := #[{ on := 0, ground := Ground.data }], guard := none }] false) (Code.cond (Operand.tmp 29) (Code.seq (Code.region 11 #[{ dst := (some 30), op := (Op.move (Operand.tmp 8)), type := 3, pos := "ref.go:59", after := #[], guard := none }, { dst := (some 31), op := (Op.binOp BinOp.add 3 (Operand.tmp 30) (Operand.const (Value.int IntKind.i64 256)) 3), type := 3, pos := "ref.go:59", after := #[{ on := 0, ground := Ground.data }], guard := none }, { dst := (some 8), op := (Op.assign (Operand.tmp 31)), type := 3, pos := "ref.go:59", after := #[{ on := 1, ground := Ground.data }, { on := 0, ground := Ground.phase }, { on := 1, ground := Ground.phase }], guard := none }] false) (Code.region 12 #[{ dst := (some 6), op := (Op.assign (Operand.const (Value.int IntKind.i64 1))), type := 3, pos := "ref.go:60", after := #[], guard := none }] false)) Code.skip)) (Code.region 13 #[{ dst := (some 32), op := (Op.move (Operand.tmp 5)), type := 36, pos := "ref.go:62", after := #[], guard := none }, { dst := (some 33), op := (Op.move (Operand.tmp 8)), type := 3, pos := "ref.go:62", after := #[], guard := none }, { dst := (some 34), op := (Op.convert 3 5 (Operand.tmp 33)), type := 5, pos := "ref.go:62", after := #[{ on := 1, ground := Ground.data }], guard := none }, { dst := (some 35), op := (Op.buildSlice 36 1 #[(0, (Operand.tmp 34))]), type := 36, pos := "ref.go:62", after := #[{ on := 2, ground := Ground.data }], guard := none }, { dst := (some 36), op := (Op.call { callee := (Callee.builtin Builtin.append), args := #[(Operand.tmp 32), (Operand.tmp 35)], argTypes := #[36, 36] }), type := 36, pos := "ref.go:62", after := #[{ on := 0, ground := Ground.data }, { on := 3, ground := Ground.data }], guard := none }, { dst := (some 5), op := (Op.assign (Operand.tmp 36)), type := 36, pos := "ref.go:62", after := #[{ on := 4, ground := Ground.data }, { on := 4, ground := Ground.chain }, { on := 0, ground := Ground.phase }, { on := 1, ground := Ground.phase }, { on := 2, ground := Ground.phase }, { on := 3, ground := Ground.phase }, { on := 4, ground := Ground.phase }], guard := none }] false))))) (Code.region 7 #[{ dst := (some 17), op := (Op.move (Operand.tmp 7)), type := 3, pos := "ref.go:55", after := #[], guard := none }, { dst := (some 18), op := (Op.binOp BinOp.add 3 (Operand.tmp 17) (Operand.const (Value.int IntKind.i64 1)) 3), type := 3, pos := "ref.go:55", after := #[{ on := 0, ground := Ground.data }], guard := none }, { dst := (some 7), op := (Op.assign (Operand.tmp 18)), type := 3, pos := "ref.go:55", after := #[{ on := 1, ground := Ground.data }, { on := 0, ground := Ground.phase }, { on := 1, ground := Ground.phase }], guard := none }] false)))

section
variable (a0 : Option Addr) (A : List UInt8) (ca : Nat) (b0 : Option Addr) (B : List UInt8) (cb : Nat) (rd : List Ent) (hra : Row a0 A ca rd) (hrb : Row b0 B cb rd) (hrd : ∀ e, e ∈ rd → e.rw = false) (hA : A.length ≤ 100000) (hB : B.length ≤ 100000)

include hra hrb hrd hA hB in
theorem sub_loop {g : Gh} (hg : g.n = 39) (D : Nat) : ∀ (r i : Nat), i + r = A.length → ∀ (c : Nat) (O : List UInt8) (v : Value) (es : List Ent), c ≤ 1 → O.length = i →
    n8 O + 256 ^ i * (n8 A / 256 ^ i) = D + 256 ^ i * (c + n8 B / 256 ^ i) → Fresh (u8s O) v es →
    WpL Try.prog g loop125 (fun e env mem => e = .exit 0 ∧ ∃ O v es, n8 O = D ∧ O.length ≤ 1000000 ∧ Fresh (u8s O) v es ∧ Wk g env mem [(5, v)] es)
      [(0, .slice a0 A.length ca), (1, .slice b0 B.length cb), (5, v), (6, i64 c), (7, i64 i)] (es ++ rd) := by
  obtain ⟨gn, w0, may⟩ := g
  obtain rfl : gn = 39 := hg
  have hlA := n8_lt' A
  intro r
  induction r with
  | zero =>
    intro i hi c O v es hc hO hs hf
    have hex : n8 O = D := by
      have hlO := n8_lt' O
      rw [hO] at hlO
      rw [div_top hlA (by omega), Nat.mul_zero, Nat.add_zero] at hs
      rcases Nat.eq_zero_or_pos (c + n8 B / 256 ^ i) with h | h
      · rw [h, Nat.mul_zero, Nat.add_zero] at hs; exact hs
      · have := Nat.le_mul_of_pos_right (256 ^ i) h
        omega
    refine WpL.step ?_
    refine Wp.seq ?_
    refine Wp.seq ?_
    refine Wp.reg allGen ?_
    refine Tr.move rfl rfl trivial rfl ?_
    refine Tr.move rfl rfl trivial rfl ?_
    refine Tr.lenS tab rfl rfl rfl rfl trivial rfl ?_
    refine Tr.lss rfl rfl (by first | with_reducible assumption | exact decide_eq_true (by omega) | exact decide_eq_false (by omega) | exact beq_iff_eq.2 (by omega) | exact beq_eq_false_iff_ne.2 (by omega) | exact bne_iff_ne.2 (by omega) | rfl) rfl trivial rfl ?_
    refine Tr.nil ?_ (fun _ => rfl) (List.Perm.refl _)
    refine Wp.condF rfl ?_
    refine Wp.exit ?_
    exact ⟨rfl, O, v, es, hex, by omega, hf, ⟨fun a ha => EH.sub (ESub.sub (by repeat (first | exact ESub.nil | refine ESub.cons rfl (by first | rfl | (simp; done) | (simp; omega)) ?_))) a ha, fun w hw => MH.sub (MSub.left es rd) w hw⟩⟩
  | succ r ih =>
    intro i hi c O v es hc hO hs hf
    have hcA := f151_at a0 A ca rd hra hrd (by omega) i (by omega)
    have hcB := f151_at b0 B cb rd hrb hrd (by omega) i (by omega)
    have hdA := dg_lt (n8 A) i
    have hdB := dg_lt (n8 B) i
    have hgo := fun (d e : Nat) (hd : d + c + dg (n8 B) i = dg (n8 A) i + 256 * e) (hd8 : d < 256) (he : e ≤ 1) v' es' hf' => ih (i + 1) (by omega) e (O ++ [UInt8.ofNat d]) v' es' he (by simp [hO]) (sub_step hO hs hd hd8) hf'
    clear ih hs
    generalize dg (n8 A) i = x at *
    generalize dg (n8 B) i = y at *
    by_cases hlt : x < y + c
    · have hgo' := hgo (x + 256 - (y + c)) 1 (by omega) (by omega) (by omega)
      have hov := ofNat_val (x + 256 - (y + c))
      rw [Nat.mod_eq_of_lt (by omega)] at hov
      rw [u8s_snoc] at hgo'
      generalize UInt8.ofNat (x + 256 - (y + c)) = d at *
      refine WpL.step ?_
      refine Wp.seq ?_
      refine Wp.seq ?_
      refine Wp.reg allGen ?_
      refine Tr.move rfl rfl trivial rfl ?_
      refine Tr.move rfl rfl trivial rfl ?_
      refine Tr.lenS tab rfl rfl rfl rfl trivial rfl ?_
      refine Tr.lss rfl rfl (by first | with_reducible assumption | exact decide_eq_true (by omega) | exact decide_eq_false (by omega) | exact beq_iff_eq.2 (by omega) | exact beq_eq_false_iff_ne.2 (by omega) | exact bne_iff_ne.2 (by omega) | rfl) rfl trivial rfl ?_
      refine Tr.nil ?_ (fun _ => rfl) (List.Perm.refl _)
      refine Wp.condT rfl ?_
      refine Wp.skip ?_
      refine Wp.seq ?_
      refine Wp.block ?_
      refine Wp.seq ?_
      refine Wp.reg allGen ?_
      refine Tr.move rfl rfl trivial rfl ?_
      refine Tr.move rfl rfl trivial rfl ?_
      refine Tr.call rfl hcA (Has.sub fun e he => List.mem_append_right _ he) rfl trivial rfl ?_
      refine Tr.move rfl rfl trivial rfl ?_
      refine Tr.move rfl rfl trivial rfl ?_
      refine Tr.call rfl hcB (Has.sub fun e he => List.mem_append_right _ he) rfl trivial rfl ?_
      refine Tr.sub rfl rfl (by first | exact wrap_i64 (by omega) (by omega) | rfl) rfl trivial rfl ?_
      refine Tr.move rfl rfl trivial rfl ?_
      refine Tr.sub rfl rfl (by first | exact wrap_i64 (by omega) (by omega) | rfl) rfl trivial rfl ?_
      refine Tr.assign rfl rfl trivial rfl ?_
      refine Tr.nil ?_ (fun _ => rfl) (List.Perm.refl _)
      refine Wp.seq ?_
      refine Wp.reg allGen ?_
      refine Tr.assign rfl rfl trivial rfl ?_
      refine Tr.nil ?_ (fun _ => rfl) (List.Perm.refl _)
      refine Wp.seq ?_
      refine Wp.seq ?_
      refine Wp.reg allGen ?_
      refine Tr.move rfl rfl trivial rfl ?_
      refine Tr.lss rfl rfl (by first | with_reducible assumption | exact decide_eq_true (by omega) | exact decide_eq_false (by omega) | exact beq_iff_eq.2 (by omega) | exact beq_eq_false_iff_ne.2 (by omega) | exact bne_iff_ne.2 (by omega) | rfl) rfl trivial rfl ?_
      refine Tr.nil ?_ (fun _ => rfl) (List.Perm.refl _)
      refine Wp.condT rfl ?_
      refine Wp.seq ?_
      refine Wp.reg allGen ?_
      refine Tr.move rfl rfl trivial rfl ?_
      refine Tr.add (r := ((d.toNat : Nat) : Int)) rfl rfl ((wrap_i64 (by omega) (by omega)).trans (by omega)) rfl trivial rfl ?_
      refine Tr.assign rfl rfl trivial rfl ?_
      refine Tr.nil ?_ (fun _ => rfl) (List.Perm.refl _)
      refine Wp.reg allGen ?_
      refine Tr.assign rfl rfl trivial rfl ?_
      refine Tr.nil ?_ (fun _ => rfl) (List.Perm.refl _)
      refine Wp.reg allGen ?_
      refine Tr.move rfl rfl trivial rfl ?_
      refine Tr.move rfl rfl trivial rfl ?_
      refine Tr.conv (r := ((d.toNat : Nat) : Int)) tab rfl rfl rfl rfl (wrap_u8 (by omega) (by omega)) rfl trivial rfl ?_
      refine Tr.buildSlice tab rfl rfl rfl rfl rfl rfl (by simp [fillC, splice, vcells, Value.cells, zrep_one]; rfl) rfl trivial rfl (fun _ _ => ?_)
      refine Tr.appendF tab rfl hf (by repeat (first | exact Take.app _ _ | exact Take.self _ | exact Take.nil | apply Take.skip)) rfl (SrcOf.row (by repeat (first | exact .head _ | refine .tail _ ?_ | refine List.mem_append_right _ ?_)) (by first | exact At.all _ | with_reducible assumption | assumption) (by first | with_reducible rfl | with_reducible assumption | (simp; done) | (simp; omega) | rfl)) (by first | with_reducible exact pc_one _ | with_reducible assumption | exact el_one _ | exact bu_one _ | rfl | (simp [Value.oneCell']; done)) rfl rfl rfl rfl (by simp) (by decide) (by simp; omega) rfl trivial rfl (fun v1 es1 hf1 => ?_)
      refine Tr.assign rfl rfl trivial rfl ?_
      refine Tr.nil ?_ (fun _ => rfl) (List.Perm.refl _)
      refine Wp.reg allGen ?_
      refine Tr.move rfl rfl trivial rfl ?_
      refine Tr.add rfl rfl (by first | exact wrap_i64 (by omega) (by omega) | rfl) rfl trivial rfl ?_
      refine Tr.assign rfl rfl trivial rfl ?_
      refine Tr.nil ?_ (fun _ => rfl) (List.Perm.refl _)
      exact WpL.weak (hgo' _ _ hf1) ⟨fun a ha => EH.sub (ESub.sub (by repeat (first | exact ESub.nil | refine ESub.cons rfl (by first | rfl | (simp; done) | (simp; omega)) ?_))) a ha, MH.sub (MSub.app (MSub.drop (MSub.refl _)) _)⟩
    · have hgo' := hgo (x - (y + c)) 0 (by omega) (by omega) (by omega)
      have hov := ofNat_val (x - (y + c))
      rw [Nat.mod_eq_of_lt (by omega)] at hov
      rw [u8s_snoc] at hgo'
      generalize UInt8.ofNat (x - (y + c)) = d at *
      refine WpL.step ?_
      refine Wp.seq ?_
      refine Wp.seq ?_
      refine Wp.reg allGen ?_
      refine Tr.move rfl rfl trivial rfl ?_
      refine Tr.move rfl rfl trivial rfl ?_
      refine Tr.lenS tab rfl rfl rfl rfl trivial rfl ?_
      refine Tr.lss rfl rfl (by first | with_reducible assumption | exact decide_eq_true (by omega) | exact decide_eq_false (by omega) | exact beq_iff_eq.2 (by omega) | exact beq_eq_false_iff_ne.2 (by omega) | exact bne_iff_ne.2 (by omega) | rfl) rfl trivial rfl ?_
      refine Tr.nil ?_ (fun _ => rfl) (List.Perm.refl _)
      refine Wp.condT rfl ?_
      refine Wp.skip ?_
      refine Wp.seq ?_
      refine Wp.block ?_
      refine Wp.seq ?_
      refine Wp.reg allGen ?_
      refine Tr.move rfl rfl trivial rfl ?_
      refine Tr.move rfl rfl trivial rfl ?_
      refine Tr.call rfl hcA (Has.sub fun e he => List.mem_append_right _ he) rfl trivial rfl ?_
      refine Tr.move rfl rfl trivial rfl ?_
      refine Tr.move rfl rfl trivial rfl ?_
      refine Tr.call rfl hcB (Has.sub fun e he => List.mem_append_right _ he) rfl trivial rfl ?_
      refine Tr.sub rfl rfl (by first | exact wrap_i64 (by omega) (by omega) | rfl) rfl trivial rfl ?_
      refine Tr.move rfl rfl trivial rfl ?_
      refine Tr.sub rfl rfl (by first | exact wrap_i64 (by omega) (by omega) | rfl) rfl trivial rfl ?_
      refine Tr.assign rfl rfl trivial rfl ?_
      refine Tr.nil ?_ (fun _ => rfl) (List.Perm.refl _)
      refine Wp.seq ?_
      refine Wp.reg allGen ?_
      refine Tr.assign rfl rfl trivial rfl ?_
      refine Tr.nil ?_ (fun _ => rfl) (List.Perm.refl _)
      refine Wp.seq ?_
      refine Wp.seq ?_
      refine Wp.reg allGen ?_
      refine Tr.move rfl rfl trivial rfl ?_
      refine Tr.lss rfl rfl (by first | with_reducible assumption | exact decide_eq_true (by omega) | exact decide_eq_false (by omega) | exact beq_iff_eq.2 (by omega) | exact beq_eq_false_iff_ne.2 (by omega) | exact bne_iff_ne.2 (by omega) | rfl) rfl trivial rfl ?_
      refine Tr.nil ?_ (fun _ => rfl) (List.Perm.refl _)
      refine Wp.condF rfl ?_
      refine Wp.skip ?_
      refine Wp.reg allGen ?_
      refine Tr.move rfl rfl trivial rfl ?_
      refine Tr.move rfl rfl trivial rfl ?_
      refine Tr.conv (r := ((d.toNat : Nat) : Int)) tab rfl rfl rfl rfl ((wrap_u8 (by omega) (by omega)).trans (by omega)) rfl trivial rfl ?_
      refine Tr.buildSlice tab rfl rfl rfl rfl rfl rfl (by simp [fillC, splice, vcells, Value.cells, zrep_one]; rfl) rfl trivial rfl (fun _ _ => ?_)
      refine Tr.appendF tab rfl hf (by repeat (first | exact Take.app _ _ | exact Take.self _ | exact Take.nil | apply Take.skip)) rfl (SrcOf.row (by repeat (first | exact .head _ | refine .tail _ ?_ | refine List.mem_append_right _ ?_)) (by first | exact At.all _ | with_reducible assumption | assumption) (by first | with_reducible rfl | with_reducible assumption | (simp; done) | (simp; omega) | rfl)) (by first | with_reducible exact pc_one _ | with_reducible assumption | exact el_one _ | exact bu_one _ | rfl | (simp [Value.oneCell']; done)) rfl rfl rfl rfl (by simp) (by decide) (by simp; omega) rfl trivial rfl (fun v1 es1 hf1 => ?_)
      refine Tr.assign rfl rfl trivial rfl ?_
      refine Tr.nil ?_ (fun _ => rfl) (List.Perm.refl _)
      refine Wp.reg allGen ?_
      refine Tr.move rfl rfl trivial rfl ?_
      refine Tr.add rfl rfl (by first | exact wrap_i64 (by omega) (by omega) | rfl) rfl trivial rfl ?_
      refine Tr.assign rfl rfl trivial rfl ?_
      refine Tr.nil ?_ (fun _ => rfl) (List.Perm.refl _)
      exact WpL.weak (hgo' _ _ hf1) ⟨fun a ha => EH.sub (ESub.sub (by repeat (first | exact ESub.nil | refine ESub.cons rfl (by first | rfl | (simp; done) | (simp; omega)) ?_))) a ha, MH.sub (MSub.app (MSub.drop (MSub.refl _)) _)⟩

include hra hrb hrd hA hB in
theorem f125_sub : FnG Try.prog 125 [.slice a0 A.length ca, .slice b0 B.length cb] rd (fun v es => Fresh (u8s (nat8 (n8 A - n8 B))) v es) := by
  have hcmp := f120_cmp a0 A ca b0 B cb rd hra hrb hrd (by omega) (by omega)
  by_cases hlt : n8 A < n8 B
  · rw [cmpN_neg hlt] at hcmp
    rw [show n8 A - n8 B = 0 by omega, nat8_zero]
    refine fnG_of 39 rfl Try.func125 rfl (by kernel_rfl) rfl hrd fun w => ?_
    refine Wp.seq ?_
    refine Wp.reg allGen ?_
    refine Tr.assign rfl rfl trivial rfl ?_
    refine Tr.nil ?_ (fun _ => rfl) (List.Perm.refl _)
    refine Wp.seq ?_
    refine Wp.seq ?_
    refine Wp.reg allGen ?_
    refine Tr.move rfl rfl trivial rfl ?_
    refine Tr.move rfl rfl trivial rfl ?_
    refine Tr.call rfl hcmp (Has.self _) rfl trivial rfl ?_
    refine Tr.lss rfl rfl (by first | with_reducible assumption | exact decide_eq_true (by omega) | exact decide_eq_false (by omega) | exact beq_iff_eq.2 (by omega) | exact beq_eq_false_iff_ne.2 (by omega) | exact bne_iff_ne.2 (by omega) | rfl) rfl trivial rfl ?_
    refine Tr.nil ?_ (fun _ => rfl) (List.Perm.refl _)
    refine Wp.condT rfl ?_
    refine Wp.seq ?_
    refine Wp.reg allGen ?_
    refine Tr.assign rfl rfl trivial rfl ?_
    refine Tr.nil ?_ (fun _ => rfl) (List.Perm.refl _)
    refine Wp.ret ?_
    exact ⟨.inr rfl, .slice none 0 0, [], Fresh.nil, .r1 rfl (RvIs.tmp rfl), .nil, by simp⟩
  · have hge := cmpN_geq (a := n8 A) (b := n8 B) (by omega)
    have hl := fun {g : Gh} (hg : g.n = 39) => sub_loop a0 A ca b0 B cb rd hra hrb hrd hA hB hg (n8 A - n8 B) A.length 0 (by omega) 0 [] (.slice none 0 0) [] (by omega) rfl (by simp only [n8, Nat.pow_zero, Nat.div_one, Nat.one_mul]; omega) Fresh.nil
    generalize n8 A - n8 B = D at *
    generalize cmpN (n8 A) (n8 B) = cc at *
    refine fnG_of 39 rfl Try.func125 rfl (by kernel_rfl) rfl hrd fun w => ?_
    refine Wp.seq ?_
    refine Wp.reg allGen ?_
    refine Tr.assign rfl rfl trivial rfl ?_
    refine Tr.nil ?_ (fun _ => rfl) (List.Perm.refl _)
    refine Wp.seq ?_
    refine Wp.seq ?_
    refine Wp.reg allGen ?_
    refine Tr.move rfl rfl trivial rfl ?_
    refine Tr.move rfl rfl trivial rfl ?_
    refine Tr.call rfl hcmp (Has.self _) rfl trivial rfl ?_
    refine Tr.lss rfl rfl (by first | with_reducible assumption | exact decide_eq_true (by omega) | exact decide_eq_false (by omega) | exact beq_iff_eq.2 (by omega) | exact beq_eq_false_iff_ne.2 (by omega) | exact bne_iff_ne.2 (by omega) | rfl) rfl trivial rfl ?_
    refine Tr.nil ?_ (fun _ => rfl) (List.Perm.refl _)
    refine Wp.condF rfl ?_
    refine Wp.skip ?_
    refine Wp.seq ?_
    refine Wp.reg allGen ?_
    refine Tr.assign rfl rfl trivial rfl ?_
    refine Tr.nil ?_ (fun _ => rfl) (List.Perm.refl _)
    refine Wp.seq ?_
    refine Wp.reg allGen ?_
    refine Tr.assign rfl rfl trivial rfl ?_
    refine Tr.nil ?_ (fun _ => rfl) (List.Perm.refl _)
    refine Wp.seq ?_
    refine Wp.seq ?_
    refine Wp.reg allGen ?_
    refine Tr.assign rfl rfl trivial rfl ?_
    refine Tr.nil ?_ (fun _ => rfl) (List.Perm.refl _)
    refine Wp.block ?_
    refine Wp.loopQ (hl rfl) (Wk.mk (by repeat (first | exact ESub.nil | refine ESub.cons rfl (by first | rfl | (simp; done) | (simp; omega)) ?_)) (MSub.refl _)) ?_
    rintro _ env1 mem1 ⟨rfl, O, v, es, hO, hOl, hf, hw1⟩
    refine Wp.weak ?_ hw1
    obtain ⟨ao, co, rfl, hro⟩ := hf.toRow
    have hn := f152_norm ao O co (ro es) hro (ro_rw es) hOl
    rw [hO] at hn
    refine Wp.seq ?_
    refine Wp.reg allGen ?_
    refine Tr.move rfl rfl trivial rfl ?_
    refine Tr.callG rfl hn (Has.ro fun e he => he) rfl trivial rfl ?_
    intro v1 es1 hf1
    refine Tr.assign rfl rfl trivial rfl ?_
    refine Tr.nil ?_ (fun _ => rfl) (List.Perm.refl _)
    refine Wp.ret ?_
    exact ⟨.inr rfl, v1, es1, hf1, .r1 rfl (RvIs.tmp rfl), MSub.left _ _, hf1.rw⟩
end
end Go.Proofs.Ytffghaeaohabhaa.AW
