import Derived.Test.YtffghaeaohabhaaOp9
import Derived.Test.YtffghaeaohabhaaM8
namespace Go.Proofs.Ytffghaeaohabhaa.AW
open Go NT
set_option maxRecDepth 100000

/-! ### a digit of a number -/
def dg (n i : Nat) : Nat := n / 256 ^ i % 256
theorem dg_lt (n i : Nat) : dg n i < 256 := Nat.mod_lt _ (by decide)
theorem dg_val (A : List UInt8) (i : Nat) : (A.getD i 0).toNat = dg (n8 A) i := n8_digit A i

theorem bt_one (l : List UInt8) : (u8s l).all Value.oneCell' = true := by simp [Value.oneCell']
theorem row_get {c : List Value} {off : Nat} {A : List UInt8} (h : At c off (u8s A)) {i : Nat} (hi : i < A.length) : c[off + (i : Int).toNat]? = some (u8 (A.getD i 0)) := at_get u8 h 0 hi rfl

section
variable (a0 : Option Addr) (A : List UInt8) (ca : Nat) (rd : List Ent) (hr : Row a0 A ca rd) (hrd : ∀ e, e ∈ rd → e.rw = false) (hA : A.length ≤ 1000000)
include hr hrd hA

theorem f151_at (i : Nat) (hi : i ≤ 10000000) : FnR Try.prog 151 [.slice a0 A.length ca, i64 i] rd (i64 (dg (n8 A) i)) := by
  by_cases hl : i < A.length
  · obtain ⟨b, off, c, rfl, hm, hc, hcp⟩ := hr.pos (by omega)
    have hg := row_get hc hl
    rw [← dg_val]
    generalize A.getD i 0 = x at *
    refine fnR_of 14 rfl Try.func151 rfl (by kernel_rfl) rfl hrd fun w => ?_
    refine Wp.seq ?_
    refine Wp.reg allGen ?_
    refine Tr.assign rfl rfl trivial rfl ?_
    refine Tr.nil ?_ (fun _ => rfl) (List.Perm.refl _)
    refine Wp.seq ?_
    refine Wp.seq ?_
    refine Wp.reg allGen ?_
    refine Tr.move rfl rfl trivial rfl ?_
    refine Tr.move rfl rfl trivial rfl ?_
    refine Tr.lenS tab rfl rfl rfl rfl trivial rfl ?_
    refine Tr.lss rfl rfl (by first | with_reducible assumption | exact decide_eq_true (by omega) | exact decide_eq_false (by omega) | exact beq_iff_eq.2 (by omega) | exact beq_eq_false_iff_ne.2 (by omega) | exact bne_iff_ne.2 (by omega) | rfl) rfl trivial rfl ?_
    refine Tr.nil ?_ (fun _ => rfl) (List.Perm.refl _)
    refine Wp.condT rfl ?_
    refine Wp.seq ?_
    refine Wp.reg allGen ?_
    refine Tr.move rfl rfl trivial rfl ?_
    refine Tr.move rfl rfl trivial rfl ?_
    first | refine Tr.indexAddrS01 tab rfl rfl rfl rfl rfl (by omega) (by omega) rfl trivial rfl ?_ | refine Tr.indexAddrS1 tab rfl rfl rfl rfl rfl (by omega) (by omega) rfl trivial rfl ?_
    refine Tr.loadS tab rfl rfl rfl hm hg rfl trivial rfl ?_
    refine Tr.conv tab rfl rfl rfl rfl (by first | exact conv_u8_i64 _ | exact wrap_i64 (by omega) (by omega) | rfl) rfl trivial rfl ?_
    refine Tr.assign rfl rfl trivial rfl ?_
    refine Tr.nil ?_ (fun _ => rfl) (List.Perm.refl _)
    refine Wp.ret ?_
    refine ⟨by first | exact .inl rfl | exact .inr rfl, ?_⟩
    exact .r1 rfl (RvIs.tmp rfl)
  · have e : dg (n8 A) i = 0 := by
      rw [← dg_val, List.getD_eq_getElem?_getD, List.getElem?_eq_none (by omega)]; rfl
    rw [e]
    refine fnR_of 14 rfl Try.func151 rfl (by kernel_rfl) rfl hrd fun w => ?_
    refine Wp.seq ?_
    refine Wp.reg allGen ?_
    refine Tr.assign rfl rfl trivial rfl ?_
    refine Tr.nil ?_ (fun _ => rfl) (List.Perm.refl _)
    refine Wp.seq ?_
    refine Wp.seq ?_
    refine Wp.reg allGen ?_
    refine Tr.move rfl rfl trivial rfl ?_
    refine Tr.move rfl rfl trivial rfl ?_
    refine Tr.lenS tab rfl rfl rfl rfl trivial rfl ?_
    refine Tr.lss rfl rfl (by first | with_reducible assumption | exact decide_eq_true (by omega) | exact decide_eq_false (by omega) | exact beq_iff_eq.2 (by omega) | exact beq_eq_false_iff_ne.2 (by omega) | exact bne_iff_ne.2 (by omega) | rfl) rfl trivial rfl ?_
    refine Tr.nil ?_ (fun _ => rfl) (List.Perm.refl _)
    refine Wp.condF rfl ?_
    refine Wp.skip ?_
    refine Wp.seq ?_
    refine Wp.reg allGen ?_
    refine Tr.assign rfl rfl trivial rfl ?_
    refine Tr.nil ?_ (fun _ => rfl) (List.Perm.refl _)
    refine Wp.ret ?_
    refine ⟨by first | exact .inl rfl | exact .inr rfl, ?_⟩
    exact .r1 rfl (RvIs.tmp rfl)
end

/-! ### Norm -/
def loop152 : Code := (Code.seq (Code.seq (Code.region 2 #[{ dst := (some 7), op := (Op.move (Operand.tmp 3)), type := 3, pos := "ref.go:7", after := #[], guard := none }, { dst := (some 8), op := (Op.binOp BinOp.gtr 3 (Operand.tmp 7) (Operand.const (Value.int IntKind.i64 0)) 3), type := 4, pos := "ref.go:7", after := #[{ on := 0, ground := Ground.data }], guard := none }, { dst := (some 9), op := (Op.move (Operand.tmp 8)), type := 4, pos := "ref.go:7", after := #[{ on := 1, ground := Ground.data }], guard := none }, { dst := (some 10), op := (Op.move (Operand.tmp 0)), type := 36, pos := "ref.go:7", after := #[{ on := 2, ground := Ground.guard }], guard := (some (2, true)) }, { dst := (some 11), op := (Op.move (Operand.tmp 3)), type := 3, pos := "ref.go:7", after := #[{ on := 2, ground := Ground.guard }], guard := (some (2, true)) }, { dst := (some 12), op := (Op.binOp BinOp.sub 3 (Operand.tmp 11) (Operand.const (Value.int IntKind.i64 1)) 3), type := 3, pos := "ref.go:7", after := #[{ on := 4, ground := Ground.data }, { on := 2, ground := Ground.guard }], guard := (some (2, true)) }, { dst := (some 13), op := (Op.indexAddr 36 (Operand.tmp 10) (Operand.tmp 12)), type := 0, pos := "ref.go:7", after := #[{ on := 3, ground := Ground.data }, { on := 5, ground := Ground.data }, { on := 2, ground := Ground.guard }], guard := (some (2, true)) }, { dst := (some 14), op := (Op.load 5 (Operand.tmp 13)), type := 5, pos := "ref.go:7", after := #[{ on := 6, ground := Ground.data }, { on := 2, ground := Ground.guard }], guard := (some (2, true)) }, { dst := (some 15), op := (Op.binOp BinOp.eql 5 (Operand.tmp 14) (Operand.const (Value.int IntKind.u8 0)) 5), type := 4, pos := "ref.go:7", after := #[{ on := 7, ground := Ground.data }, { on := 2, ground := Ground.guard }], guard := (some (2, true)) }, { dst := (some 16), op := (Op.pick (Operand.tmp 9) (Operand.tmp 15) (Operand.const (Value.bool false))), type := 4, pos := "ref.go:7", after := #[{ on := 2, ground := Ground.data }, { on := 8, ground := Ground.data }], guard := none }] false) (Code.cond (Operand.tmp 16) Code.skip (Code.exit 0))) (Code.block 1 (Code.region 3 #[{ dst := (some 17), op := (Op.move (Operand.tmp 3)), type := 3, pos := "ref.go:8", after := #[], guard := none }, { dst := (some 18), op := (Op.binOp BinOp.sub 3 (Operand.tmp 17) (Operand.const (Value.int IntKind.i64 1)) 3), type := 3, pos := "ref.go:8", after := #[{ on := 0, ground := Ground.data }], guard := none }, { dst := (some 3), op := (Op.assign (Operand.tmp 18)), type := 3, pos := "ref.go:8", after := #[{ on := 1, ground := Ground.data }, { on := 0, ground := Ground.phase }, { on := 1, ground := Ground.phase }], guard := none }] false)))

theorem norm_loop {g : Gh} (hg : g.n = 25) (a0 : Option Addr) (A : List UInt8) (ca : Nat) (rd : List Ent) (hr : Row a0 A ca rd) (hA : A.length ≤ 1000000) : ∀ (r : Nat), r ≤ A.length → n8 A < 256 ^ r →
    WpL Try.prog g loop152 (fun e env mem => e = .exit 0 ∧ ∃ k, k ≤ A.length ∧ n8 A < 256 ^ k ∧ (∀ j, k = j + 1 → A.getD j 0 ≠ 0) ∧ Wk g env mem [(0, .slice a0 A.length ca), (3, i64 k)] rd)
      [(0, .slice a0 A.length ca), (3, i64 r)] rd := by
  obtain ⟨gn, w0, may⟩ := g
  obtain rfl : gn = 25 := hg
  intro r
  induction r with
  | zero =>
    intro hl hz
    refine WpL.step ?_
    refine Wp.seq ?_
    refine Wp.seq ?_
    refine Wp.reg allGen ?_
    refine Tr.move rfl rfl trivial rfl ?_
    refine Tr.gtr rfl rfl (by first | with_reducible assumption | exact decide_eq_true (by omega) | exact decide_eq_false (by omega) | exact beq_iff_eq.2 (by omega) | exact beq_eq_false_iff_ne.2 (by omega) | exact bne_iff_ne.2 (by omega) | rfl) rfl trivial rfl ?_
    refine Tr.move rfl rfl trivial rfl ?_
    first | refine Tr.skp rfl ⟨_, _, rfl, rfl, by first | exact .inl rfl | exact .inr rfl⟩ ?_ | (refine Tr.move rfl rfl ⟨_, rfl, rfl⟩ rfl ?_)
    first | refine Tr.skp rfl ⟨_, _, rfl, rfl, by first | exact .inl rfl | exact .inr rfl⟩ ?_ | (refine Tr.move rfl rfl ⟨_, rfl, rfl⟩ rfl ?_)
    first | refine Tr.skp rfl ⟨_, _, rfl, rfl, by first | exact .inl rfl | exact .inr rfl⟩ ?_ | (refine Tr.sub rfl rfl (by first | exact wrap_i64 (by omega) (by omega) | rfl) rfl ⟨_, rfl, rfl⟩ rfl ?_)
    first | refine Tr.skp rfl ⟨_, _, rfl, rfl, by first | exact .inl rfl | exact .inr rfl⟩ ?_ | (first | refine Tr.indexAddrS01 tab rfl rfl rfl rfl rfl (by omega) (by omega) rfl ⟨_, rfl, rfl⟩ rfl ?_ | refine Tr.indexAddrS1 tab rfl rfl rfl rfl rfl (by omega) (by omega) rfl ⟨_, rfl, rfl⟩ rfl ?_)
    first | refine Tr.skp rfl ⟨_, _, rfl, rfl, by first | exact .inl rfl | exact .inr rfl⟩ ?_ | (refine Tr.loadS tab rfl rfl rfl (by repeat (first | exact .head _ | refine .tail _ ?_ | refine List.mem_append_right _ ?_)) (by first | rfl | with_reducible assumption | assumption | (simp; done)) rfl ⟨_, rfl, rfl⟩ rfl ?_)
    first | refine Tr.skp rfl ⟨_, _, rfl, rfl, by first | exact .inl rfl | exact .inr rfl⟩ ?_ | (refine Tr.eql rfl rfl (by first | with_reducible assumption | exact decide_eq_true (by omega) | exact decide_eq_false (by omega) | exact beq_iff_eq.2 (by omega) | exact beq_eq_false_iff_ne.2 (by omega) | exact bne_iff_ne.2 (by omega) | rfl) rfl ⟨_, rfl, rfl⟩ rfl ?_)
    first | refine Tr.pickT rfl rfl rfl trivial rfl ?_ | refine Tr.pickF rfl rfl rfl trivial rfl ?_
    refine Tr.nil ?_ (fun _ => rfl) (List.Perm.refl _)
    refine Wp.condF rfl ?_
    refine Wp.exit ?_
    exact ⟨rfl, 0, Nat.zero_le _, hz, (fun j hj => by omega), ⟨fun a ha => EH.sub (ESub.sub (by repeat (first | exact ESub.nil | refine ESub.cons rfl (by first | rfl | (simp; done) | (simp; omega)) ?_))) a ha, fun w hw => hw⟩⟩
  | succ r ih =>
    intro hl hz
    obtain ⟨b, off, c, rfl, hm, hc, hcp⟩ := hr.pos (by omega)
    have hg := row_get hc (i := r) (by omega)
    have e1 : ((r + 1 : Nat) : Int) - 1 = (r : Int) := by omega
    have hgt : decide (((r + 1 : Nat) : Int) > 0) = true := decide_eq_true (by omega)
    by_cases h0 : A.getD r 0 = 0
    · have hih := ih (by omega) (by
        have hd := dg_val A r
        rw [h0] at hd
        have h1 : n8 A / 256 ^ r < 256 := Nat.div_lt_of_lt_mul (by rwa [Nat.pow_succ] at hz)
        have h2 : n8 A / 256 ^ r = 0 := by
          have h3 : 0 = n8 A / 256 ^ r % 256 := hd
          rw [Nat.mod_eq_of_lt h1] at h3
          exact h3.symm
        rcases Nat.lt_or_ge (n8 A) (256 ^ r) with h | h
        · exact h
        · exact absurd h2 (Nat.ne_of_gt (Nat.div_pos h (Nat.pow_pos (n := r) (show 0 < 256 by decide)))))
      rw [h0] at hg
      refine WpL.step ?_
      refine Wp.seq ?_
      refine Wp.seq ?_
      refine Wp.reg allGen ?_
      refine Tr.move rfl rfl trivial rfl ?_
      refine Tr.gtr rfl rfl hgt rfl trivial rfl ?_
      refine Tr.move rfl rfl trivial rfl ?_
      first | refine Tr.skp rfl ⟨_, _, rfl, rfl, by first | exact .inl rfl | exact .inr rfl⟩ ?_ | (refine Tr.move rfl rfl ⟨_, rfl, rfl⟩ rfl ?_)
      first | refine Tr.skp rfl ⟨_, _, rfl, rfl, by first | exact .inl rfl | exact .inr rfl⟩ ?_ | (refine Tr.move rfl rfl ⟨_, rfl, rfl⟩ rfl ?_)
      first | refine Tr.skp rfl ⟨_, _, rfl, rfl, by first | exact .inl rfl | exact .inr rfl⟩ ?_ | (refine Tr.sub (r := r) rfl rfl (by rw [e1]; exact wrap_i64 (by omega) (by omega)) rfl ⟨_, rfl, rfl⟩ rfl ?_)
      first | refine Tr.skp rfl ⟨_, _, rfl, rfl, by first | exact .inl rfl | exact .inr rfl⟩ ?_ | (first | refine Tr.indexAddrS01 tab rfl rfl rfl rfl rfl (by omega) (by omega) rfl ⟨_, rfl, rfl⟩ rfl ?_ | refine Tr.indexAddrS1 tab rfl rfl rfl rfl rfl (by omega) (by omega) rfl ⟨_, rfl, rfl⟩ rfl ?_)
      first | refine Tr.skp rfl ⟨_, _, rfl, rfl, by first | exact .inl rfl | exact .inr rfl⟩ ?_ | (refine Tr.loadS tab rfl rfl rfl hm hg rfl ⟨_, rfl, rfl⟩ rfl ?_)
      first | refine Tr.skp rfl ⟨_, _, rfl, rfl, by first | exact .inl rfl | exact .inr rfl⟩ ?_ | (refine Tr.eql rfl rfl (by first | with_reducible assumption | exact decide_eq_true (by omega) | exact decide_eq_false (by omega) | exact beq_iff_eq.2 (by omega) | exact beq_eq_false_iff_ne.2 (by omega) | exact bne_iff_ne.2 (by omega) | rfl) rfl ⟨_, rfl, rfl⟩ rfl ?_)
      first | refine Tr.pickT rfl rfl rfl trivial rfl ?_ | refine Tr.pickF rfl rfl rfl trivial rfl ?_
      refine Tr.nil ?_ (fun _ => rfl) (List.Perm.refl _)
      refine Wp.condT rfl ?_
      refine Wp.skip ?_
      refine Wp.block ?_
      refine Wp.reg allGen ?_
      refine Tr.move rfl rfl trivial rfl ?_
      refine Tr.sub (r := r) rfl rfl (by rw [e1]; exact wrap_i64 (by omega) (by omega)) rfl trivial rfl ?_
      refine Tr.assign rfl rfl trivial rfl ?_
      refine Tr.nil ?_ (fun _ => rfl) (List.Perm.refl _)
      exact WpL.weak hih ⟨fun a ha => EH.sub (ESub.sub (by repeat (first | exact ESub.nil | refine ESub.cons rfl (by first | rfl | (simp; done) | (simp; omega)) ?_))) a ha, fun w hw => hw⟩
    · have hne : ((((A.getD r 0).toNat : Nat) : Int) == 0) = false := by
        refine beq_eq_false_iff_ne.2 fun e => h0 (UInt8.toNat_inj.1 ?_)
        show _ = 0
        omega
      have hlast : ∀ j, r + 1 = j + 1 → A.getD j 0 ≠ 0 := fun j hj => by
        obtain rfl : j = r := by omega
        exact h0
      generalize A.getD r 0 = x at hg hne
      refine WpL.step ?_
      refine Wp.seq ?_
      refine Wp.seq ?_
      refine Wp.reg allGen ?_
      refine Tr.move rfl rfl trivial rfl ?_
      refine Tr.gtr rfl rfl hgt rfl trivial rfl ?_
      refine Tr.move rfl rfl trivial rfl ?_
      first | refine Tr.skp rfl ⟨_, _, rfl, rfl, by first | exact .inl rfl | exact .inr rfl⟩ ?_ | (refine Tr.move rfl rfl ⟨_, rfl, rfl⟩ rfl ?_)
      first | refine Tr.skp rfl ⟨_, _, rfl, rfl, by first | exact .inl rfl | exact .inr rfl⟩ ?_ | (refine Tr.move rfl rfl ⟨_, rfl, rfl⟩ rfl ?_)
      first | refine Tr.skp rfl ⟨_, _, rfl, rfl, by first | exact .inl rfl | exact .inr rfl⟩ ?_ | (refine Tr.sub (r := r) rfl rfl (by rw [e1]; exact wrap_i64 (by omega) (by omega)) rfl ⟨_, rfl, rfl⟩ rfl ?_)
      first | refine Tr.skp rfl ⟨_, _, rfl, rfl, by first | exact .inl rfl | exact .inr rfl⟩ ?_ | (first | refine Tr.indexAddrS01 tab rfl rfl rfl rfl rfl (by omega) (by omega) rfl ⟨_, rfl, rfl⟩ rfl ?_ | refine Tr.indexAddrS1 tab rfl rfl rfl rfl rfl (by omega) (by omega) rfl ⟨_, rfl, rfl⟩ rfl ?_)
      first | refine Tr.skp rfl ⟨_, _, rfl, rfl, by first | exact .inl rfl | exact .inr rfl⟩ ?_ | (refine Tr.loadS tab rfl rfl rfl hm hg rfl ⟨_, rfl, rfl⟩ rfl ?_)
      first | refine Tr.skp rfl ⟨_, _, rfl, rfl, by first | exact .inl rfl | exact .inr rfl⟩ ?_ | (refine Tr.eql rfl rfl hne rfl ⟨_, rfl, rfl⟩ rfl ?_)
      first | refine Tr.pickT rfl rfl rfl trivial rfl ?_ | refine Tr.pickF rfl rfl rfl trivial rfl ?_
      refine Tr.nil ?_ (fun _ => rfl) (List.Perm.refl _)
      refine Wp.condF rfl ?_
      refine Wp.exit ?_
      exact ⟨rfl, r + 1, hl, hz, hlast, ⟨fun a ha => EH.sub (ESub.sub (by repeat (first | exact ESub.nil | refine ESub.cons rfl (by first | rfl | (simp; done) | (simp; omega)) ?_))) a ha, fun w hw => hw⟩⟩

section
variable (a0 : Option Addr) (A : List UInt8) (ca : Nat) (rd : List Ent) (hr : Row a0 A ca rd) (hrd : ∀ e, e ∈ rd → e.rw = false) (hA : A.length ≤ 1000000)
include hr hrd hA

theorem f152_norm : FnG Try.prog 152 [.slice a0 A.length ca] rd (fun v es => Fresh (u8s (nat8 (n8 A))) v es) := by
  have hl := fun {g : Gh} (hg : g.n = 25) => norm_loop hg a0 A ca rd hr hA A.length (Nat.le_refl _) (n8_lt' A)
  have hnt := fun k h1 h2 h3 => norm_take A k h1 h2 h3
  generalize nat8 (n8 A) = N at *
  refine fnG_of 25 rfl Try.func152 rfl (by kernel_rfl) rfl hrd fun w => ?_
  refine Wp.seq ?_
  refine Wp.reg allGen ?_
  refine Tr.assign rfl rfl trivial rfl ?_
  refine Tr.nil ?_ (fun _ => rfl) (List.Perm.refl _)
  refine Wp.seq ?_
  refine Wp.reg allGen ?_
  refine Tr.move rfl rfl trivial rfl ?_
  refine Tr.lenS tab rfl rfl rfl rfl trivial rfl ?_
  refine Tr.assign rfl rfl trivial rfl ?_
  refine Tr.nil ?_ (fun _ => rfl) (List.Perm.refl _)
  refine Wp.seq ?_
  refine Wp.block ?_
  refine Wp.loopQ (hl rfl) (Wk.mk (by repeat (first | exact ESub.nil | refine ESub.cons rfl (by first | rfl | (simp; done) | (simp; omega)) ?_)) (MSub.refl _)) ?_
  rintro _ env1 mem1 ⟨rfl, k, hk1, hk2, hk3, hw1⟩
  refine Wp.weak ?_ hw1
  have hN := hnt k hk1 hk2 hk3
  have hs := hr.srcTake (mem := rd) k hk1 (fun e he => he)
  rw [hN] at hs
  have hlen : N.length ≤ 1000000 := (by rw [← hN, List.length_take]; omega)
  refine Wp.seq ?_
  refine Wp.reg allGen ?_
  refine Tr.assign rfl rfl trivial rfl ?_
  refine Tr.nil ?_ (fun _ => rfl) (List.Perm.refl _)
  refine Wp.seq ?_
  refine Wp.reg allGen ?_
  refine Tr.move rfl rfl trivial rfl ?_
  refine Tr.move rfl rfl trivial rfl ?_
  refine Tr.move rfl rfl trivial rfl ?_
  refine Tr.sliceHR tab hr rfl hk1 rfl rfl rfl rfl rfl rfl trivial rfl ?_
  refine Tr.appendF tab rfl Fresh.nil Take.nil rfl hs (bt_one _) rfl rfl rfl rfl (by simp) (by decide) (by simp; omega) rfl trivial rfl (fun v1 es1 hf1 => ?_)
  rw [List.nil_append] at hf1
  refine Tr.assign rfl rfl trivial rfl ?_
  refine Tr.nil ?_ (fun _ => rfl) (List.Perm.refl _)
  refine Wp.seq ?_
  refine Wp.reg allGen ?_
  refine Tr.move rfl rfl trivial rfl ?_
  refine Tr.assign rfl rfl trivial rfl ?_
  refine Tr.nil ?_ (fun _ => rfl) (List.Perm.refl _)
  refine Wp.ret ?_
  exact ⟨.inr rfl, v1, es1, hf1, .r1 rfl (RvIs.tmp rfl), MSub.left _ _, hf1.rw⟩
end

/-! ### Cmp -/
def loop120 : Code := (Code.seq (Code.seq (Code.region 2 #[{ dst := (some 12), op := (Op.move (Operand.tmp 5)), type := 3, pos := "ref.go:25", after := #[], guard := none }, { dst := (some 13), op := (Op.binOp BinOp.geq 3 (Operand.tmp 12) (Operand.const (Value.int IntKind.i64 0)) 3), type := 4, pos := "ref.go:25", after := #[{ on := 0, ground := Ground.data }], guard := none }] false) (Code.cond (Operand.tmp 13) Code.skip (Code.exit 0))) (Code.seq (Code.block 1 (Code.seq (Code.seq (Code.region 4 #[{ dst := (some 16), op := (Op.move (Operand.tmp 0)), type := 36, pos := "ref.go:26", after := #[], guard := none }, { dst := (some 17), op := (Op.move (Operand.tmp 5)), type := 3, pos := "ref.go:26", after := #[], guard := none }, { dst := (some 18), op := (Op.call { callee := (Callee.value (Operand.func 151)), args := #[(Operand.tmp 16), (Operand.tmp 17)], argTypes := #[36, 3] }), type := 3, pos := "ref.go:26", after := #[{ on := 0, ground := Ground.data }, { on := 1, ground := Ground.data }], guard := none }, { dst := (some 19), op := (Op.move (Operand.tmp 1)), type := 36, pos := "ref.go:26", after := #[], guard := none }, { dst := (some 20), op := (Op.move (Operand.tmp 5)), type := 3, pos := "ref.go:26", after := #[], guard := none }, { dst := (some 21), op := (Op.call { callee := (Callee.value (Operand.func 151)), args := #[(Operand.tmp 19), (Operand.tmp 20)], argTypes := #[36, 3] }), type := 3, pos := "ref.go:26", after := #[{ on := 3, ground := Ground.data }, { on := 4, ground := Ground.data }, { on := 2, ground := Ground.chain }], guard := none }, { dst := (some 22), op := (Op.binOp BinOp.lss 3 (Operand.tmp 18) (Operand.tmp 21) 3), type := 4, pos := "ref.go:26", after := #[{ on := 2, ground := Ground.data }, { on := 5, ground := Ground.data }], guard := none }] false) (Code.cond (Operand.tmp 22) (Code.seq (Code.region 5 #[{ dst := (some 4), op := (Op.assign (Operand.const (Value.int IntKind.i64 (-1)))), type := 3, pos := "ref.go:27", after := #[], guard := none }] false) Code.ret) Code.skip)) (Code.seq (Code.region 6 #[{ dst := (some 23), op := (Op.move (Operand.tmp 0)), type := 36, pos := "ref.go:29", after := #[], guard := none }, { dst := (some 24), op := (Op.move (Operand.tmp 5)), type := 3, pos := "ref.go:29", after := #[], guard := none }, { dst := (some 25), op := (Op.call { callee := (Callee.value (Operand.func 151)), args := #[(Operand.tmp 23), (Operand.tmp 24)], argTypes := #[36, 3] }), type := 3, pos := "ref.go:29", after := #[{ on := 0, ground := Ground.data }, { on := 1, ground := Ground.data }], guard := none }, { dst := (some 26), op := (Op.move (Operand.tmp 1)), type := 36, pos := "ref.go:29", after := #[], guard := none }, { dst := (some 27), op := (Op.move (Operand.tmp 5)), type := 3, pos := "ref.go:29", after := #[], guard := none }, { dst := (some 28), op := (Op.call { callee := (Callee.value (Operand.func 151)), args := #[(Operand.tmp 26), (Operand.tmp 27)], argTypes := #[36, 3] }), type := 3, pos := "ref.go:29", after := #[{ on := 3, ground := Ground.data }, { on := 4, ground := Ground.data }, { on := 2, ground := Ground.chain }], guard := none }, { dst := (some 29), op := (Op.binOp BinOp.gtr 3 (Operand.tmp 25) (Operand.tmp 28) 3), type := 4, pos := "ref.go:29", after := #[{ on := 2, ground := Ground.data }, { on := 5, ground := Ground.data }], guard := none }] false) (Code.cond (Operand.tmp 29) (Code.seq (Code.region 7 #[{ dst := (some 4), op := (Op.assign (Operand.const (Value.int IntKind.i64 1))), type := 3, pos := "ref.go:30", after := #[], guard := none }] false) Code.ret) Code.skip)))) (Code.region 3 #[{ dst := (some 14), op := (Op.move (Operand.tmp 5)), type := 3, pos := "ref.go:25", after := #[], guard := none }, { dst := (some 15), op := (Op.binOp BinOp.sub 3 (Operand.tmp 14) (Operand.const (Value.int IntKind.i64 1)) 3), type := 3, pos := "ref.go:25", after := #[{ on := 0, ground := Ground.data }], guard := none }, { dst := (some 5), op := (Op.assign (Operand.tmp 15)), type := 3, pos := "ref.go:25", after := #[{ on := 1, ground := Ground.data }, { on := 0, ground := Ground.phase }, { on := 1, ground := Ground.phase }], guard := none }] false)))

theorem dg_cmp {a b i : Nat} (h : a / 256 ^ (i + 1) = b / 256 ^ (i + 1)) (hd : dg a i = dg b i) : a / 256 ^ i = b / 256 ^ i := by
  rw [Nat.pow_succ] at h
  exact cmp_eq h hd
theorem dg_cmp_lt {a b i : Nat} (h : a / 256 ^ (i + 1) = b / 256 ^ (i + 1)) (hd : dg a i < dg b i) : cmpN a b = -1 := by
  rw [Nat.pow_succ] at h
  unfold cmpN
  rw [if_pos (cmp_lt h hd)]
theorem dg_cmp_gt {a b i : Nat} (h : a / 256 ^ (i + 1) = b / 256 ^ (i + 1)) (hd : dg b i < dg a i) : cmpN a b = 1 := by
  rw [Nat.pow_succ] at h
  have := cmp_lt h.symm hd
  unfold cmpN
  rw [if_neg (by omega), if_pos this]
theorem cmpN_same (a : Nat) : cmpN a a = 0 := by
  unfold cmpN
  rw [if_neg (by omega), if_neg (by omega)]

section
variable (a0 : Option Addr) (A : List UInt8) (ca : Nat) (b0 : Option Addr) (B : List UInt8) (cb : Nat) (rd : List Ent) (hra : Row a0 A ca rd) (hrb : Row b0 B cb rd) (hrd : ∀ e, e ∈ rd → e.rw = false) (hA : A.length ≤ 1000000) (hB : B.length ≤ 1000000)

include hra hrb hrd hA hB in
theorem cmp_loop {g : Gh} (hg : g.n = 30) : ∀ (r : Nat), r ≤ 1000000 → n8 A / 256 ^ r = n8 B / 256 ^ r →
    WpL Try.prog g loop120 (fun e env mem => (e = .exit 0 ∧ cmpN (n8 A) (n8 B) = 0) ∨ (e = .ret ∧ Wk g env mem [(4, i64 (cmpN (n8 A) (n8 B)))] []))
      [(0, .slice a0 A.length ca), (1, .slice b0 B.length cb), (5, i64 ((r : Int) - 1))] rd := by
  obtain ⟨gn, w0, may⟩ := g
  obtain rfl : gn = 30 := hg
  intro r
  induction r with
  | zero =>
    intro _ h
    rw [Nat.pow_zero, Nat.div_one, Nat.div_one] at h
    rw [h]
    have hc := cmpN_same (n8 B)
    refine WpL.step ?_
    refine Wp.seq ?_
    refine Wp.seq ?_
    refine Wp.reg allGen ?_
    refine Tr.move rfl rfl trivial rfl ?_
    refine Tr.geq rfl rfl (by first | with_reducible assumption | exact decide_eq_true (by omega) | exact decide_eq_false (by omega) | exact beq_iff_eq.2 (by omega) | exact beq_eq_false_iff_ne.2 (by omega) | exact bne_iff_ne.2 (by omega) | rfl) rfl trivial rfl ?_
    refine Tr.nil ?_ (fun _ => rfl) (List.Perm.refl _)
    refine Wp.condF rfl ?_
    refine Wp.exit ?_
    exact .inl ⟨rfl, hc⟩
  | succ r ih =>
    intro hr h
    have e1 : ((r + 1 : Nat) : Int) - 1 = (r : Int) := by omega
    rw [e1]
    have hcA := f151_at a0 A ca rd hra hrd hA r (by omega)
    have hcB := f151_at b0 B cb rd hrb hrd hB r (by omega)
    have hdA := dg_lt (n8 A) r
    have hdB := dg_lt (n8 B) r
    rcases Nat.lt_trichotomy (dg (n8 A) r) (dg (n8 B) r) with hd | hd | hd
    · rw [dg_cmp_lt h hd]
      generalize dg (n8 A) r = x at *
      generalize dg (n8 B) r = y at *
      refine WpL.step ?_
      refine Wp.seq ?_
      refine Wp.seq ?_
      refine Wp.reg allGen ?_
      refine Tr.move rfl rfl trivial rfl ?_
      refine Tr.geq rfl rfl (by first | with_reducible assumption | exact decide_eq_true (by omega) | exact decide_eq_false (by omega) | exact beq_iff_eq.2 (by omega) | exact beq_eq_false_iff_ne.2 (by omega) | exact bne_iff_ne.2 (by omega) | rfl) rfl trivial rfl ?_
      refine Tr.nil ?_ (fun _ => rfl) (List.Perm.refl _)
      refine Wp.condT rfl ?_
      refine Wp.skip ?_
      refine Wp.seq ?_
      refine Wp.block ?_
      refine Wp.seq ?_
      refine Wp.seq ?_
      refine Wp.reg allGen ?_
      refine Tr.move rfl rfl trivial rfl ?_
      refine Tr.move rfl rfl trivial rfl ?_
      refine Tr.call rfl hcA (Has.self _) rfl trivial rfl ?_
      refine Tr.move rfl rfl trivial rfl ?_
      refine Tr.move rfl rfl trivial rfl ?_
      refine Tr.call rfl hcB (Has.self _) rfl trivial rfl ?_
      refine Tr.lss rfl rfl (by first | with_reducible assumption | exact decide_eq_true (by omega) | exact decide_eq_false (by omega) | exact beq_iff_eq.2 (by omega) | exact beq_eq_false_iff_ne.2 (by omega) | exact bne_iff_ne.2 (by omega) | rfl) rfl trivial rfl ?_
      refine Tr.nil ?_ (fun _ => rfl) (List.Perm.refl _)
      refine Wp.condT rfl ?_
      refine Wp.seq ?_
      refine Wp.reg allGen ?_
      refine Tr.assign rfl rfl trivial rfl ?_
      refine Tr.nil ?_ (fun _ => rfl) (List.Perm.refl _)
      refine Wp.ret ?_
      exact .inr ⟨rfl, ⟨fun a ha => EH.sub (ESub.sub (by repeat (first | exact ESub.nil | refine ESub.cons rfl (by first | rfl | (simp; done) | (simp; omega)) ?_))) a ha, fun w hw => MH.sub MSub.nil w hw⟩⟩
    · have hih := ih (by omega) (dg_cmp h hd)
      rw [hd] at hcA
      generalize dg (n8 A) r = x at *
      generalize dg (n8 B) r = y at *
      refine WpL.step ?_
      refine Wp.seq ?_
      refine Wp.seq ?_
      refine Wp.reg allGen ?_
      refine Tr.move rfl rfl trivial rfl ?_
      refine Tr.geq rfl rfl (by first | with_reducible assumption | exact decide_eq_true (by omega) | exact decide_eq_false (by omega) | exact beq_iff_eq.2 (by omega) | exact beq_eq_false_iff_ne.2 (by omega) | exact bne_iff_ne.2 (by omega) | rfl) rfl trivial rfl ?_
      refine Tr.nil ?_ (fun _ => rfl) (List.Perm.refl _)
      refine Wp.condT rfl ?_
      refine Wp.skip ?_
      refine Wp.seq ?_
      refine Wp.block ?_
      refine Wp.seq ?_
      refine Wp.seq ?_
      refine Wp.reg allGen ?_
      refine Tr.move rfl rfl trivial rfl ?_
      refine Tr.move rfl rfl trivial rfl ?_
      refine Tr.call rfl hcA (Has.self _) rfl trivial rfl ?_
      refine Tr.move rfl rfl trivial rfl ?_
      refine Tr.move rfl rfl trivial rfl ?_
      refine Tr.call rfl hcB (Has.self _) rfl trivial rfl ?_
      refine Tr.lss rfl rfl (by first | with_reducible assumption | exact decide_eq_true (by omega) | exact decide_eq_false (by omega) | exact beq_iff_eq.2 (by omega) | exact beq_eq_false_iff_ne.2 (by omega) | exact bne_iff_ne.2 (by omega) | rfl) rfl trivial rfl ?_
      refine Tr.nil ?_ (fun _ => rfl) (List.Perm.refl _)
      refine Wp.condF rfl ?_
      refine Wp.skip ?_
      refine Wp.seq ?_
      refine Wp.reg allGen ?_
      refine Tr.move rfl rfl trivial rfl ?_
      refine Tr.move rfl rfl trivial rfl ?_
      refine Tr.call rfl hcA (Has.self _) rfl trivial rfl ?_
      refine Tr.move rfl rfl trivial rfl ?_
      refine Tr.move rfl rfl trivial rfl ?_
      refine Tr.call rfl hcB (Has.self _) rfl trivial rfl ?_
      refine Tr.gtr rfl rfl (by first | with_reducible assumption | exact decide_eq_true (by omega) | exact decide_eq_false (by omega) | exact beq_iff_eq.2 (by omega) | exact beq_eq_false_iff_ne.2 (by omega) | exact bne_iff_ne.2 (by omega) | rfl) rfl trivial rfl ?_
      refine Tr.nil ?_ (fun _ => rfl) (List.Perm.refl _)
      refine Wp.condF rfl ?_
      refine Wp.skip ?_
      refine Wp.reg allGen ?_
      refine Tr.move rfl rfl trivial rfl ?_
      refine Tr.sub rfl rfl (by first | exact wrap_i64 (by omega) (by omega) | rfl) rfl trivial rfl ?_
      refine Tr.assign rfl rfl trivial rfl ?_
      refine Tr.nil ?_ (fun _ => rfl) (List.Perm.refl _)
      exact WpL.weak hih ⟨fun a ha => EH.sub (ESub.sub (by repeat (first | exact ESub.nil | refine ESub.cons rfl (by first | rfl | (simp; done) | (simp; omega)) ?_))) a ha, fun w hw => hw⟩
    · rw [dg_cmp_gt h hd]
      generalize dg (n8 A) r = x at *
      generalize dg (n8 B) r = y at *
      refine WpL.step ?_
      refine Wp.seq ?_
      refine Wp.seq ?_
      refine Wp.reg allGen ?_
      refine Tr.move rfl rfl trivial rfl ?_
      refine Tr.geq rfl rfl (by first | with_reducible assumption | exact decide_eq_true (by omega) | exact decide_eq_false (by omega) | exact beq_iff_eq.2 (by omega) | exact beq_eq_false_iff_ne.2 (by omega) | exact bne_iff_ne.2 (by omega) | rfl) rfl trivial rfl ?_
      refine Tr.nil ?_ (fun _ => rfl) (List.Perm.refl _)
      refine Wp.condT rfl ?_
      refine Wp.skip ?_
      refine Wp.seq ?_
      refine Wp.block ?_
      refine Wp.seq ?_
      refine Wp.seq ?_
      refine Wp.reg allGen ?_
      refine Tr.move rfl rfl trivial rfl ?_
      refine Tr.move rfl rfl trivial rfl ?_
      refine Tr.call rfl hcA (Has.self _) rfl trivial rfl ?_
      refine Tr.move rfl rfl trivial rfl ?_
      refine Tr.move rfl rfl trivial rfl ?_
      refine Tr.call rfl hcB (Has.self _) rfl trivial rfl ?_
      refine Tr.lss rfl rfl (by first | with_reducible assumption | exact decide_eq_true (by omega) | exact decide_eq_false (by omega) | exact beq_iff_eq.2 (by omega) | exact beq_eq_false_iff_ne.2 (by omega) | exact bne_iff_ne.2 (by omega) | rfl) rfl trivial rfl ?_
      refine Tr.nil ?_ (fun _ => rfl) (List.Perm.refl _)
      refine Wp.condF rfl ?_
      refine Wp.skip ?_
      refine Wp.seq ?_
      refine Wp.reg allGen ?_
      refine Tr.move rfl rfl trivial rfl ?_
      refine Tr.move rfl rfl trivial rfl ?_
      refine Tr.call rfl hcA (Has.self _) rfl trivial rfl ?_
      refine Tr.move rfl rfl trivial rfl ?_
      refine Tr.move rfl rfl trivial rfl ?_
      refine Tr.call rfl hcB (Has.self _) rfl trivial rfl ?_
      refine Tr.gtr rfl rfl (by first | with_reducible assumption | exact decide_eq_true (by omega) | exact decide_eq_false (by omega) | exact beq_iff_eq.2 (by omega) | exact beq_eq_false_iff_ne.2 (by omega) | exact bne_iff_ne.2 (by omega) | rfl) rfl trivial rfl ?_
      refine Tr.nil ?_ (fun _ => rfl) (List.Perm.refl _)
      refine Wp.condT rfl ?_
      refine Wp.seq ?_
      refine Wp.reg allGen ?_
      refine Tr.assign rfl rfl trivial rfl ?_
      refine Tr.nil ?_ (fun _ => rfl) (List.Perm.refl _)
      refine Wp.ret ?_
      exact .inr ⟨rfl, ⟨fun a ha => EH.sub (ESub.sub (by repeat (first | exact ESub.nil | refine ESub.cons rfl (by first | rfl | (simp; done) | (simp; omega)) ?_))) a ha, fun w hw => MH.sub MSub.nil w hw⟩⟩

theorem max_dec (m n : Nat) : (if (n : Int) > (m : Int) then (n : Int) else (m : Int)) = ((max m n : Nat) : Int) := by
  split <;> omega
theorem div_top {n k m : Nat} (h : n < 256 ^ k) (hm : k ≤ m) : n / 256 ^ m = 0 := Nat.div_eq_of_lt (Nat.lt_of_lt_of_le h (Nat.pow_le_pow_right (by decide) hm))

include hra hrb hrd hA hB in
theorem f120_cmp : FnR Try.prog 120 [.slice a0 A.length ca, .slice b0 B.length cb] rd (i64 (cmpN (n8 A) (n8 B))) := by
  have hl := fun {g : Gh} (hg : g.n = 30) => cmp_loop a0 A ca b0 B cb rd hra hrb hrd hA hB hg (max A.length B.length) (by omega) (by rw [div_top (n8_lt' A) (Nat.le_max_left _ _), div_top (n8_lt' B) (Nat.le_max_right _ _)])
  generalize cmpN (n8 A) (n8 B) = c at *
  refine fnR_of 30 rfl Try.func120 rfl (by kernel_rfl) rfl hrd fun w => ?_
  refine Wp.seq ?_
  refine Wp.reg allGen ?_
  refine Tr.assign rfl rfl trivial rfl ?_
  refine Tr.nil ?_ (fun _ => rfl) (List.Perm.refl _)
  refine Wp.seq ?_
  refine Wp.seq ?_
  refine Wp.reg allGen ?_
  refine Tr.move rfl rfl trivial rfl ?_
  refine Tr.lenS tab rfl rfl rfl rfl trivial rfl ?_
  refine Tr.move rfl rfl trivial rfl ?_
  refine Tr.lenS tab rfl rfl rfl rfl trivial rfl ?_
  refine Tr.max2 rfl rfl (max_dec A.length B.length) rfl trivial rfl ?_
  refine Tr.sub rfl rfl (by first | exact wrap_i64 (by omega) (by omega) | rfl) rfl trivial rfl ?_
  refine Tr.assign rfl rfl trivial rfl ?_
  refine Tr.nil ?_ (fun _ => rfl) (List.Perm.refl _)
  refine Wp.block ?_
  refine Wp.loopQ (hl rfl) (Wk.mk (by repeat (first | exact ESub.nil | refine ESub.cons rfl (by first | rfl | (simp; done) | (simp; omega)) ?_)) (MSub.refl _)) ?_
  intro e env1 mem1 h
  rcases h with ⟨rfl, h0⟩ | ⟨rfl, hk1⟩
  rotate_left
  exact ⟨.inr rfl, fun a w ha hw => ResIs.r1 rfl (RvIs.tmp rfl) a w (hk1.1 a ha) (hk1.2 w hw)⟩
  subst h0
  refine Wp.weak (env' := []) (mem' := []) ?_ (Wk.mk .nil .nil)
  refine Wp.seq ?_
  refine Wp.reg allGen ?_
  refine Tr.assign rfl rfl trivial rfl ?_
  refine Tr.nil ?_ (fun _ => rfl) (List.Perm.refl _)
  refine Wp.ret ?_
  refine ⟨by first | exact .inl rfl | exact .inr rfl, ?_⟩
  exact .r1 rfl (RvIs.tmp rfl)
end
end Go.Proofs.Ytffghaeaohabhaa.AW
