import Derived.Test.YtffghaeaohabhaaR13
namespace Go.Proofs.Ytffghaeaohabhaa.AW
open Go NT
set_option maxRecDepth 100000

theorem rw_two {r1 r2 : List Ent} (h1 : ∀ e, e ∈ r1 → e.rw = false) (h2 : ∀ e, e ∈ r2 → e.rw = false) : ∀ e, e ∈ r1 ++ r2 → e.rw = false := fun e he => by
  rcases List.mem_append.1 he with he | he
  · exact h1 e he
  · exact h2 e he
theorem rw_one {b : Nat} {c : List Value} : ∀ e, e ∈ [(⟨b, c, false⟩ : Ent)] → e.rw = false := fun e he => by
  obtain rfl := List.mem_singleton.1 he; rfl

section
variable {a0 : Option Addr} {A : List UInt8} {ca : Nat} {b0 : Option Addr} {B : List UInt8} {cb s : Nat} {rd : List Ent} (hra : Row a0 A ca rd) (hrb : Row b0 B cb rd) (hrd : ∀ e, e ∈ rd → e.rw = false) (hA : A.length ≤ 10000) (hB : B.length ≤ 10000)
include hra hrb hrd hA hB
theorem f126' (hs : n8 A + n8 B = s) : FnG Try.prog 126 [.slice a0 A.length ca, .slice b0 B.length cb] rd (fun v es => Fresh (u8s (nat8 s)) v es) := by
  subst hs; exact f126_add a0 A ca b0 B cb rd hra hrb hrd (by omega) (by omega)
theorem f125' (hs : n8 A - n8 B = s) : FnG Try.prog 125 [.slice a0 A.length ca, .slice b0 B.length cb] rd (fun v es => Fresh (u8s (nat8 s)) v es) := by
  subst hs; exact f125_sub a0 A ca b0 B cb rd hra hrb hrd (by omega) (by omega)
theorem f153' (hs : n8 A * n8 B = s) : FnG Try.prog 153 [.slice a0 A.length ca, .slice b0 B.length cb] rd (fun v es => Fresh (u8s (nat8 s)) v es) := by
  subst hs; exact f153_mul a0 A ca b0 B cb rd hra hrb hrd hA hB
theorem f120' {c : Int} (hs : cmpN (n8 A) (n8 B) = c) : FnR Try.prog 120 [.slice a0 A.length ca, .slice b0 B.length cb] rd (i64 c) := by
  subst hs; exact f120_cmp a0 A ca b0 B cb rd hra hrb hrd (by omega) (by omega)
end

theorem nat8_mono {a m : Nat} (h : a ≤ m) : (nat8 a).length ≤ (nat8 m).length := by
  refine nat8_len a _ ?_
  have := n8_lt' (nat8 m)
  rw [n8_nat8] at this
  omega

/-! ### P -/
def pL : List UInt8 := 237 :: (List.replicate 30 255 ++ [127])
theorem pL_n8 : n8 pL = P := by rw [P_eq]; decide +kernel
theorem pL_len : pL.length = 32 := rfl

def loop121 : Code := (Code.seq (Code.seq (Code.region 2 #[{ dst := (some 3), op := (Op.move (Operand.tmp 1)), type := 36, pos := "ref.go:9", after := #[], guard := none }, { dst := (some 4), op := (Op.call { callee := (Callee.builtin Builtin.len), args := #[(Operand.tmp 3)], argTypes := #[36] }), type := 3, pos := "ref.go:9", after := #[{ on := 0, ground := Ground.data }], guard := none }, { dst := (some 5), op := (Op.binOp BinOp.lss 3 (Operand.tmp 4) (Operand.const (Value.int IntKind.i64 31)) 3), type := 4, pos := "ref.go:9", after := #[{ on := 1, ground := Ground.data }], guard := none }] false) (Code.cond (Operand.tmp 5) Code.skip (Code.exit 0))) (Code.block 1 (Code.region 3 #[{ dst := (some 6), op := (Op.move (Operand.tmp 1)), type := 36, pos := "ref.go:10", after := #[], guard := none }, { dst := (some 7), op := (Op.buildSlice 36 1 #[(0, (Operand.const (Value.int IntKind.u8 255)))]), type := 36, pos := "ref.go:10", after := #[], guard := none }, { dst := (some 8), op := (Op.call { callee := (Callee.builtin Builtin.append), args := #[(Operand.tmp 6), (Operand.tmp 7)], argTypes := #[36, 36] }), type := 36, pos := "ref.go:10", after := #[{ on := 0, ground := Ground.data }, { on := 1, ground := Ground.data }], guard := none }, { dst := (some 1), op := (Op.assign (Operand.tmp 8)), type := 36, pos := "ref.go:10", after := #[{ on := 2, ground := Ground.data }, { on := 2, ground := Ground.chain }, { on := 0, ground := Ground.phase }, { on := 1, ground := Ground.phase }, { on := 2, ground := Ground.phase }], guard := none }] false)))

theorem p_loop {g : Gh} (hg : g.n = 13) : ∀ (r k : Nat), k + r = 30 → ∀ (v : Value) (es : List Ent), Fresh (u8s (237 :: List.replicate k 255)) v es →
    WpL Try.prog g loop121 (fun e env mem => e = .exit 0 ∧ ∃ v es, Fresh (u8s (237 :: List.replicate 30 255)) v es ∧ Wk g env mem [(1, v)] es) [(1, v)] es := by
  obtain ⟨gn, w0, may⟩ := g
  obtain rfl : gn = 13 := hg
  intro r
  induction r with
  | zero =>
    intro k hk v es hf
    obtain rfl : k = 30 := by omega
    obtain ⟨a, c, rfl, _⟩ := hf.toRow
    refine WpL.step ?_
    refine Wp.seq ?_
    refine Wp.seq ?_
    refine Wp.reg allGen ?_
    refine Tr.move rfl rfl trivial rfl ?_
    refine Tr.lenS tab rfl rfl rfl rfl trivial rfl ?_
    refine Tr.lss (r := false) rfl rfl (by rfl) rfl trivial rfl ?_
    refine Tr.nil ?_ (fun _ => rfl) (List.Perm.refl _)
    refine Wp.condF rfl ?_
    refine Wp.exit ?_
    exact ⟨rfl, _, es, hf, ⟨fun a ha => EH.sub (ESub.sub (by repeat (first | exact ESub.nil | refine ESub.cons rfl (by first | rfl | (simp; done) | (simp; omega)) ?_))) a ha, fun w hw => hw⟩⟩
  | succ r ih =>
    intro k hk v es hf
    have hih := ih (k + 1) (by omega)
    have e : u8s (237 :: List.replicate (k + 1) 255) = u8s (237 :: List.replicate k 255) ++ [u8 255] := by
      rw [List.replicate_succ', ← List.cons_append]; exact u8s_snoc _ _
    rw [e] at hih
    have hlen : (237 :: List.replicate k (255 : UInt8)).length = k + 1 := by simp
    generalize 237 :: List.replicate k (255 : UInt8) = O at *
    obtain ⟨a, c, rfl, _⟩ := hf.toRow
    refine WpL.step ?_
    refine Wp.seq ?_
    refine Wp.seq ?_
    refine Wp.reg allGen ?_
    refine Tr.move rfl rfl trivial rfl ?_
    refine Tr.lenS tab rfl rfl rfl rfl trivial rfl ?_
    refine Tr.lss rfl rfl (by first | with_reducible assumption | exact decide_eq_true (by omega) | exact decide_eq_false (by omega) | exact beq_iff_eq.2 (by omega) | exact beq_eq_false_iff_ne.2 (by omega) | exact bne_iff_ne.2 (by omega) | rfl) rfl trivial rfl ?_
    refine Tr.nil ?_ (fun _ => rfl) (List.Perm.refl _)
    refine Wp.condT rfl ?_
    refine Wp.skip ?_
    refine Wp.block ?_
    refine Wp.reg allGen ?_
    refine Tr.move rfl rfl trivial rfl ?_
    refine Tr.buildSlice tab rfl rfl rfl rfl rfl rfl (by simp [fillC, splice, vcells, Value.cells, zrep_one]; rfl) rfl trivial rfl (fun _ _ => ?_)
    refine Tr.appendF tab rfl hf (by repeat (first | exact Take.app _ _ | exact Take.self _ | exact Take.nil | apply Take.skip)) rfl (SrcOf.row (by repeat (first | exact .head _ | refine .tail _ ?_ | refine List.mem_append_right _ ?_)) (by first | exact At.all _ | with_reducible assumption | assumption) (by first | with_reducible rfl | with_reducible assumption | (simp; done) | (simp; omega) | rfl)) (by first | with_reducible exact pc_one _ | with_reducible assumption | exact el_one _ | exact bu_one _ | rfl | (simp [Value.oneCell']; done)) rfl rfl rfl rfl (by simp) (by decide) (by simp; omega) rfl trivial rfl (fun v1 es1 hf1 => ?_)
    refine Tr.assign rfl rfl trivial rfl ?_
    refine Tr.nil ?_ (fun _ => rfl) (List.Perm.refl _)
    exact WpL.weak (hih _ _ hf1) ⟨fun a ha => EH.sub (ESub.sub (by repeat (first | exact ESub.nil | refine ESub.cons rfl (by first | rfl | (simp; done) | (simp; omega)) ?_))) a ha, MH.sub (MSub.left es1 _)⟩

theorem f121_p : FnG Try.prog 121 [] [] (fun v es => Fresh (u8s pL) v es) := by
  have e : u8s pL = u8s (237 :: List.replicate 30 255) ++ [u8 127] := u8s_snoc (237 :: List.replicate 30 255) 127
  rw [e]
  have hl := fun {g : Gh} (hg : g.n = 13) => p_loop hg 30 0 (by omega)
  have hlen : (237 :: List.replicate 30 (255 : UInt8)).length = 31 := by simp
  generalize 237 :: List.replicate 30 (255 : UInt8) = O at *
  refine fnG_of 13 rfl Try.func121 rfl (by kernel_rfl) rfl (by simp) fun w => ?_
  refine Wp.seq ?_
  refine Wp.reg allGen ?_
  refine Tr.assign rfl rfl trivial rfl ?_
  refine Tr.nil ?_ (fun _ => rfl) (List.Perm.refl _)
  refine Wp.seq ?_
  refine Wp.reg allGen ?_
  refine Tr.buildSlice tab rfl rfl rfl rfl rfl rfl (by simp [fillC, splice, vcells, Value.cells, zrep_one]; rfl) rfl trivial rfl (fun B2 _ => ?_)
  refine Tr.assign rfl rfl trivial rfl ?_
  refine Tr.nil ?_ (fun _ => rfl) (List.Perm.refl _)
  refine Wp.seq ?_
  refine Wp.block ?_
  refine Wp.loopQ (hl rfl (.slice (some ⟨B2, 0, none⟩) 1 1) [⟨B2, [u8 237], true⟩] (.inr ⟨B2, [], [], rfl, rfl⟩)) (Wk.mk (by repeat (first | exact ESub.nil | refine ESub.cons rfl (by first | rfl | (simp; done) | (simp; omega)) ?_)) (MSub.refl _)) ?_
  rintro _ env1 mem1 ⟨rfl, v, es, hf, hw1⟩
  refine Wp.weak ?_ hw1
  refine Wp.seq ?_
  refine Wp.reg allGen ?_
  refine Tr.move rfl rfl trivial rfl ?_
  refine Tr.buildSlice tab rfl rfl rfl rfl rfl rfl (by simp [fillC, splice, vcells, Value.cells, zrep_one]; rfl) rfl trivial rfl (fun _ _ => ?_)
  refine Tr.appendF tab rfl hf (by repeat (first | exact Take.app _ _ | exact Take.self _ | exact Take.nil | apply Take.skip)) rfl (SrcOf.row (by repeat (first | exact .head _ | refine .tail _ ?_ | refine List.mem_append_right _ ?_)) (by first | exact At.all _ | with_reducible assumption | assumption) (by first | with_reducible rfl | with_reducible assumption | (simp; done) | (simp; omega) | rfl)) (by first | with_reducible exact pc_one _ | with_reducible assumption | exact el_one _ | exact bu_one _ | rfl | (simp [Value.oneCell']; done)) rfl rfl rfl rfl (by simp) (by decide) (by simp; omega) rfl trivial rfl (fun v1 es1 hf1 => ?_)
  refine Tr.assign rfl rfl trivial rfl ?_
  refine Tr.nil ?_ (fun _ => rfl) (List.Perm.refl _)
  refine Wp.seq ?_
  refine Wp.reg allGen ?_
  refine Tr.move rfl rfl trivial rfl ?_
  refine Tr.assign rfl rfl trivial rfl ?_
  refine Tr.nil ?_ (fun _ => rfl) (List.Perm.refl _)
  refine Wp.ret ?_
  exact ⟨.inr rfl, v1, es1, hf1, .r1 rfl (RvIs.tmp rfl), MSub.left _ _, hf1.rw⟩

/-! ### Full -/
def loop123 : Code := (Code.seq (Code.seq (Code.region 3 #[{ dst := (some 5), op := (Op.move (Operand.tmp 4)), type := 3, pos := "ref.go:19", after := #[], guard := none }, { dst := (some 6), op := (Op.move (Operand.tmp 0)), type := 36, pos := "ref.go:19", after := #[], guard := none }, { dst := (some 7), op := (Op.call { callee := (Callee.builtin Builtin.len), args := #[(Operand.tmp 6)], argTypes := #[36] }), type := 3, pos := "ref.go:19", after := #[{ on := 1, ground := Ground.data }], guard := none }, { dst := (some 8), op := (Op.binOp BinOp.lss 3 (Operand.tmp 5) (Operand.tmp 7) 3), type := 4, pos := "ref.go:19", after := #[{ on := 0, ground := Ground.data }, { on := 2, ground := Ground.data }], guard := none }, { dst := (some 9), op := (Op.move (Operand.tmp 8)), type := 4, pos := "ref.go:19", after := #[{ on := 3, ground := Ground.data }], guard := none }, { dst := (some 10), op := (Op.move (Operand.tmp 4)), type := 3, pos := "ref.go:19", after := #[{ on := 4, ground := Ground.guard }], guard := (some (4, true)) }, { dst := (some 11), op := (Op.binOp BinOp.lss 3 (Operand.tmp 10) (Operand.const (Value.int IntKind.i64 32)) 3), type := 4, pos := "ref.go:19", after := #[{ on := 5, ground := Ground.data }, { on := 4, ground := Ground.guard }], guard := (some (4, true)) }, { dst := (some 12), op := (Op.pick (Operand.tmp 9) (Operand.tmp 11) (Operand.const (Value.bool false))), type := 4, pos := "ref.go:19", after := #[{ on := 4, ground := Ground.data }, { on := 6, ground := Ground.data }], guard := none }] false) (Code.cond (Operand.tmp 12) Code.skip (Code.exit 0))) (Code.seq (Code.block 1 (Code.region 5 #[{ dst := (some 15), op := (Op.move (Operand.tmp 4)), type := 3, pos := "ref.go:20", after := #[], guard := none }, { dst := (some 16), op := (Op.move (Operand.tmp 0)), type := 36, pos := "ref.go:20", after := #[], guard := none }, { dst := (some 17), op := (Op.move (Operand.tmp 4)), type := 3, pos := "ref.go:20", after := #[], guard := none }, { dst := (some 18), op := (Op.indexAddr 36 (Operand.tmp 16) (Operand.tmp 17)), type := 0, pos := "ref.go:20", after := #[{ on := 1, ground := Ground.data }, { on := 2, ground := Ground.data }], guard := none }, { dst := (some 19), op := (Op.load 5 (Operand.tmp 18)), type := 5, pos := "ref.go:20", after := #[{ on := 3, ground := Ground.data }], guard := none }, { dst := (some 20), op := (Op.indexAddr 37 (Operand.tmp 3) (Operand.tmp 15)), type := 0, pos := "ref.go:20", after := #[{ on := 0, ground := Ground.data }, { on := 0, ground := Ground.phase }, { on := 1, ground := Ground.phase }, { on := 2, ground := Ground.phase }, { on := 3, ground := Ground.phase }, { on := 4, ground := Ground.phase }], guard := none }, { dst := none, op := (Op.store 5 (Operand.tmp 20) (Operand.tmp 19)), type := 0, pos := "ref.go:20", after := #[{ on := 5, ground := Ground.data }, { on := 4, ground := Ground.data }, { on := 0, ground := Ground.phase }, { on := 1, ground := Ground.phase }, { on := 2, ground := Ground.phase }, { on := 3, ground := Ground.phase }, { on := 4, ground := Ground.phase }], guard := none }] false)) (Code.region 4 #[{ dst := (some 13), op := (Op.move (Operand.tmp 4)), type := 3, pos := "ref.go:19", after := #[], guard := none }, { dst := (some 14), op := (Op.binOp BinOp.add 3 (Operand.tmp 13) (Operand.const (Value.int IntKind.i64 1)) 3), type := 3, pos := "ref.go:19", after := #[{ on := 0, ground := Ground.data }], guard := none }, { dst := (some 4), op := (Op.assign (Operand.tmp 14)), type := 3, pos := "ref.go:19", after := #[{ on := 1, ground := Ground.data }, { on := 0, ground := Ground.phase }, { on := 1, ground := Ground.phase }], guard := none }] false)))

theorem take_set (A : List UInt8) (i : Nat) (hi : i < A.length) (hA : A.length ≤ 32) : (A.take i ++ List.replicate (32 - i) (0 : UInt8)).set i (A.getD i 0) = A.take (i + 1) ++ List.replicate (32 - (i + 1)) 0 := by
  have hl : (A.take i).length = i := by simp; omega
  rw [show 32 - i = (32 - (i + 1)) + 1 by omega, List.replicate_succ, List.set_append_right _ _ (by omega), hl, Nat.sub_self, List.set_cons_zero, List.take_succ_eq_append_getElem hi, List.append_assoc]
  simp [List.getD, List.getElem?_eq_getElem hi]

section
variable (a0 : Option Addr) (A : List UInt8) (ca : Nat) (rd : List Ent) (hr : Row a0 A ca rd) (hrd : ∀ e, e ∈ rd → e.rw = false) (hA : A.length ≤ 32)

include hr hA in
theorem full_loop {g : Gh} (hg : g.n = 22) (b2 b3 : Nat) (z2 : List Value) : ∀ (r i : Nat), i + r = A.length →
    WpL Try.prog g loop123 (fun e env mem => e = .exit 0 ∧ Wk g env mem [(2, .pointer (some ⟨b2, 0, none⟩)), (3, .pointer (some ⟨b3, 0, none⟩))] [⟨b3, u8s (A ++ List.replicate (32 - A.length) 0), true⟩, ⟨b2, z2, true⟩])
      [(0, .slice a0 A.length ca), (2, .pointer (some ⟨b2, 0, none⟩)), (3, .pointer (some ⟨b3, 0, none⟩)), (4, i64 i)] (⟨b3, u8s (A.take i ++ List.replicate (32 - i) 0), true⟩ :: ⟨b2, z2, true⟩ :: rd) := by
  obtain ⟨gn, w0, may⟩ := g
  obtain rfl : gn = 22 := hg
  intro r
  induction r with
  | zero =>
    intro i hi
    obtain rfl : i = A.length := by omega
    rw [List.take_length]
    refine WpL.step ?_
    refine Wp.seq ?_
    refine Wp.seq ?_
    refine Wp.reg allGen ?_
    refine Tr.move rfl rfl trivial rfl ?_
    refine Tr.move rfl rfl trivial rfl ?_
    refine Tr.lenS tab rfl rfl rfl rfl trivial rfl ?_
    refine Tr.lss rfl rfl (by first | with_reducible assumption | exact decide_eq_true (by omega) | exact decide_eq_false (by omega) | exact beq_iff_eq.2 (by omega) | exact beq_eq_false_iff_ne.2 (by omega) | exact bne_iff_ne.2 (by omega) | rfl) rfl trivial rfl ?_
    refine Tr.move rfl rfl trivial rfl ?_
    first | refine Tr.skp rfl ⟨_, _, rfl, rfl, by first | exact .inl rfl | exact .inr rfl⟩ ?_ | (refine Tr.move rfl rfl ⟨_, rfl, rfl⟩ rfl ?_)
    first | refine Tr.skp rfl ⟨_, _, rfl, rfl, by first | exact .inl rfl | exact .inr rfl⟩ ?_ | (refine Tr.lss rfl rfl (by first | with_reducible assumption | exact decide_eq_true (by omega) | exact decide_eq_false (by omega) | exact beq_iff_eq.2 (by omega) | exact beq_eq_false_iff_ne.2 (by omega) | exact bne_iff_ne.2 (by omega) | rfl) rfl ⟨_, rfl, rfl⟩ rfl ?_)
    first | refine Tr.pickT rfl rfl rfl trivial rfl ?_ | refine Tr.pickF rfl rfl rfl trivial rfl ?_
    refine Tr.nil ?_ (fun _ => rfl) (List.Perm.refl _)
    refine Wp.condF rfl ?_
    refine Wp.exit ?_
    exact ⟨rfl, Wk.mk (by repeat (first | exact ESub.nil | refine ESub.cons rfl (by first | rfl | (simp; done) | (simp; omega)) ?_)) (MSub.cons .here rfl (MSub.cons .here rfl .nil))⟩
  | succ r ih =>
    intro i hi
    have hih := ih (i + 1) (by omega)
    rw [← take_set A i (by omega) hA, ← u8s_put] at hih
    obtain ⟨b, off, c, rfl, hm, hc, hcp⟩ := hr.pos (by omega)
    have hg := row_get hc (i := i) (by omega)
    have hl : (A.take i ++ List.replicate (32 - i) (0 : UInt8)).length = 32 := by simp; omega
    generalize A.take i ++ List.replicate (32 - i) (0 : UInt8) = O at *
    have hOl : (u8s O).length = 32 := by simp [hl]
    have hidx : ((i : Nat) : Int).toNat = i := by omega
    generalize A.getD i 0 = x at *
    refine WpL.step ?_
    refine Wp.seq ?_
    refine Wp.seq ?_
    refine Wp.reg allGen ?_
    refine Tr.move rfl rfl trivial rfl ?_
    refine Tr.move rfl rfl trivial rfl ?_
    refine Tr.lenS tab rfl rfl rfl rfl trivial rfl ?_
    refine Tr.lss rfl rfl (by first | with_reducible assumption | exact decide_eq_true (by omega) | exact decide_eq_false (by omega) | exact beq_iff_eq.2 (by omega) | exact beq_eq_false_iff_ne.2 (by omega) | exact bne_iff_ne.2 (by omega) | rfl) rfl trivial rfl ?_
    refine Tr.move rfl rfl trivial rfl ?_
    first | refine Tr.skp rfl ⟨_, _, rfl, rfl, by first | exact .inl rfl | exact .inr rfl⟩ ?_ | (refine Tr.move rfl rfl ⟨_, rfl, rfl⟩ rfl ?_)
    first | refine Tr.skp rfl ⟨_, _, rfl, rfl, by first | exact .inl rfl | exact .inr rfl⟩ ?_ | (refine Tr.lss rfl rfl (by first | with_reducible assumption | exact decide_eq_true (by omega) | exact decide_eq_false (by omega) | exact beq_iff_eq.2 (by omega) | exact beq_eq_false_iff_ne.2 (by omega) | exact bne_iff_ne.2 (by omega) | rfl) rfl ⟨_, rfl, rfl⟩ rfl ?_)
    first | refine Tr.pickT rfl rfl rfl trivial rfl ?_ | refine Tr.pickF rfl rfl rfl trivial rfl ?_
    refine Tr.nil ?_ (fun _ => rfl) (List.Perm.refl _)
    refine Wp.condT rfl ?_
    refine Wp.skip ?_
    refine Wp.seq ?_
    refine Wp.block ?_
    refine Wp.reg allGen ?_
    refine Tr.move rfl rfl trivial rfl ?_
    refine Tr.move rfl rfl trivial rfl ?_
    refine Tr.move rfl rfl trivial rfl ?_
    first | refine Tr.indexAddrS01 tab rfl rfl rfl rfl rfl (by omega) (by omega) rfl trivial rfl ?_ | refine Tr.indexAddrS1 tab rfl rfl rfl rfl rfl (by omega) (by omega) rfl trivial rfl ?_
    refine Tr.loadS tab rfl rfl rfl (.tail _ (.tail _ hm)) hg rfl trivial rfl ?_
    first | refine Tr.indexAddr01 tab rfl rfl rfl rfl rfl (by omega) (by omega) rfl trivial rfl ?_ | refine Tr.indexAddr1 tab rfl rfl rfl rfl rfl (by omega) (by omega) rfl trivial rfl ?_
    refine Tr.storeS tab rfl rfl rfl rfl (by repeat (first | exact .here | apply MU.there | apply MU.app)) (by omega) trivial rfl ?_
    refine Tr.nil ?_ (fun _ => rfl) (List.Perm.refl _)
    refine Wp.reg allGen ?_
    refine Tr.move rfl rfl trivial rfl ?_
    refine Tr.add rfl rfl (by first | exact wrap_i64 (by omega) (by omega) | rfl) rfl trivial rfl ?_
    refine Tr.assign rfl rfl trivial rfl ?_
    refine Tr.nil ?_ (fun _ => rfl) (List.Perm.refl _)
    exact WpL.weak hih ⟨fun a ha => EH.sub (ESub.sub (by repeat (first | exact ESub.nil | refine ESub.cons rfl (by first | rfl | (simp; done) | (simp; omega)) ?_))) a ha, fun w hw => hw⟩

include hr hrd hA in
theorem f123_full : FnR Try.prog 123 [.slice a0 A.length ca] rd (.agg (u8s (A ++ List.replicate (32 - A.length) 0)).toArray) := by
  have hl := fun {g : Gh} (hg : g.n = 22) b2 b3 z2 => full_loop a0 A ca rd hr hA hg b2 b3 z2 A.length 0 (by omega)
  rw [List.take_zero, List.nil_append] at hl
  have hz : u8s (List.replicate 32 0) = List.replicate 32 (Value.int .u8 0) := by simp
  rw [Nat.sub_zero, hz] at hl
  have hOl : (u8s (A ++ List.replicate (32 - A.length) 0)).length = 32 := by simp; omega
  have hone := bt_one (A ++ List.replicate (32 - A.length) 0)
  generalize u8s (A ++ List.replicate (32 - A.length) 0) = O at *
  refine fnR_of 22 rfl Try.func123 rfl (by kernel_rfl) rfl hrd fun w => ?_
  refine Wp.seq ?_
  refine Wp.reg allGen ?_
  refine Tr.alloc tab rfl rfl trivial rfl (fun B2 _ => ?_)
  refine Tr.nil ?_ (fun _ => rfl) (List.Perm.refl _)
  refine Wp.seq ?_
  refine Wp.reg allGen ?_
  refine Tr.alloc tab rfl rfl trivial rfl (fun B3 _ => ?_)
  refine Tr.nil ?_ (fun _ => rfl) (List.Perm.refl _)
  refine Wp.seq ?_
  refine Wp.seq ?_
  refine Wp.reg allGen ?_
  refine Tr.assign rfl rfl trivial rfl ?_
  refine Tr.nil ?_ (fun _ => rfl) (List.Perm.refl _)
  refine Wp.block ?_
  refine Wp.loopQ (hl rfl B2 B3 _) (Wk.mk (by repeat (first | exact ESub.nil | refine ESub.cons rfl (by first | rfl | (simp; done) | (simp; omega)) ?_)) (MSub.refl _)) ?_
  rintro _ env1 mem1 ⟨rfl, hw1⟩
  refine Wp.weak ?_ hw1
  refine Wp.seq ?_
  refine Wp.reg allGen ?_
  refine Tr.loadA tab rfl rfl rfl (by repeat (first | exact .head _ | refine .tail _ ?_ | refine List.mem_append_right _ ?_)) (At.all _) hOl rfl trivial rfl ?_
  refine Tr.storeA tab rfl rfl rfl (by repeat (first | exact .here | apply MU.there | apply MU.app)) (by exact hOl) (by exact hOl) hone trivial rfl ?_
  refine Tr.nil ?_ (fun _ => rfl) (List.Perm.refl _)
  refine Wp.ret ?_
  exact ⟨.inr rfl, .r1 rfl (RvIs.cellA tab rfl rfl rfl (by repeat (first | exact .head _ | refine .tail _ ?_ | refine List.mem_append_right _ ?_)) (At.all _) hOl)⟩
end
end Go.Proofs.Ytffghaeaohabhaa.AW
