import Derived.Test.YtffghaeaohabhaaR9
import Derived.Test.YtffghaeaohabhaaOp6
namespace Go.Proofs.Ytffghaeaohabhaa.AW
open Go Go.Proofs
set_option maxRecDepth 100000
attribute [local irreducible] blockS

def loop8 : Code := (Code.seq (Code.seq (Code.region 13 #[{ dst := (some 48), op := (Op.move (Operand.tmp 10)), type := 3, pos := "law.go:64", after := #[], guard := none }, { dst := (some 49), op := (Op.binOp BinOp.lss 3 (Operand.tmp 48) (Operand.const (Value.int IntKind.i64 8)) 3), type := 4, pos := "law.go:64", after := #[{ on := 0, ground := Ground.data }], guard := none }] false) (Code.cond (Operand.tmp 49) Code.skip (Code.exit 2))) (Code.seq (Code.block 3 (Code.seq (Code.region 15 #[{ dst := (some 52), op := (Op.move (Operand.tmp 10)), type := 3, pos := "law.go:65", after := #[], guard := none }, { dst := (some 53), op := (Op.indexAddr 30 (Operand.tmp 5) (Operand.tmp 52)), type := 0, pos := "law.go:65", after := #[{ on := 0, ground := Ground.data }], guard := none }, { dst := (some 54), op := (Op.load 29 (Operand.tmp 53)), type := 29, pos := "law.go:65", after := #[{ on := 1, ground := Ground.data }], guard := none }, { dst := (some 55), op := (Op.convert 29 3 (Operand.tmp 54)), type := 3, pos := "law.go:65", after := #[{ on := 2, ground := Ground.data }], guard := none }, { dst := (some 56), op := (Op.move (Operand.tmp 9)), type := 22, pos := "law.go:65", after := #[], guard := none }, { dst := (some 57), op := (Op.move (Operand.tmp 10)), type := 3, pos := "law.go:65", after := #[], guard := none }, { dst := (some 58), op := (Op.indexAddr 22 (Operand.tmp 56) (Operand.tmp 57)), type := 0, pos := "law.go:65", after := #[{ on := 4, ground := Ground.data }, { on := 5, ground := Ground.data }], guard := none }, { dst := (some 59), op := (Op.load 3 (Operand.tmp 58)), type := 3, pos := "law.go:65", after := #[{ on := 6, ground := Ground.data }], guard := none }, { dst := (some 60), op := (Op.binOp BinOp.neq 3 (Operand.tmp 55) (Operand.tmp 59) 3), type := 4, pos := "law.go:65", after := #[{ on := 3, ground := Ground.data }, { on := 7, ground := Ground.data }], guard := none }] true) (Code.cond (Operand.tmp 60) (Code.seq (Code.region 16 #[{ dst := (some 4), op := (Op.assign (Operand.const (Value.bool false))), type := 4, pos := "law.go:66", after := #[], guard := none }] false) Code.ret) Code.skip))) (Code.region 14 #[{ dst := (some 50), op := (Op.move (Operand.tmp 10)), type := 3, pos := "law.go:64", after := #[], guard := none }, { dst := (some 51), op := (Op.binOp BinOp.add 3 (Operand.tmp 50) (Operand.const (Value.int IntKind.i64 1)) 3), type := 3, pos := "law.go:64", after := #[{ on := 0, ground := Ground.data }], guard := none }, { dst := (some 10), op := (Op.assign (Operand.tmp 51)), type := 3, pos := "law.go:64", after := #[{ on := 1, ground := Ground.data }, { on := 0, ground := Ground.phase }, { on := 1, ground := Ground.phase }], guard := none }] false)))

theorem blocks_loop {g : Gh} (hg : g.n = 66) (S : W8) (b5 b9 o9 c9 : Nat) (cW : List Value) (e6 : Value) (hcW : At cW o9 (w32s S.l)) : ∀ (r i : Nat), i + r = 8 →
    WpL Try.prog g loop8 (fun e env mem => e = .exit 2 ∧ Wk g env mem [(6, e6)] [])
      [(5, .pointer (some ⟨b5, 0, none⟩)), (6, e6), (9, .slice (some ⟨b9, o9, none⟩) 8 c9), (10, i64 i)]
      [⟨b5, u32s S.l, true⟩, ⟨b9, cW, true⟩] := by
  obtain ⟨gn, w0, may⟩ := g
  obtain rfl : gn = 66 := hg
  intro r
  induction r with
  | zero =>
    intro i hi
    obtain rfl : i = 8 := by omega
    refine WpL.step ?_
    refine Wp.seq ?_
    refine Wp.seq ?_
    refine Wp.reg allGen ?_
    refine Tr.move rfl rfl trivial rfl ?_
    refine Tr.lss rfl rfl (by first | with_reducible assumption | exact decide_eq_true (by omega) | exact decide_eq_false (by omega) | exact beq_iff_eq.2 (by omega) | exact beq_eq_false_iff_ne.2 (by omega) | exact bne_iff_ne.2 (by omega) | rfl) rfl trivial rfl ?_
    refine Tr.nil ?_ (fun _ => rfl) (List.Perm.refl _)
    refine Wp.condF rfl ?_
    refine Wp.exit ?_
    exact ⟨rfl, Wk.mk (by repeat (first | exact ESub.nil | refine ESub.cons rfl (by first | rfl | (simp; done) | (simp; omega)) ?_)) (by repeat (first | exact MSub.nil | refine MSub.cons (by repeat (first | exact .here | apply Pick.there | apply Pick.append)) (by first | rfl | (simp; done)) ?_))⟩
  | succ r ih =>
    intro i hi
    have hih := ih (i + 1) (by omega)
    have hl : i < S.l.length := by show i < 8; omega
    have gs := at_get u32 (At.all (u32s S.l)) 0 (j := i) hl (k := (i : Int)) rfl
    rw [Nat.zero_add] at gs
    have gw := at_get w32 hcW 0 (j := i) hl (k := (i : Int)) rfl
    refine WpL.step ?_
    refine Wp.seq ?_
    refine Wp.seq ?_
    refine Wp.reg allGen ?_
    refine Tr.move rfl rfl trivial rfl ?_
    refine Tr.lss rfl rfl (by first | with_reducible assumption | exact decide_eq_true (by omega) | exact decide_eq_false (by omega) | exact beq_iff_eq.2 (by omega) | exact beq_eq_false_iff_ne.2 (by omega) | exact bne_iff_ne.2 (by omega) | rfl) rfl trivial rfl ?_
    refine Tr.nil ?_ (fun _ => rfl) (List.Perm.refl _)
    refine Wp.condT rfl ?_
    refine Wp.skip ?_
    refine Wp.seq ?_
    refine Wp.block ?_
    refine Wp.seq ?_
    refine Wp.regE kindOf mo (by kernel_rfl) ?_
    refine Tr.move rfl rfl trivial rfl ?_
    first | refine Tr.indexAddr01 tab rfl rfl rfl rfl rfl (by omega) (by omega) rfl trivial rfl ?_ | refine Tr.indexAddr1 tab rfl rfl rfl rfl rfl (by omega) (by omega) rfl trivial rfl ?_
    refine Tr.loadS tab rfl rfl rfl (by repeat (first | exact .head _ | refine .tail _ ?_ | refine List.mem_append_right _ ?_)) (by first | rfl | with_reducible assumption | assumption | (simp; done)) rfl trivial rfl ?_
    refine Tr.conv tab rfl rfl rfl rfl (by first | exact conv_u32_i64 _ | exact wrap_i64 (by omega) (by omega) | rfl) rfl trivial rfl ?_
    refine Tr.move rfl rfl trivial rfl ?_
    refine Tr.move rfl rfl trivial rfl ?_
    first | refine Tr.indexAddrS01 tab rfl rfl rfl rfl rfl (by omega) (by omega) rfl trivial rfl ?_ | refine Tr.indexAddrS1 tab rfl rfl rfl rfl rfl (by omega) (by omega) rfl trivial rfl ?_
    refine Tr.loadS tab rfl rfl rfl (by repeat (first | exact .head _ | refine .tail _ ?_ | refine List.mem_append_right _ ?_)) (by first | rfl | with_reducible assumption | assumption | (simp; done)) rfl trivial rfl ?_
    refine Tr.neq (r := false) rfl rfl (by simp) rfl trivial rfl ?_
    refine Tr.nil ?_ (fun _ => rfl) (List.Perm.refl _)
    refine Wp.condF rfl ?_
    refine Wp.skip ?_
    refine Wp.reg allGen ?_
    refine Tr.move rfl rfl trivial rfl ?_
    refine Tr.add rfl rfl (by first | exact wrap_i64 (by omega) (by omega) | rfl) rfl trivial rfl ?_
    refine Tr.assign rfl rfl trivial rfl ?_
    refine Tr.nil ?_ (fun _ => rfl) (List.Perm.refl _)
    exact WpL.weak hih (Wk.mk (by repeat (first | exact ESub.nil | refine ESub.cons rfl (by first | rfl | (simp; done) | (simp; omega)) ?_)) (by repeat (first | exact MSub.nil | refine MSub.cons (by repeat (first | exact .here | apply Pick.there | apply Pick.append)) (by first | rfl | (simp; done)) ?_)))

theorem w8_of (l : List UInt32) (h : l.length = 8) : ∃ s : W8, s.l = l := by
  match l, h with
  | [a, b, c, d, e, f, g, h], _ => exact ⟨⟨a, b, c, d, e, f, g, h⟩, rfl⟩

section
variable (a0 : Option Addr) (dd : List UInt8) (cp : Nat) (rd : List Ent) (hsrc : Src a0 dd cp rd) (hrd : ∀ e, e ∈ rd → e.rw = false) (st : List UInt32) (hst : st.length = 8)

include hrd in
theorem f8_far (hd : 200 < dd.length) (hd2 : dd.length ≤ 9223372036854775807) : FnR Try.prog 8 [.agg (u32s st).toArray, .slice a0 dd.length cp] rd (.bool true) := by
  refine fnR_of 66 rfl Try.func8 rfl (by kernel_rfl) rfl hrd fun w => ?_
  refine Wp.seq ?_
  refine Wp.reg allGen ?_
  refine Tr.boxA rfl rfl trivial rfl (fun B2 _ => ?_)
  refine Tr.assign rfl rfl trivial rfl ?_
  refine Tr.nil ?_ (fun _ => rfl) (List.Perm.refl _)
  refine Wp.seq ?_
  refine Wp.seq ?_
  refine Wp.reg allGen ?_
  refine Tr.move rfl rfl trivial rfl ?_
  refine Tr.lenS tab rfl rfl rfl rfl trivial rfl ?_
  refine Tr.gtr rfl rfl (by first | with_reducible assumption | exact decide_eq_true (by omega) | exact decide_eq_false (by omega) | exact beq_iff_eq.2 (by omega) | exact beq_eq_false_iff_ne.2 (by omega) | exact bne_iff_ne.2 (by omega) | rfl) rfl trivial rfl ?_
  refine Tr.nil ?_ (fun _ => rfl) (List.Perm.refl _)
  refine Wp.condT rfl ?_
  refine Wp.seq ?_
  refine Wp.reg allGen ?_
  refine Tr.assign rfl rfl trivial rfl ?_
  refine Tr.nil ?_ (fun _ => rfl) (List.Perm.refl _)
  refine Wp.ret ?_
  refine ⟨by first | exact .inl rfl | exact .inr rfl, ?_⟩
  exact .r1 rfl (RvIs.tmp rfl)

include hrd hst in
theorem f8_no (hd : dd.length ≤ 200) (hn : dd.length ≠ 64) : FnR Try.prog 8 [.agg (u32s st).toArray, .slice a0 dd.length cp] rd (.bool true) := by
  have hs8 : (u32s st).length = 8 := by simp [hst]
  have h37 := f37_no st hst dd.length cp a0 hn (by omega)
  refine fnR_of 66 rfl Try.func8 rfl (by kernel_rfl) rfl hrd fun w => ?_
  refine Wp.seq ?_
  refine Wp.reg allGen ?_
  refine Tr.boxA rfl rfl trivial rfl (fun B2 _ => ?_)
  refine Tr.assign rfl rfl trivial rfl ?_
  refine Tr.nil ?_ (fun _ => rfl) (List.Perm.refl _)
  refine Wp.seq ?_
  refine Wp.seq ?_
  refine Wp.reg allGen ?_
  refine Tr.move rfl rfl trivial rfl ?_
  refine Tr.lenS tab rfl rfl rfl rfl trivial rfl ?_
  refine Tr.gtr rfl rfl (by first | with_reducible assumption | exact decide_eq_true (by omega) | exact decide_eq_false (by omega) | exact beq_iff_eq.2 (by omega) | exact beq_eq_false_iff_ne.2 (by omega) | exact bne_iff_ne.2 (by omega) | rfl) rfl trivial rfl ?_
  refine Tr.nil ?_ (fun _ => rfl) (List.Perm.refl _)
  refine Wp.condF rfl ?_
  refine Wp.skip ?_
  refine Wp.seq ?_
  refine Wp.reg allGen ?_
  refine Tr.loadA tab rfl rfl rfl (by repeat (first | exact .head _ | refine .tail _ ?_ | refine List.mem_append_right _ ?_)) (At.all _) (by with_reducible exact hs8) rfl trivial rfl ?_
  refine Tr.move rfl rfl trivial rfl ?_
  refine Tr.call rfl h37 Has.nil rfl trivial rfl ?_
  refine Tr.move rfl rfl trivial rfl ?_
  refine Tr.extract rfl rfl rfl trivial rfl ?_
  refine Tr.extract rfl rfl rfl trivial rfl ?_
  refine Tr.alloc tab rfl rfl trivial rfl (fun B5 _ => ?_)
  refine Tr.storeA tab rfl rfl rfl (by repeat (first | exact .here | apply MU.there | apply MU.app)) (by first | with_reducible rfl | with_reducible assumption | (simp; done) | (simp; omega) | rfl) (by first | with_reducible rfl | with_reducible assumption | (simp; done) | (simp; omega) | rfl) (by first | with_reducible assumption | rfl | (simp [Value.oneCell']; done)) trivial rfl ?_
  refine Tr.assign rfl rfl trivial rfl ?_
  refine Tr.nil ?_ (fun _ => rfl) (List.Perm.refl _)
  refine Wp.seq ?_
  refine Wp.seq ?_
  refine Wp.reg allGen ?_
  refine Tr.move rfl rfl trivial rfl ?_
  refine Tr.lenS tab rfl rfl rfl rfl trivial rfl ?_
  refine Tr.neq rfl rfl (by first | with_reducible assumption | exact decide_eq_true (by omega) | exact decide_eq_false (by omega) | exact beq_iff_eq.2 (by omega) | exact beq_eq_false_iff_ne.2 (by omega) | exact bne_iff_ne.2 (by omega) | rfl) rfl trivial rfl ?_
  refine Tr.nil ?_ (fun _ => rfl) (List.Perm.refl _)
  refine Wp.condT rfl ?_
  refine Wp.seq ?_
  refine Wp.reg allGen ?_
  refine Tr.call rfl f23_awake Has.nil rfl trivial rfl ?_
  refine Tr.move rfl rfl trivial rfl ?_
  first | refine Tr.skp rfl ⟨_, _, rfl, rfl, by first | exact .inl rfl | exact .inr rfl⟩ ?_ | (refine Tr.move rfl rfl ⟨_, rfl, rfl⟩ rfl ?_)
  first | refine Tr.skp rfl ⟨_, _, rfl, rfl, by first | exact .inl rfl | exact .inr rfl⟩ ?_ | (refine Tr.eql rfl rfl (by first | with_reducible assumption | exact decide_eq_true (by omega) | exact decide_eq_false (by omega) | exact beq_iff_eq.2 (by omega) | exact beq_eq_false_iff_ne.2 (by omega) | exact bne_iff_ne.2 (by omega) | rfl) rfl ⟨_, rfl, rfl⟩ rfl ?_)
  first | refine Tr.pickT rfl rfl rfl trivial rfl ?_ | refine Tr.pickF rfl rfl rfl trivial rfl ?_
  refine Tr.move rfl rfl trivial rfl ?_
  first | refine Tr.skp rfl ⟨_, _, rfl, rfl, by first | exact .inl rfl | exact .inr rfl⟩ ?_ | (refine Tr.loadA tab rfl rfl rfl (by repeat (first | exact .head _ | refine .tail _ ?_ | refine List.mem_append_right _ ?_)) (by first | exact At.all _ | with_reducible assumption | assumption) (by first | with_reducible rfl | with_reducible assumption | (simp; done) | (simp; omega) | rfl) rfl ⟨_, rfl, rfl⟩ rfl ?_)
  first | refine Tr.skp rfl ⟨_, _, rfl, rfl, by first | exact .inl rfl | exact .inr rfl⟩ ?_ | (refine Tr.buildA tab rfl rfl rfl rfl (by simp [fillC, splice, vcells, Value.cells, zrep_one]; rfl) rfl ⟨_, rfl, rfl⟩ rfl ?_)
  first | refine Tr.skp rfl ⟨_, _, rfl, rfl, by first | exact .inl rfl | exact .inr rfl⟩ ?_ | (refine Tr.eqlA (r := true) (k := .u32) (l := List.replicate 8 0) (m := List.replicate 8 0) tab rfl rfl rfl rfl rfl rfl rfl rfl rfl (by kernel_rfl) (by decide) rfl ⟨_, rfl, rfl⟩ rfl ?_)
  first | refine Tr.pickT rfl rfl rfl trivial rfl ?_ | refine Tr.pickF rfl rfl rfl trivial rfl ?_
  refine Tr.assign rfl rfl trivial rfl ?_
  refine Tr.nil ?_ (fun _ => rfl) (List.Perm.refl _)
  refine Wp.ret ?_
  refine ⟨by first | exact .inl rfl | exact .inr rfl, ?_⟩
  exact .r1 rfl (RvIs.tmp rfl)

include hsrc hrd hst
theorem f8_yes (hn : dd.length = 64) : FnR Try.prog 8 [.agg (u32s st).toArray, .slice a0 dd.length cp] rd (.bool true) := by
  obtain ⟨s, rfl⟩ := w8_of st hst
  obtain ⟨bb, bo, cb, rb, rfl, hmem, hb⟩ : ∃ b off c r, a0 = some ⟨b, off, none⟩ ∧ (⟨b, c, r⟩ : Ent) ∈ rd ∧ At c off (u8s dd) := by
    rcases hsrc with h | ⟨b, off, c, r, h1, h2, h3⟩
    · rw [h] at hn; simp at hn
    · exact ⟨b, off, c, r, h1, h2, h3⟩
  obtain rfl : rb = false := hrd _ hmem
  have h37 := f37_block s dd hn bb bo cp cb hb
  have hK : roundsS.length = 64 := roundsS_len
  have hrn := f29_rounds
  rw [← roundsS_eq] at hrn
  have h38 := fun br ro cr' bs so cs' cR cS hcR hcS => f38_block roundsS hK s dd hn br ro cr' bs so cs' bb bo cp cR cS cb hcR hcS hb
  have hone : ∀ l : List UInt32, (u32s l).all Value.oneCell' = true := fun l => by simp [Value.oneCell']
  have hK' : (w32s roundsS).length = 64 := by simp [hK]
  rw [hn]
  generalize blockS roundsS s dd = S at *
  have hsl : u32s s.l = [u32 s.a, u32 s.b, u32 s.c, u32 s.d, u32 s.e, u32 s.f, u32 s.g, u32 s.h] := rfl
  have hfl : [w32 s.a, w32 s.b, w32 s.c, w32 s.d, w32 s.e, w32 s.f, w32 s.g, w32 s.h] = w32s s.l := rfl
  have hfO := Fresh.nil
  refine fnR_of 66 rfl Try.func8 rfl (by kernel_rfl) rfl hrd fun w => ?_
  refine Wp.seq ?_
  refine Wp.reg allGen ?_
  refine Tr.boxA rfl rfl trivial rfl (fun B2 _ => ?_)
  refine Tr.assign rfl rfl trivial rfl ?_
  refine Tr.nil ?_ (fun _ => rfl) (List.Perm.refl _)
  refine Wp.seq ?_
  refine Wp.seq ?_
  refine Wp.reg allGen ?_
  refine Tr.move rfl rfl trivial rfl ?_
  refine Tr.lenS tab rfl rfl rfl rfl trivial rfl ?_
  refine Tr.gtr rfl rfl (by first | with_reducible assumption | exact decide_eq_true (by omega) | exact decide_eq_false (by omega) | exact beq_iff_eq.2 (by omega) | exact beq_eq_false_iff_ne.2 (by omega) | exact bne_iff_ne.2 (by omega) | rfl) rfl trivial rfl ?_
  refine Tr.nil ?_ (fun _ => rfl) (List.Perm.refl _)
  refine Wp.condF rfl ?_
  refine Wp.skip ?_
  refine Wp.seq ?_
  refine Wp.reg allGen ?_
  refine Tr.loadA tab rfl rfl rfl (by repeat (first | exact .head _ | refine .tail _ ?_ | refine List.mem_append_right _ ?_)) (At.all _) (by with_reducible exact W8u_len _) rfl trivial rfl ?_
  refine Tr.move rfl rfl trivial rfl ?_
  refine Tr.call rfl h37 (Has.sub (by intro e he; rw [List.mem_singleton] at he; subst he; exact .tail _ hmem)) rfl trivial rfl ?_
  refine Tr.move rfl rfl trivial rfl ?_
  refine Tr.extract rfl rfl rfl trivial rfl ?_
  refine Tr.extract rfl rfl rfl trivial rfl ?_
  refine Tr.alloc tab rfl rfl trivial rfl (fun B5 _ => ?_)
  refine Tr.storeA tab rfl rfl rfl (by repeat (first | exact .here | apply MU.there | apply MU.app)) (by with_reducible exact W8u_len _) (by exact W8u_len _) (hone _) trivial rfl ?_
  refine Tr.assign rfl rfl trivial rfl ?_
  refine Tr.nil ?_ (fun _ => rfl) (List.Perm.refl _)
  refine Wp.seq ?_
  refine Wp.seq ?_
  refine Wp.reg allGen ?_
  refine Tr.move rfl rfl trivial rfl ?_
  refine Tr.lenS tab rfl rfl rfl rfl trivial rfl ?_
  refine Tr.neq rfl rfl (by first | with_reducible assumption | exact decide_eq_true (by omega) | exact decide_eq_false (by omega) | exact beq_iff_eq.2 (by omega) | exact beq_eq_false_iff_ne.2 (by omega) | exact bne_iff_ne.2 (by omega) | rfl) rfl trivial rfl ?_
  refine Tr.nil ?_ (fun _ => rfl) (List.Perm.refl _)
  refine Wp.condF rfl ?_
  refine Wp.skip ?_
  refine Wp.seq ?_
  refine Wp.reg allGen ?_
  refine Tr.assign rfl rfl trivial rfl ?_
  refine Tr.nil ?_ (fun _ => rfl) (List.Perm.refl _)
  refine Wp.seq ?_
  refine Wp.seq ?_
  refine Wp.reg allGen ?_
  refine Tr.assign rfl rfl trivial rfl ?_
  refine Tr.nil ?_ (fun _ => rfl) (List.Perm.refl _)
  refine Wp.block ?_
  refine Wp.loopL ?_
  refine WpL.step ?_
  refine Wp.seq ?_
  refine Wp.seq ?_
  refine Wp.reg allGen ?_
  refine Tr.move rfl rfl trivial rfl ?_
  refine Tr.lss rfl rfl (by first | with_reducible assumption | exact decide_eq_true (by omega) | exact decide_eq_false (by omega) | exact beq_iff_eq.2 (by omega) | exact beq_eq_false_iff_ne.2 (by omega) | exact bne_iff_ne.2 (by omega) | rfl) rfl trivial rfl ?_
  refine Tr.nil ?_ (fun _ => rfl) (List.Perm.refl _)
  refine Wp.condT rfl ?_
  refine Wp.skip ?_
  refine Wp.seq ?_
  refine Wp.block ?_
  refine Wp.reg allGen ?_
  refine Tr.move rfl rfl trivial rfl ?_
  refine Tr.move rfl rfl trivial rfl ?_
  first | refine Tr.indexAddr01 tab rfl rfl rfl rfl rfl (by omega) (by omega) rfl trivial rfl ?_ | refine Tr.indexAddr1 tab rfl rfl rfl rfl rfl (by omega) (by omega) rfl trivial rfl ?_
  refine Tr.loadS tab rfl rfl rfl (by repeat (first | exact .head _ | refine .tail _ ?_ | refine List.mem_append_right _ ?_)) (by first | rfl | with_reducible assumption | assumption | (simp; done)) rfl trivial rfl ?_
  refine Tr.conv tab rfl rfl rfl rfl (by first | exact conv_u32_i64 _ | exact wrap_i64 (by omega) (by omega) | rfl) rfl trivial rfl ?_
  refine Tr.buildSlice tab rfl rfl rfl rfl rfl rfl (by simp [fillC, splice, vcells, Value.cells, zrep_one]; rfl) rfl trivial rfl (fun _ _ => ?_)
  refine Tr.appendF tab rfl hfO (by repeat (first | exact Take.app _ _ | exact Take.self _ | exact Take.nil | apply Take.skip)) rfl (SrcOf.row (by repeat (first | exact .head _ | refine .tail _ ?_ | refine List.mem_append_right _ ?_)) (by first | exact At.all _ | with_reducible assumption | assumption) (by first | with_reducible rfl | with_reducible assumption | (simp; done) | (simp; omega) | rfl)) (by first | with_reducible assumption | rfl | (simp [Value.oneCell']; done)) rfl rfl rfl rfl (by simp) (by decide) (by simp) rfl trivial rfl (fun vO esO hfO => ?_)
  refine Tr.assign rfl rfl trivial rfl ?_
  refine Tr.nil ?_ (fun _ => rfl) (List.Perm.refl _)
  refine Wp.reg allGen ?_
  refine Tr.move rfl rfl trivial rfl ?_
  refine Tr.add rfl rfl (by first | exact wrap_i64 (by omega) (by omega) | rfl) rfl trivial rfl ?_
  refine Tr.assign rfl rfl trivial rfl ?_
  refine Tr.nil ?_ (fun _ => rfl) (List.Perm.refl _)
  refine WpL.step ?_
  refine Wp.seq ?_
  refine Wp.seq ?_
  refine Wp.reg allGen ?_
  refine Tr.move rfl rfl trivial rfl ?_
  refine Tr.lss rfl rfl (by first | with_reducible assumption | exact decide_eq_true (by omega) | exact decide_eq_false (by omega) | exact beq_iff_eq.2 (by omega) | exact beq_eq_false_iff_ne.2 (by omega) | exact bne_iff_ne.2 (by omega) | rfl) rfl trivial rfl ?_
  refine Tr.nil ?_ (fun _ => rfl) (List.Perm.refl _)
  refine Wp.condT rfl ?_
  refine Wp.skip ?_
  refine Wp.seq ?_
  refine Wp.block ?_
  refine Wp.reg allGen ?_
  refine Tr.move rfl rfl trivial rfl ?_
  refine Tr.move rfl rfl trivial rfl ?_
  first | refine Tr.indexAddr01 tab rfl rfl rfl rfl rfl (by omega) (by omega) rfl trivial rfl ?_ | refine Tr.indexAddr1 tab rfl rfl rfl rfl rfl (by omega) (by omega) rfl trivial rfl ?_
  refine Tr.loadS tab rfl rfl rfl (by repeat (first | exact .head _ | refine .tail _ ?_ | refine List.mem_append_right _ ?_)) (by first | rfl | with_reducible assumption | assumption | (simp; done)) rfl trivial rfl ?_
  refine Tr.conv tab rfl rfl rfl rfl (by first | exact conv_u32_i64 _ | exact wrap_i64 (by omega) (by omega) | rfl) rfl trivial rfl ?_
  refine Tr.buildSlice tab rfl rfl rfl rfl rfl rfl (by simp [fillC, splice, vcells, Value.cells, zrep_one]; rfl) rfl trivial rfl (fun _ _ => ?_)
  refine Tr.appendF tab rfl hfO (by repeat (first | exact Take.app _ _ | exact Take.self _ | exact Take.nil | apply Take.skip)) rfl (SrcOf.row (by repeat (first | exact .head _ | refine .tail _ ?_ | refine List.mem_append_right _ ?_)) (by first | exact At.all _ | with_reducible assumption | assumption) (by first | with_reducible rfl | with_reducible assumption | (simp; done) | (simp; omega) | rfl)) (by first | with_reducible assumption | rfl | (simp [Value.oneCell']; done)) rfl rfl rfl rfl (by simp) (by decide) (by simp) rfl trivial rfl (fun vO esO hfO => ?_)
  refine Tr.assign rfl rfl trivial rfl ?_
  refine Tr.nil ?_ (fun _ => rfl) (List.Perm.refl _)
  refine Wp.reg allGen ?_
  refine Tr.move rfl rfl trivial rfl ?_
  refine Tr.add rfl rfl (by first | exact wrap_i64 (by omega) (by omega) | rfl) rfl trivial rfl ?_
  refine Tr.assign rfl rfl trivial rfl ?_
  refine Tr.nil ?_ (fun _ => rfl) (List.Perm.refl _)
  refine WpL.step ?_
  refine Wp.seq ?_
  refine Wp.seq ?_
  refine Wp.reg allGen ?_
  refine Tr.move rfl rfl trivial rfl ?_
  refine Tr.lss rfl rfl (by first | with_reducible assumption | exact decide_eq_true (by omega) | exact decide_eq_false (by omega) | exact beq_iff_eq.2 (by omega) | exact beq_eq_false_iff_ne.2 (by omega) | exact bne_iff_ne.2 (by omega) | rfl) rfl trivial rfl ?_
  refine Tr.nil ?_ (fun _ => rfl) (List.Perm.refl _)
  refine Wp.condT rfl ?_
  refine Wp.skip ?_
  refine Wp.seq ?_
  refine Wp.block ?_
  refine Wp.reg allGen ?_
  refine Tr.move rfl rfl trivial rfl ?_
  refine Tr.move rfl rfl trivial rfl ?_
  first | refine Tr.indexAddr01 tab rfl rfl rfl rfl rfl (by omega) (by omega) rfl trivial rfl ?_ | refine Tr.indexAddr1 tab rfl rfl rfl rfl rfl (by omega) (by omega) rfl trivial rfl ?_
  refine Tr.loadS tab rfl rfl rfl (by repeat (first | exact .head _ | refine .tail _ ?_ | refine List.mem_append_right _ ?_)) (by first | rfl | with_reducible assumption | assumption | (simp; done)) rfl trivial rfl ?_
  refine Tr.conv tab rfl rfl rfl rfl (by first | exact conv_u32_i64 _ | exact wrap_i64 (by omega) (by omega) | rfl) rfl trivial rfl ?_
  refine Tr.buildSlice tab rfl rfl rfl rfl rfl rfl (by simp [fillC, splice, vcells, Value.cells, zrep_one]; rfl) rfl trivial rfl (fun _ _ => ?_)
  refine Tr.appendF tab rfl hfO (by repeat (first | exact Take.app _ _ | exact Take.self _ | exact Take.nil | apply Take.skip)) rfl (SrcOf.row (by repeat (first | exact .head _ | refine .tail _ ?_ | refine List.mem_append_right _ ?_)) (by first | exact At.all _ | with_reducible assumption | assumption) (by first | with_reducible rfl | with_reducible assumption | (simp; done) | (simp; omega) | rfl)) (by first | with_reducible assumption | rfl | (simp [Value.oneCell']; done)) rfl rfl rfl rfl (by simp) (by decide) (by simp) rfl trivial rfl (fun vO esO hfO => ?_)
  refine Tr.assign rfl rfl trivial rfl ?_
  refine Tr.nil ?_ (fun _ => rfl) (List.Perm.refl _)
  refine Wp.reg allGen ?_
  refine Tr.move rfl rfl trivial rfl ?_
  refine Tr.add rfl rfl (by first | exact wrap_i64 (by omega) (by omega) | rfl) rfl trivial rfl ?_
  refine Tr.assign rfl rfl trivial rfl ?_
  refine Tr.nil ?_ (fun _ => rfl) (List.Perm.refl _)
  refine WpL.step ?_
  refine Wp.seq ?_
  refine Wp.seq ?_
  refine Wp.reg allGen ?_
  refine Tr.move rfl rfl trivial rfl ?_
  refine Tr.lss rfl rfl (by first | with_reducible assumption | exact decide_eq_true (by omega) | exact decide_eq_false (by omega) | exact beq_iff_eq.2 (by omega) | exact beq_eq_false_iff_ne.2 (by omega) | exact bne_iff_ne.2 (by omega) | rfl) rfl trivial rfl ?_
  refine Tr.nil ?_ (fun _ => rfl) (List.Perm.refl _)
  refine Wp.condT rfl ?_
  refine Wp.skip ?_
  refine Wp.seq ?_
  refine Wp.block ?_
  refine Wp.reg allGen ?_
  refine Tr.move rfl rfl trivial rfl ?_
  refine Tr.move rfl rfl trivial rfl ?_
  first | refine Tr.indexAddr01 tab rfl rfl rfl rfl rfl (by omega) (by omega) rfl trivial rfl ?_ | refine Tr.indexAddr1 tab rfl rfl rfl rfl rfl (by omega) (by omega) rfl trivial rfl ?_
  refine Tr.loadS tab rfl rfl rfl (by repeat (first | exact .head _ | refine .tail _ ?_ | refine List.mem_append_right _ ?_)) (by first | rfl | with_reducible assumption | assumption | (simp; done)) rfl trivial rfl ?_
  refine Tr.conv tab rfl rfl rfl rfl (by first | exact conv_u32_i64 _ | exact wrap_i64 (by omega) (by omega) | rfl) rfl trivial rfl ?_
  refine Tr.buildSlice tab rfl rfl rfl rfl rfl rfl (by simp [fillC, splice, vcells, Value.cells, zrep_one]; rfl) rfl trivial rfl (fun _ _ => ?_)
  refine Tr.appendF tab rfl hfO (by repeat (first | exact Take.app _ _ | exact Take.self _ | exact Take.nil | apply Take.skip)) rfl (SrcOf.row (by repeat (first | exact .head _ | refine .tail _ ?_ | refine List.mem_append_right _ ?_)) (by first | exact At.all _ | with_reducible assumption | assumption) (by first | with_reducible rfl | with_reducible assumption | (simp; done) | (simp; omega) | rfl)) (by first | with_reducible assumption | rfl | (simp [Value.oneCell']; done)) rfl rfl rfl rfl (by simp) (by decide) (by simp) rfl trivial rfl (fun vO esO hfO => ?_)
  refine Tr.assign rfl rfl trivial rfl ?_
  refine Tr.nil ?_ (fun _ => rfl) (List.Perm.refl _)
  refine Wp.reg allGen ?_
  refine Tr.move rfl rfl trivial rfl ?_
  refine Tr.add rfl rfl (by first | exact wrap_i64 (by omega) (by omega) | rfl) rfl trivial rfl ?_
  refine Tr.assign rfl rfl trivial rfl ?_
  refine Tr.nil ?_ (fun _ => rfl) (List.Perm.refl _)
  refine WpL.step ?_
  refine Wp.seq ?_
  refine Wp.seq ?_
  refine Wp.reg allGen ?_
  refine Tr.move rfl rfl trivial rfl ?_
  refine Tr.lss rfl rfl (by first | with_reducible assumption | exact decide_eq_true (by omega) | exact decide_eq_false (by omega) | exact beq_iff_eq.2 (by omega) | exact beq_eq_false_iff_ne.2 (by omega) | exact bne_iff_ne.2 (by omega) | rfl) rfl trivial rfl ?_
  refine Tr.nil ?_ (fun _ => rfl) (List.Perm.refl _)
  refine Wp.condT rfl ?_
  refine Wp.skip ?_
  refine Wp.seq ?_
  refine Wp.block ?_
  refine Wp.reg allGen ?_
  refine Tr.move rfl rfl trivial rfl ?_
  refine Tr.move rfl rfl trivial rfl ?_
  first | refine Tr.indexAddr01 tab rfl rfl rfl rfl rfl (by omega) (by omega) rfl trivial rfl ?_ | refine Tr.indexAddr1 tab rfl rfl rfl rfl rfl (by omega) (by omega) rfl trivial rfl ?_
  refine Tr.loadS tab rfl rfl rfl (by repeat (first | exact .head _ | refine .tail _ ?_ | refine List.mem_append_right _ ?_)) (by first | rfl | with_reducible assumption | assumption | (simp; done)) rfl trivial rfl ?_
  refine Tr.conv tab rfl rfl rfl rfl (by first | exact conv_u32_i64 _ | exact wrap_i64 (by omega) (by omega) | rfl) rfl trivial rfl ?_
  refine Tr.buildSlice tab rfl rfl rfl rfl rfl rfl (by simp [fillC, splice, vcells, Value.cells, zrep_one]; rfl) rfl trivial rfl (fun _ _ => ?_)
  refine Tr.appendF tab rfl hfO (by repeat (first | exact Take.app _ _ | exact Take.self _ | exact Take.nil | apply Take.skip)) rfl (SrcOf.row (by repeat (first | exact .head _ | refine .tail _ ?_ | refine List.mem_append_right _ ?_)) (by first | exact At.all _ | with_reducible assumption | assumption) (by first | with_reducible rfl | with_reducible assumption | (simp; done) | (simp; omega) | rfl)) (by first | with_reducible assumption | rfl | (simp [Value.oneCell']; done)) rfl rfl rfl rfl (by simp) (by decide) (by simp) rfl trivial rfl (fun vO esO hfO => ?_)
  refine Tr.assign rfl rfl trivial rfl ?_
  refine Tr.nil ?_ (fun _ => rfl) (List.Perm.refl _)
  refine Wp.reg allGen ?_
  refine Tr.move rfl rfl trivial rfl ?_
  refine Tr.add rfl rfl (by first | exact wrap_i64 (by omega) (by omega) | rfl) rfl trivial rfl ?_
  refine Tr.assign rfl rfl trivial rfl ?_
  refine Tr.nil ?_ (fun _ => rfl) (List.Perm.refl _)
  refine WpL.step ?_
  refine Wp.seq ?_
  refine Wp.seq ?_
  refine Wp.reg allGen ?_
  refine Tr.move rfl rfl trivial rfl ?_
  refine Tr.lss rfl rfl (by first | with_reducible assumption | exact decide_eq_true (by omega) | exact decide_eq_false (by omega) | exact beq_iff_eq.2 (by omega) | exact beq_eq_false_iff_ne.2 (by omega) | exact bne_iff_ne.2 (by omega) | rfl) rfl trivial rfl ?_
  refine Tr.nil ?_ (fun _ => rfl) (List.Perm.refl _)
  refine Wp.condT rfl ?_
  refine Wp.skip ?_
  refine Wp.seq ?_
  refine Wp.block ?_
  refine Wp.reg allGen ?_
  refine Tr.move rfl rfl trivial rfl ?_
  refine Tr.move rfl rfl trivial rfl ?_
  first | refine Tr.indexAddr01 tab rfl rfl rfl rfl rfl (by omega) (by omega) rfl trivial rfl ?_ | refine Tr.indexAddr1 tab rfl rfl rfl rfl rfl (by omega) (by omega) rfl trivial rfl ?_
  refine Tr.loadS tab rfl rfl rfl (by repeat (first | exact .head _ | refine .tail _ ?_ | refine List.mem_append_right _ ?_)) (by first | rfl | with_reducible assumption | assumption | (simp; done)) rfl trivial rfl ?_
  refine Tr.conv tab rfl rfl rfl rfl (by first | exact conv_u32_i64 _ | exact wrap_i64 (by omega) (by omega) | rfl) rfl trivial rfl ?_
  refine Tr.buildSlice tab rfl rfl rfl rfl rfl rfl (by simp [fillC, splice, vcells, Value.cells, zrep_one]; rfl) rfl trivial rfl (fun _ _ => ?_)
  refine Tr.appendF tab rfl hfO (by repeat (first | exact Take.app _ _ | exact Take.self _ | exact Take.nil | apply Take.skip)) rfl (SrcOf.row (by repeat (first | exact .head _ | refine .tail _ ?_ | refine List.mem_append_right _ ?_)) (by first | exact At.all _ | with_reducible assumption | assumption) (by first | with_reducible rfl | with_reducible assumption | (simp; done) | (simp; omega) | rfl)) (by first | with_reducible assumption | rfl | (simp [Value.oneCell']; done)) rfl rfl rfl rfl (by simp) (by decide) (by simp) rfl trivial rfl (fun vO esO hfO => ?_)
  refine Tr.assign rfl rfl trivial rfl ?_
  refine Tr.nil ?_ (fun _ => rfl) (List.Perm.refl _)
  refine Wp.reg allGen ?_
  refine Tr.move rfl rfl trivial rfl ?_
  refine Tr.add rfl rfl (by first | exact wrap_i64 (by omega) (by omega) | rfl) rfl trivial rfl ?_
  refine Tr.assign rfl rfl trivial rfl ?_
  refine Tr.nil ?_ (fun _ => rfl) (List.Perm.refl _)
  refine WpL.step ?_
  refine Wp.seq ?_
  refine Wp.seq ?_
  refine Wp.reg allGen ?_
  refine Tr.move rfl rfl trivial rfl ?_
  refine Tr.lss rfl rfl (by first | with_reducible assumption | exact decide_eq_true (by omega) | exact decide_eq_false (by omega) | exact beq_iff_eq.2 (by omega) | exact beq_eq_false_iff_ne.2 (by omega) | exact bne_iff_ne.2 (by omega) | rfl) rfl trivial rfl ?_
  refine Tr.nil ?_ (fun _ => rfl) (List.Perm.refl _)
  refine Wp.condT rfl ?_
  refine Wp.skip ?_
  refine Wp.seq ?_
  refine Wp.block ?_
  refine Wp.reg allGen ?_
  refine Tr.move rfl rfl trivial rfl ?_
  refine Tr.move rfl rfl trivial rfl ?_
  first | refine Tr.indexAddr01 tab rfl rfl rfl rfl rfl (by omega) (by omega) rfl trivial rfl ?_ | refine Tr.indexAddr1 tab rfl rfl rfl rfl rfl (by omega) (by omega) rfl trivial rfl ?_
  refine Tr.loadS tab rfl rfl rfl (by repeat (first | exact .head _ | refine .tail _ ?_ | refine List.mem_append_right _ ?_)) (by first | rfl | with_reducible assumption | assumption | (simp; done)) rfl trivial rfl ?_
  refine Tr.conv tab rfl rfl rfl rfl (by first | exact conv_u32_i64 _ | exact wrap_i64 (by omega) (by omega) | rfl) rfl trivial rfl ?_
  refine Tr.buildSlice tab rfl rfl rfl rfl rfl rfl (by simp [fillC, splice, vcells, Value.cells, zrep_one]; rfl) rfl trivial rfl (fun _ _ => ?_)
  refine Tr.appendF tab rfl hfO (by repeat (first | exact Take.app _ _ | exact Take.self _ | exact Take.nil | apply Take.skip)) rfl (SrcOf.row (by repeat (first | exact .head _ | refine .tail _ ?_ | refine List.mem_append_right _ ?_)) (by first | exact At.all _ | with_reducible assumption | assumption) (by first | with_reducible rfl | with_reducible assumption | (simp; done) | (simp; omega) | rfl)) (by first | with_reducible assumption | rfl | (simp [Value.oneCell']; done)) rfl rfl rfl rfl (by simp) (by decide) (by simp) rfl trivial rfl (fun vO esO hfO => ?_)
  refine Tr.assign rfl rfl trivial rfl ?_
  refine Tr.nil ?_ (fun _ => rfl) (List.Perm.refl _)
  refine Wp.reg allGen ?_
  refine Tr.move rfl rfl trivial rfl ?_
  refine Tr.add rfl rfl (by first | exact wrap_i64 (by omega) (by omega) | rfl) rfl trivial rfl ?_
  refine Tr.assign rfl rfl trivial rfl ?_
  refine Tr.nil ?_ (fun _ => rfl) (List.Perm.refl _)
  refine WpL.step ?_
  refine Wp.seq ?_
  refine Wp.seq ?_
  refine Wp.reg allGen ?_
  refine Tr.move rfl rfl trivial rfl ?_
  refine Tr.lss rfl rfl (by first | with_reducible assumption | exact decide_eq_true (by omega) | exact decide_eq_false (by omega) | exact beq_iff_eq.2 (by omega) | exact beq_eq_false_iff_ne.2 (by omega) | exact bne_iff_ne.2 (by omega) | rfl) rfl trivial rfl ?_
  refine Tr.nil ?_ (fun _ => rfl) (List.Perm.refl _)
  refine Wp.condT rfl ?_
  refine Wp.skip ?_
  refine Wp.seq ?_
  refine Wp.block ?_
  refine Wp.reg allGen ?_
  refine Tr.move rfl rfl trivial rfl ?_
  refine Tr.move rfl rfl trivial rfl ?_
  first | refine Tr.indexAddr01 tab rfl rfl rfl rfl rfl (by omega) (by omega) rfl trivial rfl ?_ | refine Tr.indexAddr1 tab rfl rfl rfl rfl rfl (by omega) (by omega) rfl trivial rfl ?_
  refine Tr.loadS tab rfl rfl rfl (by repeat (first | exact .head _ | refine .tail _ ?_ | refine List.mem_append_right _ ?_)) (by first | rfl | with_reducible assumption | assumption | (simp; done)) rfl trivial rfl ?_
  refine Tr.conv tab rfl rfl rfl rfl (by first | exact conv_u32_i64 _ | exact wrap_i64 (by omega) (by omega) | rfl) rfl trivial rfl ?_
  refine Tr.buildSlice tab rfl rfl rfl rfl rfl rfl (by simp [fillC, splice, vcells, Value.cells, zrep_one]; rfl) rfl trivial rfl (fun _ _ => ?_)
  refine Tr.appendF tab rfl hfO (by repeat (first | exact Take.app _ _ | exact Take.self _ | exact Take.nil | apply Take.skip)) rfl (SrcOf.row (by repeat (first | exact .head _ | refine .tail _ ?_ | refine List.mem_append_right _ ?_)) (by first | exact At.all _ | with_reducible assumption | assumption) (by first | with_reducible rfl | with_reducible assumption | (simp; done) | (simp; omega) | rfl)) (by first | with_reducible assumption | rfl | (simp [Value.oneCell']; done)) rfl rfl rfl rfl (by simp) (by decide) (by simp) rfl trivial rfl (fun vO esO hfO => ?_)
  refine Tr.assign rfl rfl trivial rfl ?_
  refine Tr.nil ?_ (fun _ => rfl) (List.Perm.refl _)
  refine Wp.reg allGen ?_
  refine Tr.move rfl rfl trivial rfl ?_
  refine Tr.add rfl rfl (by first | exact wrap_i64 (by omega) (by omega) | rfl) rfl trivial rfl ?_
  refine Tr.assign rfl rfl trivial rfl ?_
  refine Tr.nil ?_ (fun _ => rfl) (List.Perm.refl _)
  refine WpL.step ?_
  refine Wp.seq ?_
  refine Wp.seq ?_
  refine Wp.reg allGen ?_
  refine Tr.move rfl rfl trivial rfl ?_
  refine Tr.lss rfl rfl (by first | with_reducible assumption | exact decide_eq_true (by omega) | exact decide_eq_false (by omega) | exact beq_iff_eq.2 (by omega) | exact beq_eq_false_iff_ne.2 (by omega) | exact bne_iff_ne.2 (by omega) | rfl) rfl trivial rfl ?_
  refine Tr.nil ?_ (fun _ => rfl) (List.Perm.refl _)
  refine Wp.condF rfl ?_
  refine Wp.exit ?_
  refine Wp.seq ?_
  refine Wp.reg allGen ?_
  have hfS : Fresh (w32s s.l) _ _ := hfO
  obtain ⟨bS, preS, spS, rfl, rfl⟩ := hfS.row (n := 8) rfl (by decide)
  refine Tr.callG rfl hrn Has.nil rfl trivial rfl ?_
  rintro _ es hf
  obtain ⟨bK, preK, spK, rfl, rfl⟩ := hf.row (n := 64) hK' (by decide)
  refine Tr.move rfl rfl trivial rfl ?_
  refine Tr.move rfl rfl trivial rfl ?_
  refine Tr.callG rfl (h38 bK preK.length (64 + spK.length) bS preS.length (8 + spS.length) _ _ ⟨preK, spK, rfl, rfl⟩ ⟨preS, spS, rfl, rfl⟩) (Has.cons (by repeat (first | exact .head _ | refine .tail _ ?_ | refine List.mem_append_right _ ?_)) (Has.cons (by repeat (first | exact .head _ | refine .tail _ ?_ | refine List.mem_append_right _ ?_)) (Has.cons (by repeat (first | exact hmem | refine .tail _ ?_)) Has.nil))) rfl trivial rfl ?_
  rintro _ es hf9
  obtain ⟨b9, pre9, sp9, rfl, rfl⟩ := hf9.row (n := 8) rfl (by decide)
  refine Tr.assign rfl rfl trivial rfl ?_
  refine Tr.nil ?_ (fun _ => rfl) (List.Perm.refl _)
  refine Wp.seq ?_
  refine Wp.seq ?_
  refine Wp.reg allGen ?_
  refine Tr.assign rfl rfl trivial rfl ?_
  refine Tr.nil ?_ (fun _ => rfl) (List.Perm.refl _)
  refine Wp.block ?_
  refine Wp.loopQ (blocks_loop rfl S B5 b9 pre9.length (8 + sp9.length) _ (i64 0) ⟨pre9, sp9, rfl, rfl⟩ 8 0 rfl) (Wk.mk (by repeat (first | exact ESub.nil | refine ESub.cons rfl (by first | rfl | (simp; done) | (simp; omega)) ?_)) (by repeat (first | exact MSub.nil | refine MSub.cons (by repeat (first | exact .here | apply Pick.there | apply Pick.append)) (by first | rfl | (simp; done)) ?_))) ?_
  rintro _ env2 mem2 ⟨rfl, hk2⟩
  refine Wp.weak ?_ hk2
  refine Wp.seq ?_
  refine Wp.reg allGen ?_
  refine Tr.call rfl f23_awake Has.nil rfl trivial rfl ?_
  refine Tr.move rfl rfl trivial rfl ?_
  first | refine Tr.skp rfl ⟨_, _, rfl, rfl, by first | exact .inl rfl | exact .inr rfl⟩ ?_ | (refine Tr.move rfl rfl ⟨_, rfl, rfl⟩ rfl ?_)
  first | refine Tr.skp rfl ⟨_, _, rfl, rfl, by first | exact .inl rfl | exact .inr rfl⟩ ?_ | (refine Tr.eql rfl rfl (by first | with_reducible assumption | exact decide_eq_true (by omega) | exact decide_eq_false (by omega) | exact beq_iff_eq.2 (by omega) | exact beq_eq_false_iff_ne.2 (by omega) | exact bne_iff_ne.2 (by omega) | rfl) rfl ⟨_, rfl, rfl⟩ rfl ?_)
  first | refine Tr.pickT rfl rfl rfl trivial rfl ?_ | refine Tr.pickF rfl rfl rfl trivial rfl ?_
  refine Tr.assign rfl rfl trivial rfl ?_
  refine Tr.nil ?_ (fun _ => rfl) (List.Perm.refl _)
  refine Wp.ret ?_
  refine ⟨by first | exact .inl rfl | exact .inr rfl, ?_⟩
  exact .r1 rfl (RvIs.tmp rfl)

theorem f8_all (hd : dd.length ≤ 9223372036854775807) : FnR Try.prog 8 [.agg (u32s st).toArray, .slice a0 dd.length cp] rd (.bool true) := by
  by_cases h1 : 200 < dd.length
  · exact f8_far a0 dd cp rd hrd st h1 hd
  · by_cases h2 : dd.length = 64
    · exact f8_yes a0 dd cp rd hsrc hrd st hst h2
    · exact f8_no a0 dd cp rd hrd st hst (by omega) h2
end
end Go.Proofs.Ytffghaeaohabhaa.AW
