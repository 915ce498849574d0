import Derived.Test.YtffghaeaohabhaaR19
import Derived.Test.YtffghaeaohabhaaC7
namespace Go.Proofs.Ytffghaeaohabhaa.AW
open Go NT
set_option maxRecDepth 100000

/-! ### num -/
def loop82 : Code := (Code.seq (Code.seq (Code.region 3 #[{ dst := (some 5), op := (Op.move (Operand.tmp 4)), type := 3, pos := "ref.go:12", after := #[], guard := none }, { dst := (some 6), op := (Op.binOp BinOp.lss 3 (Operand.tmp 5) (Operand.const (Value.int IntKind.i64 4)) 3), type := 4, pos := "ref.go:12", after := #[{ on := 0, ground := Ground.data }], guard := none }] false) (Code.cond (Operand.tmp 6) Code.skip (Code.exit 0))) (Code.seq (Code.block 1 (Code.seq (Code.region 5 #[{ dst := (some 9), op := (Op.move (Operand.tmp 4)), type := 3, pos := "ref.go:13", after := #[], guard := none }, { dst := (some 10), op := (Op.move (Operand.tmp 0)), type := 3, pos := "ref.go:13", after := #[], guard := none }, { dst := (some 11), op := (Op.binOp BinOp.rem 3 (Operand.tmp 10) (Operand.const (Value.int IntKind.i64 256)) 3), type := 3, pos := "ref.go:13", after := #[{ on := 1, ground := Ground.data }], guard := none }, { dst := (some 12), op := (Op.convert 3 5 (Operand.tmp 11)), type := 5, pos := "ref.go:13", after := #[{ on := 2, ground := Ground.data }], guard := none }, { dst := (some 13), op := (Op.indexAddr 37 (Operand.tmp 3) (Operand.tmp 9)), type := 0, pos := "ref.go:13", after := #[{ on := 0, ground := Ground.data }, { on := 0, ground := Ground.phase }, { on := 1, ground := Ground.phase }, { on := 2, ground := Ground.phase }, { on := 3, ground := Ground.phase }], guard := none }, { dst := none, op := (Op.store 5 (Operand.tmp 13) (Operand.tmp 12)), type := 0, pos := "ref.go:13", after := #[{ on := 4, ground := Ground.data }, { on := 3, ground := Ground.data }, { on := 0, ground := Ground.phase }, { on := 1, ground := Ground.phase }, { on := 2, ground := Ground.phase }, { on := 3, ground := Ground.phase }], guard := none }] false) (Code.region 6 #[{ dst := (some 14), op := (Op.move (Operand.tmp 0)), type := 3, pos := "ref.go:14", after := #[], guard := none }, { dst := (some 15), op := (Op.binOp BinOp.quo 3 (Operand.tmp 14) (Operand.const (Value.int IntKind.i64 256)) 3), type := 3, pos := "ref.go:14", after := #[{ on := 0, ground := Ground.data }], guard := none }, { dst := (some 0), op := (Op.assign (Operand.tmp 15)), type := 3, pos := "ref.go:14", after := #[{ on := 1, ground := Ground.data }, { on := 0, ground := Ground.phase }, { on := 1, ground := Ground.phase }], guard := none }] false))) (Code.region 4 #[{ dst := (some 7), op := (Op.move (Operand.tmp 4)), type := 3, pos := "ref.go:12", after := #[], guard := none }, { dst := (some 8), op := (Op.binOp BinOp.add 3 (Operand.tmp 7) (Operand.const (Value.int IntKind.i64 1)) 3), type := 3, pos := "ref.go:12", after := #[{ on := 0, ground := Ground.data }], guard := none }, { dst := (some 4), op := (Op.assign (Operand.tmp 8)), type := 3, pos := "ref.go:12", after := #[{ on := 1, ground := Ground.data }, { on := 0, ground := Ground.phase }, { on := 1, ground := Ground.phase }], guard := none }] false)))
theorem b8_set (n i : Nat) (hi : i < 32) : (b8 i n ++ List.replicate (32 - i) (0 : UInt8)).set i (UInt8.ofNat (n / 256 ^ i)) = b8 (i + 1) n ++ List.replicate (32 - (i + 1)) 0 := by
  have hl := b8_len i n
  rw [show 32 - i = (32 - (i + 1)) + 1 by omega, List.replicate_succ, List.set_append_right _ _ (by omega), hl, Nat.sub_self, List.set_cons_zero, b8_snoc, List.append_assoc]
  rfl

theorem num_loop {g : Gh} (hg : g.n = 17) (n : Nat) (hn : n < 4294967296) (b2 b3 : Nat) (z2 : List Value) : ∀ (r i : Nat), i + r = 4 →
    WpL Try.prog g loop82 (fun e env mem => e = .exit 0 ∧ Wk g env mem [(2, pt b2), (3, pt b3)] [⟨b3, u8s (b8 4 n ++ List.replicate 28 0), true⟩, ⟨b2, z2, true⟩])
      [(0, i64 ((n / 256 ^ i : Nat) : Int)), (2, pt b2), (3, pt b3), (4, i64 i)] [⟨b3, u8s (b8 i n ++ List.replicate (32 - i) 0), true⟩, ⟨b2, z2, true⟩] := by
  obtain ⟨gn, w0, may⟩ := g
  obtain rfl : gn = 17 := hg
  intro r
  induction r with
  | zero =>
    intro i hi
    obtain rfl : i = 4 := by omega
    refine WpL.step ?_
    refine Wp.seq ?_
    refine Wp.seq ?_
    refine Wp.reg allGen ?_
    refine Tr.move rfl rfl trivial rfl ?_
    refine Tr.lss rfl rfl (by first | with_reducible assumption | exact decide_eq_true (by omega) | exact decide_eq_false (by omega) | exact beq_iff_eq.2 (by omega) | exact beq_eq_false_iff_ne.2 (by omega) | exact bne_iff_ne.2 (by omega) | rfl) rfl trivial rfl ?_
    refine Tr.nil ?_ (fun _ => rfl) (List.Perm.refl _)
    refine Wp.condF rfl ?_
    refine Wp.exit ?_
    exact ⟨rfl, Wk.mk (by repeat (first | exact ESub.nil | refine ESub.cons rfl (by first | rfl | (simp; done) | (simp; omega)) ?_)) (by repeat (first | exact MSub.nil | refine MSub.cons (by repeat (first | exact .here | apply Pick.there | apply Pick.append)) (by first | rfl | (simp; done)) ?_))⟩
  | succ r ih =>
    intro i hi
    have hih := ih (i + 1) (by omega)
    rw [← b8_set n i (by omega), ← u8s_put, Nat.pow_succ, ← Nat.div_div_eq_div_mul] at hih
    have hq : n / 256 ^ i < 4294967296 := Nat.lt_of_le_of_lt (Nat.div_le_self _ _) hn
    have hlen : (u8s (b8 i n ++ List.replicate (32 - i) (0 : UInt8))).length = 32 := by simp [b8_len]; omega
    have ho := ofNat_val (n / 256 ^ i)
    have hdl := (UInt8.ofNat (n / 256 ^ i)).toNat_lt
    have ei : ((i : Nat) : Int).toNat = i := by omega
    generalize UInt8.ofNat (n / 256 ^ i) = d at *
    generalize n / 256 ^ i = x at *
    have hr : ((x : Nat) : Int).tmod 256 = ((d.toNat : Nat) : Int) := by rw [ho, Int.tmod_eq_emod_of_nonneg (by omega)]; omega
    have hqq := quoN x 256 (by omega)
    generalize u8s (b8 i n ++ List.replicate (32 - i) (0 : UInt8)) = L at *
    refine WpL.step ?_
    refine Wp.seq ?_
    refine Wp.seq ?_
    refine Wp.reg allGen ?_
    refine Tr.move rfl rfl trivial rfl ?_
    refine Tr.lss rfl rfl (by first | with_reducible assumption | exact decide_eq_true (by omega) | exact decide_eq_false (by omega) | exact beq_iff_eq.2 (by omega) | exact beq_eq_false_iff_ne.2 (by omega) | exact bne_iff_ne.2 (by omega) | rfl) rfl trivial rfl ?_
    refine Tr.nil ?_ (fun _ => rfl) (List.Perm.refl _)
    refine Wp.condT rfl ?_
    refine Wp.skip ?_
    refine Wp.seq ?_
    refine Wp.block ?_
    refine Wp.seq ?_
    refine Wp.reg allGen ?_
    refine Tr.move rfl rfl trivial rfl ?_
    refine Tr.move rfl rfl trivial rfl ?_
    refine Tr.rem rfl rfl (by omega) hr rfl trivial rfl ?_
    refine Tr.conv tab rfl rfl rfl rfl (by first | exact wrap_u8 (by omega) (by omega) | rfl) rfl trivial rfl ?_
    first | refine Tr.indexAddr01 tab rfl rfl rfl rfl rfl (by omega) (by omega) rfl trivial rfl ?_ | refine Tr.indexAddr1 tab rfl rfl rfl rfl rfl (by omega) (by omega) rfl trivial rfl ?_
    refine Tr.storeS tab rfl rfl rfl rfl (by repeat (first | exact .here | apply MU.there | apply MU.app)) (by omega) trivial rfl ?_
    refine Tr.nil ?_ (fun _ => rfl) (List.Perm.refl _)
    refine Wp.reg allGen ?_
    refine Tr.move rfl rfl trivial rfl ?_
    refine Tr.quo rfl rfl (by omega) hqq rfl trivial rfl ?_
    refine Tr.assign rfl rfl trivial rfl ?_
    refine Tr.nil ?_ (fun _ => rfl) (List.Perm.refl _)
    refine Wp.reg allGen ?_
    refine Tr.move rfl rfl trivial rfl ?_
    refine Tr.add rfl rfl (by first | exact wrap_i64 (by omega) (by omega) | rfl) rfl trivial rfl ?_
    refine Tr.assign rfl rfl trivial rfl ?_
    refine Tr.nil ?_ (fun _ => rfl) (List.Perm.refl _)
    exact WpL.weak hih (Wk.mk (by repeat (first | exact ESub.nil | refine ESub.cons rfl (by first | rfl | (simp; done) | (simp; omega)) ?_)) (by repeat (first | exact MSub.nil | refine MSub.cons (by repeat (first | exact .here | apply Pick.there | apply Pick.append)) (by first | rfl | (simp; done)) ?_)))

theorem b8_pad (n : Nat) (hn : n < 4294967296) : b8 4 n ++ List.replicate 28 0 = b8 32 n := by
  refine b8_of (by simp [b8_len]) ?_
  rw [n8_app, n8_b8 4 n (by simpa using hn)]
  have : n8 (List.replicate 28 0) = 0 := by decide
  rw [this, Nat.mul_zero, Nat.add_zero]

theorem f82_num (n : Nat) (hn : n < 4294967296) : FnR Try.prog 82 [i64 n] [] (.agg (u8s (b8 32 n)).toArray) := by
  have hl := fun {g : Gh} (hg : g.n = 17) b2 b3 z2 => num_loop hg n hn b2 b3 z2 4 0 (by omega)
  have hz : u8s (b8 0 n ++ List.replicate 32 0) = List.replicate 32 (Value.int .u8 0) := by simp [b8]
  rw [b8_pad n hn, Nat.sub_zero, hz, Nat.pow_zero, Nat.div_one] at hl
  have hlen := bt_len 32 n
  have hone := bt_one (b8 32 n)
  generalize u8s (b8 32 n) = O at *
  refine fnR_of 17 rfl Try.func82 rfl (by kernel_rfl) rfl (by simp) fun w => ?_
  refine Wp.seq ?_
  refine Wp.reg allGen ?_
  refine Tr.alloc tab rfl rfl trivial rfl (fun B2 _ => ?_)
  refine Tr.nil ?_ (fun _ => rfl) (List.Perm.refl _)
  refine Wp.seq ?_
  refine Wp.reg allGen ?_
  refine Tr.alloc tab rfl rfl trivial rfl (fun B3 _ => ?_)
  refine Tr.nil ?_ (fun _ => rfl) (List.Perm.refl _)
  refine Wp.seq ?_
  refine Wp.seq ?_
  refine Wp.reg allGen ?_
  refine Tr.assign rfl rfl trivial rfl ?_
  refine Tr.nil ?_ (fun _ => rfl) (List.Perm.refl _)
  refine Wp.block ?_
  refine Wp.loopQ (hl rfl B2 B3 _) (Wk.mk (by repeat (first | exact ESub.nil | refine ESub.cons rfl (by first | rfl | (simp; done) | (simp; omega)) ?_)) (by repeat (first | exact MSub.nil | refine MSub.cons (by repeat (first | exact .here | apply Pick.there | apply Pick.append)) (by first | rfl | (simp; done)) ?_))) ?_
  rintro _ env1 mem1 ⟨rfl, hw1⟩
  refine Wp.weak ?_ hw1
  refine Wp.seq ?_
  refine Wp.reg allGen ?_
  refine Tr.loadA tab rfl rfl rfl (by repeat (first | exact .head _ | refine .tail _ ?_ | refine List.mem_append_right _ ?_)) (At.all _) hlen rfl trivial rfl ?_
  refine Tr.storeA tab rfl rfl rfl (by repeat (first | exact .here | apply MU.there | apply MU.app)) (by exact hlen) (by exact hlen) hone trivial rfl ?_
  refine Tr.nil ?_ (fun _ => rfl) (List.Perm.refl _)
  refine Wp.ret ?_
  exact ⟨.inr rfl, .r1 rfl (RvIs.cellA tab rfl rfl rfl (by repeat (first | exact .head _ | refine .tail _ ?_ | refine List.mem_append_right _ ?_)) (At.all _) hlen)⟩

/-! ### the reference's field -/
theorem r80_is (x : F) : FnR Try.prog 80 [bv x] [] (.bool true) := by
  have := f80_is (bF x) (bF_len x)
  rw [n8_bF, decide_eq_true x.isLt] at this
  exact this
theorem r81_mul (x y : F) : FnR Try.prog 81 [bv x, bv y] [] (bv (x * y)) := by
  have := f81_mul (bF x) (bF y) (bF_len x) (bF_len y)
  rw [n8_bF, n8_bF] at this
  have e : (x * y).val = x.val * y.val % P := Fin.val_mul x y
  show FnR _ _ _ _ (.agg (u8s (b8 32 (x * y).val)).toArray)
  rw [e]; exact this
theorem r95_add (x y : F) : FnR Try.prog 95 [bv x, bv y] [] (bv (x + y)) := by
  have := f95_add (bF x) (bF y) (bF_len x) (bF_len y)
  rw [n8_bF, n8_bF] at this
  have e : (x + y).val = (x.val + y.val) % P := Fin.val_add x y
  show FnR _ _ _ _ (.agg (u8s (b8 32 (x + y).val)).toArray)
  rw [e]; exact this
theorem r83_sub (x y : F) : FnR Try.prog 83 [bv x, bv y] [] (bv (x - y)) := by
  have := f83_sub (bF x) (bF y) (bF_len x) (bF_len y)
  rw [n8_bF, n8_bF, Nat.add_comm] at this
  have e : (x - y).val = (P - y.val + x.val) % P := Fin.val_sub x y
  show FnR _ _ _ _ (.agg (u8s (b8 32 (x - y).val)).toArray)
  rw [e]; exact this
theorem r82_num (n : Nat) (hn : n < 4294967296) : FnR Try.prog 82 [i64 n] [] (bv (mkF n)) := by
  have := f82_num n hn
  have e : (mkF n).val = n := mkF_lt (by rw [P_eq]; omega)
  show FnR _ _ _ _ (.agg (u8s (b8 32 (mkF n).val)).toArray)
  rw [e]; exact this
end Go.Proofs.Ytffghaeaohabhaa.AW
