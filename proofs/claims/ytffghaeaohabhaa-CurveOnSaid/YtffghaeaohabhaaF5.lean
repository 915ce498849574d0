import Derived.Test.YtffghaeaohabhaaF4
namespace Go.Proofs.Ytffghaeaohabhaa.AW
open Go NT
set_option maxRecDepth 100000

/-- an element's 32 bytes as a value -/
abbrev bv (a : F) : Value := .agg (u8s (bF a)).toArray
theorem bu_len (a : F) : (u8s (bF a)).length = 32 := by simp [bF_len]
theorem bu_one (l : List UInt8) : (u8s l).all Value.oneCell' = true := by simp [Value.oneCell']
theorem p256 : (256 : Nat) ^ 32 = 115792089237316195423570985008687907853269984665640564039457584007913129639936 := by decide
theorem F_lt (a : F) : a.val < 115792089237316195423570985008687907853269984665640564039457584007913129639936 := Nat.lt_trans a.isLt P_lt

theorem f92_is (l : List UInt8) (hl : l.length = 32) : FnR Try.prog 92 [.agg (u8s l).toArray] [] (.bool (decide (n8 l < P))) := by
  have hlt := n8_lt l
  rw [hl, p256] at hlt
  have hrd := f129_read l hl
  have hle := f130_less (n8 l) P hlt P_lt
  have hul : (u8s l).length = 32 := by simp [hl]
  have hn : (!decide (P ≤ n8 l)) = decide (n8 l < P) := by
    by_cases h : n8 l < P
    · rw [decide_eq_true h, decide_eq_false (by omega)]; rfl
    · rw [decide_eq_false h, decide_eq_true (by omega)]; rfl
  refine fnR_of 14 rfl Try.func92 rfl (by kernel_rfl) rfl (by simp) fun w => ?_
  refine Wp.seq ?_
  refine Wp.reg allGen ?_
  refine Tr.boxA rfl rfl trivial rfl (fun B1 _ => ?_)
  refine Tr.assign rfl rfl trivial rfl ?_
  refine Tr.nil ?_ (fun _ => rfl) (List.Perm.refl _)
  refine Wp.seq ?_
  refine Wp.reg allGen ?_
  refine Tr.loadA tab rfl rfl rfl (by repeat (first | exact .head _ | refine .tail _ ?_ | refine List.mem_append_right _ ?_)) (At.all _) hul rfl trivial rfl ?_
  refine Tr.call rfl hrd (by repeat (first | exact Has.nil | refine Has.cons (by repeat (first | exact .head _ | refine .tail _ ?_ | refine List.mem_append_right _ ?_)) ?_)) rfl trivial rfl ?_
  refine Tr.call rfl f131_prime (by repeat (first | exact Has.nil | refine Has.cons (by repeat (first | exact .head _ | refine .tail _ ?_ | refine List.mem_append_right _ ?_)) ?_)) rfl trivial rfl ?_
  refine Tr.call rfl hle (by repeat (first | exact Has.nil | refine Has.cons (by repeat (first | exact .head _ | refine .tail _ ?_ | refine List.mem_append_right _ ?_)) ?_)) rfl trivial rfl ?_
  refine Tr.move rfl rfl trivial rfl ?_
  refine Tr.extract rfl rfl rfl trivial rfl ?_
  refine Tr.extract rfl rfl rfl trivial rfl ?_
  refine Tr.alloc tab rfl rfl trivial rfl (fun B3 _ => ?_)
  refine Tr.storeA tab rfl rfl rfl (by repeat (first | exact .here | apply MU.there | apply MU.app)) (by exact el_len _) (by exact el_len _) (el_one _) trivial rfl ?_
  refine Tr.assign rfl rfl trivial rfl ?_
  refine Tr.nil ?_ (fun _ => rfl) (List.Perm.refl _)
  refine Wp.seq ?_
  refine Wp.reg allGen ?_
  refine Tr.move rfl rfl trivial rfl ?_
  refine Tr.not rfl hn rfl trivial rfl ?_
  refine Tr.assign rfl rfl trivial rfl ?_
  refine Tr.nil ?_ (fun _ => rfl) (List.Perm.refl _)
  refine Wp.ret ?_
  refine ⟨by first | exact .inl rfl | exact .inr rfl, ?_⟩
  exact .r1 rfl (RvIs.tmp rfl)

theorem f92_el (a : F) : FnR Try.prog 92 [bv a] [] (.bool true) := by
  have := f92_is (bF a) (bF_len a)
  rw [n8_bF, decide_eq_true a.isLt] at this
  exact this

theorem f129_el (a : F) : FnR Try.prog 129 [bv a] [] (el a.val) := by
  have := f129_read (bF a) (bF_len a)
  rw [n8_bF] at this
  exact this

theorem f154_two (a b : F) : FnR Try.prog 154 [bv a, bv b] [] (.tuple #[el a.val, el b.val, i64 0]) := by
  refine fnR_of 21 rfl Try.func154 rfl (by kernel_rfl) rfl (by simp) fun w => ?_
  refine Wp.seq ?_
  refine Wp.reg allGen ?_
  refine Tr.boxA rfl rfl trivial rfl (fun B2 _ => ?_)
  refine Tr.boxA rfl rfl trivial rfl (fun B3 _ => ?_)
  refine Tr.alloc tab rfl rfl trivial rfl (fun B4 _ => ?_)
  refine Tr.alloc tab rfl rfl trivial rfl (fun B5 _ => ?_)
  refine Tr.assign rfl rfl trivial rfl ?_
  refine Tr.nil ?_ (fun _ => rfl) (List.Perm.refl _)
  refine Wp.seq ?_
  refine Wp.seq ?_
  refine Wp.reg allGen ?_
  refine Tr.loadA tab rfl rfl rfl (by repeat (first | exact .head _ | refine .tail _ ?_ | refine List.mem_append_right _ ?_)) (At.all _) (bu_len _) rfl trivial rfl ?_
  refine Tr.call rfl (f92_el a) (by repeat (first | exact Has.nil | refine Has.cons (by repeat (first | exact .head _ | refine .tail _ ?_ | refine List.mem_append_right _ ?_)) ?_)) rfl trivial rfl ?_
  refine Tr.not rfl rfl rfl trivial rfl ?_
  refine Tr.move rfl rfl trivial rfl ?_
  first | refine Tr.skp rfl ⟨_, _, rfl, rfl, by first | exact .inl rfl | exact .inr rfl⟩ ?_ | (refine Tr.loadA tab rfl rfl rfl (by repeat (first | exact .head _ | refine .tail _ ?_ | refine List.mem_append_right _ ?_)) (At.all _) (bu_len _) rfl ⟨_, rfl, rfl⟩ rfl ?_)
  first | refine Tr.skp rfl ⟨_, _, rfl, rfl, by first | exact .inl rfl | exact .inr rfl⟩ ?_ | (refine Tr.call rfl (f92_el b) (by repeat (first | exact Has.nil | refine Has.cons (by repeat (first | exact .head _ | refine .tail _ ?_ | refine List.mem_append_right _ ?_)) ?_)) rfl ⟨_, rfl, rfl⟩ rfl ?_)
  first | refine Tr.skp rfl ⟨_, _, rfl, rfl, by first | exact .inl rfl | exact .inr rfl⟩ ?_ | (refine Tr.not rfl rfl rfl ⟨_, rfl, rfl⟩ rfl ?_)
  first | refine Tr.pickT rfl rfl rfl trivial rfl ?_ | refine Tr.pickF rfl rfl rfl trivial rfl ?_
  refine Tr.nil ?_ (fun _ => rfl) (List.Perm.refl _)
  refine Wp.condF rfl ?_
  refine Wp.skip ?_
  refine Wp.seq ?_
  refine Wp.regE kindOf mo (by kernel_rfl) ?_
  refine Tr.loadA tab rfl rfl rfl (by repeat (first | exact .head _ | refine .tail _ ?_ | refine List.mem_append_right _ ?_)) (At.all _) (bu_len _) rfl trivial rfl ?_
  refine Tr.call rfl (f129_el a) (by repeat (first | exact Has.nil | refine Has.cons (by repeat (first | exact .head _ | refine .tail _ ?_ | refine List.mem_append_right _ ?_)) ?_)) rfl trivial rfl ?_
  refine Tr.loadA tab rfl rfl rfl (by repeat (first | exact .head _ | refine .tail _ ?_ | refine List.mem_append_right _ ?_)) (At.all _) (bu_len _) rfl trivial rfl ?_
  refine Tr.call rfl (f129_el b) (by repeat (first | exact Has.nil | refine Has.cons (by repeat (first | exact .head _ | refine .tail _ ?_ | refine List.mem_append_right _ ?_)) ?_)) rfl trivial rfl ?_
  refine Tr.storeA tab rfl rfl rfl (by repeat (first | exact .here | apply MU.there | apply MU.app)) (by exact el_len _) (by exact el_len _) (el_one _) trivial rfl ?_
  refine Tr.storeA tab rfl rfl rfl (by repeat (first | exact .here | apply MU.there | apply MU.app)) (by exact el_len _) (by exact el_len _) (el_one _) trivial rfl ?_
  refine Tr.assign rfl rfl trivial rfl ?_
  refine Tr.nil ?_ (fun _ => rfl) (List.Perm.refl _)
  refine Wp.ret ?_
  exact ⟨.inr rfl, .r3 rfl (RvIs.cellA tab rfl rfl rfl (by repeat (first | exact .head _ | refine .tail _ ?_ | refine List.mem_append_right _ ?_)) (At.all _) (el_len _)) (RvIs.cellA tab rfl rfl rfl (by repeat (first | exact .head _ | refine .tail _ ?_ | refine List.mem_append_right _ ?_)) (At.all _) (el_len _)) (RvIs.tmp rfl)⟩

theorem sub_val (a b : F) : (a - b).val = (a.val + (P - b.val) % P) % P := by
  rw [Fin.sub_def]
  show (P - b.val + a.val) % P = _
  rw [Nat.add_mod_mod, Nat.add_comm]

theorem f127_add (a b : F) : FnR Try.prog 127 [bv a, bv b] [] (.tuple #[bv (a + b), i64 0]) := by
  have hA := f155_add a.val b.val (F_lt a) (F_lt b)
  rw [← add_val] at hA
  have hB := f139_bytes (a + b).val
  refine fnR_of 21 rfl Try.func127 rfl (by kernel_rfl) rfl (by simp) fun w => ?_
  refine Wp.seq ?_
  refine Wp.reg allGen ?_
  refine Tr.boxA rfl rfl trivial rfl (fun B2 _ => ?_)
  refine Tr.boxA rfl rfl trivial rfl (fun B3 _ => ?_)
  refine Tr.alloc tab rfl rfl trivial rfl (fun B4 _ => ?_)
  refine Tr.assign rfl rfl trivial rfl ?_
  refine Tr.nil ?_ (fun _ => rfl) (List.Perm.refl _)
  refine Wp.seq ?_
  refine Wp.reg allGen ?_
  refine Tr.loadA tab rfl rfl rfl (by repeat (first | exact .head _ | refine .tail _ ?_ | refine List.mem_append_right _ ?_)) (At.all _) (bu_len _) rfl trivial rfl ?_
  refine Tr.loadA tab rfl rfl rfl (by repeat (first | exact .head _ | refine .tail _ ?_ | refine List.mem_append_right _ ?_)) (At.all _) (bu_len _) rfl trivial rfl ?_
  refine Tr.call rfl (f154_two a b) (by repeat (first | exact Has.nil | refine Has.cons (by repeat (first | exact .head _ | refine .tail _ ?_ | refine List.mem_append_right _ ?_)) ?_)) rfl trivial rfl ?_
  refine Tr.move rfl rfl trivial rfl ?_
  refine Tr.extract rfl rfl rfl trivial rfl ?_
  refine Tr.extract rfl rfl rfl trivial rfl ?_
  refine Tr.extract rfl rfl rfl trivial rfl ?_
  refine Tr.alloc tab rfl rfl trivial rfl (fun B6 _ => ?_)
  refine Tr.alloc tab rfl rfl trivial rfl (fun B7 _ => ?_)
  refine Tr.storeA tab rfl rfl rfl (by repeat (first | exact .here | apply MU.there | apply MU.app)) (by exact el_len _) (by exact el_len _) (el_one _) trivial rfl ?_
  refine Tr.storeA tab rfl rfl rfl (by repeat (first | exact .here | apply MU.there | apply MU.app)) (by exact el_len _) (by exact el_len _) (el_one _) trivial rfl ?_
  refine Tr.assign rfl rfl trivial rfl ?_
  refine Tr.nil ?_ (fun _ => rfl) (List.Perm.refl _)
  refine Wp.seq ?_
  refine Wp.reg allGen ?_
  refine Tr.loadA tab rfl rfl rfl (by repeat (first | exact .head _ | refine .tail _ ?_ | refine List.mem_append_right _ ?_)) (At.all _) (el_len _) rfl trivial rfl ?_
  refine Tr.loadA tab rfl rfl rfl (by repeat (first | exact .head _ | refine .tail _ ?_ | refine List.mem_append_right _ ?_)) (At.all _) (el_len _) rfl trivial rfl ?_
  refine Tr.call rfl hA (by repeat (first | exact Has.nil | refine Has.cons (by repeat (first | exact .head _ | refine .tail _ ?_ | refine List.mem_append_right _ ?_)) ?_)) rfl trivial rfl ?_
  refine Tr.call rfl hB (by repeat (first | exact Has.nil | refine Has.cons (by repeat (first | exact .head _ | refine .tail _ ?_ | refine List.mem_append_right _ ?_)) ?_)) rfl trivial rfl ?_
  refine Tr.move rfl rfl trivial rfl ?_
  refine Tr.storeA tab rfl rfl rfl (by repeat (first | exact .here | apply MU.there | apply MU.app)) (by exact bu_len (a + b)) (by exact bu_len (a + b)) (bu_one _) trivial rfl ?_
  refine Tr.assign rfl rfl trivial rfl ?_
  refine Tr.nil ?_ (fun _ => rfl) (List.Perm.refl _)
  refine Wp.ret ?_
  exact ⟨.inr rfl, .r2 rfl (RvIs.cellA tab rfl rfl rfl (by repeat (first | exact .head _ | refine .tail _ ?_ | refine List.mem_append_right _ ?_)) (At.all _) (bu_len (a + b))) (RvIs.tmp rfl)⟩

theorem f128_sub (a b : F) : FnR Try.prog 128 [bv a, bv b] [] (.tuple #[bv (a - b), i64 0]) := by
  have hb := b.isLt
  have hP := P_pos
  have hN := f138_neg b.val (by omega)
  have hA := f155_add a.val ((P - b.val) % P) (F_lt a) (Nat.lt_trans (Nat.mod_lt _ hP) P_lt)
  rw [← sub_val] at hA
  have hB := f139_bytes (a - b).val
  refine fnR_of 22 rfl Try.func128 rfl (by kernel_rfl) rfl (by simp) fun w => ?_
  refine Wp.seq ?_
  refine Wp.reg allGen ?_
  refine Tr.boxA rfl rfl trivial rfl (fun B2 _ => ?_)
  refine Tr.boxA rfl rfl trivial rfl (fun B3 _ => ?_)
  refine Tr.alloc tab rfl rfl trivial rfl (fun B4 _ => ?_)
  refine Tr.assign rfl rfl trivial rfl ?_
  refine Tr.nil ?_ (fun _ => rfl) (List.Perm.refl _)
  refine Wp.seq ?_
  refine Wp.reg allGen ?_
  refine Tr.loadA tab rfl rfl rfl (by repeat (first | exact .head _ | refine .tail _ ?_ | refine List.mem_append_right _ ?_)) (At.all _) (bu_len _) rfl trivial rfl ?_
  refine Tr.loadA tab rfl rfl rfl (by repeat (first | exact .head _ | refine .tail _ ?_ | refine List.mem_append_right _ ?_)) (At.all _) (bu_len _) rfl trivial rfl ?_
  refine Tr.call rfl (f154_two a b) (by repeat (first | exact Has.nil | refine Has.cons (by repeat (first | exact .head _ | refine .tail _ ?_ | refine List.mem_append_right _ ?_)) ?_)) rfl trivial rfl ?_
  refine Tr.move rfl rfl trivial rfl ?_
  refine Tr.extract rfl rfl rfl trivial rfl ?_
  refine Tr.extract rfl rfl rfl trivial rfl ?_
  refine Tr.extract rfl rfl rfl trivial rfl ?_
  refine Tr.alloc tab rfl rfl trivial rfl (fun B6 _ => ?_)
  refine Tr.alloc tab rfl rfl trivial rfl (fun B7 _ => ?_)
  refine Tr.storeA tab rfl rfl rfl (by repeat (first | exact .here | apply MU.there | apply MU.app)) (by exact el_len _) (by exact el_len _) (el_one _) trivial rfl ?_
  refine Tr.storeA tab rfl rfl rfl (by repeat (first | exact .here | apply MU.there | apply MU.app)) (by exact el_len _) (by exact el_len _) (el_one _) trivial rfl ?_
  refine Tr.assign rfl rfl trivial rfl ?_
  refine Tr.nil ?_ (fun _ => rfl) (List.Perm.refl _)
  refine Wp.seq ?_
  refine Wp.regE kindOf mo (by kernel_rfl) ?_
  refine Tr.loadA tab rfl rfl rfl (by repeat (first | exact .head _ | refine .tail _ ?_ | refine List.mem_append_right _ ?_)) (At.all _) (el_len _) rfl trivial rfl ?_
  refine Tr.loadA tab rfl rfl rfl (by repeat (first | exact .head _ | refine .tail _ ?_ | refine List.mem_append_right _ ?_)) (At.all _) (el_len _) rfl trivial rfl ?_
  refine Tr.call rfl hN (by repeat (first | exact Has.nil | refine Has.cons (by repeat (first | exact .head _ | refine .tail _ ?_ | refine List.mem_append_right _ ?_)) ?_)) rfl trivial rfl ?_
  refine Tr.call rfl hA (by repeat (first | exact Has.nil | refine Has.cons (by repeat (first | exact .head _ | refine .tail _ ?_ | refine List.mem_append_right _ ?_)) ?_)) rfl trivial rfl ?_
  refine Tr.call rfl hB (by repeat (first | exact Has.nil | refine Has.cons (by repeat (first | exact .head _ | refine .tail _ ?_ | refine List.mem_append_right _ ?_)) ?_)) rfl trivial rfl ?_
  refine Tr.move rfl rfl trivial rfl ?_
  refine Tr.storeA tab rfl rfl rfl (by repeat (first | exact .here | apply MU.there | apply MU.app)) (by exact bu_len (a - b)) (by exact bu_len (a - b)) (bu_one _) trivial rfl ?_
  refine Tr.assign rfl rfl trivial rfl ?_
  refine Tr.nil ?_ (fun _ => rfl) (List.Perm.refl _)
  refine Wp.ret ?_
  exact ⟨.inr rfl, .r2 rfl (RvIs.cellA tab rfl rfl rfl (by repeat (first | exact .head _ | refine .tail _ ?_ | refine List.mem_append_right _ ?_)) (At.all _) (bu_len (a - b))) (RvIs.tmp rfl)⟩

theorem f132_mul (a b : F) : FnR Try.prog 132 [bv a, bv b] [] (.tuple #[bv (a * b), i64 0]) := by
  have hA := f136_mul a.val b.val (F_lt a) (F_lt b)
  rw [← mul_val] at hA
  have hB := f139_bytes (a * b).val
  refine fnR_of 21 rfl Try.func132 rfl (by kernel_rfl) rfl (by simp) fun w => ?_
  refine Wp.seq ?_
  refine Wp.reg allGen ?_
  refine Tr.boxA rfl rfl trivial rfl (fun B2 _ => ?_)
  refine Tr.boxA rfl rfl trivial rfl (fun B3 _ => ?_)
  refine Tr.alloc tab rfl rfl trivial rfl (fun B4 _ => ?_)
  refine Tr.assign rfl rfl trivial rfl ?_
  refine Tr.nil ?_ (fun _ => rfl) (List.Perm.refl _)
  refine Wp.seq ?_
  refine Wp.reg allGen ?_
  refine Tr.loadA tab rfl rfl rfl (by repeat (first | exact .head _ | refine .tail _ ?_ | refine List.mem_append_right _ ?_)) (At.all _) (bu_len _) rfl trivial rfl ?_
  refine Tr.loadA tab rfl rfl rfl (by repeat (first | exact .head _ | refine .tail _ ?_ | refine List.mem_append_right _ ?_)) (At.all _) (bu_len _) rfl trivial rfl ?_
  refine Tr.call rfl (f154_two a b) (by repeat (first | exact Has.nil | refine Has.cons (by repeat (first | exact .head _ | refine .tail _ ?_ | refine List.mem_append_right _ ?_)) ?_)) rfl trivial rfl ?_
  refine Tr.move rfl rfl trivial rfl ?_
  refine Tr.extract rfl rfl rfl trivial rfl ?_
  refine Tr.extract rfl rfl rfl trivial rfl ?_
  refine Tr.extract rfl rfl rfl trivial rfl ?_
  refine Tr.alloc tab rfl rfl trivial rfl (fun B6 _ => ?_)
  refine Tr.alloc tab rfl rfl trivial rfl (fun B7 _ => ?_)
  refine Tr.storeA tab rfl rfl rfl (by repeat (first | exact .here | apply MU.there | apply MU.app)) (by exact el_len _) (by exact el_len _) (el_one _) trivial rfl ?_
  refine Tr.storeA tab rfl rfl rfl (by repeat (first | exact .here | apply MU.there | apply MU.app)) (by exact el_len _) (by exact el_len _) (el_one _) trivial rfl ?_
  refine Tr.assign rfl rfl trivial rfl ?_
  refine Tr.nil ?_ (fun _ => rfl) (List.Perm.refl _)
  refine Wp.seq ?_
  refine Wp.reg allGen ?_
  refine Tr.loadA tab rfl rfl rfl (by repeat (first | exact .head _ | refine .tail _ ?_ | refine List.mem_append_right _ ?_)) (At.all _) (el_len _) rfl trivial rfl ?_
  refine Tr.loadA tab rfl rfl rfl (by repeat (first | exact .head _ | refine .tail _ ?_ | refine List.mem_append_right _ ?_)) (At.all _) (el_len _) rfl trivial rfl ?_
  refine Tr.call rfl hA (by repeat (first | exact Has.nil | refine Has.cons (by repeat (first | exact .head _ | refine .tail _ ?_ | refine List.mem_append_right _ ?_)) ?_)) rfl trivial rfl ?_
  refine Tr.call rfl hB (by repeat (first | exact Has.nil | refine Has.cons (by repeat (first | exact .head _ | refine .tail _ ?_ | refine List.mem_append_right _ ?_)) ?_)) rfl trivial rfl ?_
  refine Tr.move rfl rfl trivial rfl ?_
  refine Tr.storeA tab rfl rfl rfl (by repeat (first | exact .here | apply MU.there | apply MU.app)) (by exact bu_len (a * b)) (by exact bu_len (a * b)) (bu_one _) trivial rfl ?_
  refine Tr.assign rfl rfl trivial rfl ?_
  refine Tr.nil ?_ (fun _ => rfl) (List.Perm.refl _)
  refine Wp.ret ?_
  exact ⟨.inr rfl, .r2 rfl (RvIs.cellA tab rfl rfl rfl (by repeat (first | exact .head _ | refine .tail _ ?_ | refine List.mem_append_right _ ?_)) (At.all _) (bu_len (a * b))) (RvIs.tmp rfl)⟩

/-! ### power -/
def loop134 : Code := (Code.seq (Code.seq (Code.region 3 #[{ dst := (some 12), op := (Op.move (Operand.tmp 8)), type := 3, pos := "field.go:116", after := #[], guard := none }, { dst := (some 13), op := (Op.binOp BinOp.geq 3 (Operand.tmp 12) (Operand.const (Value.int IntKind.i64 0)) 3), type := 4, pos := "field.go:116", after := #[{ on := 0, ground := Ground.data }], guard := none }] false) (Code.cond (Operand.tmp 13) Code.skip (Code.exit 0))) (Code.seq (Code.block 1 (Code.seq (Code.region 5 #[{ dst := (some 16), op := (Op.load 148 (Operand.tmp 7)), type := 148, pos := "field.go:117", after := #[], guard := none }, { dst := (some 17), op := (Op.load 148 (Operand.tmp 7)), type := 148, pos := "field.go:117", after := #[], guard := none }, { dst := (some 18), op := (Op.call { callee := (Callee.value (Operand.func 136)), args := #[(Operand.tmp 16), (Operand.tmp 17)], argTypes := #[148, 148] }), type := 148, pos := "field.go:117", after := #[{ on := 0, ground := Ground.data }, { on := 1, ground := Ground.data }], guard := none }, { dst := none, op := (Op.store 148 (Operand.tmp 7) (Operand.tmp 18)), type := 0, pos := "field.go:117", after := #[{ on := 2, ground := Ground.data }, { on := 2, ground := Ground.chain }, { on := 0, ground := Ground.phase }, { on := 1, ground := Ground.phase }, { on := 2, ground := Ground.phase }], guard := none }] false) (Code.seq (Code.region 6 #[{ dst := (some 19), op := (Op.move (Operand.tmp 2)), type := 35, pos := "field.go:118", after := #[], guard := none }, { dst := (some 20), op := (Op.move (Operand.tmp 8)), type := 3, pos := "field.go:118", after := #[], guard := none }, { dst := (some 21), op := (Op.call { callee := (Callee.value (Operand.tmp 19)), args := #[(Operand.tmp 20)], argTypes := #[3] }), type := 4, pos := "field.go:118", after := #[{ on := 0, ground := Ground.data }, { on := 1, ground := Ground.data }], guard := none }] false) (Code.cond (Operand.tmp 21) (Code.region 7 #[{ dst := (some 22), op := (Op.load 148 (Operand.tmp 7)), type := 148, pos := "field.go:119", after := #[], guard := none }, { dst := (some 23), op := (Op.load 148 (Operand.tmp 3)), type := 148, pos := "field.go:119", after := #[], guard := none }, { dst := (some 24), op := (Op.call { callee := (Callee.value (Operand.func 136)), args := #[(Operand.tmp 22), (Operand.tmp 23)], argTypes := #[148, 148] }), type := 148, pos := "field.go:119", after := #[{ on := 0, ground := Ground.data }, { on := 1, ground := Ground.data }], guard := none }, { dst := none, op := (Op.store 148 (Operand.tmp 7) (Operand.tmp 24)), type := 0, pos := "field.go:119", after := #[{ on := 2, ground := Ground.data }, { on := 2, ground := Ground.chain }, { on := 0, ground := Ground.phase }, { on := 1, ground := Ground.phase }, { on := 2, ground := Ground.phase }], guard := none }] false) Code.skip)))) (Code.region 4 #[{ dst := (some 14), op := (Op.move (Operand.tmp 8)), type := 3, pos := "field.go:116", after := #[], guard := none }, { dst := (some 15), op := (Op.binOp BinOp.sub 3 (Operand.tmp 14) (Operand.const (Value.int IntKind.i64 1)) 3), type := 3, pos := "field.go:116", after := #[{ on := 0, ground := Ground.data }], guard := none }, { dst := (some 8), op := (Op.assign (Operand.tmp 15)), type := 3, pos := "field.go:116", after := #[{ on := 1, ground := Ground.data }, { on := 0, ground := Ground.phase }, { on := 1, ground := Ground.phase }], guard := none }] false)))

theorem power_loop' {g : Gh} (hg : g.n = 26) (b3 b6 b7 : Nat) (x : F) (f : Nat) (fst cap : List Value) (bf : Nat → Bool) (z6 : List Value) : ∀ (r acc : Nat), r ≤ 1000 → (∀ i, i < r → FnR Try.prog f (fst ++ [i64 (i : Int)] ++ cap) [] (.bool (bf i))) →
    WpL Try.prog g loop134 (fun e env mem => e = .exit 0 ∧ Wk g env mem [(6, .pointer (some ⟨b6, 0, none⟩)), (7, .pointer (some ⟨b7, 0, none⟩))] [⟨b7, u64s (w64 4 (fpow x (expL bf r acc)).val), true⟩, ⟨b6, z6, true⟩])
      [(2, .func (.func f) fst.toArray cap.toArray), (3, .pointer (some ⟨b3, 0, none⟩)), (6, .pointer (some ⟨b6, 0, none⟩)), (7, .pointer (some ⟨b7, 0, none⟩)), (8, i64 ((r : Int) - 1))]
      [⟨b7, u64s (w64 4 (fpow x acc).val), true⟩, ⟨b6, z6, true⟩, ⟨b3, u64s (w64 4 x.val), true⟩] := by
  obtain ⟨gn, w0, may⟩ := g
  obtain rfl : gn = 26 := hg
  intro r
  induction r with
  | zero =>
    intro acc _ hb
    refine WpL.step ?_
    refine Wp.seq ?_
    refine Wp.seq ?_
    refine Wp.reg allGen ?_
    refine Tr.move rfl rfl trivial rfl ?_
    refine Tr.geq rfl rfl (by first | with_reducible assumption | exact decide_eq_true (by omega) | exact decide_eq_false (by omega) | exact beq_iff_eq.2 (by omega) | exact beq_eq_false_iff_ne.2 (by omega) | exact bne_iff_ne.2 (by omega) | rfl) rfl trivial rfl ?_
    refine Tr.nil ?_ (fun _ => rfl) (List.Perm.refl _)
    refine Wp.condF rfl ?_
    refine Wp.exit ?_
    exact ⟨rfl, Wk.mk (by repeat (first | exact ESub.nil | refine ESub.cons rfl (by first | rfl | (simp; done) | (simp; omega)) ?_)) (by repeat (first | exact MSub.nil | refine MSub.cons (by repeat (first | exact .here | apply Pick.there | apply Pick.append)) (by first | rfl | (simp; done)) ?_))⟩
  | succ r ih =>
    intro acc hr hb
    have e1 : ((r + 1 : Nat) : Int) - 1 = (r : Int) := by omega
    rw [e1]
    have hbit := hb r (by omega)
    have hsq := f136_mul (fpow x acc).val (fpow x acc).val (F_lt _) (F_lt _)
    rw [← mul_val, ← fpow_add, show acc + acc = 2 * acc by omega] at hsq
    cases hbr : bf r with
    | false =>
      have hex : expL bf (r + 1) acc = expL bf r (2 * acc) := by simp [expL, hbr]
      have hih := ih (2 * acc) (by omega) (fun i hi => hb i (by omega))
      rw [hbr] at hbit
      rw [hex]
      refine WpL.step ?_
      refine Wp.seq ?_
      refine Wp.seq ?_
      refine Wp.reg allGen ?_
      refine Tr.move rfl rfl trivial rfl ?_
      refine Tr.geq rfl rfl (by first | with_reducible assumption | exact decide_eq_true (by omega) | exact decide_eq_false (by omega) | exact beq_iff_eq.2 (by omega) | exact beq_eq_false_iff_ne.2 (by omega) | exact bne_iff_ne.2 (by omega) | rfl) rfl trivial rfl ?_
      refine Tr.nil ?_ (fun _ => rfl) (List.Perm.refl _)
      refine Wp.condT rfl ?_
      refine Wp.skip ?_
      refine Wp.seq ?_
      refine Wp.block ?_
      refine Wp.seq ?_
      refine Wp.reg allGen ?_
      refine Tr.loadA tab rfl rfl rfl (by repeat (first | exact .head _ | refine .tail _ ?_ | refine List.mem_append_right _ ?_)) (At.all _) (el_len _) rfl trivial rfl ?_
      refine Tr.loadA tab rfl rfl rfl (by repeat (first | exact .head _ | refine .tail _ ?_ | refine List.mem_append_right _ ?_)) (At.all _) (el_len _) rfl trivial rfl ?_
      refine Tr.call rfl hsq (by repeat (first | exact Has.nil | refine Has.cons (by repeat (first | exact .head _ | refine .tail _ ?_ | refine List.mem_append_right _ ?_)) ?_)) rfl trivial rfl ?_
      refine Tr.storeA tab rfl rfl rfl (by repeat (first | exact .here | apply MU.there | apply MU.app)) (by exact el_len _) (by rw [el_len, el_len]) (el_one _) trivial rfl ?_
      refine Tr.nil ?_ (fun _ => rfl) (List.Perm.refl _)
      refine Wp.seq ?_
      refine Wp.reg allGen ?_
      refine Tr.move rfl rfl trivial rfl ?_
      refine Tr.move rfl rfl trivial rfl ?_
      refine Tr.callV (fst := fst) (cap := cap) rfl rfl hbit rfl trivial rfl ?_
      refine Tr.nil ?_ (fun _ => rfl) (List.Perm.refl _)
      refine Wp.condF rfl ?_
      refine Wp.skip ?_
      refine Wp.reg allGen ?_
      refine Tr.move rfl rfl trivial rfl ?_
      refine Tr.sub rfl rfl (by first | exact wrap_i64 (by omega) (by omega) | rfl) rfl trivial rfl ?_
      refine Tr.assign rfl rfl trivial rfl ?_
      refine Tr.nil ?_ (fun _ => rfl) (List.Perm.refl _)
      exact WpL.weak hih (Wk.mk (by repeat (first | exact ESub.nil | refine ESub.cons rfl (by first | rfl | (simp; done) | (simp; omega)) ?_)) (by repeat (first | exact MSub.nil | refine MSub.cons (by repeat (first | exact .here | apply Pick.there | apply Pick.append)) (by first | rfl | (simp; done)) ?_)))
    | true =>
      have hex : expL bf (r + 1) acc = expL bf r (2 * acc + 1) := by simp [expL, hbr]
      have hih := ih (2 * acc + 1) (by omega) (fun i hi => hb i (by omega))
      have hmx := f136_mul (fpow x (2 * acc)).val x.val (F_lt _) (F_lt _)
      rw [← mul_val, show fpow x (2 * acc) * x = fpow x (2 * acc + 1) from rfl] at hmx
      rw [hbr] at hbit
      rw [hex]
      refine WpL.step ?_
      refine Wp.seq ?_
      refine Wp.seq ?_
      refine Wp.reg allGen ?_
      refine Tr.move rfl rfl trivial rfl ?_
      refine Tr.geq rfl rfl (by first | with_reducible assumption | exact decide_eq_true (by omega) | exact decide_eq_false (by omega) | exact beq_iff_eq.2 (by omega) | exact beq_eq_false_iff_ne.2 (by omega) | exact bne_iff_ne.2 (by omega) | rfl) rfl trivial rfl ?_
      refine Tr.nil ?_ (fun _ => rfl) (List.Perm.refl _)
      refine Wp.condT rfl ?_
      refine Wp.skip ?_
      refine Wp.seq ?_
      refine Wp.block ?_
      refine Wp.seq ?_
      refine Wp.reg allGen ?_
      refine Tr.loadA tab rfl rfl rfl (by repeat (first | exact .head _ | refine .tail _ ?_ | refine List.mem_append_right _ ?_)) (At.all _) (el_len _) rfl trivial rfl ?_
      refine Tr.loadA tab rfl rfl rfl (by repeat (first | exact .head _ | refine .tail _ ?_ | refine List.mem_append_right _ ?_)) (At.all _) (el_len _) rfl trivial rfl ?_
      refine Tr.call rfl hsq (by repeat (first | exact Has.nil | refine Has.cons (by repeat (first | exact .head _ | refine .tail _ ?_ | refine List.mem_append_right _ ?_)) ?_)) rfl trivial rfl ?_
      refine Tr.storeA tab rfl rfl rfl (by repeat (first | exact .here | apply MU.there | apply MU.app)) (by exact el_len _) (by rw [el_len, el_len]) (el_one _) trivial rfl ?_
      refine Tr.nil ?_ (fun _ => rfl) (List.Perm.refl _)
      refine Wp.seq ?_
      refine Wp.reg allGen ?_
      refine Tr.move rfl rfl trivial rfl ?_
      refine Tr.move rfl rfl trivial rfl ?_
      refine Tr.callV (fst := fst) (cap := cap) rfl rfl hbit rfl trivial rfl ?_
      refine Tr.nil ?_ (fun _ => rfl) (List.Perm.refl _)
      refine Wp.condT rfl ?_
      refine Wp.reg allGen ?_
      refine Tr.loadA tab rfl rfl rfl (by repeat (first | exact .head _ | refine .tail _ ?_ | refine List.mem_append_right _ ?_)) (At.all _) (el_len _) rfl trivial rfl ?_
      refine Tr.loadA tab rfl rfl rfl (by repeat (first | exact .head _ | refine .tail _ ?_ | refine List.mem_append_right _ ?_)) (At.all _) (el_len _) rfl trivial rfl ?_
      refine Tr.call rfl hmx (by repeat (first | exact Has.nil | refine Has.cons (by repeat (first | exact .head _ | refine .tail _ ?_ | refine List.mem_append_right _ ?_)) ?_)) rfl trivial rfl ?_
      refine Tr.storeA tab rfl rfl rfl (by repeat (first | exact .here | apply MU.there | apply MU.app)) (by exact el_len _) (by rw [el_len, el_len]) (el_one _) trivial rfl ?_
      refine Tr.nil ?_ (fun _ => rfl) (List.Perm.refl _)
      refine Wp.reg allGen ?_
      refine Tr.move rfl rfl trivial rfl ?_
      refine Tr.sub rfl rfl (by first | exact wrap_i64 (by omega) (by omega) | rfl) rfl trivial rfl ?_
      refine Tr.assign rfl rfl trivial rfl ?_
      refine Tr.nil ?_ (fun _ => rfl) (List.Perm.refl _)
      exact WpL.weak hih (Wk.mk (by repeat (first | exact ESub.nil | refine ESub.cons rfl (by first | rfl | (simp; done) | (simp; omega)) ?_)) (by repeat (first | exact MSub.nil | refine MSub.cons (by repeat (first | exact .here | apply Pick.there | apply Pick.append)) (by first | rfl | (simp; done)) ?_)))

theorem one_words (x : F) : [u64 1, u64 0, u64 0, u64 0] = u64s (w64 4 (fpow x 0).val) := by
  have : (fpow x 0).val = 1 := one_val
  rw [this]; rfl

theorem f134_power (x : F) (n : Nat) (hn : n ≤ 1000) (f : Nat) (fst cap : List Value) (bf : Nat → Bool) (hb : ∀ i, i < n → FnR Try.prog f (fst ++ [i64 (i : Int)] ++ cap) [] (.bool (bf i))) :
    FnR Try.prog 134 [el x.val, i64 (n : Int), .func (.func f) fst.toArray cap.toArray] [] (el (fpow x (expL bf n 0)).val) := by
  have h1 := one_words x
  refine fnR_of 26 rfl Try.func134 rfl (by kernel_rfl) rfl (by simp) fun w => ?_
  refine Wp.seq ?_
  refine Wp.reg allGen ?_
  refine Tr.boxA rfl rfl trivial rfl (fun B3 _ => ?_)
  refine Tr.alloc tab rfl rfl trivial rfl (fun B6 _ => ?_)
  refine Tr.nil ?_ (fun _ => rfl) (List.Perm.refl _)
  refine Wp.seq ?_
  refine Wp.reg allGen ?_
  refine Tr.buildA (cs := [u64 1, u64 0, u64 0, u64 0]) tab rfl rfl rfl rfl (by rfl) rfl trivial rfl ?_
  refine Tr.alloc tab rfl rfl trivial rfl (fun B7 _ => ?_)
  refine Tr.storeA tab rfl rfl rfl (by repeat (first | exact .here | apply MU.there | apply MU.app)) (by rfl) (by rfl) rfl trivial rfl ?_
  rw [h1]
  refine Tr.nil ?_ (fun _ => rfl) (List.Perm.refl _)
  refine Wp.seq ?_
  refine Wp.seq ?_
  refine Wp.reg allGen ?_
  refine Tr.move rfl rfl trivial rfl ?_
  refine Tr.sub rfl rfl (by first | exact wrap_i64 (by omega) (by omega) | rfl) rfl trivial rfl ?_
  refine Tr.assign rfl rfl trivial rfl ?_
  refine Tr.nil ?_ (fun _ => rfl) (List.Perm.refl _)
  refine Wp.block ?_
  refine Wp.loopQ (power_loop' rfl B3 B6 B7 x f fst cap bf _ n 0 hn hb) (Wk.mk (by repeat (first | exact ESub.nil | refine ESub.cons rfl (by first | rfl | (simp; done) | (simp; omega)) ?_)) (by repeat (first | exact MSub.nil | refine MSub.cons (by repeat (first | exact .here | apply Pick.there | apply Pick.append)) (by first | rfl | (simp; done)) ?_))) ?_
  rintro _ env1 mem1 ⟨rfl, hk1⟩
  refine Wp.weak ?_ hk1
  refine Wp.seq ?_
  refine Wp.reg allGen ?_
  refine Tr.loadA tab rfl rfl rfl (by repeat (first | exact .head _ | refine .tail _ ?_ | refine List.mem_append_right _ ?_)) (At.all _) (el_len _) rfl trivial rfl ?_
  refine Tr.storeA tab rfl rfl rfl (by repeat (first | exact .here | apply MU.there | apply MU.app)) (by exact el_len _) (by exact el_len _) (el_one _) trivial rfl ?_
  refine Tr.nil ?_ (fun _ => rfl) (List.Perm.refl _)
  refine Wp.ret ?_
  exact ⟨.inr rfl, .r1 rfl (RvIs.cellA tab rfl rfl rfl (by repeat (first | exact .head _ | refine .tail _ ?_ | refine List.mem_append_right _ ?_)) (At.all _) (el_len _))⟩
end Go.Proofs.Ytffghaeaohabhaa.AW
