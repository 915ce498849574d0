import Derived.Test.YtffghaeaohabhaaM9
namespace Go.Proofs.Ytffghaeaohabhaa.AW
open Go NT
set_option maxRecDepth 100000

theorem quoN (a b : Nat) (h : a ≤ 9223372036854775807) : IntKind.i64.wrap ((a : Int).tdiv (b : Int)) = ((a / b : Nat) : Int) := by
  have e : (a : Int).tdiv (b : Int) = ((a / b : Nat) : Int) := by
    rw [Int.tdiv_eq_ediv_of_nonneg (by omega)]; rfl
  rw [e]
  have := Nat.div_le_self a b
  generalize a / b = q at *
  exact wrap_i64 (by omega) (by omega)
theorem remN (a b : Nat) : (a : Int).tmod (b : Int) = ((a % b : Nat) : Int) := by
  rw [Int.tmod_eq_emod_of_nonneg (by omega)]; rfl

/-! ### digits -/
def loop122 : Code := (Code.seq (Code.seq (Code.region 3 #[{ dst := (some 5), op := (Op.move (Operand.tmp 4)), type := 3, pos := "ref.go:59", after := #[], guard := none }, { dst := (some 6), op := (Op.binOp BinOp.lss 3 (Operand.tmp 5) (Operand.const (Value.int IntKind.i64 16)) 3), type := 4, pos := "ref.go:59", after := #[{ on := 0, ground := Ground.data }], guard := none }] false) (Code.cond (Operand.tmp 6) Code.skip (Code.exit 0))) (Code.seq (Code.block 1 (Code.region 5 #[{ dst := (some 9), op := (Op.move (Operand.tmp 4)), type := 3, pos := "ref.go:60", after := #[], guard := none }, { dst := (some 10), op := (Op.move (Operand.tmp 4)), type := 3, pos := "ref.go:60", after := #[], guard := none }, { dst := (some 11), op := (Op.binOp BinOp.mul 3 (Operand.const (Value.int IntKind.i64 2)) (Operand.tmp 10) 3), type := 3, pos := "ref.go:60", after := #[{ on := 1, ground := Ground.data }], guard := none }, { dst := (some 12), op := (Op.indexAddr 37 (Operand.tmp 1) (Operand.tmp 11)), type := 0, pos := "ref.go:60", after := #[{ on := 2, ground := Ground.data }], guard := none }, { dst := (some 13), op := (Op.load 5 (Operand.tmp 12)), type := 5, pos := "ref.go:60", after := #[{ on := 3, ground := Ground.data }], guard := none }, { dst := (some 14), op := (Op.convert 5 3 (Operand.tmp 13)), type := 3, pos := "ref.go:60", after := #[{ on := 4, ground := Ground.data }], guard := none }, { dst := (some 15), op := (Op.move (Operand.tmp 4)), type := 3, pos := "ref.go:60", after := #[], guard := none }, { dst := (some 16), op := (Op.binOp BinOp.mul 3 (Operand.const (Value.int IntKind.i64 2)) (Operand.tmp 15) 3), type := 3, pos := "ref.go:60", after := #[{ on := 6, ground := Ground.data }], guard := none }, { dst := (some 17), op := (Op.binOp BinOp.add 3 (Operand.tmp 16) (Operand.const (Value.int IntKind.i64 1)) 3), type := 3, pos := "ref.go:60", after := #[{ on := 7, ground := Ground.data }], guard := none }, { dst := (some 18), op := (Op.indexAddr 37 (Operand.tmp 1) (Operand.tmp 17)), type := 0, pos := "ref.go:60", after := #[{ on := 8, ground := Ground.data }], guard := none }, { dst := (some 19), op := (Op.load 5 (Operand.tmp 18)), type := 5, pos := "ref.go:60", after := #[{ on := 9, ground := Ground.data }], guard := none }, { dst := (some 20), op := (Op.convert 5 3 (Operand.tmp 19)), type := 3, pos := "ref.go:60", after := #[{ on := 10, ground := Ground.data }], guard := none }, { dst := (some 21), op := (Op.binOp BinOp.mul 3 (Operand.const (Value.int IntKind.i64 256)) (Operand.tmp 20) 3), type := 3, pos := "ref.go:60", after := #[{ on := 11, ground := Ground.data }], guard := none }, { dst := (some 22), op := (Op.binOp BinOp.add 3 (Operand.tmp 14) (Operand.tmp 21) 3), type := 3, pos := "ref.go:60", after := #[{ on := 5, ground := Ground.data }, { on := 12, ground := Ground.data }], guard := none }, { dst := (some 23), op := (Op.indexAddr 141 (Operand.tmp 3) (Operand.tmp 9)), type := 0, pos := "ref.go:60", after := #[{ on := 0, ground := Ground.data }, { on := 0, ground := Ground.phase }, { on := 1, ground := Ground.phase }, { on := 2, ground := Ground.phase }, { on := 3, ground := Ground.phase }, { on := 4, ground := Ground.phase }, { on := 5, ground := Ground.phase }, { on := 6, ground := Ground.phase }, { on := 7, ground := Ground.phase }, { on := 8, ground := Ground.phase }, { on := 9, ground := Ground.phase }, { on := 10, ground := Ground.phase }, { on := 11, ground := Ground.phase }, { on := 12, ground := Ground.phase }, { on := 13, ground := Ground.phase }], guard := none }, { dst := none, op := (Op.store 3 (Operand.tmp 23) (Operand.tmp 22)), type := 0, pos := "ref.go:60", after := #[{ on := 14, ground := Ground.data }, { on := 13, ground := Ground.data }, { on := 0, ground := Ground.phase }, { on := 1, ground := Ground.phase }, { on := 2, ground := Ground.phase }, { on := 3, ground := Ground.phase }, { on := 4, ground := Ground.phase }, { on := 5, ground := Ground.phase }, { on := 6, ground := Ground.phase }, { on := 7, ground := Ground.phase }, { on := 8, ground := Ground.phase }, { on := 9, ground := Ground.phase }, { on := 10, ground := Ground.phase }, { on := 11, ground := Ground.phase }, { on := 12, ground := Ground.phase }, { on := 13, ground := Ground.phase }], guard := none }] true)) (Code.region 4 #[{ dst := (some 7), op := (Op.move (Operand.tmp 4)), type := 3, pos := "ref.go:59", after := #[], guard := none }, { dst := (some 8), op := (Op.binOp BinOp.add 3 (Operand.tmp 7) (Operand.const (Value.int IntKind.i64 1)) 3), type := 3, pos := "ref.go:59", after := #[{ on := 0, ground := Ground.data }], guard := none }, { dst := (some 4), op := (Op.assign (Operand.tmp 8)), type := 3, pos := "ref.go:59", after := #[{ on := 1, ground := Ground.data }, { on := 0, ground := Ground.phase }, { on := 1, ground := Ground.phase }], guard := none }] false)))
def pre (i : Nat) (D : Nat → Nat) : Nat → Nat := fun j => if j < i then D j else 0
theorem pre_step (n i : Nat) (D : Nat → Nat) : fA n (pre (i + 1) D) = fA n (upd (pre i D) i (D i)) := by
  congr 1
  funext j
  show (if j < i + 1 then D j else 0) = if j = i then D i else (if j < i then D j else 0)
  by_cases h : j = i
  · subst h; rw [if_pos (by omega), if_pos rfl]
  · rw [if_neg h]
    by_cases h2 : j < i
    · rw [if_pos (by omega), if_pos h2]
    · rw [if_neg (by omega), if_neg h2]
theorem pre_zero (D : Nat → Nat) : pre 0 D = fun _ => 0 := by
  funext j; unfold pre; rw [if_neg (by omega)]
theorem pre_all {n : Nat} (D : Nat → Nat) : fA n (pre n D) = fA n D := fA_congr fun j hj => by unfold pre; rw [if_pos hj]

theorem rdigits_loop {g : Gh} (hg : g.n = 25) (A : List UInt8) (hA : A.length = 32) (b1 b2 b3 : Nat) (z2 : List Value) : ∀ (r i : Nat), i + r = 16 →
    WpL Try.prog g loop122 (fun e env mem => e = .exit 0 ∧ Wk g env mem [(2, .pointer (some ⟨b2, 0, none⟩)), (3, .pointer (some ⟨b3, 0, none⟩))] [⟨b3, fA 16 (dw (n8 A)), true⟩, ⟨b2, z2, true⟩])
      [(1, .pointer (some ⟨b1, 0, none⟩)), (2, .pointer (some ⟨b2, 0, none⟩)), (3, .pointer (some ⟨b3, 0, none⟩)), (4, i64 i)] [⟨b3, fA 16 (pre i (dw (n8 A))), true⟩, ⟨b1, u8s A, true⟩, ⟨b2, z2, true⟩] := by
  obtain ⟨gn, w0, may⟩ := g
  obtain rfl : gn = 25 := hg
  intro r
  induction r with
  | zero =>
    intro i hi
    obtain rfl : i = 16 := by omega
    rw [pre_all]
    refine WpL.step ?_
    refine Wp.seq ?_
    refine Wp.seq ?_
    refine Wp.reg allGen ?_
    refine Tr.move rfl rfl trivial rfl ?_
    refine Tr.lss rfl rfl (by first | with_reducible assumption | exact decide_eq_true (by omega) | exact decide_eq_false (by omega) | exact beq_iff_eq.2 (by omega) | exact beq_eq_false_iff_ne.2 (by omega) | exact bne_iff_ne.2 (by omega) | rfl) rfl trivial rfl ?_
    refine Tr.nil ?_ (fun _ => rfl) (List.Perm.refl _)
    refine Wp.condF rfl ?_
    refine Wp.exit ?_
    exact ⟨rfl, Wk.mk (by repeat (first | exact ESub.nil | refine ESub.cons rfl (by first | rfl | (simp; done) | (simp; omega)) ?_)) (by repeat (first | exact MSub.nil | refine MSub.cons (by repeat (first | exact .here | apply Pick.there | apply Pick.append)) (by first | rfl | (simp; done)) ?_))⟩
  | succ r ih =>
    intro i hi
    have hih := ih (i + 1) (by omega)
    have hlen := fA_len 16 (pre i (dw (n8 A)))
    rw [pre_step, ← fA_set, dw_dg] at hih
    have gx := at_get u8 (At.all (u8s A)) 0 (j := 2 * i) (by omega) (k := 2 * (i : Int)) (by omega)
    have gy := at_get u8 (At.all (u8s A)) 0 (j := 2 * i + 1) (by omega) (k := 2 * (i : Int) + 1) (by omega)
    rw [Nat.zero_add] at gx gy
    have ex := dg_val A (2 * i)
    have ey := dg_val A (2 * i + 1)
    have lx := dg_lt (n8 A) (2 * i)
    have ly := dg_lt (n8 A) (2 * i + 1)
    have hAl : (u8s A).length = 32 := by simp [hA]
    generalize A.getD (2 * i) 0 = x at *
    generalize A.getD (2 * i + 1) 0 = y at *
    generalize dg (n8 A) (2 * i) = dx at *
    generalize dg (n8 A) (2 * i + 1) = dy at *
    subst ex ey
    have hidx : ((i : Nat) : Int).toNat = i := by omega
    generalize fA 16 (pre i (dw (n8 A))) = O at *
    refine WpL.step ?_
    refine Wp.seq ?_
    refine Wp.seq ?_
    refine Wp.reg allGen ?_
    refine Tr.move rfl rfl trivial rfl ?_
    refine Tr.lss rfl rfl (by first | with_reducible assumption | exact decide_eq_true (by omega) | exact decide_eq_false (by omega) | exact beq_iff_eq.2 (by omega) | exact beq_eq_false_iff_ne.2 (by omega) | exact bne_iff_ne.2 (by omega) | rfl) rfl trivial rfl ?_
    refine Tr.nil ?_ (fun _ => rfl) (List.Perm.refl _)
    refine Wp.condT rfl ?_
    refine Wp.skip ?_
    refine Wp.seq ?_
    refine Wp.block ?_
    refine Wp.regE kindOf mo (by kernel_rfl) ?_
    refine Tr.move rfl rfl trivial rfl ?_
    refine Tr.move rfl rfl trivial rfl ?_
    refine Tr.mul rfl rfl (by first | exact wrap_i64 (by omega) (by omega) | rfl) rfl trivial rfl ?_
    first | refine Tr.indexAddr01 tab rfl rfl rfl rfl rfl (by omega) (by omega) rfl trivial rfl ?_ | refine Tr.indexAddr1 tab rfl rfl rfl rfl rfl (by omega) (by omega) rfl trivial rfl ?_
    refine Tr.loadS tab rfl rfl rfl (by repeat (first | exact .head _ | refine .tail _ ?_ | refine List.mem_append_right _ ?_)) gx rfl trivial rfl ?_
    refine Tr.conv tab rfl rfl rfl rfl (by first | exact conv_u8_i64 _ | exact wrap_i64 (by omega) (by omega) | rfl) rfl trivial rfl ?_
    refine Tr.move rfl rfl trivial rfl ?_
    refine Tr.mul rfl rfl (by first | exact wrap_i64 (by omega) (by omega) | rfl) rfl trivial rfl ?_
    refine Tr.add rfl rfl (by first | exact wrap_i64 (by omega) (by omega) | rfl) rfl trivial rfl ?_
    first | refine Tr.indexAddr01 tab rfl rfl rfl rfl rfl (by omega) (by omega) rfl trivial rfl ?_ | refine Tr.indexAddr1 tab rfl rfl rfl rfl rfl (by omega) (by omega) rfl trivial rfl ?_
    refine Tr.loadS tab rfl rfl rfl (by repeat (first | exact .head _ | refine .tail _ ?_ | refine List.mem_append_right _ ?_)) gy rfl trivial rfl ?_
    refine Tr.conv tab rfl rfl rfl rfl (by first | exact conv_u8_i64 _ | exact wrap_i64 (by omega) (by omega) | rfl) rfl trivial rfl ?_
    refine Tr.mul rfl rfl (by first | exact wrap_i64 (by omega) (by omega) | rfl) rfl trivial rfl ?_
    refine Tr.add (r := ((x.toNat + 256 * y.toNat : Nat) : Int)) rfl rfl ((wrap_i64 (by omega) (by omega)).trans (by omega)) rfl trivial rfl ?_
    first | refine Tr.indexAddr01 tab rfl rfl rfl rfl rfl (by omega) (by omega) rfl trivial rfl ?_ | refine Tr.indexAddr1 tab rfl rfl rfl rfl rfl (by omega) (by omega) rfl trivial rfl ?_
    refine Tr.storeS tab rfl rfl rfl rfl (by repeat (first | exact .here | apply MU.there | apply MU.app)) (by omega) trivial rfl ?_
    refine Tr.nil ?_ (fun _ => rfl) (List.Perm.refl _)
    refine Wp.reg allGen ?_
    refine Tr.move rfl rfl trivial rfl ?_
    refine Tr.add rfl rfl (by first | exact wrap_i64 (by omega) (by omega) | rfl) rfl trivial rfl ?_
    refine Tr.assign rfl rfl trivial rfl ?_
    refine Tr.nil ?_ (fun _ => rfl) (List.Perm.refl _)
    exact WpL.weak hih ⟨fun a ha => EH.sub (ESub.sub (by repeat (first | exact ESub.nil | refine ESub.cons rfl (by first | rfl | (simp; done) | (simp; omega)) ?_))) a ha, fun w hw => hw⟩

theorem f122_digits (A : List UInt8) (hA : A.length = 32) : FnR Try.prog 122 [.agg (u8s A).toArray] [] (.agg (fA 16 (dw (n8 A))).toArray) := by
  have hl := fun {g : Gh} (hg : g.n = 25) b1 b2 b3 z2 => rdigits_loop hg A hA b1 b2 b3 z2 16 0 (by omega)
  rw [pre_zero, ← fA_zero] at hl
  have hlen := fA_len 16 (dw (n8 A))
  have hone := fA_one 16 (dw (n8 A))
  generalize fA 16 (dw (n8 A)) = O at *
  refine fnR_of 25 rfl Try.func122 rfl (by kernel_rfl) rfl (by simp) fun w => ?_
  refine Wp.seq ?_
  refine Wp.reg allGen ?_
  refine Tr.boxA rfl rfl trivial rfl (fun B1 _ => ?_)
  refine Tr.alloc tab rfl rfl trivial rfl (fun B2 _ => ?_)
  refine Tr.nil ?_ (fun _ => rfl) (List.Perm.refl _)
  refine Wp.seq ?_
  refine Wp.reg allGen ?_
  refine Tr.alloc tab rfl rfl trivial rfl (fun B3 _ => ?_)
  refine Tr.nil ?_ (fun _ => rfl) (List.Perm.refl _)
  refine Wp.seq ?_
  refine Wp.seq ?_
  refine Wp.reg allGen ?_
  refine Tr.assign rfl rfl trivial rfl ?_
  refine Tr.nil ?_ (fun _ => rfl) (List.Perm.refl _)
  refine Wp.block ?_
  refine Wp.loopQ (hl rfl B1 B2 B3 _) (Wk.mk (by repeat (first | exact ESub.nil | refine ESub.cons rfl (by first | rfl | (simp; done) | (simp; omega)) ?_)) (by repeat (first | exact MSub.nil | refine MSub.cons (by repeat (first | exact .here | apply Pick.there | apply Pick.append)) (by first | rfl | (simp; done)) ?_))) ?_
  rintro _ env1 mem1 ⟨rfl, hw1⟩
  refine Wp.weak ?_ hw1
  refine Wp.seq ?_
  refine Wp.reg allGen ?_
  refine Tr.loadA tab rfl rfl rfl (by repeat (first | exact .head _ | refine .tail _ ?_ | refine List.mem_append_right _ ?_)) (At.all _) hlen rfl trivial rfl ?_
  refine Tr.storeA tab rfl rfl rfl (by repeat (first | exact .here | apply MU.there | apply MU.app)) (by exact hlen) (by exact hlen) hone trivial rfl ?_
  refine Tr.nil ?_ (fun _ => rfl) (List.Perm.refl _)
  refine Wp.ret ?_
  exact ⟨.inr rfl, .r1 rfl (RvIs.cellA tab rfl rfl rfl (by repeat (first | exact .head _ | refine .tail _ ?_ | refine List.mem_append_right _ ?_)) (At.all _) hlen)⟩

/-! ### Mul -/
def loop81a : Code := (Code.seq (Code.seq (Code.region 5 #[{ dst := (some 20), op := (Op.move (Operand.tmp 8)), type := 3, pos := "ref.go:70", after := #[], guard := none }, { dst := (some 21), op := (Op.binOp BinOp.lss 3 (Operand.tmp 20) (Operand.const (Value.int IntKind.i64 16)) 3), type := 4, pos := "ref.go:70", after := #[{ on := 0, ground := Ground.data }], guard := none }] false) (Code.cond (Operand.tmp 21) Code.skip (Code.exit 0))) (Code.seq (Code.block 1 (Code.seq (Code.region 7 #[{ dst := (some 9), op := (Op.assign (Operand.const (Value.int IntKind.i64 0))), type := 3, pos := "ref.go:71", after := #[], guard := none }] false) (Code.block 2 (Code.loop (Code.seq (Code.seq (Code.region 8 #[{ dst := (some 24), op := (Op.move (Operand.tmp 9)), type := 3, pos := "ref.go:71", after := #[], guard := none }, { dst := (some 25), op := (Op.binOp BinOp.lss 3 (Operand.tmp 24) (Operand.const (Value.int IntKind.i64 16)) 3), type := 4, pos := "ref.go:71", after := #[{ on := 0, ground := Ground.data }], guard := none }] false) (Code.cond (Operand.tmp 25) Code.skip (Code.exit 2))) (Code.seq (Code.block 3 (Code.region 10 #[{ dst := (some 28), op := (Op.move (Operand.tmp 8)), type := 3, pos := "ref.go:72", after := #[], guard := none }, { dst := (some 29), op := (Op.move (Operand.tmp 9)), type := 3, pos := "ref.go:72", after := #[], guard := none }, { dst := (some 30), op := (Op.binOp BinOp.add 3 (Operand.tmp 28) (Operand.tmp 29) 3), type := 3, pos := "ref.go:72", after := #[{ on := 0, ground := Ground.data }, { on := 1, ground := Ground.data }], guard := none }, { dst := (some 31), op := (Op.move (Operand.tmp 8)), type := 3, pos := "ref.go:72", after := #[], guard := none }, { dst := (some 32), op := (Op.move (Operand.tmp 9)), type := 3, pos := "ref.go:72", after := #[], guard := none }, { dst := (some 33), op := (Op.binOp BinOp.add 3 (Operand.tmp 31) (Operand.tmp 32) 3), type := 3, pos := "ref.go:72", after := #[{ on := 3, ground := Ground.data }, { on := 4, ground := Ground.data }], guard := none }, { dst := (some 34), op := (Op.indexAddr 143 (Operand.tmp 7) (Operand.tmp 33)), type := 0, pos := "ref.go:72", after := #[{ on := 5, ground := Ground.data }], guard := none }, { dst := (some 35), op := (Op.load 3 (Operand.tmp 34)), type := 3, pos := "ref.go:72", after := #[{ on := 6, ground := Ground.data }], guard := none }, { dst := (some 36), op := (Op.move (Operand.tmp 8)), type := 3, pos := "ref.go:72", after := #[], guard := none }, { dst := (some 37), op := (Op.indexAddr 141 (Operand.tmp 5) (Operand.tmp 36)), type := 0, pos := "ref.go:72", after := #[{ on := 8, ground := Ground.data }], guard := none }, { dst := (some 38), op := (Op.load 3 (Operand.tmp 37)), type := 3, pos := "ref.go:72", after := #[{ on := 9, ground := Ground.data }], guard := none }, { dst := (some 39), op := (Op.move (Operand.tmp 9)), type := 3, pos := "ref.go:72", after := #[], guard := none }, { dst := (some 40), op := (Op.indexAddr 141 (Operand.tmp 6) (Operand.tmp 39)), type := 0, pos := "ref.go:72", after := #[{ on := 11, ground := Ground.data }], guard := none }, { dst := (some 41), op := (Op.load 3 (Operand.tmp 40)), type := 3, pos := "ref.go:72", after := #[{ on := 12, ground := Ground.data }], guard := none }, { dst := (some 42), op := (Op.binOp BinOp.mul 3 (Operand.tmp 38) (Operand.tmp 41) 3), type := 3, pos := "ref.go:72", after := #[{ on := 10, ground := Ground.data }, { on := 13, ground := Ground.data }], guard := none }, { dst := (some 43), op := (Op.binOp BinOp.add 3 (Operand.tmp 35) (Operand.tmp 42) 3), type := 3, pos := "ref.go:72", after := #[{ on := 7, ground := Ground.data }, { on := 14, ground := Ground.data }], guard := none }, { dst := (some 44), op := (Op.indexAddr 143 (Operand.tmp 7) (Operand.tmp 30)), type := 0, pos := "ref.go:72", after := #[{ on := 2, ground := Ground.data }, { on := 0, ground := Ground.phase }, { on := 1, ground := Ground.phase }, { on := 2, ground := Ground.phase }, { on := 3, ground := Ground.phase }, { on := 4, ground := Ground.phase }, { on := 5, ground := Ground.phase }, { on := 6, ground := Ground.phase }, { on := 7, ground := Ground.phase }, { on := 8, ground := Ground.phase }, { on := 9, ground := Ground.phase }, { on := 10, ground := Ground.phase }, { on := 11, ground := Ground.phase }, { on := 12, ground := Ground.phase }, { on := 13, ground := Ground.phase }, { on := 14, ground := Ground.phase }, { on := 15, ground := Ground.phase }], guard := none }, { dst := none, op := (Op.store 3 (Operand.tmp 44) (Operand.tmp 43)), type := 0, pos := "ref.go:72", after := #[{ on := 16, ground := Ground.data }, { on := 15, ground := Ground.data }, { on := 0, ground := Ground.phase }, { on := 1, ground := Ground.phase }, { on := 2, ground := Ground.phase }, { on := 3, ground := Ground.phase }, { on := 4, ground := Ground.phase }, { on := 5, ground := Ground.phase }, { on := 6, ground := Ground.phase }, { on := 7, ground := Ground.phase }, { on := 8, ground := Ground.phase }, { on := 9, ground := Ground.phase }, { on := 10, ground := Ground.phase }, { on := 11, ground := Ground.phase }, { on := 12, ground := Ground.phase }, { on := 13, ground := Ground.phase }, { on := 14, ground := Ground.phase }, { on := 15, ground := Ground.phase }], guard := none }] true)) (Code.region 9 #[{ dst := (some 26), op := (Op.move (Operand.tmp 9)), type := 3, pos := "ref.go:71", after := #[], guard := none }, { dst := (some 27), op := (Op.binOp BinOp.add 3 (Operand.tmp 26) (Operand.const (Value.int IntKind.i64 1)) 3), type := 3, pos := "ref.go:71", after := #[{ on := 0, ground := Ground.data }], guard := none }, { dst := (some 9), op := (Op.assign (Operand.tmp 27)), type := 3, pos := "ref.go:71", after := #[{ on := 1, ground := Ground.data }, { on := 0, ground := Ground.phase }, { on := 1, ground := Ground.phase }], guard := none }] false))))))) (Code.region 6 #[{ dst := (some 22), op := (Op.move (Operand.tmp 8)), type := 3, pos := "ref.go:70", after := #[], guard := none }, { dst := (some 23), op := (Op.binOp BinOp.add 3 (Operand.tmp 22) (Operand.const (Value.int IntKind.i64 1)) 3), type := 3, pos := "ref.go:70", after := #[{ on := 0, ground := Ground.data }], guard := none }, { dst := (some 8), op := (Op.assign (Operand.tmp 23)), type := 3, pos := "ref.go:70", after := #[{ on := 1, ground := Ground.data }, { on := 0, ground := Ground.phase }, { on := 1, ground := Ground.phase }], guard := none }] false)))
def loop81b : Code := (Code.seq (Code.seq (Code.region 8 #[{ dst := (some 24), op := (Op.move (Operand.tmp 9)), type := 3, pos := "ref.go:71", after := #[], guard := none }, { dst := (some 25), op := (Op.binOp BinOp.lss 3 (Operand.tmp 24) (Operand.const (Value.int IntKind.i64 16)) 3), type := 4, pos := "ref.go:71", after := #[{ on := 0, ground := Ground.data }], guard := none }] false) (Code.cond (Operand.tmp 25) Code.skip (Code.exit 2))) (Code.seq (Code.block 3 (Code.region 10 #[{ dst := (some 28), op := (Op.move (Operand.tmp 8)), type := 3, pos := "ref.go:72", after := #[], guard := none }, { dst := (some 29), op := (Op.move (Operand.tmp 9)), type := 3, pos := "ref.go:72", after := #[], guard := none }, { dst := (some 30), op := (Op.binOp BinOp.add 3 (Operand.tmp 28) (Operand.tmp 29) 3), type := 3, pos := "ref.go:72", after := #[{ on := 0, ground := Ground.data }, { on := 1, ground := Ground.data }], guard := none }, { dst := (some 31), op := (Op.move (Operand.tmp 8)), type := 3, pos := "ref.go:72", after := #[], guard := none }, { dst := (some 32), op := (Op.move (Operand.tmp 9)), type := 3, pos := "ref.go:72", after := #[], guard := none }, { dst := (some 33), op := (Op.binOp BinOp.add 3 (Operand.tmp 31) (Operand.tmp 32) 3), type := 3, pos := "ref.go:72", after := #[{ on := 3, ground := Ground.data }, { on := 4, ground := Ground.data }], guard := none }, { dst := (some 34), op := (Op.indexAddr 143 (Operand.tmp 7) (Operand.tmp 33)), type := 0, pos := "ref.go:72", after := #[{ on := 5, ground := Ground.data }], guard := none }, { dst := (some 35), op := (Op.load 3 (Operand.tmp 34)), type := 3, pos := "ref.go:72", after := #[{ on := 6, ground := Ground.data }], guard := none }, { dst := (some 36), op := (Op.move (Operand.tmp 8)), type := 3, pos := "ref.go:72", after := #[], guard := none }, { dst := (some 37), op := (Op.indexAddr 141 (Operand.tmp 5) (Operand.tmp 36)), type := 0, pos := "ref.go:72", after := #[{ on := 8, ground := Ground.data }], guard := none }, { dst := (some 38), op := (Op.load 3 (Operand.tmp 37)), type := 3, pos := "ref.go:72", after := #[{ on := 9, ground := Ground.data }], guard := none }, { dst := (some 39), op := (Op.move (Operand.tmp 9)), type := 3, pos := "ref.go:72", after := #[], guard := none }, { dst := (some 40), op := (Op.indexAddr 141 (Operand.tmp 6) (Operand.tmp 39)), type := 0, pos := "ref.go:72", after := #[{ on := 11, ground := Ground.data }], guard := none }, { dst := (some 41), op := (Op.load 3 (Operand.tmp 40)), type := 3, pos := "ref.go:72", after := #[{ on := 12, ground := Ground.data }], guard := none }, { dst := (some 42), op := (Op.binOp BinOp.mul 3 (Operand.tmp 38) (Operand.tmp 41) 3), type := 3, pos := "ref.go:72", after := #[{ on := 10, ground := Ground.data }, { on := 13, ground := Ground.data }], guard := none }, { dst := (some 43), op := (Op.binOp BinOp.add 3 (Operand.tmp 35) (Operand.tmp 42) 3), type := 3, pos := "ref.go:72", after := #[{ on := 7, ground := Ground.data }, { on := 14, ground := Ground.data }], guard := none }, { dst := (some 44), op := (Op.indexAddr 143 (Operand.tmp 7) (Operand.tmp 30)), type := 0, pos := "ref.go:72", after := #[{ on := 2, ground := Ground.data }, { on := 0, ground := Ground.phase }, { on := 1, ground := Ground.phase }, { on := 2, ground := Ground.phase }, { on := 3, ground := Ground.phase }, { on := 4, ground := Ground.phase }, { on := 5, ground := Ground.phase }, { on := 6, ground := Ground.phase }, { on := 7, ground := Ground.phase }, { on := 8, ground := Ground.phase }, { on := 9, ground := Ground.phase }, { on := 10, ground := Ground.phase }, { on := 11, ground := Ground.phase }, { on := 12, ground := Ground.phase }, { on := 13, ground := Ground.phase }, { on := 14, ground := Ground.phase }, { on := 15, ground := Ground.phase }], guard := none }, { dst := none, op := (Op.store 3 (Operand.tmp 44) (Operand.tmp 43)), type := 0, pos := "ref.go:72", after := #[{ on := 16, ground := Ground.data }, { on := 15, ground := Ground.data }, { on := 0, ground := Ground.phase }, { on := 1, ground := Ground.phase }, { on := 2, ground := Ground.phase }, { on := 3, ground := Ground.phase }, { on := 4, ground := Ground.phase }, { on := 5, ground := Ground.phase }, { on := 6, ground := Ground.phase }, { on := 7, ground := Ground.phase }, { on := 8, ground := Ground.phase }, { on := 9, ground := Ground.phase }, { on := 10, ground := Ground.phase }, { on := 11, ground := Ground.phase }, { on := 12, ground := Ground.phase }, { on := 13, ground := Ground.phase }, { on := 14, ground := Ground.phase }, { on := 15, ground := Ground.phase }], guard := none }] true)) (Code.region 9 #[{ dst := (some 26), op := (Op.move (Operand.tmp 9)), type := 3, pos := "ref.go:71", after := #[], guard := none }, { dst := (some 27), op := (Op.binOp BinOp.add 3 (Operand.tmp 26) (Operand.const (Value.int IntKind.i64 1)) 3), type := 3, pos := "ref.go:71", after := #[{ on := 0, ground := Ground.data }], guard := none }, { dst := (some 9), op := (Op.assign (Operand.tmp 27)), type := 3, pos := "ref.go:71", after := #[{ on := 1, ground := Ground.data }, { on := 0, ground := Ground.phase }, { on := 1, ground := Ground.phase }], guard := none }] false)))
def loop81c : Code := (Code.seq (Code.seq (Code.region 13 #[{ dst := (some 45), op := (Op.move (Operand.tmp 11)), type := 3, pos := "ref.go:76", after := #[], guard := none }, { dst := (some 46), op := (Op.binOp BinOp.lss 3 (Operand.tmp 45) (Operand.const (Value.int IntKind.i64 16)) 3), type := 4, pos := "ref.go:76", after := #[{ on := 0, ground := Ground.data }], guard := none }] false) (Code.cond (Operand.tmp 46) Code.skip (Code.exit 4))) (Code.seq (Code.block 5 (Code.region 15 #[{ dst := (some 49), op := (Op.move (Operand.tmp 11)), type := 3, pos := "ref.go:77", after := #[], guard := none }, { dst := (some 50), op := (Op.move (Operand.tmp 11)), type := 3, pos := "ref.go:77", after := #[], guard := none }, { dst := (some 51), op := (Op.indexAddr 143 (Operand.tmp 7) (Operand.tmp 50)), type := 0, pos := "ref.go:77", after := #[{ on := 1, ground := Ground.data }], guard := none }, { dst := (some 52), op := (Op.load 3 (Operand.tmp 51)), type := 3, pos := "ref.go:77", after := #[{ on := 2, ground := Ground.data }], guard := none }, { dst := (some 53), op := (Op.move (Operand.tmp 11)), type := 3, pos := "ref.go:77", after := #[], guard := none }, { dst := (some 54), op := (Op.binOp BinOp.add 3 (Operand.const (Value.int IntKind.i64 16)) (Operand.tmp 53) 3), type := 3, pos := "ref.go:77", after := #[{ on := 4, ground := Ground.data }], guard := none }, { dst := (some 55), op := (Op.indexAddr 143 (Operand.tmp 7) (Operand.tmp 54)), type := 0, pos := "ref.go:77", after := #[{ on := 5, ground := Ground.data }], guard := none }, { dst := (some 56), op := (Op.load 3 (Operand.tmp 55)), type := 3, pos := "ref.go:77", after := #[{ on := 6, ground := Ground.data }], guard := none }, { dst := (some 57), op := (Op.binOp BinOp.mul 3 (Operand.const (Value.int IntKind.i64 38)) (Operand.tmp 56) 3), type := 3, pos := "ref.go:77", after := #[{ on := 7, ground := Ground.data }], guard := none }, { dst := (some 58), op := (Op.binOp BinOp.add 3 (Operand.tmp 52) (Operand.tmp 57) 3), type := 3, pos := "ref.go:77", after := #[{ on := 3, ground := Ground.data }, { on := 8, ground := Ground.data }], guard := none }, { dst := (some 59), op := (Op.indexAddr 144 (Operand.tmp 10) (Operand.tmp 49)), type := 0, pos := "ref.go:77", after := #[{ on := 0, ground := Ground.data }, { on := 0, ground := Ground.phase }, { on := 1, ground := Ground.phase }, { on := 2, ground := Ground.phase }, { on := 3, ground := Ground.phase }, { on := 4, ground := Ground.phase }, { on := 5, ground := Ground.phase }, { on := 6, ground := Ground.phase }, { on := 7, ground := Ground.phase }, { on := 8, ground := Ground.phase }, { on := 9, ground := Ground.phase }], guard := none }, { dst := none, op := (Op.store 3 (Operand.tmp 59) (Operand.tmp 58)), type := 0, pos := "ref.go:77", after := #[{ on := 10, ground := Ground.data }, { on := 9, ground := Ground.data }, { on := 0, ground := Ground.phase }, { on := 1, ground := Ground.phase }, { on := 2, ground := Ground.phase }, { on := 3, ground := Ground.phase }, { on := 4, ground := Ground.phase }, { on := 5, ground := Ground.phase }, { on := 6, ground := Ground.phase }, { on := 7, ground := Ground.phase }, { on := 8, ground := Ground.phase }, { on := 9, ground := Ground.phase }], guard := none }] true)) (Code.region 14 #[{ dst := (some 47), op := (Op.move (Operand.tmp 11)), type := 3, pos := "ref.go:76", after := #[], guard := none }, { dst := (some 48), op := (Op.binOp BinOp.add 3 (Operand.tmp 47) (Operand.const (Value.int IntKind.i64 1)) 3), type := 3, pos := "ref.go:76", after := #[{ on := 0, ground := Ground.data }], guard := none }, { dst := (some 11), op := (Op.assign (Operand.tmp 48)), type := 3, pos := "ref.go:76", after := #[{ on := 1, ground := Ground.data }, { on := 0, ground := Ground.phase }, { on := 1, ground := Ground.phase }], guard := none }] false)))

theorem mulw_upd {f : Nat → Nat} {n j p T : Nat} (hj : j < n) (h : valW n f = T) : valW n (upd f j (f j + p)) = T + 65536 ^ j * p := by
  have := valW_upd f (f j + p) hj
  rw [Nat.add_mul, h, Nat.mul_comm p] at this
  omega

section
variable (X Y : Nat) (hY : Y < 65536 ^ 16) (b4 b5 b6 b7 : Nat) (z4 : List Value)
include hY

theorem mulw_in {g : Gh} (hg : g.n = 114) (i : Nat) (hi : i < 16) : ∀ (r k : Nat) (f : Nat → Nat), k + r = 16 → (∀ j, f j ≤ i * 4294836225 + 4294836225) → (∀ j, i + k ≤ j → f j ≤ i * 4294836225) →
    valW 32 f = (X % 65536 ^ i) * Y + 65536 ^ i * (dw X i * (Y % 65536 ^ k)) →
    WpL Try.prog g loop81b (fun e env mem => e = .exit 2 ∧ ∃ f, (∀ j, f j ≤ (i + 1) * 4294836225) ∧ valW 32 f = (X % 65536 ^ (i + 1)) * Y ∧ Wk g env mem [(4, .pointer (some ⟨b4, 0, none⟩)), (5, .pointer (some ⟨b5, 0, none⟩)), (6, .pointer (some ⟨b6, 0, none⟩)), (7, .pointer (some ⟨b7, 0, none⟩)), (8, i64 i)] [⟨b7, fA 32 f, true⟩, ⟨b6, fA 16 (dw Y), true⟩, ⟨b5, fA 16 (dw X), true⟩, ⟨b4, z4, true⟩])
      [(4, .pointer (some ⟨b4, 0, none⟩)), (5, .pointer (some ⟨b5, 0, none⟩)), (6, .pointer (some ⟨b6, 0, none⟩)), (7, .pointer (some ⟨b7, 0, none⟩)), (8, i64 i), (9, i64 k)] [⟨b7, fA 32 f, true⟩, ⟨b6, fA 16 (dw Y), true⟩, ⟨b5, fA 16 (dw X), true⟩, ⟨b4, z4, true⟩] := by
  obtain ⟨gn, w0, may⟩ := g
  obtain rfl : gn = 114 := hg
  intro r
  induction r with
  | zero =>
    intro k f hk hb1 hb2 hv
    obtain rfl : k = 16 := by omega
    rw [Nat.mod_eq_of_lt hY, wrow_done] at hv
    refine WpL.step ?_
    refine Wp.seq ?_
    refine Wp.seq ?_
    refine Wp.reg allGen ?_
    refine Tr.move rfl rfl trivial rfl ?_
    refine Tr.lss rfl rfl (by first | with_reducible assumption | exact decide_eq_true (by omega) | exact decide_eq_false (by omega) | exact beq_iff_eq.2 (by omega) | exact beq_eq_false_iff_ne.2 (by omega) | exact bne_iff_ne.2 (by omega) | rfl) rfl trivial rfl ?_
    refine Tr.nil ?_ (fun _ => rfl) (List.Perm.refl _)
    refine Wp.condF rfl ?_
    refine Wp.exit ?_
    exact ⟨rfl, f, fun j => by have := hb1 j; omega, hv, Wk.mk (by repeat (first | exact ESub.nil | refine ESub.cons rfl (by first | rfl | (simp; done) | (simp; omega)) ?_)) (by repeat (first | exact MSub.nil | refine MSub.cons (by repeat (first | exact .here | apply Pick.there | apply Pick.append)) (by first | rfl | (simp; done)) ?_))⟩
  | succ r ih =>
    intro k f hk hb1 hb2 hv
    have hx := dw_lt X i
    have hy := dw_lt Y k
    have hp := Nat.mul_le_mul (show dw X i ≤ 65535 by omega) (show dw Y k ≤ 65535 by omega)
    have hf := hb2 (i + k) (Nat.le_refl _)
    have hv' := mulw_upd (j := i + k) (p := dw X i * dw Y k) (by omega) hv
    rw [wrow_step] at hv'
    have hih := ih (k + 1) (upd f (i + k) (f (i + k) + dw X i * dw Y k)) (by omega) (fun j => by
      by_cases h : j = i + k
      · subst h; rw [upd_at]; omega
      · rw [upd_ne h]; exact hb1 j) (fun j hj => by rw [upd_ne (by omega)]; exact hb2 j (by omega)) hv'
    clear ih hv hv'
    rw [← fA_set] at hih
    have hlen := fA_len 32 f
    have hlx := fA_len 16 (dw X)
    have hly := fA_len 16 (dw Y)
    have hidx : ((i : Int) + (k : Int)).toNat = i + k := by omega
    have gf := fA_get (n := 32) f (i := i + k) (by omega)
    have gx := fA_get (n := 16) (dw X) (i := i) (by omega)
    have gy := fA_get (n := 16) (dw Y) (i := k) (by omega)
    have ei : ((i : Nat) : Int).toNat = i := by omega
    have ek : ((k : Nat) : Int).toNat = k := by omega
    have hprod : IntKind.i64.wrap (((dw X i : Nat) : Int) * ((dw Y k : Nat) : Int)) = ((dw X i * dw Y k : Nat) : Int) := by
      rw [← Int.natCast_mul]; exact wrap_i64 (by omega) (by omega)
    generalize hq : dw X i * dw Y k = q at *
    have hsum : IntKind.i64.wrap (((f (i + k) : Nat) : Int) + ((q : Nat) : Int)) = ((f (i + k) + q : Nat) : Int) := (wrap_i64 (by omega) (by omega)).trans (by omega)
    clear hb1 hb2
    generalize f (i + k) = fv at *
    rw [← hidx] at gf hih
    generalize fA 32 f = O at *
    generalize fA 16 (dw X) = OX at *
    generalize fA 16 (dw Y) = OY at *
    generalize dw X i = xv at *
    generalize dw Y k = yv at *
    refine WpL.step ?_
    refine Wp.seq ?_
    refine Wp.seq ?_
    refine Wp.reg allGen ?_
    refine Tr.move rfl rfl trivial rfl ?_
    refine Tr.lss rfl rfl (by first | with_reducible assumption | exact decide_eq_true (by omega) | exact decide_eq_false (by omega) | exact beq_iff_eq.2 (by omega) | exact beq_eq_false_iff_ne.2 (by omega) | exact bne_iff_ne.2 (by omega) | rfl) rfl trivial rfl ?_
    refine Tr.nil ?_ (fun _ => rfl) (List.Perm.refl _)
    refine Wp.condT rfl ?_
    refine Wp.skip ?_
    refine Wp.seq ?_
    refine Wp.block ?_
    refine Wp.regE kindOf mo (by kernel_rfl) ?_
    refine Tr.move rfl rfl trivial rfl ?_
    refine Tr.move rfl rfl trivial rfl ?_
    refine Tr.add rfl rfl (by first | exact wrap_i64 (by omega) (by omega) | rfl) rfl trivial rfl ?_
    refine Tr.move rfl rfl trivial rfl ?_
    refine Tr.move rfl rfl trivial rfl ?_
    refine Tr.add rfl rfl (by first | exact wrap_i64 (by omega) (by omega) | rfl) rfl trivial rfl ?_
    first | refine Tr.indexAddr01 tab rfl rfl rfl rfl rfl (by omega) (by omega) rfl trivial rfl ?_ | refine Tr.indexAddr1 tab rfl rfl rfl rfl rfl (by omega) (by omega) rfl trivial rfl ?_
    refine Tr.loadS tab rfl rfl rfl (by repeat (first | exact .head _ | refine .tail _ ?_ | refine List.mem_append_right _ ?_)) gf rfl trivial rfl ?_
    refine Tr.move rfl rfl trivial rfl ?_
    first | refine Tr.indexAddr01 tab rfl rfl rfl rfl rfl (by omega) (by omega) rfl trivial rfl ?_ | refine Tr.indexAddr1 tab rfl rfl rfl rfl rfl (by omega) (by omega) rfl trivial rfl ?_
    refine Tr.loadS tab rfl rfl rfl (by repeat (first | exact .head _ | refine .tail _ ?_ | refine List.mem_append_right _ ?_)) gx rfl trivial rfl ?_
    refine Tr.move rfl rfl trivial rfl ?_
    first | refine Tr.indexAddr01 tab rfl rfl rfl rfl rfl (by omega) (by omega) rfl trivial rfl ?_ | refine Tr.indexAddr1 tab rfl rfl rfl rfl rfl (by omega) (by omega) rfl trivial rfl ?_
    refine Tr.loadS tab rfl rfl rfl (by repeat (first | exact .head _ | refine .tail _ ?_ | refine List.mem_append_right _ ?_)) gy rfl trivial rfl ?_
    refine Tr.mul rfl rfl hprod rfl trivial rfl ?_
    refine Tr.add rfl rfl hsum rfl trivial rfl ?_
    first | refine Tr.indexAddr01 tab rfl rfl rfl rfl rfl (by omega) (by omega) rfl trivial rfl ?_ | refine Tr.indexAddr1 tab rfl rfl rfl rfl rfl (by omega) (by omega) rfl trivial rfl ?_
    refine Tr.storeS tab rfl rfl rfl rfl (by repeat (first | exact .here | apply MU.there | apply MU.app)) (by omega) trivial rfl ?_
    refine Tr.nil ?_ (fun _ => rfl) (List.Perm.refl _)
    refine Wp.reg allGen ?_
    refine Tr.move rfl rfl trivial rfl ?_
    refine Tr.add rfl rfl (by first | exact wrap_i64 (by omega) (by omega) | rfl) rfl trivial rfl ?_
    refine Tr.assign rfl rfl trivial rfl ?_
    refine Tr.nil ?_ (fun _ => rfl) (List.Perm.refl _)
    exact WpL.weak hih (Wk.mk (by repeat (first | exact ESub.nil | refine ESub.cons rfl (by first | rfl | (simp; done) | (simp; omega)) ?_)) (by repeat (first | exact MSub.nil | refine MSub.cons (by repeat (first | exact .here | apply Pick.there | apply Pick.append)) (by first | rfl | (simp; done)) ?_)))
end
end Go.Proofs.Ytffghaeaohabhaa.AW
