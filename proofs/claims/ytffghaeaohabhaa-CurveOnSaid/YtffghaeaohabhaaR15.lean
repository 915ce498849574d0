import Derived.Test.YtffghaeaohabhaaR14
namespace Go.Proofs.Ytffghaeaohabhaa.AW
open Go NT
set_option maxRecDepth 100000

abbrev H25 : Nat := 57896044618658097711785492504343953926634992332820282019728792003956564819968
theorem P_H : P + 19 = H25 := by rw [P_eq]
theorem pow32 : (256 : Nat) ^ 32 = 2 * H25 := by decide +kernel
theorem pow31 : (256 : Nat) ^ 31 * 128 = H25 := by decide +kernel

/-- the parts of a number of 32 bytes at least -/
theorem cut_parts (L : List UInt8) (m : Nat) (hm : n8 L = m) (hl : 32 ≤ L.length) :
    n8 ((L.take 32).set 31 (UInt8.ofNat (((L.take 32).getD 31 0).toNat % 128))) = m % H25 ∧
    n8 (L.drop 32) * 2 + (UInt8.ofNat (((L.take 32).getD 31 0).toNat / 128)).toNat = m / H25 := by
  have hl' : (L.take 32).length = 32 := by simp; omega
  have h1 := n8_split L 32 hl
  rw [hm, pow32] at h1
  have h2 := top_split (L.take 32) hl'
  have h3 := n8_set (L.take 32) 31 (UInt8.ofNat (((L.take 32).getD 31 0).toNat % 128)) (by omega)
  have hx := ((L.take 32).getD 31 0).toNat_lt
  rw [ofNat_val] at h3
  rw [ofNat_val]
  obtain ⟨h2a, h2b⟩ := h2
  generalize ((L.take 32).getD 31 0).toNat = x at *
  rw [show (256 : Nat) ^ 31 = 452312848583266388373324160190187140051835877600158453279131187530910662656 by decide +kernel] at h3
  generalize n8 (List.set (L.take 32) 31 (UInt8.ofNat (x % 128))) = n' at *
  generalize n8 (L.drop 32) = hi at *
  generalize n8 ((L.take 32).take 31) = t at *
  generalize n8 (L.take 32) = lo at *
  unfold H25 at *
  omega

theorem set_mid (pre m sp : List Value) (j : Nat) (x : Value) (h : j < m.length) : (pre ++ m ++ sp).set (pre.length + j) x = pre ++ m.set j x ++ sp := by
  rw [List.append_assoc, List.set_append_right _ _ (by omega), Nat.add_sub_cancel_left, List.set_append_left _ _ h, List.append_assoc]

theorem MSub.appR {m' m : Mem} (h : MSub m' m) : ∀ (es : Mem), MSub m' (es ++ m)
  | [] => h
  | _ :: es => (h.appR es).drop

/-! ### Round -/
def loop124a : Code := (Code.seq (Code.seq (Code.region 2 #[{ dst := (some 8), op := (Op.move (Operand.tmp 0)), type := 36, pos := "ref.go:28", after := #[], guard := none }, { dst := (some 9), op := (Op.call { callee := (Callee.builtin Builtin.len), args := #[(Operand.tmp 8)], argTypes := #[36] }), type := 3, pos := "ref.go:28", after := #[{ on := 0, ground := Ground.data }], guard := none }, { dst := (some 10), op := (Op.binOp BinOp.gtr 3 (Operand.tmp 9) (Operand.const (Value.int IntKind.i64 32)) 3), type := 4, pos := "ref.go:28", after := #[{ on := 1, ground := Ground.data }], guard := none }, { dst := (some 11), op := (Op.move (Operand.tmp 10)), type := 4, pos := "ref.go:28", after := #[{ on := 2, ground := Ground.data }], guard := none }, { dst := (some 12), op := (Op.move (Operand.tmp 0)), type := 36, pos := "ref.go:28", after := #[{ on := 3, ground := Ground.guard }], guard := (some (3, false)) }, { dst := (some 13), op := (Op.call { callee := (Callee.builtin Builtin.len), args := #[(Operand.tmp 12)], argTypes := #[36] }), type := 3, pos := "ref.go:28", after := #[{ on := 4, ground := Ground.data }, { on := 3, ground := Ground.guard }], guard := (some (3, false)) }, { dst := (some 14), op := (Op.binOp BinOp.eql 3 (Operand.tmp 13) (Operand.const (Value.int IntKind.i64 32)) 3), type := 4, pos := "ref.go:28", after := #[{ on := 5, ground := Ground.data }, { on := 3, ground := Ground.guard }], guard := (some (3, false)) }, { dst := (some 15), op := (Op.move (Operand.tmp 14)), type := 4, pos := "ref.go:28", after := #[{ on := 6, ground := Ground.data }, { on := 3, ground := Ground.chain }, { on := 3, ground := Ground.guard }], guard := (some (3, false)) }, { dst := (some 16), op := (Op.move (Operand.tmp 0)), type := 36, pos := "ref.go:28", after := #[{ on := 7, ground := Ground.guard }], guard := (some (7, true)) }, { dst := (some 17), op := (Op.indexAddr 36 (Operand.tmp 16) (Operand.const (Value.int IntKind.i64 31))), type := 0, pos := "ref.go:28", after := #[{ on := 8, ground := Ground.data }, { on := 7, ground := Ground.guard }], guard := (some (7, true)) }, { dst := (some 18), op := (Op.load 5 (Operand.tmp 17)), type := 5, pos := "ref.go:28", after := #[{ on := 9, ground := Ground.data }, { on := 7, ground := Ground.guard }], guard := (some (7, true)) }, { dst := (some 19), op := (Op.binOp BinOp.gtr 5 (Operand.tmp 18) (Operand.const (Value.int IntKind.u8 127)) 5), type := 4, pos := "ref.go:28", after := #[{ on := 10, ground := Ground.data }, { on := 7, ground := Ground.guard }], guard := (some (7, true)) }, { dst := (some 20), op := (Op.pick (Operand.tmp 15) (Operand.tmp 19) (Operand.const (Value.bool false))), type := 4, pos := "ref.go:28", after := #[{ on := 7, ground := Ground.data }, { on := 11, ground := Ground.data }, { on := 3, ground := Ground.guard }], guard := (some (3, false)) }, { dst := (some 21), op := (Op.pick (Operand.tmp 11) (Operand.const (Value.bool true)) (Operand.tmp 20)), type := 4, pos := "ref.go:28", after := #[{ on := 3, ground := Ground.data }, { on := 12, ground := Ground.data }], guard := none }] false) (Code.cond (Operand.tmp 21) Code.skip (Code.exit 0))) (Code.block 1 (Code.seq (Code.region 3 #[{ dst := (some 3), op := (Op.assign (Operand.const (Value.slice none 0 0))), type := 36, pos := "ref.go:29", after := #[], guard := none }] false) (Code.seq (Code.region 4 #[{ dst := (some 22), op := (Op.move (Operand.tmp 3)), type := 36, pos := "ref.go:30", after := #[], guard := none }, { dst := (some 23), op := (Op.move (Operand.tmp 0)), type := 36, pos := "ref.go:30", after := #[], guard := none }, { dst := (some 24), op := (Op.slice 36 (Operand.tmp 23) none (some (Operand.const (Value.int IntKind.i64 32))) none), type := 36, pos := "ref.go:30", after := #[{ on := 1, ground := Ground.data }], guard := none }, { dst := (some 25), op := (Op.call { callee := (Callee.builtin Builtin.append), args := #[(Operand.tmp 22), (Operand.tmp 24)], argTypes := #[36, 36] }), type := 36, pos := "ref.go:30", after := #[{ on := 0, ground := Ground.data }, { on := 2, ground := Ground.data }], guard := none }, { dst := (some 3), op := (Op.assign (Operand.tmp 25)), type := 36, pos := "ref.go:30", after := #[{ on := 3, ground := Ground.data }, { on := 3, ground := Ground.chain }, { on := 0, ground := Ground.phase }, { on := 1, ground := Ground.phase }, { on := 2, ground := Ground.phase }, { on := 3, ground := Ground.phase }], guard := none }] false) (Code.seq (Code.region 5 #[{ dst := (some 26), op := (Op.move (Operand.tmp 3)), type := 36, pos := "ref.go:31", after := #[], guard := none }, { dst := (some 27), op := (Op.indexAddr 36 (Operand.tmp 26) (Operand.const (Value.int IntKind.i64 31))), type := 0, pos := "ref.go:31", after := #[{ on := 0, ground := Ground.data }], guard := none }, { dst := (some 28), op := (Op.load 5 (Operand.tmp 27)), type := 5, pos := "ref.go:31", after := #[{ on := 1, ground := Ground.data }], guard := none }, { dst := (some 29), op := (Op.binOp BinOp.quo 5 (Operand.tmp 28) (Operand.const (Value.int IntKind.u8 128)) 5), type := 5, pos := "ref.go:31", after := #[{ on := 2, ground := Ground.data }], guard := none }, { dst := (some 4), op := (Op.assign (Operand.tmp 29)), type := 5, pos := "ref.go:31", after := #[{ on := 3, ground := Ground.data }, { on := 0, ground := Ground.phase }, { on := 1, ground := Ground.phase }, { on := 2, ground := Ground.phase }, { on := 3, ground := Ground.phase }], guard := none }] false) (Code.seq (Code.region 6 #[{ dst := (some 30), op := (Op.move (Operand.tmp 3)), type := 36, pos := "ref.go:32", after := #[], guard := none }, { dst := (some 31), op := (Op.move (Operand.tmp 3)), type := 36, pos := "ref.go:32", after := #[], guard := none }, { dst := (some 32), op := (Op.indexAddr 36 (Operand.tmp 31) (Operand.const (Value.int IntKind.i64 31))), type := 0, pos := "ref.go:32", after := #[{ on := 1, ground := Ground.data }], guard := none }, { dst := (some 33), op := (Op.load 5 (Operand.tmp 32)), type := 5, pos := "ref.go:32", after := #[{ on := 2, ground := Ground.data }], guard := none }, { dst := (some 34), op := (Op.binOp BinOp.rem 5 (Operand.tmp 33) (Operand.const (Value.int IntKind.u8 128)) 5), type := 5, pos := "ref.go:32", after := #[{ on := 3, ground := Ground.data }], guard := none }, { dst := (some 35), op := (Op.indexAddr 36 (Operand.tmp 30) (Operand.const (Value.int IntKind.i64 31))), type := 0, pos := "ref.go:32", after := #[{ on := 0, ground := Ground.data }, { on := 0, ground := Ground.phase }, { on := 1, ground := Ground.phase }, { on := 2, ground := Ground.phase }, { on := 3, ground := Ground.phase }, { on := 4, ground := Ground.phase }], guard := none }, { dst := none, op := (Op.store 5 (Operand.tmp 35) (Operand.tmp 34)), type := 0, pos := "ref.go:32", after := #[{ on := 5, ground := Ground.data }, { on := 4, ground := Ground.data }, { on := 0, ground := Ground.phase }, { on := 1, ground := Ground.phase }, { on := 2, ground := Ground.phase }, { on := 3, ground := Ground.phase }, { on := 4, ground := Ground.phase }], guard := none }] false) (Code.seq (Code.region 7 #[{ dst := (some 36), op := (Op.buildSlice 36 1 #[(0, (Operand.const (Value.int IntKind.u8 0)))]), type := 36, pos := "ref.go:33", after := #[], guard := none }, { dst := (some 5), op := (Op.assign (Operand.tmp 36)), type := 36, pos := "ref.go:33", after := #[{ on := 0, ground := Ground.data }, { on := 0, ground := Ground.phase }], guard := none }] false) (Code.seq (Code.region 8 #[{ dst := (some 37), op := (Op.move (Operand.tmp 0)), type := 36, pos := "ref.go:34", after := #[], guard := none }, { dst := (some 38), op := (Op.slice 36 (Operand.tmp 37) (some (Operand.const (Value.int IntKind.i64 32))) none none), type := 36, pos := "ref.go:34", after := #[{ on := 0, ground := Ground.data }], guard := none }, { dst := (some 39), op := (Op.buildSlice 36 1 #[(0, (Operand.const (Value.int IntKind.u8 2)))]), type := 36, pos := "ref.go:34", after := #[], guard := none }, { dst := (some 40), op := (Op.call { callee := (Callee.value (Operand.func 153)), args := #[(Operand.tmp 38), (Operand.tmp 39)], argTypes := #[36, 36] }), type := 36, pos := "ref.go:34", after := #[{ on := 1, ground := Ground.data }, { on := 2, ground := Ground.data }], guard := none }, { dst := (some 5), op := (Op.assign (Operand.tmp 40)), type := 36, pos := "ref.go:34", after := #[{ on := 3, ground := Ground.data }, { on := 3, ground := Ground.chain }, { on := 0, ground := Ground.phase }, { on := 1, ground := Ground.phase }, { on := 2, ground := Ground.phase }, { on := 3, ground := Ground.phase }], guard := none }] false) (Code.seq (Code.region 9 #[{ dst := (some 41), op := (Op.move (Operand.tmp 5)), type := 36, pos := "ref.go:35", after := #[], guard := none }, { dst := (some 42), op := (Op.move (Operand.tmp 4)), type := 5, pos := "ref.go:35", after := #[], guard := none }, { dst := (some 43), op := (Op.buildSlice 36 1 #[(0, (Operand.tmp 42))]), type := 36, pos := "ref.go:35", after := #[{ on := 1, ground := Ground.data }], guard := none }, { dst := (some 44), op := (Op.call { callee := (Callee.value (Operand.func 126)), args := #[(Operand.tmp 41), (Operand.tmp 43)], argTypes := #[36, 36] }), type := 36, pos := "ref.go:35", after := #[{ on := 0, ground := Ground.data }, { on := 2, ground := Ground.data }], guard := none }, { dst := (some 5), op := (Op.assign (Operand.tmp 44)), type := 36, pos := "ref.go:35", after := #[{ on := 3, ground := Ground.data }, { on := 3, ground := Ground.chain }, { on := 0, ground := Ground.phase }, { on := 1, ground := Ground.phase }, { on := 2, ground := Ground.phase }, { on := 3, ground := Ground.phase }], guard := none }] false) (Code.region 10 #[{ dst := (some 45), op := (Op.move (Operand.tmp 3)), type := 36, pos := "ref.go:36", after := #[], guard := none }, { dst := (some 46), op := (Op.move (Operand.tmp 5)), type := 36, pos := "ref.go:36", after := #[], guard := none }, { dst := (some 47), op := (Op.buildSlice 36 1 #[(0, (Operand.const (Value.int IntKind.u8 19)))]), type := 36, pos := "ref.go:36", after := #[], guard := none }, { dst := (some 48), op := (Op.call { callee := (Callee.value (Operand.func 153)), args := #[(Operand.tmp 46), (Operand.tmp 47)], argTypes := #[36, 36] }), type := 36, pos := "ref.go:36", after := #[{ on := 1, ground := Ground.data }, { on := 2, ground := Ground.data }], guard := none }, { dst := (some 49), op := (Op.call { callee := (Callee.value (Operand.func 126)), args := #[(Operand.tmp 45), (Operand.tmp 48)], argTypes := #[36, 36] }), type := 36, pos := "ref.go:36", after := #[{ on := 0, ground := Ground.data }, { on := 3, ground := Ground.data }, { on := 3, ground := Ground.chain }], guard := none }, { dst := (some 0), op := (Op.assign (Operand.tmp 49)), type := 36, pos := "ref.go:36", after := #[{ on := 4, ground := Ground.data }, { on := 4, ground := Ground.chain }, { on := 0, ground := Ground.phase }, { on := 1, ground := Ground.phase }, { on := 2, ground := Ground.phase }, { on := 3, ground := Ground.phase }, { on := 4, ground := Ground.phase }], guard := none }] false))))))))))
def loop124b : Code := (Code.seq (Code.seq (Code.region 11 #[{ dst := (some 50), op := (Op.move (Operand.tmp 0)), type := 36, pos := "ref.go:38", after := #[], guard := none }, { dst := (some 51), op := (Op.call { callee := (Callee.value (Operand.func 121)), args := #[], argTypes := #[] }), type := 36, pos := "ref.go:38", after := #[], guard := none }, { dst := (some 52), op := (Op.call { callee := (Callee.value (Operand.func 120)), args := #[(Operand.tmp 50), (Operand.tmp 51)], argTypes := #[36, 36] }), type := 3, pos := "ref.go:38", after := #[{ on := 0, ground := Ground.data }, { on := 1, ground := Ground.data }, { on := 1, ground := Ground.chain }], guard := none }, { dst := (some 53), op := (Op.binOp BinOp.geq 3 (Operand.tmp 52) (Operand.const (Value.int IntKind.i64 0)) 3), type := 4, pos := "ref.go:38", after := #[{ on := 2, ground := Ground.data }], guard := none }] false) (Code.cond (Operand.tmp 53) Code.skip (Code.exit 2))) (Code.block 3 (Code.region 12 #[{ dst := (some 54), op := (Op.move (Operand.tmp 0)), type := 36, pos := "ref.go:39", after := #[], guard := none }, { dst := (some 55), op := (Op.call { callee := (Callee.value (Operand.func 121)), args := #[], argTypes := #[] }), type := 36, pos := "ref.go:39", after := #[], guard := none }, { dst := (some 56), op := (Op.call { callee := (Callee.value (Operand.func 125)), args := #[(Operand.tmp 54), (Operand.tmp 55)], argTypes := #[36, 36] }), type := 36, pos := "ref.go:39", after := #[{ on := 0, ground := Ground.data }, { on := 1, ground := Ground.data }, { on := 1, ground := Ground.chain }], guard := none }, { dst := (some 0), op := (Op.assign (Operand.tmp 56)), type := 36, pos := "ref.go:39", after := #[{ on := 2, ground := Ground.data }, { on := 2, ground := Ground.chain }, { on := 0, ground := Ground.phase }, { on := 1, ground := Ground.phase }, { on := 2, ground := Ground.phase }], guard := none }] false)))

theorem sq_mod (m : Nat) : (m % H25 + 19 * (m / H25)) % P = m % P := by
  have h : m = m % H25 + 19 * (m / H25) + P * (m / H25) := by
    have h1 := Nat.mod_add_div m H25
    rw [← P_H] at *
    rw [Nat.add_mul] at h1
    omega
  rw [← Nat.add_mul_mod_self_left (m % H25 + 19 * (m / H25)) P (m / H25), ← h]

theorem round_loop1 {g : Gh} (hg : g.n = 58) : ∀ (m : Nat), (nat8 m).length ≤ 1000 → ∀ (v : Value) (es : List Ent), Fresh (u8s (nat8 m)) v es →
    WpL Try.prog g loop124a (fun e env mem => e = .exit 0 ∧ ∃ m' v es, m' % P = m % P ∧ (nat8 m').length ≤ 1000 ∧ Fresh (u8s (nat8 m')) v es ∧ Wk g env mem [(0, v)] es) [(0, v)] es := by
  obtain ⟨gn, w0, may⟩ := g
  obtain rfl : gn = 58 := hg
  intro m
  induction m using Nat.strongRecOn with
  | ind m ih =>
    intro hml v es hf
    have hm := n8_nat8 m
    have hlow : (nat8 m).length ≤ 32 ∨ H25 ≤ m := by
      rcases Nat.lt_or_ge m (256 ^ 32) with h | h
      · exact .inl (nat8_len m 32 h)
      · rw [pow32] at h; exact .inr (by omega)
    have hmono := fun a (h : a ≤ m) => nat8_mono h
    generalize hL : nat8 m = L at *
    by_cases h32 : 32 ≤ L.length
    · obtain ⟨b, pre, sp, rfl, rfl⟩ := hf.row (n := L.length) (by simp) (by omega)
      have hAt : At (pre ++ u8s L ++ sp) pre.length (u8s L) := ⟨pre, sp, rfl, rfl⟩
      have g31 := at_get u8 hAt 0 (j := 31) (by omega) (k := 31) rfl
      have hcut := cut_parts L m hm h32
      have htop : H25 ≤ m ∨ (L.length = 32 ∧ (L.getD 31 0).toNat ≤ 127) := by
        rcases hlow with h | h
        · have hl : L.length = 32 := by omega
          have hts := top_split L hl
          rw [hm] at hts
          have := pow31
          rcases Nat.lt_or_ge (L.getD 31 0).toNat 128 with hx | hx
          · exact .inr ⟨hl, by omega⟩
          · refine .inl ?_
            unfold H25
            omega
        · exact .inl h
      have hx31 : (L.take 32).getD 31 0 = L.getD 31 0 := by
        rw [List.getD_eq_getElem?_getD, List.getElem?_take, if_pos (by omega), ← List.getD_eq_getElem?_getD]
      rw [hx31] at hcut
      have hLo : (L.take 32).length = 32 := by simp; omega
      have hgLo : ∀ (pre1 sp1 : List Value), (pre1 ++ u8s (L.take 32) ++ sp1)[pre1.length + (31 : Int).toNat]? = some (u8 (L.getD 31 0)) := fun pre1 sp1 => by
        have := at_get u8 (show At (pre1 ++ u8s (L.take 32) ++ sp1) pre1.length (u8s (L.take 32)) from ⟨pre1, sp1, rfl, rfl⟩) 0 (j := 31) (by omega) (k := 31) rfl
        rw [hx31] at this
        exact this
      have hset : ∀ (pre1 sp1 : List Value) (z : UInt8), (pre1 ++ u8s (L.take 32) ++ sp1).set (pre1.length + (31 : Int).toNat) (u8 z) = pre1 ++ u8s ((L.take 32).set 31 z) ++ sp1 := fun pre1 sp1 z => by
        rw [← u8s_put]
        exact set_mid _ _ _ 31 _ (by simp; omega)
      have hsrc : ∀ mem : Mem, (⟨b, pre ++ u8s L ++ sp, true⟩ : Ent) ∈ mem → SrcOf mem (.slice (some ⟨b, pre.length, none⟩) (32 : Int).toNat (L.length + sp.length)) (u8s (L.take 32)) := fun mem h => .row h (at_take hAt h32) (by simp; omega)
      generalize hx : L.getD 31 0 = x at *
      have hxl := x.toNat_lt
      by_cases hgo : H25 ≤ m
      · obtain ⟨hc1, hc2⟩ := hcut
        have hmod := sq_mod m
        have hlt : m % H25 + 19 * (m / H25) < m := by
          have h1 := Nat.mod_add_div m H25
          have h2 : 1 ≤ m / H25 := Nat.div_pos hgo (by decide)
          have h3 : 20 * (m / H25) ≤ H25 * (m / H25) := Nat.mul_le_mul_right _ (by decide)
          omega
        have hih := ih (m % H25 + 19 * (m / H25)) hlt
        have hl1 := hmono (n8 (L.drop 32) * 2) (by have h1 := Nat.mod_add_div m H25; have h3 : 1 * (m / H25) ≤ H25 * (m / H25) := Nat.mul_le_mul_right _ (by decide); omega)
        have hl2 := hmono (m / H25) (Nat.div_le_self _ _)
        have hl3 := hmono (m / H25 * 19) (by omega)
        have hl4 := hmono _ (Nat.le_of_lt hlt)
        rw [hmod] at hih
        have hih := hih (by omega)
        clear ih hmono hmod hlt
        have htl : (UInt8.ofNat (x.toNat / 128)).toNat = x.toNat / 128 := by rw [ofNat_val]; omega
        have hll : (UInt8.ofNat (x.toNat % 128)).toNat = x.toNat % 128 := by rw [ofNat_val]; omega
        have hquo : IntKind.u8.wrap ((x.toNat : Int).tdiv 128) = (((UInt8.ofNat (x.toNat / 128)).toNat : Nat) : Int) := by
          rw [htl, show (x.toNat : Int).tdiv 128 = ((x.toNat / 128 : Nat) : Int) by rw [Int.tdiv_eq_ediv_of_nonneg (by omega)]; omega]
          exact wrap_u8 (by omega) (by omega)
        have hrem : (x.toNat : Int).tmod 128 = (((UInt8.ofNat (x.toNat % 128)).toNat : Nat) : Int) := by
          rw [hll, Int.tmod_eq_emod_of_nonneg (by omega)]; omega
        clear htl hll
        generalize UInt8.ofNat (x.toNat / 128) = tp at *
        generalize UInt8.ofNat (x.toNat % 128) = lo at *
        have hLo2 : ((L.take 32).set 31 lo).length = 32 := by simp; omega
        have hset' := fun pre1 sp1 => hset pre1 sp1 lo
        generalize (L.take 32).set 31 lo = Lo2 at *
        have hu32 : (u8s (L.take 32)).length = 32 := by simp; omega
        generalize L.take 32 = Lo at *
        -- the row a[32:]
        have hdrop : At (pre ++ u8s L ++ sp) (if L.length + sp.length = (32 : Int).toNat then pre.length else pre.length + (32 : Int).toNat) (u8s (L.drop 32)) := by
          split
          · rename_i h
            have h : L.length + sp.length = 32 := h
            have : L.drop 32 = [] := List.drop_of_length_le (by omega)
            rw [this]
            exact ⟨pre, u8s L ++ sp, by simp, rfl⟩
          · exact at_drop hAt h32
        have hdl : (L.drop 32).length = L.length - 32 := List.length_drop
        generalize hoff : (if L.length + sp.length = (32 : Int).toNat then pre.length else pre.length + (32 : Int).toNat) = off' at *
        have hm1 := fun b39 => f153' (A := L.drop 32) (ca := L.length + sp.length - 32) (B := [2]) (rd := [⟨b, pre ++ u8s L ++ sp, false⟩] ++ [⟨b39, u8s [2], false⟩]) (s := n8 (L.drop 32) * 2)
          (Row.left (Row.nonil b off' _ (List.mem_singleton.2 rfl) hdrop (by omega)) _) (Row.right (Row.one b39 [2] 1 rfl) _) (rw_two rw_one rw_one) (by omega) (by simp) rfl
        rw [hdl] at hm1
        have hm2 := fun a2 c2 es2 (hr2 : Row a2 (nat8 (n8 (L.drop 32) * 2)) c2 (ro es2)) b43 => f126' (B := [tp]) (s := m / H25) (hr2.left [⟨b43, u8s [tp], false⟩]) (Row.right (Row.one b43 [tp] 1 rfl) (ro es2)) (rw_two (ro_rw es2) rw_one) (by omega) (by simp) (by
          rw [n8_nat8, ← hc2]; simp only [n8]; omega)
        have hm3 := fun a3 c3 es3 (hr3 : Row a3 (nat8 (m / H25)) c3 (ro es3)) b47 => f153' (B := [19]) (s := m / H25 * 19) (hr3.left [⟨b47, u8s [19], false⟩]) (Row.right (Row.one b47 [19] 1 rfl) (ro es3)) (rw_two (ro_rw es3) rw_one) (by omega) (by simp) (by
          rw [n8_nat8]; rfl)
        have hm4 := fun a4 c4 es4 (hr4 : Row a4 (nat8 (m / H25 * 19)) c4 (ro es4)) b1 (pre1 sp1 : List Value) => f126' (A := Lo2) (ca := 32 + sp1.length) (s := m % H25 + 19 * (m / H25)) (Row.left (Row.nonil b1 pre1.length (pre1 ++ u8s Lo2 ++ sp1) (List.mem_singleton.2 rfl) ⟨pre1, sp1, rfl, rfl⟩ (by omega)) (ro es4)) (hr4.right [⟨b1, pre1 ++ u8s Lo2 ++ sp1, false⟩]) (rw_two rw_one (ro_rw es4)) (by omega) (by omega) (by
          rw [n8_nat8, hc1]; omega)
        rw [hLo2] at hm4
        generalize m % H25 + 19 * (m / H25) = m4 at *
        generalize m / H25 * 19 = m3 at *
        generalize m / H25 = m2 at *
        generalize n8 (L.drop 32) * 2 = m1 at *
        by_cases hlen : 32 < L.length
        · skip
          refine WpL.step ?_
          refine Wp.seq ?_
          refine Wp.seq ?_
          refine Wp.reg allGen ?_
          refine Tr.move rfl rfl trivial rfl ?_
          refine Tr.lenS tab rfl rfl rfl rfl trivial rfl ?_
          refine Tr.gtr rfl rfl (by first | with_reducible assumption | exact decide_eq_true (by omega) | exact decide_eq_false (by omega) | exact beq_iff_eq.2 (by omega) | exact beq_eq_false_iff_ne.2 (by omega) | exact bne_iff_ne.2 (by omega) | rfl) rfl trivial rfl ?_
          refine Tr.move rfl rfl trivial rfl ?_
          first | refine Tr.skp rfl ⟨_, _, rfl, rfl, by first | exact .inl rfl | exact .inr rfl⟩ ?_ | (refine Tr.move rfl rfl ⟨_, rfl, rfl⟩ rfl ?_)
          first | refine Tr.skp rfl ⟨_, _, rfl, rfl, by first | exact .inl rfl | exact .inr rfl⟩ ?_ | (refine Tr.lenS tab rfl rfl rfl rfl ⟨_, rfl, rfl⟩ rfl ?_)
          first | refine Tr.skp rfl ⟨_, _, rfl, rfl, by first | exact .inl rfl | exact .inr rfl⟩ ?_ | (refine Tr.eql rfl rfl (by first | with_reducible assumption | exact decide_eq_true (by omega) | exact decide_eq_false (by omega) | exact beq_iff_eq.2 (by omega) | exact beq_eq_false_iff_ne.2 (by omega) | exact bne_iff_ne.2 (by omega) | rfl) rfl ⟨_, rfl, rfl⟩ rfl ?_)
          first | refine Tr.skp rfl ⟨_, _, rfl, rfl, by first | exact .inl rfl | exact .inr rfl⟩ ?_ | (refine Tr.move rfl rfl ⟨_, rfl, rfl⟩ rfl ?_)
          first | refine Tr.skp rfl ⟨_, _, rfl, rfl, by first | exact .inl rfl | exact .inr rfl⟩ ?_ | (refine Tr.move rfl rfl ⟨_, rfl, rfl⟩ rfl ?_)
          first | refine Tr.skp rfl ⟨_, _, rfl, rfl, by first | exact .inl rfl | exact .inr rfl⟩ ?_ | (first | refine Tr.indexAddrS01 tab rfl rfl rfl rfl rfl (by omega) (by omega) rfl ⟨_, rfl, rfl⟩ rfl ?_ | refine Tr.indexAddrS1 tab rfl rfl rfl rfl rfl (by omega) (by omega) rfl ⟨_, rfl, rfl⟩ rfl ?_)
          first | refine Tr.skp rfl ⟨_, _, rfl, rfl, by first | exact .inl rfl | exact .inr rfl⟩ ?_ | (refine Tr.loadS tab rfl rfl rfl (by repeat (first | exact .head _ | refine .tail _ ?_ | refine List.mem_append_right _ ?_)) (by first | rfl | with_reducible assumption | assumption | (simp; done)) rfl ⟨_, rfl, rfl⟩ rfl ?_)
          first | refine Tr.skp rfl ⟨_, _, rfl, rfl, by first | exact .inl rfl | exact .inr rfl⟩ ?_ | (refine Tr.gtr rfl rfl (by first | with_reducible assumption | exact decide_eq_true (by omega) | exact decide_eq_false (by omega) | exact beq_iff_eq.2 (by omega) | exact beq_eq_false_iff_ne.2 (by omega) | exact bne_iff_ne.2 (by omega) | rfl) rfl ⟨_, rfl, rfl⟩ rfl ?_)
          first | refine Tr.skp rfl ⟨_, _, rfl, rfl, by first | exact .inl rfl | exact .inr rfl⟩ ?_ | (first | refine Tr.pickT rfl rfl rfl ⟨_, rfl, rfl⟩ rfl ?_ | refine Tr.pickF rfl rfl rfl ⟨_, rfl, rfl⟩ rfl ?_)
          first | refine Tr.pickT rfl rfl rfl trivial rfl ?_ | refine Tr.pickF rfl rfl rfl trivial rfl ?_
          refine Tr.nil ?_ (fun _ => rfl) (List.Perm.refl _)
          refine Wp.condT rfl ?_
          refine Wp.skip ?_
          refine Wp.block ?_
          refine Wp.seq ?_
          refine Wp.reg allGen ?_
          refine Tr.assign rfl rfl trivial rfl ?_
          refine Tr.nil ?_ (fun _ => rfl) (List.Perm.refl _)
          refine Wp.seq ?_
          refine Wp.reg allGen ?_
          refine Tr.move rfl rfl trivial rfl ?_
          refine Tr.move rfl rfl trivial rfl ?_
          refine Tr.sliceH tab rfl rfl rfl rfl rfl (by omega) (by omega) rfl trivial rfl ?_
          refine Tr.appendF tab rfl Fresh.nil Take.nil rfl (hsrc _ (by repeat (first | exact .head _ | refine .tail _ ?_ | refine List.mem_append_right _ ?_))) (bt_one _) rfl rfl rfl rfl (by simp) (by decide) (by simp; omega) rfl trivial rfl (fun v1 es1 hf1 => ?_)
          rw [List.nil_append] at hf1
          obtain ⟨b1, pre1, sp1, rfl, rfl⟩ := hf1.row (n := 32) hu32 (by decide)
          refine Tr.assign rfl rfl trivial rfl ?_
          refine Tr.nil ?_ (fun _ => rfl) (List.Perm.refl _)
          refine Wp.seq ?_
          refine Wp.reg allGen ?_
          refine Tr.move rfl rfl trivial rfl ?_
          first | refine Tr.indexAddrS01 tab rfl rfl rfl rfl rfl (by omega) (by omega) rfl trivial rfl ?_ | refine Tr.indexAddrS1 tab rfl rfl rfl rfl rfl (by omega) (by omega) rfl trivial rfl ?_
          refine Tr.loadS tab rfl rfl rfl (by repeat (first | exact .head _ | refine .tail _ ?_ | refine List.mem_append_right _ ?_)) (hgLo pre1 sp1) rfl trivial rfl ?_
          refine Tr.quo rfl rfl (by omega) hquo rfl trivial rfl ?_
          refine Tr.assign rfl rfl trivial rfl ?_
          refine Tr.nil ?_ (fun _ => rfl) (List.Perm.refl _)
          refine Wp.seq ?_
          refine Wp.reg allGen ?_
          refine Tr.move rfl rfl trivial rfl ?_
          refine Tr.move rfl rfl trivial rfl ?_
          first | refine Tr.indexAddrS01 tab rfl rfl rfl rfl rfl (by omega) (by omega) rfl trivial rfl ?_ | refine Tr.indexAddrS1 tab rfl rfl rfl rfl rfl (by omega) (by omega) rfl trivial rfl ?_
          refine Tr.loadS tab rfl rfl rfl (by repeat (first | exact .head _ | refine .tail _ ?_ | refine List.mem_append_right _ ?_)) (hgLo pre1 sp1) rfl trivial rfl ?_
          refine Tr.rem rfl rfl (by omega) hrem rfl trivial rfl ?_
          first | refine Tr.indexAddrS01 tab rfl rfl rfl rfl rfl (by omega) (by omega) rfl trivial rfl ?_ | refine Tr.indexAddrS1 tab rfl rfl rfl rfl rfl (by omega) (by omega) rfl trivial rfl ?_
          refine Tr.storeS tab rfl rfl rfl rfl (by repeat (first | exact .here | apply MU.there | apply MU.app)) (by simp only [List.length_append, hu32]; have : (31 : Int).toNat = 31 := rfl; omega) trivial rfl ?_
          rw [hset']
          refine Tr.nil ?_ (fun _ => rfl) (List.Perm.refl _)
          refine Wp.seq ?_
          refine Wp.reg allGen ?_
          refine Tr.buildSlice tab rfl rfl rfl rfl rfl rfl (by simp [fillC, splice, vcells, Value.cells, zrep_one]; rfl) rfl trivial rfl (fun _ _ => ?_)
          refine Tr.assign rfl rfl trivial rfl ?_
          refine Tr.nil ?_ (fun _ => rfl) (List.Perm.refl _)
          refine Wp.seq ?_
          refine Wp.reg allGen ?_
          refine Tr.move rfl rfl trivial rfl ?_
          refine Tr.sliceL tab rfl rfl rfl rfl rfl (by omega) (by omega) hoff rfl trivial rfl ?_
          refine Tr.buildSlice tab rfl rfl rfl rfl rfl rfl (by simp [fillC, splice, vcells, Value.cells, zrep_one]; rfl) rfl trivial rfl (fun B39 _ => ?_)
          refine Tr.callG rfl (hm1 B39) (Has.two (Has.cons (by repeat (first | exact .head _ | refine .tail _ ?_ | refine List.mem_append_right _ ?_)) Has.nil) (Has.cons (by repeat (first | exact .head _ | refine .tail _ ?_ | refine List.mem_append_right _ ?_)) Has.nil)) rfl trivial rfl ?_
          intro v2 es2 hf2
          obtain ⟨a2, c2, rfl, hr2⟩ := hf2.toRow
          refine Tr.assign rfl rfl trivial rfl ?_
          refine Tr.nil ?_ (fun _ => rfl) (List.Perm.refl _)
          refine Wp.seq ?_
          refine Wp.reg allGen ?_
          refine Tr.move rfl rfl trivial rfl ?_
          refine Tr.move rfl rfl trivial rfl ?_
          refine Tr.buildSlice tab rfl rfl rfl rfl rfl rfl (by simp [fillC, splice, vcells, Value.cells, zrep_one]; rfl) rfl trivial rfl (fun B43 _ => ?_)
          refine Tr.callG rfl (hm2 a2 c2 es2 hr2 B43) (Has.two (Has.ro (fun e he => by repeat (first | exact List.mem_append_left _ he | exact he | refine .tail _ ?_ | refine List.mem_append_right _ ?_))) (Has.cons (by repeat (first | exact .head _ | refine .tail _ ?_ | refine List.mem_append_right _ ?_)) Has.nil)) rfl trivial rfl ?_
          intro v3 es3 hf3
          obtain ⟨a3, c3, rfl, hr3⟩ := hf3.toRow
          refine Tr.assign rfl rfl trivial rfl ?_
          refine Tr.nil ?_ (fun _ => rfl) (List.Perm.refl _)
          refine Wp.reg allGen ?_
          refine Tr.move rfl rfl trivial rfl ?_
          refine Tr.move rfl rfl trivial rfl ?_
          refine Tr.buildSlice tab rfl rfl rfl rfl rfl rfl (by simp [fillC, splice, vcells, Value.cells, zrep_one]; rfl) rfl trivial rfl (fun B47 _ => ?_)
          refine Tr.callG rfl (hm3 a3 c3 es3 hr3 B47) (Has.two (Has.ro (fun e he => by repeat (first | exact List.mem_append_left _ he | exact he | refine .tail _ ?_ | refine List.mem_append_right _ ?_))) (Has.cons (by repeat (first | exact .head _ | refine .tail _ ?_ | refine List.mem_append_right _ ?_)) Has.nil)) rfl trivial rfl ?_
          intro v4 es4 hf4
          obtain ⟨a4, c4, rfl, hr4⟩ := hf4.toRow
          refine Tr.callG rfl (hm4 a4 c4 es4 hr4 b1 pre1 sp1) (Has.two (Has.cons (by repeat (first | exact .head _ | refine .tail _ ?_ | refine List.mem_append_right _ ?_)) Has.nil) (Has.ro (fun e he => by repeat (first | exact List.mem_append_left _ he | exact he | refine .tail _ ?_ | refine List.mem_append_right _ ?_)))) rfl trivial rfl ?_
          intro v5 es5 hf5
          refine Tr.assign rfl rfl trivial rfl ?_
          refine Tr.nil ?_ (fun _ => rfl) (List.Perm.refl _)
          exact WpL.weak (hih _ _ hf5) ⟨fun a ha => EH.sub (ESub.sub (by repeat (first | exact ESub.nil | refine ESub.cons rfl (by first | rfl | (simp; done) | (simp; omega)) ?_))) a ha, MH.sub (MSub.left es5 _)⟩
        · obtain ⟨hl32, hbig⟩ : L.length = 32 ∧ 127 < x.toNat := by
            refine ⟨by omega, ?_⟩
            have hl : L.length = 32 := by omega
            have hts := top_split L hl
            rw [hm, hx] at hts
            unfold H25 at hgo
            omega
          refine WpL.step ?_
          refine Wp.seq ?_
          refine Wp.seq ?_
          refine Wp.reg allGen ?_
          refine Tr.move rfl rfl trivial rfl ?_
          refine Tr.lenS tab rfl rfl rfl rfl trivial rfl ?_
          refine Tr.gtr rfl rfl (by first | with_reducible assumption | exact decide_eq_true (by omega) | exact decide_eq_false (by omega) | exact beq_iff_eq.2 (by omega) | exact beq_eq_false_iff_ne.2 (by omega) | exact bne_iff_ne.2 (by omega) | rfl) rfl trivial rfl ?_
          refine Tr.move rfl rfl trivial rfl ?_
          first | refine Tr.skp rfl ⟨_, _, rfl, rfl, by first | exact .inl rfl | exact .inr rfl⟩ ?_ | (refine Tr.move rfl rfl ⟨_, rfl, rfl⟩ rfl ?_)
          first | refine Tr.skp rfl ⟨_, _, rfl, rfl, by first | exact .inl rfl | exact .inr rfl⟩ ?_ | (refine Tr.lenS tab rfl rfl rfl rfl ⟨_, rfl, rfl⟩ rfl ?_)
          first | refine Tr.skp rfl ⟨_, _, rfl, rfl, by first | exact .inl rfl | exact .inr rfl⟩ ?_ | (refine Tr.eql rfl rfl (by first | with_reducible assumption | exact decide_eq_true (by omega) | exact decide_eq_false (by omega) | exact beq_iff_eq.2 (by omega) | exact beq_eq_false_iff_ne.2 (by omega) | exact bne_iff_ne.2 (by omega) | rfl) rfl ⟨_, rfl, rfl⟩ rfl ?_)
          first | refine Tr.skp rfl ⟨_, _, rfl, rfl, by first | exact .inl rfl | exact .inr rfl⟩ ?_ | (refine Tr.move rfl rfl ⟨_, rfl, rfl⟩ rfl ?_)
          first | refine Tr.skp rfl ⟨_, _, rfl, rfl, by first | exact .inl rfl | exact .inr rfl⟩ ?_ | (refine Tr.move rfl rfl ⟨_, rfl, rfl⟩ rfl ?_)
          first | refine Tr.skp rfl ⟨_, _, rfl, rfl, by first | exact .inl rfl | exact .inr rfl⟩ ?_ | (first | refine Tr.indexAddrS01 tab rfl rfl rfl rfl rfl (by omega) (by omega) rfl ⟨_, rfl, rfl⟩ rfl ?_ | refine Tr.indexAddrS1 tab rfl rfl rfl rfl rfl (by omega) (by omega) rfl ⟨_, rfl, rfl⟩ rfl ?_)
          first | refine Tr.skp rfl ⟨_, _, rfl, rfl, by first | exact .inl rfl | exact .inr rfl⟩ ?_ | (refine Tr.loadS tab rfl rfl rfl (by repeat (first | exact .head _ | refine .tail _ ?_ | refine List.mem_append_right _ ?_)) g31 rfl ⟨_, rfl, rfl⟩ rfl ?_)
          first | refine Tr.skp rfl ⟨_, _, rfl, rfl, by first | exact .inl rfl | exact .inr rfl⟩ ?_ | (refine Tr.gtr rfl rfl (by first | with_reducible assumption | exact decide_eq_true (by omega) | exact decide_eq_false (by omega) | exact beq_iff_eq.2 (by omega) | exact beq_eq_false_iff_ne.2 (by omega) | exact bne_iff_ne.2 (by omega) | rfl) rfl ⟨_, rfl, rfl⟩ rfl ?_)
          first | refine Tr.skp rfl ⟨_, _, rfl, rfl, by first | exact .inl rfl | exact .inr rfl⟩ ?_ | (first | refine Tr.pickT rfl rfl rfl ⟨_, rfl, rfl⟩ rfl ?_ | refine Tr.pickF rfl rfl rfl ⟨_, rfl, rfl⟩ rfl ?_)
          first | refine Tr.pickT rfl rfl rfl trivial rfl ?_ | refine Tr.pickF rfl rfl rfl trivial rfl ?_
          refine Tr.nil ?_ (fun _ => rfl) (List.Perm.refl _)
          refine Wp.condT rfl ?_
          refine Wp.skip ?_
          refine Wp.block ?_
          refine Wp.seq ?_
          refine Wp.reg allGen ?_
          refine Tr.assign rfl rfl trivial rfl ?_
          refine Tr.nil ?_ (fun _ => rfl) (List.Perm.refl _)
          refine Wp.seq ?_
          refine Wp.reg allGen ?_
          refine Tr.move rfl rfl trivial rfl ?_
          refine Tr.move rfl rfl trivial rfl ?_
          refine Tr.sliceH tab rfl rfl rfl rfl rfl (by omega) (by omega) rfl trivial rfl ?_
          refine Tr.appendF tab rfl Fresh.nil Take.nil rfl (hsrc _ (by repeat (first | exact .head _ | refine .tail _ ?_ | refine List.mem_append_right _ ?_))) (bt_one _) rfl rfl rfl rfl (by simp) (by decide) (by simp; omega) rfl trivial rfl (fun v1 es1 hf1 => ?_)
          rw [List.nil_append] at hf1
          obtain ⟨b1, pre1, sp1, rfl, rfl⟩ := hf1.row (n := 32) hu32 (by decide)
          refine Tr.assign rfl rfl trivial rfl ?_
          refine Tr.nil ?_ (fun _ => rfl) (List.Perm.refl _)
          refine Wp.seq ?_
          refine Wp.reg allGen ?_
          refine Tr.move rfl rfl trivial rfl ?_
          first | refine Tr.indexAddrS01 tab rfl rfl rfl rfl rfl (by omega) (by omega) rfl trivial rfl ?_ | refine Tr.indexAddrS1 tab rfl rfl rfl rfl rfl (by omega) (by omega) rfl trivial rfl ?_
          refine Tr.loadS tab rfl rfl rfl (by repeat (first | exact .head _ | refine .tail _ ?_ | refine List.mem_append_right _ ?_)) (hgLo pre1 sp1) rfl trivial rfl ?_
          refine Tr.quo rfl rfl (by omega) hquo rfl trivial rfl ?_
          refine Tr.assign rfl rfl trivial rfl ?_
          refine Tr.nil ?_ (fun _ => rfl) (List.Perm.refl _)
          refine Wp.seq ?_
          refine Wp.reg allGen ?_
          refine Tr.move rfl rfl trivial rfl ?_
          refine Tr.move rfl rfl trivial rfl ?_
          first | refine Tr.indexAddrS01 tab rfl rfl rfl rfl rfl (by omega) (by omega) rfl trivial rfl ?_ | refine Tr.indexAddrS1 tab rfl rfl rfl rfl rfl (by omega) (by omega) rfl trivial rfl ?_
          refine Tr.loadS tab rfl rfl rfl (by repeat (first | exact .head _ | refine .tail _ ?_ | refine List.mem_append_right _ ?_)) (hgLo pre1 sp1) rfl trivial rfl ?_
          refine Tr.rem rfl rfl (by omega) hrem rfl trivial rfl ?_
          first | refine Tr.indexAddrS01 tab rfl rfl rfl rfl rfl (by omega) (by omega) rfl trivial rfl ?_ | refine Tr.indexAddrS1 tab rfl rfl rfl rfl rfl (by omega) (by omega) rfl trivial rfl ?_
          refine Tr.storeS tab rfl rfl rfl rfl (by repeat (first | exact .here | apply MU.there | apply MU.app)) (by simp only [List.length_append, hu32]; have : (31 : Int).toNat = 31 := rfl; omega) trivial rfl ?_
          rw [hset']
          refine Tr.nil ?_ (fun _ => rfl) (List.Perm.refl _)
          refine Wp.seq ?_
          refine Wp.reg allGen ?_
          refine Tr.buildSlice tab rfl rfl rfl rfl rfl rfl (by simp [fillC, splice, vcells, Value.cells, zrep_one]; rfl) rfl trivial rfl (fun _ _ => ?_)
          refine Tr.assign rfl rfl trivial rfl ?_
          refine Tr.nil ?_ (fun _ => rfl) (List.Perm.refl _)
          refine Wp.seq ?_
          refine Wp.reg allGen ?_
          refine Tr.move rfl rfl trivial rfl ?_
          refine Tr.sliceL tab rfl rfl rfl rfl rfl (by omega) (by omega) hoff rfl trivial rfl ?_
          refine Tr.buildSlice tab rfl rfl rfl rfl rfl rfl (by simp [fillC, splice, vcells, Value.cells, zrep_one]; rfl) rfl trivial rfl (fun B39 _ => ?_)
          refine Tr.callG rfl (hm1 B39) (Has.two (Has.cons (by repeat (first | exact .head _ | refine .tail _ ?_ | refine List.mem_append_right _ ?_)) Has.nil) (Has.cons (by repeat (first | exact .head _ | refine .tail _ ?_ | refine List.mem_append_right _ ?_)) Has.nil)) rfl trivial rfl ?_
          intro v2 es2 hf2
          obtain ⟨a2, c2, rfl, hr2⟩ := hf2.toRow
          refine Tr.assign rfl rfl trivial rfl ?_
          refine Tr.nil ?_ (fun _ => rfl) (List.Perm.refl _)
          refine Wp.seq ?_
          refine Wp.reg allGen ?_
          refine Tr.move rfl rfl trivial rfl ?_
          refine Tr.move rfl rfl trivial rfl ?_
          refine Tr.buildSlice tab rfl rfl rfl rfl rfl rfl (by simp [fillC, splice, vcells, Value.cells, zrep_one]; rfl) rfl trivial rfl (fun B43 _ => ?_)
          refine Tr.callG rfl (hm2 a2 c2 es2 hr2 B43) (Has.two (Has.ro (fun e he => by repeat (first | exact List.mem_append_left _ he | exact he | refine .tail _ ?_ | refine List.mem_append_right _ ?_))) (Has.cons (by repeat (first | exact .head _ | refine .tail _ ?_ | refine List.mem_append_right _ ?_)) Has.nil)) rfl trivial rfl ?_
          intro v3 es3 hf3
          obtain ⟨a3, c3, rfl, hr3⟩ := hf3.toRow
          refine Tr.assign rfl rfl trivial rfl ?_
          refine Tr.nil ?_ (fun _ => rfl) (List.Perm.refl _)
          refine Wp.reg allGen ?_
          refine Tr.move rfl rfl trivial rfl ?_
          refine Tr.move rfl rfl trivial rfl ?_
          refine Tr.buildSlice tab rfl rfl rfl rfl rfl rfl (by simp [fillC, splice, vcells, Value.cells, zrep_one]; rfl) rfl trivial rfl (fun B47 _ => ?_)
          refine Tr.callG rfl (hm3 a3 c3 es3 hr3 B47) (Has.two (Has.ro (fun e he => by repeat (first | exact List.mem_append_left _ he | exact he | refine .tail _ ?_ | refine List.mem_append_right _ ?_))) (Has.cons (by repeat (first | exact .head _ | refine .tail _ ?_ | refine List.mem_append_right _ ?_)) Has.nil)) rfl trivial rfl ?_
          intro v4 es4 hf4
          obtain ⟨a4, c4, rfl, hr4⟩ := hf4.toRow
          refine Tr.callG rfl (hm4 a4 c4 es4 hr4 b1 pre1 sp1) (Has.two (Has.cons (by repeat (first | exact .head _ | refine .tail _ ?_ | refine List.mem_append_right _ ?_)) Has.nil) (Has.ro (fun e he => by repeat (first | exact List.mem_append_left _ he | exact he | refine .tail _ ?_ | refine List.mem_append_right _ ?_)))) rfl trivial rfl ?_
          intro v5 es5 hf5
          refine Tr.assign rfl rfl trivial rfl ?_
          refine Tr.nil ?_ (fun _ => rfl) (List.Perm.refl _)
          exact WpL.weak (hih _ _ hf5) ⟨fun a ha => EH.sub (ESub.sub (by repeat (first | exact ESub.nil | refine ESub.cons rfl (by first | rfl | (simp; done) | (simp; omega)) ?_))) a ha, MH.sub (MSub.left es5 _)⟩
      · obtain ⟨hl32, hbig⟩ : L.length = 32 ∧ x.toNat ≤ 127 := htop.resolve_left hgo
        refine WpL.step ?_
        refine Wp.seq ?_
        refine Wp.seq ?_
        refine Wp.reg allGen ?_
        refine Tr.move rfl rfl trivial rfl ?_
        refine Tr.lenS tab rfl rfl rfl rfl trivial rfl ?_
        refine Tr.gtr rfl rfl (by first | with_reducible assumption | exact decide_eq_true (by omega) | exact decide_eq_false (by omega) | exact beq_iff_eq.2 (by omega) | exact beq_eq_false_iff_ne.2 (by omega) | exact bne_iff_ne.2 (by omega) | rfl) rfl trivial rfl ?_
        refine Tr.move rfl rfl trivial rfl ?_
        first | refine Tr.skp rfl ⟨_, _, rfl, rfl, by first | exact .inl rfl | exact .inr rfl⟩ ?_ | (refine Tr.move rfl rfl ⟨_, rfl, rfl⟩ rfl ?_)
        first | refine Tr.skp rfl ⟨_, _, rfl, rfl, by first | exact .inl rfl | exact .inr rfl⟩ ?_ | (refine Tr.lenS tab rfl rfl rfl rfl ⟨_, rfl, rfl⟩ rfl ?_)
        first | refine Tr.skp rfl ⟨_, _, rfl, rfl, by first | exact .inl rfl | exact .inr rfl⟩ ?_ | (refine Tr.eql rfl rfl (by first | with_reducible assumption | exact decide_eq_true (by omega) | exact decide_eq_false (by omega) | exact beq_iff_eq.2 (by omega) | exact beq_eq_false_iff_ne.2 (by omega) | exact bne_iff_ne.2 (by omega) | rfl) rfl ⟨_, rfl, rfl⟩ rfl ?_)
        first | refine Tr.skp rfl ⟨_, _, rfl, rfl, by first | exact .inl rfl | exact .inr rfl⟩ ?_ | (refine Tr.move rfl rfl ⟨_, rfl, rfl⟩ rfl ?_)
        first | refine Tr.skp rfl ⟨_, _, rfl, rfl, by first | exact .inl rfl | exact .inr rfl⟩ ?_ | (refine Tr.move rfl rfl ⟨_, rfl, rfl⟩ rfl ?_)
        first | refine Tr.skp rfl ⟨_, _, rfl, rfl, by first | exact .inl rfl | exact .inr rfl⟩ ?_ | (first | refine Tr.indexAddrS01 tab rfl rfl rfl rfl rfl (by omega) (by omega) rfl ⟨_, rfl, rfl⟩ rfl ?_ | refine Tr.indexAddrS1 tab rfl rfl rfl rfl rfl (by omega) (by omega) rfl ⟨_, rfl, rfl⟩ rfl ?_)
        first | refine Tr.skp rfl ⟨_, _, rfl, rfl, by first | exact .inl rfl | exact .inr rfl⟩ ?_ | (refine Tr.loadS tab rfl rfl rfl (by repeat (first | exact .head _ | refine .tail _ ?_ | refine List.mem_append_right _ ?_)) g31 rfl ⟨_, rfl, rfl⟩ rfl ?_)
        first | refine Tr.skp rfl ⟨_, _, rfl, rfl, by first | exact .inl rfl | exact .inr rfl⟩ ?_ | (refine Tr.gtr rfl rfl (by first | with_reducible assumption | exact decide_eq_true (by omega) | exact decide_eq_false (by omega) | exact beq_iff_eq.2 (by omega) | exact beq_eq_false_iff_ne.2 (by omega) | exact bne_iff_ne.2 (by omega) | rfl) rfl ⟨_, rfl, rfl⟩ rfl ?_)
        first | refine Tr.skp rfl ⟨_, _, rfl, rfl, by first | exact .inl rfl | exact .inr rfl⟩ ?_ | (first | refine Tr.pickT rfl rfl rfl ⟨_, rfl, rfl⟩ rfl ?_ | refine Tr.pickF rfl rfl rfl ⟨_, rfl, rfl⟩ rfl ?_)
        first | refine Tr.pickT rfl rfl rfl trivial rfl ?_ | refine Tr.pickF rfl rfl rfl trivial rfl ?_
        refine Tr.nil ?_ (fun _ => rfl) (List.Perm.refl _)
        refine Wp.condF rfl ?_
        refine Wp.exit ?_
        exact ⟨rfl, m, _, _, rfl, by rw [hL]; exact hml, by rw [hL]; exact hf, ⟨fun a ha => EH.sub (ESub.sub (by repeat (first | exact ESub.nil | refine ESub.cons rfl (by first | rfl | (simp; done) | (simp; omega)) ?_))) a ha, fun w hw => hw⟩⟩
    · obtain ⟨a, c, rfl, _⟩ := hf.toRow
      refine WpL.step ?_
      refine Wp.seq ?_
      refine Wp.seq ?_
      refine Wp.reg allGen ?_
      refine Tr.move rfl rfl trivial rfl ?_
      refine Tr.lenS tab rfl rfl rfl rfl trivial rfl ?_
      refine Tr.gtr rfl rfl (by first | with_reducible assumption | exact decide_eq_true (by omega) | exact decide_eq_false (by omega) | exact beq_iff_eq.2 (by omega) | exact beq_eq_false_iff_ne.2 (by omega) | exact bne_iff_ne.2 (by omega) | rfl) rfl trivial rfl ?_
      refine Tr.move rfl rfl trivial rfl ?_
      first | refine Tr.skp rfl ⟨_, _, rfl, rfl, by first | exact .inl rfl | exact .inr rfl⟩ ?_ | (refine Tr.move rfl rfl ⟨_, rfl, rfl⟩ rfl ?_)
      first | refine Tr.skp rfl ⟨_, _, rfl, rfl, by first | exact .inl rfl | exact .inr rfl⟩ ?_ | (refine Tr.lenS tab rfl rfl rfl rfl ⟨_, rfl, rfl⟩ rfl ?_)
      first | refine Tr.skp rfl ⟨_, _, rfl, rfl, by first | exact .inl rfl | exact .inr rfl⟩ ?_ | (refine Tr.eql rfl rfl (by first | with_reducible assumption | exact decide_eq_true (by omega) | exact decide_eq_false (by omega) | exact beq_iff_eq.2 (by omega) | exact beq_eq_false_iff_ne.2 (by omega) | exact bne_iff_ne.2 (by omega) | rfl) rfl ⟨_, rfl, rfl⟩ rfl ?_)
      first | refine Tr.skp rfl ⟨_, _, rfl, rfl, by first | exact .inl rfl | exact .inr rfl⟩ ?_ | (refine Tr.move rfl rfl ⟨_, rfl, rfl⟩ rfl ?_)
      first | refine Tr.skp rfl ⟨_, _, rfl, rfl, by first | exact .inl rfl | exact .inr rfl⟩ ?_ | (refine Tr.move rfl rfl ⟨_, rfl, rfl⟩ rfl ?_)
      first | refine Tr.skp rfl ⟨_, _, rfl, rfl, by first | exact .inl rfl | exact .inr rfl⟩ ?_ | (first | refine Tr.indexAddrS01 tab rfl rfl rfl rfl rfl (by omega) (by omega) rfl ⟨_, rfl, rfl⟩ rfl ?_ | refine Tr.indexAddrS1 tab rfl rfl rfl rfl rfl (by omega) (by omega) rfl ⟨_, rfl, rfl⟩ rfl ?_)
      first | refine Tr.skp rfl ⟨_, _, rfl, rfl, by first | exact .inl rfl | exact .inr rfl⟩ ?_ | (refine Tr.loadS tab rfl rfl rfl (by repeat (first | exact .head _ | refine .tail _ ?_ | refine List.mem_append_right _ ?_)) (by first | rfl | with_reducible assumption | assumption | (simp; done)) rfl ⟨_, rfl, rfl⟩ rfl ?_)
      first | refine Tr.skp rfl ⟨_, _, rfl, rfl, by first | exact .inl rfl | exact .inr rfl⟩ ?_ | (refine Tr.gtr rfl rfl (by first | with_reducible assumption | exact decide_eq_true (by omega) | exact decide_eq_false (by omega) | exact beq_iff_eq.2 (by omega) | exact beq_eq_false_iff_ne.2 (by omega) | exact bne_iff_ne.2 (by omega) | rfl) rfl ⟨_, rfl, rfl⟩ rfl ?_)
      first | refine Tr.skp rfl ⟨_, _, rfl, rfl, by first | exact .inl rfl | exact .inr rfl⟩ ?_ | (first | refine Tr.pickT rfl rfl rfl ⟨_, rfl, rfl⟩ rfl ?_ | refine Tr.pickF rfl rfl rfl ⟨_, rfl, rfl⟩ rfl ?_)
      first | refine Tr.pickT rfl rfl rfl trivial rfl ?_ | refine Tr.pickF rfl rfl rfl trivial rfl ?_
      refine Tr.nil ?_ (fun _ => rfl) (List.Perm.refl _)
      refine Wp.condF rfl ?_
      refine Wp.exit ?_
      exact ⟨rfl, m, _, es, rfl, by rw [hL]; exact hml, by rw [hL]; exact hf, ⟨fun a ha => EH.sub (ESub.sub (by repeat (first | exact ESub.nil | refine ESub.cons rfl (by first | rfl | (simp; done) | (simp; omega)) ?_))) a ha, fun w hw => hw⟩⟩

theorem round_loop2 {g : Gh} (hg : g.n = 58) : ∀ (m : Nat), (nat8 m).length ≤ 1000 → ∀ (v : Value) (es : List Ent), Fresh (u8s (nat8 m)) v es →
    WpL Try.prog g loop124b (fun e env mem => e = .exit 2 ∧ ∃ v es, Fresh (u8s (nat8 (m % P))) v es ∧ Wk g env mem [(0, v)] es) [(0, v)] es := by
  obtain ⟨gn, w0, may⟩ := g
  obtain rfl : gn = 58 := hg
  intro m
  induction m using Nat.strongRecOn with
  | ind m ih =>
    intro hml v es hf
    obtain ⟨a, c, rfl, hr⟩ := hf.toRow
    have hP := fun v2 es2 (h : Fresh (u8s pL) v2 es2) => h.toRow
    have hcmp := fun a2 c2 es2 (hr2 : Row a2 pL c2 (ro es2)) => f120' (c := cmpN m P) (hr.left (ro es2)) (hr2.right (ro es)) (rw_two (ro_rw es) (ro_rw es2)) (by omega) (by decide) (by rw [n8_nat8, pL_n8])
    have hsub := fun a2 c2 es2 (hr2 : Row a2 pL c2 (ro es2)) => f125' (s := m - P) (hr.left (ro es2)) (hr2.right (ro es)) (rw_two (ro_rw es) (ro_rw es2)) (by omega) (by decide) (by rw [n8_nat8, pL_n8])
    rw [pL_len] at hP hcmp hsub
    by_cases hlt : m < P
    · rw [cmpN_neg hlt] at hcmp
      rw [Nat.mod_eq_of_lt hlt]
      refine WpL.step ?_
      refine Wp.seq ?_
      refine Wp.seq ?_
      refine Wp.reg allGen ?_
      refine Tr.move rfl rfl trivial rfl ?_
      refine Tr.callG rfl f121_p Has.nil rfl trivial rfl ?_
      intro v2 es2 hf2
      obtain ⟨a2, c2, rfl, hr2⟩ := hP v2 es2 hf2
      refine Tr.call rfl (hcmp a2 c2 es2 hr2) (Has.two (Has.ro (fun e he => by repeat (first | exact List.mem_append_left _ he | exact he | refine .tail _ ?_ | refine List.mem_append_right _ ?_))) (Has.ro (fun e he => by repeat (first | exact List.mem_append_left _ he | exact he | refine .tail _ ?_ | refine List.mem_append_right _ ?_)))) rfl trivial rfl ?_
      refine Tr.geq rfl rfl (by first | with_reducible assumption | exact decide_eq_true (by omega) | exact decide_eq_false (by omega) | exact beq_iff_eq.2 (by omega) | exact beq_eq_false_iff_ne.2 (by omega) | exact bne_iff_ne.2 (by omega) | rfl) rfl trivial rfl ?_
      refine Tr.nil ?_ (fun _ => rfl) (List.Perm.refl _)
      refine Wp.condF rfl ?_
      refine Wp.exit ?_
      exact ⟨rfl, _, es, hf, ⟨fun a ha => EH.sub (ESub.sub (by repeat (first | exact ESub.nil | refine ESub.cons rfl (by first | rfl | (simp; done) | (simp; omega)) ?_))) a ha, fun w hw => MH.sub (MSub.appR (MSub.refl _) _) w hw⟩⟩
    · have hge := cmpN_geq (a := m) (b := P) (by omega)
      have hih := ih (m - P) (by have := P_pos; omega) (by have := nat8_mono (show m - P ≤ m by omega); omega)
      rw [show (m - P) % P = m % P by rw [← Nat.mod_eq_sub_mod (by omega)]] at hih
      generalize cmpN m P = cc at *
      refine WpL.step ?_
      refine Wp.seq ?_
      refine Wp.seq ?_
      refine Wp.reg allGen ?_
      refine Tr.move rfl rfl trivial rfl ?_
      refine Tr.callG rfl f121_p Has.nil rfl trivial rfl ?_
      intro v2 es2 hf2
      obtain ⟨a2, c2, rfl, hr2⟩ := hP v2 es2 hf2
      refine Tr.call rfl (hcmp a2 c2 es2 hr2) (Has.two (Has.ro (fun e he => by repeat (first | exact List.mem_append_left _ he | exact he | refine .tail _ ?_ | refine List.mem_append_right _ ?_))) (Has.ro (fun e he => by repeat (first | exact List.mem_append_left _ he | exact he | refine .tail _ ?_ | refine List.mem_append_right _ ?_)))) rfl trivial rfl ?_
      refine Tr.geq rfl rfl (by first | with_reducible assumption | exact decide_eq_true (by omega) | exact decide_eq_false (by omega) | exact beq_iff_eq.2 (by omega) | exact beq_eq_false_iff_ne.2 (by omega) | exact bne_iff_ne.2 (by omega) | rfl) rfl trivial rfl ?_
      refine Tr.nil ?_ (fun _ => rfl) (List.Perm.refl _)
      refine Wp.condT rfl ?_
      refine Wp.skip ?_
      refine Wp.block ?_
      refine Wp.reg allGen ?_
      refine Tr.move rfl rfl trivial rfl ?_
      refine Tr.callG rfl f121_p Has.nil rfl trivial rfl ?_
      intro v2 es2 hf2
      obtain ⟨a2, c2, rfl, hr2⟩ := hP v2 es2 hf2
      refine Tr.callG rfl (hsub a2 c2 es2 hr2) (Has.two (Has.ro (fun e he => by repeat (first | exact List.mem_append_left _ he | exact he | refine .tail _ ?_ | refine List.mem_append_right _ ?_))) (Has.ro (fun e he => by repeat (first | exact List.mem_append_left _ he | exact he | refine .tail _ ?_ | refine List.mem_append_right _ ?_)))) rfl trivial rfl ?_
      intro v3 es3 hf3
      refine Tr.assign rfl rfl trivial rfl ?_
      refine Tr.nil ?_ (fun _ => rfl) (List.Perm.refl _)
      exact WpL.weak (hih _ _ hf3) ⟨fun a ha => EH.sub (ESub.sub (by repeat (first | exact ESub.nil | refine ESub.cons rfl (by first | rfl | (simp; done) | (simp; omega)) ?_))) a ha, MH.sub (MSub.left es3 _)⟩
end Go.Proofs.Ytffghaeaohabhaa.AW
