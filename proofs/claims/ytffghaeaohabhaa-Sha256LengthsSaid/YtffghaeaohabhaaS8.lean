import Derived.Test.YtffghaeaohabhaaS7
namespace Go.Proofs.Ytffghaeaohabhaa.AW
open Go Go.Proofs
set_option maxRecDepth 100000

/-! ### blocks in a row -/
def blocksS (K : List UInt32) : Nat → W8 → List UInt8 → W8
  | 0, st, _ => st
  | n + 1, st, l => blocksS K n (blockS K st (l.take 64)) (l.drop 64)

theorem blocksS_add (K : List UInt32) : ∀ (a b : Nat) (st : W8) (l : List UInt8), blocksS K (a + b) st l = blocksS K b (blocksS K a st l) (l.drop (64 * a))
  | 0, b, st, l => by simp [blocksS]
  | a + 1, b, st, l => by
    rw [show a + 1 + b = (a + b) + 1 by omega]
    simp only [blocksS]
    rw [blocksS_add K a b]
    simp only [List.drop_drop]
    congr 2
    omega

theorem blocksS_app (K : List UInt32) : ∀ (n : Nat) (st : W8) (l m : List UInt8), 64 * n ≤ l.length → blocksS K n st (l ++ m) = blocksS K n st l
  | 0, _, _, _, _ => rfl
  | n + 1, st, l, m, h => by
    simp only [blocksS]
    rw [List.take_append_of_le_length (by omega), List.drop_append_of_le_length (by omega)]
    exact blocksS_app K n _ _ _ (by simp; omega)

def start8 : W8 := ⟨startS.getD 0 0, startS.getD 1 0, startS.getD 2 0, startS.getD 3 0, startS.getD 4 0, startS.getD 5 0, startS.getD 6 0, startS.getD 7 0⟩
theorem start8_l : start8.l = startS := by
  have h := startS_len
  apply List.ext_getElem
  · rw [h]; rfl
  · intro i h1 h2
    rw [h] at h2
    have : ∀ (j : Nat) (hj : j < startS.length), startS.getD j 0 = startS[j] := fun j hj => by simp [List.getD, hj]
    match i, h2 with
    | 0, _ => exact this 0 _ | 1, _ => exact this 1 _ | 2, _ => exact this 2 _ | 3, _ => exact this 3 _
    | 4, _ => exact this 4 _ | 5, _ => exact this 5 _ | 6, _ => exact this 6 _ | 7, _ => exact this 7 _

attribute [local irreducible] blockS

theorem W8.l_len (s : W8) : s.l.length = 8 := rfl

/-- what begin makes of a Hash -/
def Beg (dn : Int) (K st : List UInt32) (s : W8) : Prop :=
  (dn = 0 ∧ K.length = 64 ∧ st.length = 8 ∧ s = start8) ∨ (dn = 1 ∧ K = roundsS ∧ st = s.l)

theorem f70_again' (h : Nat) (K st : List UInt32) (r : Value) (c : Int) :
    FnM Try.prog 70 [.pointer (some ⟨h, 0, none⟩)] [⟨h, hc 1 0 K st r c, true⟩] []
      (fun v es => v = .tuple #[] ∧ es = [⟨h, hc 1 0 K st r c, true⟩]) := by
  refine fnM_of 7 rfl Try.func70 rfl (by kernel_rfl) rfl (by simp) (by simp) fun w may => ?_
  refine Wp.seq ?_
  refine Wp.reg allGen ?_
  refine Tr.box rfl rfl rfl trivial rfl (fun B1 _ => ?_)
  refine Tr.nil ?_ (fun _ => rfl) (List.Perm.refl _)
  refine Wp.reg allGen ?_
  refine Tr.loadS tab rfl rfl rfl (by first | exact (.head _) | exact (.tail _ (.head _)) | exact (.tail _ (.tail _ (.head _))) | exact (.tail _ (.tail _ (.tail _ (.head _)))) | exact (.tail _ (.tail _ (.tail _ (.tail _ (.head _))))) | exact (.tail _ (.tail _ (.tail _ (.tail _ (.tail _ (.head _)))))) | exact (.tail _ (.tail _ (.tail _ (.tail _ (.tail _ (.tail _ (.head _))))))) | exact (.tail _ (.tail _ (.tail _ (.tail _ (.tail _ (.tail _ (.tail _ (.head _)))))))) | exact (.tail _ (.tail _ (.tail _ (.tail _ (.tail _ (.tail _ (.tail _ (.tail _ (.head _))))))))) | exact (.tail _ (.tail _ (.tail _ (.tail _ (.tail _ (.tail _ (.tail _ (.tail _ (.tail _ (.head _))))))))))) (by first | rfl | with_reducible assumption | assumption | (simp; done)) rfl trivial rfl ?_
  refine Tr.nilCheck rfl rfl trivial rfl ?_
  refine Tr.fieldAddr tab rfl rfl rfl rfl rfl rfl rfl trivial rfl ?_
  refine Tr.makeFunc1 rfl rfl trivial rfl ?_
  refine Tr.call rfl (f113_again h _ K st r c) (by repeat (first | exact Has.nil | refine Has.cons (by first | exact (.head _) | exact (.tail _ (.head _)) | exact (.tail _ (.tail _ (.head _))) | exact (.tail _ (.tail _ (.tail _ (.head _)))) | exact (.tail _ (.tail _ (.tail _ (.tail _ (.head _))))) | exact (.tail _ (.tail _ (.tail _ (.tail _ (.tail _ (.head _)))))) | exact (.tail _ (.tail _ (.tail _ (.tail _ (.tail _ (.tail _ (.head _))))))) | exact (.tail _ (.tail _ (.tail _ (.tail _ (.tail _ (.tail _ (.tail _ (.head _)))))))) | exact (.tail _ (.tail _ (.tail _ (.tail _ (.tail _ (.tail _ (.tail _ (.tail _ (.head _))))))))) | exact (.tail _ (.tail _ (.tail _ (.tail _ (.tail _ (.tail _ (.tail _ (.tail _ (.tail _ (.head _))))))))))) ?_)) rfl trivial rfl ?_
  refine Tr.nil ?_ (fun _ => rfl) (List.Perm.refl _)
  exact ⟨.inl rfl, _, _, ⟨rfl, rfl⟩, .r0 rfl, (by repeat (first | exact MSub.nil | refine MSub.cons (by first | exact .here | exact (.there .here) | exact (.there (.there .here)) | exact (.there (.there (.there .here))) | exact (.there (.there (.there (.there .here)))) | exact (.there (.there (.there (.there (.there .here))))) | exact (.there (.there (.there (.there (.there (.there .here)))))) | exact (.there (.there (.there (.there (.there (.there (.there .here))))))) | exact (.there (.there (.there (.there (.there (.there (.there (.there .here)))))))) | exact (.there (.there (.there (.there (.there (.there (.there (.there (.there .here)))))))))) (by first | rfl | (simp; done)) ?_)), by simp⟩

theorem f70_begin (h : Nat) {dn : Int} {K st : List UInt32} {s : W8} (hb : Beg dn K st s) (r : Value) (c : Int) :
    FnM Try.prog 70 [.pointer (some ⟨h, 0, none⟩)] [⟨h, hc dn 0 K st r c, true⟩] []
      (fun v es => v = .tuple #[] ∧ es = [⟨h, hc 1 0 roundsS s.l r c, true⟩]) := by
  rcases hb with ⟨rfl, hK, hs, rfl⟩ | ⟨rfl, rfl, rfl⟩
  · rw [start8_l]; exact f70_first h K st hK hs r c
  · exact f70_again' h _ _ r c

/-! ### New -/
theorem f32_new : FnG Try.prog 32 [] [] (fun v es => ∃ h, v = .pointer (some ⟨h, 0, none⟩) ∧ es = [⟨h, hc 0 0 (List.replicate 64 0) (List.replicate 8 0) (.slice none 0 0) 0, true⟩]) := by
  have hz : hc 0 0 (List.replicate 64 0) (List.replicate 8 0) (.slice none 0 0) 0 = Value.int .u32 0 :: .int .i32 0 :: .int .u32 0 :: (List.replicate 72 (Value.int .u32 0) ++ [.slice none 0 0, .int .i64 0]) := by unfold hc; rfl
  refine fnG_of 3 rfl Try.func32 rfl (by kernel_rfl) rfl (by simp) fun w => ?_
  rw [hz]
  refine Wp.seq ?_
  refine Wp.reg allGen ?_
  refine Tr.assign rfl rfl trivial rfl ?_
  refine Tr.nil ?_ (fun _ => rfl) (List.Perm.refl _)
  refine Wp.seq ?_
  refine Wp.reg allGen ?_
  refine Tr.buildS (l := [(0, 3), (3, 64), (67, 8), (75, 1), (76, 1)]) tab rfl rfl rfl rfl rfl rfl trivial rfl ?_
  refine Tr.boxA rfl rfl trivial rfl (fun B2 _ => ?_)
  refine Tr.assign rfl rfl trivial rfl ?_
  refine Tr.nil ?_ (fun _ => rfl) (List.Perm.refl _)
  refine Wp.ret ?_
  exact ⟨.inr rfl, _, _, ⟨_, rfl, rfl⟩, .r1 rfl (RvIs.tmp rfl), (by repeat (first | exact MSub.nil | refine MSub.cons (by first | exact .here | exact (.there .here) | exact (.there (.there .here)) | exact (.there (.there (.there .here))) | exact (.there (.there (.there (.there .here)))) | exact (.there (.there (.there (.there (.there .here))))) | exact (.there (.there (.there (.there (.there (.there .here)))))) | exact (.there (.there (.there (.there (.there (.there (.there .here))))))) | exact (.there (.there (.there (.there (.there (.there (.there (.there .here)))))))) | exact (.there (.there (.there (.there (.there (.there (.there (.there (.there .here)))))))))) (by first | rfl | (simp; done)) ?_)), by simp⟩

/-! ### Write -/
def loop33 : Code := (Code.seq (Code.seq (Code.region 6 #[{ dst := (some 24), op := (Op.move (Operand.tmp 0)), type := 42, pos := "sha256.go:175", after := #[], guard := none }, { dst := (some 25), op := (Op.nilCheck (Operand.tmp 24)), type := 0, pos := "sha256.go:175", after := #[{ on := 0, ground := Ground.data }], guard := none }, { dst := (some 26), op := (Op.fieldAddr 101 (Operand.tmp 25) 3), type := 0, pos := "sha256.go:175", after := #[{ on := 1, ground := Ground.data }], guard := none }, { dst := (some 27), op := (Op.load 36 (Operand.tmp 26)), type := 36, pos := "sha256.go:175", after := #[{ on := 2, ground := Ground.data }], guard := none }, { dst := (some 28), op := (Op.call { callee := (Callee.builtin Builtin.len), args := #[(Operand.tmp 27)], argTypes := #[36] }), type := 3, pos := "sha256.go:175", after := #[{ on := 3, ground := Ground.data }], guard := none }, { dst := (some 29), op := (Op.binOp BinOp.geq 3 (Operand.tmp 28) (Operand.const (Value.int IntKind.i64 64)) 3), type := 4, pos := "sha256.go:175", after := #[{ on := 4, ground := Ground.data }], guard := none }] false) (Code.cond (Operand.tmp 29) Code.skip (Code.exit 0))) (Code.block 1 (Code.seq (Code.region 7 #[{ dst := (some 30), op := (Op.move (Operand.tmp 0)), type := 42, pos := "sha256.go:176", after := #[], guard := none }, { dst := (some 31), op := (Op.move (Operand.tmp 0)), type := 42, pos := "sha256.go:176", after := #[], guard := none }, { dst := (some 32), op := (Op.nilCheck (Operand.tmp 31)), type := 0, pos := "sha256.go:176", after := #[{ on := 1, ground := Ground.data }], guard := none }, { dst := (some 33), op := (Op.fieldAddr 101 (Operand.tmp 32) 1), type := 0, pos := "sha256.go:176", after := #[{ on := 2, ground := Ground.data }], guard := none }, { dst := (some 34), op := (Op.move (Operand.tmp 0)), type := 42, pos := "sha256.go:176", after := #[], guard := none }, { dst := (some 35), op := (Op.nilCheck (Operand.tmp 34)), type := 0, pos := "sha256.go:176", after := #[{ on := 4, ground := Ground.data }], guard := none }, { dst := (some 36), op := (Op.fieldAddr 101 (Operand.tmp 35) 2), type := 0, pos := "sha256.go:176", after := #[{ on := 5, ground := Ground.data }], guard := none }, { dst := (some 37), op := (Op.load 30 (Operand.tmp 36)), type := 30, pos := "sha256.go:176", after := #[{ on := 6, ground := Ground.data }], guard := none }, { dst := (some 38), op := (Op.move (Operand.tmp 0)), type := 42, pos := "sha256.go:176", after := #[], guard := none }, { dst := (some 39), op := (Op.nilCheck (Operand.tmp 38)), type := 0, pos := "sha256.go:176", after := #[{ on := 8, ground := Ground.data }], guard := none }, { dst := (some 40), op := (Op.fieldAddr 101 (Operand.tmp 39) 3), type := 0, pos := "sha256.go:176", after := #[{ on := 9, ground := Ground.data }], guard := none }, { dst := (some 41), op := (Op.load 36 (Operand.tmp 40)), type := 36, pos := "sha256.go:176", after := #[{ on := 10, ground := Ground.data }], guard := none }, { dst := (some 42), op := (Op.slice 36 (Operand.tmp 41) none (some (Operand.const (Value.int IntKind.i64 64))) none), type := 36, pos := "sha256.go:176", after := #[{ on := 11, ground := Ground.data }], guard := none }, { dst := (some 43), op := (Op.call { callee := (Callee.value (Operand.func 72)), args := #[(Operand.tmp 33), (Operand.tmp 37), (Operand.tmp 42)], argTypes := #[104, 30, 36] }), type := 30, pos := "sha256.go:176", after := #[{ on := 3, ground := Ground.data }, { on := 7, ground := Ground.data }, { on := 12, ground := Ground.data }], guard := none }, { dst := (some 44), op := (Op.nilCheck (Operand.tmp 30)), type := 0, pos := "sha256.go:176", after := #[{ on := 0, ground := Ground.data }, { on := 0, ground := Ground.phase }, { on := 1, ground := Ground.phase }, { on := 2, ground := Ground.phase }, { on := 3, ground := Ground.phase }, { on := 4, ground := Ground.phase }, { on := 5, ground := Ground.phase }, { on := 6, ground := Ground.phase }, { on := 7, ground := Ground.phase }, { on := 8, ground := Ground.phase }, { on := 9, ground := Ground.phase }, { on := 10, ground := Ground.phase }, { on := 11, ground := Ground.phase }, { on := 12, ground := Ground.phase }, { on := 13, ground := Ground.phase }], guard := none }, { dst := (some 45), op := (Op.fieldAddr 101 (Operand.tmp 44) 2), type := 0, pos := "sha256.go:176", after := #[{ on := 14, ground := Ground.data }, { on := 0, ground := Ground.phase }, { on := 1, ground := Ground.phase }, { on := 2, ground := Ground.phase }, { on := 3, ground := Ground.phase }, { on := 4, ground := Ground.phase }, { on := 5, ground := Ground.phase }, { on := 6, ground := Ground.phase }, { on := 7, ground := Ground.phase }, { on := 8, ground := Ground.phase }, { on := 9, ground := Ground.phase }, { on := 10, ground := Ground.phase }, { on := 11, ground := Ground.phase }, { on := 12, ground := Ground.phase }, { on := 13, ground := Ground.phase }], guard := none }, { dst := none, op := (Op.store 30 (Operand.tmp 45) (Operand.tmp 43)), type := 0, pos := "sha256.go:176", after := #[{ on := 15, ground := Ground.data }, { on := 13, ground := Ground.data }, { on := 13, ground := Ground.chain }, { on := 0, ground := Ground.phase }, { on := 1, ground := Ground.phase }, { on := 2, ground := Ground.phase }, { on := 3, ground := Ground.phase }, { on := 4, ground := Ground.phase }, { on := 5, ground := Ground.phase }, { on := 6, ground := Ground.phase }, { on := 7, ground := Ground.phase }, { on := 8, ground := Ground.phase }, { on := 9, ground := Ground.phase }, { on := 10, ground := Ground.phase }, { on := 11, ground := Ground.phase }, { on := 12, ground := Ground.phase }, { on := 13, ground := Ground.phase }], guard := none }] true) (Code.region 8 #[{ dst := (some 46), op := (Op.move (Operand.tmp 0)), type := 42, pos := "sha256.go:177", after := #[], guard := none }, { dst := (some 47), op := (Op.move (Operand.tmp 0)), type := 42, pos := "sha256.go:177", after := #[], guard := none }, { dst := (some 48), op := (Op.nilCheck (Operand.tmp 47)), type := 0, pos := "sha256.go:177", after := #[{ on := 1, ground := Ground.data }], guard := none }, { dst := (some 49), op := (Op.fieldAddr 101 (Operand.tmp 48) 3), type := 0, pos := "sha256.go:177", after := #[{ on := 2, ground := Ground.data }], guard := none }, { dst := (some 50), op := (Op.load 36 (Operand.tmp 49)), type := 36, pos := "sha256.go:177", after := #[{ on := 3, ground := Ground.data }], guard := none }, { dst := (some 51), op := (Op.slice 36 (Operand.tmp 50) (some (Operand.const (Value.int IntKind.i64 64))) none none), type := 36, pos := "sha256.go:177", after := #[{ on := 4, ground := Ground.data }], guard := none }, { dst := (some 52), op := (Op.nilCheck (Operand.tmp 46)), type := 0, pos := "sha256.go:177", after := #[{ on := 0, ground := Ground.data }, { on := 0, ground := Ground.phase }, { on := 1, ground := Ground.phase }, { on := 2, ground := Ground.phase }, { on := 3, ground := Ground.phase }, { on := 4, ground := Ground.phase }, { on := 5, ground := Ground.phase }], guard := none }, { dst := (some 53), op := (Op.fieldAddr 101 (Operand.tmp 52) 3), type := 0, pos := "sha256.go:177", after := #[{ on := 6, ground := Ground.data }, { on := 0, ground := Ground.phase }, { on := 1, ground := Ground.phase }, { on := 2, ground := Ground.phase }, { on := 3, ground := Ground.phase }, { on := 4, ground := Ground.phase }, { on := 5, ground := Ground.phase }], guard := none }, { dst := none, op := (Op.store 36 (Operand.tmp 53) (Operand.tmp 51)), type := 0, pos := "sha256.go:177", after := #[{ on := 7, ground := Ground.data }, { on := 5, ground := Ground.data }, { on := 0, ground := Ground.phase }, { on := 1, ground := Ground.phase }, { on := 2, ground := Ground.phase }, { on := 3, ground := Ground.phase }, { on := 4, ground := Ground.phase }, { on := 5, ground := Ground.phase }], guard := none }] false))))

theorem write_loop {g : Gh} (hg : g.n = 54) (h : Nat) (c : Int) : ∀ (n : Nat) (s : W8) (l : List UInt8) (rv : Value) (es : List Ent), l.length / 64 = n → Fresh (u8s l) rv es →
    WpL Try.prog g loop33 (fun e env mem => e = .exit 0 ∧ ∃ rv' es', Fresh (u8s (l.drop (64 * n))) rv' es' ∧ Wk g env mem [] (⟨h, hc 1 0 roundsS (blocksS roundsS n s l).l rv' c, true⟩ :: es'))
      [(0, .pointer (some ⟨h, 0, none⟩))] (⟨h, hc 1 0 roundsS s.l rv c, true⟩ :: es) := by
  obtain ⟨gn, w0, may⟩ := g
  obtain rfl : gn = 54 := hg
  have hr := roundsS_len
  intro n
  induction n with
  | zero =>
    intro s l rv es hn hf
    have hl : l.length < 64 := by omega
    have hf' : Fresh (u8s (l.drop (64 * 0))) rv es := by simpa using hf
    have h75 : (hc 1 0 roundsS s.l rv c)[75]? = some rv := hc_get75 hr (W8.l_len s)
    rcases hf with ⟨_, rfl, rfl⟩ | ⟨b, pre, sp, rfl, rfl⟩
    · skip
      refine WpL.step ?_
      refine Wp.seq ?_
      refine Wp.seq ?_
      refine Wp.reg allGen ?_
      refine Tr.move rfl rfl trivial rfl ?_
      refine Tr.nilCheck rfl rfl trivial rfl ?_
      refine Tr.fieldAddr tab rfl rfl rfl rfl rfl rfl rfl trivial rfl ?_
      refine Tr.loadS tab rfl rfl rfl (by first | exact (.head _) | exact (.tail _ (.head _)) | exact (.tail _ (.tail _ (.head _))) | exact (.tail _ (.tail _ (.tail _ (.head _)))) | exact (.tail _ (.tail _ (.tail _ (.tail _ (.head _))))) | exact (.tail _ (.tail _ (.tail _ (.tail _ (.tail _ (.head _)))))) | exact (.tail _ (.tail _ (.tail _ (.tail _ (.tail _ (.tail _ (.head _))))))) | exact (.tail _ (.tail _ (.tail _ (.tail _ (.tail _ (.tail _ (.tail _ (.head _)))))))) | exact (.tail _ (.tail _ (.tail _ (.tail _ (.tail _ (.tail _ (.tail _ (.tail _ (.head _))))))))) | exact (.tail _ (.tail _ (.tail _ (.tail _ (.tail _ (.tail _ (.tail _ (.tail _ (.tail _ (.head _))))))))))) (by first | rfl | with_reducible assumption | assumption | (simp; done)) rfl trivial rfl ?_
      refine Tr.lenS tab rfl rfl rfl rfl trivial rfl ?_
      refine Tr.geq rfl rfl (by first | with_reducible assumption | exact decide_eq_true (by omega) | exact decide_eq_false (by omega) | exact beq_iff_eq.2 (by omega) | exact beq_eq_false_iff_ne.2 (by omega) | exact bne_iff_ne.2 (by omega) | rfl) rfl trivial rfl ?_
      refine Tr.nil ?_ (fun _ => rfl) (List.Perm.refl _)
      refine Wp.condF rfl ?_
      refine Wp.exit ?_
      exact ⟨rfl, _, _, hf', Wk.mk .nil (MSub.refl _)⟩
    · simp only [List.length_map] at h75 hf' ⊢
      refine WpL.step ?_
      refine Wp.seq ?_
      refine Wp.seq ?_
      refine Wp.reg allGen ?_
      refine Tr.move rfl rfl trivial rfl ?_
      refine Tr.nilCheck rfl rfl trivial rfl ?_
      refine Tr.fieldAddr tab rfl rfl rfl rfl rfl rfl rfl trivial rfl ?_
      refine Tr.loadS tab rfl rfl rfl (by first | exact (.head _) | exact (.tail _ (.head _)) | exact (.tail _ (.tail _ (.head _))) | exact (.tail _ (.tail _ (.tail _ (.head _)))) | exact (.tail _ (.tail _ (.tail _ (.tail _ (.head _))))) | exact (.tail _ (.tail _ (.tail _ (.tail _ (.tail _ (.head _)))))) | exact (.tail _ (.tail _ (.tail _ (.tail _ (.tail _ (.tail _ (.head _))))))) | exact (.tail _ (.tail _ (.tail _ (.tail _ (.tail _ (.tail _ (.tail _ (.head _)))))))) | exact (.tail _ (.tail _ (.tail _ (.tail _ (.tail _ (.tail _ (.tail _ (.tail _ (.head _))))))))) | exact (.tail _ (.tail _ (.tail _ (.tail _ (.tail _ (.tail _ (.tail _ (.tail _ (.tail _ (.head _))))))))))) (by first | rfl | with_reducible assumption | assumption | (simp; done)) rfl trivial rfl ?_
      refine Tr.lenS tab rfl rfl rfl rfl trivial rfl ?_
      refine Tr.geq rfl rfl (by first | with_reducible assumption | exact decide_eq_true (by omega) | exact decide_eq_false (by omega) | exact beq_iff_eq.2 (by omega) | exact beq_eq_false_iff_ne.2 (by omega) | exact bne_iff_ne.2 (by omega) | rfl) rfl trivial rfl ?_
      refine Tr.nil ?_ (fun _ => rfl) (List.Perm.refl _)
      refine Wp.condF rfl ?_
      refine Wp.exit ?_
      exact ⟨rfl, _, _, hf', Wk.mk .nil (MSub.refl _)⟩
  | succ n ih =>
    intro s l rv es hn hf
    have hl : 64 ≤ l.length := by omega
    rcases hf with ⟨h0, _, _⟩ | ⟨b, pre, sp, rfl, rfl⟩
    · simp at h0; subst h0; simp at hl
    · have h75 := hc_get75 (dn := 1) (mu := 0) (r := .slice (some ⟨b, pre.length, none⟩) (u8s l).length ((u8s l).length + sp.length)) (c := c) hr (W8.l_len s)
      simp only [List.length_map] at h75 ⊢
      have hA : At (hc 1 0 roundsS s.l (.slice (some ⟨b, pre.length, none⟩) l.length (l.length + sp.length)) c) 67 (u32s s.l) := hc_atS hr
      have hl8 : (u32s s.l).length = 8 := rfl
      have hsplit : u8s l = u8s (l.take 64) ++ u8s (l.drop 64) := by rw [← List.map_append, List.take_append_drop]
      have ht : (l.take 64).length = 64 := by simp; omega
      have hB : At (pre ++ u8s l ++ sp) pre.length (u8s (l.take 64)) := ⟨pre, u8s (l.drop 64) ++ sp, by rw [hsplit]; simp only [List.append_assoc], rfl⟩
      have hblk := f72_block roundsS hr s (l.take 64) ht h 3 b pre.length (l.length + sp.length) _ _ (hc_atK (dn := 1) (mu := 0) (st := s.l) (r := .slice (some ⟨b, pre.length, none⟩) l.length (l.length + sp.length)) (c := c)) hB
      have hst := hc_setS (dn := 1) (mu := 0) (r := .slice (some ⟨b, pre.length, none⟩) l.length (l.length + sp.length)) (c := c) hr (W8.l_len s) (W8.l_len (blockS roundsS s (l.take 64)))
      have h75' := hc_get75 (dn := 1) (mu := 0) (r := .slice (some ⟨b, pre.length, none⟩) l.length (l.length + sp.length)) (c := c) hr (W8.l_len (blockS roundsS s (l.take 64)))
      have hs75 := fun x => hc_set75 (dn := 1) (mu := 0) (r := .slice (some ⟨b, pre.length, none⟩) l.length (l.length + sp.length)) (c := c) hr (W8.l_len (blockS roundsS s (l.take 64))) x
      obtain ⟨pre', tl, hoff, hcells⟩ : ∃ pre' tl : List Value, (if l.length + sp.length = (64 : Int).toNat then pre.length else pre.length + (64 : Int).toNat) = pre'.length ∧ pre ++ u8s l ++ sp = (pre' ++ u8s (l.drop 64) ++ sp) ++ tl := by
        by_cases hcap : l.length + sp.length = 64
        · have e1 : sp = [] := List.length_eq_zero_iff.1 (by omega)
          have e2 : l.drop 64 = [] := List.length_eq_zero_iff.1 (by simp; omega)
          exact ⟨pre, u8s l, by rw [if_pos (by simpa using hcap)], by rw [e1, e2]; simp⟩
        · refine ⟨pre ++ u8s (l.take 64), [], ?_, ?_⟩
          · rw [if_neg (by simpa using hcap)]
            simp only [List.length_append, List.length_map, ht]
            rfl
          · rw [hsplit]; simp only [List.append_assoc, List.append_nil]
      have hlen' : l.length - (64 : Int).toNat = (u8s (l.drop 64)).length := by simp
      have hcap' : l.length + sp.length - (64 : Int).toNat = (u8s (l.drop 64)).length + sp.length := by
        have : (64 : Int).toNat = 64 := rfl
        simp only [List.length_map, List.length_drop, this]; omega
      have hih := ih (blockS roundsS s (l.take 64)) (l.drop 64) (.slice (some ⟨b, pre'.length, none⟩) (u8s (l.drop 64)).length ((u8s (l.drop 64)).length + sp.length)) [⟨b, pre' ++ u8s (l.drop 64) ++ sp, true⟩] (by simp; omega) (.inr ⟨b, pre', sp, rfl, rfl⟩)
      refine WpL.step ?_
      refine Wp.seq ?_
      refine Wp.seq ?_
      refine Wp.reg allGen ?_
      refine Tr.move rfl rfl trivial rfl ?_
      refine Tr.nilCheck rfl rfl trivial rfl ?_
      refine Tr.fieldAddr tab rfl rfl rfl rfl rfl rfl rfl trivial rfl ?_
      refine Tr.loadS tab rfl rfl rfl (by first | exact (.head _) | exact (.tail _ (.head _)) | exact (.tail _ (.tail _ (.head _))) | exact (.tail _ (.tail _ (.tail _ (.head _)))) | exact (.tail _ (.tail _ (.tail _ (.tail _ (.head _))))) | exact (.tail _ (.tail _ (.tail _ (.tail _ (.tail _ (.head _)))))) | exact (.tail _ (.tail _ (.tail _ (.tail _ (.tail _ (.tail _ (.head _))))))) | exact (.tail _ (.tail _ (.tail _ (.tail _ (.tail _ (.tail _ (.tail _ (.head _)))))))) | exact (.tail _ (.tail _ (.tail _ (.tail _ (.tail _ (.tail _ (.tail _ (.tail _ (.head _))))))))) | exact (.tail _ (.tail _ (.tail _ (.tail _ (.tail _ (.tail _ (.tail _ (.tail _ (.tail _ (.head _))))))))))) (by first | rfl | with_reducible assumption | assumption | (simp; done)) rfl trivial rfl ?_
      refine Tr.lenS tab rfl rfl rfl rfl trivial rfl ?_
      refine Tr.geq rfl rfl (by first | with_reducible assumption | exact decide_eq_true (by omega) | exact decide_eq_false (by omega) | exact beq_iff_eq.2 (by omega) | exact beq_eq_false_iff_ne.2 (by omega) | exact bne_iff_ne.2 (by omega) | rfl) rfl trivial rfl ?_
      refine Tr.nil ?_ (fun _ => rfl) (List.Perm.refl _)
      refine Wp.condT rfl ?_
      refine Wp.skip ?_
      refine Wp.block ?_
      refine Wp.seq ?_
      refine Wp.regE kindOf mo (by kernel_rfl) ?_
      refine Tr.move rfl rfl trivial rfl ?_
      refine Tr.move rfl rfl trivial rfl ?_
      refine Tr.nilCheck rfl rfl trivial rfl ?_
      refine Tr.fieldAddr tab rfl rfl rfl rfl rfl rfl rfl trivial rfl ?_
      refine Tr.move rfl rfl trivial rfl ?_
      refine Tr.nilCheck rfl rfl trivial rfl ?_
      refine Tr.fieldAddr tab rfl rfl rfl rfl rfl rfl rfl trivial rfl ?_
      refine Tr.loadA tab rfl rfl rfl (by first | exact (.head _) | exact (.tail _ (.head _)) | exact (.tail _ (.tail _ (.head _))) | exact (.tail _ (.tail _ (.tail _ (.head _)))) | exact (.tail _ (.tail _ (.tail _ (.tail _ (.head _))))) | exact (.tail _ (.tail _ (.tail _ (.tail _ (.tail _ (.head _)))))) | exact (.tail _ (.tail _ (.tail _ (.tail _ (.tail _ (.tail _ (.head _))))))) | exact (.tail _ (.tail _ (.tail _ (.tail _ (.tail _ (.tail _ (.tail _ (.head _)))))))) | exact (.tail _ (.tail _ (.tail _ (.tail _ (.tail _ (.tail _ (.tail _ (.tail _ (.head _))))))))) | exact (.tail _ (.tail _ (.tail _ (.tail _ (.tail _ (.tail _ (.tail _ (.tail _ (.tail _ (.head _))))))))))) (by first | exact At.all _ | with_reducible assumption | assumption) (by first | with_reducible rfl | with_reducible assumption | (simp; done) | (simp; omega) | rfl) rfl trivial rfl ?_
      refine Tr.move rfl rfl trivial rfl ?_
      refine Tr.nilCheck rfl rfl trivial rfl ?_
      refine Tr.fieldAddr tab rfl rfl rfl rfl rfl rfl rfl trivial rfl ?_
      refine Tr.loadS tab rfl rfl rfl (by first | exact (.head _) | exact (.tail _ (.head _)) | exact (.tail _ (.tail _ (.head _))) | exact (.tail _ (.tail _ (.tail _ (.head _)))) | exact (.tail _ (.tail _ (.tail _ (.tail _ (.head _))))) | exact (.tail _ (.tail _ (.tail _ (.tail _ (.tail _ (.head _)))))) | exact (.tail _ (.tail _ (.tail _ (.tail _ (.tail _ (.tail _ (.head _))))))) | exact (.tail _ (.tail _ (.tail _ (.tail _ (.tail _ (.tail _ (.tail _ (.head _)))))))) | exact (.tail _ (.tail _ (.tail _ (.tail _ (.tail _ (.tail _ (.tail _ (.tail _ (.head _))))))))) | exact (.tail _ (.tail _ (.tail _ (.tail _ (.tail _ (.tail _ (.tail _ (.tail _ (.tail _ (.head _))))))))))) (by first | rfl | with_reducible assumption | assumption | (simp; done)) rfl trivial rfl ?_
      refine Tr.sliceH tab rfl rfl rfl rfl rfl (by omega) (by omega) rfl trivial rfl ?_
      refine Tr.call rfl hblk (by repeat (first | exact Has.nil | refine Has.cons (by first | exact (.head _) | exact (.tail _ (.head _)) | exact (.tail _ (.tail _ (.head _))) | exact (.tail _ (.tail _ (.tail _ (.head _)))) | exact (.tail _ (.tail _ (.tail _ (.tail _ (.head _))))) | exact (.tail _ (.tail _ (.tail _ (.tail _ (.tail _ (.head _)))))) | exact (.tail _ (.tail _ (.tail _ (.tail _ (.tail _ (.tail _ (.head _))))))) | exact (.tail _ (.tail _ (.tail _ (.tail _ (.tail _ (.tail _ (.tail _ (.head _)))))))) | exact (.tail _ (.tail _ (.tail _ (.tail _ (.tail _ (.tail _ (.tail _ (.tail _ (.head _))))))))) | exact (.tail _ (.tail _ (.tail _ (.tail _ (.tail _ (.tail _ (.tail _ (.tail _ (.tail _ (.head _))))))))))) ?_)) rfl trivial rfl ?_
      refine Tr.nilCheck rfl rfl trivial rfl ?_
      refine Tr.fieldAddr tab rfl rfl rfl rfl rfl rfl rfl trivial rfl ?_
      refine Tr.store (vs := u32s (blockS roundsS s (l.take 64)).l) tab rfl rfl rfl rfl (by first | exact .here | exact (.there .here) | exact (.there (.there .here)) | exact (.there (.there (.there .here))) | exact (.there (.there (.there (.there .here)))) | exact (.there (.there (.there (.there (.there .here))))) | exact (.there (.there (.there (.there (.there (.there .here)))))) | exact (.there (.there (.there (.there (.there (.there (.there .here))))))) | exact (.there (.there (.there (.there (.there (.there (.there (.there .here)))))))) | exact (.there (.there (.there (.there (.there (.there (.there (.there (.there .here)))))))))) rfl (by rw [hc_len hr (W8.l_len _)]; exact Nat.le_of_ble_eq_true rfl) hst (u32s_one _) trivial rfl ?_
      refine Tr.nil ?_ (fun _ => rfl) (List.Perm.refl _)
      refine Wp.reg allGen ?_
      refine Tr.move rfl rfl trivial rfl ?_
      refine Tr.move rfl rfl trivial rfl ?_
      refine Tr.nilCheck rfl rfl trivial rfl ?_
      refine Tr.fieldAddr tab rfl rfl rfl rfl rfl rfl rfl trivial rfl ?_
      refine Tr.loadS tab rfl rfl rfl (by first | exact (.head _) | exact (.tail _ (.head _)) | exact (.tail _ (.tail _ (.head _))) | exact (.tail _ (.tail _ (.tail _ (.head _)))) | exact (.tail _ (.tail _ (.tail _ (.tail _ (.head _))))) | exact (.tail _ (.tail _ (.tail _ (.tail _ (.tail _ (.head _)))))) | exact (.tail _ (.tail _ (.tail _ (.tail _ (.tail _ (.tail _ (.head _))))))) | exact (.tail _ (.tail _ (.tail _ (.tail _ (.tail _ (.tail _ (.tail _ (.head _)))))))) | exact (.tail _ (.tail _ (.tail _ (.tail _ (.tail _ (.tail _ (.tail _ (.tail _ (.head _))))))))) | exact (.tail _ (.tail _ (.tail _ (.tail _ (.tail _ (.tail _ (.tail _ (.tail _ (.tail _ (.head _))))))))))) (by first | rfl | with_reducible assumption | assumption | (simp; done)) rfl trivial rfl ?_
      refine Tr.sliceL (off' := pre'.length) tab rfl rfl rfl rfl rfl (by omega) (by omega) hoff rfl trivial rfl ?_
      refine Tr.nilCheck rfl rfl trivial rfl ?_
      refine Tr.fieldAddr tab rfl rfl rfl rfl rfl rfl rfl trivial rfl ?_
      refine Tr.storeS tab rfl rfl rfl rfl (by first | exact .here | exact (.there .here) | exact (.there (.there .here)) | exact (.there (.there (.there .here))) | exact (.there (.there (.there (.there .here)))) | exact (.there (.there (.there (.there (.there .here))))) | exact (.there (.there (.there (.there (.there (.there .here)))))) | exact (.there (.there (.there (.there (.there (.there (.there .here))))))) | exact (.there (.there (.there (.there (.there (.there (.there (.there .here)))))))) | exact (.there (.there (.there (.there (.there (.there (.there (.there (.there .here)))))))))) (by rw [hc_len hr (W8.l_len _)]; exact Nat.le_of_ble_eq_true rfl) trivial rfl ?_
      refine Tr.nil ?_ (fun _ => rfl) (List.Perm.refl _)
      skip
      have hfin := hs75 (.slice (some ⟨b, pre'.length, none⟩) (l.length - (64 : Int).toNat) (l.length + sp.length - (64 : Int).toNat))
      rw [hlen', hcap'] at hfin
      refine WpL.weak (hih.mono ?_) ((Wk.mk (env' := [(0, .pointer (some ⟨h, 0, none⟩))]) (by repeat (first | exact ESub.nil | refine ESub.cons rfl (by first | rfl | (simp; done) | (simp; omega)) ?_)) (MSub.cons (.there .here) hcells (MSub.cons .here (Eq.trans (by rw [hlen', hcap']; rfl) hfin) .nil))).trans (Wk.cut.trans ⟨fun _ x => x, MH.sub (MSub.cons (.there .here) rfl (MSub.cons .here rfl .nil))⟩))
      rintro e env mem ⟨rfl, rv', es', q1, q2⟩
      refine ⟨rfl, rv', es', ?_, ?_⟩
      · rw [List.drop_drop] at q1
        rw [show 64 * (n + 1) = 64 + 64 * n by omega]
        exact q1
      · exact q2

theorem f71_hc (h : Nat) (dn mu : Int) (K st : List UInt32) (r : Value) (c y : Int) (hK : K.length = 64) (hs : st.length = 8) (h0 : 0 ≤ c) (h1 : 0 ≤ y ∧ c + y ≤ 9223372036854775807) :
    FnM Try.prog 71 [.pointer (some ⟨h, 76, none⟩), .int .i64 y] [⟨h, hc dn mu K st r c, true⟩] [] (fun v es => v = i64 (c + y) ∧ es = [⟨h, hc dn mu K st r (c + y), true⟩]) := by
  have := f71_add h (hc dn mu K st r c) 76 c y (c + y) (hc_get76 hK hs) (wrap_i64 (by omega) (by omega))
  rwa [hc_set76 hK hs] at this

theorem SrcOf.cast {mem : Mem} {v : Value} {m m' : List Value} (h : SrcOf mem v m) (e : m = m') : SrcOf mem v m' := e ▸ h

/-- what Write hands back -/
def WriteR (h : Nat) (s : W8) (l : List UInt8) (cnt : Int) (v : Value) (es : List Ent) : Prop :=
  v = i64 0 ∧ ∃ rv' es', Fresh (u8s (l.drop (64 * (l.length / 64)))) rv' es' ∧ es = ⟨h, hc 1 0 roundsS (blocksS roundsS (l.length / 64) s l).l rv' cnt, true⟩ :: es'

section
variable (h : Nat) {dn : Int} {K st : List UInt32} {s : W8} (hb : Beg dn K st s) (cnt : Int) (hc0 : 0 ≤ cnt) (hc1 : cnt ≤ 1099511627776)
  (a0 : Option Addr) (dd : List UInt8) (cp : Nat) (rd : List Ent) (hsrc : Src a0 dd cp rd) (hrd : ∀ e, e ∈ rd → e.rw = false)
include hb hc0 hc1 hsrc hrd

theorem f33_nil0 (hd : dd = []) : FnM Try.prog 33 [.pointer (some ⟨h, 0, none⟩), .slice a0 dd.length cp] [⟨h, hc dn 0 K st (.slice none 0 0) cnt, true⟩] rd (WriteR h s dd (cnt + dd.length)) := by
  have hr := roundsS_len
  have hs75 := fun x => hc_set75 (dn := 1) (mu := 0) (r := .slice none 0 0) (c := cnt + dd.length) hr (W8.l_len s) x
  have hu : u8s dd = [] := by rw [hd]; rfl
  have hl0 : dd.length = 0 := by rw [hd]; rfl
  have h75 := hc_get75 (dn := 1) (mu := 0) (r := .slice none 0 0) (c := cnt + dd.length) hr (W8.l_len s)
  refine fnM_of 54 rfl Try.func33 rfl (by kernel_rfl) rfl (by simp) (by simpa using hrd) fun w may => ?_
  refine Wp.seq ?_
  refine Wp.reg allGen ?_
  refine Tr.assign rfl rfl trivial rfl ?_
  refine Tr.nil ?_ (fun _ => rfl) (List.Perm.refl _)
  refine Wp.seq ?_
  refine Wp.seq ?_
  refine Wp.reg allGen ?_
  refine Tr.move rfl rfl trivial rfl ?_
  first | refine Tr.eqlPN tab rfl rfl rfl rfl rfl trivial rfl ?_ | refine Tr.eqlNN tab rfl rfl rfl rfl rfl trivial rfl ?_
  refine Tr.nil ?_ (fun _ => rfl) (List.Perm.refl _)
  refine Wp.condF rfl ?_
  refine Wp.skip ?_
  refine Wp.seq ?_
  refine Wp.reg allGen ?_
  refine Tr.move rfl rfl trivial rfl ?_
  refine Tr.callM rfl (f70_begin h hb _ _) (Take.cons (by first | exact .here | exact (.there .here) | exact (.there (.there .here)) | exact (.there (.there (.there .here))) | exact (.there (.there (.there (.there .here)))) | exact (.there (.there (.there (.there (.there .here))))) | exact (.there (.there (.there (.there (.there (.there .here)))))) | exact (.there (.there (.there (.there (.there (.there (.there .here))))))) | exact (.there (.there (.there (.there (.there (.there (.there (.there .here)))))))) | exact (.there (.there (.there (.there (.there (.there (.there (.there (.there .here)))))))))) Take.nil) (by repeat (first | exact Has.nil | refine Has.cons (by first | exact (.head _) | exact (.tail _ (.head _)) | exact (.tail _ (.tail _ (.head _))) | exact (.tail _ (.tail _ (.tail _ (.head _)))) | exact (.tail _ (.tail _ (.tail _ (.tail _ (.head _))))) | exact (.tail _ (.tail _ (.tail _ (.tail _ (.tail _ (.head _)))))) | exact (.tail _ (.tail _ (.tail _ (.tail _ (.tail _ (.tail _ (.head _))))))) | exact (.tail _ (.tail _ (.tail _ (.tail _ (.tail _ (.tail _ (.tail _ (.head _)))))))) | exact (.tail _ (.tail _ (.tail _ (.tail _ (.tail _ (.tail _ (.tail _ (.tail _ (.head _))))))))) | exact (.tail _ (.tail _ (.tail _ (.tail _ (.tail _ (.tail _ (.tail _ (.tail _ (.tail _ (.head _))))))))))) ?_)) (by simp) (by simp) rfl trivial rfl ?_
  rintro _ _ ⟨rfl, rfl⟩
  refine Tr.nil ?_ (fun _ => rfl) (List.Perm.refl _)
  refine Wp.seq ?_
  refine Wp.reg allGen ?_
  refine Tr.move rfl rfl trivial rfl ?_
  refine Tr.nilCheck rfl rfl trivial rfl ?_
  refine Tr.fieldAddr tab rfl rfl rfl rfl rfl rfl rfl trivial rfl ?_
  refine Tr.move rfl rfl trivial rfl ?_
  refine Tr.lenS tab rfl rfl rfl rfl trivial rfl ?_
  refine Tr.callM rfl (f71_hc h 1 0 roundsS s.l _ cnt dd.length hr (W8.l_len s) hc0 (by omega)) (Take.cons (by first | exact .here | exact (.there .here) | exact (.there (.there .here)) | exact (.there (.there (.there .here))) | exact (.there (.there (.there (.there .here)))) | exact (.there (.there (.there (.there (.there .here))))) | exact (.there (.there (.there (.there (.there (.there .here)))))) | exact (.there (.there (.there (.there (.there (.there (.there .here))))))) | exact (.there (.there (.there (.there (.there (.there (.there (.there .here)))))))) | exact (.there (.there (.there (.there (.there (.there (.there (.there (.there .here)))))))))) Take.nil) (by repeat (first | exact Has.nil | refine Has.cons (by first | exact (.head _) | exact (.tail _ (.head _)) | exact (.tail _ (.tail _ (.head _))) | exact (.tail _ (.tail _ (.tail _ (.head _)))) | exact (.tail _ (.tail _ (.tail _ (.tail _ (.head _))))) | exact (.tail _ (.tail _ (.tail _ (.tail _ (.tail _ (.head _)))))) | exact (.tail _ (.tail _ (.tail _ (.tail _ (.tail _ (.tail _ (.head _))))))) | exact (.tail _ (.tail _ (.tail _ (.tail _ (.tail _ (.tail _ (.tail _ (.head _)))))))) | exact (.tail _ (.tail _ (.tail _ (.tail _ (.tail _ (.tail _ (.tail _ (.tail _ (.head _))))))))) | exact (.tail _ (.tail _ (.tail _ (.tail _ (.tail _ (.tail _ (.tail _ (.tail _ (.tail _ (.head _))))))))))) ?_)) (by simp) (by simp) rfl trivial rfl ?_
  rintro _ _ ⟨rfl, rfl⟩
  refine Tr.nil ?_ (fun _ => rfl) (List.Perm.refl _)
  refine Wp.seq ?_
  refine Wp.reg allGen ?_
  refine Tr.move rfl rfl trivial rfl ?_
  refine Tr.move rfl rfl trivial rfl ?_
  refine Tr.nilCheck rfl rfl trivial rfl ?_
  refine Tr.fieldAddr tab rfl rfl rfl rfl rfl rfl rfl trivial rfl ?_
  refine Tr.loadS tab rfl rfl rfl (by first | exact (.head _) | exact (.tail _ (.head _)) | exact (.tail _ (.tail _ (.head _))) | exact (.tail _ (.tail _ (.tail _ (.head _)))) | exact (.tail _ (.tail _ (.tail _ (.tail _ (.head _))))) | exact (.tail _ (.tail _ (.tail _ (.tail _ (.tail _ (.head _)))))) | exact (.tail _ (.tail _ (.tail _ (.tail _ (.tail _ (.tail _ (.head _))))))) | exact (.tail _ (.tail _ (.tail _ (.tail _ (.tail _ (.tail _ (.tail _ (.head _)))))))) | exact (.tail _ (.tail _ (.tail _ (.tail _ (.tail _ (.tail _ (.tail _ (.tail _ (.head _))))))))) | exact (.tail _ (.tail _ (.tail _ (.tail _ (.tail _ (.tail _ (.tail _ (.tail _ (.tail _ (.head _))))))))))) (by first | rfl | with_reducible assumption | assumption | (simp; done)) rfl trivial rfl ?_
  refine Tr.move rfl rfl trivial rfl ?_
  refine Tr.appendN0 tab rfl rfl (SrcOf.cast (hsrc.of (by intro e he; repeat (first | exact he | refine .tail _ ?_))) hu) rfl rfl rfl rfl (by simp) (by decide) rfl trivial rfl ?_
  refine Tr.nilCheck rfl rfl trivial rfl ?_
  refine Tr.fieldAddr tab rfl rfl rfl rfl rfl rfl rfl trivial rfl ?_
  refine Tr.storeS tab rfl rfl rfl rfl (by first | exact .here | exact (.there .here) | exact (.there (.there .here)) | exact (.there (.there (.there .here))) | exact (.there (.there (.there (.there .here)))) | exact (.there (.there (.there (.there (.there .here))))) | exact (.there (.there (.there (.there (.there (.there .here)))))) | exact (.there (.there (.there (.there (.there (.there (.there .here))))))) | exact (.there (.there (.there (.there (.there (.there (.there (.there .here)))))))) | exact (.there (.there (.there (.there (.there (.there (.there (.there (.there .here)))))))))) (by rw [hc_len hr (W8.l_len _)]; exact Nat.le_of_ble_eq_true rfl) trivial rfl ?_
  refine Tr.nil ?_ (fun _ => rfl) (List.Perm.refl _)
  refine Wp.seq ?_
  refine Wp.block ?_
  refine Wp.loopQ (write_loop rfl h (cnt + dd.length) (dd.length / 64) s dd _ [] rfl (.inl ⟨hu, rfl, rfl⟩)) (Wk.mk (by repeat (first | exact ESub.nil | refine ESub.cons rfl (by first | rfl | (simp; done) | (simp; omega)) ?_)) (MSub.cons .here (hs75 _) .nil)) ?_
  rintro _ env1 mem1 ⟨rfl, rv1, es1, hfr1, hk1⟩
  refine Wp.weak ?_ hk1
  refine Wp.seq ?_
  refine Wp.reg allGen ?_
  refine Tr.assign rfl rfl trivial rfl ?_
  refine Tr.nil ?_ (fun _ => rfl) (List.Perm.refl _)
  refine Wp.ret ?_
  exact ⟨.inr rfl, _, _, ⟨rfl, rv1, es1, hfr1, rfl⟩, .r1 rfl (RvIs.tmp rfl), MSub.refl _, by intro x hx; rcases List.mem_cons.1 hx with rfl | hx; rfl; exact hfr1.rw x hx⟩

theorem f33_nil1 (hd : 0 < dd.length) (hdl : dd.length ≤ 1099511627776) : FnM Try.prog 33 [.pointer (some ⟨h, 0, none⟩), .slice a0 dd.length cp] [⟨h, hc dn 0 K st (.slice none 0 0) cnt, true⟩] rd (WriteR h s dd (cnt + dd.length)) := by
  have hr := roundsS_len
  have hs75 := fun x => hc_set75 (dn := 1) (mu := 0) (r := .slice none 0 0) (c := cnt + dd.length) hr (W8.l_len s) x
  have h75 := hc_get75 (dn := 1) (mu := 0) (r := .slice none 0 0) (c := cnt + dd.length) hr (W8.l_len s)
  refine fnM_of 54 rfl Try.func33 rfl (by kernel_rfl) rfl (by simp) (by simpa using hrd) fun w may => ?_
  refine Wp.seq ?_
  refine Wp.reg allGen ?_
  refine Tr.assign rfl rfl trivial rfl ?_
  refine Tr.nil ?_ (fun _ => rfl) (List.Perm.refl _)
  refine Wp.seq ?_
  refine Wp.seq ?_
  refine Wp.reg allGen ?_
  refine Tr.move rfl rfl trivial rfl ?_
  first | refine Tr.eqlPN tab rfl rfl rfl rfl rfl trivial rfl ?_ | refine Tr.eqlNN tab rfl rfl rfl rfl rfl trivial rfl ?_
  refine Tr.nil ?_ (fun _ => rfl) (List.Perm.refl _)
  refine Wp.condF rfl ?_
  refine Wp.skip ?_
  refine Wp.seq ?_
  refine Wp.reg allGen ?_
  refine Tr.move rfl rfl trivial rfl ?_
  refine Tr.callM rfl (f70_begin h hb _ _) (Take.cons (by first | exact .here | exact (.there .here) | exact (.there (.there .here)) | exact (.there (.there (.there .here))) | exact (.there (.there (.there (.there .here)))) | exact (.there (.there (.there (.there (.there .here))))) | exact (.there (.there (.there (.there (.there (.there .here)))))) | exact (.there (.there (.there (.there (.there (.there (.there .here))))))) | exact (.there (.there (.there (.there (.there (.there (.there (.there .here)))))))) | exact (.there (.there (.there (.there (.there (.there (.there (.there (.there .here)))))))))) Take.nil) (by repeat (first | exact Has.nil | refine Has.cons (by first | exact (.head _) | exact (.tail _ (.head _)) | exact (.tail _ (.tail _ (.head _))) | exact (.tail _ (.tail _ (.tail _ (.head _)))) | exact (.tail _ (.tail _ (.tail _ (.tail _ (.head _))))) | exact (.tail _ (.tail _ (.tail _ (.tail _ (.tail _ (.head _)))))) | exact (.tail _ (.tail _ (.tail _ (.tail _ (.tail _ (.tail _ (.head _))))))) | exact (.tail _ (.tail _ (.tail _ (.tail _ (.tail _ (.tail _ (.tail _ (.head _)))))))) | exact (.tail _ (.tail _ (.tail _ (.tail _ (.tail _ (.tail _ (.tail _ (.tail _ (.head _))))))))) | exact (.tail _ (.tail _ (.tail _ (.tail _ (.tail _ (.tail _ (.tail _ (.tail _ (.tail _ (.head _))))))))))) ?_)) (by simp) (by simp) rfl trivial rfl ?_
  rintro _ _ ⟨rfl, rfl⟩
  refine Tr.nil ?_ (fun _ => rfl) (List.Perm.refl _)
  refine Wp.seq ?_
  refine Wp.reg allGen ?_
  refine Tr.move rfl rfl trivial rfl ?_
  refine Tr.nilCheck rfl rfl trivial rfl ?_
  refine Tr.fieldAddr tab rfl rfl rfl rfl rfl rfl rfl trivial rfl ?_
  refine Tr.move rfl rfl trivial rfl ?_
  refine Tr.lenS tab rfl rfl rfl rfl trivial rfl ?_
  refine Tr.callM rfl (f71_hc h 1 0 roundsS s.l _ cnt dd.length hr (W8.l_len s) hc0 (by omega)) (Take.cons (by first | exact .here | exact (.there .here) | exact (.there (.there .here)) | exact (.there (.there (.there .here))) | exact (.there (.there (.there (.there .here)))) | exact (.there (.there (.there (.there (.there .here))))) | exact (.there (.there (.there (.there (.there (.there .here)))))) | exact (.there (.there (.there (.there (.there (.there (.there .here))))))) | exact (.there (.there (.there (.there (.there (.there (.there (.there .here)))))))) | exact (.there (.there (.there (.there (.there (.there (.there (.there (.there .here)))))))))) Take.nil) (by repeat (first | exact Has.nil | refine Has.cons (by first | exact (.head _) | exact (.tail _ (.head _)) | exact (.tail _ (.tail _ (.head _))) | exact (.tail _ (.tail _ (.tail _ (.head _)))) | exact (.tail _ (.tail _ (.tail _ (.tail _ (.head _))))) | exact (.tail _ (.tail _ (.tail _ (.tail _ (.tail _ (.head _)))))) | exact (.tail _ (.tail _ (.tail _ (.tail _ (.tail _ (.tail _ (.head _))))))) | exact (.tail _ (.tail _ (.tail _ (.tail _ (.tail _ (.tail _ (.tail _ (.head _)))))))) | exact (.tail _ (.tail _ (.tail _ (.tail _ (.tail _ (.tail _ (.tail _ (.tail _ (.head _))))))))) | exact (.tail _ (.tail _ (.tail _ (.tail _ (.tail _ (.tail _ (.tail _ (.tail _ (.tail _ (.head _))))))))))) ?_)) (by simp) (by simp) rfl trivial rfl ?_
  rintro _ _ ⟨rfl, rfl⟩
  refine Tr.nil ?_ (fun _ => rfl) (List.Perm.refl _)
  refine Wp.seq ?_
  refine Wp.reg allGen ?_
  refine Tr.move rfl rfl trivial rfl ?_
  refine Tr.move rfl rfl trivial rfl ?_
  refine Tr.nilCheck rfl rfl trivial rfl ?_
  refine Tr.fieldAddr tab rfl rfl rfl rfl rfl rfl rfl trivial rfl ?_
  refine Tr.loadS tab rfl rfl rfl (by first | exact (.head _) | exact (.tail _ (.head _)) | exact (.tail _ (.tail _ (.head _))) | exact (.tail _ (.tail _ (.tail _ (.head _)))) | exact (.tail _ (.tail _ (.tail _ (.tail _ (.head _))))) | exact (.tail _ (.tail _ (.tail _ (.tail _ (.tail _ (.head _)))))) | exact (.tail _ (.tail _ (.tail _ (.tail _ (.tail _ (.tail _ (.head _))))))) | exact (.tail _ (.tail _ (.tail _ (.tail _ (.tail _ (.tail _ (.tail _ (.head _)))))))) | exact (.tail _ (.tail _ (.tail _ (.tail _ (.tail _ (.tail _ (.tail _ (.tail _ (.head _))))))))) | exact (.tail _ (.tail _ (.tail _ (.tail _ (.tail _ (.tail _ (.tail _ (.tail _ (.tail _ (.head _))))))))))) (by first | rfl | with_reducible assumption | assumption | (simp; done)) rfl trivial rfl ?_
  refine Tr.move rfl rfl trivial rfl ?_
  refine Tr.appendN tab rfl rfl (hsrc.of (by intro e he; repeat (first | exact he | refine .tail _ ?_))) (by simpa using hd) rfl rfl rfl rfl (by simp) (by simp; omega) (by simp; omega) rfl trivial rfl (fun b1 pre1 sp1 => ?_)
  refine Tr.nilCheck rfl rfl trivial rfl ?_
  refine Tr.fieldAddr tab rfl rfl rfl rfl rfl rfl rfl trivial rfl ?_
  refine Tr.storeS tab rfl rfl rfl rfl (by first | exact .here | exact (.there .here) | exact (.there (.there .here)) | exact (.there (.there (.there .here))) | exact (.there (.there (.there (.there .here)))) | exact (.there (.there (.there (.there (.there .here))))) | exact (.there (.there (.there (.there (.there (.there .here)))))) | exact (.there (.there (.there (.there (.there (.there (.there .here))))))) | exact (.there (.there (.there (.there (.there (.there (.there (.there .here)))))))) | exact (.there (.there (.there (.there (.there (.there (.there (.there (.there .here)))))))))) (by rw [hc_len hr (W8.l_len _)]; exact Nat.le_of_ble_eq_true rfl) trivial rfl ?_
  refine Tr.nil ?_ (fun _ => rfl) (List.Perm.refl _)
  refine Wp.seq ?_
  refine Wp.block ?_
  refine Wp.loopQ (write_loop rfl h (cnt + dd.length) (dd.length / 64) s dd _ [⟨b1, pre1 ++ u8s dd ++ sp1, true⟩] rfl (.inr ⟨b1, pre1, sp1, rfl, rfl⟩)) (Wk.mk (by repeat (first | exact ESub.nil | refine ESub.cons rfl (by first | rfl | (simp; done) | (simp; omega)) ?_)) (MSub.cons (.there .here) (hs75 _) (MSub.cons .here rfl .nil))) ?_
  rintro _ env1 mem1 ⟨rfl, rv1, es1, hfr1, hk1⟩
  refine Wp.weak ?_ hk1
  refine Wp.seq ?_
  refine Wp.reg allGen ?_
  refine Tr.assign rfl rfl trivial rfl ?_
  refine Tr.nil ?_ (fun _ => rfl) (List.Perm.refl _)
  refine Wp.ret ?_
  exact ⟨.inr rfl, _, _, ⟨rfl, rv1, es1, hfr1, rfl⟩, .r1 rfl (RvIs.tmp rfl), MSub.refl _, by intro x hx; rcases List.mem_cons.1 hx with rfl | hx; rfl; exact hfr1.rw x hx⟩

theorem f33_row (b : Nat) (pre sp : List Value) (l : List UInt8) (hdl : l.length + dd.length ≤ 1099511627776) : FnM Try.prog 33 [.pointer (some ⟨h, 0, none⟩), .slice a0 dd.length cp]
    [⟨h, hc dn 0 K st (.slice (some ⟨b, pre.length, none⟩) (u8s l).length ((u8s l).length + sp.length)) cnt, true⟩, ⟨b, pre ++ u8s l ++ sp, true⟩] rd (WriteR h s (l ++ dd) (cnt + dd.length)) := by
  have hr := roundsS_len
  have hs75 := fun x => hc_set75 (dn := 1) (mu := 0) (r := .slice (some ⟨b, pre.length, none⟩) (u8s l).length ((u8s l).length + sp.length)) (c := cnt + dd.length) hr (W8.l_len s) x
  have h75 := hc_get75 (dn := 1) (mu := 0) (r := .slice (some ⟨b, pre.length, none⟩) (u8s l).length ((u8s l).length + sp.length)) (c := cnt + dd.length) hr (W8.l_len s)
  have heqv : ∀ (b1 : Nat) (pre1 sp1 : List Value), Value.slice (some ⟨b1, pre1.length, none⟩) ((u8s l).length + (u8s dd).length) ((u8s l).length + (u8s dd).length + sp1.length) = .slice (some ⟨b1, pre1.length, none⟩) (u8s (l ++ dd)).length ((u8s (l ++ dd)).length + sp1.length) := fun b1 pre1 sp1 => by simp
  refine fnM_of 54 rfl Try.func33 rfl (by kernel_rfl) rfl (by simp) (by simpa using hrd) fun w may => ?_
  refine Wp.seq ?_
  refine Wp.reg allGen ?_
  refine Tr.assign rfl rfl trivial rfl ?_
  refine Tr.nil ?_ (fun _ => rfl) (List.Perm.refl _)
  refine Wp.seq ?_
  refine Wp.seq ?_
  refine Wp.reg allGen ?_
  refine Tr.move rfl rfl trivial rfl ?_
  first | refine Tr.eqlPN tab rfl rfl rfl rfl rfl trivial rfl ?_ | refine Tr.eqlNN tab rfl rfl rfl rfl rfl trivial rfl ?_
  refine Tr.nil ?_ (fun _ => rfl) (List.Perm.refl _)
  refine Wp.condF rfl ?_
  refine Wp.skip ?_
  refine Wp.seq ?_
  refine Wp.reg allGen ?_
  refine Tr.move rfl rfl trivial rfl ?_
  refine Tr.callM rfl (f70_begin h hb _ _) (Take.cons (by first | exact .here | exact (.there .here) | exact (.there (.there .here)) | exact (.there (.there (.there .here))) | exact (.there (.there (.there (.there .here)))) | exact (.there (.there (.there (.there (.there .here))))) | exact (.there (.there (.there (.there (.there (.there .here)))))) | exact (.there (.there (.there (.there (.there (.there (.there .here))))))) | exact (.there (.there (.there (.there (.there (.there (.there (.there .here)))))))) | exact (.there (.there (.there (.there (.there (.there (.there (.there (.there .here)))))))))) Take.nil) (by repeat (first | exact Has.nil | refine Has.cons (by first | exact (.head _) | exact (.tail _ (.head _)) | exact (.tail _ (.tail _ (.head _))) | exact (.tail _ (.tail _ (.tail _ (.head _)))) | exact (.tail _ (.tail _ (.tail _ (.tail _ (.head _))))) | exact (.tail _ (.tail _ (.tail _ (.tail _ (.tail _ (.head _)))))) | exact (.tail _ (.tail _ (.tail _ (.tail _ (.tail _ (.tail _ (.head _))))))) | exact (.tail _ (.tail _ (.tail _ (.tail _ (.tail _ (.tail _ (.tail _ (.head _)))))))) | exact (.tail _ (.tail _ (.tail _ (.tail _ (.tail _ (.tail _ (.tail _ (.tail _ (.head _))))))))) | exact (.tail _ (.tail _ (.tail _ (.tail _ (.tail _ (.tail _ (.tail _ (.tail _ (.tail _ (.head _))))))))))) ?_)) (by simp) (by simp) rfl trivial rfl ?_
  rintro _ _ ⟨rfl, rfl⟩
  refine Tr.nil ?_ (fun _ => rfl) (List.Perm.refl _)
  refine Wp.seq ?_
  refine Wp.reg allGen ?_
  refine Tr.move rfl rfl trivial rfl ?_
  refine Tr.nilCheck rfl rfl trivial rfl ?_
  refine Tr.fieldAddr tab rfl rfl rfl rfl rfl rfl rfl trivial rfl ?_
  refine Tr.move rfl rfl trivial rfl ?_
  refine Tr.lenS tab rfl rfl rfl rfl trivial rfl ?_
  refine Tr.callM rfl (f71_hc h 1 0 roundsS s.l _ cnt dd.length hr (W8.l_len s) hc0 (by omega)) (Take.cons (by first | exact .here | exact (.there .here) | exact (.there (.there .here)) | exact (.there (.there (.there .here))) | exact (.there (.there (.there (.there .here)))) | exact (.there (.there (.there (.there (.there .here))))) | exact (.there (.there (.there (.there (.there (.there .here)))))) | exact (.there (.there (.there (.there (.there (.there (.there .here))))))) | exact (.there (.there (.there (.there (.there (.there (.there (.there .here)))))))) | exact (.there (.there (.there (.there (.there (.there (.there (.there (.there .here)))))))))) Take.nil) (by repeat (first | exact Has.nil | refine Has.cons (by first | exact (.head _) | exact (.tail _ (.head _)) | exact (.tail _ (.tail _ (.head _))) | exact (.tail _ (.tail _ (.tail _ (.head _)))) | exact (.tail _ (.tail _ (.tail _ (.tail _ (.head _))))) | exact (.tail _ (.tail _ (.tail _ (.tail _ (.tail _ (.head _)))))) | exact (.tail _ (.tail _ (.tail _ (.tail _ (.tail _ (.tail _ (.head _))))))) | exact (.tail _ (.tail _ (.tail _ (.tail _ (.tail _ (.tail _ (.tail _ (.head _)))))))) | exact (.tail _ (.tail _ (.tail _ (.tail _ (.tail _ (.tail _ (.tail _ (.tail _ (.head _))))))))) | exact (.tail _ (.tail _ (.tail _ (.tail _ (.tail _ (.tail _ (.tail _ (.tail _ (.tail _ (.head _))))))))))) ?_)) (by simp) (by simp) rfl trivial rfl ?_
  rintro _ _ ⟨rfl, rfl⟩
  refine Tr.nil ?_ (fun _ => rfl) (List.Perm.refl _)
  refine Wp.seq ?_
  refine Wp.reg allGen ?_
  refine Tr.move rfl rfl trivial rfl ?_
  refine Tr.move rfl rfl trivial rfl ?_
  refine Tr.nilCheck rfl rfl trivial rfl ?_
  refine Tr.fieldAddr tab rfl rfl rfl rfl rfl rfl rfl trivial rfl ?_
  refine Tr.loadS tab rfl rfl rfl (by first | exact (.head _) | exact (.tail _ (.head _)) | exact (.tail _ (.tail _ (.head _))) | exact (.tail _ (.tail _ (.tail _ (.head _)))) | exact (.tail _ (.tail _ (.tail _ (.tail _ (.head _))))) | exact (.tail _ (.tail _ (.tail _ (.tail _ (.tail _ (.head _)))))) | exact (.tail _ (.tail _ (.tail _ (.tail _ (.tail _ (.tail _ (.head _))))))) | exact (.tail _ (.tail _ (.tail _ (.tail _ (.tail _ (.tail _ (.tail _ (.head _)))))))) | exact (.tail _ (.tail _ (.tail _ (.tail _ (.tail _ (.tail _ (.tail _ (.tail _ (.head _))))))))) | exact (.tail _ (.tail _ (.tail _ (.tail _ (.tail _ (.tail _ (.tail _ (.tail _ (.tail _ (.head _))))))))))) (by first | rfl | with_reducible assumption | assumption | (simp; done)) rfl trivial rfl ?_
  refine Tr.move rfl rfl trivial rfl ?_
  refine Tr.appendO tab rfl (by first | exact .here | exact (.there .here) | exact (.there (.there .here)) | exact (.there (.there (.there .here))) | exact (.there (.there (.there (.there .here)))) | exact (.there (.there (.there (.there (.there .here))))) | exact (.there (.there (.there (.there (.there (.there .here)))))) | exact (.there (.there (.there (.there (.there (.there (.there .here))))))) | exact (.there (.there (.there (.there (.there (.there (.there (.there .here)))))))) | exact (.there (.there (.there (.there (.there (.there (.there (.there (.there .here)))))))))) rfl rfl rfl rfl rfl (hsrc.of (by intro e he; repeat (first | exact he | refine .tail _ ?_))) (by simp [Value.oneCell']) rfl rfl rfl rfl (by simp) (by simp; omega) (by simp; omega) rfl trivial rfl (fun b1 pre1 sp1 => ?_)
  refine Tr.nilCheck rfl rfl trivial rfl ?_
  refine Tr.fieldAddr tab rfl rfl rfl rfl rfl rfl rfl trivial rfl ?_
  refine Tr.storeS tab rfl rfl rfl rfl (by first | exact .here | exact (.there .here) | exact (.there (.there .here)) | exact (.there (.there (.there .here))) | exact (.there (.there (.there (.there .here)))) | exact (.there (.there (.there (.there (.there .here))))) | exact (.there (.there (.there (.there (.there (.there .here)))))) | exact (.there (.there (.there (.there (.there (.there (.there .here))))))) | exact (.there (.there (.there (.there (.there (.there (.there (.there .here)))))))) | exact (.there (.there (.there (.there (.there (.there (.there (.there (.there .here)))))))))) (by rw [hc_len hr (W8.l_len _)]; exact Nat.le_of_ble_eq_true rfl) trivial rfl ?_
  refine Tr.nil ?_ (fun _ => rfl) (List.Perm.refl _)
  refine Wp.seq ?_
  refine Wp.block ?_
  refine Wp.loopQ (write_loop rfl h (cnt + dd.length) ((l ++ dd).length / 64) s (l ++ dd) _ [⟨b1, pre1 ++ u8s (l ++ dd) ++ sp1, true⟩] rfl (.inr ⟨b1, pre1, sp1, rfl, rfl⟩)) (Wk.mk (by repeat (first | exact ESub.nil | refine ESub.cons rfl (by first | rfl | (simp; done) | (simp; omega)) ?_)) (MSub.cons (.there .here) ((hs75 _).trans (congrArg (fun q => hc 1 0 roundsS s.l q _) (heqv b1 pre1 sp1))) (MSub.cons .here (by simp) .nil))) ?_
  rintro _ env1 mem1 ⟨rfl, rv1, es1, hfr1, hk1⟩
  refine Wp.weak ?_ hk1
  refine Wp.seq ?_
  refine Wp.reg allGen ?_
  refine Tr.assign rfl rfl trivial rfl ?_
  refine Tr.nil ?_ (fun _ => rfl) (List.Perm.refl _)
  refine Wp.ret ?_
  exact ⟨.inr rfl, _, _, ⟨rfl, rv1, es1, hfr1, rfl⟩, .r1 rfl (RvIs.tmp rfl), MSub.refl _, by intro x hx; rcases List.mem_cons.1 hx with rfl | hx; rfl; exact hfr1.rw x hx⟩

/-- Write -/
theorem f33_write (l : List UInt8) (rv : Value) (es : List Ent) (hf : Fresh (u8s l) rv es) (hdl : l.length + dd.length ≤ 1099511627776) :
    FnM Try.prog 33 [.pointer (some ⟨h, 0, none⟩), .slice a0 dd.length cp] (⟨h, hc dn 0 K st rv cnt, true⟩ :: es) rd (WriteR h s (l ++ dd) (cnt + dd.length)) := by
  rcases hf with ⟨h0, rfl, rfl⟩ | ⟨b, pre, sp, rfl, rfl⟩
  · have hl : l = [] := by simpa using h0
    subst hl
    by_cases hd : dd = []
    · exact f33_nil0 h hb cnt hc0 hc1 a0 dd cp rd hsrc hrd hd
    · exact f33_nil1 h hb cnt hc0 hc1 a0 dd cp rd hsrc hrd (List.length_pos_iff.2 hd) (by omega)
  · exact f33_row h hb cnt hc0 hc1 a0 dd cp rd hsrc hrd b pre sp l hdl
end
end Go.Proofs.Ytffghaeaohabhaa.AW
