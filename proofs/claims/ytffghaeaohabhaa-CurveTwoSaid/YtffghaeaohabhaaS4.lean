import Derived.Test.YtffghaeaohabhaaS3
namespace Go.Proofs.Ytffghaeaohabhaa.AW
open Go
set_option maxRecDepth 100000

theorem set_rep (A : List Value) (z v : Value) (k r : Nat) (h : A.length = k) : (A ++ List.replicate (r + 1) z).set k v = (A ++ [v]) ++ List.replicate r z := by
  subst h
  rw [List.set_append_right _ _ (Nat.le_refl _)]
  simp [List.replicate_succ]

theorem At.tail {c : List Value} {off : Nat} {x : Value} {r : List Value} (h : At c off (x :: r)) : At c (off + 1) r := by
  obtain ⟨l, rr, h3, h4⟩ := h
  exact ⟨l ++ [x], rr, by simp [h3], by simp [h4]⟩

theorem At.head {c : List Value} {off : Nat} {x : Value} {r : List Value} (h : At c off (x :: r)) : c[off]? = some x := by
  have := h.get (j := 0) (v := x) (by simp)
  simpa using this

theorem primesL_bd {n : Nat} {q : Int} (h : q ∈ primesL n) : 2 ≤ q ∧ q < 542 := by unfold primesL at h; exact pl_bd 542 q (List.mem_of_mem_take h)
theorem primesL_len {n : Nat} (h : n ≤ 100) : (primesL n).length = n := by unfold primesL; rw [List.length_take, pl_542]; omega

def loop26 : Code := (Code.seq (Code.region 4 #[{ dst := (some 13), op := (Op.binOp BinOp.lss 3 (Operand.tmp 12) (Operand.tmp 11) 3), type := 0, pos := "sha256.go:80", after := #[], guard := none }] false) (Code.seq (Code.cond (Operand.tmp 13) Code.skip (Code.exit 0)) (Code.seq (Code.block 1 (Code.seq (Code.region 5 #[{ dst := (some 14), op := (Op.move (Operand.tmp 12)), type := 3, pos := "sha256.go:80", after := #[], guard := none }, { dst := (some 15), op := (Op.indexAddr 22 (Operand.tmp 10) (Operand.tmp 12)), type := 0, pos := "sha256.go:80", after := #[], guard := none }, { dst := (some 16), op := (Op.load 3 (Operand.tmp 15)), type := 3, pos := "sha256.go:80", after := #[{ on := 1, ground := Ground.data }], guard := none }, { dst := (some 4), op := (Op.assign (Operand.tmp 14)), type := 3, pos := "sha256.go:80", after := #[{ on := 0, ground := Ground.data }, { on := 0, ground := Ground.phase }, { on := 1, ground := Ground.phase }, { on := 2, ground := Ground.phase }], guard := none }, { dst := (some 5), op := (Op.assign (Operand.tmp 16)), type := 3, pos := "sha256.go:80", after := #[{ on := 2, ground := Ground.data }, { on := 3, ground := Ground.chain }, { on := 0, ground := Ground.phase }, { on := 1, ground := Ground.phase }, { on := 2, ground := Ground.phase }, { on := 3, ground := Ground.phase }], guard := none }] false) (Code.region 6 #[{ dst := (some 17), op := (Op.move (Operand.tmp 4)), type := 3, pos := "sha256.go:81", after := #[], guard := none }, { dst := (some 18), op := (Op.move (Operand.tmp 5)), type := 3, pos := "sha256.go:81", after := #[], guard := none }, { dst := (some 19), op := (Op.call { callee := (Callee.value (Operand.func 66)), args := #[(Operand.tmp 18)], argTypes := #[3] }), type := 29, pos := "sha256.go:81", after := #[{ on := 1, ground := Ground.data }], guard := none }, { dst := (some 20), op := (Op.indexAddr 30 (Operand.tmp 1) (Operand.tmp 17)), type := 0, pos := "sha256.go:81", after := #[{ on := 0, ground := Ground.data }, { on := 0, ground := Ground.phase }, { on := 1, ground := Ground.phase }, { on := 2, ground := Ground.phase }], guard := none }, { dst := none, op := (Op.store 29 (Operand.tmp 20) (Operand.tmp 19)), type := 0, pos := "sha256.go:81", after := #[{ on := 3, ground := Ground.data }, { on := 2, ground := Ground.data }, { on := 2, ground := Ground.chain }, { on := 0, ground := Ground.phase }, { on := 1, ground := Ground.phase }, { on := 2, ground := Ground.phase }], guard := none }] false))) (Code.region 7 #[{ dst := (some 21), op := (Op.binOp BinOp.add 3 (Operand.tmp 12) (Operand.const (Value.int IntKind.i64 1)) 3), type := 3, pos := "sha256.go:80", after := #[], guard := none }, { dst := (some 12), op := (Op.move (Operand.tmp 21)), type := 3, pos := "sha256.go:80", after := #[{ on := 0, ground := Ground.data }], guard := none }] false))))

theorem start_loop {g : Gh} (hg : g.n = 23) (br bo bl off n cp : Nat) (zr c : List Value) (rw : Bool) (hn : n = 8) : ∀ (r : List Int) (A : List Value) (k : Nat), A.length = k → k + r.length = n → At c (off + k) (r.map i64) → (∀ q, q ∈ r → 2 ≤ q ∧ q < 542) →
    WpL Try.prog g loop26 (fun e env mem => e = .exit 0 ∧ Wk g env mem [(0, .pointer (some ⟨br, 0, none⟩)), (1, .pointer (some ⟨bo, 0, none⟩))] [⟨br, zr, true⟩, ⟨bo, A ++ r.map (fun p => u32 (squareS p)), true⟩])
      [(0, .pointer (some ⟨br, 0, none⟩)), (1, .pointer (some ⟨bo, 0, none⟩)), (10, .slice (some ⟨bl, off, none⟩) n cp), (11, i64 n), (12, i64 k)] [⟨br, zr, true⟩, ⟨bo, A ++ List.replicate r.length (.int .u32 0), true⟩, ⟨bl, c, rw⟩]
  | [], A, k, hA, hk, hc, hq => by
    obtain ⟨gn, w0, may⟩ := g
    obtain rfl : gn = 23 := hg
    simp only [List.length_nil] at hk
    refine WpL.step ?_
    refine Wp.seq ?_
    refine Wp.reg allGen ?_
    refine Tr.lss rfl rfl (by first | with_reducible assumption | exact decide_eq_true (by omega) | exact decide_eq_false (by omega) | exact beq_iff_eq.2 (by omega) | exact beq_eq_false_iff_ne.2 (by omega) | exact bne_iff_ne.2 (by omega) | rfl) rfl trivial rfl ?_
    refine Tr.nil ?_ (fun _ => rfl) (List.Perm.refl _)
    refine Wp.seq ?_
    refine Wp.condF rfl ?_
    refine Wp.exit ?_
    exact ⟨rfl, Wk.mk (by repeat (first | exact ESub.nil | refine ESub.cons rfl (by first | rfl | (simp; done) | (simp; omega)) ?_)) (by repeat (first | exact MSub.nil | refine MSub.cons (by first | exact .here | exact (.there .here) | exact (.there (.there .here)) | exact (.there (.there (.there .here))) | exact (.there (.there (.there (.there .here)))) | exact (.there (.there (.there (.there (.there .here))))) | exact (.there (.there (.there (.there (.there (.there .here)))))) | exact (.there (.there (.there (.there (.there (.there (.there .here))))))) | exact (.there (.there (.there (.there (.there (.there (.there (.there .here)))))))) | exact (.there (.there (.there (.there (.there (.there (.there (.there (.there .here)))))))))) (by first | rfl | (simp; done)) ?_))⟩
  | q :: r, A, k, hA, hk, hc, hq => by
    obtain ⟨gn, w0, may⟩ := g
    obtain rfl : gn = 23 := hg
    simp only [List.length_cons] at hk
    have hget : c[off + k]? = some (i64 q) := hc.head
    have hq0 := hq q (by simp)
    refine WpL.step ?_
    refine Wp.seq ?_
    refine Wp.reg allGen ?_
    refine Tr.lss rfl rfl (by first | with_reducible assumption | exact decide_eq_true (by omega) | exact decide_eq_false (by omega) | exact beq_iff_eq.2 (by omega) | exact beq_eq_false_iff_ne.2 (by omega) | exact bne_iff_ne.2 (by omega) | rfl) rfl trivial rfl ?_
    refine Tr.nil ?_ (fun _ => rfl) (List.Perm.refl _)
    refine Wp.seq ?_
    refine Wp.condT rfl ?_
    refine Wp.skip ?_
    refine Wp.seq ?_
    refine Wp.block ?_
    refine Wp.seq ?_
    refine Wp.reg allGen ?_
    refine Tr.move rfl rfl trivial rfl ?_
    first | refine Tr.indexAddrS01 tab rfl rfl rfl rfl rfl (by omega) (by omega) rfl trivial rfl ?_ | refine Tr.indexAddrS1 tab rfl rfl rfl rfl rfl (by omega) (by omega) rfl trivial rfl ?_
    refine Tr.loadS tab rfl rfl rfl (by first | exact (.head _) | exact (.tail _ (.head _)) | exact (.tail _ (.tail _ (.head _))) | exact (.tail _ (.tail _ (.tail _ (.head _)))) | exact (.tail _ (.tail _ (.tail _ (.tail _ (.head _))))) | exact (.tail _ (.tail _ (.tail _ (.tail _ (.tail _ (.head _)))))) | exact (.tail _ (.tail _ (.tail _ (.tail _ (.tail _ (.tail _ (.head _))))))) | exact (.tail _ (.tail _ (.tail _ (.tail _ (.tail _ (.tail _ (.tail _ (.head _)))))))) | exact (.tail _ (.tail _ (.tail _ (.tail _ (.tail _ (.tail _ (.tail _ (.tail _ (.head _))))))))) | exact (.tail _ (.tail _ (.tail _ (.tail _ (.tail _ (.tail _ (.tail _ (.tail _ (.tail _ (.head _))))))))))) (by first | rfl | with_reducible assumption | assumption | (simp; done)) rfl trivial rfl ?_
    refine Tr.assign rfl rfl trivial rfl ?_
    refine Tr.assign rfl rfl trivial rfl ?_
    refine Tr.nil ?_ (fun _ => rfl) (List.Perm.refl _)
    refine Wp.reg allGen ?_
    refine Tr.move rfl rfl trivial rfl ?_
    refine Tr.move rfl rfl trivial rfl ?_
    refine Tr.call rfl (f66_square q (by omega) (by omega)) (by repeat (first | exact Has.nil | refine Has.cons (by first | exact (.head _) | exact (.tail _ (.head _)) | exact (.tail _ (.tail _ (.head _))) | exact (.tail _ (.tail _ (.tail _ (.head _)))) | exact (.tail _ (.tail _ (.tail _ (.tail _ (.head _))))) | exact (.tail _ (.tail _ (.tail _ (.tail _ (.tail _ (.head _)))))) | exact (.tail _ (.tail _ (.tail _ (.tail _ (.tail _ (.tail _ (.head _))))))) | exact (.tail _ (.tail _ (.tail _ (.tail _ (.tail _ (.tail _ (.tail _ (.head _)))))))) | exact (.tail _ (.tail _ (.tail _ (.tail _ (.tail _ (.tail _ (.tail _ (.tail _ (.head _))))))))) | exact (.tail _ (.tail _ (.tail _ (.tail _ (.tail _ (.tail _ (.tail _ (.tail _ (.tail _ (.head _))))))))))) ?_)) rfl trivial rfl ?_
    first | refine Tr.indexAddr01 tab rfl rfl rfl rfl rfl (by omega) (by omega) rfl trivial rfl ?_ | refine Tr.indexAddr1 tab rfl rfl rfl rfl rfl (by omega) (by omega) rfl trivial rfl ?_
    refine Tr.storeS tab rfl rfl rfl rfl (by first | exact .here | exact (.there .here) | exact (.there (.there .here)) | exact (.there (.there (.there .here))) | exact (.there (.there (.there (.there .here)))) | exact (.there (.there (.there (.there (.there .here))))) | exact (.there (.there (.there (.there (.there (.there .here)))))) | exact (.there (.there (.there (.there (.there (.there (.there .here))))))) | exact (.there (.there (.there (.there (.there (.there (.there (.there .here)))))))) | exact (.there (.there (.there (.there (.there (.there (.there (.there (.there .here)))))))))) (by first | decide | (simp; done) | (simp; omega) | exact Nat.le_of_ble_eq_true rfl) trivial rfl ?_
    refine Tr.nil ?_ (fun _ => rfl) (List.Perm.refl _)
    refine Wp.reg allGen ?_
    refine Tr.add rfl rfl (by first | exact wrap_i64 (by omega) (by omega) | rfl) rfl trivial rfl ?_
    refine Tr.move rfl rfl trivial rfl ?_
    refine Tr.nil ?_ (fun _ => rfl) (List.Perm.refl _)
    refine WpL.weak ((start_loop rfl br bo bl off n cp zr c rw hn r (A ++ [u32 (squareS q)]) (k + 1) (by simp [hA]) (by omega) hc.tail (fun z hz => hq z (by simp [hz]))).mono ?_) (Wk.mk (by repeat (first | exact ESub.nil | refine ESub.cons rfl (by first | rfl | (simp; done) | (simp; omega)) ?_)) ?_)
    · intro e env mem h
      simpa using h
    · refine MSub.cons (by first | exact .here | exact (.there .here) | exact (.there (.there .here)) | exact (.there (.there (.there .here))) | exact (.there (.there (.there (.there .here)))) | exact (.there (.there (.there (.there (.there .here))))) | exact (.there (.there (.there (.there (.there (.there .here)))))) | exact (.there (.there (.there (.there (.there (.there (.there .here))))))) | exact (.there (.there (.there (.there (.there (.there (.there (.there .here)))))))) | exact (.there (.there (.there (.there (.there (.there (.there (.there (.there .here)))))))))) rfl (MSub.cons (by first | exact .here | exact (.there .here) | exact (.there (.there .here)) | exact (.there (.there (.there .here))) | exact (.there (.there (.there (.there .here)))) | exact (.there (.there (.there (.there (.there .here))))) | exact (.there (.there (.there (.there (.there (.there .here)))))) | exact (.there (.there (.there (.there (.there (.there (.there .here))))))) | exact (.there (.there (.there (.there (.there (.there (.there (.there .here)))))))) | exact (.there (.there (.there (.there (.there (.there (.there (.there (.there .here)))))))))) ?_ (MSub.cons (by first | exact .here | exact (.there .here) | exact (.there (.there .here)) | exact (.there (.there (.there .here))) | exact (.there (.there (.there (.there .here)))) | exact (.there (.there (.there (.there (.there .here))))) | exact (.there (.there (.there (.there (.there (.there .here)))))) | exact (.there (.there (.there (.there (.there (.there (.there .here))))))) | exact (.there (.there (.there (.there (.there (.there (.there (.there .here)))))))) | exact (.there (.there (.there (.there (.there (.there (.there (.there (.there .here)))))))))) rfl .nil))
      exact set_rep A _ _ k r.length hA

theorem start_loop' {g : Gh} (hg : g.n = 23) (br bo bl off cp : Nat) (zr c z : List Value) (rw : Bool) (r : List Int) (hn : r.length = 8) (hz : z = List.replicate 8 (.int .u32 0)) (hc : At c off (r.map i64)) (hq : ∀ q, q ∈ r → 2 ≤ q ∧ q < 542) :
    WpL Try.prog g loop26 (fun e env mem => e = .exit 0 ∧ Wk g env mem [(0, .pointer (some ⟨br, 0, none⟩)), (1, .pointer (some ⟨bo, 0, none⟩))] [⟨br, zr, true⟩, ⟨bo, r.map (fun p => u32 (squareS p)), true⟩])
      [(0, .pointer (some ⟨br, 0, none⟩)), (1, .pointer (some ⟨bo, 0, none⟩)), (10, .slice (some ⟨bl, off, none⟩) 8 cp), (11, i64 8), (12, i64 0)] [⟨br, zr, true⟩, ⟨bo, z, true⟩, ⟨bl, c, rw⟩] := by
  subst hz
  have := start_loop hg br bo bl off 8 cp zr c rw rfl r [] 0 rfl (by omega) hc hq
  rw [hn] at this
  exact this

def loop27 : Code := (Code.seq (Code.region 4 #[{ dst := (some 13), op := (Op.binOp BinOp.lss 3 (Operand.tmp 12) (Operand.tmp 11) 3), type := 0, pos := "sha256.go:90", after := #[], guard := none }] false) (Code.seq (Code.cond (Operand.tmp 13) Code.skip (Code.exit 0)) (Code.seq (Code.block 1 (Code.seq (Code.region 5 #[{ dst := (some 14), op := (Op.move (Operand.tmp 12)), type := 3, pos := "sha256.go:90", after := #[], guard := none }, { dst := (some 15), op := (Op.indexAddr 22 (Operand.tmp 10) (Operand.tmp 12)), type := 0, pos := "sha256.go:90", after := #[], guard := none }, { dst := (some 16), op := (Op.load 3 (Operand.tmp 15)), type := 3, pos := "sha256.go:90", after := #[{ on := 1, ground := Ground.data }], guard := none }, { dst := (some 4), op := (Op.assign (Operand.tmp 14)), type := 3, pos := "sha256.go:90", after := #[{ on := 0, ground := Ground.data }, { on := 0, ground := Ground.phase }, { on := 1, ground := Ground.phase }, { on := 2, ground := Ground.phase }], guard := none }, { dst := (some 5), op := (Op.assign (Operand.tmp 16)), type := 3, pos := "sha256.go:90", after := #[{ on := 2, ground := Ground.data }, { on := 3, ground := Ground.chain }, { on := 0, ground := Ground.phase }, { on := 1, ground := Ground.phase }, { on := 2, ground := Ground.phase }, { on := 3, ground := Ground.phase }], guard := none }] false) (Code.region 6 #[{ dst := (some 17), op := (Op.move (Operand.tmp 4)), type := 3, pos := "sha256.go:91", after := #[], guard := none }, { dst := (some 18), op := (Op.move (Operand.tmp 5)), type := 3, pos := "sha256.go:91", after := #[], guard := none }, { dst := (some 19), op := (Op.call { callee := (Callee.value (Operand.func 67)), args := #[(Operand.tmp 18)], argTypes := #[3] }), type := 29, pos := "sha256.go:91", after := #[{ on := 1, ground := Ground.data }], guard := none }, { dst := (some 20), op := (Op.indexAddr 32 (Operand.tmp 1) (Operand.tmp 17)), type := 0, pos := "sha256.go:91", after := #[{ on := 0, ground := Ground.data }, { on := 0, ground := Ground.phase }, { on := 1, ground := Ground.phase }, { on := 2, ground := Ground.phase }], guard := none }, { dst := none, op := (Op.store 29 (Operand.tmp 20) (Operand.tmp 19)), type := 0, pos := "sha256.go:91", after := #[{ on := 3, ground := Ground.data }, { on := 2, ground := Ground.data }, { on := 2, ground := Ground.chain }, { on := 0, ground := Ground.phase }, { on := 1, ground := Ground.phase }, { on := 2, ground := Ground.phase }], guard := none }] false))) (Code.region 7 #[{ dst := (some 21), op := (Op.binOp BinOp.add 3 (Operand.tmp 12) (Operand.const (Value.int IntKind.i64 1)) 3), type := 3, pos := "sha256.go:90", after := #[], guard := none }, { dst := (some 12), op := (Op.move (Operand.tmp 21)), type := 3, pos := "sha256.go:90", after := #[{ on := 0, ground := Ground.data }], guard := none }] false))))

theorem rounds_loop {g : Gh} (hg : g.n = 23) (br bo bl off n cp : Nat) (zr c : List Value) (rw : Bool) (hn : n = 64) : ∀ (r : List Int) (A : List Value) (k : Nat), A.length = k → k + r.length = n → At c (off + k) (r.map i64) → (∀ q, q ∈ r → 2 ≤ q ∧ q < 542) →
    WpL Try.prog g loop27 (fun e env mem => e = .exit 0 ∧ Wk g env mem [(0, .pointer (some ⟨br, 0, none⟩)), (1, .pointer (some ⟨bo, 0, none⟩))] [⟨br, zr, true⟩, ⟨bo, A ++ r.map (fun p => u32 (cubeS p)), true⟩])
      [(0, .pointer (some ⟨br, 0, none⟩)), (1, .pointer (some ⟨bo, 0, none⟩)), (10, .slice (some ⟨bl, off, none⟩) n cp), (11, i64 n), (12, i64 k)] [⟨br, zr, true⟩, ⟨bo, A ++ List.replicate r.length (.int .u32 0), true⟩, ⟨bl, c, rw⟩]
  | [], A, k, hA, hk, hc, hq => by
    obtain ⟨gn, w0, may⟩ := g
    obtain rfl : gn = 23 := hg
    simp only [List.length_nil] at hk
    refine WpL.step ?_
    refine Wp.seq ?_
    refine Wp.reg allGen ?_
    refine Tr.lss rfl rfl (by first | with_reducible assumption | exact decide_eq_true (by omega) | exact decide_eq_false (by omega) | exact beq_iff_eq.2 (by omega) | exact beq_eq_false_iff_ne.2 (by omega) | exact bne_iff_ne.2 (by omega) | rfl) rfl trivial rfl ?_
    refine Tr.nil ?_ (fun _ => rfl) (List.Perm.refl _)
    refine Wp.seq ?_
    refine Wp.condF rfl ?_
    refine Wp.exit ?_
    exact ⟨rfl, Wk.mk (by repeat (first | exact ESub.nil | refine ESub.cons rfl (by first | rfl | (simp; done) | (simp; omega)) ?_)) (by repeat (first | exact MSub.nil | refine MSub.cons (by first | exact .here | exact (.there .here) | exact (.there (.there .here)) | exact (.there (.there (.there .here))) | exact (.there (.there (.there (.there .here)))) | exact (.there (.there (.there (.there (.there .here))))) | exact (.there (.there (.there (.there (.there (.there .here)))))) | exact (.there (.there (.there (.there (.there (.there (.there .here))))))) | exact (.there (.there (.there (.there (.there (.there (.there (.there .here)))))))) | exact (.there (.there (.there (.there (.there (.there (.there (.there (.there .here)))))))))) (by first | rfl | (simp; done)) ?_))⟩
  | q :: r, A, k, hA, hk, hc, hq => by
    obtain ⟨gn, w0, may⟩ := g
    obtain rfl : gn = 23 := hg
    simp only [List.length_cons] at hk
    have hget : c[off + k]? = some (i64 q) := hc.head
    have hq0 := hq q (by simp)
    refine WpL.step ?_
    refine Wp.seq ?_
    refine Wp.reg allGen ?_
    refine Tr.lss rfl rfl (by first | with_reducible assumption | exact decide_eq_true (by omega) | exact decide_eq_false (by omega) | exact beq_iff_eq.2 (by omega) | exact beq_eq_false_iff_ne.2 (by omega) | exact bne_iff_ne.2 (by omega) | rfl) rfl trivial rfl ?_
    refine Tr.nil ?_ (fun _ => rfl) (List.Perm.refl _)
    refine Wp.seq ?_
    refine Wp.condT rfl ?_
    refine Wp.skip ?_
    refine Wp.seq ?_
    refine Wp.block ?_
    refine Wp.seq ?_
    refine Wp.reg allGen ?_
    refine Tr.move rfl rfl trivial rfl ?_
    first | refine Tr.indexAddrS01 tab rfl rfl rfl rfl rfl (by omega) (by omega) rfl trivial rfl ?_ | refine Tr.indexAddrS1 tab rfl rfl rfl rfl rfl (by omega) (by omega) rfl trivial rfl ?_
    refine Tr.loadS tab rfl rfl rfl (by first | exact (.head _) | exact (.tail _ (.head _)) | exact (.tail _ (.tail _ (.head _))) | exact (.tail _ (.tail _ (.tail _ (.head _)))) | exact (.tail _ (.tail _ (.tail _ (.tail _ (.head _))))) | exact (.tail _ (.tail _ (.tail _ (.tail _ (.tail _ (.head _)))))) | exact (.tail _ (.tail _ (.tail _ (.tail _ (.tail _ (.tail _ (.head _))))))) | exact (.tail _ (.tail _ (.tail _ (.tail _ (.tail _ (.tail _ (.tail _ (.head _)))))))) | exact (.tail _ (.tail _ (.tail _ (.tail _ (.tail _ (.tail _ (.tail _ (.tail _ (.head _))))))))) | exact (.tail _ (.tail _ (.tail _ (.tail _ (.tail _ (.tail _ (.tail _ (.tail _ (.tail _ (.head _))))))))))) (by first | rfl | with_reducible assumption | assumption | (simp; done)) rfl trivial rfl ?_
    refine Tr.assign rfl rfl trivial rfl ?_
    refine Tr.assign rfl rfl trivial rfl ?_
    refine Tr.nil ?_ (fun _ => rfl) (List.Perm.refl _)
    refine Wp.reg allGen ?_
    refine Tr.move rfl rfl trivial rfl ?_
    refine Tr.move rfl rfl trivial rfl ?_
    refine Tr.call rfl (f67_cube q (by omega) (by omega)) (by repeat (first | exact Has.nil | refine Has.cons (by first | exact (.head _) | exact (.tail _ (.head _)) | exact (.tail _ (.tail _ (.head _))) | exact (.tail _ (.tail _ (.tail _ (.head _)))) | exact (.tail _ (.tail _ (.tail _ (.tail _ (.head _))))) | exact (.tail _ (.tail _ (.tail _ (.tail _ (.tail _ (.head _)))))) | exact (.tail _ (.tail _ (.tail _ (.tail _ (.tail _ (.tail _ (.head _))))))) | exact (.tail _ (.tail _ (.tail _ (.tail _ (.tail _ (.tail _ (.tail _ (.head _)))))))) | exact (.tail _ (.tail _ (.tail _ (.tail _ (.tail _ (.tail _ (.tail _ (.tail _ (.head _))))))))) | exact (.tail _ (.tail _ (.tail _ (.tail _ (.tail _ (.tail _ (.tail _ (.tail _ (.tail _ (.head _))))))))))) ?_)) rfl trivial rfl ?_
    first | refine Tr.indexAddr01 tab rfl rfl rfl rfl rfl (by omega) (by omega) rfl trivial rfl ?_ | refine Tr.indexAddr1 tab rfl rfl rfl rfl rfl (by omega) (by omega) rfl trivial rfl ?_
    refine Tr.storeS tab rfl rfl rfl rfl (by first | exact .here | exact (.there .here) | exact (.there (.there .here)) | exact (.there (.there (.there .here))) | exact (.there (.there (.there (.there .here)))) | exact (.there (.there (.there (.there (.there .here))))) | exact (.there (.there (.there (.there (.there (.there .here)))))) | exact (.there (.there (.there (.there (.there (.there (.there .here))))))) | exact (.there (.there (.there (.there (.there (.there (.there (.there .here)))))))) | exact (.there (.there (.there (.there (.there (.there (.there (.there (.there .here)))))))))) (by first | decide | (simp; done) | (simp; omega) | exact Nat.le_of_ble_eq_true rfl) trivial rfl ?_
    refine Tr.nil ?_ (fun _ => rfl) (List.Perm.refl _)
    refine Wp.reg allGen ?_
    refine Tr.add rfl rfl (by first | exact wrap_i64 (by omega) (by omega) | rfl) rfl trivial rfl ?_
    refine Tr.move rfl rfl trivial rfl ?_
    refine Tr.nil ?_ (fun _ => rfl) (List.Perm.refl _)
    refine WpL.weak ((rounds_loop rfl br bo bl off n cp zr c rw hn r (A ++ [u32 (cubeS q)]) (k + 1) (by simp [hA]) (by omega) hc.tail (fun z hz => hq z (by simp [hz]))).mono ?_) (Wk.mk (by repeat (first | exact ESub.nil | refine ESub.cons rfl (by first | rfl | (simp; done) | (simp; omega)) ?_)) ?_)
    · intro e env mem h
      simpa using h
    · refine MSub.cons (by first | exact .here | exact (.there .here) | exact (.there (.there .here)) | exact (.there (.there (.there .here))) | exact (.there (.there (.there (.there .here)))) | exact (.there (.there (.there (.there (.there .here))))) | exact (.there (.there (.there (.there (.there (.there .here)))))) | exact (.there (.there (.there (.there (.there (.there (.there .here))))))) | exact (.there (.there (.there (.there (.there (.there (.there (.there .here)))))))) | exact (.there (.there (.there (.there (.there (.there (.there (.there (.there .here)))))))))) rfl (MSub.cons (by first | exact .here | exact (.there .here) | exact (.there (.there .here)) | exact (.there (.there (.there .here))) | exact (.there (.there (.there (.there .here)))) | exact (.there (.there (.there (.there (.there .here))))) | exact (.there (.there (.there (.there (.there (.there .here)))))) | exact (.there (.there (.there (.there (.there (.there (.there .here))))))) | exact (.there (.there (.there (.there (.there (.there (.there (.there .here)))))))) | exact (.there (.there (.there (.there (.there (.there (.there (.there (.there .here)))))))))) ?_ (MSub.cons (by first | exact .here | exact (.there .here) | exact (.there (.there .here)) | exact (.there (.there (.there .here))) | exact (.there (.there (.there (.there .here)))) | exact (.there (.there (.there (.there (.there .here))))) | exact (.there (.there (.there (.there (.there (.there .here)))))) | exact (.there (.there (.there (.there (.there (.there (.there .here))))))) | exact (.there (.there (.there (.there (.there (.there (.there (.there .here)))))))) | exact (.there (.there (.there (.there (.there (.there (.there (.there (.there .here)))))))))) rfl .nil))
      exact set_rep A _ _ k r.length hA

theorem rounds_loop' {g : Gh} (hg : g.n = 23) (br bo bl off cp : Nat) (zr c z : List Value) (rw : Bool) (r : List Int) (hn : r.length = 64) (hz : z = List.replicate 64 (.int .u32 0)) (hc : At c off (r.map i64)) (hq : ∀ q, q ∈ r → 2 ≤ q ∧ q < 542) :
    WpL Try.prog g loop27 (fun e env mem => e = .exit 0 ∧ Wk g env mem [(0, .pointer (some ⟨br, 0, none⟩)), (1, .pointer (some ⟨bo, 0, none⟩))] [⟨br, zr, true⟩, ⟨bo, r.map (fun p => u32 (cubeS p)), true⟩])
      [(0, .pointer (some ⟨br, 0, none⟩)), (1, .pointer (some ⟨bo, 0, none⟩)), (10, .slice (some ⟨bl, off, none⟩) 64 cp), (11, i64 64), (12, i64 0)] [⟨br, zr, true⟩, ⟨bo, z, true⟩, ⟨bl, c, rw⟩] := by
  subst hz
  have := rounds_loop hg br bo bl off 64 cp zr c rw rfl r [] 0 rfl (by omega) hc hq
  rw [hn] at this
  exact this

def startS : List UInt32 := (primesL 8).map squareS
def roundsS : List UInt32 := (primesL 64).map cubeS

theorem startS_len : startS.length = 8 := by simp [startS, primesL_len (n := 8) (by omega)]
theorem roundsS_len : roundsS.length = 64 := by simp [roundsS, primesL_len (n := 64) (by omega)]
theorem startS_map : (primesL 8).map (fun p => u32 (squareS p)) = u32s startS := by simp [startS, Function.comp_def]
theorem roundsS_map : (primesL 64).map (fun p => u32 (cubeS p)) = u32s roundsS := by simp [roundsS, Function.comp_def]
attribute [irreducible] startS roundsS

theorem f26_start : FnR Try.prog 26 [] [] (.agg (u32s startS).toArray) := by
  have hl := primesL_len (n := 8) (by omega)
  have hl2 := startS_len
  have hl3 : (u32s startS).length = 8 := by simp [hl2]
  have hone : (u32s startS).all Value.oneCell' = true := by simp [Value.oneCell']
  refine fnR_of 23 rfl Try.func26 rfl (by kernel_rfl) rfl (by simp) fun w => ?_
  refine Wp.seq ?_
  refine Wp.reg allGen ?_
  refine Tr.alloc tab rfl rfl trivial rfl (fun B0 _ => ?_)
  refine Tr.nil ?_ (fun _ => rfl) (List.Perm.refl _)
  refine Wp.seq ?_
  refine Wp.reg allGen ?_
  refine Tr.alloc tab rfl rfl trivial rfl (fun B1 _ => ?_)
  refine Tr.nil ?_ (fun _ => rfl) (List.Perm.refl _)
  refine Wp.seq ?_
  refine Wp.reg allGen ?_
  refine Tr.callG rfl (f22_primes 8 (by decide)) (by repeat (first | exact Has.nil | refine Has.cons (by first | exact (.head _) | exact (.tail _ (.head _)) | exact (.tail _ (.tail _ (.head _))) | exact (.tail _ (.tail _ (.tail _ (.head _)))) | exact (.tail _ (.tail _ (.tail _ (.tail _ (.head _))))) | exact (.tail _ (.tail _ (.tail _ (.tail _ (.tail _ (.head _)))))) | exact (.tail _ (.tail _ (.tail _ (.tail _ (.tail _ (.tail _ (.head _))))))) | exact (.tail _ (.tail _ (.tail _ (.tail _ (.tail _ (.tail _ (.tail _ (.head _)))))))) | exact (.tail _ (.tail _ (.tail _ (.tail _ (.tail _ (.tail _ (.tail _ (.tail _ (.head _))))))))) | exact (.tail _ (.tail _ (.tail _ (.tail _ (.tail _ (.tail _ (.tail _ (.tail _ (.tail _ (.head _))))))))))) ?_)) rfl trivial rfl ?_
  rintro _ es ⟨s, rfl, hfr⟩
  obtain ⟨b, pre, sp, rfl, rfl⟩ : ∃ (b : Nat) (pre sp : List Value), s = .slice (some ⟨b, pre.length, none⟩) 8 (8 + sp.length) ∧ es = [⟨b, pre ++ (primesL 8).map i64 ++ sp, true⟩] := hfr.row (by simp [hl]) (by decide)
  refine Tr.move rfl rfl trivial rfl ?_
  refine Tr.extract rfl rfl rfl trivial rfl ?_
  refine Tr.extract rfl rfl rfl trivial rfl ?_
  refine Tr.assign rfl rfl trivial rfl ?_
  refine Tr.assign rfl rfl trivial rfl ?_
  refine Tr.nil ?_ (fun _ => rfl) (List.Perm.refl _)
  refine Wp.seq ?_
  refine Wp.seq ?_
  refine Wp.reg allGen ?_
  refine Tr.move rfl rfl trivial rfl ?_
  refine Tr.lenS tab rfl rfl rfl rfl trivial rfl ?_
  refine Tr.move rfl rfl trivial rfl ?_
  refine Tr.nil ?_ (fun _ => rfl) (List.Perm.refl _)
  refine Wp.block ?_
  refine Wp.loopQ (start_loop' rfl _ _ b pre.length (8 + sp.length) _ (pre ++ (primesL 8).map i64 ++ sp) _ true (primesL 8) hl rfl ⟨pre, sp, rfl, rfl⟩ (fun q hq => primesL_bd hq)) (Wk.mk (by repeat (first | exact ESub.nil | refine ESub.cons rfl (by first | rfl | (simp; done) | (simp; omega)) ?_)) (by repeat (first | exact MSub.nil | refine MSub.cons (by first | exact .here | exact (.there .here) | exact (.there (.there .here)) | exact (.there (.there (.there .here))) | exact (.there (.there (.there (.there .here)))) | exact (.there (.there (.there (.there (.there .here))))) | exact (.there (.there (.there (.there (.there (.there .here)))))) | exact (.there (.there (.there (.there (.there (.there (.there .here))))))) | exact (.there (.there (.there (.there (.there (.there (.there (.there .here)))))))) | exact (.there (.there (.there (.there (.there (.there (.there (.there (.there .here)))))))))) (by first | rfl | (simp; done)) ?_))) ?_
  rintro _ env1 mem1 ⟨rfl, hk1⟩
  have hk2 : Wk _ env1 mem1 _ [_, ⟨_, u32s startS, true⟩] := (by rw [startS_map] at hk1; exact hk1)
  refine Wp.weak ?_ hk2
  refine Wp.seq ?_
  refine Wp.reg allGen ?_
  refine Tr.loadA tab rfl rfl rfl (by first | exact (.head _) | exact (.tail _ (.head _)) | exact (.tail _ (.tail _ (.head _))) | exact (.tail _ (.tail _ (.tail _ (.head _)))) | exact (.tail _ (.tail _ (.tail _ (.tail _ (.head _))))) | exact (.tail _ (.tail _ (.tail _ (.tail _ (.tail _ (.head _)))))) | exact (.tail _ (.tail _ (.tail _ (.tail _ (.tail _ (.tail _ (.head _))))))) | exact (.tail _ (.tail _ (.tail _ (.tail _ (.tail _ (.tail _ (.tail _ (.head _)))))))) | exact (.tail _ (.tail _ (.tail _ (.tail _ (.tail _ (.tail _ (.tail _ (.tail _ (.head _))))))))) | exact (.tail _ (.tail _ (.tail _ (.tail _ (.tail _ (.tail _ (.tail _ (.tail _ (.tail _ (.head _))))))))))) (by first | exact At.all _ | with_reducible assumption | assumption) (by first | with_reducible rfl | with_reducible assumption | (simp; done) | (simp; omega) | rfl) rfl trivial rfl ?_
  refine Tr.storeA tab rfl rfl rfl (by first | exact .here | exact (.there .here) | exact (.there (.there .here)) | exact (.there (.there (.there .here))) | exact (.there (.there (.there (.there .here)))) | exact (.there (.there (.there (.there (.there .here))))) | exact (.there (.there (.there (.there (.there (.there .here)))))) | exact (.there (.there (.there (.there (.there (.there (.there .here))))))) | exact (.there (.there (.there (.there (.there (.there (.there (.there .here)))))))) | exact (.there (.there (.there (.there (.there (.there (.there (.there (.there .here)))))))))) (by first | with_reducible rfl | with_reducible assumption | (simp; done) | (simp; omega) | rfl) (by first | with_reducible rfl | with_reducible assumption | (simp; done) | (simp; omega) | rfl) (by first | with_reducible assumption | rfl | (simp [Value.oneCell']; done)) trivial rfl ?_
  refine Tr.nil ?_ (fun _ => rfl) (List.Perm.refl _)
  refine Wp.ret ?_
  refine ⟨by first | exact .inl rfl | exact .inr rfl, ?_⟩
  exact .r1 rfl (RvIs.cellA tab rfl rfl rfl (by first | exact (.head _) | exact (.tail _ (.head _)) | exact (.tail _ (.tail _ (.head _))) | exact (.tail _ (.tail _ (.tail _ (.head _)))) | exact (.tail _ (.tail _ (.tail _ (.tail _ (.head _))))) | exact (.tail _ (.tail _ (.tail _ (.tail _ (.tail _ (.head _)))))) | exact (.tail _ (.tail _ (.tail _ (.tail _ (.tail _ (.tail _ (.head _))))))) | exact (.tail _ (.tail _ (.tail _ (.tail _ (.tail _ (.tail _ (.tail _ (.head _)))))))) | exact (.tail _ (.tail _ (.tail _ (.tail _ (.tail _ (.tail _ (.tail _ (.tail _ (.head _))))))))) | exact (.tail _ (.tail _ (.tail _ (.tail _ (.tail _ (.tail _ (.tail _ (.tail _ (.tail _ (.head _))))))))))) (At.all _) (by first | with_reducible rfl | with_reducible assumption | (simp; done) | (simp; omega) | rfl))
theorem f27_rounds : FnR Try.prog 27 [] [] (.agg (u32s roundsS).toArray) := by
  have hl := primesL_len (n := 64) (by omega)
  have hl2 := roundsS_len
  have hl3 : (u32s roundsS).length = 64 := by simp [hl2]
  have hone : (u32s roundsS).all Value.oneCell' = true := by simp [Value.oneCell']
  refine fnR_of 23 rfl Try.func27 rfl (by kernel_rfl) rfl (by simp) fun w => ?_
  refine Wp.seq ?_
  refine Wp.reg allGen ?_
  refine Tr.alloc tab rfl rfl trivial rfl (fun B0 _ => ?_)
  refine Tr.nil ?_ (fun _ => rfl) (List.Perm.refl _)
  refine Wp.seq ?_
  refine Wp.reg allGen ?_
  refine Tr.alloc tab rfl rfl trivial rfl (fun B1 _ => ?_)
  refine Tr.nil ?_ (fun _ => rfl) (List.Perm.refl _)
  refine Wp.seq ?_
  refine Wp.reg allGen ?_
  refine Tr.callG rfl (f22_primes 64 (by decide)) (by repeat (first | exact Has.nil | refine Has.cons (by first | exact (.head _) | exact (.tail _ (.head _)) | exact (.tail _ (.tail _ (.head _))) | exact (.tail _ (.tail _ (.tail _ (.head _)))) | exact (.tail _ (.tail _ (.tail _ (.tail _ (.head _))))) | exact (.tail _ (.tail _ (.tail _ (.tail _ (.tail _ (.head _)))))) | exact (.tail _ (.tail _ (.tail _ (.tail _ (.tail _ (.tail _ (.head _))))))) | exact (.tail _ (.tail _ (.tail _ (.tail _ (.tail _ (.tail _ (.tail _ (.head _)))))))) | exact (.tail _ (.tail _ (.tail _ (.tail _ (.tail _ (.tail _ (.tail _ (.tail _ (.head _))))))))) | exact (.tail _ (.tail _ (.tail _ (.tail _ (.tail _ (.tail _ (.tail _ (.tail _ (.tail _ (.head _))))))))))) ?_)) rfl trivial rfl ?_
  rintro _ es ⟨s, rfl, hfr⟩
  obtain ⟨b, pre, sp, rfl, rfl⟩ : ∃ (b : Nat) (pre sp : List Value), s = .slice (some ⟨b, pre.length, none⟩) 64 (64 + sp.length) ∧ es = [⟨b, pre ++ (primesL 64).map i64 ++ sp, true⟩] := hfr.row (by simp [hl]) (by decide)
  refine Tr.move rfl rfl trivial rfl ?_
  refine Tr.extract rfl rfl rfl trivial rfl ?_
  refine Tr.extract rfl rfl rfl trivial rfl ?_
  refine Tr.assign rfl rfl trivial rfl ?_
  refine Tr.assign rfl rfl trivial rfl ?_
  refine Tr.nil ?_ (fun _ => rfl) (List.Perm.refl _)
  refine Wp.seq ?_
  refine Wp.seq ?_
  refine Wp.reg allGen ?_
  refine Tr.move rfl rfl trivial rfl ?_
  refine Tr.lenS tab rfl rfl rfl rfl trivial rfl ?_
  refine Tr.move rfl rfl trivial rfl ?_
  refine Tr.nil ?_ (fun _ => rfl) (List.Perm.refl _)
  refine Wp.block ?_
  refine Wp.loopQ (rounds_loop' rfl _ _ b pre.length (64 + sp.length) _ (pre ++ (primesL 64).map i64 ++ sp) _ true (primesL 64) hl rfl ⟨pre, sp, rfl, rfl⟩ (fun q hq => primesL_bd hq)) (Wk.mk (by repeat (first | exact ESub.nil | refine ESub.cons rfl (by first | rfl | (simp; done) | (simp; omega)) ?_)) (by repeat (first | exact MSub.nil | refine MSub.cons (by first | exact .here | exact (.there .here) | exact (.there (.there .here)) | exact (.there (.there (.there .here))) | exact (.there (.there (.there (.there .here)))) | exact (.there (.there (.there (.there (.there .here))))) | exact (.there (.there (.there (.there (.there (.there .here)))))) | exact (.there (.there (.there (.there (.there (.there (.there .here))))))) | exact (.there (.there (.there (.there (.there (.there (.there (.there .here)))))))) | exact (.there (.there (.there (.there (.there (.there (.there (.there (.there .here)))))))))) (by first | rfl | (simp; done)) ?_))) ?_
  rintro _ env1 mem1 ⟨rfl, hk1⟩
  have hk2 : Wk _ env1 mem1 _ [_, ⟨_, u32s roundsS, true⟩] := (by rw [roundsS_map] at hk1; exact hk1)
  refine Wp.weak ?_ hk2
  refine Wp.seq ?_
  refine Wp.reg allGen ?_
  refine Tr.loadA tab rfl rfl rfl (by first | exact (.head _) | exact (.tail _ (.head _)) | exact (.tail _ (.tail _ (.head _))) | exact (.tail _ (.tail _ (.tail _ (.head _)))) | exact (.tail _ (.tail _ (.tail _ (.tail _ (.head _))))) | exact (.tail _ (.tail _ (.tail _ (.tail _ (.tail _ (.head _)))))) | exact (.tail _ (.tail _ (.tail _ (.tail _ (.tail _ (.tail _ (.head _))))))) | exact (.tail _ (.tail _ (.tail _ (.tail _ (.tail _ (.tail _ (.tail _ (.head _)))))))) | exact (.tail _ (.tail _ (.tail _ (.tail _ (.tail _ (.tail _ (.tail _ (.tail _ (.head _))))))))) | exact (.tail _ (.tail _ (.tail _ (.tail _ (.tail _ (.tail _ (.tail _ (.tail _ (.tail _ (.head _))))))))))) (by first | exact At.all _ | with_reducible assumption | assumption) (by first | with_reducible rfl | with_reducible assumption | (simp; done) | (simp; omega) | rfl) rfl trivial rfl ?_
  refine Tr.storeA tab rfl rfl rfl (by first | exact .here | exact (.there .here) | exact (.there (.there .here)) | exact (.there (.there (.there .here))) | exact (.there (.there (.there (.there .here)))) | exact (.there (.there (.there (.there (.there .here))))) | exact (.there (.there (.there (.there (.there (.there .here)))))) | exact (.there (.there (.there (.there (.there (.there (.there .here))))))) | exact (.there (.there (.there (.there (.there (.there (.there (.there .here)))))))) | exact (.there (.there (.there (.there (.there (.there (.there (.there (.there .here)))))))))) (by first | with_reducible rfl | with_reducible assumption | (simp; done) | (simp; omega) | rfl) (by first | with_reducible rfl | with_reducible assumption | (simp; done) | (simp; omega) | rfl) (by first | with_reducible assumption | rfl | (simp [Value.oneCell']; done)) trivial rfl ?_
  refine Tr.nil ?_ (fun _ => rfl) (List.Perm.refl _)
  refine Wp.ret ?_
  refine ⟨by first | exact .inl rfl | exact .inr rfl, ?_⟩
  exact .r1 rfl (RvIs.cellA tab rfl rfl rfl (by first | exact (.head _) | exact (.tail _ (.head _)) | exact (.tail _ (.tail _ (.head _))) | exact (.tail _ (.tail _ (.tail _ (.head _)))) | exact (.tail _ (.tail _ (.tail _ (.tail _ (.head _))))) | exact (.tail _ (.tail _ (.tail _ (.tail _ (.tail _ (.head _)))))) | exact (.tail _ (.tail _ (.tail _ (.tail _ (.tail _ (.tail _ (.head _))))))) | exact (.tail _ (.tail _ (.tail _ (.tail _ (.tail _ (.tail _ (.tail _ (.head _)))))))) | exact (.tail _ (.tail _ (.tail _ (.tail _ (.tail _ (.tail _ (.tail _ (.tail _ (.head _))))))))) | exact (.tail _ (.tail _ (.tail _ (.tail _ (.tail _ (.tail _ (.tail _ (.tail _ (.tail _ (.head _))))))))))) (At.all _) (by first | with_reducible rfl | with_reducible assumption | (simp; done) | (simp; omega) | rfl))

end Go.Proofs.Ytffghaeaohabhaa.AW
