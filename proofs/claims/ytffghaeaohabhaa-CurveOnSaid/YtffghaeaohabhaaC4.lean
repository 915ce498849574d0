import Derived.Test.YtffghaeaohabhaaC3
namespace Go.Proofs.Ytffghaeaohabhaa.AW
open Go NT
set_option maxRecDepth 100000

/-! ### Scale -/
theorem n8_bit : ∀ (l : List UInt8) (i : Nat), i < 8 * l.length → n8 l / 2 ^ i % 2 = (l.getD (i / 8) 0).toNat / 2 ^ (i % 8) % 2
  | [], i, h => by simp at h
  | x :: r, i, h => by
    have hx := x.toNat_lt
    by_cases h8 : i < 8
    · rw [Nat.div_eq_of_lt h8, Nat.mod_eq_of_lt h8]
      simp only [n8, List.getD_cons_zero]
      match i, h8 with
      | 0, _ => omega
      | 1, _ => omega
      | 2, _ => omega
      | 3, _ => omega
      | 4, _ => omega
      | 5, _ => omega
      | 6, _ => omega
      | 7, _ => omega
      | n + 8, h => omega
    · have ih := n8_bit r (i - 8) (by simp only [List.length_cons] at h; omega)
      have e1 : i / 8 = (i - 8) / 8 + 1 := by omega
      have e2 : i % 8 = (i - 8) % 8 := by omega
      rw [e1, e2, List.getD_cons_succ, ← ih]
      have e3 : n8 (x :: r) / 2 ^ i = n8 r / 2 ^ (i - 8) := by
        rw [show i = 8 + (i - 8) by omega, Nat.pow_add, ← Nat.div_div_eq_div_mul]
        have : n8 (x :: r) / 2 ^ 8 = n8 r := by simp only [n8]; omega
        rw [this, show 8 + (i - 8) - 8 = i - 8 by omega]
      rw [e3]

theorem byte_bit (x : UInt8) (k : Nat) (hk : k < 8) : (((x >>> UInt8.ofNat k) &&& 1).toNat : Int) = ((x.toNat / 2 ^ k % 2 : Nat) : Int) := by
  congr 1
  rw [UInt8.toNat_and, UInt8.toNat_shiftRight]
  have e1 : (UInt8.ofNat k).toNat % 8 = k := by rw [UInt8.toNat_ofNat_of_lt' (by show k < 256; omega)]; omega
  have e3 : (1 : UInt8).toNat = 2 ^ 1 - 1 := rfl
  rw [e1, e3, Nat.and_two_pow_sub_one_eq_mod, Nat.shiftRight_eq_div_pow]

def loop42 : Code := (Code.seq (Code.seq (Code.region 7 #[{ dst := (some 30), op := (Op.move (Operand.tmp 10)), type := 3, pos := "curve.go:108", after := #[], guard := none }, { dst := (some 31), op := (Op.binOp BinOp.geq 3 (Operand.tmp 30) (Operand.const (Value.int IntKind.i64 0)) 3), type := 4, pos := "curve.go:108", after := #[{ on := 0, ground := Ground.data }], guard := none }] false) (Code.cond (Operand.tmp 31) Code.skip (Code.exit 0))) (Code.seq (Code.block 1 (Code.seq (Code.region 9 #[{ dst := (some 34), op := (Op.load 113 (Operand.tmp 8)), type := 113, pos := "curve.go:109", after := #[], guard := none }, { dst := (some 35), op := (Op.makeFunc (Fn.func 86) #[(Operand.tmp 34)] #[]), type := 115, pos := "curve.go:109", after := #[{ on := 0, ground := Ground.data }], guard := none }, { dst := (some 11), op := (Op.assign (Operand.tmp 35)), type := 115, pos := "curve.go:109", after := #[{ on := 1, ground := Ground.data }, { on := 0, ground := Ground.phase }, { on := 1, ground := Ground.phase }], guard := none }] false) (Code.seq (Code.region 10 #[{ dst := (some 36), op := (Op.move (Operand.tmp 11)), type := 115, pos := "curve.go:110", after := #[], guard := none }, { dst := (some 37), op := (Op.load 113 (Operand.tmp 8)), type := 113, pos := "curve.go:110", after := #[], guard := none }, { dst := (some 38), op := (Op.load 37 (Operand.tmp 7)), type := 37, pos := "curve.go:110", after := #[], guard := none }, { dst := (some 39), op := (Op.call { callee := (Callee.value (Operand.tmp 36)), args := #[(Operand.tmp 37), (Operand.tmp 38)], argTypes := #[113, 37] }), type := 113, pos := "curve.go:110", after := #[{ on := 0, ground := Ground.data }, { on := 1, ground := Ground.data }, { on := 2, ground := Ground.data }], guard := none }, { dst := none, op := (Op.store 113 (Operand.tmp 8) (Operand.tmp 39)), type := 0, pos := "curve.go:110", after := #[{ on := 3, ground := Ground.data }, { on := 3, ground := Ground.chain }, { on := 0, ground := Ground.phase }, { on := 1, ground := Ground.phase }, { on := 2, ground := Ground.phase }, { on := 3, ground := Ground.phase }], guard := none }] false) (Code.seq (Code.region 11 #[{ dst := (some 40), op := (Op.move (Operand.tmp 0)), type := 36, pos := "curve.go:111", after := #[], guard := none }, { dst := (some 41), op := (Op.move (Operand.tmp 10)), type := 3, pos := "curve.go:111", after := #[], guard := none }, { dst := (some 42), op := (Op.binOp BinOp.quo 3 (Operand.tmp 41) (Operand.const (Value.int IntKind.i64 8)) 3), type := 3, pos := "curve.go:111", after := #[{ on := 1, ground := Ground.data }], guard := none }, { dst := (some 43), op := (Op.indexAddr 36 (Operand.tmp 40) (Operand.tmp 42)), type := 0, pos := "curve.go:111", after := #[{ on := 0, ground := Ground.data }, { on := 2, ground := Ground.data }], guard := none }, { dst := (some 44), op := (Op.load 5 (Operand.tmp 43)), type := 5, pos := "curve.go:111", after := #[{ on := 3, ground := Ground.data }], guard := none }, { dst := (some 45), op := (Op.move (Operand.tmp 10)), type := 3, pos := "curve.go:111", after := #[], guard := none }, { dst := (some 46), op := (Op.binOp BinOp.rem 3 (Operand.tmp 45) (Operand.const (Value.int IntKind.i64 8)) 3), type := 3, pos := "curve.go:111", after := #[{ on := 5, ground := Ground.data }], guard := none }, { dst := (some 47), op := (Op.binOp BinOp.shr 5 (Operand.tmp 44) (Operand.tmp 46) 3), type := 5, pos := "curve.go:111", after := #[{ on := 4, ground := Ground.data }, { on := 6, ground := Ground.data }], guard := none }, { dst := (some 48), op := (Op.binOp BinOp.and 5 (Operand.tmp 47) (Operand.const (Value.int IntKind.u8 1)) 5), type := 5, pos := "curve.go:111", after := #[{ on := 7, ground := Ground.data }], guard := none }, { dst := (some 49), op := (Op.binOp BinOp.eql 5 (Operand.tmp 48) (Operand.const (Value.int IntKind.u8 1)) 5), type := 4, pos := "curve.go:111", after := #[{ on := 8, ground := Ground.data }], guard := none }] false) (Code.cond (Operand.tmp 49) (Code.region 12 #[{ dst := (some 50), op := (Op.load 113 (Operand.tmp 8)), type := 113, pos := "curve.go:112", after := #[], guard := none }, { dst := (some 51), op := (Op.load 113 (Operand.tmp 9)), type := 113, pos := "curve.go:112", after := #[], guard := none }, { dst := (some 52), op := (Op.load 37 (Operand.tmp 7)), type := 37, pos := "curve.go:112", after := #[], guard := none }, { dst := (some 53), op := (Op.call { callee := (Callee.value (Operand.func 86)), args := #[(Operand.tmp 50), (Operand.tmp 51), (Operand.tmp 52)], argTypes := #[113, 113, 37] }), type := 113, pos := "curve.go:112", after := #[{ on := 0, ground := Ground.data }, { on := 1, ground := Ground.data }, { on := 2, ground := Ground.data }], guard := none }, { dst := none, op := (Op.store 113 (Operand.tmp 8) (Operand.tmp 53)), type := 0, pos := "curve.go:112", after := #[{ on := 3, ground := Ground.data }, { on := 3, ground := Ground.chain }, { on := 0, ground := Ground.phase }, { on := 1, ground := Ground.phase }, { on := 2, ground := Ground.phase }, { on := 3, ground := Ground.phase }], guard := none }] false) Code.skip))))) (Code.region 8 #[{ dst := (some 32), op := (Op.move (Operand.tmp 10)), type := 3, pos := "curve.go:108", after := #[], guard := none }, { dst := (some 33), op := (Op.binOp BinOp.sub 3 (Operand.tmp 32) (Operand.const (Value.int IntKind.i64 1)) 3), type := 3, pos := "curve.go:108", after := #[{ on := 0, ground := Ground.data }], guard := none }, { dst := (some 10), op := (Op.assign (Operand.tmp 33)), type := 3, pos := "curve.go:108", after := #[{ on := 1, ground := Ground.data }, { on := 0, ground := Ground.phase }, { on := 1, ground := Ground.phase }], guard := none }] false)))

theorem scale_loop {g : Gh} (hg : g.n = 56) (p : Pt) (hp : p.on) (dd : List UInt8) (hd : dd.length ≤ 1000000) (bd od cp : Nat) (cd : List Value) (hcd : At cd od (u8s dd)) (R : List Ent) (hR : (⟨bd, cd, false⟩ : Ent) ∈ R) (b4 b7 b8 b9 : Nat) (z4 : List Value) :
    ∀ (r : Nat) (out : Pl), r ≤ 8 * dd.length → out.rep (nsm (n8 dd / 2 ^ r) p) →
    WpL Try.prog g loop42 (fun e env mem => e = .exit 0 ∧ ∃ out : Pl, out.rep (nsm (n8 dd) p) ∧ Wk g env mem [(4, .pointer (some ⟨b4, 0, none⟩)), (8, .pointer (some ⟨b8, 0, none⟩))] [⟨b8, lc out, true⟩, ⟨b4, z4, true⟩])
      [(0, .slice (some ⟨bd, od, none⟩) dd.length cp), (4, .pointer (some ⟨b4, 0, none⟩)), (7, .pointer (some ⟨b7, 0, none⟩)), (8, .pointer (some ⟨b8, 0, none⟩)), (9, .pointer (some ⟨b9, 0, none⟩)), (10, i64 ((r : Int) - 1))]
      (⟨b8, lc out, true⟩ :: ⟨b4, z4, true⟩ :: ⟨b7, u8s (bF (dC + dC)), true⟩ :: ⟨b9, lc (Pl.of p), true⟩ :: R) := by
  obtain ⟨gn, w0, may⟩ := g
  obtain rfl : gn = 56 := hg
  intro r
  induction r with
  | zero =>
    intro out _ hrep
    rw [Nat.pow_zero, Nat.div_one] at hrep
    refine WpL.step ?_
    refine Wp.seq ?_
    refine Wp.seq ?_
    refine Wp.reg allGen ?_
    refine Tr.move rfl rfl trivial rfl ?_
    refine Tr.geq rfl rfl (by first | with_reducible assumption | exact decide_eq_true (by omega) | exact decide_eq_false (by omega) | exact beq_iff_eq.2 (by omega) | exact beq_eq_false_iff_ne.2 (by omega) | exact bne_iff_ne.2 (by omega) | rfl) rfl trivial rfl ?_
    refine Tr.nil ?_ (fun _ => rfl) (List.Perm.refl _)
    refine Wp.condF rfl ?_
    refine Wp.exit ?_
    exact ⟨rfl, out, hrep, Wk.mk (by repeat (first | exact ESub.nil | refine ESub.cons rfl (by first | rfl | (simp; done) | (simp; omega)) ?_)) (MSub.cons .here rfl (MSub.cons .here rfl .nil))⟩
  | succ r ih =>
    intro out hr hrep
    have e1 : ((r + 1 : Nat) : Int) - 1 = (r : Int) := by omega
    rw [e1]
    have hN : n8 dd / 2 ^ (r + 1) = n8 dd / 2 ^ r / 2 := by rw [Nat.pow_succ, Nat.div_div_eq_div_mul]
    rw [hN] at hrep
    have hon := on_nsm hp (n8 dd / 2 ^ r / 2)
    have hdbl := rep_plus hrep hrep hon hon
    rw [← nsm_add hp] at hdbl
    have hbit := n8_bit dd r (by omega)
    have gd := at_get u8 hcd 0 (j := r / 8) (by omega) (k := ((r / 8 : Nat) : Int)) rfl
    have hq : IntKind.i64.wrap ((r : Int).tdiv 8) = ((r / 8 : Nat) : Int) := by
      rw [Int.tdiv_eq_ediv_of_nonneg (by omega)]; exact (wrap_i64 (by omega) (by omega)).trans (by omega)
    have hrm : (r : Int).tmod 8 = ((r % 8 : Nat) : Int) := by rw [Int.tmod_eq_emod_of_nonneg (by omega)]; omega
    have hbb := byte_bit (dd.getD (r / 8) 0) (r % 8) (by omega)
    rw [← hbit] at hbb
    generalize dd.getD (r / 8) 0 = x at *
    have hsh : shrv .u8 (x.toNat : Int) ((r % 8 : Nat) : Int) = ((x >>> UInt8.ofNat (r % 8)).toNat : Int) := u8_shr _ _ (by omega)
    generalize x >>> UInt8.ofNat (r % 8) = s at *
    have h86 := f86_plus out out (dC + dC)
    generalize hD : out.plus out (dC + dC) = D at *
    have hlt : n8 dd / 2 ^ r % 2 < 2 := Nat.mod_lt _ (by decide)
    have hdm := Nat.div_add_mod (n8 dd / 2 ^ r) 2
    by_cases h1 : n8 dd / 2 ^ r % 2 = 1
    · have hadd := rep_plus hdbl (rep_of p) (on_nsm hp _) hp
      have hsum : (nsm (n8 dd / 2 ^ r / 2 + n8 dd / 2 ^ r / 2) p).add p = nsm (n8 dd / 2 ^ r) p := by
        rw [show n8 dd / 2 ^ r = (n8 dd / 2 ^ r / 2 + n8 dd / 2 ^ r / 2) + 1 by omega]
        rw [show ((n8 dd / 2 ^ r / 2 + n8 dd / 2 ^ r / 2) + 1) / 2 = n8 dd / 2 ^ r / 2 by omega]
        rfl
      rw [hsum] at hadd
      have h86b := f86_plus D (Pl.of p) (dC + dC)
      have hih := ih _ (by omega) hadd
      generalize D.plus (Pl.of p) (dC + dC) = E at *
      generalize Pl.of p = lp at *
      generalize dC + dC = tw at *
      rw [h1] at hbb
      refine WpL.step ?_
      refine Wp.seq ?_
      refine Wp.seq ?_
      refine Wp.reg allGen ?_
      refine Tr.move rfl rfl trivial rfl ?_
      refine Tr.geq rfl rfl (by first | with_reducible assumption | exact decide_eq_true (by omega) | exact decide_eq_false (by omega) | exact beq_iff_eq.2 (by omega) | exact beq_eq_false_iff_ne.2 (by omega) | exact bne_iff_ne.2 (by omega) | rfl) rfl trivial rfl ?_
      refine Tr.nil ?_ (fun _ => rfl) (List.Perm.refl _)
      refine Wp.condT rfl ?_
      refine Wp.skip ?_
      refine Wp.seq ?_
      refine Wp.block ?_
      refine Wp.seq ?_
      refine Wp.reg allGen ?_
      refine Tr.loadA tab rfl rfl rfl (by repeat (first | exact .head _ | refine .tail _ ?_ | refine List.mem_append_right _ ?_)) (At.all _) (lc_len out) rfl trivial rfl ?_
      refine Tr.makeFuncF rfl rfl trivial rfl ?_
      refine Tr.assign rfl rfl trivial rfl ?_
      refine Tr.nil ?_ (fun _ => rfl) (List.Perm.refl _)
      refine Wp.seq ?_
      refine Wp.reg allGen ?_
      refine Tr.move rfl rfl trivial rfl ?_
      refine Tr.loadA tab rfl rfl rfl (by repeat (first | exact .head _ | refine .tail _ ?_ | refine List.mem_append_right _ ?_)) (At.all _) (lc_len out) rfl trivial rfl ?_
      refine Tr.loadA tab rfl rfl rfl (by repeat (first | exact .head _ | refine .tail _ ?_ | refine List.mem_append_right _ ?_)) (At.all _) (bu_len tw) rfl trivial rfl ?_
      refine Tr.callV (fst := [lv out]) (cap := []) rfl rfl h86 rfl trivial rfl ?_
      refine Tr.storeA tab rfl rfl rfl (by repeat (first | exact .here | apply MU.there | apply MU.app)) (by exact lc_len D) (by rw [lc_len, lc_len]) (lc_one D) trivial rfl ?_
      refine Tr.nil ?_ (fun _ => rfl) (List.Perm.refl _)
      refine Wp.seq ?_
      refine Wp.reg allGen ?_
      refine Tr.move rfl rfl trivial rfl ?_
      refine Tr.move rfl rfl trivial rfl ?_
      refine Tr.quo rfl rfl (by omega) hq rfl trivial rfl ?_
      first | refine Tr.indexAddrS01 tab rfl rfl rfl rfl rfl (by omega) (by omega) rfl trivial rfl ?_ | refine Tr.indexAddrS1 tab rfl rfl rfl rfl rfl (by omega) (by omega) rfl trivial rfl ?_
      refine Tr.loadS tab rfl rfl rfl (by repeat (first | exact hR | refine .tail _ ?_)) gd rfl trivial rfl ?_
      refine Tr.move rfl rfl trivial rfl ?_
      refine Tr.rem rfl rfl (by omega) hrm rfl trivial rfl ?_
      refine Tr.shr rfl rfl (by omega) hsh rfl trivial rfl ?_
      refine Tr.band (b := ((1 : UInt8).toNat : Int)) rfl rfl (u8_and s 1) rfl trivial rfl ?_
      refine Tr.eql (r := true) rfl rfl (by rw [hbb]; rfl) rfl trivial rfl ?_
      refine Tr.nil ?_ (fun _ => rfl) (List.Perm.refl _)
      refine Wp.condT rfl ?_
      refine Wp.reg allGen ?_
      refine Tr.loadA tab rfl rfl rfl (by repeat (first | exact .head _ | refine .tail _ ?_ | refine List.mem_append_right _ ?_)) (At.all _) (lc_len D) rfl trivial rfl ?_
      refine Tr.loadA tab rfl rfl rfl (by repeat (first | exact .head _ | refine .tail _ ?_ | refine List.mem_append_right _ ?_)) (At.all _) (lc_len lp) rfl trivial rfl ?_
      refine Tr.loadA tab rfl rfl rfl (by repeat (first | exact .head _ | refine .tail _ ?_ | refine List.mem_append_right _ ?_)) (At.all _) (bu_len tw) rfl trivial rfl ?_
      refine Tr.call rfl h86b Has.nil rfl trivial rfl ?_
      refine Tr.storeA tab rfl rfl rfl (by repeat (first | exact .here | apply MU.there | apply MU.app)) (by exact lc_len E) (by rw [lc_len, lc_len]) (lc_one E) trivial rfl ?_
      refine Tr.nil ?_ (fun _ => rfl) (List.Perm.refl _)
      refine Wp.reg allGen ?_
      refine Tr.move rfl rfl trivial rfl ?_
      refine Tr.sub rfl rfl (by first | exact wrap_i64 (by omega) (by omega) | rfl) rfl trivial rfl ?_
      refine Tr.assign rfl rfl trivial rfl ?_
      refine Tr.nil ?_ (fun _ => rfl) (List.Perm.refl _)
      exact WpL.weak hih ⟨fun a ha => EH.sub (ESub.sub (by repeat (first | exact ESub.nil | refine ESub.cons rfl (by first | rfl | (simp; done) | (simp; omega)) ?_))) a ha, fun w hw => hw⟩
    · have h0 : n8 dd / 2 ^ r % 2 = 0 := by omega
      rw [show n8 dd / 2 ^ r / 2 + n8 dd / 2 ^ r / 2 = n8 dd / 2 ^ r by omega] at hdbl
      have hih := ih _ (by omega) hdbl
      generalize Pl.of p = lp at *
      generalize dC + dC = tw at *
      rw [h0] at hbb
      refine WpL.step ?_
      refine Wp.seq ?_
      refine Wp.seq ?_
      refine Wp.reg allGen ?_
      refine Tr.move rfl rfl trivial rfl ?_
      refine Tr.geq rfl rfl (by first | with_reducible assumption | exact decide_eq_true (by omega) | exact decide_eq_false (by omega) | exact beq_iff_eq.2 (by omega) | exact beq_eq_false_iff_ne.2 (by omega) | exact bne_iff_ne.2 (by omega) | rfl) rfl trivial rfl ?_
      refine Tr.nil ?_ (fun _ => rfl) (List.Perm.refl _)
      refine Wp.condT rfl ?_
      refine Wp.skip ?_
      refine Wp.seq ?_
      refine Wp.block ?_
      refine Wp.seq ?_
      refine Wp.reg allGen ?_
      refine Tr.loadA tab rfl rfl rfl (by repeat (first | exact .head _ | refine .tail _ ?_ | refine List.mem_append_right _ ?_)) (At.all _) (lc_len out) rfl trivial rfl ?_
      refine Tr.makeFuncF rfl rfl trivial rfl ?_
      refine Tr.assign rfl rfl trivial rfl ?_
      refine Tr.nil ?_ (fun _ => rfl) (List.Perm.refl _)
      refine Wp.seq ?_
      refine Wp.reg allGen ?_
      refine Tr.move rfl rfl trivial rfl ?_
      refine Tr.loadA tab rfl rfl rfl (by repeat (first | exact .head _ | refine .tail _ ?_ | refine List.mem_append_right _ ?_)) (At.all _) (lc_len out) rfl trivial rfl ?_
      refine Tr.loadA tab rfl rfl rfl (by repeat (first | exact .head _ | refine .tail _ ?_ | refine List.mem_append_right _ ?_)) (At.all _) (bu_len tw) rfl trivial rfl ?_
      refine Tr.callV (fst := [lv out]) (cap := []) rfl rfl h86 rfl trivial rfl ?_
      refine Tr.storeA tab rfl rfl rfl (by repeat (first | exact .here | apply MU.there | apply MU.app)) (by exact lc_len D) (by rw [lc_len, lc_len]) (lc_one D) trivial rfl ?_
      refine Tr.nil ?_ (fun _ => rfl) (List.Perm.refl _)
      refine Wp.seq ?_
      refine Wp.reg allGen ?_
      refine Tr.move rfl rfl trivial rfl ?_
      refine Tr.move rfl rfl trivial rfl ?_
      refine Tr.quo rfl rfl (by omega) hq rfl trivial rfl ?_
      first | refine Tr.indexAddrS01 tab rfl rfl rfl rfl rfl (by omega) (by omega) rfl trivial rfl ?_ | refine Tr.indexAddrS1 tab rfl rfl rfl rfl rfl (by omega) (by omega) rfl trivial rfl ?_
      refine Tr.loadS tab rfl rfl rfl (by repeat (first | exact hR | refine .tail _ ?_)) gd rfl trivial rfl ?_
      refine Tr.move rfl rfl trivial rfl ?_
      refine Tr.rem rfl rfl (by omega) hrm rfl trivial rfl ?_
      refine Tr.shr rfl rfl (by omega) hsh rfl trivial rfl ?_
      refine Tr.band (b := ((1 : UInt8).toNat : Int)) rfl rfl (u8_and s 1) rfl trivial rfl ?_
      refine Tr.eql (r := false) rfl rfl (by rw [hbb]; rfl) rfl trivial rfl ?_
      refine Tr.nil ?_ (fun _ => rfl) (List.Perm.refl _)
      refine Wp.condF rfl ?_
      refine Wp.skip ?_
      refine Wp.reg allGen ?_
      refine Tr.move rfl rfl trivial rfl ?_
      refine Tr.sub rfl rfl (by first | exact wrap_i64 (by omega) (by omega) | rfl) rfl trivial rfl ?_
      refine Tr.assign rfl rfl trivial rfl ?_
      refine Tr.nil ?_ (fun _ => rfl) (List.Perm.refl _)
      exact WpL.weak hih ⟨fun a ha => EH.sub (ESub.sub (by repeat (first | exact ESub.nil | refine ESub.cons rfl (by first | rfl | (simp; done) | (simp; omega)) ?_))) a ha, fun w hw => hw⟩
end Go.Proofs.Ytffghaeaohabhaa.AW
