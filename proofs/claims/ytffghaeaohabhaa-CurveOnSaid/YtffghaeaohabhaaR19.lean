import Derived.Test.YtffghaeaohabhaaR18
namespace Go.Proofs.Ytffghaeaohabhaa.AW
open Go NT
set_option maxRecDepth 100000

theorem bytes_step {O : List UInt8} {f : Nat → Nat} {i : Nat} (hl : O.length = 2 * i) (h : n8 O = valW i f) (hf : f i < 65536) : n8 (O ++ [UInt8.ofNat (f i % 256), UInt8.ofNat (f i / 256)]) = valW (i + 1) f := by
  rw [n8_app, hl, ← pow_two, h, valW]
  simp only [n8, ofNat_val]
  rw [Nat.mul_comm (65536 ^ i)]
  congr 2
  omega

theorem bytes_loop {g : Gh} (hg : g.n = 114) (f : Nat → Nat) (hf : ∀ j, j < 16 → f j < 65536) (b4 b10 : Nat) (z4 : List Value) : ∀ (r i : Nat) (O : List UInt8) (v : Value) (es : List Ent), i + r = 16 → O.length = 2 * i → n8 O = valW i f → Fresh (u8s O) v es →
    WpL Try.prog g loop81f (fun e env mem => e = .exit 10 ∧ ∃ O v es, O.length = 32 ∧ n8 O = valW 16 f ∧ Fresh (u8s O) v es ∧ Wk g env mem [(4, pt b4), (14, v)] (es ++ [⟨b4, z4, true⟩]))
      [(4, pt b4), (10, pt b10), (14, v), (15, i64 i)] (es ++ [⟨b10, fA 17 f, true⟩, ⟨b4, z4, true⟩]) := by
  obtain ⟨gn, w0, may⟩ := g
  obtain rfl : gn = 114 := hg
  intro r
  induction r with
  | zero =>
    intro i O v es hi hO hv hfr
    obtain rfl : i = 16 := by omega
    refine WpL.step ?_
    refine Wp.seq ?_
    refine Wp.seq ?_
    refine Wp.reg allGen ?_
    refine Tr.move rfl rfl trivial rfl ?_
    refine Tr.lss rfl rfl (by first | with_reducible assumption | exact decide_eq_true (by omega) | exact decide_eq_false (by omega) | exact beq_iff_eq.2 (by omega) | exact beq_eq_false_iff_ne.2 (by omega) | exact bne_iff_ne.2 (by omega) | rfl) rfl trivial rfl ?_
    refine Tr.nil ?_ (fun _ => rfl) (List.Perm.refl _)
    refine Wp.condF rfl ?_
    refine Wp.exit ?_
    exact ⟨rfl, O, v, es, hO, hv, hfr, ⟨fun a ha => EH.sub (ESub.sub (by repeat (first | exact ESub.nil | refine ESub.cons rfl (by first | rfl | (simp; done) | (simp; omega)) ?_))) a ha, MH.sub (MSub.app (MSub.drop (MSub.refl _)) _)⟩⟩
  | succ r ih =>
    intro i O v es hi hO hv hfr
    have hfi := hf i (by omega)
    have hih := fun v' es' hf' => ih (i + 1) (O ++ [UInt8.ofNat (f i % 256), UInt8.ofNat (f i / 256)]) v' es' (by omega) (by simp [hO]; omega) (bytes_step hO hv hfi) hf'
    have e2 : u8s (O ++ [UInt8.ofNat (f i % 256), UInt8.ofNat (f i / 256)]) = u8s O ++ [u8 (UInt8.ofNat (f i % 256)), u8 (UInt8.ofNat (f i / 256))] := List.map_append (f := u8)
    rw [e2] at hih
    have g1 := fA_get (n := 17) f (i := i) (by omega)
    have ei : ((i : Nat) : Int).toNat = i := by omega
    have o1 := ofNat_val (f i % 256)
    have o2 := ofNat_val (f i / 256)
    clear ih e2 hv hf
    generalize f i = x at *
    generalize UInt8.ofNat (x % 256) = d1 at *
    generalize UInt8.ofNat (x / 256) = d2 at *
    have hr : ((x : Nat) : Int).tmod 256 = ((d1.toNat : Nat) : Int) := by rw [o1, Int.tmod_eq_emod_of_nonneg (by omega)]; omega
    have hq : IntKind.i64.wrap (((x : Nat) : Int).tdiv 256) = ((d2.toNat : Nat) : Int) := by
      rw [o2]
      have := quoN x 256 (by omega)
      rw [show ((256 : Nat) : Int) = 256 from rfl] at this
      rw [this, Nat.mod_eq_of_lt (by omega)]
    have hd1 := d1.toNat_lt
    have hd2 := d2.toNat_lt
    generalize fA 17 f = L at *
    refine WpL.step ?_
    refine Wp.seq ?_
    refine Wp.seq ?_
    refine Wp.reg allGen ?_
    refine Tr.move rfl rfl trivial rfl ?_
    refine Tr.lss rfl rfl (by first | with_reducible assumption | exact decide_eq_true (by omega) | exact decide_eq_false (by omega) | exact beq_iff_eq.2 (by omega) | exact beq_eq_false_iff_ne.2 (by omega) | exact bne_iff_ne.2 (by omega) | rfl) rfl trivial rfl ?_
    refine Tr.nil ?_ (fun _ => rfl) (List.Perm.refl _)
    refine Wp.condT rfl ?_
    refine Wp.skip ?_
    refine Wp.seq ?_
    refine Wp.block ?_
    refine Wp.regE kindOf mo (by kernel_rfl) ?_
    refine Tr.move rfl rfl trivial rfl ?_
    refine Tr.move rfl rfl trivial rfl ?_
    first | refine Tr.indexAddr01 tab rfl rfl rfl rfl rfl (by omega) (by omega) rfl trivial rfl ?_ | refine Tr.indexAddr1 tab rfl rfl rfl rfl rfl (by omega) (by omega) rfl trivial rfl ?_
    refine Tr.loadS tab rfl rfl rfl (by repeat (first | exact .head _ | refine .tail _ ?_ | refine List.mem_append_right _ ?_)) g1 rfl trivial rfl ?_
    refine Tr.rem rfl rfl (by omega) hr rfl trivial rfl ?_
    refine Tr.conv tab rfl rfl rfl rfl (by first | exact wrap_u8 (by omega) (by omega) | rfl) rfl trivial rfl ?_
    refine Tr.move rfl rfl trivial rfl ?_
    first | refine Tr.indexAddr01 tab rfl rfl rfl rfl rfl (by omega) (by omega) rfl trivial rfl ?_ | refine Tr.indexAddr1 tab rfl rfl rfl rfl rfl (by omega) (by omega) rfl trivial rfl ?_
    refine Tr.loadS tab rfl rfl rfl (by repeat (first | exact .head _ | refine .tail _ ?_ | refine List.mem_append_right _ ?_)) g1 rfl trivial rfl ?_
    refine Tr.quo rfl rfl (by omega) hq rfl trivial rfl ?_
    refine Tr.conv tab rfl rfl rfl rfl (by first | exact wrap_u8 (by omega) (by omega) | rfl) rfl trivial rfl ?_
    refine Tr.buildSlice tab rfl rfl rfl rfl rfl rfl (by simp [fillC, splice, vcells, Value.cells, zrep_one]; rfl) rfl trivial rfl (fun _ _ => ?_)
    refine Tr.appendF tab rfl hfr (by repeat (first | exact Take.app _ _ | exact Take.self _ | exact Take.nil | apply Take.skip)) rfl (SrcOf.row (by repeat (first | exact .head _ | refine .tail _ ?_ | refine List.mem_append_right _ ?_)) (by first | exact At.all _ | with_reducible assumption | assumption) (by first | with_reducible rfl | with_reducible assumption | (simp; done) | (simp; omega) | rfl)) (by first | with_reducible exact pc_one _ | with_reducible assumption | exact el_one _ | exact bu_one _ | rfl | (simp [Value.oneCell']; done)) rfl rfl rfl rfl (by simp) (by decide) (by simp; omega) rfl trivial rfl (fun v1 es1 hf1 => ?_)
    refine Tr.assign rfl rfl trivial rfl ?_
    refine Tr.nil ?_ (fun _ => rfl) (List.Perm.refl _)
    refine Wp.reg allGen ?_
    refine Tr.move rfl rfl trivial rfl ?_
    refine Tr.add rfl rfl (by first | exact wrap_i64 (by omega) (by omega) | rfl) rfl trivial rfl ?_
    refine Tr.assign rfl rfl trivial rfl ?_
    refine Tr.nil ?_ (fun _ => rfl) (List.Perm.refl _)
    exact WpL.weak (hih _ _ hf1) ⟨fun a ha => EH.sub (ESub.sub (by repeat (first | exact ESub.nil | refine ESub.cons rfl (by first | rfl | (simp; done) | (simp; omega)) ?_))) a ha, MH.sub (MSub.app (MSub.drop (MSub.refl _)) _)⟩

theorem lowf_val (f : Nat → Nat) : valW 17 (pre 16 (lowf f)) = valW 16 f + 38 * valW 16 (fun j => f (16 + j)) := by
  rw [valW]
  have e : pre 16 (lowf f) 16 = 0 := by unfold pre; rw [if_neg (by omega)]
  rw [e, Nat.zero_mul, Nat.add_zero, valW_congr (g := lowf f) (fun j hj => by unfold pre; rw [if_pos hj])]
  exact valW_lin f (fun j => f (16 + j)) 38 16

theorem f81_mul (A B : List UInt8) (hA : A.length = 32) (hB : B.length = 32) : FnR Try.prog 81 [.agg (u8s A).toArray, .agg (u8s B).toArray] [] (.agg (u8s (b8 32 ((n8 A * n8 B) % P))).toArray) := by
  have hX : n8 A < 65536 ^ 16 := by have := n8_lt' A; rw [hA] at this; rw [pow_two]; exact this
  have hY : n8 B < 65536 ^ 16 := by have := n8_lt' B; rw [hB] at this; rw [pow_two]; exact this
  have hdA := f122_digits A hA
  have hdB := f122_digits B hB
  have hlA := fA_len 16 (dw (n8 A))
  have hlB := fA_len 16 (dw (n8 B))
  have hoA := fA_one 16 (dw (n8 A))
  have hoB := fA_one 16 (dw (n8 B))
  have h3 := fun a c es hr => full_nat8 (modP_lt (n8 A * n8 B)) a c (ro es) hr (ro_rw es)
  have hl := bt_len 32 ((n8 A * n8 B) % P)
  have hone := bt_one (b8 32 ((n8 A * n8 B) % P))
  have h1 := fun {g : Gh} (hg : g.n = 114) b4 b5 b6 b7 z4 => mulw_out (n8 A) (n8 B) hY b4 b5 b6 b7 z4 hg hX 16 0 (fun _ => 0) (by omega) (fun _ => by omega) (by rw [valW_zero, Nat.pow_zero, Nat.mod_one, Nat.zero_mul])
  rw [← fA_zero] at h1
  have hfold : ∀ f, (∀ j, f j ≤ 68717379600) → valW 32 f = n8 A * n8 B → RI (valW 17 (pre 16 (lowf f))) 0 (pre 16 (lowf f)) ∧ itV 2 (valW 17 (pre 16 (lowf f))) < H256 ∧ valW 17 (pre 16 (lowf f)) % P = n8 A * n8 B % P := by
    intro f hb hv
    have hbd : ∀ j, j < 16 → pre 16 (lowf f) j ≤ 4398046511104 := fun j hj => by
      unfold pre; rw [if_pos hj]
      have h1 := hb j
      have h2 := hb (16 + j)
      show f j + 38 * f (16 + j) ≤ _
      omega
    have hz : pre 16 (lowf f) 16 = 0 := by unfold pre; rw [if_neg (by omega)]
    refine ⟨⟨rfl, fun j hj => by have := hbd j hj; unfold Bd; omega, hz, fun h => by omega⟩, itV_two ?_, ?_⟩
    · rw [valW, hz, Nat.zero_mul, Nat.add_zero]
      have := valW_le (n := 16) hbd
      rw [pow16] at this
      unfold H256 at *
      omega
    · rw [lowf_val]
      refine fold38 _ _ _ ?_
      rw [← hv]
      have := valW_shift f 16 16
      rw [pow16] at this
      exact this
  generalize hS : n8 A * n8 B = S at *
  generalize hR : S % P = R at *
  refine fnR_of 114 rfl Try.func81 rfl (by kernel_rfl) rfl (by simp) fun w => ?_
  refine Wp.seq ?_
  refine Wp.reg allGen ?_
  refine Tr.boxA rfl rfl trivial rfl (fun B2 _ => ?_)
  refine Tr.boxA rfl rfl trivial rfl (fun B3 _ => ?_)
  refine Tr.alloc tab rfl rfl trivial rfl (fun B4 _ => ?_)
  refine Tr.nil ?_ (fun _ => rfl) (List.Perm.refl _)
  refine Wp.seq ?_
  refine Wp.reg allGen ?_
  refine Tr.loadA tab rfl rfl rfl (by repeat (first | exact .head _ | refine .tail _ ?_ | refine List.mem_append_right _ ?_)) (by first | exact At.all _ | with_reducible assumption | assumption) (by first | with_reducible exact pc_len _ | with_reducible rfl | with_reducible assumption | with_reducible exact el_len _ | with_reducible exact bu_len _ | (simp; done) | (simp; omega) | exact el_len _ | (simp [bF_len]; done) | exact bu_len _ | rw [el_len, el_len] | rw [bu_len, bu_len] | rfl) rfl trivial rfl ?_
  refine Tr.call rfl hdA Has.nil rfl trivial rfl ?_
  refine Tr.alloc tab rfl rfl trivial rfl (fun B5 _ => ?_)
  refine Tr.storeA tab rfl rfl rfl (by repeat (first | exact .here | apply MU.there | apply MU.app)) (by exact hlA) (by exact hlA) hoA trivial rfl ?_
  refine Tr.nil ?_ (fun _ => rfl) (List.Perm.refl _)
  refine Wp.seq ?_
  refine Wp.reg allGen ?_
  refine Tr.loadA tab rfl rfl rfl (by repeat (first | exact .head _ | refine .tail _ ?_ | refine List.mem_append_right _ ?_)) (by first | exact At.all _ | with_reducible assumption | assumption) (by first | with_reducible exact pc_len _ | with_reducible rfl | with_reducible assumption | with_reducible exact el_len _ | with_reducible exact bu_len _ | (simp; done) | (simp; omega) | exact el_len _ | (simp [bF_len]; done) | exact bu_len _ | rw [el_len, el_len] | rw [bu_len, bu_len] | rfl) rfl trivial rfl ?_
  refine Tr.call rfl hdB Has.nil rfl trivial rfl ?_
  refine Tr.alloc tab rfl rfl trivial rfl (fun B6 _ => ?_)
  refine Tr.storeA tab rfl rfl rfl (by repeat (first | exact .here | apply MU.there | apply MU.app)) (by exact hlB) (by exact hlB) hoB trivial rfl ?_
  refine Tr.nil ?_ (fun _ => rfl) (List.Perm.refl _)
  refine Wp.seq ?_
  refine Wp.reg allGen ?_
  refine Tr.alloc tab rfl rfl trivial rfl (fun B7 _ => ?_)
  refine Tr.nil ?_ (fun _ => rfl) (List.Perm.refl _)
  refine Wp.seq ?_
  refine Wp.seq ?_
  refine Wp.reg allGen ?_
  refine Tr.assign rfl rfl trivial rfl ?_
  refine Tr.nil ?_ (fun _ => rfl) (List.Perm.refl _)
  refine Wp.block ?_
  refine Wp.loopQ (h1 rfl B4 B5 B6 B7 _) (Wk.mk (by repeat (first | exact ESub.nil | refine ESub.cons rfl (by first | rfl | (simp; done) | (simp; omega)) ?_)) (by repeat (first | exact MSub.nil | refine MSub.cons (by repeat (first | exact .here | apply Pick.there | apply Pick.append)) (by first | rfl | (simp; done)) ?_))) ?_
  rintro _ env1 mem1 ⟨rfl, f, hb, hv, hw1⟩
  refine Wp.weak ?_ hw1
  obtain ⟨hri, hV, hmod⟩ := hfold f hb hv
  refine Wp.seq ?_
  refine Wp.reg allGen ?_
  refine Tr.alloc tab rfl rfl trivial rfl (fun B10 _ => ?_)
  refine Tr.nil ?_ (fun _ => rfl) (List.Perm.refl _)
  refine Wp.seq ?_
  refine Wp.seq ?_
  refine Wp.reg allGen ?_
  refine Tr.assign rfl rfl trivial rfl ?_
  refine Tr.nil ?_ (fun _ => rfl) (List.Perm.refl _)
  refine Wp.block ?_
  refine Wp.loopQ (low_loop rfl f hb B4 B7 B10 _ 16 0 rfl) (Wk.mk (by repeat (first | exact ESub.nil | refine ESub.cons rfl (by first | rfl | (simp; done) | (simp; omega)) ?_)) (by rw [pre_zero, ← fA_zero]; exact (by repeat (first | exact MSub.nil | refine MSub.cons (by repeat (first | exact .here | apply Pick.there | apply Pick.append)) (by first | rfl | (simp; done)) ?_)))) ?_
  rintro _ env2 mem2 ⟨rfl, hw2⟩
  refine Wp.weak ?_ hw2
  refine Wp.seq ?_
  refine Wp.seq ?_
  refine Wp.reg allGen ?_
  refine Tr.assign rfl rfl trivial rfl ?_
  refine Tr.nil ?_ (fun _ => rfl) (List.Perm.refl _)
  refine Wp.block ?_
  refine Wp.loopQ (folds_loop rfl _ hV B4 B10 _ 3 0 _ rfl hri) (Wk.mk (by repeat (first | exact ESub.nil | refine ESub.cons rfl (by first | rfl | (simp; done) | (simp; omega)) ?_)) (by repeat (first | exact MSub.nil | refine MSub.cons (by repeat (first | exact .here | apply Pick.there | apply Pick.append)) (by first | rfl | (simp; done)) ?_))) ?_
  rintro _ env3 mem3 ⟨rfl, f3, h3i, hw3⟩
  refine Wp.weak ?_ hw3
  refine Wp.seq ?_
  refine Wp.reg allGen ?_
  refine Tr.assign rfl rfl trivial rfl ?_
  refine Tr.nil ?_ (fun _ => rfl) (List.Perm.refl _)
  refine Wp.seq ?_
  refine Wp.seq ?_
  refine Wp.reg allGen ?_
  refine Tr.assign rfl rfl trivial rfl ?_
  refine Tr.nil ?_ (fun _ => rfl) (List.Perm.refl _)
  refine Wp.block ?_
  refine Wp.loopQ (bytes_loop rfl f3 (h3i.last rfl) B4 B10 _ 16 0 [] (.slice none 0 0) [] rfl rfl rfl Fresh.nil) (Wk.mk (by repeat (first | exact ESub.nil | refine ESub.cons rfl (by first | rfl | (simp; done) | (simp; omega)) ?_)) (MSub.refl _)) ?_
  rintro _ env4 mem4 ⟨rfl, O, v, es, hOl, hO, hfr, hw4⟩
  refine Wp.weak ?_ hw4
  obtain ⟨a1, c1, rfl, hr1⟩ := hfr.toRow
  have hrd := f124_round a1 O c1 (ro es) hr1 (ro_rw es) (by omega)
  have hval := h3i.val
  rw [valW, h3i.z, Nat.zero_mul, Nat.add_zero] at hval
  rw [hO, hval, itV_mod, hmod] at hrd
  refine Wp.seq ?_
  refine Wp.reg allGen ?_
  refine Tr.move rfl rfl trivial rfl ?_
  refine Tr.callG rfl hrd (Has.ro (fun e he => by repeat (first | exact List.mem_append_left _ he | exact he | refine .tail _ ?_ | refine List.mem_append_right _ ?_))) rfl trivial rfl ?_
  intro v2 es2 hf2
  obtain ⟨a2, c2, rfl, hr2⟩ := hf2.toRow
  refine Tr.call rfl (h3 a2 c2 es2 hr2) (Has.ro (fun e he => by repeat (first | exact List.mem_append_left _ he | exact he | refine .tail _ ?_ | refine List.mem_append_right _ ?_))) rfl trivial rfl ?_
  refine Tr.storeA tab rfl rfl rfl (by repeat (first | exact .here | apply MU.there | apply MU.app)) (by rfl) (by exact hl) hone trivial rfl ?_
  refine Tr.nil ?_ (fun _ => rfl) (List.Perm.refl _)
  refine Wp.ret ?_
  exact ⟨.inr rfl, .r1 rfl (RvIs.cellA tab rfl rfl rfl (by repeat (first | exact .head _ | refine .tail _ ?_ | refine List.mem_append_right _ ?_)) (At.all _) hl)⟩
end Go.Proofs.Ytffghaeaohabhaa.AW
