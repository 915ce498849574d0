import Derived.Test.YtffghaeaohabhaaC4
namespace Go.Proofs.Ytffghaeaohabhaa.AW
open Go NT
set_option maxRecDepth 100000

theorem scale_plain {out : Pl} {s : Pt} (h : out.rep s) : FnR Try.prog 89 [lv out] [] (pv s) := by
  have := f89_plain out
  rwa [plain_rep h] at this

section
variable (a0 : Option Addr) (dd : List UInt8) (cp : Nat) (rd : List Ent) (hsrc : Src a0 dd cp rd) (hrd : ∀ e, e ∈ rd → e.rw = false) (hd : dd.length ≤ 1000000) {p : Pt} (hp : p.on)
include hsrc hrd hd hp

theorem f42_scale : FnR Try.prog 42 [.slice a0 dd.length cp, pv p] rd (.tuple #[pv (nsm (n8 dd) p), i64 0]) := by
  have h84 := f84_on1 hp
  have h87 := f87_add dC dC
  have h85z := f85_of .zero
  have h85 := f85_of p
  have hz : n8 dd / 2 ^ (8 * dd.length) = 0 := by
    have h := n8_lt dd
    rw [Nat.pow_mul]
    exact Nat.div_eq_of_lt h
  by_cases h0 : dd.length = 0
  · have hnil : dd = [] := List.length_eq_zero_iff.1 h0
    subst hnil
    have h89 := scale_plain (rep_of .zero)
    show FnR _ _ [.slice a0 0 cp, pv p] rd (.tuple #[pv .zero, i64 0])
    have f50_zero' := f50_zero
    generalize Pl.of .zero = lz at *
    generalize Pt.zero = zp at *
    generalize Pl.of p = lp at *
    generalize dC + dC = tw at *
    refine fnR_of 56 rfl Try.func42 rfl (by kernel_rfl) rfl hrd fun w => ?_
    refine Wp.seq ?_
    refine Wp.reg allGen ?_
    refine Tr.boxA rfl rfl trivial rfl (fun B3 _ => ?_)
    refine Tr.alloc tab rfl rfl trivial rfl (fun B4 _ => ?_)
    refine Tr.assign rfl rfl trivial rfl ?_
    refine Tr.nil ?_ (fun _ => rfl) (List.Perm.refl _)
    refine Wp.seq ?_
    refine Wp.seq ?_
    refine Wp.reg allGen ?_
    refine Tr.loadA tab rfl rfl rfl (by repeat (first | exact .head _ | refine .tail _ ?_ | refine List.mem_append_right _ ?_)) (At.all _) (pc_len p) rfl trivial rfl ?_
    refine Tr.buildSlice tab rfl rfl rfl rfl rfl rfl (fill_s1 (pc_len p)) rfl trivial rfl (fun B13 _ => ?_)
    refine Tr.call rfl (h84 B13 1) (Has.cons (.head _) Has.nil) rfl trivial rfl ?_
    refine Tr.assign rfl rfl trivial rfl ?_
    refine Tr.nil ?_ (fun _ => rfl) (List.Perm.refl _)
    refine Wp.seq ?_
    refine Wp.reg allGen ?_
    refine Tr.move rfl rfl trivial rfl ?_
    refine Tr.neq rfl rfl (by first | with_reducible assumption | exact decide_eq_true (by omega) | exact decide_eq_false (by omega) | exact beq_iff_eq.2 (by omega) | exact beq_eq_false_iff_ne.2 (by omega) | exact bne_iff_ne.2 (by omega) | rfl) rfl trivial rfl ?_
    refine Tr.nil ?_ (fun _ => rfl) (List.Perm.refl _)
    refine Wp.condF rfl ?_
    refine Wp.skip ?_
    refine Wp.seq ?_
    refine Wp.reg allGen ?_
    refine Tr.call rfl f88_d Has.nil rfl trivial rfl ?_
    refine Tr.call rfl f88_d Has.nil rfl trivial rfl ?_
    refine Tr.call rfl h87 Has.nil rfl trivial rfl ?_
    refine Tr.alloc tab rfl rfl trivial rfl (fun B7 _ => ?_)
    refine Tr.storeA tab rfl rfl rfl (by repeat (first | exact .here | apply MU.there | apply MU.app)) (by first | with_reducible rfl | with_reducible assumption | with_reducible exact el_len _ | with_reducible exact bu_len _ | (simp; done) | (simp; omega) | exact el_len _ | (simp [bF_len]; done) | exact bu_len _ | rw [el_len, el_len] | rw [bu_len, bu_len] | rfl) (by first | with_reducible rfl | with_reducible assumption | with_reducible exact el_len _ | with_reducible exact bu_len _ | (simp; done) | (simp; omega) | exact el_len _ | (simp [bF_len]; done) | exact bu_len _ | rw [el_len, el_len] | rw [bu_len, bu_len] | rfl) (by first | with_reducible assumption | exact el_one _ | exact bu_one _ | rfl | (simp [Value.oneCell']; done)) trivial rfl ?_
    refine Tr.nil ?_ (fun _ => rfl) (List.Perm.refl _)
    refine Wp.seq ?_
    refine Wp.regE kindOf mo (by kernel_rfl) ?_
    refine Tr.call rfl f50_zero' Has.nil rfl trivial rfl ?_
    refine Tr.call rfl h85z Has.nil rfl trivial rfl ?_
    refine Tr.loadA tab rfl rfl rfl (by repeat (first | exact .head _ | refine .tail _ ?_ | refine List.mem_append_right _ ?_)) (At.all _) (pc_len p) rfl trivial rfl ?_
    refine Tr.call rfl h85 Has.nil rfl trivial rfl ?_
    refine Tr.alloc tab rfl rfl trivial rfl (fun B8 _ => ?_)
    refine Tr.alloc tab rfl rfl trivial rfl (fun B9 _ => ?_)
    refine Tr.storeA tab rfl rfl rfl (by repeat (first | exact .here | apply MU.there | apply MU.app)) (by exact lc_len lz) (by exact lc_len lz) (lc_one lz) trivial rfl ?_
    refine Tr.storeA tab rfl rfl rfl (by repeat (first | exact .here | apply MU.there | apply MU.app)) (by exact lc_len lp) (by exact lc_len lp) (lc_one lp) trivial rfl ?_
    refine Tr.nil ?_ (fun _ => rfl) (List.Perm.refl _)
    refine Wp.seq ?_
    refine Wp.seq ?_
    refine Wp.reg allGen ?_
    refine Tr.move rfl rfl trivial rfl ?_
    refine Tr.lenS tab rfl rfl rfl rfl trivial rfl ?_
    refine Tr.mul rfl rfl (by first | exact wrap_i64 (by omega) (by omega) | rfl) rfl trivial rfl ?_
    refine Tr.sub rfl rfl (by first | exact wrap_i64 (by omega) (by omega) | rfl) rfl trivial rfl ?_
    refine Tr.assign rfl rfl trivial rfl ?_
    refine Tr.nil ?_ (fun _ => rfl) (List.Perm.refl _)
    refine Wp.block ?_
    refine Wp.loopL ?_
    refine WpL.step ?_
    refine Wp.seq ?_
    refine Wp.seq ?_
    refine Wp.reg allGen ?_
    refine Tr.move rfl rfl trivial rfl ?_
    refine Tr.geq rfl rfl (by first | with_reducible assumption | exact decide_eq_true (by omega) | exact decide_eq_false (by omega) | exact beq_iff_eq.2 (by omega) | exact beq_eq_false_iff_ne.2 (by omega) | exact bne_iff_ne.2 (by omega) | rfl) rfl trivial rfl ?_
    refine Tr.nil ?_ (fun _ => rfl) (List.Perm.refl _)
    refine Wp.condF rfl ?_
    refine Wp.exit ?_
    refine Wp.seq ?_
    refine Wp.reg allGen ?_
    refine Tr.loadA tab rfl rfl rfl (by repeat (first | exact .head _ | refine .tail _ ?_ | refine List.mem_append_right _ ?_)) (At.all _) (lc_len lz) rfl trivial rfl ?_
    refine Tr.call rfl h89 Has.nil rfl trivial rfl ?_
    refine Tr.storeA tab rfl rfl rfl (by repeat (first | exact .here | apply MU.there | apply MU.app)) (by exact pc_len zp) (by exact pc_len zp) (pc_one zp) trivial rfl ?_
    refine Tr.assign rfl rfl trivial rfl ?_
    refine Tr.nil ?_ (fun _ => rfl) (List.Perm.refl _)
    refine Wp.ret ?_
    exact ⟨.inr rfl, .r2 rfl (RvIs.cellA tab rfl rfl rfl (by repeat (first | exact .head _ | refine .tail _ ?_ | refine List.mem_append_right _ ?_)) (At.all _) (pc_len zp)) (RvIs.tmp rfl)⟩
  · obtain ⟨bd, od, cd, rb, rfl, hmem, hcd⟩ : ∃ b off c r, a0 = some ⟨b, off, none⟩ ∧ (⟨b, c, r⟩ : Ent) ∈ rd ∧ At c off (u8s dd) := by
      rcases hsrc with h | ⟨b, off, c, r, h1, h2, h3⟩
      · rw [h] at h0; simp at h0
      · exact ⟨b, off, c, r, h1, h2, h3⟩
    obtain rfl : rb = false := hrd _ hmem
    have hrep0 : (Pl.of .zero).rep (nsm (n8 dd / 2 ^ (8 * dd.length)) p) := by rw [hz]; exact rep_of .zero
    have hl := fun {g : Gh} (hg : g.n = 56) b4 b7 b8 b9 z4 => scale_loop hg p hp dd hd bd od cp cd hcd rd hmem b4 b7 b8 b9 z4 (8 * dd.length) (Pl.of .zero) (Nat.le_refl _) hrep0
    have h89 := fun (out : Pl) (h : out.rep (nsm (n8 dd) p)) => scale_plain h
    generalize nsm (n8 dd) p = S at *
    have hc : ((8 * dd.length : Nat) : Int) = 8 * (dd.length : Int) := by omega
    rw [hc] at hl
    refine fnR_of 56 rfl Try.func42 rfl (by kernel_rfl) rfl hrd fun w => ?_
    refine Wp.seq ?_
    refine Wp.reg allGen ?_
    refine Tr.boxA rfl rfl trivial rfl (fun B3 _ => ?_)
    refine Tr.alloc tab rfl rfl trivial rfl (fun B4 _ => ?_)
    refine Tr.assign rfl rfl trivial rfl ?_
    refine Tr.nil ?_ (fun _ => rfl) (List.Perm.refl _)
    refine Wp.seq ?_
    refine Wp.seq ?_
    refine Wp.reg allGen ?_
    refine Tr.loadA tab rfl rfl rfl (by repeat (first | exact .head _ | refine .tail _ ?_ | refine List.mem_append_right _ ?_)) (At.all _) (pc_len p) rfl trivial rfl ?_
    refine Tr.buildSlice tab rfl rfl rfl rfl rfl rfl (fill_s1 (pc_len p)) rfl trivial rfl (fun B13 _ => ?_)
    refine Tr.call rfl (h84 B13 1) (Has.cons (.head _) Has.nil) rfl trivial rfl ?_
    refine Tr.assign rfl rfl trivial rfl ?_
    refine Tr.nil ?_ (fun _ => rfl) (List.Perm.refl _)
    refine Wp.seq ?_
    refine Wp.reg allGen ?_
    refine Tr.move rfl rfl trivial rfl ?_
    refine Tr.neq rfl rfl (by first | with_reducible assumption | exact decide_eq_true (by omega) | exact decide_eq_false (by omega) | exact beq_iff_eq.2 (by omega) | exact beq_eq_false_iff_ne.2 (by omega) | exact bne_iff_ne.2 (by omega) | rfl) rfl trivial rfl ?_
    refine Tr.nil ?_ (fun _ => rfl) (List.Perm.refl _)
    refine Wp.condF rfl ?_
    refine Wp.skip ?_
    refine Wp.seq ?_
    refine Wp.reg allGen ?_
    refine Tr.call rfl f88_d Has.nil rfl trivial rfl ?_
    refine Tr.call rfl f88_d Has.nil rfl trivial rfl ?_
    refine Tr.call rfl h87 Has.nil rfl trivial rfl ?_
    refine Tr.alloc tab rfl rfl trivial rfl (fun B7 _ => ?_)
    refine Tr.storeA tab rfl rfl rfl (by repeat (first | exact .here | apply MU.there | apply MU.app)) (by first | with_reducible rfl | with_reducible assumption | with_reducible exact el_len _ | with_reducible exact bu_len _ | (simp; done) | (simp; omega) | exact el_len _ | (simp [bF_len]; done) | exact bu_len _ | rw [el_len, el_len] | rw [bu_len, bu_len] | rfl) (by first | with_reducible rfl | with_reducible assumption | with_reducible exact el_len _ | with_reducible exact bu_len _ | (simp; done) | (simp; omega) | exact el_len _ | (simp [bF_len]; done) | exact bu_len _ | rw [el_len, el_len] | rw [bu_len, bu_len] | rfl) (by first | with_reducible assumption | exact el_one _ | exact bu_one _ | rfl | (simp [Value.oneCell']; done)) trivial rfl ?_
    refine Tr.nil ?_ (fun _ => rfl) (List.Perm.refl _)
    refine Wp.seq ?_
    refine Wp.regE kindOf mo (by kernel_rfl) ?_
    refine Tr.call rfl f50_zero Has.nil rfl trivial rfl ?_
    refine Tr.call rfl h85z Has.nil rfl trivial rfl ?_
    refine Tr.loadA tab rfl rfl rfl (by repeat (first | exact .head _ | refine .tail _ ?_ | refine List.mem_append_right _ ?_)) (At.all _) (pc_len p) rfl trivial rfl ?_
    refine Tr.call rfl h85 Has.nil rfl trivial rfl ?_
    refine Tr.alloc tab rfl rfl trivial rfl (fun B8 _ => ?_)
    refine Tr.alloc tab rfl rfl trivial rfl (fun B9 _ => ?_)
    refine Tr.storeA tab rfl rfl rfl (by repeat (first | exact .here | apply MU.there | apply MU.app)) (by exact lc_len (Pl.of .zero)) (by exact lc_len (Pl.of .zero)) (lc_one (Pl.of .zero)) trivial rfl ?_
    refine Tr.storeA tab rfl rfl rfl (by repeat (first | exact .here | apply MU.there | apply MU.app)) (by exact lc_len (Pl.of p)) (by exact lc_len (Pl.of p)) (lc_one (Pl.of p)) trivial rfl ?_
    refine Tr.nil ?_ (fun _ => rfl) (List.Perm.refl _)
    refine Wp.seq ?_
    refine Wp.seq ?_
    refine Wp.reg allGen ?_
    refine Tr.move rfl rfl trivial rfl ?_
    refine Tr.lenS tab rfl rfl rfl rfl trivial rfl ?_
    refine Tr.mul rfl rfl (by first | exact wrap_i64 (by omega) (by omega) | rfl) rfl trivial rfl ?_
    refine Tr.sub rfl rfl (by first | exact wrap_i64 (by omega) (by omega) | rfl) rfl trivial rfl ?_
    refine Tr.assign rfl rfl trivial rfl ?_
    refine Tr.nil ?_ (fun _ => rfl) (List.Perm.refl _)
    refine Wp.block ?_
    refine Wp.loopQ (hl rfl B4 B7 B8 B9 _) (Wk.mk (by repeat (first | exact ESub.nil | refine ESub.cons rfl (by first | rfl | (simp; done) | (simp; omega)) ?_)) (MSub.cons (by repeat (first | exact .here | apply Pick.there | apply Pick.append)) rfl (MSub.cons (by repeat (first | exact .here | apply Pick.there | apply Pick.append)) rfl (MSub.cons (by repeat (first | exact .here | apply Pick.there | apply Pick.append)) rfl (MSub.cons (by repeat (first | exact .here | apply Pick.there | apply Pick.append)) rfl (MSub.drop (MSub.drop (MSub.refl _)))))))) ?_
    rintro _ env1 mem1 ⟨rfl, out, hrep, hk1⟩
    refine Wp.weak ?_ hk1
    refine Wp.seq ?_
    refine Wp.reg allGen ?_
    refine Tr.loadA tab rfl rfl rfl (by repeat (first | exact .head _ | refine .tail _ ?_ | refine List.mem_append_right _ ?_)) (At.all _) (lc_len out) rfl trivial rfl ?_
    refine Tr.call rfl (h89 out hrep) Has.nil rfl trivial rfl ?_
    refine Tr.storeA tab rfl rfl rfl (by repeat (first | exact .here | apply MU.there | apply MU.app)) (by exact pc_len S) (by exact pc_len S) (pc_one S) trivial rfl ?_
    refine Tr.assign rfl rfl trivial rfl ?_
    refine Tr.nil ?_ (fun _ => rfl) (List.Perm.refl _)
    refine Wp.ret ?_
    exact ⟨.inr rfl, .r2 rfl (RvIs.cellA tab rfl rfl rfl (by repeat (first | exact .head _ | refine .tail _ ?_ | refine List.mem_append_right _ ?_)) (At.all _) (pc_len S)) (RvIs.tmp rfl)⟩
end
end Go.Proofs.Ytffghaeaohabhaa.AW
