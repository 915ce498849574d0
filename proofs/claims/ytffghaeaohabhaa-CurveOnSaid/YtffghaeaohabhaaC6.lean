import Derived.Test.YtffghaeaohabhaaC5
import Derived.Test.YtffghaeaohabhaaM7
namespace Go.Proofs.Ytffghaeaohabhaa.AW
open Go NT
set_option maxRecDepth 100000

theorem u8s_set (l : List UInt8) (j : Nat) (v : UInt8) : (u8s l).set j (u8 v) = u8s (l.set j v) := (List.map_set (f := u8)).symm

/-! ### Pack -/
theorem f43_pack {p : Pt} (hp : p.on) : FnR Try.prog 43 [pv p] [] (.tuple #[.agg (u8s (packB p)).toArray, i64 0]) := by
  have h84 := f84_on1 hp
  have hps := pack_set p
  have hl : (u8s (packB p)).length = 32 := by simp [packB_len]
  have gy := at_get u8 (At.all (u8s (bF p.y))) 0 (j := 31) (by rw [bF_len]; decide) (k := 31) rfl
  have gx := at_get u8 (At.all (u8s (bF p.x))) 0 (j := 0) (by rw [bF_len]; decide) (k := 0) rfl
  rw [Nat.zero_add] at gx gy
  have gx' : (pc p)[0 + (0 : Int).toNat]? = some (u8 ((bF p.x).getD 0 0)) := by
    show (u8s (bF p.x) ++ u8s (bF p.y))[0]? = _
    rw [List.getElem?_append_left (by simp [bF_len])]
    exact gx
  generalize (bF p.x).getD 0 0 = x0 at *
  generalize hY : (bF p.y).getD 31 0 = y0 at *
  generalize packB p = L at *
  refine fnR_of 25 rfl Try.func43 rfl (by kernel_rfl) rfl (by simp) fun w => ?_
  refine Wp.seq ?_
  refine Wp.reg allGen ?_
  refine Tr.boxA rfl rfl trivial rfl (fun B1 _ => ?_)
  refine Tr.alloc tab rfl rfl trivial rfl (fun B2 _ => ?_)
  refine Tr.assign rfl rfl trivial rfl ?_
  refine Tr.nil ?_ (fun _ => rfl) (List.Perm.refl _)
  refine Wp.seq ?_
  refine Wp.seq ?_
  refine Wp.reg allGen ?_
  refine Tr.loadA tab rfl rfl rfl (by repeat (first | exact .head _ | refine .tail _ ?_ | refine List.mem_append_right _ ?_)) (At.all _) (pc_len p) rfl trivial rfl ?_
  refine Tr.buildSlice tab rfl rfl rfl rfl rfl rfl (fill_s1 (pc_len p)) rfl trivial rfl (fun B7 _ => ?_)
  refine Tr.call rfl (h84 B7 1) (by repeat (first | exact Has.nil | refine Has.cons (by repeat (first | exact .head _ | refine .tail _ ?_ | refine List.mem_append_right _ ?_)) ?_)) rfl trivial rfl ?_
  refine Tr.assign rfl rfl trivial rfl ?_
  refine Tr.nil ?_ (fun _ => rfl) (List.Perm.refl _)
  refine Wp.seq ?_
  refine Wp.reg allGen ?_
  refine Tr.move rfl rfl trivial rfl ?_
  refine Tr.neq rfl rfl (by first | with_reducible assumption | exact decide_eq_true (by omega) | exact decide_eq_false (by omega) | exact beq_iff_eq.2 (by omega) | exact beq_eq_false_iff_ne.2 (by omega) | exact bne_iff_ne.2 (by omega) | rfl) rfl trivial rfl ?_
  refine Tr.nil ?_ (fun _ => rfl) (List.Perm.refl _)
  refine Wp.condF rfl ?_
  refine Wp.skip ?_
  refine Wp.seq ?_
  refine Wp.reg allGen ?_
  refine Tr.fieldAddr tab rfl rfl rfl rfl rfl rfl rfl trivial rfl ?_
  refine Tr.loadA tab rfl rfl rfl (by repeat (first | exact .head _ | refine .tail _ ?_ | refine List.mem_append_right _ ?_)) (at_p1 _ _ (by first | exact bu_len _ | assumption)) (by first | with_reducible rfl | with_reducible assumption | with_reducible exact el_len _ | with_reducible exact bu_len _ | (simp; done) | (simp; omega) | exact el_len _ | (simp [bF_len]; done) | exact bu_len _ | rw [el_len, el_len] | rw [bu_len, bu_len] | rfl) rfl trivial rfl ?_
  refine Tr.alloc tab rfl rfl trivial rfl (fun B5 _ => ?_)
  refine Tr.storeA tab rfl rfl rfl (by repeat (first | exact .here | apply MU.there | apply MU.app)) (by first | with_reducible rfl | with_reducible assumption | with_reducible exact el_len _ | with_reducible exact bu_len _ | (simp; done) | (simp; omega) | exact el_len _ | (simp [bF_len]; done) | exact bu_len _ | rw [el_len, el_len] | rw [bu_len, bu_len] | rfl) (by first | with_reducible rfl | with_reducible assumption | with_reducible exact el_len _ | with_reducible exact bu_len _ | (simp; done) | (simp; omega) | exact el_len _ | (simp [bF_len]; done) | exact bu_len _ | rw [el_len, el_len] | rw [bu_len, bu_len] | rfl) (by first | with_reducible assumption | exact el_one _ | exact bu_one _ | rfl | (simp [Value.oneCell']; done)) trivial rfl ?_
  refine Tr.nil ?_ (fun _ => rfl) (List.Perm.refl _)
  refine Wp.seq ?_
  refine Wp.reg allGen ?_
  first | refine Tr.indexAddr01 tab rfl rfl rfl rfl rfl (by omega) (by omega) rfl trivial rfl ?_ | refine Tr.indexAddr1 tab rfl rfl rfl rfl rfl (by omega) (by omega) rfl trivial rfl ?_
  refine Tr.loadS tab rfl rfl rfl (by repeat (first | exact .head _ | refine .tail _ ?_ | refine List.mem_append_right _ ?_)) gy rfl trivial rfl ?_
  refine Tr.fieldAddr tab rfl rfl rfl rfl rfl rfl rfl trivial rfl ?_
  first | refine Tr.indexAddr01 tab rfl rfl rfl rfl rfl (by omega) (by omega) rfl trivial rfl ?_ | refine Tr.indexAddr1 tab rfl rfl rfl rfl rfl (by omega) (by omega) rfl trivial rfl ?_
  refine Tr.loadS tab rfl rfl rfl (by repeat (first | exact .head _ | refine .tail _ ?_ | refine List.mem_append_right _ ?_)) gx' rfl trivial rfl ?_
  refine Tr.band (b := ((1 : UInt8).toNat : Int)) rfl rfl (by first | exact u8_and _ _ | rfl) rfl trivial rfl ?_
  refine Tr.shl rfl rfl (by omega) (by first | exact u8_shl _ 7 (by decide) | rfl) rfl trivial rfl ?_
  refine Tr.bor rfl rfl (by first | exact u8_or _ _ | rfl) rfl trivial rfl ?_
  first | refine Tr.indexAddr01 tab rfl rfl rfl rfl rfl (by omega) (by omega) rfl trivial rfl ?_ | refine Tr.indexAddr1 tab rfl rfl rfl rfl rfl (by omega) (by omega) rfl trivial rfl ?_
  refine Tr.storeS tab rfl rfl rfl rfl (by repeat (first | exact .here | apply MU.there | apply MU.app)) (by rw [bu_len]; decide) trivial rfl ?_
  rw [show ((31 : Int)).toNat = 31 from rfl, u8s_set, hps]
  refine Tr.nil ?_ (fun _ => rfl) (List.Perm.refl _)
  refine Wp.seq ?_
  refine Wp.reg allGen ?_
  refine Tr.loadA tab rfl rfl rfl (by repeat (first | exact .head _ | refine .tail _ ?_ | refine List.mem_append_right _ ?_)) (At.all _) hl rfl trivial rfl ?_
  refine Tr.storeA tab rfl rfl rfl (by repeat (first | exact .here | apply MU.there | apply MU.app)) (by exact hl) (by exact hl) (bu_one _) trivial rfl ?_
  refine Tr.assign rfl rfl trivial rfl ?_
  refine Tr.nil ?_ (fun _ => rfl) (List.Perm.refl _)
  refine Wp.ret ?_
  exact ⟨.inr rfl, .r2 rfl (RvIs.cellA tab rfl rfl rfl (by repeat (first | exact .head _ | refine .tail _ ?_ | refine List.mem_append_right _ ?_)) (At.all _) hl) (RvIs.tmp rfl)⟩

/-! ### Unpack -/
abbrev noPt : Value := .tuple #[.agg (List.replicate 64 (Value.int .u8 0)).toArray, i64 170]

section
variable (l : List UInt8) (hl : l.length = 32) (L : List UInt8) (hL : L.length = 32) (hset : l.set 31 (l.getD 31 0 &&& 127) = L)
include hl hL hset

theorem f52_bad (hb : ¬ n8 L < P) : FnR Try.prog 52 [.agg (u8s l).toArray] [] (noPt) := by
  have hlu : (u8s l).length = 32 := by simp [hl]
  have hLu : (u8s L).length = 32 := by simp [hL]
  have gb := at_get u8 (At.all (u8s l)) 0 (j := 31) (by omega) (k := 31) rfl
  rw [Nat.zero_add] at gb
  have hIs := f92_is L hL
  rw [decide_eq_false hb] at hIs
  generalize l.getD 31 0 = b at *
  refine fnR_of 58 rfl Try.func52 rfl (by kernel_rfl) rfl (by simp) fun w => ?_
  refine Wp.seq ?_
  refine Wp.reg allGen ?_
  refine Tr.boxA rfl rfl trivial rfl (fun B1 _ => ?_)
  refine Tr.alloc tab rfl rfl trivial rfl (fun B2 _ => ?_)
  refine Tr.assign rfl rfl trivial rfl ?_
  refine Tr.nil ?_ (fun _ => rfl) (List.Perm.refl _)
  refine Wp.seq ?_
  refine Wp.reg allGen ?_
  first | refine Tr.indexAddr01 tab rfl rfl rfl rfl rfl (by omega) (by omega) rfl trivial rfl ?_ | refine Tr.indexAddr1 tab rfl rfl rfl rfl rfl (by omega) (by omega) rfl trivial rfl ?_
  refine Tr.loadS tab rfl rfl rfl (by repeat (first | exact .head _ | refine .tail _ ?_ | refine List.mem_append_right _ ?_)) gb rfl trivial rfl ?_
  refine Tr.shr rfl rfl (by omega) (by first | exact u8_shr _ 7 (by decide) | rfl) rfl trivial rfl ?_
  refine Tr.assign rfl rfl trivial rfl ?_
  refine Tr.nil ?_ (fun _ => rfl) (List.Perm.refl _)
  refine Wp.seq ?_
  refine Wp.reg allGen ?_
  first | refine Tr.indexAddr01 tab rfl rfl rfl rfl rfl (by omega) (by omega) rfl trivial rfl ?_ | refine Tr.indexAddr1 tab rfl rfl rfl rfl rfl (by omega) (by omega) rfl trivial rfl ?_
  refine Tr.loadS tab rfl rfl rfl (by repeat (first | exact .head _ | refine .tail _ ?_ | refine List.mem_append_right _ ?_)) gb rfl trivial rfl ?_
  refine Tr.band (b := ((127 : UInt8).toNat : Int)) rfl rfl (u8_and b 127) rfl trivial rfl ?_
  first | refine Tr.indexAddr01 tab rfl rfl rfl rfl rfl (by omega) (by omega) rfl trivial rfl ?_ | refine Tr.indexAddr1 tab rfl rfl rfl rfl rfl (by omega) (by omega) rfl trivial rfl ?_
  refine Tr.storeS tab rfl rfl rfl rfl (by repeat (first | exact .here | apply MU.there | apply MU.app)) (by rw [hlu]; decide) trivial rfl ?_
  rw [show ((31 : Int)).toNat = 31 from rfl, u8s_set, hset]
  refine Tr.nil ?_ (fun _ => rfl) (List.Perm.refl _)
  refine Wp.seq ?_
  refine Wp.seq ?_
  refine Wp.reg allGen ?_
  refine Tr.loadA tab rfl rfl rfl (by repeat (first | exact .head _ | refine .tail _ ?_ | refine List.mem_append_right _ ?_)) (At.all _) hLu rfl trivial rfl ?_
  refine Tr.call rfl hIs (by repeat (first | exact Has.nil | refine Has.cons (by repeat (first | exact .head _ | refine .tail _ ?_ | refine List.mem_append_right _ ?_)) ?_)) rfl trivial rfl ?_
  refine Tr.not rfl rfl rfl trivial rfl ?_
  refine Tr.nil ?_ (fun _ => rfl) (List.Perm.refl _)
  refine Wp.condT rfl ?_
  refine Wp.seq ?_
  refine Wp.reg allGen ?_
  refine Tr.buildS (cs := List.replicate 64 (Value.int .u8 0)) (l := [(0, 32), (32, 32)]) tab rfl rfl rfl rfl (by rfl) rfl trivial rfl ?_
  refine Tr.storeA tab rfl rfl rfl (by repeat (first | exact .here | apply MU.there | apply MU.app)) (by first | with_reducible rfl | with_reducible assumption | with_reducible exact el_len _ | with_reducible exact bu_len _ | (simp; done) | (simp; omega) | exact el_len _ | (simp [bF_len]; done) | exact bu_len _ | rw [el_len, el_len] | rw [bu_len, bu_len] | rfl) (by first | with_reducible rfl | with_reducible assumption | with_reducible exact el_len _ | with_reducible exact bu_len _ | (simp; done) | (simp; omega) | exact el_len _ | (simp [bF_len]; done) | exact bu_len _ | rw [el_len, el_len] | rw [bu_len, bu_len] | rfl) (by first | with_reducible assumption | exact el_one _ | exact bu_one _ | rfl | (simp [Value.oneCell']; done)) trivial rfl ?_
  refine Tr.assign rfl rfl trivial rfl ?_
  refine Tr.nil ?_ (fun _ => rfl) (List.Perm.refl _)
  refine Wp.ret ?_
  exact ⟨.inr rfl, .r2 rfl (RvIs.cellA tab rfl rfl rfl (by repeat (first | exact .head _ | refine .tail _ ?_ | refine List.mem_append_right _ ?_)) (At.all _) rfl) (RvIs.tmp rfl)⟩

theorem f52_none (y zi u : F) (hLy : L = bF y) (hz : FnR Try.prog 94 [bv (dC * (y * y) + 1)] [] (bv zi)) (hu : (y * y - 1) * zi = u) (hroot : FnR Try.prog 96 [bv u] [] (.tuple #[bv 0, .bool false, i64 0])) : FnR Try.prog 52 [.agg (u8s l).toArray] [] (noPt) := by
  have hlu : (u8s l).length = 32 := by simp [hl]
  have hLu : (u8s L).length = 32 := by simp [hL]
  have gb := at_get u8 (At.all (u8s l)) 0 (j := 31) (by omega) (k := 31) rfl
  rw [Nat.zero_add] at gb
  subst hLy
  have hbul := bu_len y
  have h93 := f93_mul y y
  have h90 := f90_sub (y * y) 1
  have h93d := f93_mul dC (y * y)
  have h87 := f87_add (dC * (y * y)) 1
  have h93u := f93_mul (y * y - 1) zi
  rw [hu] at h93u
  generalize l.getD 31 0 = b at *
  refine fnR_of 58 rfl Try.func52 rfl (by kernel_rfl) rfl (by simp) fun w => ?_
  refine Wp.seq ?_
  refine Wp.reg allGen ?_
  refine Tr.boxA rfl rfl trivial rfl (fun B1 _ => ?_)
  refine Tr.alloc tab rfl rfl trivial rfl (fun B2 _ => ?_)
  refine Tr.assign rfl rfl trivial rfl ?_
  refine Tr.nil ?_ (fun _ => rfl) (List.Perm.refl _)
  refine Wp.seq ?_
  refine Wp.reg allGen ?_
  first | refine Tr.indexAddr01 tab rfl rfl rfl rfl rfl (by omega) (by omega) rfl trivial rfl ?_ | refine Tr.indexAddr1 tab rfl rfl rfl rfl rfl (by omega) (by omega) rfl trivial rfl ?_
  refine Tr.loadS tab rfl rfl rfl (by repeat (first | exact .head _ | refine .tail _ ?_ | refine List.mem_append_right _ ?_)) gb rfl trivial rfl ?_
  refine Tr.shr rfl rfl (by omega) (by first | exact u8_shr _ 7 (by decide) | rfl) rfl trivial rfl ?_
  refine Tr.assign rfl rfl trivial rfl ?_
  refine Tr.nil ?_ (fun _ => rfl) (List.Perm.refl _)
  refine Wp.seq ?_
  refine Wp.reg allGen ?_
  first | refine Tr.indexAddr01 tab rfl rfl rfl rfl rfl (by omega) (by omega) rfl trivial rfl ?_ | refine Tr.indexAddr1 tab rfl rfl rfl rfl rfl (by omega) (by omega) rfl trivial rfl ?_
  refine Tr.loadS tab rfl rfl rfl (by repeat (first | exact .head _ | refine .tail _ ?_ | refine List.mem_append_right _ ?_)) gb rfl trivial rfl ?_
  refine Tr.band (b := ((127 : UInt8).toNat : Int)) rfl rfl (u8_and b 127) rfl trivial rfl ?_
  first | refine Tr.indexAddr01 tab rfl rfl rfl rfl rfl (by omega) (by omega) rfl trivial rfl ?_ | refine Tr.indexAddr1 tab rfl rfl rfl rfl rfl (by omega) (by omega) rfl trivial rfl ?_
  refine Tr.storeS tab rfl rfl rfl rfl (by repeat (first | exact .here | apply MU.there | apply MU.app)) (by rw [hlu]; decide) trivial rfl ?_
  rw [show ((31 : Int)).toNat = 31 from rfl, u8s_set, hset]
  refine Tr.nil ?_ (fun _ => rfl) (List.Perm.refl _)
  refine Wp.seq ?_
  refine Wp.seq ?_
  refine Wp.reg allGen ?_
  refine Tr.loadA tab rfl rfl rfl (by repeat (first | exact .head _ | refine .tail _ ?_ | refine List.mem_append_right _ ?_)) (by first | exact At.all _ | with_reducible assumption | assumption) (by first | with_reducible rfl | with_reducible assumption | with_reducible exact el_len _ | with_reducible exact bu_len _ | (simp; done) | (simp; omega) | exact el_len _ | (simp [bF_len]; done) | exact bu_len _ | rw [el_len, el_len] | rw [bu_len, bu_len] | rfl) rfl trivial rfl ?_
  refine Tr.call rfl (f92_el y) (by repeat (first | exact Has.nil | refine Has.cons (by repeat (first | exact .head _ | refine .tail _ ?_ | refine List.mem_append_right _ ?_)) ?_)) rfl trivial rfl ?_
  refine Tr.not rfl rfl rfl trivial rfl ?_
  refine Tr.nil ?_ (fun _ => rfl) (List.Perm.refl _)
  refine Wp.condF rfl ?_
  refine Wp.skip ?_
  refine Wp.seq ?_
  refine Wp.reg allGen ?_
  refine Tr.loadA tab rfl rfl rfl (by repeat (first | exact .head _ | refine .tail _ ?_ | refine List.mem_append_right _ ?_)) (by first | exact At.all _ | with_reducible assumption | assumption) (by first | with_reducible rfl | with_reducible assumption | with_reducible exact el_len _ | with_reducible exact bu_len _ | (simp; done) | (simp; omega) | exact el_len _ | (simp [bF_len]; done) | exact bu_len _ | rw [el_len, el_len] | rw [bu_len, bu_len] | rfl) rfl trivial rfl ?_
  refine Tr.loadA tab rfl rfl rfl (by repeat (first | exact .head _ | refine .tail _ ?_ | refine List.mem_append_right _ ?_)) (by first | exact At.all _ | with_reducible assumption | assumption) (by first | with_reducible rfl | with_reducible assumption | with_reducible exact el_len _ | with_reducible exact bu_len _ | (simp; done) | (simp; omega) | exact el_len _ | (simp [bF_len]; done) | exact bu_len _ | rw [el_len, el_len] | rw [bu_len, bu_len] | rfl) rfl trivial rfl ?_
  refine Tr.call rfl h93 (by repeat (first | exact Has.nil | refine Has.cons (by repeat (first | exact .head _ | refine .tail _ ?_ | refine List.mem_append_right _ ?_)) ?_)) rfl trivial rfl ?_
  refine Tr.alloc tab rfl rfl trivial rfl (fun B5 _ => ?_)
  refine Tr.storeA tab rfl rfl rfl (by repeat (first | exact .here | apply MU.there | apply MU.app)) (by first | with_reducible rfl | with_reducible assumption | with_reducible exact el_len _ | with_reducible exact bu_len _ | (simp; done) | (simp; omega) | exact el_len _ | (simp [bF_len]; done) | exact bu_len _ | rw [el_len, el_len] | rw [bu_len, bu_len] | rfl) (by first | with_reducible rfl | with_reducible assumption | with_reducible exact el_len _ | with_reducible exact bu_len _ | (simp; done) | (simp; omega) | exact el_len _ | (simp [bF_len]; done) | exact bu_len _ | rw [el_len, el_len] | rw [bu_len, bu_len] | rfl) (by first | with_reducible assumption | exact el_one _ | exact bu_one _ | rfl | (simp [Value.oneCell']; done)) trivial rfl ?_
  refine Tr.nil ?_ (fun _ => rfl) (List.Perm.refl _)
  refine Wp.seq ?_
  refine Wp.regE kindOf mo (by kernel_rfl) ?_
  refine Tr.loadA tab rfl rfl rfl (by repeat (first | exact .head _ | refine .tail _ ?_ | refine List.mem_append_right _ ?_)) (by first | exact At.all _ | with_reducible assumption | assumption) (by first | with_reducible rfl | with_reducible assumption | with_reducible exact el_len _ | with_reducible exact bu_len _ | (simp; done) | (simp; omega) | exact el_len _ | (simp [bF_len]; done) | exact bu_len _ | rw [el_len, el_len] | rw [bu_len, bu_len] | rfl) rfl trivial rfl ?_
  refine Tr.call rfl f91_one (by repeat (first | exact Has.nil | refine Has.cons (by repeat (first | exact .head _ | refine .tail _ ?_ | refine List.mem_append_right _ ?_)) ?_)) rfl trivial rfl ?_
  refine Tr.call rfl h90 (by repeat (first | exact Has.nil | refine Has.cons (by repeat (first | exact .head _ | refine .tail _ ?_ | refine List.mem_append_right _ ?_)) ?_)) rfl trivial rfl ?_
  refine Tr.call rfl f88_d (by repeat (first | exact Has.nil | refine Has.cons (by repeat (first | exact .head _ | refine .tail _ ?_ | refine List.mem_append_right _ ?_)) ?_)) rfl trivial rfl ?_
  refine Tr.loadA tab rfl rfl rfl (by repeat (first | exact .head _ | refine .tail _ ?_ | refine List.mem_append_right _ ?_)) (by first | exact At.all _ | with_reducible assumption | assumption) (by first | with_reducible rfl | with_reducible assumption | with_reducible exact el_len _ | with_reducible exact bu_len _ | (simp; done) | (simp; omega) | exact el_len _ | (simp [bF_len]; done) | exact bu_len _ | rw [el_len, el_len] | rw [bu_len, bu_len] | rfl) rfl trivial rfl ?_
  refine Tr.call rfl h93d (by repeat (first | exact Has.nil | refine Has.cons (by repeat (first | exact .head _ | refine .tail _ ?_ | refine List.mem_append_right _ ?_)) ?_)) rfl trivial rfl ?_
  refine Tr.call rfl f91_one (by repeat (first | exact Has.nil | refine Has.cons (by repeat (first | exact .head _ | refine .tail _ ?_ | refine List.mem_append_right _ ?_)) ?_)) rfl trivial rfl ?_
  refine Tr.call rfl h87 (by repeat (first | exact Has.nil | refine Has.cons (by repeat (first | exact .head _ | refine .tail _ ?_ | refine List.mem_append_right _ ?_)) ?_)) rfl trivial rfl ?_
  refine Tr.call rfl hz (by repeat (first | exact Has.nil | refine Has.cons (by repeat (first | exact .head _ | refine .tail _ ?_ | refine List.mem_append_right _ ?_)) ?_)) rfl trivial rfl ?_
  refine Tr.call rfl h93u (by repeat (first | exact Has.nil | refine Has.cons (by repeat (first | exact .head _ | refine .tail _ ?_ | refine List.mem_append_right _ ?_)) ?_)) rfl trivial rfl ?_
  refine Tr.call rfl hroot (by repeat (first | exact Has.nil | refine Has.cons (by repeat (first | exact .head _ | refine .tail _ ?_ | refine List.mem_append_right _ ?_)) ?_)) rfl trivial rfl ?_
  refine Tr.move rfl rfl trivial rfl ?_
  refine Tr.extract rfl rfl rfl trivial rfl ?_
  refine Tr.extract rfl rfl rfl trivial rfl ?_
  refine Tr.extract rfl rfl rfl trivial rfl ?_
  refine Tr.alloc tab rfl rfl trivial rfl (fun B6 _ => ?_)
  refine Tr.storeA tab rfl rfl rfl (by repeat (first | exact .here | apply MU.there | apply MU.app)) (by first | with_reducible rfl | with_reducible assumption | with_reducible exact el_len _ | with_reducible exact bu_len _ | (simp; done) | (simp; omega) | exact el_len _ | (simp [bF_len]; done) | exact bu_len _ | rw [el_len, el_len] | rw [bu_len, bu_len] | rfl) (by first | with_reducible rfl | with_reducible assumption | with_reducible exact el_len _ | with_reducible exact bu_len _ | (simp; done) | (simp; omega) | exact el_len _ | (simp [bF_len]; done) | exact bu_len _ | rw [el_len, el_len] | rw [bu_len, bu_len] | rfl) (by first | with_reducible assumption | exact el_one _ | exact bu_one _ | rfl | (simp [Value.oneCell']; done)) trivial rfl ?_
  refine Tr.assign rfl rfl trivial rfl ?_
  refine Tr.assign rfl rfl trivial rfl ?_
  refine Tr.nil ?_ (fun _ => rfl) (List.Perm.refl _)
  refine Wp.seq ?_
  refine Wp.seq ?_
  refine Wp.regE kindOf mo (by kernel_rfl) ?_
  refine Tr.move rfl rfl trivial rfl ?_
  refine Tr.not rfl rfl rfl trivial rfl ?_
  refine Tr.move rfl rfl trivial rfl ?_
  first | refine Tr.skp rfl ⟨_, _, rfl, rfl, by first | exact .inl rfl | exact .inr rfl⟩ ?_ | (refine Tr.skp rfl ⟨_, _, rfl, rfl, .inr rfl⟩ ?_)
  first | refine Tr.skp rfl ⟨_, _, rfl, rfl, by first | exact .inl rfl | exact .inr rfl⟩ ?_ | (refine Tr.skp rfl ⟨_, _, rfl, rfl, .inr rfl⟩ ?_)
  first | refine Tr.skp rfl ⟨_, _, rfl, rfl, by first | exact .inl rfl | exact .inr rfl⟩ ?_ | (refine Tr.skp rfl ⟨_, _, rfl, rfl, .inr rfl⟩ ?_)
  first | refine Tr.skp rfl ⟨_, _, rfl, rfl, by first | exact .inl rfl | exact .inr rfl⟩ ?_ | (refine Tr.skp rfl ⟨_, _, rfl, rfl, .inl rfl⟩ ?_)
  first | refine Tr.skp rfl ⟨_, _, rfl, rfl, by first | exact .inl rfl | exact .inr rfl⟩ ?_ | (refine Tr.skp rfl ⟨_, _, rfl, rfl, .inl rfl⟩ ?_)
  first | refine Tr.skp rfl ⟨_, _, rfl, rfl, by first | exact .inl rfl | exact .inr rfl⟩ ?_ | (refine Tr.skp rfl ⟨_, _, rfl, rfl, .inl rfl⟩ ?_)
  first | refine Tr.skp rfl ⟨_, _, rfl, rfl, by first | exact .inl rfl | exact .inr rfl⟩ ?_ | (refine Tr.skp rfl ⟨_, _, rfl, rfl, .inr rfl⟩ ?_)
  first | refine Tr.pickT rfl rfl rfl trivial rfl ?_ | refine Tr.pickF rfl rfl rfl trivial rfl ?_
  refine Tr.nil ?_ (fun _ => rfl) (List.Perm.refl _)
  refine Wp.condT rfl ?_
  refine Wp.seq ?_
  refine Wp.reg allGen ?_
  refine Tr.buildS (cs := List.replicate 64 (Value.int .u8 0)) (l := [(0, 32), (32, 32)]) tab rfl rfl rfl rfl (by rfl) rfl trivial rfl ?_
  refine Tr.storeA tab rfl rfl rfl (by repeat (first | exact .here | apply MU.there | apply MU.app)) (by first | with_reducible rfl | with_reducible assumption | with_reducible exact el_len _ | with_reducible exact bu_len _ | (simp; done) | (simp; omega) | exact el_len _ | (simp [bF_len]; done) | exact bu_len _ | rw [el_len, el_len] | rw [bu_len, bu_len] | rfl) (by first | with_reducible rfl | with_reducible assumption | with_reducible exact el_len _ | with_reducible exact bu_len _ | (simp; done) | (simp; omega) | exact el_len _ | (simp [bF_len]; done) | exact bu_len _ | rw [el_len, el_len] | rw [bu_len, bu_len] | rfl) (by first | with_reducible assumption | exact el_one _ | exact bu_one _ | rfl | (simp [Value.oneCell']; done)) trivial rfl ?_
  refine Tr.assign rfl rfl trivial rfl ?_
  refine Tr.nil ?_ (fun _ => rfl) (List.Perm.refl _)
  refine Wp.ret ?_
  exact ⟨.inr rfl, .r2 rfl (RvIs.cellA tab rfl rfl rfl (by repeat (first | exact .head _ | refine .tail _ ?_ | refine List.mem_append_right _ ?_)) (At.all _) rfl) (RvIs.tmp rfl)⟩

theorem f52_even (y zi u : F) (hLy : L = bF y) (hz : FnR Try.prog 94 [bv (dC * (y * y) + 1)] [] (bv zi)) (hu : (y * y - 1) * zi = u) (x : F) (hroot : FnR Try.prog 96 [bv u] [] (.tuple #[bv x, .bool true, i64 0])) (hodd : ((((l.getD 31 0) >>> UInt8.ofNat 7).toNat : Int) == 1) = false) : FnR Try.prog 52 [.agg (u8s l).toArray] [] (.tuple #[pv ⟨x, y⟩, i64 0]) := by
  have hlu : (u8s l).length = 32 := by simp [hl]
  have hLu : (u8s L).length = 32 := by simp [hL]
  have gb := at_get u8 (At.all (u8s l)) 0 (j := 31) (by omega) (k := 31) rfl
  rw [Nat.zero_add] at gb
  subst hLy
  have hbul := bu_len y
  have h93 := f93_mul y y
  have h90 := f90_sub (y * y) 1
  have h93d := f93_mul dC (y * y)
  have h87 := f87_add (dC * (y * y)) 1
  have h93u := f93_mul (y * y - 1) zi
  rw [hu] at h93u
  generalize l.getD 31 0 = b at *
  refine fnR_of 58 rfl Try.func52 rfl (by kernel_rfl) rfl (by simp) fun w => ?_
  refine Wp.seq ?_
  refine Wp.reg allGen ?_
  refine Tr.boxA rfl rfl trivial rfl (fun B1 _ => ?_)
  refine Tr.alloc tab rfl rfl trivial rfl (fun B2 _ => ?_)
  refine Tr.assign rfl rfl trivial rfl ?_
  refine Tr.nil ?_ (fun _ => rfl) (List.Perm.refl _)
  refine Wp.seq ?_
  refine Wp.reg allGen ?_
  first | refine Tr.indexAddr01 tab rfl rfl rfl rfl rfl (by omega) (by omega) rfl trivial rfl ?_ | refine Tr.indexAddr1 tab rfl rfl rfl rfl rfl (by omega) (by omega) rfl trivial rfl ?_
  refine Tr.loadS tab rfl rfl rfl (by repeat (first | exact .head _ | refine .tail _ ?_ | refine List.mem_append_right _ ?_)) gb rfl trivial rfl ?_
  refine Tr.shr rfl rfl (by omega) (by first | exact u8_shr _ 7 (by decide) | rfl) rfl trivial rfl ?_
  refine Tr.assign rfl rfl trivial rfl ?_
  refine Tr.nil ?_ (fun _ => rfl) (List.Perm.refl _)
  refine Wp.seq ?_
  refine Wp.reg allGen ?_
  first | refine Tr.indexAddr01 tab rfl rfl rfl rfl rfl (by omega) (by omega) rfl trivial rfl ?_ | refine Tr.indexAddr1 tab rfl rfl rfl rfl rfl (by omega) (by omega) rfl trivial rfl ?_
  refine Tr.loadS tab rfl rfl rfl (by repeat (first | exact .head _ | refine .tail _ ?_ | refine List.mem_append_right _ ?_)) gb rfl trivial rfl ?_
  refine Tr.band (b := ((127 : UInt8).toNat : Int)) rfl rfl (u8_and b 127) rfl trivial rfl ?_
  first | refine Tr.indexAddr01 tab rfl rfl rfl rfl rfl (by omega) (by omega) rfl trivial rfl ?_ | refine Tr.indexAddr1 tab rfl rfl rfl rfl rfl (by omega) (by omega) rfl trivial rfl ?_
  refine Tr.storeS tab rfl rfl rfl rfl (by repeat (first | exact .here | apply MU.there | apply MU.app)) (by rw [hlu]; decide) trivial rfl ?_
  rw [show ((31 : Int)).toNat = 31 from rfl, u8s_set, hset]
  refine Tr.nil ?_ (fun _ => rfl) (List.Perm.refl _)
  refine Wp.seq ?_
  refine Wp.seq ?_
  refine Wp.reg allGen ?_
  refine Tr.loadA tab rfl rfl rfl (by repeat (first | exact .head _ | refine .tail _ ?_ | refine List.mem_append_right _ ?_)) (by first | exact At.all _ | with_reducible assumption | assumption) (by first | with_reducible rfl | with_reducible assumption | with_reducible exact el_len _ | with_reducible exact bu_len _ | (simp; done) | (simp; omega) | exact el_len _ | (simp [bF_len]; done) | exact bu_len _ | rw [el_len, el_len] | rw [bu_len, bu_len] | rfl) rfl trivial rfl ?_
  refine Tr.call rfl (f92_el y) (by repeat (first | exact Has.nil | refine Has.cons (by repeat (first | exact .head _ | refine .tail _ ?_ | refine List.mem_append_right _ ?_)) ?_)) rfl trivial rfl ?_
  refine Tr.not rfl rfl rfl trivial rfl ?_
  refine Tr.nil ?_ (fun _ => rfl) (List.Perm.refl _)
  refine Wp.condF rfl ?_
  refine Wp.skip ?_
  refine Wp.seq ?_
  refine Wp.reg allGen ?_
  refine Tr.loadA tab rfl rfl rfl (by repeat (first | exact .head _ | refine .tail _ ?_ | refine List.mem_append_right _ ?_)) (by first | exact At.all _ | with_reducible assumption | assumption) (by first | with_reducible rfl | with_reducible assumption | with_reducible exact el_len _ | with_reducible exact bu_len _ | (simp; done) | (simp; omega) | exact el_len _ | (simp [bF_len]; done) | exact bu_len _ | rw [el_len, el_len] | rw [bu_len, bu_len] | rfl) rfl trivial rfl ?_
  refine Tr.loadA tab rfl rfl rfl (by repeat (first | exact .head _ | refine .tail _ ?_ | refine List.mem_append_right _ ?_)) (by first | exact At.all _ | with_reducible assumption | assumption) (by first | with_reducible rfl | with_reducible assumption | with_reducible exact el_len _ | with_reducible exact bu_len _ | (simp; done) | (simp; omega) | exact el_len _ | (simp [bF_len]; done) | exact bu_len _ | rw [el_len, el_len] | rw [bu_len, bu_len] | rfl) rfl trivial rfl ?_
  refine Tr.call rfl h93 (by repeat (first | exact Has.nil | refine Has.cons (by repeat (first | exact .head _ | refine .tail _ ?_ | refine List.mem_append_right _ ?_)) ?_)) rfl trivial rfl ?_
  refine Tr.alloc tab rfl rfl trivial rfl (fun B5 _ => ?_)
  refine Tr.storeA tab rfl rfl rfl (by repeat (first | exact .here | apply MU.there | apply MU.app)) (by first | with_reducible rfl | with_reducible assumption | with_reducible exact el_len _ | with_reducible exact bu_len _ | (simp; done) | (simp; omega) | exact el_len _ | (simp [bF_len]; done) | exact bu_len _ | rw [el_len, el_len] | rw [bu_len, bu_len] | rfl) (by first | with_reducible rfl | with_reducible assumption | with_reducible exact el_len _ | with_reducible exact bu_len _ | (simp; done) | (simp; omega) | exact el_len _ | (simp [bF_len]; done) | exact bu_len _ | rw [el_len, el_len] | rw [bu_len, bu_len] | rfl) (by first | with_reducible assumption | exact el_one _ | exact bu_one _ | rfl | (simp [Value.oneCell']; done)) trivial rfl ?_
  refine Tr.nil ?_ (fun _ => rfl) (List.Perm.refl _)
  refine Wp.seq ?_
  refine Wp.regE kindOf mo (by kernel_rfl) ?_
  refine Tr.loadA tab rfl rfl rfl (by repeat (first | exact .head _ | refine .tail _ ?_ | refine List.mem_append_right _ ?_)) (by first | exact At.all _ | with_reducible assumption | assumption) (by first | with_reducible rfl | with_reducible assumption | with_reducible exact el_len _ | with_reducible exact bu_len _ | (simp; done) | (simp; omega) | exact el_len _ | (simp [bF_len]; done) | exact bu_len _ | rw [el_len, el_len] | rw [bu_len, bu_len] | rfl) rfl trivial rfl ?_
  refine Tr.call rfl f91_one (by repeat (first | exact Has.nil | refine Has.cons (by repeat (first | exact .head _ | refine .tail _ ?_ | refine List.mem_append_right _ ?_)) ?_)) rfl trivial rfl ?_
  refine Tr.call rfl h90 (by repeat (first | exact Has.nil | refine Has.cons (by repeat (first | exact .head _ | refine .tail _ ?_ | refine List.mem_append_right _ ?_)) ?_)) rfl trivial rfl ?_
  refine Tr.call rfl f88_d (by repeat (first | exact Has.nil | refine Has.cons (by repeat (first | exact .head _ | refine .tail _ ?_ | refine List.mem_append_right _ ?_)) ?_)) rfl trivial rfl ?_
  refine Tr.loadA tab rfl rfl rfl (by repeat (first | exact .head _ | refine .tail _ ?_ | refine List.mem_append_right _ ?_)) (by first | exact At.all _ | with_reducible assumption | assumption) (by first | with_reducible rfl | with_reducible assumption | with_reducible exact el_len _ | with_reducible exact bu_len _ | (simp; done) | (simp; omega) | exact el_len _ | (simp [bF_len]; done) | exact bu_len _ | rw [el_len, el_len] | rw [bu_len, bu_len] | rfl) rfl trivial rfl ?_
  refine Tr.call rfl h93d (by repeat (first | exact Has.nil | refine Has.cons (by repeat (first | exact .head _ | refine .tail _ ?_ | refine List.mem_append_right _ ?_)) ?_)) rfl trivial rfl ?_
  refine Tr.call rfl f91_one (by repeat (first | exact Has.nil | refine Has.cons (by repeat (first | exact .head _ | refine .tail _ ?_ | refine List.mem_append_right _ ?_)) ?_)) rfl trivial rfl ?_
  refine Tr.call rfl h87 (by repeat (first | exact Has.nil | refine Has.cons (by repeat (first | exact .head _ | refine .tail _ ?_ | refine List.mem_append_right _ ?_)) ?_)) rfl trivial rfl ?_
  refine Tr.call rfl hz (by repeat (first | exact Has.nil | refine Has.cons (by repeat (first | exact .head _ | refine .tail _ ?_ | refine List.mem_append_right _ ?_)) ?_)) rfl trivial rfl ?_
  refine Tr.call rfl h93u (by repeat (first | exact Has.nil | refine Has.cons (by repeat (first | exact .head _ | refine .tail _ ?_ | refine List.mem_append_right _ ?_)) ?_)) rfl trivial rfl ?_
  refine Tr.call rfl hroot (by repeat (first | exact Has.nil | refine Has.cons (by repeat (first | exact .head _ | refine .tail _ ?_ | refine List.mem_append_right _ ?_)) ?_)) rfl trivial rfl ?_
  refine Tr.move rfl rfl trivial rfl ?_
  refine Tr.extract rfl rfl rfl trivial rfl ?_
  refine Tr.extract rfl rfl rfl trivial rfl ?_
  refine Tr.extract rfl rfl rfl trivial rfl ?_
  refine Tr.alloc tab rfl rfl trivial rfl (fun B6 _ => ?_)
  refine Tr.storeA tab rfl rfl rfl (by repeat (first | exact .here | apply MU.there | apply MU.app)) (by first | with_reducible rfl | with_reducible assumption | with_reducible exact el_len _ | with_reducible exact bu_len _ | (simp; done) | (simp; omega) | exact el_len _ | (simp [bF_len]; done) | exact bu_len _ | rw [el_len, el_len] | rw [bu_len, bu_len] | rfl) (by first | with_reducible rfl | with_reducible assumption | with_reducible exact el_len _ | with_reducible exact bu_len _ | (simp; done) | (simp; omega) | exact el_len _ | (simp [bF_len]; done) | exact bu_len _ | rw [el_len, el_len] | rw [bu_len, bu_len] | rfl) (by first | with_reducible assumption | exact el_one _ | exact bu_one _ | rfl | (simp [Value.oneCell']; done)) trivial rfl ?_
  refine Tr.assign rfl rfl trivial rfl ?_
  refine Tr.assign rfl rfl trivial rfl ?_
  refine Tr.nil ?_ (fun _ => rfl) (List.Perm.refl _)
  refine Wp.seq ?_
  refine Wp.seq ?_
  refine Wp.regE kindOf mo (by kernel_rfl) ?_
  refine Tr.move rfl rfl trivial rfl ?_
  refine Tr.not rfl rfl rfl trivial rfl ?_
  refine Tr.move rfl rfl trivial rfl ?_
  first | refine Tr.skp rfl ⟨_, _, rfl, rfl, by first | exact .inl rfl | exact .inr rfl⟩ ?_ | (refine Tr.move rfl rfl ⟨_, rfl, rfl⟩ rfl ?_)
  first | refine Tr.skp rfl ⟨_, _, rfl, rfl, by first | exact .inl rfl | exact .inr rfl⟩ ?_ | (refine Tr.eql rfl rfl hodd rfl ⟨_, rfl, rfl⟩ rfl ?_)
  first | refine Tr.skp rfl ⟨_, _, rfl, rfl, by first | exact .inl rfl | exact .inr rfl⟩ ?_ | (refine Tr.move rfl rfl ⟨_, rfl, rfl⟩ rfl ?_)
  first | refine Tr.skp rfl ⟨_, _, rfl, rfl, by first | exact .inl rfl | exact .inr rfl⟩ ?_ | (refine Tr.skp rfl ⟨_, _, rfl, rfl, .inr rfl⟩ ?_)
  first | refine Tr.skp rfl ⟨_, _, rfl, rfl, by first | exact .inl rfl | exact .inr rfl⟩ ?_ | (refine Tr.skp rfl ⟨_, _, rfl, rfl, .inr rfl⟩ ?_)
  first | refine Tr.skp rfl ⟨_, _, rfl, rfl, by first | exact .inl rfl | exact .inr rfl⟩ ?_ | (refine Tr.skp rfl ⟨_, _, rfl, rfl, .inr rfl⟩ ?_)
  first | refine Tr.skp rfl ⟨_, _, rfl, rfl, by first | exact .inl rfl | exact .inr rfl⟩ ?_ | (first | refine Tr.pickT rfl rfl rfl ⟨_, rfl, rfl⟩ rfl ?_ | refine Tr.pickF rfl rfl rfl ⟨_, rfl, rfl⟩ rfl ?_)
  first | refine Tr.pickT rfl rfl rfl trivial rfl ?_ | refine Tr.pickF rfl rfl rfl trivial rfl ?_
  refine Tr.nil ?_ (fun _ => rfl) (List.Perm.refl _)
  refine Wp.condF rfl ?_
  refine Wp.skip ?_
  refine Wp.seq ?_
  refine Wp.seq ?_
  refine Wp.reg allGen ?_
  refine Tr.move rfl rfl trivial rfl ?_
  refine Tr.eql rfl rfl hodd rfl trivial rfl ?_
  refine Tr.nil ?_ (fun _ => rfl) (List.Perm.refl _)
  refine Wp.condF rfl ?_
  refine Wp.skip ?_
  refine Wp.seq ?_
  refine Wp.reg allGen ?_
  refine Tr.loadA tab rfl rfl rfl (by repeat (first | exact .head _ | refine .tail _ ?_ | refine List.mem_append_right _ ?_)) (by first | exact At.all _ | with_reducible assumption | assumption) (by first | with_reducible rfl | with_reducible assumption | with_reducible exact el_len _ | with_reducible exact bu_len _ | (simp; done) | (simp; omega) | exact el_len _ | (simp [bF_len]; done) | exact bu_len _ | rw [el_len, el_len] | rw [bu_len, bu_len] | rfl) rfl trivial rfl ?_
  refine Tr.loadA tab rfl rfl rfl (by repeat (first | exact .head _ | refine .tail _ ?_ | refine List.mem_append_right _ ?_)) (by first | exact At.all _ | with_reducible assumption | assumption) (by first | with_reducible rfl | with_reducible assumption | with_reducible exact el_len _ | with_reducible exact bu_len _ | (simp; done) | (simp; omega) | exact el_len _ | (simp [bF_len]; done) | exact bu_len _ | rw [el_len, el_len] | rw [bu_len, bu_len] | rfl) rfl trivial rfl ?_
  refine Tr.buildS (l := [(0, 32), (32, 32)]) tab rfl rfl rfl rfl (fill_p (by first | exact bu_len _ | assumption) (by first | exact bu_len _ | assumption)) rfl trivial rfl ?_
  refine Tr.storeA tab rfl rfl rfl (by repeat (first | exact .here | apply MU.there | apply MU.app)) (by first | with_reducible rfl | with_reducible assumption | with_reducible exact el_len _ | with_reducible exact bu_len _ | (simp; done) | (simp; omega) | exact el_len _ | (simp [bF_len]; done) | exact bu_len _ | rw [el_len, el_len] | rw [bu_len, bu_len] | rfl) (by first | with_reducible rfl | with_reducible assumption | with_reducible exact el_len _ | with_reducible exact bu_len _ | (simp; done) | (simp; omega) | exact el_len _ | (simp [bF_len]; done) | exact bu_len _ | rw [el_len, el_len] | rw [bu_len, bu_len] | rfl) (by first | with_reducible assumption | exact el_one _ | exact bu_one _ | rfl | (simp [Value.oneCell']; done)) trivial rfl ?_
  refine Tr.assign rfl rfl trivial rfl ?_
  refine Tr.nil ?_ (fun _ => rfl) (List.Perm.refl _)
  refine Wp.ret ?_
  exact ⟨.inr rfl, .r2 rfl (RvIs.cellA tab rfl rfl rfl (by repeat (first | exact .head _ | refine .tail _ ?_ | refine List.mem_append_right _ ?_)) (At.all _) (pc_len ⟨x, y⟩)) (RvIs.tmp rfl)⟩

theorem f52_odd0 (y zi u : F) (hLy : L = bF y) (hz : FnR Try.prog 94 [bv (dC * (y * y) + 1)] [] (bv zi)) (hu : (y * y - 1) * zi = u) (x : F) (hroot : FnR Try.prog 96 [bv u] [] (.tuple #[bv x, .bool true, i64 0])) (hodd : ((((l.getD 31 0) >>> UInt8.ofNat 7).toNat : Int) == 1) = true) (hx : x = 0) : FnR Try.prog 52 [.agg (u8s l).toArray] [] (noPt) := by
  have hlu : (u8s l).length = 32 := by simp [hl]
  have hLu : (u8s L).length = 32 := by simp [hL]
  have gb := at_get u8 (At.all (u8s l)) 0 (j := 31) (by omega) (k := 31) rfl
  rw [Nat.zero_add] at gb
  subst hLy
  have hbul := bu_len y
  have h93 := f93_mul y y
  have h90 := f90_sub (y * y) 1
  have h93d := f93_mul dC (y * y)
  have h87 := f87_add (dC * (y * y)) 1
  have h93u := f93_mul (y * y - 1) zi
  rw [hu] at h93u
  generalize l.getD 31 0 = b at *
  refine fnR_of 58 rfl Try.func52 rfl (by kernel_rfl) rfl (by simp) fun w => ?_
  refine Wp.seq ?_
  refine Wp.reg allGen ?_
  refine Tr.boxA rfl rfl trivial rfl (fun B1 _ => ?_)
  refine Tr.alloc tab rfl rfl trivial rfl (fun B2 _ => ?_)
  refine Tr.assign rfl rfl trivial rfl ?_
  refine Tr.nil ?_ (fun _ => rfl) (List.Perm.refl _)
  refine Wp.seq ?_
  refine Wp.reg allGen ?_
  first | refine Tr.indexAddr01 tab rfl rfl rfl rfl rfl (by omega) (by omega) rfl trivial rfl ?_ | refine Tr.indexAddr1 tab rfl rfl rfl rfl rfl (by omega) (by omega) rfl trivial rfl ?_
  refine Tr.loadS tab rfl rfl rfl (by repeat (first | exact .head _ | refine .tail _ ?_ | refine List.mem_append_right _ ?_)) gb rfl trivial rfl ?_
  refine Tr.shr rfl rfl (by omega) (by first | exact u8_shr _ 7 (by decide) | rfl) rfl trivial rfl ?_
  refine Tr.assign rfl rfl trivial rfl ?_
  refine Tr.nil ?_ (fun _ => rfl) (List.Perm.refl _)
  refine Wp.seq ?_
  refine Wp.reg allGen ?_
  first | refine Tr.indexAddr01 tab rfl rfl rfl rfl rfl (by omega) (by omega) rfl trivial rfl ?_ | refine Tr.indexAddr1 tab rfl rfl rfl rfl rfl (by omega) (by omega) rfl trivial rfl ?_
  refine Tr.loadS tab rfl rfl rfl (by repeat (first | exact .head _ | refine .tail _ ?_ | refine List.mem_append_right _ ?_)) gb rfl trivial rfl ?_
  refine Tr.band (b := ((127 : UInt8).toNat : Int)) rfl rfl (u8_and b 127) rfl trivial rfl ?_
  first | refine Tr.indexAddr01 tab rfl rfl rfl rfl rfl (by omega) (by omega) rfl trivial rfl ?_ | refine Tr.indexAddr1 tab rfl rfl rfl rfl rfl (by omega) (by omega) rfl trivial rfl ?_
  refine Tr.storeS tab rfl rfl rfl rfl (by repeat (first | exact .here | apply MU.there | apply MU.app)) (by rw [hlu]; decide) trivial rfl ?_
  rw [show ((31 : Int)).toNat = 31 from rfl, u8s_set, hset]
  refine Tr.nil ?_ (fun _ => rfl) (List.Perm.refl _)
  refine Wp.seq ?_
  refine Wp.seq ?_
  refine Wp.reg allGen ?_
  refine Tr.loadA tab rfl rfl rfl (by repeat (first | exact .head _ | refine .tail _ ?_ | refine List.mem_append_right _ ?_)) (by first | exact At.all _ | with_reducible assumption | assumption) (by first | with_reducible rfl | with_reducible assumption | with_reducible exact el_len _ | with_reducible exact bu_len _ | (simp; done) | (simp; omega) | exact el_len _ | (simp [bF_len]; done) | exact bu_len _ | rw [el_len, el_len] | rw [bu_len, bu_len] | rfl) rfl trivial rfl ?_
  refine Tr.call rfl (f92_el y) (by repeat (first | exact Has.nil | refine Has.cons (by repeat (first | exact .head _ | refine .tail _ ?_ | refine List.mem_append_right _ ?_)) ?_)) rfl trivial rfl ?_
  refine Tr.not rfl rfl rfl trivial rfl ?_
  refine Tr.nil ?_ (fun _ => rfl) (List.Perm.refl _)
  refine Wp.condF rfl ?_
  refine Wp.skip ?_
  refine Wp.seq ?_
  refine Wp.reg allGen ?_
  refine Tr.loadA tab rfl rfl rfl (by repeat (first | exact .head _ | refine .tail _ ?_ | refine List.mem_append_right _ ?_)) (by first | exact At.all _ | with_reducible assumption | assumption) (by first | with_reducible rfl | with_reducible assumption | with_reducible exact el_len _ | with_reducible exact bu_len _ | (simp; done) | (simp; omega) | exact el_len _ | (simp [bF_len]; done) | exact bu_len _ | rw [el_len, el_len] | rw [bu_len, bu_len] | rfl) rfl trivial rfl ?_
  refine Tr.loadA tab rfl rfl rfl (by repeat (first | exact .head _ | refine .tail _ ?_ | refine List.mem_append_right _ ?_)) (by first | exact At.all _ | with_reducible assumption | assumption) (by first | with_reducible rfl | with_reducible assumption | with_reducible exact el_len _ | with_reducible exact bu_len _ | (simp; done) | (simp; omega) | exact el_len _ | (simp [bF_len]; done) | exact bu_len _ | rw [el_len, el_len] | rw [bu_len, bu_len] | rfl) rfl trivial rfl ?_
  refine Tr.call rfl h93 (by repeat (first | exact Has.nil | refine Has.cons (by repeat (first | exact .head _ | refine .tail _ ?_ | refine List.mem_append_right _ ?_)) ?_)) rfl trivial rfl ?_
  refine Tr.alloc tab rfl rfl trivial rfl (fun B5 _ => ?_)
  refine Tr.storeA tab rfl rfl rfl (by repeat (first | exact .here | apply MU.there | apply MU.app)) (by first | with_reducible rfl | with_reducible assumption | with_reducible exact el_len _ | with_reducible exact bu_len _ | (simp; done) | (simp; omega) | exact el_len _ | (simp [bF_len]; done) | exact bu_len _ | rw [el_len, el_len] | rw [bu_len, bu_len] | rfl) (by first | with_reducible rfl | with_reducible assumption | with_reducible exact el_len _ | with_reducible exact bu_len _ | (simp; done) | (simp; omega) | exact el_len _ | (simp [bF_len]; done) | exact bu_len _ | rw [el_len, el_len] | rw [bu_len, bu_len] | rfl) (by first | with_reducible assumption | exact el_one _ | exact bu_one _ | rfl | (simp [Value.oneCell']; done)) trivial rfl ?_
  refine Tr.nil ?_ (fun _ => rfl) (List.Perm.refl _)
  refine Wp.seq ?_
  refine Wp.regE kindOf mo (by kernel_rfl) ?_
  refine Tr.loadA tab rfl rfl rfl (by repeat (first | exact .head _ | refine .tail _ ?_ | refine List.mem_append_right _ ?_)) (by first | exact At.all _ | with_reducible assumption | assumption) (by first | with_reducible rfl | with_reducible assumption | with_reducible exact el_len _ | with_reducible exact bu_len _ | (simp; done) | (simp; omega) | exact el_len _ | (simp [bF_len]; done) | exact bu_len _ | rw [el_len, el_len] | rw [bu_len, bu_len] | rfl) rfl trivial rfl ?_
  refine Tr.call rfl f91_one (by repeat (first | exact Has.nil | refine Has.cons (by repeat (first | exact .head _ | refine .tail _ ?_ | refine List.mem_append_right _ ?_)) ?_)) rfl trivial rfl ?_
  refine Tr.call rfl h90 (by repeat (first | exact Has.nil | refine Has.cons (by repeat (first | exact .head _ | refine .tail _ ?_ | refine List.mem_append_right _ ?_)) ?_)) rfl trivial rfl ?_
  refine Tr.call rfl f88_d (by repeat (first | exact Has.nil | refine Has.cons (by repeat (first | exact .head _ | refine .tail _ ?_ | refine List.mem_append_right _ ?_)) ?_)) rfl trivial rfl ?_
  refine Tr.loadA tab rfl rfl rfl (by repeat (first | exact .head _ | refine .tail _ ?_ | refine List.mem_append_right _ ?_)) (by first | exact At.all _ | with_reducible assumption | assumption) (by first | with_reducible rfl | with_reducible assumption | with_reducible exact el_len _ | with_reducible exact bu_len _ | (simp; done) | (simp; omega) | exact el_len _ | (simp [bF_len]; done) | exact bu_len _ | rw [el_len, el_len] | rw [bu_len, bu_len] | rfl) rfl trivial rfl ?_
  refine Tr.call rfl h93d (by repeat (first | exact Has.nil | refine Has.cons (by repeat (first | exact .head _ | refine .tail _ ?_ | refine List.mem_append_right _ ?_)) ?_)) rfl trivial rfl ?_
  refine Tr.call rfl f91_one (by repeat (first | exact Has.nil | refine Has.cons (by repeat (first | exact .head _ | refine .tail _ ?_ | refine List.mem_append_right _ ?_)) ?_)) rfl trivial rfl ?_
  refine Tr.call rfl h87 (by repeat (first | exact Has.nil | refine Has.cons (by repeat (first | exact .head _ | refine .tail _ ?_ | refine List.mem_append_right _ ?_)) ?_)) rfl trivial rfl ?_
  refine Tr.call rfl hz (by repeat (first | exact Has.nil | refine Has.cons (by repeat (first | exact .head _ | refine .tail _ ?_ | refine List.mem_append_right _ ?_)) ?_)) rfl trivial rfl ?_
  refine Tr.call rfl h93u (by repeat (first | exact Has.nil | refine Has.cons (by repeat (first | exact .head _ | refine .tail _ ?_ | refine List.mem_append_right _ ?_)) ?_)) rfl trivial rfl ?_
  refine Tr.call rfl hroot (by repeat (first | exact Has.nil | refine Has.cons (by repeat (first | exact .head _ | refine .tail _ ?_ | refine List.mem_append_right _ ?_)) ?_)) rfl trivial rfl ?_
  refine Tr.move rfl rfl trivial rfl ?_
  refine Tr.extract rfl rfl rfl trivial rfl ?_
  refine Tr.extract rfl rfl rfl trivial rfl ?_
  refine Tr.extract rfl rfl rfl trivial rfl ?_
  refine Tr.alloc tab rfl rfl trivial rfl (fun B6 _ => ?_)
  refine Tr.storeA tab rfl rfl rfl (by repeat (first | exact .here | apply MU.there | apply MU.app)) (by first | with_reducible rfl | with_reducible assumption | with_reducible exact el_len _ | with_reducible exact bu_len _ | (simp; done) | (simp; omega) | exact el_len _ | (simp [bF_len]; done) | exact bu_len _ | rw [el_len, el_len] | rw [bu_len, bu_len] | rfl) (by first | with_reducible rfl | with_reducible assumption | with_reducible exact el_len _ | with_reducible exact bu_len _ | (simp; done) | (simp; omega) | exact el_len _ | (simp [bF_len]; done) | exact bu_len _ | rw [el_len, el_len] | rw [bu_len, bu_len] | rfl) (by first | with_reducible assumption | exact el_one _ | exact bu_one _ | rfl | (simp [Value.oneCell']; done)) trivial rfl ?_
  refine Tr.assign rfl rfl trivial rfl ?_
  refine Tr.assign rfl rfl trivial rfl ?_
  refine Tr.nil ?_ (fun _ => rfl) (List.Perm.refl _)
  refine Wp.seq ?_
  refine Wp.seq ?_
  refine Wp.regE kindOf mo (by kernel_rfl) ?_
  refine Tr.move rfl rfl trivial rfl ?_
  refine Tr.not rfl rfl rfl trivial rfl ?_
  refine Tr.move rfl rfl trivial rfl ?_
  first | refine Tr.skp rfl ⟨_, _, rfl, rfl, by first | exact .inl rfl | exact .inr rfl⟩ ?_ | (refine Tr.move rfl rfl ⟨_, rfl, rfl⟩ rfl ?_)
  first | refine Tr.skp rfl ⟨_, _, rfl, rfl, by first | exact .inl rfl | exact .inr rfl⟩ ?_ | (refine Tr.eql rfl rfl hodd rfl ⟨_, rfl, rfl⟩ rfl ?_)
  first | refine Tr.skp rfl ⟨_, _, rfl, rfl, by first | exact .inl rfl | exact .inr rfl⟩ ?_ | (refine Tr.move rfl rfl ⟨_, rfl, rfl⟩ rfl ?_)
  first | refine Tr.skp rfl ⟨_, _, rfl, rfl, by first | exact .inl rfl | exact .inr rfl⟩ ?_ | (refine Tr.loadA tab rfl rfl rfl (by repeat (first | exact .head _ | refine .tail _ ?_ | refine List.mem_append_right _ ?_)) (At.all _) (bu_len x) rfl ⟨_, rfl, rfl⟩ rfl ?_)
  first | refine Tr.skp rfl ⟨_, _, rfl, rfl, by first | exact .inl rfl | exact .inr rfl⟩ ?_ | (refine Tr.call rfl f91_zero (by repeat (first | exact Has.nil | refine Has.cons (by repeat (first | exact .head _ | refine .tail _ ?_ | refine List.mem_append_right _ ?_)) ?_)) rfl ⟨_, rfl, rfl⟩ rfl ?_)
  first | refine Tr.skp rfl ⟨_, _, rfl, rfl, by first | exact .inl rfl | exact .inr rfl⟩ ?_ | (refine Tr.eql8 (l := bF x) (m := bF 0) (r := true) tab rfl rfl rfl rfl rfl rfl rfl (bF_len _) (bF_len _) (by kernel_rfl) (decide_eq_true (by rw [hx])) rfl ⟨_, rfl, rfl⟩ rfl ?_)
  first | refine Tr.skp rfl ⟨_, _, rfl, rfl, by first | exact .inl rfl | exact .inr rfl⟩ ?_ | (first | refine Tr.pickT rfl rfl rfl ⟨_, rfl, rfl⟩ rfl ?_ | refine Tr.pickF rfl rfl rfl ⟨_, rfl, rfl⟩ rfl ?_)
  first | refine Tr.pickT rfl rfl rfl trivial rfl ?_ | refine Tr.pickF rfl rfl rfl trivial rfl ?_
  refine Tr.nil ?_ (fun _ => rfl) (List.Perm.refl _)
  refine Wp.condT rfl ?_
  refine Wp.seq ?_
  refine Wp.reg allGen ?_
  refine Tr.buildS (cs := List.replicate 64 (Value.int .u8 0)) (l := [(0, 32), (32, 32)]) tab rfl rfl rfl rfl (by rfl) rfl trivial rfl ?_
  refine Tr.storeA tab rfl rfl rfl (by repeat (first | exact .here | apply MU.there | apply MU.app)) (by first | with_reducible rfl | with_reducible assumption | with_reducible exact el_len _ | with_reducible exact bu_len _ | (simp; done) | (simp; omega) | exact el_len _ | (simp [bF_len]; done) | exact bu_len _ | rw [el_len, el_len] | rw [bu_len, bu_len] | rfl) (by first | with_reducible rfl | with_reducible assumption | with_reducible exact el_len _ | with_reducible exact bu_len _ | (simp; done) | (simp; omega) | exact el_len _ | (simp [bF_len]; done) | exact bu_len _ | rw [el_len, el_len] | rw [bu_len, bu_len] | rfl) (by first | with_reducible assumption | exact el_one _ | exact bu_one _ | rfl | (simp [Value.oneCell']; done)) trivial rfl ?_
  refine Tr.assign rfl rfl trivial rfl ?_
  refine Tr.nil ?_ (fun _ => rfl) (List.Perm.refl _)
  refine Wp.ret ?_
  exact ⟨.inr rfl, .r2 rfl (RvIs.cellA tab rfl rfl rfl (by repeat (first | exact .head _ | refine .tail _ ?_ | refine List.mem_append_right _ ?_)) (At.all _) rfl) (RvIs.tmp rfl)⟩

theorem f52_odd (y zi u : F) (hLy : L = bF y) (hz : FnR Try.prog 94 [bv (dC * (y * y) + 1)] [] (bv zi)) (hu : (y * y - 1) * zi = u) (x : F) (hroot : FnR Try.prog 96 [bv u] [] (.tuple #[bv x, .bool true, i64 0])) (hodd : ((((l.getD 31 0) >>> UInt8.ofNat 7).toNat : Int) == 1) = true) (hx : x ≠ 0) (hneg : FnR Try.prog 90 [bv 0, bv x] [] (bv (-x))) : FnR Try.prog 52 [.agg (u8s l).toArray] [] (.tuple #[pv ⟨-x, y⟩, i64 0]) := by
  have hlu : (u8s l).length = 32 := by simp [hl]
  have hLu : (u8s L).length = 32 := by simp [hL]
  have gb := at_get u8 (At.all (u8s l)) 0 (j := 31) (by omega) (k := 31) rfl
  rw [Nat.zero_add] at gb
  subst hLy
  have hbul := bu_len y
  have h93 := f93_mul y y
  have h90 := f90_sub (y * y) 1
  have h93d := f93_mul dC (y * y)
  have h87 := f87_add (dC * (y * y)) 1
  have h93u := f93_mul (y * y - 1) zi
  rw [hu] at h93u
  generalize l.getD 31 0 = b at *
  refine fnR_of 58 rfl Try.func52 rfl (by kernel_rfl) rfl (by simp) fun w => ?_
  refine Wp.seq ?_
  refine Wp.reg allGen ?_
  refine Tr.boxA rfl rfl trivial rfl (fun B1 _ => ?_)
  refine Tr.alloc tab rfl rfl trivial rfl (fun B2 _ => ?_)
  refine Tr.assign rfl rfl trivial rfl ?_
  refine Tr.nil ?_ (fun _ => rfl) (List.Perm.refl _)
  refine Wp.seq ?_
  refine Wp.reg allGen ?_
  first | refine Tr.indexAddr01 tab rfl rfl rfl rfl rfl (by omega) (by omega) rfl trivial rfl ?_ | refine Tr.indexAddr1 tab rfl rfl rfl rfl rfl (by omega) (by omega) rfl trivial rfl ?_
  refine Tr.loadS tab rfl rfl rfl (by repeat (first | exact .head _ | refine .tail _ ?_ | refine List.mem_append_right _ ?_)) gb rfl trivial rfl ?_
  refine Tr.shr rfl rfl (by omega) (by first | exact u8_shr _ 7 (by decide) | rfl) rfl trivial rfl ?_
  refine Tr.assign rfl rfl trivial rfl ?_
  refine Tr.nil ?_ (fun _ => rfl) (List.Perm.refl _)
  refine Wp.seq ?_
  refine Wp.reg allGen ?_
  first | refine Tr.indexAddr01 tab rfl rfl rfl rfl rfl (by omega) (by omega) rfl trivial rfl ?_ | refine Tr.indexAddr1 tab rfl rfl rfl rfl rfl (by omega) (by omega) rfl trivial rfl ?_
  refine Tr.loadS tab rfl rfl rfl (by repeat (first | exact .head _ | refine .tail _ ?_ | refine List.mem_append_right _ ?_)) gb rfl trivial rfl ?_
  refine Tr.band (b := ((127 : UInt8).toNat : Int)) rfl rfl (u8_and b 127) rfl trivial rfl ?_
  first | refine Tr.indexAddr01 tab rfl rfl rfl rfl rfl (by omega) (by omega) rfl trivial rfl ?_ | refine Tr.indexAddr1 tab rfl rfl rfl rfl rfl (by omega) (by omega) rfl trivial rfl ?_
  refine Tr.storeS tab rfl rfl rfl rfl (by repeat (first | exact .here | apply MU.there | apply MU.app)) (by rw [hlu]; decide) trivial rfl ?_
  rw [show ((31 : Int)).toNat = 31 from rfl, u8s_set, hset]
  refine Tr.nil ?_ (fun _ => rfl) (List.Perm.refl _)
  refine Wp.seq ?_
  refine Wp.seq ?_
  refine Wp.reg allGen ?_
  refine Tr.loadA tab rfl rfl rfl (by repeat (first | exact .head _ | refine .tail _ ?_ | refine List.mem_append_right _ ?_)) (by first | exact At.all _ | with_reducible assumption | assumption) (by first | with_reducible rfl | with_reducible assumption | with_reducible exact el_len _ | with_reducible exact bu_len _ | (simp; done) | (simp; omega) | exact el_len _ | (simp [bF_len]; done) | exact bu_len _ | rw [el_len, el_len] | rw [bu_len, bu_len] | rfl) rfl trivial rfl ?_
  refine Tr.call rfl (f92_el y) (by repeat (first | exact Has.nil | refine Has.cons (by repeat (first | exact .head _ | refine .tail _ ?_ | refine List.mem_append_right _ ?_)) ?_)) rfl trivial rfl ?_
  refine Tr.not rfl rfl rfl trivial rfl ?_
  refine Tr.nil ?_ (fun _ => rfl) (List.Perm.refl _)
  refine Wp.condF rfl ?_
  refine Wp.skip ?_
  refine Wp.seq ?_
  refine Wp.reg allGen ?_
  refine Tr.loadA tab rfl rfl rfl (by repeat (first | exact .head _ | refine .tail _ ?_ | refine List.mem_append_right _ ?_)) (by first | exact At.all _ | with_reducible assumption | assumption) (by first | with_reducible rfl | with_reducible assumption | with_reducible exact el_len _ | with_reducible exact bu_len _ | (simp; done) | (simp; omega) | exact el_len _ | (simp [bF_len]; done) | exact bu_len _ | rw [el_len, el_len] | rw [bu_len, bu_len] | rfl) rfl trivial rfl ?_
  refine Tr.loadA tab rfl rfl rfl (by repeat (first | exact .head _ | refine .tail _ ?_ | refine List.mem_append_right _ ?_)) (by first | exact At.all _ | with_reducible assumption | assumption) (by first | with_reducible rfl | with_reducible assumption | with_reducible exact el_len _ | with_reducible exact bu_len _ | (simp; done) | (simp; omega) | exact el_len _ | (simp [bF_len]; done) | exact bu_len _ | rw [el_len, el_len] | rw [bu_len, bu_len] | rfl) rfl trivial rfl ?_
  refine Tr.call rfl h93 (by repeat (first | exact Has.nil | refine Has.cons (by repeat (first | exact .head _ | refine .tail _ ?_ | refine List.mem_append_right _ ?_)) ?_)) rfl trivial rfl ?_
  refine Tr.alloc tab rfl rfl trivial rfl (fun B5 _ => ?_)
  refine Tr.storeA tab rfl rfl rfl (by repeat (first | exact .here | apply MU.there | apply MU.app)) (by first | with_reducible rfl | with_reducible assumption | with_reducible exact el_len _ | with_reducible exact bu_len _ | (simp; done) | (simp; omega) | exact el_len _ | (simp [bF_len]; done) | exact bu_len _ | rw [el_len, el_len] | rw [bu_len, bu_len] | rfl) (by first | with_reducible rfl | with_reducible assumption | with_reducible exact el_len _ | with_reducible exact bu_len _ | (simp; done) | (simp; omega) | exact el_len _ | (simp [bF_len]; done) | exact bu_len _ | rw [el_len, el_len] | rw [bu_len, bu_len] | rfl) (by first | with_reducible assumption | exact el_one _ | exact bu_one _ | rfl | (simp [Value.oneCell']; done)) trivial rfl ?_
  refine Tr.nil ?_ (fun _ => rfl) (List.Perm.refl _)
  refine Wp.seq ?_
  refine Wp.regE kindOf mo (by kernel_rfl) ?_
  refine Tr.loadA tab rfl rfl rfl (by repeat (first | exact .head _ | refine .tail _ ?_ | refine List.mem_append_right _ ?_)) (by first | exact At.all _ | with_reducible assumption | assumption) (by first | with_reducible rfl | with_reducible assumption | with_reducible exact el_len _ | with_reducible exact bu_len _ | (simp; done) | (simp; omega) | exact el_len _ | (simp [bF_len]; done) | exact bu_len _ | rw [el_len, el_len] | rw [bu_len, bu_len] | rfl) rfl trivial rfl ?_
  refine Tr.call rfl f91_one (by repeat (first | exact Has.nil | refine Has.cons (by repeat (first | exact .head _ | refine .tail _ ?_ | refine List.mem_append_right _ ?_)) ?_)) rfl trivial rfl ?_
  refine Tr.call rfl h90 (by repeat (first | exact Has.nil | refine Has.cons (by repeat (first | exact .head _ | refine .tail _ ?_ | refine List.mem_append_right _ ?_)) ?_)) rfl trivial rfl ?_
  refine Tr.call rfl f88_d (by repeat (first | exact Has.nil | refine Has.cons (by repeat (first | exact .head _ | refine .tail _ ?_ | refine List.mem_append_right _ ?_)) ?_)) rfl trivial rfl ?_
  refine Tr.loadA tab rfl rfl rfl (by repeat (first | exact .head _ | refine .tail _ ?_ | refine List.mem_append_right _ ?_)) (by first | exact At.all _ | with_reducible assumption | assumption) (by first | with_reducible rfl | with_reducible assumption | with_reducible exact el_len _ | with_reducible exact bu_len _ | (simp; done) | (simp; omega) | exact el_len _ | (simp [bF_len]; done) | exact bu_len _ | rw [el_len, el_len] | rw [bu_len, bu_len] | rfl) rfl trivial rfl ?_
  refine Tr.call rfl h93d (by repeat (first | exact Has.nil | refine Has.cons (by repeat (first | exact .head _ | refine .tail _ ?_ | refine List.mem_append_right _ ?_)) ?_)) rfl trivial rfl ?_
  refine Tr.call rfl f91_one (by repeat (first | exact Has.nil | refine Has.cons (by repeat (first | exact .head _ | refine .tail _ ?_ | refine List.mem_append_right _ ?_)) ?_)) rfl trivial rfl ?_
  refine Tr.call rfl h87 (by repeat (first | exact Has.nil | refine Has.cons (by repeat (first | exact .head _ | refine .tail _ ?_ | refine List.mem_append_right _ ?_)) ?_)) rfl trivial rfl ?_
  refine Tr.call rfl hz (by repeat (first | exact Has.nil | refine Has.cons (by repeat (first | exact .head _ | refine .tail _ ?_ | refine List.mem_append_right _ ?_)) ?_)) rfl trivial rfl ?_
  refine Tr.call rfl h93u (by repeat (first | exact Has.nil | refine Has.cons (by repeat (first | exact .head _ | refine .tail _ ?_ | refine List.mem_append_right _ ?_)) ?_)) rfl trivial rfl ?_
  refine Tr.call rfl hroot (by repeat (first | exact Has.nil | refine Has.cons (by repeat (first | exact .head _ | refine .tail _ ?_ | refine List.mem_append_right _ ?_)) ?_)) rfl trivial rfl ?_
  refine Tr.move rfl rfl trivial rfl ?_
  refine Tr.extract rfl rfl rfl trivial rfl ?_
  refine Tr.extract rfl rfl rfl trivial rfl ?_
  refine Tr.extract rfl rfl rfl trivial rfl ?_
  refine Tr.alloc tab rfl rfl trivial rfl (fun B6 _ => ?_)
  refine Tr.storeA tab rfl rfl rfl (by repeat (first | exact .here | apply MU.there | apply MU.app)) (by first | with_reducible rfl | with_reducible assumption | with_reducible exact el_len _ | with_reducible exact bu_len _ | (simp; done) | (simp; omega) | exact el_len _ | (simp [bF_len]; done) | exact bu_len _ | rw [el_len, el_len] | rw [bu_len, bu_len] | rfl) (by first | with_reducible rfl | with_reducible assumption | with_reducible exact el_len _ | with_reducible exact bu_len _ | (simp; done) | (simp; omega) | exact el_len _ | (simp [bF_len]; done) | exact bu_len _ | rw [el_len, el_len] | rw [bu_len, bu_len] | rfl) (by first | with_reducible assumption | exact el_one _ | exact bu_one _ | rfl | (simp [Value.oneCell']; done)) trivial rfl ?_
  refine Tr.assign rfl rfl trivial rfl ?_
  refine Tr.assign rfl rfl trivial rfl ?_
  refine Tr.nil ?_ (fun _ => rfl) (List.Perm.refl _)
  refine Wp.seq ?_
  refine Wp.seq ?_
  refine Wp.regE kindOf mo (by kernel_rfl) ?_
  refine Tr.move rfl rfl trivial rfl ?_
  refine Tr.not rfl rfl rfl trivial rfl ?_
  refine Tr.move rfl rfl trivial rfl ?_
  first | refine Tr.skp rfl ⟨_, _, rfl, rfl, by first | exact .inl rfl | exact .inr rfl⟩ ?_ | (refine Tr.move rfl rfl ⟨_, rfl, rfl⟩ rfl ?_)
  first | refine Tr.skp rfl ⟨_, _, rfl, rfl, by first | exact .inl rfl | exact .inr rfl⟩ ?_ | (refine Tr.eql rfl rfl hodd rfl ⟨_, rfl, rfl⟩ rfl ?_)
  first | refine Tr.skp rfl ⟨_, _, rfl, rfl, by first | exact .inl rfl | exact .inr rfl⟩ ?_ | (refine Tr.move rfl rfl ⟨_, rfl, rfl⟩ rfl ?_)
  first | refine Tr.skp rfl ⟨_, _, rfl, rfl, by first | exact .inl rfl | exact .inr rfl⟩ ?_ | (refine Tr.loadA tab rfl rfl rfl (by repeat (first | exact .head _ | refine .tail _ ?_ | refine List.mem_append_right _ ?_)) (At.all _) (bu_len x) rfl ⟨_, rfl, rfl⟩ rfl ?_)
  first | refine Tr.skp rfl ⟨_, _, rfl, rfl, by first | exact .inl rfl | exact .inr rfl⟩ ?_ | (refine Tr.call rfl f91_zero (by repeat (first | exact Has.nil | refine Has.cons (by repeat (first | exact .head _ | refine .tail _ ?_ | refine List.mem_append_right _ ?_)) ?_)) rfl ⟨_, rfl, rfl⟩ rfl ?_)
  first | refine Tr.skp rfl ⟨_, _, rfl, rfl, by first | exact .inl rfl | exact .inr rfl⟩ ?_ | (refine Tr.eql8 (l := bF x) (m := bF 0) (r := false) tab rfl rfl rfl rfl rfl rfl rfl (bF_len _) (bF_len _) (by kernel_rfl) (decide_eq_false fun e => hx (bF_inj e)) rfl ⟨_, rfl, rfl⟩ rfl ?_)
  first | refine Tr.skp rfl ⟨_, _, rfl, rfl, by first | exact .inl rfl | exact .inr rfl⟩ ?_ | (first | refine Tr.pickT rfl rfl rfl ⟨_, rfl, rfl⟩ rfl ?_ | refine Tr.pickF rfl rfl rfl ⟨_, rfl, rfl⟩ rfl ?_)
  first | refine Tr.pickT rfl rfl rfl trivial rfl ?_ | refine Tr.pickF rfl rfl rfl trivial rfl ?_
  refine Tr.nil ?_ (fun _ => rfl) (List.Perm.refl _)
  refine Wp.condF rfl ?_
  refine Wp.skip ?_
  refine Wp.seq ?_
  refine Wp.seq ?_
  refine Wp.reg allGen ?_
  refine Tr.move rfl rfl trivial rfl ?_
  refine Tr.eql rfl rfl hodd rfl trivial rfl ?_
  refine Tr.nil ?_ (fun _ => rfl) (List.Perm.refl _)
  refine Wp.condT rfl ?_
  refine Wp.regE kindOf mo (by kernel_rfl) ?_
  refine Tr.call rfl f91_zero (by repeat (first | exact Has.nil | refine Has.cons (by repeat (first | exact .head _ | refine .tail _ ?_ | refine List.mem_append_right _ ?_)) ?_)) rfl trivial rfl ?_
  refine Tr.loadA tab rfl rfl rfl (by repeat (first | exact .head _ | refine .tail _ ?_ | refine List.mem_append_right _ ?_)) (by first | exact At.all _ | with_reducible assumption | assumption) (by first | with_reducible rfl | with_reducible assumption | with_reducible exact el_len _ | with_reducible exact bu_len _ | (simp; done) | (simp; omega) | exact el_len _ | (simp [bF_len]; done) | exact bu_len _ | rw [el_len, el_len] | rw [bu_len, bu_len] | rfl) rfl trivial rfl ?_
  refine Tr.call rfl hneg (by repeat (first | exact Has.nil | refine Has.cons (by repeat (first | exact .head _ | refine .tail _ ?_ | refine List.mem_append_right _ ?_)) ?_)) rfl trivial rfl ?_
  refine Tr.storeA tab rfl rfl rfl (by repeat (first | exact .here | apply MU.there | apply MU.app)) (by first | with_reducible rfl | with_reducible assumption | with_reducible exact el_len _ | with_reducible exact bu_len _ | (simp; done) | (simp; omega) | exact el_len _ | (simp [bF_len]; done) | exact bu_len _ | rw [el_len, el_len] | rw [bu_len, bu_len] | rfl) (by first | with_reducible rfl | with_reducible assumption | with_reducible exact el_len _ | with_reducible exact bu_len _ | (simp; done) | (simp; omega) | exact el_len _ | (simp [bF_len]; done) | exact bu_len _ | rw [el_len, el_len] | rw [bu_len, bu_len] | rfl) (by first | with_reducible assumption | exact el_one _ | exact bu_one _ | rfl | (simp [Value.oneCell']; done)) trivial rfl ?_
  refine Tr.nil ?_ (fun _ => rfl) (List.Perm.refl _)
  refine Wp.seq ?_
  refine Wp.reg allGen ?_
  refine Tr.loadA tab rfl rfl rfl (by repeat (first | exact .head _ | refine .tail _ ?_ | refine List.mem_append_right _ ?_)) (by first | exact At.all _ | with_reducible assumption | assumption) (by first | with_reducible rfl | with_reducible assumption | with_reducible exact el_len _ | with_reducible exact bu_len _ | (simp; done) | (simp; omega) | exact el_len _ | (simp [bF_len]; done) | exact bu_len _ | rw [el_len, el_len] | rw [bu_len, bu_len] | rfl) rfl trivial rfl ?_
  refine Tr.loadA tab rfl rfl rfl (by repeat (first | exact .head _ | refine .tail _ ?_ | refine List.mem_append_right _ ?_)) (by first | exact At.all _ | with_reducible assumption | assumption) (by first | with_reducible rfl | with_reducible assumption | with_reducible exact el_len _ | with_reducible exact bu_len _ | (simp; done) | (simp; omega) | exact el_len _ | (simp [bF_len]; done) | exact bu_len _ | rw [el_len, el_len] | rw [bu_len, bu_len] | rfl) rfl trivial rfl ?_
  refine Tr.buildS (l := [(0, 32), (32, 32)]) tab rfl rfl rfl rfl (fill_p (by first | exact bu_len _ | assumption) (by first | exact bu_len _ | assumption)) rfl trivial rfl ?_
  refine Tr.storeA tab rfl rfl rfl (by repeat (first | exact .here | apply MU.there | apply MU.app)) (by first | with_reducible rfl | with_reducible assumption | with_reducible exact el_len _ | with_reducible exact bu_len _ | (simp; done) | (simp; omega) | exact el_len _ | (simp [bF_len]; done) | exact bu_len _ | rw [el_len, el_len] | rw [bu_len, bu_len] | rfl) (by first | with_reducible rfl | with_reducible assumption | with_reducible exact el_len _ | with_reducible exact bu_len _ | (simp; done) | (simp; omega) | exact el_len _ | (simp [bF_len]; done) | exact bu_len _ | rw [el_len, el_len] | rw [bu_len, bu_len] | rfl) (by first | with_reducible assumption | exact el_one _ | exact bu_one _ | rfl | (simp [Value.oneCell']; done)) trivial rfl ?_
  refine Tr.assign rfl rfl trivial rfl ?_
  refine Tr.nil ?_ (fun _ => rfl) (List.Perm.refl _)
  refine Wp.ret ?_
  exact ⟨.inr rfl, .r2 rfl (RvIs.cellA tab rfl rfl rfl (by repeat (first | exact .head _ | refine .tail _ ?_ | refine List.mem_append_right _ ?_)) (At.all _) (pc_len ⟨-x, y⟩)) (RvIs.tmp rfl)⟩
end

theorem f52_core (l : List UInt8) (hl : l.length = 32) (L : List UInt8) (hL : L.length = 32) (hset : l.set 31 (l.getD 31 0 &&& 127) = L) (y zi u : F) (hLy : L = bF y) (hz : FnR Try.prog 94 [bv (dC * (y * y) + 1)] [] (bv zi)) (hu : (y * y - 1) * zi = u)
    (o : Option F) (hs : ∀ x, o = some x → FnR Try.prog 96 [bv u] [] (.tuple #[bv x, .bool true, i64 0])) (hn : o = none → FnR Try.prog 96 [bv u] [] (.tuple #[bv 0, .bool false, i64 0])) (odd : Bool) (hodd : ((((l.getD 31 0) >>> UInt8.ofNat 7).toNat : Int) == 1) = odd) :
    FnR Try.prog 52 [.agg (u8s l).toArray] [] (match (selS o odd).map (fun x => (⟨x, y⟩ : Pt)) with | some p => .tuple #[pv p, i64 0] | none => noPt) := by
  cases o with
  | none => exact f52_none l hl L hL hset y zi u hLy hz hu (hn rfl)
  | some x =>
    cases odd with
    | false => exact f52_even l hl L hL hset y zi u hLy hz hu x (hs x rfl) hodd
    | true =>
      by_cases hx : x = 0
      · have e : selS (some x) true = none := by simp only [selS]; rw [if_pos hx]
        rw [e]
        exact f52_odd0 l hl L hL hset y zi u hLy hz hu x (hs x rfl) hodd hx
      · have e : selS (some x) true = some (-x) := by simp only [selS]; rw [if_neg hx]
        rw [e]
        have hneg := f90_sub 0 x
        rw [show (0 : F) - x = -x by grobner] at hneg
        exact f52_odd l hl L hL hset y zi u hLy hz hu x (hs x rfl) hodd hx hneg

theorem uOf_is (y : F) : (y * y - 1) * finv (dC * (y * y) + 1) = uOf y := by unfold uOf; rfl
theorem unpackS_is (y : F) (odd : Bool) : unpackS y odd = (selS (rootS (uOf y)) odd).map (fun x => (⟨x, y⟩ : Pt)) := by unfold unpackS; rfl

theorem told_odd (l : List UInt8) (hl : l.length = 32) : ((((l.getD 31 0) >>> UInt8.ofNat 7).toNat : Int) == 1) = (n8 l / 57896044618658097711785492504343953926634992332820282019728792003956564819968 == 1) := by
  rw [top_bit l hl]
  generalize n8 l / 57896044618658097711785492504343953926634992332820282019728792003956564819968 = q
  by_cases h : q = 1
  · subst h; rfl
  · rw [beq_eq_false_iff_ne.2 h, beq_eq_false_iff_ne.2 (by omega)]

theorem f52_good (l : List UInt8) (hl : l.length = 32) (y : F) (hLy : l.set 31 (l.getD 31 0 &&& 127) = bF y) (odd : Bool) (hodd : ((((l.getD 31 0) >>> UInt8.ofNat 7).toNat : Int) == 1) = odd) :
    FnR Try.prog 52 [.agg (u8s l).toArray] [] (match unpackS y odd with | some p => .tuple #[pv p, i64 0] | none => noPt) := by
  rw [unpackS_is]
  exact f52_core l hl _ (by rw [hLy]; exact bF_len y) rfl y _ _ hLy (f94_inv _) (uOf_is y) (rootS (uOf y)) (fun x h => f96_some _ h) (fun h => f96_none _ h) odd hodd

theorem f52_unpack (l : List UInt8) (hl : l.length = 32) : FnR Try.prog 52 [.agg (u8s l).toArray] [] (match toldB l with | some p => .tuple #[pv p, i64 0] | none => noPt) := by
  have hn := low_bits l hl
  have hlen : (l.set 31 (l.getD 31 0 &&& 127)).length = 32 := by simp [hl]
  by_cases hb : n8 l % 57896044618658097711785492504343953926634992332820282019728792003956564819968 < P
  · have e : toldB l = unpackS (mkF (n8 l % 57896044618658097711785492504343953926634992332820282019728792003956564819968)) (n8 l / 57896044618658097711785492504343953926634992332820282019728792003956564819968 == 1) := by
      unfold toldB; rw [if_pos hb]
    rw [e]
    refine f52_good l hl _ ?_ _ (told_odd l hl)
    have := bF_of _ hlen (by rw [hn]; exact hb)
    rw [this, hn]
  · have e : toldB l = none := by unfold toldB; rw [if_neg hb]
    rw [e]
    exact f52_bad l hl _ hlen rfl (by rw [hn]; exact hb)

/-! ### Base -/
theorem base_packs : packB baseP = bF (4 * finv 5) := by
  unfold packB bF
  rw [base_even, ← base_y, Nat.mul_zero, Nat.add_zero]

theorem f45_base : FnR Try.prog 45 [] [] (pv baseP) := by
  have h := f52_unpack (bF (4 * finv 5)) (bF_len _)
  rw [← base_packs, toldB_of base_on, base_packs] at h
  have h4 := f91_num 4 (by decide)
  have h5 := f91_num 5 (by decide)
  have hi := f94_inv (mkF 5)
  have hm := f93_mul (mkF 4) (finv (mkF 5))
  have e : mkF 4 * finv (mkF 5) = 4 * finv 5 := rfl
  rw [e] at hm
  generalize 4 * finv 5 = m at *
  generalize finv (mkF 5) = z at *
  generalize baseP = B at *
  refine fnR_of 12 rfl Try.func45 rfl (by kernel_rfl) rfl (by simp) fun w => ?_
  refine Wp.seq ?_
  refine Wp.reg allGen ?_
  refine Tr.alloc tab rfl rfl trivial rfl (fun B0 _ => ?_)
  refine Tr.nil ?_ (fun _ => rfl) (List.Perm.refl _)
  refine Wp.seq ?_
  refine Wp.reg allGen ?_
  refine Tr.call rfl h4 (by repeat (first | exact Has.nil | refine Has.cons (by repeat (first | exact .head _ | refine .tail _ ?_ | refine List.mem_append_right _ ?_)) ?_)) rfl trivial rfl ?_
  refine Tr.call rfl h5 (by repeat (first | exact Has.nil | refine Has.cons (by repeat (first | exact .head _ | refine .tail _ ?_ | refine List.mem_append_right _ ?_)) ?_)) rfl trivial rfl ?_
  refine Tr.call rfl hi (by repeat (first | exact Has.nil | refine Has.cons (by repeat (first | exact .head _ | refine .tail _ ?_ | refine List.mem_append_right _ ?_)) ?_)) rfl trivial rfl ?_
  refine Tr.call rfl hm (by repeat (first | exact Has.nil | refine Has.cons (by repeat (first | exact .head _ | refine .tail _ ?_ | refine List.mem_append_right _ ?_)) ?_)) rfl trivial rfl ?_
  refine Tr.call rfl h (by repeat (first | exact Has.nil | refine Has.cons (by repeat (first | exact .head _ | refine .tail _ ?_ | refine List.mem_append_right _ ?_)) ?_)) rfl trivial rfl ?_
  refine Tr.move rfl rfl trivial rfl ?_
  refine Tr.extract rfl rfl rfl trivial rfl ?_
  refine Tr.extract rfl rfl rfl trivial rfl ?_
  refine Tr.alloc tab rfl rfl trivial rfl (fun B1 _ => ?_)
  refine Tr.storeA tab rfl rfl rfl (by repeat (first | exact .here | apply MU.there | apply MU.app)) (by exact pc_len B) (by exact pc_len B) (pc_one B) trivial rfl ?_
  refine Tr.assign rfl rfl trivial rfl ?_
  refine Tr.nil ?_ (fun _ => rfl) (List.Perm.refl _)
  refine Wp.seq ?_
  refine Wp.reg allGen ?_
  refine Tr.loadA tab rfl rfl rfl (by repeat (first | exact .head _ | refine .tail _ ?_ | refine List.mem_append_right _ ?_)) (At.all _) (pc_len B) rfl trivial rfl ?_
  refine Tr.storeA tab rfl rfl rfl (by repeat (first | exact .here | apply MU.there | apply MU.app)) (by exact pc_len B) (by exact pc_len B) (pc_one B) trivial rfl ?_
  refine Tr.nil ?_ (fun _ => rfl) (List.Perm.refl _)
  refine Wp.ret ?_
  exact ⟨.inr rfl, .r1 rfl (RvIs.cellA tab rfl rfl rfl (by repeat (first | exact .head _ | refine .tail _ ?_ | refine List.mem_append_right _ ?_)) (At.all _) (pc_len B))⟩
end Go.Proofs.Ytffghaeaohabhaa.AW
