import Derived.Test.YtffghaeaohabhaaC2
namespace Go.Proofs.Ytffghaeaohabhaa.AW
open Go NT
set_option maxRecDepth 100000


theorem at_64 (C D : List Value) (h : C.length = 64) : At (C ++ D) 64 D := ⟨C, [], by simp, h⟩

theorem f84_two (C D : List Value) (hC : C.length = 64) (hD : D.length = 64) (r s : Bool) (hOn : FnR Try.prog 44 [.agg C.toArray] [] (.bool r)) (hOn2 : FnR Try.prog 44 [.agg D.toArray] [] (.bool s)) (b cp : Nat) (h1 : C.all Value.oneCell' = true) (h2 : D.all Value.oneCell' = true) :
    FnR Try.prog 84 [.slice (some ⟨b, 0, none⟩) 2 cp] [⟨b, C ++ D, false⟩] (i64 (if (r && s) = true then 0 else 170)) := by
  cases r with
  | true =>
    cases s with
    | true =>
      refine fnR_of 15 rfl Try.func84 rfl (by kernel_rfl) rfl (by simp) fun w => ?_
      refine Wp.seq ?_
      refine Wp.reg allGen ?_
      refine Tr.assign rfl rfl trivial rfl ?_
      refine Tr.nil ?_ (fun _ => rfl) (List.Perm.refl _)
      refine Wp.seq ?_
      refine Wp.seq ?_
      refine Wp.reg allGen ?_
      refine Tr.move rfl rfl trivial rfl ?_
      refine Tr.lenS tab rfl rfl rfl rfl trivial rfl ?_
      refine Tr.move rfl rfl trivial rfl ?_
      refine Tr.nil ?_ (fun _ => rfl) (List.Perm.refl _)
      refine Wp.block ?_
      refine Wp.loopL ?_
      refine WpL.step ?_
      refine Wp.seq ?_
      refine Wp.reg allGen ?_
      refine Tr.lss rfl rfl (by first | with_reducible assumption | exact decide_eq_true (by omega) | exact decide_eq_false (by omega) | exact beq_iff_eq.2 (by omega) | exact beq_eq_false_iff_ne.2 (by omega) | exact bne_iff_ne.2 (by omega) | rfl) rfl trivial rfl ?_
      refine Tr.nil ?_ (fun _ => rfl) (List.Perm.refl _)
      refine Wp.seq ?_
      refine Wp.condT rfl ?_
      refine Wp.skip ?_
      refine Wp.seq ?_
      refine Wp.block ?_
      refine Wp.seq ?_
      refine Wp.reg allGen ?_
      first | refine Tr.indexAddrS tab rfl rfl rfl rfl rfl (by omega) (by omega) rfl trivial rfl ?_
      first | refine Tr.loadA (cs := C) tab rfl rfl rfl (by repeat (first | exact .head _ | refine .tail _ ?_ | refine List.mem_append_right _ ?_)) (at_p0 _ _) hC rfl trivial rfl ?_ | refine Tr.loadA (cs := D) tab rfl rfl rfl (by repeat (first | exact .head _ | refine .tail _ ?_ | refine List.mem_append_right _ ?_)) (at_64 _ _ hC) hD rfl trivial rfl ?_
      refine Tr.alloc tab rfl rfl trivial rfl (fun B4 _ => ?_)
      refine Tr.storeA tab rfl rfl rfl (by repeat (first | exact .here | apply MU.there | apply MU.app)) (by exact hC) (by exact hC) h1 trivial rfl ?_
      refine Tr.nil ?_ (fun _ => rfl) (List.Perm.refl _)
      refine Wp.seq ?_
      refine Wp.reg allGen ?_
      first | refine Tr.loadA (cs := C) tab rfl rfl rfl (by repeat (first | exact .head _ | refine .tail _ ?_ | refine List.mem_append_right _ ?_)) (At.all _) hC rfl trivial rfl ?_ | refine Tr.loadA (cs := D) tab rfl rfl rfl (by repeat (first | exact .head _ | refine .tail _ ?_ | refine List.mem_append_right _ ?_)) (At.all _) hD rfl trivial rfl ?_
      refine Tr.call rfl hOn (by repeat (first | exact Has.nil | refine Has.cons (by repeat (first | exact .head _ | refine .tail _ ?_ | refine List.mem_append_right _ ?_)) ?_)) rfl trivial rfl ?_
      refine Tr.not rfl rfl rfl trivial rfl ?_
      refine Tr.nil ?_ (fun _ => rfl) (List.Perm.refl _)
      refine Wp.condF rfl ?_
      refine Wp.skip ?_
      refine Wp.reg allGen ?_
      refine Tr.add rfl rfl (by first | exact wrap_i64 (by omega) (by omega) | rfl) rfl trivial rfl ?_
      refine Tr.move rfl rfl trivial rfl ?_
      refine Tr.nil ?_ (fun _ => rfl) (List.Perm.refl _)
      refine WpL.step ?_
      refine Wp.seq ?_
      refine Wp.reg allGen ?_
      refine Tr.lss rfl rfl (by first | with_reducible assumption | exact decide_eq_true (by omega) | exact decide_eq_false (by omega) | exact beq_iff_eq.2 (by omega) | exact beq_eq_false_iff_ne.2 (by omega) | exact bne_iff_ne.2 (by omega) | rfl) rfl trivial rfl ?_
      refine Tr.nil ?_ (fun _ => rfl) (List.Perm.refl _)
      refine Wp.seq ?_
      refine Wp.condT rfl ?_
      refine Wp.skip ?_
      refine Wp.seq ?_
      refine Wp.block ?_
      refine Wp.seq ?_
      refine Wp.reg allGen ?_
      first | refine Tr.indexAddrS tab rfl rfl rfl rfl rfl (by omega) (by omega) rfl trivial rfl ?_
      first | refine Tr.loadA (cs := C) tab rfl rfl rfl (by repeat (first | exact .head _ | refine .tail _ ?_ | refine List.mem_append_right _ ?_)) (at_p0 _ _) hC rfl trivial rfl ?_ | refine Tr.loadA (cs := D) tab rfl rfl rfl (by repeat (first | exact .head _ | refine .tail _ ?_ | refine List.mem_append_right _ ?_)) (at_64 _ _ hC) hD rfl trivial rfl ?_
      refine Tr.alloc tab rfl rfl trivial rfl (fun B4 _ => ?_)
      refine Tr.storeA tab rfl rfl rfl (by repeat (first | exact .here | apply MU.there | apply MU.app)) (by exact hD) (by exact hD) h2 trivial rfl ?_
      refine Tr.nil ?_ (fun _ => rfl) (List.Perm.refl _)
      refine Wp.seq ?_
      refine Wp.reg allGen ?_
      first | refine Tr.loadA (cs := C) tab rfl rfl rfl (by repeat (first | exact .head _ | refine .tail _ ?_ | refine List.mem_append_right _ ?_)) (At.all _) hC rfl trivial rfl ?_ | refine Tr.loadA (cs := D) tab rfl rfl rfl (by repeat (first | exact .head _ | refine .tail _ ?_ | refine List.mem_append_right _ ?_)) (At.all _) hD rfl trivial rfl ?_
      refine Tr.call rfl hOn2 (by repeat (first | exact Has.nil | refine Has.cons (by repeat (first | exact .head _ | refine .tail _ ?_ | refine List.mem_append_right _ ?_)) ?_)) rfl trivial rfl ?_
      refine Tr.not rfl rfl rfl trivial rfl ?_
      refine Tr.nil ?_ (fun _ => rfl) (List.Perm.refl _)
      refine Wp.condF rfl ?_
      refine Wp.skip ?_
      refine Wp.reg allGen ?_
      refine Tr.add rfl rfl (by first | exact wrap_i64 (by omega) (by omega) | rfl) rfl trivial rfl ?_
      refine Tr.move rfl rfl trivial rfl ?_
      refine Tr.nil ?_ (fun _ => rfl) (List.Perm.refl _)
      refine WpL.step ?_
      refine Wp.seq ?_
      refine Wp.reg allGen ?_
      refine Tr.lss rfl rfl (by first | with_reducible assumption | exact decide_eq_true (by omega) | exact decide_eq_false (by omega) | exact beq_iff_eq.2 (by omega) | exact beq_eq_false_iff_ne.2 (by omega) | exact bne_iff_ne.2 (by omega) | rfl) rfl trivial rfl ?_
      refine Tr.nil ?_ (fun _ => rfl) (List.Perm.refl _)
      refine Wp.seq ?_
      refine Wp.condF rfl ?_
      refine Wp.exit ?_
      refine Wp.seq ?_
      refine Wp.reg allGen ?_
      refine Tr.assign rfl rfl trivial rfl ?_
      refine Tr.nil ?_ (fun _ => rfl) (List.Perm.refl _)
      refine Wp.ret ?_
      refine ⟨by first | exact .inl rfl | exact .inr rfl, ?_⟩
      exact .r1 rfl (RvIs.tmp rfl)
    | false =>
      refine fnR_of 15 rfl Try.func84 rfl (by kernel_rfl) rfl (by simp) fun w => ?_
      refine Wp.seq ?_
      refine Wp.reg allGen ?_
      refine Tr.assign rfl rfl trivial rfl ?_
      refine Tr.nil ?_ (fun _ => rfl) (List.Perm.refl _)
      refine Wp.seq ?_
      refine Wp.seq ?_
      refine Wp.reg allGen ?_
      refine Tr.move rfl rfl trivial rfl ?_
      refine Tr.lenS tab rfl rfl rfl rfl trivial rfl ?_
      refine Tr.move rfl rfl trivial rfl ?_
      refine Tr.nil ?_ (fun _ => rfl) (List.Perm.refl _)
      refine Wp.block ?_
      refine Wp.loopL ?_
      refine WpL.step ?_
      refine Wp.seq ?_
      refine Wp.reg allGen ?_
      refine Tr.lss rfl rfl (by first | with_reducible assumption | exact decide_eq_true (by omega) | exact decide_eq_false (by omega) | exact beq_iff_eq.2 (by omega) | exact beq_eq_false_iff_ne.2 (by omega) | exact bne_iff_ne.2 (by omega) | rfl) rfl trivial rfl ?_
      refine Tr.nil ?_ (fun _ => rfl) (List.Perm.refl _)
      refine Wp.seq ?_
      refine Wp.condT rfl ?_
      refine Wp.skip ?_
      refine Wp.seq ?_
      refine Wp.block ?_
      refine Wp.seq ?_
      refine Wp.reg allGen ?_
      first | refine Tr.indexAddrS tab rfl rfl rfl rfl rfl (by omega) (by omega) rfl trivial rfl ?_
      first | refine Tr.loadA (cs := C) tab rfl rfl rfl (by repeat (first | exact .head _ | refine .tail _ ?_ | refine List.mem_append_right _ ?_)) (at_p0 _ _) hC rfl trivial rfl ?_ | refine Tr.loadA (cs := D) tab rfl rfl rfl (by repeat (first | exact .head _ | refine .tail _ ?_ | refine List.mem_append_right _ ?_)) (at_64 _ _ hC) hD rfl trivial rfl ?_
      refine Tr.alloc tab rfl rfl trivial rfl (fun B4 _ => ?_)
      refine Tr.storeA tab rfl rfl rfl (by repeat (first | exact .here | apply MU.there | apply MU.app)) (by exact hC) (by exact hC) h1 trivial rfl ?_
      refine Tr.nil ?_ (fun _ => rfl) (List.Perm.refl _)
      refine Wp.seq ?_
      refine Wp.reg allGen ?_
      first | refine Tr.loadA (cs := C) tab rfl rfl rfl (by repeat (first | exact .head _ | refine .tail _ ?_ | refine List.mem_append_right _ ?_)) (At.all _) hC rfl trivial rfl ?_ | refine Tr.loadA (cs := D) tab rfl rfl rfl (by repeat (first | exact .head _ | refine .tail _ ?_ | refine List.mem_append_right _ ?_)) (At.all _) hD rfl trivial rfl ?_
      refine Tr.call rfl hOn (by repeat (first | exact Has.nil | refine Has.cons (by repeat (first | exact .head _ | refine .tail _ ?_ | refine List.mem_append_right _ ?_)) ?_)) rfl trivial rfl ?_
      refine Tr.not rfl rfl rfl trivial rfl ?_
      refine Tr.nil ?_ (fun _ => rfl) (List.Perm.refl _)
      refine Wp.condF rfl ?_
      refine Wp.skip ?_
      refine Wp.reg allGen ?_
      refine Tr.add rfl rfl (by first | exact wrap_i64 (by omega) (by omega) | rfl) rfl trivial rfl ?_
      refine Tr.move rfl rfl trivial rfl ?_
      refine Tr.nil ?_ (fun _ => rfl) (List.Perm.refl _)
      refine WpL.step ?_
      refine Wp.seq ?_
      refine Wp.reg allGen ?_
      refine Tr.lss rfl rfl (by first | with_reducible assumption | exact decide_eq_true (by omega) | exact decide_eq_false (by omega) | exact beq_iff_eq.2 (by omega) | exact beq_eq_false_iff_ne.2 (by omega) | exact bne_iff_ne.2 (by omega) | rfl) rfl trivial rfl ?_
      refine Tr.nil ?_ (fun _ => rfl) (List.Perm.refl _)
      refine Wp.seq ?_
      refine Wp.condT rfl ?_
      refine Wp.skip ?_
      refine Wp.seq ?_
      refine Wp.block ?_
      refine Wp.seq ?_
      refine Wp.reg allGen ?_
      first | refine Tr.indexAddrS tab rfl rfl rfl rfl rfl (by omega) (by omega) rfl trivial rfl ?_
      first | refine Tr.loadA (cs := C) tab rfl rfl rfl (by repeat (first | exact .head _ | refine .tail _ ?_ | refine List.mem_append_right _ ?_)) (at_p0 _ _) hC rfl trivial rfl ?_ | refine Tr.loadA (cs := D) tab rfl rfl rfl (by repeat (first | exact .head _ | refine .tail _ ?_ | refine List.mem_append_right _ ?_)) (at_64 _ _ hC) hD rfl trivial rfl ?_
      refine Tr.alloc tab rfl rfl trivial rfl (fun B4 _ => ?_)
      refine Tr.storeA tab rfl rfl rfl (by repeat (first | exact .here | apply MU.there | apply MU.app)) (by exact hD) (by exact hD) h2 trivial rfl ?_
      refine Tr.nil ?_ (fun _ => rfl) (List.Perm.refl _)
      refine Wp.seq ?_
      refine Wp.reg allGen ?_
      first | refine Tr.loadA (cs := C) tab rfl rfl rfl (by repeat (first | exact .head _ | refine .tail _ ?_ | refine List.mem_append_right _ ?_)) (At.all _) hC rfl trivial rfl ?_ | refine Tr.loadA (cs := D) tab rfl rfl rfl (by repeat (first | exact .head _ | refine .tail _ ?_ | refine List.mem_append_right _ ?_)) (At.all _) hD rfl trivial rfl ?_
      refine Tr.call rfl hOn2 (by repeat (first | exact Has.nil | refine Has.cons (by repeat (first | exact .head _ | refine .tail _ ?_ | refine List.mem_append_right _ ?_)) ?_)) rfl trivial rfl ?_
      refine Tr.not rfl rfl rfl trivial rfl ?_
      refine Tr.nil ?_ (fun _ => rfl) (List.Perm.refl _)
      refine Wp.condT rfl ?_
      refine Wp.seq ?_
      refine Wp.reg allGen ?_
      refine Tr.assign rfl rfl trivial rfl ?_
      refine Tr.nil ?_ (fun _ => rfl) (List.Perm.refl _)
      refine Wp.ret ?_
      refine ⟨by first | exact .inl rfl | exact .inr rfl, ?_⟩
      exact .r1 rfl (RvIs.tmp rfl)
  | false =>
    refine fnR_of 15 rfl Try.func84 rfl (by kernel_rfl) rfl (by simp) fun w => ?_
    refine Wp.seq ?_
    refine Wp.reg allGen ?_
    refine Tr.assign rfl rfl trivial rfl ?_
    refine Tr.nil ?_ (fun _ => rfl) (List.Perm.refl _)
    refine Wp.seq ?_
    refine Wp.seq ?_
    refine Wp.reg allGen ?_
    refine Tr.move rfl rfl trivial rfl ?_
    refine Tr.lenS tab rfl rfl rfl rfl trivial rfl ?_
    refine Tr.move rfl rfl trivial rfl ?_
    refine Tr.nil ?_ (fun _ => rfl) (List.Perm.refl _)
    refine Wp.block ?_
    refine Wp.loopL ?_
    refine WpL.step ?_
    refine Wp.seq ?_
    refine Wp.reg allGen ?_
    refine Tr.lss rfl rfl (by first | with_reducible assumption | exact decide_eq_true (by omega) | exact decide_eq_false (by omega) | exact beq_iff_eq.2 (by omega) | exact beq_eq_false_iff_ne.2 (by omega) | exact bne_iff_ne.2 (by omega) | rfl) rfl trivial rfl ?_
    refine Tr.nil ?_ (fun _ => rfl) (List.Perm.refl _)
    refine Wp.seq ?_
    refine Wp.condT rfl ?_
    refine Wp.skip ?_
    refine Wp.seq ?_
    refine Wp.block ?_
    refine Wp.seq ?_
    refine Wp.reg allGen ?_
    first | refine Tr.indexAddrS tab rfl rfl rfl rfl rfl (by omega) (by omega) rfl trivial rfl ?_
    refine Tr.loadA (cs := C) tab rfl rfl rfl (by repeat (first | exact .head _ | refine .tail _ ?_ | refine List.mem_append_right _ ?_)) (at_p0 _ _) hC rfl trivial rfl ?_
    refine Tr.alloc tab rfl rfl trivial rfl (fun B4 _ => ?_)
    refine Tr.storeA tab rfl rfl rfl (by repeat (first | exact .here | apply MU.there | apply MU.app)) (by exact hC) (by exact hC) h1 trivial rfl ?_
    refine Tr.nil ?_ (fun _ => rfl) (List.Perm.refl _)
    refine Wp.seq ?_
    refine Wp.reg allGen ?_
    refine Tr.loadA tab rfl rfl rfl (by repeat (first | exact .head _ | refine .tail _ ?_ | refine List.mem_append_right _ ?_)) (At.all _) hC rfl trivial rfl ?_
    refine Tr.call rfl hOn (by repeat (first | exact Has.nil | refine Has.cons (by repeat (first | exact .head _ | refine .tail _ ?_ | refine List.mem_append_right _ ?_)) ?_)) rfl trivial rfl ?_
    refine Tr.not rfl rfl rfl trivial rfl ?_
    refine Tr.nil ?_ (fun _ => rfl) (List.Perm.refl _)
    refine Wp.condT rfl ?_
    refine Wp.seq ?_
    refine Wp.reg allGen ?_
    refine Tr.assign rfl rfl trivial rfl ?_
    refine Tr.nil ?_ (fun _ => rfl) (List.Perm.refl _)
    refine Wp.ret ?_
    refine ⟨by first | exact .inl rfl | exact .inr rfl, ?_⟩
    exact .r1 rfl (RvIs.tmp rfl)

/-! ### a slice of points, made -/
theorem zrep_len (E : List Value) (n : Nat) : (zrep E n).length = n * E.length := by simp [zrep]
theorem fill_s1 {C : List Value} (hC : C.length = 64) : fillC (fun i => some (i * 64, 64)) (zrep (List.replicate 64 (Value.int .u8 0)) 1) [(0, .agg C.toArray)] = some C := by
  have hz := zrep_len (List.replicate 64 (Value.int .u8 0)) 1
  generalize zrep (List.replicate 64 (Value.int .u8 0)) 1 = Z at *
  simp only [List.length_replicate] at hz
  have hs : splice Z 0 C = C := splice_all (by omega)
  simp [fillC, vcells, Value.cells, hC, hz, hs]
theorem fill_s2 {C D : List Value} (hC : C.length = 64) (hD : D.length = 64) : fillC (fun i => some (i * 64, 64)) (zrep (List.replicate 64 (Value.int .u8 0)) 2) [(0, .agg C.toArray), (1, .agg D.toArray)] = some (C ++ D) := by
  have hz := zrep_len (List.replicate 64 (Value.int .u8 0)) 2
  generalize zrep (List.replicate 64 (Value.int .u8 0)) 2 = Z at *
  simp only [List.length_replicate] at hz
  have hd : Z.drop 128 = [] := List.drop_of_length_le (by omega)
  simp [fillC, vcells, Value.cells, hC, hD, hz, splice, List.drop_append, List.take_append, hd]

theorem f50_zero : FnR Try.prog 50 [] [] (pv .zero) := by
  have hz : pc .zero = List.replicate 32 (Value.int .u8 0) ++ u8s (bF 1) := by
    show u8s (bF 0) ++ u8s (bF 1) = _
    rw [bF_zero, zero8]
  show FnR _ _ _ _ (.agg (pc .zero).toArray)
  rw [hz]
  refine fnR_of 3 rfl Try.func50 rfl (by kernel_rfl) rfl (by simp) fun w => ?_
  refine Wp.seq ?_
  refine Wp.reg allGen ?_
  refine Tr.alloc tab rfl rfl trivial rfl (fun B0 _ => ?_)
  refine Tr.nil ?_ (fun _ => rfl) (List.Perm.refl _)
  refine Wp.seq ?_
  refine Wp.reg allGen ?_
  refine Tr.call rfl f91_one (by repeat (first | exact Has.nil | refine Has.cons (by repeat (first | exact .head _ | refine .tail _ ?_ | refine List.mem_append_right _ ?_)) ?_)) rfl trivial rfl ?_
  refine Tr.buildS (l := [(0, 32), (32, 32)]) tab rfl rfl rfl rfl (fill_p1 (bu_len _)) rfl trivial rfl ?_
  refine Tr.storeA tab rfl rfl rfl (by repeat (first | exact .here | apply MU.there | apply MU.app)) (by first | with_reducible rfl | with_reducible assumption | with_reducible exact el_len _ | with_reducible exact bu_len _ | (simp; done) | (simp; omega) | exact el_len _ | (simp [bF_len]; done) | exact bu_len _ | rw [el_len, el_len] | rw [bu_len, bu_len] | rfl) (by first | with_reducible rfl | with_reducible assumption | with_reducible exact el_len _ | with_reducible exact bu_len _ | (simp; done) | (simp; omega) | exact el_len _ | (simp [bF_len]; done) | exact bu_len _ | rw [el_len, el_len] | rw [bu_len, bu_len] | rfl) (by first | with_reducible assumption | exact el_one _ | exact bu_one _ | rfl | (simp [Value.oneCell']; done)) trivial rfl ?_
  refine Tr.nil ?_ (fun _ => rfl) (List.Perm.refl _)
  refine Wp.ret ?_
  refine ⟨by first | exact .inl rfl | exact .inr rfl, ?_⟩
  exact .r1 rfl (RvIs.cellA tab rfl rfl rfl (by repeat (first | exact .head _ | refine .tail _ ?_ | refine List.mem_append_right _ ?_)) (At.all _) (by first | with_reducible rfl | with_reducible assumption | with_reducible exact el_len _ | with_reducible exact bu_len _ | (simp; done) | (simp; omega) | exact el_len _ | (simp [bF_len]; done) | exact bu_len _ | rw [el_len, el_len] | rw [bu_len, bu_len] | rfl))

section
variable {p q : Pt} (hp : p.on) (hq : q.on)
include hp

theorem onT : FnR Try.prog 44 [pv p] [] (.bool true) := by
  have := f44_el p
  rwa [decide_eq_true hp] at this

theorem f84_on1 (b cp : Nat) : FnR Try.prog 84 [.slice (some ⟨b, 0, none⟩) 1 cp] [⟨b, pc p, false⟩] (i64 0) := f84_one (pc p) (pc_len p) true (onT hp) b cp (pc_one p)

theorem f41_neg : FnR Try.prog 41 [pv p] [] (.tuple #[pv p.neg, i64 0]) := by
  have h90 := f90_sub 0 p.x
  rw [show (0 : F) - p.x = -p.x by generalize p.x = x; grobner] at h90
  have h84 := f84_on1 hp
  refine fnR_of 19 rfl Try.func41 rfl (by kernel_rfl) rfl (by simp) fun w => ?_
  refine Wp.seq ?_
  refine Wp.reg allGen ?_
  refine Tr.boxA rfl rfl trivial rfl (fun B1 _ => ?_)
  refine Tr.alloc tab rfl rfl trivial rfl (fun B2 _ => ?_)
  refine Tr.assign rfl rfl trivial rfl ?_
  refine Tr.nil ?_ (fun _ => rfl) (List.Perm.refl _)
  refine Wp.seq ?_
  refine Wp.seq ?_
  refine Wp.reg allGen ?_
  refine Tr.loadA tab rfl rfl rfl (by repeat (first | exact .head _ | refine .tail _ ?_ | refine List.mem_append_right _ ?_)) (At.all _) (pc_len p) rfl trivial rfl ?_
  refine Tr.buildSlice tab rfl rfl rfl rfl rfl rfl (fill_s1 (pc_len p)) rfl trivial rfl (fun B6 _ => ?_)
  refine Tr.call rfl (h84 B6 1) (by repeat (first | exact Has.nil | refine Has.cons (by repeat (first | exact .head _ | refine .tail _ ?_ | refine List.mem_append_right _ ?_)) ?_)) rfl trivial rfl ?_
  refine Tr.assign rfl rfl trivial rfl ?_
  refine Tr.nil ?_ (fun _ => rfl) (List.Perm.refl _)
  refine Wp.seq ?_
  refine Wp.reg allGen ?_
  refine Tr.move rfl rfl trivial rfl ?_
  refine Tr.neq rfl rfl (by first | with_reducible assumption | exact decide_eq_true (by omega) | exact decide_eq_false (by omega) | exact beq_iff_eq.2 (by omega) | exact beq_eq_false_iff_ne.2 (by omega) | exact bne_iff_ne.2 (by omega) | rfl) rfl trivial rfl ?_
  refine Tr.nil ?_ (fun _ => rfl) (List.Perm.refl _)
  refine Wp.condF rfl ?_
  refine Wp.skip ?_
  refine Wp.seq ?_
  refine Wp.regE kindOf mo (by kernel_rfl) ?_
  refine Tr.call rfl f91_zero (by repeat (first | exact Has.nil | refine Has.cons (by repeat (first | exact .head _ | refine .tail _ ?_ | refine List.mem_append_right _ ?_)) ?_)) rfl trivial rfl ?_
  refine Tr.fieldAddr tab rfl rfl rfl rfl rfl rfl rfl trivial rfl ?_
  refine Tr.loadA tab rfl rfl rfl (by repeat (first | exact .head _ | refine .tail _ ?_ | refine List.mem_append_right _ ?_)) (at_p0 _ _) (by first | with_reducible rfl | with_reducible assumption | with_reducible exact el_len _ | with_reducible exact bu_len _ | (simp; done) | (simp; omega) | exact el_len _ | (simp [bF_len]; done) | exact bu_len _ | rw [el_len, el_len] | rw [bu_len, bu_len] | rfl) rfl trivial rfl ?_
  refine Tr.call rfl h90 (by repeat (first | exact Has.nil | refine Has.cons (by repeat (first | exact .head _ | refine .tail _ ?_ | refine List.mem_append_right _ ?_)) ?_)) rfl trivial rfl ?_
  refine Tr.fieldAddr tab rfl rfl rfl rfl rfl rfl rfl trivial rfl ?_
  refine Tr.loadA tab rfl rfl rfl (by repeat (first | exact .head _ | refine .tail _ ?_ | refine List.mem_append_right _ ?_)) (at_p1 _ _ (by first | exact bu_len _ | assumption)) (by first | with_reducible rfl | with_reducible assumption | with_reducible exact el_len _ | with_reducible exact bu_len _ | (simp; done) | (simp; omega) | exact el_len _ | (simp [bF_len]; done) | exact bu_len _ | rw [el_len, el_len] | rw [bu_len, bu_len] | rfl) rfl trivial rfl ?_
  refine Tr.buildS (l := [(0, 32), (32, 32)]) tab rfl rfl rfl rfl (fill_p (by first | exact bu_len _ | assumption) (by first | exact bu_len _ | assumption)) rfl trivial rfl ?_
  refine Tr.storeA tab rfl rfl rfl (by repeat (first | exact .here | apply MU.there | apply MU.app)) (by first | with_reducible rfl | with_reducible assumption | with_reducible exact el_len _ | with_reducible exact bu_len _ | (simp; done) | (simp; omega) | exact el_len _ | (simp [bF_len]; done) | exact bu_len _ | rw [el_len, el_len] | rw [bu_len, bu_len] | rfl) (by first | with_reducible rfl | with_reducible assumption | with_reducible exact el_len _ | with_reducible exact bu_len _ | (simp; done) | (simp; omega) | exact el_len _ | (simp [bF_len]; done) | exact bu_len _ | rw [el_len, el_len] | rw [bu_len, bu_len] | rfl) (by first | with_reducible assumption | exact el_one _ | exact bu_one _ | rfl | (simp [Value.oneCell']; done)) trivial rfl ?_
  refine Tr.assign rfl rfl trivial rfl ?_
  refine Tr.nil ?_ (fun _ => rfl) (List.Perm.refl _)
  refine Wp.ret ?_
  exact ⟨.inr rfl, .r2 rfl (RvIs.cellA tab rfl rfl rfl (by repeat (first | exact .head _ | refine .tail _ ?_ | refine List.mem_append_right _ ?_)) (At.all _) (pc_len p.neg)) (RvIs.tmp rfl)⟩

include hq
theorem f84_on2 (b cp : Nat) : FnR Try.prog 84 [.slice (some ⟨b, 0, none⟩) 2 cp] [⟨b, pc p ++ pc q, false⟩] (i64 0) := f84_two (pc p) (pc q) (pc_len p) (pc_len q) true true (onT hp) (onT hq) b cp (pc_one p) (pc_one q)

theorem f40_add : FnR Try.prog 40 [pv p, pv q] [] (.tuple #[pv (p.add q), i64 0]) := by
  have h84 := f84_on2 hp hq
  have h86 := f86_plus (Pl.of p) (Pl.of q) (dC + dC)
  have h89 := f89_plain ((Pl.of p).plus (Pl.of q) (dC + dC))
  rw [plain_rep (rep_plus (rep_of p) (rep_of q) hp hq)] at h89
  generalize (Pl.of p).plus (Pl.of q) (dC + dC) = pl at *
  generalize p.add q = s at *
  have h85p := f85_of p
  have h85q := f85_of q
  generalize Pl.of p = lp at *
  generalize Pl.of q = lq at *
  refine fnR_of 24 rfl Try.func40 rfl (by kernel_rfl) rfl (by simp) fun w => ?_
  refine Wp.seq ?_
  refine Wp.reg allGen ?_
  refine Tr.boxA rfl rfl trivial rfl (fun B2 _ => ?_)
  refine Tr.boxA rfl rfl trivial rfl (fun B3 _ => ?_)
  refine Tr.alloc tab rfl rfl trivial rfl (fun B4 _ => ?_)
  refine Tr.assign rfl rfl trivial rfl ?_
  refine Tr.nil ?_ (fun _ => rfl) (List.Perm.refl _)
  refine Wp.seq ?_
  refine Wp.seq ?_
  refine Wp.reg allGen ?_
  refine Tr.loadA tab rfl rfl rfl (by repeat (first | exact .head _ | refine .tail _ ?_ | refine List.mem_append_right _ ?_)) (At.all _) (pc_len p) rfl trivial rfl ?_
  refine Tr.loadA tab rfl rfl rfl (by repeat (first | exact .head _ | refine .tail _ ?_ | refine List.mem_append_right _ ?_)) (At.all _) (pc_len q) rfl trivial rfl ?_
  refine Tr.buildSlice tab rfl rfl rfl rfl rfl rfl (fill_s2 (pc_len p) (pc_len q)) rfl trivial rfl (fun B9 _ => ?_)
  refine Tr.call rfl (h84 B9 2) (by repeat (first | exact Has.nil | refine Has.cons (by repeat (first | exact .head _ | refine .tail _ ?_ | refine List.mem_append_right _ ?_)) ?_)) rfl trivial rfl ?_
  refine Tr.assign rfl rfl trivial rfl ?_
  refine Tr.nil ?_ (fun _ => rfl) (List.Perm.refl _)
  refine Wp.seq ?_
  refine Wp.reg allGen ?_
  refine Tr.move rfl rfl trivial rfl ?_
  refine Tr.neq rfl rfl (by first | with_reducible assumption | exact decide_eq_true (by omega) | exact decide_eq_false (by omega) | exact beq_iff_eq.2 (by omega) | exact beq_eq_false_iff_ne.2 (by omega) | exact bne_iff_ne.2 (by omega) | rfl) rfl trivial rfl ?_
  refine Tr.nil ?_ (fun _ => rfl) (List.Perm.refl _)
  refine Wp.condF rfl ?_
  refine Wp.skip ?_
  refine Wp.seq ?_
  refine Wp.regE kindOf mo (by kernel_rfl) ?_
  refine Tr.loadA tab rfl rfl rfl (by repeat (first | exact .head _ | refine .tail _ ?_ | refine List.mem_append_right _ ?_)) (At.all _) (pc_len p) rfl trivial rfl ?_
  refine Tr.call rfl h85p (by repeat (first | exact Has.nil | refine Has.cons (by repeat (first | exact .head _ | refine .tail _ ?_ | refine List.mem_append_right _ ?_)) ?_)) rfl trivial rfl ?_
  refine Tr.loadA tab rfl rfl rfl (by repeat (first | exact .head _ | refine .tail _ ?_ | refine List.mem_append_right _ ?_)) (At.all _) (pc_len q) rfl trivial rfl ?_
  refine Tr.call rfl h85q (by repeat (first | exact Has.nil | refine Has.cons (by repeat (first | exact .head _ | refine .tail _ ?_ | refine List.mem_append_right _ ?_)) ?_)) rfl trivial rfl ?_
  refine Tr.call rfl f88_d (by repeat (first | exact Has.nil | refine Has.cons (by repeat (first | exact .head _ | refine .tail _ ?_ | refine List.mem_append_right _ ?_)) ?_)) rfl trivial rfl ?_
  refine Tr.call rfl f88_d (by repeat (first | exact Has.nil | refine Has.cons (by repeat (first | exact .head _ | refine .tail _ ?_ | refine List.mem_append_right _ ?_)) ?_)) rfl trivial rfl ?_
  refine Tr.call rfl (f87_add _ _) (by repeat (first | exact Has.nil | refine Has.cons (by repeat (first | exact .head _ | refine .tail _ ?_ | refine List.mem_append_right _ ?_)) ?_)) rfl trivial rfl ?_
  refine Tr.call rfl h86 (by repeat (first | exact Has.nil | refine Has.cons (by repeat (first | exact .head _ | refine .tail _ ?_ | refine List.mem_append_right _ ?_)) ?_)) rfl trivial rfl ?_
  refine Tr.call rfl h89 (by repeat (first | exact Has.nil | refine Has.cons (by repeat (first | exact .head _ | refine .tail _ ?_ | refine List.mem_append_right _ ?_)) ?_)) rfl trivial rfl ?_
  refine Tr.storeA tab rfl rfl rfl (by repeat (first | exact .here | apply MU.there | apply MU.app)) (by exact pc_len s) (by exact pc_len s) (pc_one s) trivial rfl ?_
  refine Tr.assign rfl rfl trivial rfl ?_
  refine Tr.nil ?_ (fun _ => rfl) (List.Perm.refl _)
  refine Wp.ret ?_
  exact ⟨.inr rfl, .r2 rfl (RvIs.cellA tab rfl rfl rfl (by repeat (first | exact .head _ | refine .tail _ ?_ | refine List.mem_append_right _ ?_)) (At.all _) (pc_len s)) (RvIs.tmp rfl)⟩
end
end Go.Proofs.Ytffghaeaohabhaa.AW
