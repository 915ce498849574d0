import Derived.Test.YtffghaeaohabhaaR21
namespace Go.Proofs.Ytffghaeaohabhaa.AW
open Go Go.RowKit NT
set_option maxRecDepth 100000

/-! ### what is not on the curve -/
theorem fill_n0 : fillC (fun i => ([(0, 32), (32, 32)] : List (Nat × Nat))[i]?) (List.replicate 64 (Value.int .u8 0)) [] = some (List.replicate 64 (Value.int .u8 0)) := by rfl

section
variable (C : List Value) (hC : C.length = 64) (h1 : C.all Value.oneCell' = true) (hOn : FnR Try.prog 44 [.agg C.toArray] [] (.bool false))
include hC h1 hOn

theorem f84_bad (b cp : Nat) : FnR Try.prog 84 [.slice (some ⟨b, 0, none⟩) 1 cp] [⟨b, C, false⟩] (i64 170) := f84_one C hC false hOn b cp h1

theorem f41_bad : FnR Try.prog 41 [.agg C.toArray] [] noPt := by
  have h84 := f84_bad C hC h1 hOn
  refine fnR_of 19 rfl Try.func41 rfl (by kernel_rfl) rfl (by simp) fun w => ?_
  refine Wp.seq ?_
  refine Wp.reg allGen ?_
  refine Tr.boxA rfl rfl trivial rfl (fun B1 _ => ?_)
  refine Tr.alloc tab rfl rfl trivial rfl (fun B2 _ => ?_)
  refine Tr.assign rfl rfl trivial rfl ?_
  refine Tr.nil ?_ (fun _ => rfl) (List.Perm.refl _)
  refine Wp.seq ?_
  refine Wp.seq ?_
  refine Wp.reg allGen ?_
  refine Tr.loadA tab rfl rfl rfl (by repeat (first | exact .head _ | refine .tail _ ?_ | refine List.mem_append_right _ ?_)) (At.all _) hC rfl trivial rfl ?_
  refine Tr.buildSlice tab rfl rfl rfl rfl rfl rfl (fill_s1 hC) rfl trivial rfl (fun B6 _ => ?_)
  refine Tr.call rfl (h84 B6 1) (Has.cons (.head _) Has.nil) rfl trivial rfl ?_
  refine Tr.assign rfl rfl trivial rfl ?_
  refine Tr.nil ?_ (fun _ => rfl) (List.Perm.refl _)
  refine Wp.seq ?_
  refine Wp.reg allGen ?_
  refine Tr.move rfl rfl trivial rfl ?_
  refine Tr.neq rfl rfl (by first | with_reducible assumption | exact decide_eq_true (by omega) | exact decide_eq_false (by omega) | exact beq_iff_eq.2 (by omega) | exact beq_eq_false_iff_ne.2 (by omega) | exact bne_iff_ne.2 (by omega) | rfl) rfl trivial rfl ?_
  refine Tr.nil ?_ (fun _ => rfl) (List.Perm.refl _)
  refine Wp.condT rfl ?_
  refine Wp.seq ?_
  refine Wp.reg allGen ?_
  refine Tr.buildS (l := [(0, 32), (32, 32)]) tab rfl rfl rfl rfl fill_n0 rfl trivial rfl ?_
  refine Tr.move rfl rfl trivial rfl ?_
  refine Tr.storeA tab rfl rfl rfl (by repeat (first | exact .here | apply MU.there | apply MU.app)) (by rfl) (by rfl) (by rfl) trivial rfl ?_
  refine Tr.assign rfl rfl trivial rfl ?_
  refine Tr.nil ?_ (fun _ => rfl) (List.Perm.refl _)
  refine Wp.ret ?_
  exact ⟨.inr rfl, .r2 rfl (RvIs.cellA tab rfl rfl rfl (by repeat (first | exact .head _ | refine .tail _ ?_ | refine List.mem_append_right _ ?_)) (At.all _) (by rfl)) (RvIs.tmp rfl)⟩

theorem f42_bad (a0 : Option Addr) (len cp : Nat) (rd : List Ent) (hrd : ∀ e, e ∈ rd → e.rw = false) : FnR Try.prog 42 [.slice a0 len cp, .agg C.toArray] rd noPt := by
  have h84 := f84_bad C hC h1 hOn
  refine fnR_of 56 rfl Try.func42 rfl (by kernel_rfl) rfl hrd fun w => ?_
  refine Wp.seq ?_
  refine Wp.reg allGen ?_
  refine Tr.boxA rfl rfl trivial rfl (fun B3 _ => ?_)
  refine Tr.alloc tab rfl rfl trivial rfl (fun B4 _ => ?_)
  refine Tr.assign rfl rfl trivial rfl ?_
  refine Tr.nil ?_ (fun _ => rfl) (List.Perm.refl _)
  refine Wp.seq ?_
  refine Wp.seq ?_
  refine Wp.reg allGen ?_
  refine Tr.loadA tab rfl rfl rfl (by repeat (first | exact .head _ | refine .tail _ ?_ | refine List.mem_append_right _ ?_)) (At.all _) hC rfl trivial rfl ?_
  refine Tr.buildSlice tab rfl rfl rfl rfl rfl rfl (fill_s1 hC) rfl trivial rfl (fun B6 _ => ?_)
  refine Tr.call rfl (h84 B6 1) (Has.cons (.head _) Has.nil) rfl trivial rfl ?_
  refine Tr.assign rfl rfl trivial rfl ?_
  refine Tr.nil ?_ (fun _ => rfl) (List.Perm.refl _)
  refine Wp.seq ?_
  refine Wp.reg allGen ?_
  refine Tr.move rfl rfl trivial rfl ?_
  refine Tr.neq rfl rfl (by first | with_reducible assumption | exact decide_eq_true (by omega) | exact decide_eq_false (by omega) | exact beq_iff_eq.2 (by omega) | exact beq_eq_false_iff_ne.2 (by omega) | exact bne_iff_ne.2 (by omega) | rfl) rfl trivial rfl ?_
  refine Tr.nil ?_ (fun _ => rfl) (List.Perm.refl _)
  refine Wp.condT rfl ?_
  refine Wp.seq ?_
  refine Wp.reg allGen ?_
  refine Tr.buildS (l := [(0, 32), (32, 32)]) tab rfl rfl rfl rfl fill_n0 rfl trivial rfl ?_
  refine Tr.move rfl rfl trivial rfl ?_
  refine Tr.storeA tab rfl rfl rfl (by repeat (first | exact .here | apply MU.there | apply MU.app)) (by rfl) (by rfl) (by rfl) trivial rfl ?_
  refine Tr.assign rfl rfl trivial rfl ?_
  refine Tr.nil ?_ (fun _ => rfl) (List.Perm.refl _)
  refine Wp.ret ?_
  exact ⟨.inr rfl, .r2 rfl (RvIs.cellA tab rfl rfl rfl (by repeat (first | exact .head _ | refine .tail _ ?_ | refine List.mem_append_right _ ?_)) (At.all _) (by rfl)) (RvIs.tmp rfl)⟩

theorem f43_bad : FnR Try.prog 43 [.agg C.toArray] [] (.tuple #[.agg (List.replicate 32 (Value.int .u8 0)).toArray, i64 170]) := by
  have h84 := f84_bad C hC h1 hOn
  refine fnR_of 25 rfl Try.func43 rfl (by kernel_rfl) rfl (by simp) fun w => ?_
  refine Wp.seq ?_
  refine Wp.reg allGen ?_
  refine Tr.boxA rfl rfl trivial rfl (fun B1 _ => ?_)
  refine Tr.alloc tab rfl rfl trivial rfl (fun B2 _ => ?_)
  refine Tr.assign rfl rfl trivial rfl ?_
  refine Tr.nil ?_ (fun _ => rfl) (List.Perm.refl _)
  refine Wp.seq ?_
  refine Wp.seq ?_
  refine Wp.reg allGen ?_
  refine Tr.loadA tab rfl rfl rfl (by repeat (first | exact .head _ | refine .tail _ ?_ | refine List.mem_append_right _ ?_)) (At.all _) hC rfl trivial rfl ?_
  refine Tr.buildSlice tab rfl rfl rfl rfl rfl rfl (fill_s1 hC) rfl trivial rfl (fun B6 _ => ?_)
  refine Tr.call rfl (h84 B6 1) (Has.cons (.head _) Has.nil) rfl trivial rfl ?_
  refine Tr.assign rfl rfl trivial rfl ?_
  refine Tr.nil ?_ (fun _ => rfl) (List.Perm.refl _)
  refine Wp.seq ?_
  refine Wp.reg allGen ?_
  refine Tr.move rfl rfl trivial rfl ?_
  refine Tr.neq rfl rfl (by first | with_reducible assumption | exact decide_eq_true (by omega) | exact decide_eq_false (by omega) | exact beq_iff_eq.2 (by omega) | exact beq_eq_false_iff_ne.2 (by omega) | exact bne_iff_ne.2 (by omega) | rfl) rfl trivial rfl ?_
  refine Tr.nil ?_ (fun _ => rfl) (List.Perm.refl _)
  refine Wp.condT rfl ?_
  refine Wp.seq ?_
  refine Wp.reg allGen ?_
  refine Tr.buildA tab rfl rfl rfl rfl (by simp [fillC, splice, vcells, Value.cells, zrep_one]; rfl) rfl trivial rfl ?_
  refine Tr.move rfl rfl trivial rfl ?_
  refine Tr.storeA tab rfl rfl rfl (by repeat (first | exact .here | apply MU.there | apply MU.app)) (by first | with_reducible exact pc_len _ | with_reducible rfl | with_reducible assumption | with_reducible exact el_len _ | with_reducible exact bu_len _ | (simp; done) | (simp; omega) | exact el_len _ | (simp [bF_len]; done) | exact bu_len _ | rw [el_len, el_len] | rw [bu_len, bu_len] | rfl) (by first | with_reducible exact pc_len _ | with_reducible rfl | with_reducible assumption | with_reducible exact el_len _ | with_reducible exact bu_len _ | (simp; done) | (simp; omega) | exact el_len _ | (simp [bF_len]; done) | exact bu_len _ | rw [el_len, el_len] | rw [bu_len, bu_len] | rfl) (by first | with_reducible exact pc_one _ | with_reducible assumption | exact el_one _ | exact bu_one _ | rfl | (simp [Value.oneCell']; done)) trivial rfl ?_
  refine Tr.assign rfl rfl trivial rfl ?_
  refine Tr.nil ?_ (fun _ => rfl) (List.Perm.refl _)
  refine Wp.ret ?_
  exact ⟨.inr rfl, .r2 rfl (RvIs.cellA tab rfl rfl rfl (by repeat (first | exact .head _ | refine .tail _ ?_ | refine List.mem_append_right _ ?_)) (At.all _) (by rfl)) (RvIs.tmp rfl)⟩
end

theorem f40_bad (C D : List Value) (hC : C.length = 64) (hD : D.length = 64) (h1 : C.all Value.oneCell' = true) (h2 : D.all Value.oneCell' = true) (r s : Bool) (hOn : FnR Try.prog 44 [.agg C.toArray] [] (.bool r)) (hOn2 : FnR Try.prog 44 [.agg D.toArray] [] (.bool s)) (hrs : (r && s) = false) :
    FnR Try.prog 40 [.agg C.toArray, .agg D.toArray] [] noPt := by
  have h84 := fun b cp => f84_two C D hC hD r s hOn hOn2 b cp h1 h2
  rw [hrs] at h84
  refine fnR_of 24 rfl Try.func40 rfl (by kernel_rfl) rfl (by simp) fun w => ?_
  refine Wp.seq ?_
  refine Wp.reg allGen ?_
  refine Tr.boxA rfl rfl trivial rfl (fun B2 _ => ?_)
  refine Tr.boxA rfl rfl trivial rfl (fun B3 _ => ?_)
  refine Tr.alloc tab rfl rfl trivial rfl (fun B4 _ => ?_)
  refine Tr.assign rfl rfl trivial rfl ?_
  refine Tr.nil ?_ (fun _ => rfl) (List.Perm.refl _)
  refine Wp.seq ?_
  refine Wp.seq ?_
  refine Wp.reg allGen ?_
  refine Tr.loadA (cs := C) tab rfl rfl rfl (by repeat (first | exact .head _ | refine .tail _ ?_ | refine List.mem_append_right _ ?_)) (At.all _) hC rfl trivial rfl ?_
  refine Tr.loadA (cs := D) tab rfl rfl rfl (by repeat (first | exact .head _ | refine .tail _ ?_ | refine List.mem_append_right _ ?_)) (At.all _) hD rfl trivial rfl ?_
  refine Tr.buildSlice tab rfl rfl rfl rfl rfl rfl (fill_s2 hC hD) rfl trivial rfl (fun B6 _ => ?_)
  refine Tr.call rfl (h84 B6 2) (Has.cons (.head _) Has.nil) rfl trivial rfl ?_
  refine Tr.assign rfl rfl trivial rfl ?_
  refine Tr.nil ?_ (fun _ => rfl) (List.Perm.refl _)
  refine Wp.seq ?_
  refine Wp.reg allGen ?_
  refine Tr.move rfl rfl trivial rfl ?_
  refine Tr.neq rfl rfl (by first | with_reducible assumption | exact decide_eq_true (by omega) | exact decide_eq_false (by omega) | exact beq_iff_eq.2 (by omega) | exact beq_eq_false_iff_ne.2 (by omega) | exact bne_iff_ne.2 (by omega) | rfl) rfl trivial rfl ?_
  refine Tr.nil ?_ (fun _ => rfl) (List.Perm.refl _)
  refine Wp.condT rfl ?_
  refine Wp.seq ?_
  refine Wp.reg allGen ?_
  refine Tr.buildS (l := [(0, 32), (32, 32)]) tab rfl rfl rfl rfl fill_n0 rfl trivial rfl ?_
  refine Tr.move rfl rfl trivial rfl ?_
  refine Tr.storeA tab rfl rfl rfl (by repeat (first | exact .here | apply MU.there | apply MU.app)) (by rfl) (by rfl) (by rfl) trivial rfl ?_
  refine Tr.assign rfl rfl trivial rfl ?_
  refine Tr.nil ?_ (fun _ => rfl) (List.Perm.refl _)
  refine Wp.ret ?_
  exact ⟨.inr rfl, .r2 rfl (RvIs.cellA tab rfl rfl rfl (by repeat (first | exact .head _ | refine .tail _ ?_ | refine List.mem_append_right _ ?_)) (At.all _) (by rfl)) (RvIs.tmp rfl)⟩

section
variable {P : Program} {g : Gh} {all : Array Oper} {kd : Oper → K} {i : Nat} {o : Oper} {rest : List (Nat × Oper)} {env : Env} {mem : Mem} {Q : Env → Mem → Prop}
variable {T : List (Nat × TD)} {d ty : Nat} {p : String} {af : Array Edge} {gd : Option (Nat × Bool)} {x y z : Operand} {v u v0 : Value} {t t' : Nat}
theorem Tr.neqB {a b r : Bool} {D : TD} (hT : TabOk P T) (h1 : lk t T = some D) (h2 : D.desc = .bool) (hx : ev env x = some (.bool a)) (hy : ev env y = some (.bool b)) (hr : (!(a == b)) = r)
    (hd : Nat.blt d g.n = true) (hW : Wants all ⟨some d, .binOp .neq t x y t', ty, p, af, gd⟩ env) (hk : (kd ⟨some d, .binOp .neq t x y t', ty, p, af, gd⟩).vOk = true)
    (next : Tr P g all kd rest ((d, .bool r) :: env) mem Q) : Tr P g all kd ((i, ⟨some d, .binOp .neq t x y t', ty, p, af, gd⟩) :: rest) env mem Q :=
  .v (n2 x _ y _) (.bool r) (opV_of fun ac w hm' => by
    subst hr; have hg := n2.get hm'
    have u1 := (hT t D h1).1; rw [h2] at u1
    have he : (eqGuard .neq t x y (.bool a) (.bool b)).run P w = .ok () w := rfl
    have hb : (binOp .neq t (.bool a) (.bool b)).run P w = .ok (.bool (!(a == b))) w := by
      have := run_equalIn_bool' w 9999 t a b u1
      simp only [binOp, Op.equal, Op.maxDepth, Sem.run_bind, this, Result.andThen_ok, Sem.run_pure]
    simp only [execOp, hg, Sem.run_bind, he, hb, Result.andThen_ok, Sem.run_pure]) (n2.sat hx hy) (n2.within (by simp [Op.operands]) (by simp [Op.operands])) (.inl rfl) hd hW hk next
end
end Go.Proofs.Ytffghaeaohabhaa.AW
