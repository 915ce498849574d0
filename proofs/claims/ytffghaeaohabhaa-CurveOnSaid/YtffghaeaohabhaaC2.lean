import Derived.Test.YtffghaeaohabhaaC1
namespace Go.Proofs.Ytffghaeaohabhaa.AW
open Go NT
set_option maxRecDepth 100000


instance decOn (p : Pt) : Decidable p.on := inferInstanceAs (Decidable (p.y*p.y - p.x*p.x - 1 - dC*p.x*p.x*p.y*p.y = 0))

theorem on_prog (p : Pt) : decide (bF (p.y * p.y - p.x * p.x) = bF (1 + dC * (p.x * p.x * (p.y * p.y)))) = decide p.on := by
  have h : bF (p.y * p.y - p.x * p.x) = bF (1 + dC * (p.x * p.x * (p.y * p.y))) ↔ p.on := by
    unfold Pt.on
    generalize p.x = x; generalize p.y = y; generalize dC = d
    constructor
    · intro h
      have := bF_inj h
      clear h; grobner
    · intro h
      congr 1
      grobner
  simp only [h]

theorem f44_el (p : Pt) : FnR Try.prog 44 [pv p] [] (.bool (decide p.on)) := by
  have hon := on_prog p
  refine fnR_of 36 rfl Try.func44 rfl (by kernel_rfl) rfl (by simp) fun w => ?_
  refine Wp.seq ?_
  refine Wp.reg allGen ?_
  refine Tr.boxA rfl rfl trivial rfl (fun B1 _ => ?_)
  refine Tr.assign rfl rfl trivial rfl ?_
  refine Tr.nil ?_ (fun _ => rfl) (List.Perm.refl _)
  refine Wp.seq ?_
  refine Wp.seq ?_
  refine Wp.reg allGen ?_
  refine Tr.fieldAddr tab rfl rfl rfl rfl rfl rfl rfl trivial rfl ?_
  refine Tr.loadA tab rfl rfl rfl (by repeat (first | exact .head _ | refine .tail _ ?_ | refine List.mem_append_right _ ?_)) (at_p0 _ _) (by first | with_reducible rfl | with_reducible assumption | with_reducible exact el_len _ | with_reducible exact bu_len _ | (simp; done) | (simp; omega) | exact el_len _ | (simp [bF_len]; done) | exact bu_len _ | rw [el_len, el_len] | rw [bu_len, bu_len] | rfl) rfl trivial rfl ?_
  refine Tr.call rfl (f92_el p.x) (by repeat (first | exact Has.nil | refine Has.cons (by repeat (first | exact .head _ | refine .tail _ ?_ | refine List.mem_append_right _ ?_)) ?_)) rfl trivial rfl ?_
  refine Tr.not rfl rfl rfl trivial rfl ?_
  refine Tr.move rfl rfl trivial rfl ?_
  first | refine Tr.skp rfl ⟨_, _, rfl, rfl, by first | exact .inl rfl | exact .inr rfl⟩ ?_ | (refine Tr.fieldAddr tab rfl rfl rfl rfl rfl rfl rfl ⟨_, rfl, rfl⟩ rfl ?_)
  first | refine Tr.skp rfl ⟨_, _, rfl, rfl, by first | exact .inl rfl | exact .inr rfl⟩ ?_ | (refine Tr.loadA tab rfl rfl rfl (by repeat (first | exact .head _ | refine .tail _ ?_ | refine List.mem_append_right _ ?_)) (at_p1 _ _ (bu_len _)) (bu_len _) rfl ⟨_, rfl, rfl⟩ rfl ?_)
  first | refine Tr.skp rfl ⟨_, _, rfl, rfl, by first | exact .inl rfl | exact .inr rfl⟩ ?_ | (refine Tr.call rfl (f92_el p.y) (by repeat (first | exact Has.nil | refine Has.cons (by repeat (first | exact .head _ | refine .tail _ ?_ | refine List.mem_append_right _ ?_)) ?_)) rfl ⟨_, rfl, rfl⟩ rfl ?_)
  first | refine Tr.skp rfl ⟨_, _, rfl, rfl, by first | exact .inl rfl | exact .inr rfl⟩ ?_ | (refine Tr.not rfl rfl rfl ⟨_, rfl, rfl⟩ rfl ?_)
  first | refine Tr.pickT rfl rfl rfl trivial rfl ?_ | refine Tr.pickF rfl rfl rfl trivial rfl ?_
  refine Tr.nil ?_ (fun _ => rfl) (List.Perm.refl _)
  refine Wp.condF rfl ?_
  refine Wp.skip ?_
  refine Wp.seq ?_
  refine Wp.regE kindOf mo (by kernel_rfl) ?_
  refine Tr.fieldAddr tab rfl rfl rfl rfl rfl rfl rfl trivial rfl ?_
  refine Tr.loadA tab rfl rfl rfl (by repeat (first | exact .head _ | refine .tail _ ?_ | refine List.mem_append_right _ ?_)) (at_p0 _ _) (by first | with_reducible rfl | with_reducible assumption | with_reducible exact el_len _ | with_reducible exact bu_len _ | (simp; done) | (simp; omega) | exact el_len _ | (simp [bF_len]; done) | exact bu_len _ | rw [el_len, el_len] | rw [bu_len, bu_len] | rfl) rfl trivial rfl ?_
  refine Tr.fieldAddr tab rfl rfl rfl rfl rfl rfl rfl trivial rfl ?_
  refine Tr.loadA tab rfl rfl rfl (by repeat (first | exact .head _ | refine .tail _ ?_ | refine List.mem_append_right _ ?_)) (at_p0 _ _) (by first | with_reducible rfl | with_reducible assumption | with_reducible exact el_len _ | with_reducible exact bu_len _ | (simp; done) | (simp; omega) | exact el_len _ | (simp [bF_len]; done) | exact bu_len _ | rw [el_len, el_len] | rw [bu_len, bu_len] | rfl) rfl trivial rfl ?_
  refine Tr.call rfl (f93_mul _ _) (by repeat (first | exact Has.nil | refine Has.cons (by repeat (first | exact .head _ | refine .tail _ ?_ | refine List.mem_append_right _ ?_)) ?_)) rfl trivial rfl ?_
  refine Tr.fieldAddr tab rfl rfl rfl rfl rfl rfl rfl trivial rfl ?_
  refine Tr.loadA tab rfl rfl rfl (by repeat (first | exact .head _ | refine .tail _ ?_ | refine List.mem_append_right _ ?_)) (at_p1 _ _ (by first | exact bu_len _ | assumption)) (by first | with_reducible rfl | with_reducible assumption | with_reducible exact el_len _ | with_reducible exact bu_len _ | (simp; done) | (simp; omega) | exact el_len _ | (simp [bF_len]; done) | exact bu_len _ | rw [el_len, el_len] | rw [bu_len, bu_len] | rfl) rfl trivial rfl ?_
  refine Tr.fieldAddr tab rfl rfl rfl rfl rfl rfl rfl trivial rfl ?_
  refine Tr.loadA tab rfl rfl rfl (by repeat (first | exact .head _ | refine .tail _ ?_ | refine List.mem_append_right _ ?_)) (at_p1 _ _ (by first | exact bu_len _ | assumption)) (by first | with_reducible rfl | with_reducible assumption | with_reducible exact el_len _ | with_reducible exact bu_len _ | (simp; done) | (simp; omega) | exact el_len _ | (simp [bF_len]; done) | exact bu_len _ | rw [el_len, el_len] | rw [bu_len, bu_len] | rfl) rfl trivial rfl ?_
  refine Tr.call rfl (f93_mul _ _) (by repeat (first | exact Has.nil | refine Has.cons (by repeat (first | exact .head _ | refine .tail _ ?_ | refine List.mem_append_right _ ?_)) ?_)) rfl trivial rfl ?_
  refine Tr.alloc tab rfl rfl trivial rfl (fun B3 _ => ?_)
  refine Tr.alloc tab rfl rfl trivial rfl (fun B4 _ => ?_)
  refine Tr.storeA tab rfl rfl rfl (by repeat (first | exact .here | apply MU.there | apply MU.app)) (by first | with_reducible rfl | with_reducible assumption | with_reducible exact el_len _ | with_reducible exact bu_len _ | (simp; done) | (simp; omega) | exact el_len _ | (simp [bF_len]; done) | exact bu_len _ | rw [el_len, el_len] | rw [bu_len, bu_len] | rfl) (by first | with_reducible rfl | with_reducible assumption | with_reducible exact el_len _ | with_reducible exact bu_len _ | (simp; done) | (simp; omega) | exact el_len _ | (simp [bF_len]; done) | exact bu_len _ | rw [el_len, el_len] | rw [bu_len, bu_len] | rfl) (by first | with_reducible assumption | exact el_one _ | exact bu_one _ | rfl | (simp [Value.oneCell']; done)) trivial rfl ?_
  refine Tr.storeA tab rfl rfl rfl (by repeat (first | exact .here | apply MU.there | apply MU.app)) (by first | with_reducible rfl | with_reducible assumption | with_reducible exact el_len _ | with_reducible exact bu_len _ | (simp; done) | (simp; omega) | exact el_len _ | (simp [bF_len]; done) | exact bu_len _ | rw [el_len, el_len] | rw [bu_len, bu_len] | rfl) (by first | with_reducible rfl | with_reducible assumption | with_reducible exact el_len _ | with_reducible exact bu_len _ | (simp; done) | (simp; omega) | exact el_len _ | (simp [bF_len]; done) | exact bu_len _ | rw [el_len, el_len] | rw [bu_len, bu_len] | rfl) (by first | with_reducible assumption | exact el_one _ | exact bu_one _ | rfl | (simp [Value.oneCell']; done)) trivial rfl ?_
  refine Tr.nil ?_ (fun _ => rfl) (List.Perm.refl _)
  refine Wp.seq ?_
  refine Wp.regE kindOf mo (by kernel_rfl) ?_
  refine Tr.loadA tab rfl rfl rfl (by repeat (first | exact .head _ | refine .tail _ ?_ | refine List.mem_append_right _ ?_)) (by first | exact At.all _ | with_reducible assumption | assumption) (by first | with_reducible rfl | with_reducible assumption | with_reducible exact el_len _ | with_reducible exact bu_len _ | (simp; done) | (simp; omega) | exact el_len _ | (simp [bF_len]; done) | exact bu_len _ | rw [el_len, el_len] | rw [bu_len, bu_len] | rfl) rfl trivial rfl ?_
  refine Tr.loadA tab rfl rfl rfl (by repeat (first | exact .head _ | refine .tail _ ?_ | refine List.mem_append_right _ ?_)) (by first | exact At.all _ | with_reducible assumption | assumption) (by first | with_reducible rfl | with_reducible assumption | with_reducible exact el_len _ | with_reducible exact bu_len _ | (simp; done) | (simp; omega) | exact el_len _ | (simp [bF_len]; done) | exact bu_len _ | rw [el_len, el_len] | rw [bu_len, bu_len] | rfl) rfl trivial rfl ?_
  refine Tr.call rfl (f90_sub _ _) (by repeat (first | exact Has.nil | refine Has.cons (by repeat (first | exact .head _ | refine .tail _ ?_ | refine List.mem_append_right _ ?_)) ?_)) rfl trivial rfl ?_
  refine Tr.call rfl f91_one (by repeat (first | exact Has.nil | refine Has.cons (by repeat (first | exact .head _ | refine .tail _ ?_ | refine List.mem_append_right _ ?_)) ?_)) rfl trivial rfl ?_
  refine Tr.call rfl f88_d (by repeat (first | exact Has.nil | refine Has.cons (by repeat (first | exact .head _ | refine .tail _ ?_ | refine List.mem_append_right _ ?_)) ?_)) rfl trivial rfl ?_
  refine Tr.loadA tab rfl rfl rfl (by repeat (first | exact .head _ | refine .tail _ ?_ | refine List.mem_append_right _ ?_)) (by first | exact At.all _ | with_reducible assumption | assumption) (by first | with_reducible rfl | with_reducible assumption | with_reducible exact el_len _ | with_reducible exact bu_len _ | (simp; done) | (simp; omega) | exact el_len _ | (simp [bF_len]; done) | exact bu_len _ | rw [el_len, el_len] | rw [bu_len, bu_len] | rfl) rfl trivial rfl ?_
  refine Tr.loadA tab rfl rfl rfl (by repeat (first | exact .head _ | refine .tail _ ?_ | refine List.mem_append_right _ ?_)) (by first | exact At.all _ | with_reducible assumption | assumption) (by first | with_reducible rfl | with_reducible assumption | with_reducible exact el_len _ | with_reducible exact bu_len _ | (simp; done) | (simp; omega) | exact el_len _ | (simp [bF_len]; done) | exact bu_len _ | rw [el_len, el_len] | rw [bu_len, bu_len] | rfl) rfl trivial rfl ?_
  refine Tr.call rfl (f93_mul _ _) (by repeat (first | exact Has.nil | refine Has.cons (by repeat (first | exact .head _ | refine .tail _ ?_ | refine List.mem_append_right _ ?_)) ?_)) rfl trivial rfl ?_
  refine Tr.call rfl (f93_mul _ _) (by repeat (first | exact Has.nil | refine Has.cons (by repeat (first | exact .head _ | refine .tail _ ?_ | refine List.mem_append_right _ ?_)) ?_)) rfl trivial rfl ?_
  refine Tr.call rfl (f87_add _ _) (by repeat (first | exact Has.nil | refine Has.cons (by repeat (first | exact .head _ | refine .tail _ ?_ | refine List.mem_append_right _ ?_)) ?_)) rfl trivial rfl ?_
  refine Tr.eql8 (l := bF (p.y * p.y - p.x * p.x)) (m := bF (1 + dC * (p.x * p.x * (p.y * p.y)))) tab rfl rfl rfl rfl rfl rfl rfl (bF_len _) (bF_len _) (by kernel_rfl) hon rfl trivial rfl ?_
  refine Tr.assign rfl rfl trivial rfl ?_
  refine Tr.nil ?_ (fun _ => rfl) (List.Perm.refl _)
  refine Wp.ret ?_
  refine ⟨by first | exact .inl rfl | exact .inr rfl, ?_⟩
  exact .r1 rfl (RvIs.tmp rfl)

/-- bytes that are no elements are on no curve -/
theorem f44_bad (X Y : List UInt8) (hX : X.length = 32) (hY : Y.length = 32) (hb : ¬ (n8 X < P ∧ n8 Y < P)) : FnR Try.prog 44 [.agg (u8s X ++ u8s Y).toArray] [] (.bool false) := by
  have hX' : (u8s X).length = 32 := by simp [hX]
  have hY' : (u8s Y).length = 32 := by simp [hY]
  have i1 := f92_is X hX
  have i2 := f92_is Y hY
  by_cases h : n8 X < P
  · have h2 : ¬ n8 Y < P := fun h2 => hb ⟨h, h2⟩
    rw [decide_eq_true h] at i1
    rw [decide_eq_false h2] at i2
    refine fnR_of 36 rfl Try.func44 rfl (by kernel_rfl) rfl (by simp) fun w => ?_
    refine Wp.seq ?_
    refine Wp.reg allGen ?_
    refine Tr.boxA rfl rfl trivial rfl (fun B1 _ => ?_)
    refine Tr.assign rfl rfl trivial rfl ?_
    refine Tr.nil ?_ (fun _ => rfl) (List.Perm.refl _)
    refine Wp.seq ?_
    refine Wp.seq ?_
    refine Wp.reg allGen ?_
    refine Tr.fieldAddr tab rfl rfl rfl rfl rfl rfl rfl trivial rfl ?_
    refine Tr.loadA tab rfl rfl rfl (by repeat (first | exact .head _ | refine .tail _ ?_ | refine List.mem_append_right _ ?_)) (at_p0 _ _) hX' rfl trivial rfl ?_
    refine Tr.call rfl i1 (by repeat (first | exact Has.nil | refine Has.cons (by repeat (first | exact .head _ | refine .tail _ ?_ | refine List.mem_append_right _ ?_)) ?_)) rfl trivial rfl ?_
    refine Tr.not rfl rfl rfl trivial rfl ?_
    refine Tr.move rfl rfl trivial rfl ?_
    first | refine Tr.skp rfl ⟨_, _, rfl, rfl, by first | exact .inl rfl | exact .inr rfl⟩ ?_ | (refine Tr.fieldAddr tab rfl rfl rfl rfl rfl rfl rfl ⟨_, rfl, rfl⟩ rfl ?_)
    first | refine Tr.skp rfl ⟨_, _, rfl, rfl, by first | exact .inl rfl | exact .inr rfl⟩ ?_ | (refine Tr.loadA tab rfl rfl rfl (by repeat (first | exact .head _ | refine .tail _ ?_ | refine List.mem_append_right _ ?_)) (at_p1 _ _ hX') hY' rfl ⟨_, rfl, rfl⟩ rfl ?_)
    first | refine Tr.skp rfl ⟨_, _, rfl, rfl, by first | exact .inl rfl | exact .inr rfl⟩ ?_ | (refine Tr.call rfl i2 (by repeat (first | exact Has.nil | refine Has.cons (by repeat (first | exact .head _ | refine .tail _ ?_ | refine List.mem_append_right _ ?_)) ?_)) rfl ⟨_, rfl, rfl⟩ rfl ?_)
    first | refine Tr.skp rfl ⟨_, _, rfl, rfl, by first | exact .inl rfl | exact .inr rfl⟩ ?_ | (refine Tr.not rfl rfl rfl ⟨_, rfl, rfl⟩ rfl ?_)
    first | refine Tr.pickT rfl rfl rfl trivial rfl ?_ | refine Tr.pickF rfl rfl rfl trivial rfl ?_
    refine Tr.nil ?_ (fun _ => rfl) (List.Perm.refl _)
    refine Wp.condT rfl ?_
    refine Wp.seq ?_
    refine Wp.reg allGen ?_
    refine Tr.assign rfl rfl trivial rfl ?_
    refine Tr.nil ?_ (fun _ => rfl) (List.Perm.refl _)
    refine Wp.ret ?_
    refine ⟨by first | exact .inl rfl | exact .inr rfl, ?_⟩
    exact .r1 rfl (RvIs.tmp rfl)
  · rw [decide_eq_false h] at i1
    refine fnR_of 36 rfl Try.func44 rfl (by kernel_rfl) rfl (by simp) fun w => ?_
    refine Wp.seq ?_
    refine Wp.reg allGen ?_
    refine Tr.boxA rfl rfl trivial rfl (fun B1 _ => ?_)
    refine Tr.assign rfl rfl trivial rfl ?_
    refine Tr.nil ?_ (fun _ => rfl) (List.Perm.refl _)
    refine Wp.seq ?_
    refine Wp.seq ?_
    refine Wp.reg allGen ?_
    refine Tr.fieldAddr tab rfl rfl rfl rfl rfl rfl rfl trivial rfl ?_
    refine Tr.loadA tab rfl rfl rfl (by repeat (first | exact .head _ | refine .tail _ ?_ | refine List.mem_append_right _ ?_)) (at_p0 _ _) hX' rfl trivial rfl ?_
    refine Tr.call rfl i1 (by repeat (first | exact Has.nil | refine Has.cons (by repeat (first | exact .head _ | refine .tail _ ?_ | refine List.mem_append_right _ ?_)) ?_)) rfl trivial rfl ?_
    refine Tr.not rfl rfl rfl trivial rfl ?_
    refine Tr.move rfl rfl trivial rfl ?_
    first | refine Tr.skp rfl ⟨_, _, rfl, rfl, by first | exact .inl rfl | exact .inr rfl⟩ ?_ | (refine Tr.skp rfl ⟨_, _, rfl, rfl, .inr rfl⟩ ?_)
    first | refine Tr.skp rfl ⟨_, _, rfl, rfl, by first | exact .inl rfl | exact .inr rfl⟩ ?_ | (refine Tr.skp rfl ⟨_, _, rfl, rfl, .inr rfl⟩ ?_)
    first | refine Tr.skp rfl ⟨_, _, rfl, rfl, by first | exact .inl rfl | exact .inr rfl⟩ ?_ | (refine Tr.skp rfl ⟨_, _, rfl, rfl, .inr rfl⟩ ?_)
    first | refine Tr.skp rfl ⟨_, _, rfl, rfl, by first | exact .inl rfl | exact .inr rfl⟩ ?_ | (refine Tr.skp rfl ⟨_, _, rfl, rfl, .inr rfl⟩ ?_)
    first | refine Tr.pickT rfl rfl rfl trivial rfl ?_ | refine Tr.pickF rfl rfl rfl trivial rfl ?_
    refine Tr.nil ?_ (fun _ => rfl) (List.Perm.refl _)
    refine Wp.condT rfl ?_
    refine Wp.seq ?_
    refine Wp.reg allGen ?_
    refine Tr.assign rfl rfl trivial rfl ?_
    refine Tr.nil ?_ (fun _ => rfl) (List.Perm.refl _)
    refine Wp.ret ?_
    refine ⟨by first | exact .inl rfl | exact .inr rfl, ?_⟩
    exact .r1 rfl (RvIs.tmp rfl)

/-! ### on: all of them? -/
theorem f84_one (C : List Value) (hC : C.length = 64) (r : Bool) (hOn : FnR Try.prog 44 [.agg C.toArray] [] (.bool r)) (b cp : Nat) (h1 : C.all Value.oneCell' = true) :
    FnR Try.prog 84 [.slice (some ⟨b, 0, none⟩) 1 cp] [⟨b, C, false⟩] (i64 (if r = true then 0 else 170)) := by
  cases r with
  | true =>
    refine fnR_of 15 rfl Try.func84 rfl (by kernel_rfl) rfl (by simp) fun w => ?_
    refine Wp.seq ?_
    refine Wp.reg allGen ?_
    refine Tr.assign rfl rfl trivial rfl ?_
    refine Tr.nil ?_ (fun _ => rfl) (List.Perm.refl _)
    refine Wp.seq ?_
    refine Wp.seq ?_
    refine Wp.reg allGen ?_
    refine Tr.move rfl rfl trivial rfl ?_
    refine Tr.lenS tab rfl rfl rfl rfl trivial rfl ?_
    refine Tr.move rfl rfl trivial rfl ?_
    refine Tr.nil ?_ (fun _ => rfl) (List.Perm.refl _)
    refine Wp.block ?_
    refine Wp.loopL ?_
    refine WpL.step ?_
    refine Wp.seq ?_
    refine Wp.reg allGen ?_
    refine Tr.lss rfl rfl (by first | with_reducible assumption | exact decide_eq_true (by omega) | exact decide_eq_false (by omega) | exact beq_iff_eq.2 (by omega) | exact beq_eq_false_iff_ne.2 (by omega) | exact bne_iff_ne.2 (by omega) | rfl) rfl trivial rfl ?_
    refine Tr.nil ?_ (fun _ => rfl) (List.Perm.refl _)
    refine Wp.seq ?_
    refine Wp.condT rfl ?_
    refine Wp.skip ?_
    refine Wp.seq ?_
    refine Wp.block ?_
    refine Wp.seq ?_
    refine Wp.reg allGen ?_
    first | refine Tr.indexAddrS tab rfl rfl rfl rfl rfl (by omega) (by omega) rfl trivial rfl ?_
    refine Tr.loadA tab rfl rfl rfl (by repeat (first | exact .head _ | refine .tail _ ?_ | refine List.mem_append_right _ ?_)) (At.all _) hC rfl trivial rfl ?_
    refine Tr.alloc tab rfl rfl trivial rfl (fun B4 _ => ?_)
    refine Tr.storeA tab rfl rfl rfl (by repeat (first | exact .here | apply MU.there | apply MU.app)) (by exact hC) (by exact hC) h1 trivial rfl ?_
    refine Tr.nil ?_ (fun _ => rfl) (List.Perm.refl _)
    refine Wp.seq ?_
    refine Wp.reg allGen ?_
    refine Tr.loadA tab rfl rfl rfl (by repeat (first | exact .head _ | refine .tail _ ?_ | refine List.mem_append_right _ ?_)) (At.all _) hC rfl trivial rfl ?_
    refine Tr.call rfl hOn (by repeat (first | exact Has.nil | refine Has.cons (by repeat (first | exact .head _ | refine .tail _ ?_ | refine List.mem_append_right _ ?_)) ?_)) rfl trivial rfl ?_
    refine Tr.not rfl rfl rfl trivial rfl ?_
    refine Tr.nil ?_ (fun _ => rfl) (List.Perm.refl _)
    refine Wp.condF rfl ?_
    refine Wp.skip ?_
    refine Wp.reg allGen ?_
    refine Tr.add rfl rfl (by first | exact wrap_i64 (by omega) (by omega) | rfl) rfl trivial rfl ?_
    refine Tr.move rfl rfl trivial rfl ?_
    refine Tr.nil ?_ (fun _ => rfl) (List.Perm.refl _)
    refine WpL.step ?_
    refine Wp.seq ?_
    refine Wp.reg allGen ?_
    refine Tr.lss rfl rfl (by first | with_reducible assumption | exact decide_eq_true (by omega) | exact decide_eq_false (by omega) | exact beq_iff_eq.2 (by omega) | exact beq_eq_false_iff_ne.2 (by omega) | exact bne_iff_ne.2 (by omega) | rfl) rfl trivial rfl ?_
    refine Tr.nil ?_ (fun _ => rfl) (List.Perm.refl _)
    refine Wp.seq ?_
    refine Wp.condF rfl ?_
    refine Wp.exit ?_
    refine Wp.seq ?_
    refine Wp.reg allGen ?_
    refine Tr.assign rfl rfl trivial rfl ?_
    refine Tr.nil ?_ (fun _ => rfl) (List.Perm.refl _)
    refine Wp.ret ?_
    refine ⟨by first | exact .inl rfl | exact .inr rfl, ?_⟩
    exact .r1 rfl (RvIs.tmp rfl)
  | false =>
    refine fnR_of 15 rfl Try.func84 rfl (by kernel_rfl) rfl (by simp) fun w => ?_
    refine Wp.seq ?_
    refine Wp.reg allGen ?_
    refine Tr.assign rfl rfl trivial rfl ?_
    refine Tr.nil ?_ (fun _ => rfl) (List.Perm.refl _)
    refine Wp.seq ?_
    refine Wp.seq ?_
    refine Wp.reg allGen ?_
    refine Tr.move rfl rfl trivial rfl ?_
    refine Tr.lenS tab rfl rfl rfl rfl trivial rfl ?_
    refine Tr.move rfl rfl trivial rfl ?_
    refine Tr.nil ?_ (fun _ => rfl) (List.Perm.refl _)
    refine Wp.block ?_
    refine Wp.loopL ?_
    refine WpL.step ?_
    refine Wp.seq ?_
    refine Wp.reg allGen ?_
    refine Tr.lss rfl rfl (by first | with_reducible assumption | exact decide_eq_true (by omega) | exact decide_eq_false (by omega) | exact beq_iff_eq.2 (by omega) | exact beq_eq_false_iff_ne.2 (by omega) | exact bne_iff_ne.2 (by omega) | rfl) rfl trivial rfl ?_
    refine Tr.nil ?_ (fun _ => rfl) (List.Perm.refl _)
    refine Wp.seq ?_
    refine Wp.condT rfl ?_
    refine Wp.skip ?_
    refine Wp.seq ?_
    refine Wp.block ?_
    refine Wp.seq ?_
    refine Wp.reg allGen ?_
    first | refine Tr.indexAddrS tab rfl rfl rfl rfl rfl (by omega) (by omega) rfl trivial rfl ?_
    refine Tr.loadA tab rfl rfl rfl (by repeat (first | exact .head _ | refine .tail _ ?_ | refine List.mem_append_right _ ?_)) (At.all _) hC rfl trivial rfl ?_
    refine Tr.alloc tab rfl rfl trivial rfl (fun B4 _ => ?_)
    refine Tr.storeA tab rfl rfl rfl (by repeat (first | exact .here | apply MU.there | apply MU.app)) (by exact hC) (by exact hC) h1 trivial rfl ?_
    refine Tr.nil ?_ (fun _ => rfl) (List.Perm.refl _)
    refine Wp.seq ?_
    refine Wp.reg allGen ?_
    refine Tr.loadA tab rfl rfl rfl (by repeat (first | exact .head _ | refine .tail _ ?_ | refine List.mem_append_right _ ?_)) (At.all _) hC rfl trivial rfl ?_
    refine Tr.call rfl hOn (by repeat (first | exact Has.nil | refine Has.cons (by repeat (first | exact .head _ | refine .tail _ ?_ | refine List.mem_append_right _ ?_)) ?_)) rfl trivial rfl ?_
    refine Tr.not rfl rfl rfl trivial rfl ?_
    refine Tr.nil ?_ (fun _ => rfl) (List.Perm.refl _)
    refine Wp.condT rfl ?_
    refine Wp.seq ?_
    refine Wp.reg allGen ?_
    refine Tr.assign rfl rfl trivial rfl ?_
    refine Tr.nil ?_ (fun _ => rfl) (List.Perm.refl _)
    refine Wp.ret ?_
    refine ⟨by first | exact .inl rfl | exact .inr rfl, ?_⟩
    exact .r1 rfl (RvIs.tmp rfl)
end Go.Proofs.Ytffghaeaohabhaa.AW
