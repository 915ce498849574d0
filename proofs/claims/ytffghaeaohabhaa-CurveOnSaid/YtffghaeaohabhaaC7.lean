import Derived.Test.YtffghaeaohabhaaC6
import Derived.Test.YtffghaeaohabhaaOp8
namespace Go.Proofs.Ytffghaeaohabhaa.AW
open Go NT
set_option maxRecDepth 100000

instance : DecidableEq Pt := fun a b => decidable_of_iff (a.x = b.x ∧ a.y = b.y) ⟨fun h => Pt.ext h.1 h.2, fun h => by rw [h]; exact ⟨rfl, rfl⟩⟩

theorem eq53 : Try.prog.stoodInHeld 53 = false := by kernel_rfl
theorem eg53 : Try.prog.eqGuardType Try.prog.depth 53 = false := by kernel_rfl
theorem pt_eq (p q : Pt) : (bF p.x = bF q.x ∧ bF p.y = bF q.y) ↔ p = q := ⟨fun h => Pt.ext (bF_inj h.1) (bF_inj h.2), fun h => by rw [h]; exact ⟨rfl, rfl⟩⟩

section
variable {g : Gh} {all : Array Oper} {kd : Oper → K} {i : Nat} {rest : List (Nat × Oper)} {env : Env} {mem : Mem} {Q : Env → Mem → Prop}
variable {d ty : Nat} {s : String} {af : Array Edge} {gd : Option (Nat × Bool)} {x y : Operand} {t' : Nat}
theorem Tr.eqlPt {p q : Pt} {r : Bool} (hx : ev env x = some (pv p)) (hy : ev env y = some (pv q)) (hr : decide (p = q) = r)
    (hd : Nat.blt d g.n = true) (hW : Wants all ⟨some d, .binOp .eql 53 x y t', ty, s, af, gd⟩ env) (hk : (kd ⟨some d, .binOp .eql 53 x y t', ty, s, af, gd⟩).vOk = true)
    (next : Tr Try.prog g all kd rest ((d, .bool r) :: env) mem Q) : Tr Try.prog g all kd ((i, ⟨some d, .binOp .eql 53 x y t', ty, s, af, gd⟩) :: rest) env mem Q := by
  refine Tr.eqlP (a := 37) (e := 5) (n := 32) tab hx hy rfl rfl ⟨rfl, rfl, by decide⟩ ⟨rfl, rfl, by decide⟩ rfl rfl rfl rfl rfl rfl eq53 eg53 (bF_len _) (bF_len _) (bF_len _) (bF_len _) ?_ hd hW hk next
  rw [← hr]
  exact decide_eq_decide.2 (pt_eq p q)
end

theorem on_11 : ¬ (⟨1, 1⟩ : Pt).on := fun h => dC_nonsq im1 (by
  have h2 := im1_sq
  have h' : (1 : F) * 1 - 1 * 1 - 1 - dC * 1 * 1 * 1 * 1 = 0 := h
  rw [h2]
  generalize dC = d at *
  clear h h2
  grobner)

theorem one_bytes : u8s (bF 1) = u8 1 :: List.replicate 31 (u8 0) := by kernel_rfl
theorem zero_bytes : u8s (bF 0) = List.replicate 32 (u8 0) := by kernel_rfl
theorem f44_11 : FnR Try.prog 44 [.agg ((u8 1 :: List.replicate 31 (u8 0)) ++ (u8 1 :: List.replicate 31 (u8 0))).toArray] [] (.bool false) := by
  have h := f44_el ⟨1, 1⟩
  rw [decide_eq_false on_11] at h
  have e : pc ⟨1, 1⟩ = (u8 1 :: List.replicate 31 (u8 0)) ++ (u8 1 :: List.replicate 31 (u8 0)) := by unfold pc; rw [one_bytes]
  rw [← e]; exact h

theorem base_b0 : (bF (4 * finv 5)).getD 0 0 = 88 := by rw [← base_y]; decide +kernel
theorem base_b31 : (bF (4 * finv 5)).getD 31 0 = 102 := by rw [← base_y]; decide +kernel

theorem hz0 : (.agg (List.replicate 32 (Value.int .u8 0) ++ (u8 1 :: List.replicate 31 (Value.int .u8 0))).toArray : Value) = pv .zero := by
  have hz : pc .zero = List.replicate 32 (Value.int .u8 0) ++ u8s (bF 1) := by
    show u8s (bF 0) ++ u8s (bF 1) = _
    rw [bF_zero, zero8]
  show _ = Value.agg (pc .zero).toArray
  rw [hz, one_bytes]; rfl

theorem f46_core {B : Pt} (hB : B.on) (h45 : FnR Try.prog 45 [] [] (pv B)) (h0 : (packB B).getD 0 0 = 88) (h31 : (packB B).getD 31 0 = 102) : FnR Try.prog 46 [] [] (.bool true) := by
  have h43 := f43_pack hB
  have h41 := f41_neg (p := B) hB
  have h40 := f40_add (p := B) (q := B.neg) hB (on_neg hB)
  rw [add_neg' hB] at h40
  have h42 := f42_scale none [] 0 [] (.inl rfl) (by simp) (by decide) hB
  have h44 := onT (p := B) hB
  have hl : (u8s (packB B)).length = 32 := by simp [packB_len]
  have g0 := at_get u8 (At.all (u8s (packB B))) 0 (j := 0) (by rw [packB_len]; decide) (k := 0) rfl
  have g31 := at_get u8 (At.all (u8s (packB B))) 0 (j := 31) (by rw [packB_len]; decide) (k := 31) rfl
  rw [h0] at g0
  rw [h31] at g31
  rw [Nat.zero_add] at g0 g31
  have hz : nsm (n8 []) B = .zero := rfl
  rw [hz] at h42
  generalize packB B = L at *
  refine fnR_of 81 rfl Try.func46 rfl (by kernel_rfl) rfl (by simp) fun w => ?_
  refine Wp.seq ?_
  refine Wp.reg allGen ?_
  refine Tr.assign rfl rfl trivial rfl ?_
  refine Tr.nil ?_ (fun _ => rfl) (List.Perm.refl _)
  refine Wp.seq ?_
  refine Wp.reg allGen ?_
  refine Tr.call rfl h45 (by repeat (first | exact Has.nil | refine Has.cons (by repeat (first | exact .head _ | refine .tail _ ?_ | refine List.mem_append_right _ ?_)) ?_)) rfl trivial rfl ?_
  refine Tr.call rfl h43 (by repeat (first | exact Has.nil | refine Has.cons (by repeat (first | exact .head _ | refine .tail _ ?_ | refine List.mem_append_right _ ?_)) ?_)) rfl trivial rfl ?_
  refine Tr.move rfl rfl trivial rfl ?_
  refine Tr.extract rfl rfl rfl trivial rfl ?_
  refine Tr.extract rfl rfl rfl trivial rfl ?_
  refine Tr.alloc tab rfl rfl trivial rfl (fun B1 _ => ?_)
  refine Tr.storeA tab rfl rfl rfl (by repeat (first | exact .here | apply MU.there | apply MU.app)) (by exact hl) (by exact hl) (bu_one _) trivial rfl ?_
  refine Tr.assign rfl rfl trivial rfl ?_
  refine Tr.nil ?_ (fun _ => rfl) (List.Perm.refl _)
  refine Wp.seq ?_
  refine Wp.reg allGen ?_
  refine Tr.call rfl h45 (by repeat (first | exact Has.nil | refine Has.cons (by repeat (first | exact .head _ | refine .tail _ ?_ | refine List.mem_append_right _ ?_)) ?_)) rfl trivial rfl ?_
  refine Tr.call rfl h42 (by repeat (first | exact Has.nil | refine Has.cons (by repeat (first | exact .head _ | refine .tail _ ?_ | refine List.mem_append_right _ ?_)) ?_)) rfl trivial rfl ?_
  refine Tr.move rfl rfl trivial rfl ?_
  refine Tr.extract rfl rfl rfl trivial rfl ?_
  refine Tr.extract rfl rfl rfl trivial rfl ?_
  refine Tr.alloc tab rfl rfl trivial rfl (fun B3 _ => ?_)
  refine Tr.storeA tab rfl rfl rfl (by repeat (first | exact .here | apply MU.there | apply MU.app)) (by exact pc_len _) (by exact pc_len _) (pc_one _) trivial rfl ?_
  refine Tr.assign rfl rfl trivial rfl ?_
  refine Tr.nil ?_ (fun _ => rfl) (List.Perm.refl _)
  refine Wp.seq ?_
  refine Wp.reg allGen ?_
  refine Tr.call rfl h45 (by repeat (first | exact Has.nil | refine Has.cons (by repeat (first | exact .head _ | refine .tail _ ?_ | refine List.mem_append_right _ ?_)) ?_)) rfl trivial rfl ?_
  refine Tr.call rfl h41 (by repeat (first | exact Has.nil | refine Has.cons (by repeat (first | exact .head _ | refine .tail _ ?_ | refine List.mem_append_right _ ?_)) ?_)) rfl trivial rfl ?_
  refine Tr.move rfl rfl trivial rfl ?_
  refine Tr.extract rfl rfl rfl trivial rfl ?_
  refine Tr.extract rfl rfl rfl trivial rfl ?_
  refine Tr.alloc tab rfl rfl trivial rfl (fun B5 _ => ?_)
  refine Tr.storeA tab rfl rfl rfl (by repeat (first | exact .here | apply MU.there | apply MU.app)) (by exact pc_len _) (by exact pc_len _) (pc_one _) trivial rfl ?_
  refine Tr.assign rfl rfl trivial rfl ?_
  refine Tr.nil ?_ (fun _ => rfl) (List.Perm.refl _)
  refine Wp.seq ?_
  refine Wp.regE kindOf mo (by kernel_rfl) ?_
  refine Tr.call rfl h45 (by repeat (first | exact Has.nil | refine Has.cons (by repeat (first | exact .head _ | refine .tail _ ?_ | refine List.mem_append_right _ ?_)) ?_)) rfl trivial rfl ?_
  refine Tr.loadA tab rfl rfl rfl (by repeat (first | exact .head _ | refine .tail _ ?_ | refine List.mem_append_right _ ?_)) (At.all _) (pc_len _) rfl trivial rfl ?_
  refine Tr.call rfl h40 (by repeat (first | exact Has.nil | refine Has.cons (by repeat (first | exact .head _ | refine .tail _ ?_ | refine List.mem_append_right _ ?_)) ?_)) rfl trivial rfl ?_
  refine Tr.move rfl rfl trivial rfl ?_
  refine Tr.extract rfl rfl rfl trivial rfl ?_
  refine Tr.extract rfl rfl rfl trivial rfl ?_
  refine Tr.alloc tab rfl rfl trivial rfl (fun B7 _ => ?_)
  refine Tr.storeA tab rfl rfl rfl (by repeat (first | exact .here | apply MU.there | apply MU.app)) (by exact pc_len _) (by exact pc_len _) (pc_one _) trivial rfl ?_
  refine Tr.assign rfl rfl trivial rfl ?_
  refine Tr.nil ?_ (fun _ => rfl) (List.Perm.refl _)
  refine Wp.seq ?_
  refine Wp.regE kindOf mo (by kernel_rfl) ?_
  refine Tr.call rfl h45 (by repeat (first | exact Has.nil | refine Has.cons (by repeat (first | exact .head _ | refine .tail _ ?_ | refine List.mem_append_right _ ?_)) ?_)) rfl trivial rfl ?_
  refine Tr.call rfl h44 (by repeat (first | exact Has.nil | refine Has.cons (by repeat (first | exact .head _ | refine .tail _ ?_ | refine List.mem_append_right _ ?_)) ?_)) rfl trivial rfl ?_
  refine Tr.move rfl rfl trivial rfl ?_
  first | refine Tr.skp rfl ⟨_, _, rfl, rfl, by first | exact .inl rfl | exact .inr rfl⟩ ?_ | (refine Tr.buildA tab rfl rfl rfl rfl (by simp [fillC, splice, vcells, Value.cells, zrep_one]; rfl) rfl ⟨_, rfl, rfl⟩ rfl ?_)
  first | refine Tr.skp rfl ⟨_, _, rfl, rfl, by first | exact .inl rfl | exact .inr rfl⟩ ?_ | (refine Tr.buildA tab rfl rfl rfl rfl (by simp [fillC, splice, vcells, Value.cells, zrep_one]; rfl) rfl ⟨_, rfl, rfl⟩ rfl ?_)
  first | refine Tr.skp rfl ⟨_, _, rfl, rfl, by first | exact .inl rfl | exact .inr rfl⟩ ?_ | (refine Tr.buildS (l := [(0, 32), (32, 32)]) tab rfl rfl rfl rfl (fill_p (by rfl) (by rfl)) rfl ⟨_, rfl, rfl⟩ rfl ?_)
  first | refine Tr.skp rfl ⟨_, _, rfl, rfl, by first | exact .inl rfl | exact .inr rfl⟩ ?_ | (refine Tr.call rfl f44_11 (by repeat (first | exact Has.nil | refine Has.cons (by repeat (first | exact .head _ | refine .tail _ ?_ | refine List.mem_append_right _ ?_)) ?_)) rfl ⟨_, rfl, rfl⟩ rfl ?_)
  first | refine Tr.skp rfl ⟨_, _, rfl, rfl, by first | exact .inl rfl | exact .inr rfl⟩ ?_ | (refine Tr.not rfl rfl rfl ⟨_, rfl, rfl⟩ rfl ?_)
  first | refine Tr.pickT rfl rfl rfl trivial rfl ?_ | refine Tr.pickF rfl rfl rfl trivial rfl ?_
  refine Tr.move rfl rfl trivial rfl ?_
  first | refine Tr.skp rfl ⟨_, _, rfl, rfl, by first | exact .inl rfl | exact .inr rfl⟩ ?_ | (first | refine Tr.indexAddr01 tab rfl rfl rfl rfl rfl (by omega) (by omega) rfl ⟨_, rfl, rfl⟩ rfl ?_ | refine Tr.indexAddr1 tab rfl rfl rfl rfl rfl (by omega) (by omega) rfl ⟨_, rfl, rfl⟩ rfl ?_)
  first | refine Tr.skp rfl ⟨_, _, rfl, rfl, by first | exact .inl rfl | exact .inr rfl⟩ ?_ | (refine Tr.loadS tab rfl rfl rfl (by repeat (first | exact .head _ | refine .tail _ ?_ | refine List.mem_append_right _ ?_)) g0 rfl ⟨_, rfl, rfl⟩ rfl ?_)
  first | refine Tr.skp rfl ⟨_, _, rfl, rfl, by first | exact .inl rfl | exact .inr rfl⟩ ?_ | (refine Tr.eql rfl rfl (by first | with_reducible assumption | exact decide_eq_true (by omega) | exact decide_eq_false (by omega) | exact beq_iff_eq.2 (by omega) | exact beq_eq_false_iff_ne.2 (by omega) | exact bne_iff_ne.2 (by omega) | rfl) rfl ⟨_, rfl, rfl⟩ rfl ?_)
  first | refine Tr.pickT rfl rfl rfl trivial rfl ?_ | refine Tr.pickF rfl rfl rfl trivial rfl ?_
  refine Tr.move rfl rfl trivial rfl ?_
  first | refine Tr.skp rfl ⟨_, _, rfl, rfl, by first | exact .inl rfl | exact .inr rfl⟩ ?_ | (first | refine Tr.indexAddr01 tab rfl rfl rfl rfl rfl (by omega) (by omega) rfl ⟨_, rfl, rfl⟩ rfl ?_ | refine Tr.indexAddr1 tab rfl rfl rfl rfl rfl (by omega) (by omega) rfl ⟨_, rfl, rfl⟩ rfl ?_)
  first | refine Tr.skp rfl ⟨_, _, rfl, rfl, by first | exact .inl rfl | exact .inr rfl⟩ ?_ | (refine Tr.loadS tab rfl rfl rfl (by repeat (first | exact .head _ | refine .tail _ ?_ | refine List.mem_append_right _ ?_)) g31 rfl ⟨_, rfl, rfl⟩ rfl ?_)
  first | refine Tr.skp rfl ⟨_, _, rfl, rfl, by first | exact .inl rfl | exact .inr rfl⟩ ?_ | (refine Tr.eql rfl rfl (by first | with_reducible assumption | exact decide_eq_true (by omega) | exact decide_eq_false (by omega) | exact beq_iff_eq.2 (by omega) | exact beq_eq_false_iff_ne.2 (by omega) | exact bne_iff_ne.2 (by omega) | rfl) rfl ⟨_, rfl, rfl⟩ rfl ?_)
  first | refine Tr.pickT rfl rfl rfl trivial rfl ?_ | refine Tr.pickF rfl rfl rfl trivial rfl ?_
  refine Tr.move rfl rfl trivial rfl ?_
  first | refine Tr.skp rfl ⟨_, _, rfl, rfl, by first | exact .inl rfl | exact .inr rfl⟩ ?_ | (refine Tr.move rfl rfl ⟨_, rfl, rfl⟩ rfl ?_)
  first | refine Tr.skp rfl ⟨_, _, rfl, rfl, by first | exact .inl rfl | exact .inr rfl⟩ ?_ | (refine Tr.eql rfl rfl (by first | with_reducible assumption | exact decide_eq_true (by omega) | exact decide_eq_false (by omega) | exact beq_iff_eq.2 (by omega) | exact beq_eq_false_iff_ne.2 (by omega) | exact bne_iff_ne.2 (by omega) | rfl) rfl ⟨_, rfl, rfl⟩ rfl ?_)
  first | refine Tr.pickT rfl rfl rfl trivial rfl ?_ | refine Tr.pickF rfl rfl rfl trivial rfl ?_
  refine Tr.move rfl rfl trivial rfl ?_
  first | refine Tr.skp rfl ⟨_, _, rfl, rfl, by first | exact .inl rfl | exact .inr rfl⟩ ?_ | (refine Tr.loadA tab rfl rfl rfl (by repeat (first | exact .head _ | refine .tail _ ?_ | refine List.mem_append_right _ ?_)) (At.all _) (pc_len _) rfl ⟨_, rfl, rfl⟩ rfl ?_)
  first | refine Tr.skp rfl ⟨_, _, rfl, rfl, by first | exact .inl rfl | exact .inr rfl⟩ ?_ | (refine Tr.call rfl f50_zero (by repeat (first | exact Has.nil | refine Has.cons (by repeat (first | exact .head _ | refine .tail _ ?_ | refine List.mem_append_right _ ?_)) ?_)) rfl ⟨_, rfl, rfl⟩ rfl ?_)
  first | refine Tr.skp rfl ⟨_, _, rfl, rfl, by first | exact .inl rfl | exact .inr rfl⟩ ?_ | (refine Tr.eqlPt (p := .zero) (q := .zero) rfl rfl (decide_eq_true rfl) rfl ⟨_, rfl, rfl⟩ rfl ?_)
  first | refine Tr.pickT rfl rfl rfl trivial rfl ?_ | refine Tr.pickF rfl rfl rfl trivial rfl ?_
  refine Tr.move rfl rfl trivial rfl ?_
  first | refine Tr.skp rfl ⟨_, _, rfl, rfl, by first | exact .inl rfl | exact .inr rfl⟩ ?_ | (refine Tr.move rfl rfl ⟨_, rfl, rfl⟩ rfl ?_)
  first | refine Tr.skp rfl ⟨_, _, rfl, rfl, by first | exact .inl rfl | exact .inr rfl⟩ ?_ | (refine Tr.eql rfl rfl (by first | with_reducible assumption | exact decide_eq_true (by omega) | exact decide_eq_false (by omega) | exact beq_iff_eq.2 (by omega) | exact beq_eq_false_iff_ne.2 (by omega) | exact bne_iff_ne.2 (by omega) | rfl) rfl ⟨_, rfl, rfl⟩ rfl ?_)
  first | refine Tr.pickT rfl rfl rfl trivial rfl ?_ | refine Tr.pickF rfl rfl rfl trivial rfl ?_
  refine Tr.move rfl rfl trivial rfl ?_
  first | refine Tr.skp rfl ⟨_, _, rfl, rfl, by first | exact .inl rfl | exact .inr rfl⟩ ?_ | (refine Tr.move rfl rfl ⟨_, rfl, rfl⟩ rfl ?_)
  first | refine Tr.skp rfl ⟨_, _, rfl, rfl, by first | exact .inl rfl | exact .inr rfl⟩ ?_ | (refine Tr.eql rfl rfl (by first | with_reducible assumption | exact decide_eq_true (by omega) | exact decide_eq_false (by omega) | exact beq_iff_eq.2 (by omega) | exact beq_eq_false_iff_ne.2 (by omega) | exact bne_iff_ne.2 (by omega) | rfl) rfl ⟨_, rfl, rfl⟩ rfl ?_)
  first | refine Tr.pickT rfl rfl rfl trivial rfl ?_ | refine Tr.pickF rfl rfl rfl trivial rfl ?_
  refine Tr.move rfl rfl trivial rfl ?_
  first | refine Tr.skp rfl ⟨_, _, rfl, rfl, by first | exact .inl rfl | exact .inr rfl⟩ ?_ | (refine Tr.loadA tab rfl rfl rfl (by repeat (first | exact .head _ | refine .tail _ ?_ | refine List.mem_append_right _ ?_)) (At.all _) (pc_len _) rfl ⟨_, rfl, rfl⟩ rfl ?_)
  first | refine Tr.skp rfl ⟨_, _, rfl, rfl, by first | exact .inl rfl | exact .inr rfl⟩ ?_ | (refine Tr.call rfl f50_zero (by repeat (first | exact Has.nil | refine Has.cons (by repeat (first | exact .head _ | refine .tail _ ?_ | refine List.mem_append_right _ ?_)) ?_)) rfl ⟨_, rfl, rfl⟩ rfl ?_)
  first | refine Tr.skp rfl ⟨_, _, rfl, rfl, by first | exact .inl rfl | exact .inr rfl⟩ ?_ | (refine Tr.eqlPt (p := .zero) (q := .zero) rfl rfl (decide_eq_true rfl) rfl ⟨_, rfl, rfl⟩ rfl ?_)
  first | refine Tr.pickT rfl rfl rfl trivial rfl ?_ | refine Tr.pickF rfl rfl rfl trivial rfl ?_
  refine Tr.move rfl rfl trivial rfl ?_
  first | refine Tr.skp rfl ⟨_, _, rfl, rfl, by first | exact .inl rfl | exact .inr rfl⟩ ?_ | (refine Tr.move rfl rfl ⟨_, rfl, rfl⟩ rfl ?_)
  first | refine Tr.skp rfl ⟨_, _, rfl, rfl, by first | exact .inl rfl | exact .inr rfl⟩ ?_ | (refine Tr.eql rfl rfl (by first | with_reducible assumption | exact decide_eq_true (by omega) | exact decide_eq_false (by omega) | exact beq_iff_eq.2 (by omega) | exact beq_eq_false_iff_ne.2 (by omega) | exact bne_iff_ne.2 (by omega) | rfl) rfl ⟨_, rfl, rfl⟩ rfl ?_)
  first | refine Tr.pickT rfl rfl rfl trivial rfl ?_ | refine Tr.pickF rfl rfl rfl trivial rfl ?_
  refine Tr.move rfl rfl trivial rfl ?_
  first | refine Tr.skp rfl ⟨_, _, rfl, rfl, by first | exact .inl rfl | exact .inr rfl⟩ ?_ | (refine Tr.call rfl f50_zero (by repeat (first | exact Has.nil | refine Has.cons (by repeat (first | exact .head _ | refine .tail _ ?_ | refine List.mem_append_right _ ?_)) ?_)) rfl ⟨_, rfl, rfl⟩ rfl ?_)
  first | refine Tr.skp rfl ⟨_, _, rfl, rfl, by first | exact .inl rfl | exact .inr rfl⟩ ?_ | (refine Tr.buildA tab rfl rfl rfl rfl (by simp [fillC, splice, vcells, Value.cells, zrep_one]; rfl) rfl ⟨_, rfl, rfl⟩ rfl ?_)
  first | refine Tr.skp rfl ⟨_, _, rfl, rfl, by first | exact .inl rfl | exact .inr rfl⟩ ?_ | (refine Tr.buildS (l := [(0, 32), (32, 32)]) tab rfl rfl rfl rfl (fill_p1 (by rfl)) rfl ⟨_, rfl, rfl⟩ rfl ?_)
  first | refine Tr.skp rfl ⟨_, _, rfl, rfl, by first | exact .inl rfl | exact .inr rfl⟩ ?_ | (refine Tr.eqlPt (p := .zero) (q := .zero) rfl (congrArg some hz0) (decide_eq_true rfl) rfl ⟨_, rfl, rfl⟩ rfl ?_)
  first | refine Tr.pickT rfl rfl rfl trivial rfl ?_ | refine Tr.pickF rfl rfl rfl trivial rfl ?_
  refine Tr.assign rfl rfl trivial rfl ?_
  refine Tr.nil ?_ (fun _ => rfl) (List.Perm.refl _)
  refine Wp.ret ?_
  exact ⟨.inr rfl, .r1 rfl (RvIs.tmp rfl)⟩

theorem f46_awake : FnR Try.prog 46 [] [] (.bool true) := f46_core base_on f45_base (by rw [base_packs]; exact base_b0) (by rw [base_packs]; exact base_b31)

/-! ### point, add, scaled: the calls without their errors -/
section
variable (a0 : Option Addr) (dd : List UInt8) (cp : Nat) (rd : List Ent) (hsrc : Src a0 dd cp rd) (hrd : ∀ e, e ∈ rd → e.rw = false) (hd : dd.length ≤ 1000000)
include hsrc hrd hd

theorem f48_core {B : Pt} (hB : B.on) (h45 : FnR Try.prog 45 [] [] (pv B)) : FnR Try.prog 48 [.slice a0 dd.length cp] rd (pv (nsm (n8 dd) B)) := by
  have h42 := f42_scale a0 dd cp rd hsrc hrd hd hB
  generalize nsm (n8 dd) B = R at *
  refine fnR_of 12 rfl Try.func48 rfl (by kernel_rfl) rfl hrd fun w => ?_
  refine Wp.seq ?_
  refine Wp.reg allGen ?_
  refine Tr.alloc tab rfl rfl trivial rfl (fun B2 _ => ?_)
  refine Tr.nil ?_ (fun _ => rfl) (List.Perm.refl _)
  refine Wp.seq ?_
  refine Wp.reg allGen ?_
  refine Tr.move rfl rfl trivial rfl ?_
  refine Tr.call rfl h45 Has.nil rfl trivial rfl ?_
  refine Tr.call rfl h42 (Has.sub (by intro e he; repeat (first | exact he | refine .tail _ ?_))) rfl trivial rfl ?_
  refine Tr.move rfl rfl trivial rfl ?_
  refine Tr.extract rfl rfl rfl trivial rfl ?_
  refine Tr.extract rfl rfl rfl trivial rfl ?_
  refine Tr.alloc tab rfl rfl trivial rfl (fun B3 _ => ?_)
  refine Tr.storeA tab rfl rfl rfl (by repeat (first | exact .here | apply MU.there | apply MU.app)) (by exact pc_len _) (by exact pc_len _) (pc_one _) trivial rfl ?_
  refine Tr.assign rfl rfl trivial rfl ?_
  refine Tr.nil ?_ (fun _ => rfl) (List.Perm.refl _)
  refine Wp.seq ?_
  refine Wp.reg allGen ?_
  refine Tr.loadA tab rfl rfl rfl (by repeat (first | exact .head _ | refine .tail _ ?_ | refine List.mem_append_right _ ?_)) (At.all _) (pc_len _) rfl trivial rfl ?_
  refine Tr.storeA tab rfl rfl rfl (by repeat (first | exact .here | apply MU.there | apply MU.app)) (by exact pc_len _) (by exact pc_len _) (pc_one _) trivial rfl ?_
  refine Tr.nil ?_ (fun _ => rfl) (List.Perm.refl _)
  refine Wp.ret ?_
  exact ⟨.inr rfl, .r1 rfl (RvIs.cellA tab rfl rfl rfl (by repeat (first | exact .head _ | refine .tail _ ?_ | refine List.mem_append_right _ ?_)) (At.all _) (pc_len _))⟩

theorem f48_point : FnR Try.prog 48 [.slice a0 dd.length cp] rd (pv (nsm (n8 dd) baseP)) := f48_core a0 dd cp rd hsrc hrd hd base_on f45_base

theorem f54_scaled {p : Pt} (hp : p.on) : FnR Try.prog 54 [.slice a0 dd.length cp, pv p] rd (pv (nsm (n8 dd) p)) := by
  have h42 := f42_scale a0 dd cp rd hsrc hrd hd hp
  generalize nsm (n8 dd) p = R at *
  refine fnR_of 14 rfl Try.func54 rfl (by kernel_rfl) rfl hrd fun w => ?_
  refine Wp.seq ?_
  refine Wp.reg allGen ?_
  refine Tr.boxA rfl rfl trivial rfl (fun B3 _ => ?_)
  refine Tr.alloc tab rfl rfl trivial rfl (fun B4 _ => ?_)
  refine Tr.nil ?_ (fun _ => rfl) (List.Perm.refl _)
  refine Wp.seq ?_
  refine Wp.reg allGen ?_
  refine Tr.move rfl rfl trivial rfl ?_
  refine Tr.loadA tab rfl rfl rfl (by repeat (first | exact .head _ | refine .tail _ ?_ | refine List.mem_append_right _ ?_)) (At.all _) (pc_len _) rfl trivial rfl ?_
  refine Tr.call rfl h42 (Has.sub (by intro e he; repeat (first | exact he | refine .tail _ ?_))) rfl trivial rfl ?_
  refine Tr.move rfl rfl trivial rfl ?_
  refine Tr.extract rfl rfl rfl trivial rfl ?_
  refine Tr.extract rfl rfl rfl trivial rfl ?_
  refine Tr.alloc tab rfl rfl trivial rfl (fun B5 _ => ?_)
  refine Tr.storeA tab rfl rfl rfl (by repeat (first | exact .here | apply MU.there | apply MU.app)) (by exact pc_len _) (by exact pc_len _) (pc_one _) trivial rfl ?_
  refine Tr.assign rfl rfl trivial rfl ?_
  refine Tr.nil ?_ (fun _ => rfl) (List.Perm.refl _)
  refine Wp.seq ?_
  refine Wp.reg allGen ?_
  refine Tr.loadA tab rfl rfl rfl (by repeat (first | exact .head _ | refine .tail _ ?_ | refine List.mem_append_right _ ?_)) (At.all _) (pc_len _) rfl trivial rfl ?_
  refine Tr.storeA tab rfl rfl rfl (by repeat (first | exact .here | apply MU.there | apply MU.app)) (by exact pc_len _) (by exact pc_len _) (pc_one _) trivial rfl ?_
  refine Tr.nil ?_ (fun _ => rfl) (List.Perm.refl _)
  refine Wp.ret ?_
  exact ⟨.inr rfl, .r1 rfl (RvIs.cellA tab rfl rfl rfl (by repeat (first | exact .head _ | refine .tail _ ?_ | refine List.mem_append_right _ ?_)) (At.all _) (pc_len _))⟩
end

theorem f51_add {p q : Pt} (hp : p.on) (hq : q.on) : FnR Try.prog 51 [pv p, pv q] [] (pv (p.add q)) := by
  have h40 := f40_add hp hq
  generalize p.add q = R at *
  refine fnR_of 14 rfl Try.func51 rfl (by kernel_rfl) rfl (by simp) fun w => ?_
  refine Wp.seq ?_
  refine Wp.reg allGen ?_
  refine Tr.boxA rfl rfl trivial rfl (fun B2 _ => ?_)
  refine Tr.boxA rfl rfl trivial rfl (fun B3 _ => ?_)
  refine Tr.alloc tab rfl rfl trivial rfl (fun B4 _ => ?_)
  refine Tr.nil ?_ (fun _ => rfl) (List.Perm.refl _)
  refine Wp.seq ?_
  refine Wp.reg allGen ?_
  refine Tr.loadA tab rfl rfl rfl (by repeat (first | exact .head _ | refine .tail _ ?_ | refine List.mem_append_right _ ?_)) (At.all _) (pc_len _) rfl trivial rfl ?_
  refine Tr.loadA tab rfl rfl rfl (by repeat (first | exact .head _ | refine .tail _ ?_ | refine List.mem_append_right _ ?_)) (At.all _) (pc_len _) rfl trivial rfl ?_
  refine Tr.call rfl h40 (by repeat (first | exact Has.nil | refine Has.cons (by repeat (first | exact .head _ | refine .tail _ ?_ | refine List.mem_append_right _ ?_)) ?_)) rfl trivial rfl ?_
  refine Tr.move rfl rfl trivial rfl ?_
  refine Tr.extract rfl rfl rfl trivial rfl ?_
  refine Tr.extract rfl rfl rfl trivial rfl ?_
  refine Tr.alloc tab rfl rfl trivial rfl (fun B5 _ => ?_)
  refine Tr.storeA tab rfl rfl rfl (by repeat (first | exact .here | apply MU.there | apply MU.app)) (by exact pc_len _) (by exact pc_len _) (pc_one _) trivial rfl ?_
  refine Tr.assign rfl rfl trivial rfl ?_
  refine Tr.nil ?_ (fun _ => rfl) (List.Perm.refl _)
  refine Wp.seq ?_
  refine Wp.reg allGen ?_
  refine Tr.loadA tab rfl rfl rfl (by repeat (first | exact .head _ | refine .tail _ ?_ | refine List.mem_append_right _ ?_)) (At.all _) (pc_len _) rfl trivial rfl ?_
  refine Tr.storeA tab rfl rfl rfl (by repeat (first | exact .here | apply MU.there | apply MU.app)) (by exact pc_len _) (by exact pc_len _) (pc_one _) trivial rfl ?_
  refine Tr.nil ?_ (fun _ => rfl) (List.Perm.refl _)
  refine Wp.ret ?_
  exact ⟨.inr rfl, .r1 rfl (RvIs.cellA tab rfl rfl rfl (by repeat (first | exact .head _ | refine .tail _ ?_ | refine List.mem_append_right _ ?_)) (At.all _) (pc_len _))⟩
end Go.Proofs.Ytffghaeaohabhaa.AW
