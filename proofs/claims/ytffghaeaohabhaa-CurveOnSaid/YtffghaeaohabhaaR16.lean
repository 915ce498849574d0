import Derived.Test.YtffghaeaohabhaaR15
namespace Go.Proofs.Ytffghaeaohabhaa.AW
open Go NT
set_option maxRecDepth 100000

/-- calls of the first functions hand new memory back, of the second read one's own rows and hand new memory back -/
def kindM (cs gs : List Nat) (o : Oper) : K :=
  match o.op with
  | .call { callee := .value (.func f), .. } => if cs.contains f then .cal else if gs.contains f then .gen else .read
  | _ => kindOf o

section
variable (a0 : Option Addr) (A : List UInt8) (ca : Nat) (rd : List Ent) (hr : Row a0 A ca rd) (hrd : ∀ e, e ∈ rd → e.rw = false)
include hr hrd

theorem f124_round (hA : A.length ≤ 1000) : FnG Try.prog 124 [.slice a0 A.length ca] rd (fun v es => Fresh (u8s (nat8 (n8 A % P))) v es) := by
  have hn := f152_norm a0 A ca rd hr hrd (by omega)
  have hlen : (nat8 (n8 A)).length ≤ 1000 := Nat.le_trans (nat8_len _ _ (n8_lt' A)) hA
  have h1 := fun {g : Gh} (hg : g.n = 58) v es => round_loop1 hg (n8 A) hlen v es
  have h2 := fun {g : Gh} (hg : g.n = 58) m (hm : m % P = n8 A % P) hl v es => by
    have := round_loop2 hg m hl v es
    rw [hm] at this
    exact this
  generalize n8 A % P = R at *
  refine fnG_of 58 rfl Try.func124 rfl (by kernel_rfl) rfl hrd fun w => ?_
  refine Wp.seq ?_
  refine Wp.reg allGen ?_
  refine Tr.assign rfl rfl trivial rfl ?_
  refine Tr.nil ?_ (fun _ => rfl) (List.Perm.refl _)
  refine Wp.seq ?_
  refine Wp.reg allGen ?_
  refine Tr.move rfl rfl trivial rfl ?_
  refine Tr.callG rfl hn (Has.self _) rfl trivial rfl ?_
  intro v0 es0 hf0
  refine Tr.assign rfl rfl trivial rfl ?_
  refine Tr.nil ?_ (fun _ => rfl) (List.Perm.refl _)
  refine Wp.seq ?_
  refine Wp.block ?_
  refine Wp.loopQ (h1 rfl v0 es0 hf0) (Wk.mk (by repeat (first | exact ESub.nil | refine ESub.cons rfl (by first | rfl | (simp; done) | (simp; omega)) ?_)) (MSub.left es0 _)) ?_
  rintro _ env1 mem1 ⟨rfl, m, v1, es1, hm, hl, hf1, hw1⟩
  refine Wp.weak ?_ hw1
  refine Wp.seq ?_
  refine Wp.block ?_
  refine Wp.loopQ (h2 rfl m hm hl v1 es1 hf1) (Wk.mk (by repeat (first | exact ESub.nil | refine ESub.cons rfl (by first | rfl | (simp; done) | (simp; omega)) ?_)) (MSub.refl _)) ?_
  rintro _ env2 mem2 ⟨rfl, v2, es2, hf2, hw2⟩
  refine Wp.weak ?_ hw2
  refine Wp.seq ?_
  refine Wp.reg allGen ?_
  refine Tr.move rfl rfl trivial rfl ?_
  refine Tr.assign rfl rfl trivial rfl ?_
  refine Tr.nil ?_ (fun _ => rfl) (List.Perm.refl _)
  refine Wp.ret ?_
  exact ⟨.inr rfl, v2, es2, hf2, .r1 rfl (RvIs.tmp rfl), MSub.refl _, hf2.rw⟩
end

theorem full_nat8 {n : Nat} (h : n < 256 ^ 32) (a0 : Option Addr) (ca : Nat) (rd : List Ent) (hr : Row a0 (nat8 n) ca rd) (hrd : ∀ e, e ∈ rd → e.rw = false) :
    FnR Try.prog 123 [.slice a0 (nat8 n).length ca] rd (.agg (u8s (b8 32 n)).toArray) := by
  have := f123_full a0 (nat8 n) ca rd hr hrd (nat8_len n 32 h)
  rw [b8_nat8 n 32 h] at this
  exact this

theorem modP_lt (n : Nat) : n % P < 256 ^ 32 := Nat.lt_trans (Nat.mod_lt _ P_pos) (by rw [P_eq]; decide)
theorem bt_len (k n : Nat) : (u8s (b8 k n)).length = k := by simp [b8_len]

section
variable (A B : List UInt8) (hA : A.length = 32) (hB : B.length = 32)
include hA

theorem f80_is : FnR Try.prog 80 [.agg (u8s A).toArray] [] (.bool (decide (n8 A < P))) := by
  have hc : decide (cmpN (n8 A) P < 0) = decide (n8 A < P) := by
    unfold cmpN
    by_cases h : n8 A < P
    · rw [if_pos h, decide_eq_true h]; rfl
    · rw [if_neg h, decide_eq_false h]; split <;> rfl
  have hP := fun v2 es2 (h : Fresh (u8s pL) v2 es2) => h.toRow
  have hcmp := fun b1 a2 c2 es2 (hr2 : Row a2 pL c2 (ro es2)) => f120' (c := cmpN (n8 A) P) (Row.left (Row.one b1 A 32 hA) (ro es2)) (hr2.right [⟨b1, u8s A, false⟩]) (rw_two rw_one (ro_rw es2)) (by omega) (by decide) (by rw [pL_n8])
  rw [pL_len] at hP hcmp
  rw [hA] at hcmp
  generalize cmpN (n8 A) P = cc at *
  generalize decide (n8 A < P) = r at *
  refine fnR_of 7 rfl Try.func80 rfl (by kernel_rfl) rfl (by simp) fun w => ?_
  refine Wp.seq ?_
  refine Wp.reg allGen ?_
  refine Tr.boxA rfl rfl trivial rfl (fun B1 _ => ?_)
  refine Tr.assign rfl rfl trivial rfl ?_
  refine Tr.nil ?_ (fun _ => rfl) (List.Perm.refl _)
  refine Wp.seq ?_
  refine Wp.regE (kindM [121] []) mo (by kernel_rfl) ?_
  refine Tr.sliceArr tab rfl rfl rfl rfl rfl trivial rfl ?_
  refine Tr.callC rfl f121_p rfl trivial rfl ?_
  intro v2 es2 hf2
  obtain ⟨a2, c2, rfl, hr2⟩ := hP v2 es2 hf2
  refine Tr.call rfl (hcmp B1 a2 c2 es2 hr2) (Has.two (Has.cons (by repeat (first | exact .head _ | refine .tail _ ?_ | refine List.mem_append_right _ ?_)) Has.nil) (Has.ro (fun e he => by repeat (first | exact List.mem_append_left _ he | exact he | refine .tail _ ?_ | refine List.mem_append_right _ ?_)))) rfl trivial rfl ?_
  refine Tr.lss rfl rfl hc rfl trivial rfl ?_
  refine Tr.assign rfl rfl trivial rfl ?_
  refine Tr.nil ?_ (fun _ => rfl) (List.Perm.refl _)
  refine Wp.ret ?_
  refine ⟨by first | exact .inl rfl | exact .inr rfl, ?_⟩
  exact .r1 rfl (RvIs.tmp rfl)

include hB

theorem f95_add : FnR Try.prog 95 [.agg (u8s A).toArray, .agg (u8s B).toArray] [] (.agg (u8s (b8 32 ((n8 A + n8 B) % P))).toArray) := by
  have hs : (nat8 (n8 A + n8 B)).length ≤ 1000 := Nat.le_trans (nat8_len _ 33 (by
    have h1 := n8_lt' A
    have h2 := n8_lt' B
    rw [hA] at h1; rw [hB] at h2
    rw [show (256 : Nat) ^ 33 = 256 * 256 ^ 32 by decide +kernel]
    omega)) (by decide)
  have h1 := fun b1 b2 => f126' (Row.left (Row.one b1 A 32 hA) [⟨b2, u8s B, false⟩]) (Row.right (Row.one b2 B 32 hB) [⟨b1, u8s A, false⟩]) (rw_two rw_one rw_one) (by omega) (by omega) rfl
  rw [hA, hB] at h1
  have h2 := fun a c es hr => f124_round a (nat8 (n8 A + n8 B)) c (ro es) hr (ro_rw es) hs
  rw [n8_nat8] at h2
  have h3 := fun a c es hr => full_nat8 (modP_lt (n8 A + n8 B)) a c (ro es) hr (ro_rw es)
  have hl := bt_len 32 ((n8 A + n8 B) % P)
  have hone := bt_one (b8 32 ((n8 A + n8 B) % P))
  generalize (n8 A + n8 B) % P = R at *
  generalize n8 A + n8 B = S at *
  refine fnR_of 10 rfl Try.func95 rfl (by kernel_rfl) rfl (by simp) fun w => ?_
  refine Wp.seq ?_
  refine Wp.reg allGen ?_
  refine Tr.boxA rfl rfl trivial rfl (fun B2 _ => ?_)
  refine Tr.boxA rfl rfl trivial rfl (fun B3 _ => ?_)
  refine Tr.alloc tab rfl rfl trivial rfl (fun B4 _ => ?_)
  refine Tr.nil ?_ (fun _ => rfl) (List.Perm.refl _)
  refine Wp.seq ?_
  refine Wp.regE (kindG [126, 124, 123]) mo (by kernel_rfl) ?_
  refine Tr.sliceArr tab rfl rfl rfl rfl rfl trivial rfl ?_
  refine Tr.sliceArr tab rfl rfl rfl rfl rfl trivial rfl ?_
  refine Tr.callG rfl (h1 B2 B3) (Has.two (Has.cons (by repeat (first | exact .head _ | refine .tail _ ?_ | refine List.mem_append_right _ ?_)) Has.nil) (Has.cons (by repeat (first | exact .head _ | refine .tail _ ?_ | refine List.mem_append_right _ ?_)) Has.nil)) rfl trivial rfl ?_
  intro v1 es1 hf1
  obtain ⟨a1, c1, rfl, hr1⟩ := hf1.toRow
  refine Tr.callG rfl (h2 a1 c1 es1 hr1) (Has.ro (fun e he => by repeat (first | exact List.mem_append_left _ he | exact he | refine .tail _ ?_ | refine List.mem_append_right _ ?_))) rfl trivial rfl ?_
  intro v2 es2 hf2
  obtain ⟨a2, c2, rfl, hr2⟩ := hf2.toRow
  refine Tr.call rfl (h3 a2 c2 es2 hr2) (Has.ro (fun e he => by repeat (first | exact List.mem_append_left _ he | exact he | refine .tail _ ?_ | refine List.mem_append_right _ ?_))) rfl trivial rfl ?_
  refine Tr.storeA tab rfl rfl rfl (by repeat (first | exact .here | apply MU.there | apply MU.app)) (by exact hl) (by exact hl) hone trivial rfl ?_
  refine Tr.nil ?_ (fun _ => rfl) (List.Perm.refl _)
  refine Wp.ret ?_
  exact ⟨.inr rfl, .r1 rfl (RvIs.cellA tab rfl rfl rfl (by repeat (first | exact .head _ | refine .tail _ ?_ | refine List.mem_append_right _ ?_)) (At.all _) hl)⟩

theorem f83_sub : FnR Try.prog 83 [.agg (u8s A).toArray, .agg (u8s B).toArray] [] (.agg (u8s (b8 32 ((n8 A + (P - n8 B)) % P))).toArray) := by
  have hP := fun v2 es2 (h : Fresh (u8s pL) v2 es2) => h.toRow
  have h0 := fun b3 a2 c2 es2 (hr2 : Row a2 pL c2 (ro es2)) => f125' (s := P - n8 B) (hr2.left [⟨b3, u8s B, false⟩]) (Row.right (Row.one b3 B 32 hB) (ro es2)) (rw_two (ro_rw es2) rw_one) (by decide) (by omega) (by rw [pL_n8])
  rw [pL_len] at hP h0
  rw [hB] at h0
  have hsP : P - n8 B ≤ P := Nat.sub_le _ _
  have hPl : P < 256 ^ 32 := by rw [P_eq]; decide
  have hdl : (nat8 (P - n8 B)).length ≤ 32 := nat8_len _ 32 (by omega)
  have hs : (nat8 (n8 A + (P - n8 B))).length ≤ 1000 := Nat.le_trans (nat8_len _ 33 (by
    have h1 := n8_lt' A
    rw [hA] at h1
    rw [show (256 : Nat) ^ 33 = 256 * 256 ^ 32 by decide +kernel]
    omega)) (by decide)
  generalize P - n8 B = D at *
  have h1 := fun b2 a4 c4 es4 (hr4 : Row a4 (nat8 D) c4 (ro es4)) => f126' (s := n8 A + D) (Row.left (Row.one b2 A 32 hA) (ro es4)) (hr4.right [⟨b2, u8s A, false⟩]) (rw_two rw_one (ro_rw es4)) (by omega) (by omega) (by rw [n8_nat8])
  rw [hA] at h1
  have h2 := fun a c es hr => f124_round a (nat8 (n8 A + D)) c (ro es) hr (ro_rw es) hs
  rw [n8_nat8] at h2
  have h3 := fun a c es hr => full_nat8 (modP_lt (n8 A + D)) a c (ro es) hr (ro_rw es)
  have hl := bt_len 32 ((n8 A + D) % P)
  have hone := bt_one (b8 32 ((n8 A + D) % P))
  generalize (n8 A + D) % P = R at *
  generalize n8 A + D = S at *
  refine fnR_of 14 rfl Try.func83 rfl (by kernel_rfl) rfl (by simp) fun w => ?_
  refine Wp.seq ?_
  refine Wp.reg allGen ?_
  refine Tr.boxA rfl rfl trivial rfl (fun B2 _ => ?_)
  refine Tr.boxA rfl rfl trivial rfl (fun B3 _ => ?_)
  refine Tr.alloc tab rfl rfl trivial rfl (fun B4 _ => ?_)
  refine Tr.nil ?_ (fun _ => rfl) (List.Perm.refl _)
  refine Wp.seq ?_
  refine Wp.regD (kindM [121] [125]) [1, 0, 2, 3] mo (by kernel_rfl) ?_
  refine Tr.sliceArr tab rfl rfl rfl rfl rfl trivial rfl ?_
  refine Tr.callC rfl f121_p rfl trivial rfl ?_
  intro v2 es2 hf2
  obtain ⟨a2, c2, rfl, hr2⟩ := hP v2 es2 hf2
  refine Tr.callG rfl (h0 B3 a2 c2 es2 hr2) (Has.two (Has.ro (fun e he => by repeat (first | exact List.mem_append_left _ he | exact he | refine .tail _ ?_ | refine List.mem_append_right _ ?_))) (Has.cons (by repeat (first | exact .head _ | refine .tail _ ?_ | refine List.mem_append_right _ ?_)) Has.nil)) rfl trivial rfl ?_
  intro v4 es4 hf4
  obtain ⟨a4, c4, rfl, hr4⟩ := hf4.toRow
  refine Tr.assign rfl rfl trivial rfl ?_
  refine Tr.nil ?_ (fun _ => rfl) (List.Perm.refl _)
  refine Wp.seq ?_
  refine Wp.reg allGen ?_
  refine Tr.sliceArr tab rfl rfl rfl rfl rfl trivial rfl ?_
  refine Tr.move rfl rfl trivial rfl ?_
  refine Tr.callG rfl (h1 B2 a4 c4 es4 hr4) (Has.two (Has.cons (by repeat (first | exact .head _ | refine .tail _ ?_ | refine List.mem_append_right _ ?_)) Has.nil) (Has.ro (fun e he => by repeat (first | exact List.mem_append_left _ he | exact he | refine .tail _ ?_ | refine List.mem_append_right _ ?_)))) rfl trivial rfl ?_
  intro v1 es1 hf1
  obtain ⟨a1, c1, rfl, hr1⟩ := hf1.toRow
  refine Tr.callG rfl (h2 a1 c1 es1 hr1) (Has.ro (fun e he => by repeat (first | exact List.mem_append_left _ he | exact he | refine .tail _ ?_ | refine List.mem_append_right _ ?_))) rfl trivial rfl ?_
  intro v5 es5 hf5
  obtain ⟨a5, c5, rfl, hr5⟩ := hf5.toRow
  refine Tr.call rfl (h3 a5 c5 es5 hr5) (Has.ro (fun e he => by repeat (first | exact List.mem_append_left _ he | exact he | refine .tail _ ?_ | refine List.mem_append_right _ ?_))) rfl trivial rfl ?_
  refine Tr.storeA tab rfl rfl rfl (by repeat (first | exact .here | apply MU.there | apply MU.app)) (by exact hl) (by exact hl) hone trivial rfl ?_
  refine Tr.nil ?_ (fun _ => rfl) (List.Perm.refl _)
  refine Wp.ret ?_
  exact ⟨.inr rfl, .r1 rfl (RvIs.cellA tab rfl rfl rfl (by repeat (first | exact .head _ | refine .tail _ ?_ | refine List.mem_append_right _ ?_)) (At.all _) hl)⟩
end
end Go.Proofs.Ytffghaeaohabhaa.AW
