/-
  Contracts of functions that write to blocks they are handed; more rules.
-/
import Derived.Test.YtffghaeaohabhaaOp2
namespace Go.Proofs.Ytffghaeaohabhaa.AW
open Go Go.RowKit

abbrev Dis (es : List Ent) : Prop := es.Pairwise (fun x y => (x.rw = true ∨ y.rw = true) → x.b ≠ y.b)

/-- w' is w but for the blocks of wr and new blocks -/
structure FrX (wr : List Ent) (w w' : World) : Prop where
  os : w'.os = w.os
  tape : w'.tape = w.tape
  output : w'.output = w.output
  size : w.heap.size ≤ w'.heap.size
  block : ∀ k, k < w.heap.size → (∀ e, e ∈ wr → e.b ≠ k) → w'.heap[k]? = w.heap[k]?

def PostM (wr : List Ent) (R : Value → List Ent → Prop) (w : World) (e : Ending) (w' : World) : Prop :=
  ∃ v es, e = .returned v ∧ R v es ∧ FrX wr w w' ∧ (∀ x, x ∈ es → x.holds w' ∧ x.rw = true ∧ ((∃ e, e ∈ wr ∧ e.b = x.b) ∨ w.heap.size ≤ x.b)) ∧ Dis es

/-- a call that writes to the blocks of wr, reads those of rd, hands new ones back -/
structure FnM (P : Program) (f : FuncId) (args : List Value) (wr rd : List Ent) (R : Value → List Ent → Prop) : Prop where
  callable : ∃ fn, P.funcs[f]? = some fn ∧ (fn.name == "runtime.NumGoroutine") = false ∧ fn.body.isNone = false
  allW : ∀ e, e ∈ wr → e.rw = true
  calls : ∀ w, (∀ e, e ∈ wr ++ rd → e.holds w) → Dis (wr ++ rd) → Calls P f args.toArray w (PostM wr R w)

inductive Take : List Ent → Mem → Mem → Prop where
  | nil {m : Mem} : Take [] m m
  | cons {e : Ent} {es : List Ent} {m m1 m2 : Mem} : Pick e m m1 → Take es m1 m2 → Take (e :: es) m m2

theorem Take.perm {es : List Ent} {m m' : Mem} (h : Take es m m') : m.Perm (es ++ m') := by
  induction h with
  | nil => exact List.Perm.refl _
  | cons hp _ ih => exact hp.perm.trans (ih.cons _)

section
variable {P : Program} {g : Gh} {all : Array Oper} {kd : Oper → K} {i : Nat} {o : Oper} {rest : List (Nat × Oper)} {env : Env} {mem : Mem} {Q : Env → Mem → Prop}
variable {T : List (Nat × TD)} {d ty : Nat} {p : String} {af : Array Edge} {gd : Option (Nat × Bool)} {x y z : Operand} {v u : Value} {t t' : Nat}

theorem MH.postM {wr : List Ent} {memR : Mem} {w w' : World} {es : List Ent} (hw : MH g (wr ++ memR) w) (hwr : ∀ e, e ∈ wr → e.rw = true) (hf : FrX wr w w')
    (he : ∀ x, x ∈ es → x.holds w' ∧ x.rw = true ∧ ((∃ e, e ∈ wr ∧ e.b = x.b) ∨ w.heap.size ≤ x.b)) (hd : Dis es) : MH g (es ++ memR) w' := by
  have hsep := List.pairwise_append.1 hw.sep
  have hne : ∀ y, y ∈ memR → ∀ e, e ∈ wr → e.b ≠ y.b := fun y hy e hx => hsep.2.2 e hx y hy (.inl (hwr e hx))
  refine ⟨fun e hx => ?_, List.pairwise_append.2 ⟨hd, hsep.2.1, fun x hx y hy _ => ?_⟩, fun e hx hr => ?_, ⟨hf.os.trans hw.fr.os, hf.tape.trans hw.fr.tape, hf.output.trans hw.fr.output, Nat.le_trans hw.fr.size hf.size, fun k hk hm => ?_⟩⟩
  · rcases List.mem_append.1 hx with hx | hx
    · exact (he e hx).1
    · have hh := hw.mem e (List.mem_append_right _ hx)
      have hlt := Ent.holds_lt hh
      obtain ⟨c, ty, fz, h1, h2⟩ := hh
      exact ⟨c, ty, fz, by rw [hf.block _ hlt (hne e hx)]; exact h1, h2⟩
  · rcases (he x hx).2.2 with ⟨e, h1, h2⟩ | h
    · rw [← h2]; exact hne y hy e h1
    · have := Ent.holds_lt (hw.mem y (List.mem_append_right _ hy))
      omega
  · rcases List.mem_append.1 hx with hx | hx
    · rcases (he e hx).2.2 with ⟨e', h1, h2⟩ | h
      · rw [← h2]; exact hw.own e' (List.mem_append_left _ h1) (hwr e' h1)
      · exact .inl (Nat.le_trans hw.fr.size h)
    · exact hw.own e (List.mem_append_right _ hx) hr
  · rw [hf.block k (Nat.lt_of_lt_of_le hk hw.fr.size) (fun e hx => ?_)]
    · exact hw.fr.block k hk hm
    · rintro rfl
      rcases hw.own e (List.mem_append_left _ hx) (hwr e hx) with h | h
      · omega
      · exact hm h

theorem Tr.callM {f : Nat} {as : List Operand} {vs : List Value} {ats : Array Nat} {wr rd : List Ent} {R : Value → List Ent → Prop} {memR : Mem} (hx : evs env as = some vs) (hc : FnM P f vs wr rd R) (ht : Take wr mem memR) (he : Has rd memR) (hrd : ∀ e, e ∈ rd → e.rw = false)
    (hrs : Dis rd) (hd : Nat.blt d g.n = true) (hW : Wants all ⟨some d, .call ⟨.value (.func f), as.toArray, ats⟩, ty, p, af, gd⟩ env) (hk : (kd ⟨some d, .call ⟨.value (.func f), as.toArray, ats⟩, ty, p, af, gd⟩).gOk = true)
    (next : ∀ v es, R v es → Tr P g all kd rest ((d, v) :: env) (es ++ memR) Q) : Tr P g all kd ((i, ⟨some d, .call ⟨.value (.func f), as.toArray, ats⟩, ty, p, af, gd⟩) :: rest) env mem Q := by
  refine .gen (fun env' mem' => ∃ v es, R v es ∧ env' = (d, v) :: env ∧ mem' = es ++ memR) (fun a w ha hw => ?_) hW (by revert hk; generalize kd _ = k; cases k <;> simp [K.gOk]) (fun _ _ h => by obtain ⟨v, es, h1, rfl, rfl⟩ := h; exact next v es h1)
  obtain ⟨fn, h1, h2, h3⟩ := hc.callable
  have hz := evs_zip hx
  have hargs : as.map a.eval = vs := map_of_zip (fun q hq => ha.ev (hz.1 q hq)) hz.2
  have hf : a.eval (.func f) = .func (.func f) #[] #[] := rfl
  have hrun : (execOp a.eval ⟨some d, .call ⟨.value (.func f), as.toArray, ats⟩, ty, p, af, gd⟩).run P w = .ok (.enter f vs.toArray) w := by
    have h2' : ¬ fn.name = "runtime.NumGoroutine" := by simpa using h2
    have h3' : ¬ fn.body = none := by intro e; rw [e] at h3; cases h3
    simp [execOp, resolve, hf, Deferred.ofValue, invoke, callFunc, h1, h2', h3', hargs]
  have hw' := hw.perm ht.perm.symm
  have hsep := List.pairwise_append.1 hw'.sep
  unfold Oper.wp
  rw [hrun]
  simp only [Oper.upon]
  refine (hc.calls w (fun e hx => ?_) (List.pairwise_append.2 ⟨hsep.1, hrs, fun e hx y hy hr => ?_⟩)).mono ?_
  · rcases List.mem_append.1 hx with hx | hx
    · exact hw'.mem e (List.mem_append_left _ hx)
    · obtain ⟨r, hr0, hr⟩ := he e hx
      exact Ent.holds_rw (hw'.mem ⟨e.b, e.cells, r⟩ (List.mem_append_right _ hr)) hr0
  · obtain ⟨r, _, hr'⟩ := he y hy
    exact hsep.2.2 e hx ⟨y.b, y.cells, r⟩ hr' (.inl (hc.allW e hx))
  · rintro e w' ⟨v, es, rfl, hR, hfr, hes, hdis⟩
    exact ⟨_, _, ha.put (some d) v (by rintro q ⟨⟩; simpa using hd), hw'.postM hc.allW hfr hes hdis, v, es, hR, rfl, rfl⟩

/-- the same, what comes back stands last -/
theorem Tr.callM' {f : Nat} {as : List Operand} {vs : List Value} {ats : Array Nat} {wr rd : List Ent} {R : Value → List Ent → Prop} {memR : Mem} (hx : evs env as = some vs) (hc : FnM P f vs wr rd R) (ht : Take wr mem memR) (he : Has rd memR) (hrd : ∀ e, e ∈ rd → e.rw = false)
    (hrs : Dis rd) (hd : Nat.blt d g.n = true) (hW : Wants all ⟨some d, .call ⟨.value (.func f), as.toArray, ats⟩, ty, p, af, gd⟩ env) (hk : (kd ⟨some d, .call ⟨.value (.func f), as.toArray, ats⟩, ty, p, af, gd⟩).gOk = true)
    (next : ∀ v es, R v es → Tr P g all kd rest ((d, v) :: env) (memR ++ es) Q) : Tr P g all kd ((i, ⟨some d, .call ⟨.value (.func f), as.toArray, ats⟩, ty, p, af, gd⟩) :: rest) env mem Q :=
  .callM hx hc ht he hrd hrs hd hW hk fun v es hr => (next v es hr).congr (fun _ => rfl) List.perm_append_comm

theorem Pick.append {e : Ent} {m m' : Mem} (h : Pick e m m') (l : Mem) : Pick e (l ++ m) (l ++ m') := by
  induction l with
  | nil => exact h
  | cons x l ih => exact .there ih

theorem Take.app : ∀ (es m : Mem), Take es (es ++ m) m
  | [], _ => .nil
  | _ :: es, m => .cons .here (Take.app es m)

theorem Take.appR : ∀ (es m : Mem), Take es (m ++ es) m
  | [], m => by simpa using Take.nil
  | _ :: es, m => .cons (Pick.append .here m) (Take.appR es m)

theorem Has.sub {rd mem : Mem} (h : ∀ e, e ∈ rd → e ∈ mem) : Has rd mem := fun e he => ⟨e.rw, id, h e he⟩

theorem Dis.ro {rd : Mem} (h : ∀ e, e ∈ rd → e.rw = false) : Dis rd := by
  refine List.Pairwise.imp_of_mem (R := fun _ _ => True) (fun {a b} ha hb' _ hx => ?_) (List.pairwise_of_forall (fun _ _ => trivial))
  rcases hx with hx | hx
  · rw [h a ha] at hx; cases hx
  · rw [h b hb'] at hx; cases hx

theorem fnM_of {f : FuncId} {fn : Func} {c : Code} {args : List Value} {wr rd : List Ent} {R : Value → List Ent → Prop} (n : Nat) (hnt : fn.ntmps = n) (hf : P.funcs[f]? = some fn) (hb : fn.body = some c) (hn : (fn.name == "runtime.NumGoroutine") = false)
    (hl : Nat.ble args.length n = true) (hwr : ∀ e, e ∈ wr → e.rw = true) (hr : ∀ e, e ∈ rd → e.rw = false)
    (h : ∀ w may, Wp P ⟨n, w, may⟩ c (fun e env mem => (e = .normal ∨ e = .ret) ∧ ∃ v es, R v es ∧ ResIs P ⟨n, w, may⟩ fn env mem v ∧ MSub es mem ∧ ∀ x, x ∈ es → x.rw = true) (parE 0 args) (wr ++ rd)) : FnM P f args wr rd R := by
  subst hnt
  refine ⟨⟨fn, hf, hn, by simp [hb]⟩, hwr, fun w hw hdis => calls_of_wp hf hb ?_⟩
  have hl' := Nat.le_of_ble_eq_true hl
  refine wp_mono (h w (fun k => ∃ e, e ∈ wr ∧ e.b = k) _ w ⟨rfl, by simp; omega, fun t u ht => ?_⟩ ⟨hw, hdis, fun e he hx => ?_, ⟨rfl, rfl, rfl, Nat.le_refl _, fun _ _ _ => rfl⟩⟩) ?_
  · obtain ⟨_, h2⟩ := lk_parE args 0 t u ht
    have hlt : t < args.length := by
      rcases Nat.lt_or_ge t args.length with h | h
      · exact h
      · rw [Nat.sub_zero, List.getElem?_eq_none h] at h2; cases h2
    rw [Array.getElem?_append_left (by simpa using hlt)]
    simpa using h2
  · rcases List.mem_append.1 he with he | he
    · exact .inr ⟨e, he, rfl⟩
    · rw [hr e he] at hx; cases hx
  · rintro e a' w' ⟨env', mem', x1, x2, x3, v, es, x4, x5, x6, x7⟩
    have hbel : FrX wr w w' := ⟨x2.fr.os, x2.fr.tape, x2.fr.output, x2.fr.size, fun k hk hm => x2.fr.block k hk (by rintro ⟨e, h1, h2⟩; exact hm e h1 h2)⟩
    have x8 := MH.sub x6 w' x2
    rcases x3 with rfl | rfl <;> exact ⟨x1.defers, v, x5 a' w' x1 x2, v, es, rfl, x4, hbel, fun x hx => ⟨x8.mem x hx, x7 x hx, (x8.own x hx (x7 x hx)).symm⟩, x8.sep⟩

/-- entries may be forgotten in part -/
theorem Ent.holds_cut {b : Nat} {c t : List Value} {rw : Bool} {w : World} (h : Ent.holds ⟨b, c ++ t, rw⟩ w) : Ent.holds ⟨b, c, rw⟩ w := by
  obtain ⟨cc, ty, fz, h1, ⟨tl, h2⟩, h3⟩ := h
  exact ⟨cc, ty, fz, h1, ⟨t ++ tl, by rw [h2]; simp⟩, h3⟩

theorem Wk.cut {b : Nat} {c t : List Value} {rw : Bool} : Wk g env (⟨b, c ++ t, rw⟩ :: mem) env (⟨b, c, rw⟩ :: mem) :=
  ⟨fun _ h => h, fun w h => ⟨fun e he => by
    rcases List.mem_cons.1 he with rfl | he
    · exact Ent.holds_cut (h.mem ⟨b, c ++ t, rw⟩ (by simp))
    · exact h.mem e (.tail _ he), by
    have := h.sep
    rw [List.pairwise_cons] at this ⊢
    exact ⟨fun e he hr => this.1 e he hr, this.2⟩, fun e he hr => by
    rcases List.mem_cons.1 he with rfl | he
    · exact h.own ⟨b, c ++ t, rw⟩ (by simp) hr
    · exact h.own e (.tail _ he) hr, h.fr⟩⟩

theorem Wk.trans {env1 env2 : Env} {m1 m2 : Mem} (h : Wk g env mem env1 m1) (h' : Wk g env1 m1 env2 m2) : Wk g env mem env2 m2 :=
  ⟨fun a ha => h'.1 a (h.1 a ha), fun w hw => h'.2 w (h.2 w hw)⟩

/-! ### pointers and nil -/
theorem Tr.eqlPN (hT : TabOk P T) {D : TD} {el : Nat} (h1 : lk t T = some D) (h2 : D.desc = .pointer el) {ad : Addr} (hx : ev env x = some (.pointer (some ad))) (hy : ev env y = some (.pointer none)) (hd : Nat.blt d g.n = true) (hW : Wants all ⟨some d, .binOp .eql t x y t', ty, p, af, gd⟩ env) (hk : (kd ⟨some d, .binOp .eql t x y t', ty, p, af, gd⟩).vOk = true)
    (next : Tr P g all kd rest ((d, .bool false) :: env) mem Q) : Tr P g all kd ((i, ⟨some d, .binOp .eql t x y t', ty, p, af, gd⟩) :: rest) env mem Q :=
  .v (n2 x (.pointer (some ad)) y (.pointer none)) (.bool false) (opV_of fun a w hm => by
    have hu := hT.und h1 w
    rw [h2] at hu
    have he : (Op.equal t (.pointer (some ad)) (.pointer none)).run P w = .ok false w := by
      unfold Op.equal
      rw [show Op.maxDepth = (Op.maxDepth - 1) + 1 from rfl]
      simp only [Op.equalIn, Sem.run_bind, hu, Result.andThen_ok, Sem.run_pure]
    have hg := n2.get hm; simp [execOp, eqGuard, binOp, hg, he]) (n2.sat hx hy) (n2.within (by simp [Op.operands]) (by simp [Op.operands])) (.inl rfl) hd hW hk next

theorem Tr.eqlNN (hT : TabOk P T) {D : TD} {el : Nat} (h1 : lk t T = some D) (h2 : D.desc = .pointer el) (hx : ev env x = some (.pointer none)) (hy : ev env y = some (.pointer none)) (hd : Nat.blt d g.n = true) (hW : Wants all ⟨some d, .binOp .eql t x y t', ty, p, af, gd⟩ env) (hk : (kd ⟨some d, .binOp .eql t x y t', ty, p, af, gd⟩).vOk = true)
    (next : Tr P g all kd rest ((d, .bool true) :: env) mem Q) : Tr P g all kd ((i, ⟨some d, .binOp .eql t x y t', ty, p, af, gd⟩) :: rest) env mem Q :=
  .v (n2 x (.pointer none) y (.pointer none)) (.bool true) (opV_of fun a w hm => by
    have hu := hT.und h1 w
    rw [h2] at hu
    have he : (Op.equal t (.pointer none) (.pointer none)).run P w = .ok true w := by
      unfold Op.equal
      rw [show Op.maxDepth = (Op.maxDepth - 1) + 1 from rfl]
      simp only [Op.equalIn, Sem.run_bind, hu, Result.andThen_ok, Sem.run_pure, Option.isNone_none]
    have hg := n2.get hm; simp [execOp, eqGuard, binOp, hg, he]) (n2.sat hx hy) (n2.within (by simp [Op.operands]) (by simp [Op.operands])) (.inl rfl) hd hW hk next

theorem Tr.makeFunc1 {f : Nat} (hx : ev env x = some v) (hd : Nat.blt d g.n = true) (hW : Wants all ⟨some d, .makeFunc (.func f) #[] #[x], ty, p, af, gd⟩ env) (hk : (kd ⟨some d, .makeFunc (.func f) #[] #[x], ty, p, af, gd⟩).vOk = true)
    (next : Tr P g all kd rest ((d, .func (.func f) #[] #[v]) :: env) mem Q) : Tr P g all kd ((i, ⟨some d, .makeFunc (.func f) #[] #[x], ty, p, af, gd⟩) :: rest) env mem Q :=
  .v (n1 x v) (.func (.func f) #[] #[v]) (opV_of fun a w hm => by
    have hg := n1.get hm; simp [execOp, Instr.makeFunc, hg]) (n1.sat hx) (n1.within (by simp [Op.operands])) (.inl rfl) hd hW hk next

/-- onto a full row: a new one -/
theorem Tr.appendX (hT : TabOk P T) {e b0 off0 ln : Nat} {D D2 : TD} {ds : TypeDesc} {bs : Nat} {z0 : Value} {m l : List Value}
    (hx : ev env x = some (.slice (some ⟨b0, off0, none⟩) ln ln)) (hl : SrcOf mem (.slice (some ⟨b0, off0, none⟩) ln ln) l) (hln : l.length = ln) (hy : ev env y = some v) (hm : SrcOf mem v m) (hne : 0 < m.length)
    (h1 : lk t T = some D) (h2 : D.desc = .slice e) (h3 : lk e T = some ⟨ds, 1, bs, [z0]⟩) (h4 : lk t' T = some D2) (h5 : ∀ k, D2.desc ≠ .int k)
    (hb : (2 * (l.length + m.length) + 768) * bs ≤ 281474976710656) (hb2 : l.length + m.length ≤ 1099511627776)
    (hd : Nat.blt d g.n = true) (hW : Wants all ⟨some d, .call ⟨.builtin .append, #[x, y], #[t, t']⟩, ty, p, af, gd⟩ env) (hk : (kd ⟨some d, .call ⟨.builtin .append, #[x, y], #[t, t']⟩, ty, p, af, gd⟩).gOk = true)
    (next : ∀ (b : Nat) (pre sp : List Value), Tr P g all kd rest ((d, .slice (some ⟨b, pre.length, none⟩) (l.length + m.length) ((l.length + m.length) + sp.length)) :: env) (⟨b, pre ++ (l ++ m) ++ sp, true⟩ :: mem) Q) :
    Tr P g all kd ((i, ⟨some d, .call ⟨.builtin .append, #[x, y], #[t, t']⟩, ty, p, af, gd⟩) :: rest) env mem Q := by
  subst hln
  refine .gen (appended d env mem (l ++ m)) (fun a w ha hw => ?_) hW (by revert hk; generalize kd _ = k; cases k <;> simp [K.gOk]) ?_
  · have hbase : ∀ n, (Builtin.firstCells 1 l.length (.slice (some ⟨b0, off0, none⟩) l.length l.length)).run P { w with drawn := n } = .ok l.toArray { w with drawn := n } := fun n =>
      hl.cells (P := P) (hw.ext (below_drawn w n))
    have hrun := append_run (P := P) (ty := ty) hT h1 h2 h3 h4 h5 hm hw hbase hb hb2
    have g1 := ha.ev hx
    have g2 := ha.ev hy
    have hex : (execOp a.eval ⟨some d, .call ⟨.builtin .append, #[x, y], #[t, t']⟩, ty, p, af, gd⟩).run P w = ((Builtin.append_ #[t, t'] ty #[.slice (some ⟨b0, off0, none⟩) l.length l.length, v]).run P w).andThen fun u w' => .ok (.value u) w' := by
      simp [execOp, resolve, invoke, builtin, g1, g2]
    unfold Oper.wp
    rw [hex, hrun]
    have hdl : ∀ q, (some d : Option Nat) = some q → q < g.n := by rintro q ⟨⟩; simpa using hd
    rw [if_neg (by omega)]
    simp only [Result.andThen_ok, Oper.upon]
    generalize w.tape w.drawn _ % _ = k0
    rw [Nat.add_sub_cancel_left]
    have hw1 := hw.ext (below_drawn w (w.drawn + 1))
    refine ⟨_, _, ha.put (some d) _ hdl, hw1.alloc (l ++ m ++ List.replicate k0 z0) e, w.heap.size, [], List.replicate k0 z0, ?_, by simp⟩
    simp only [putE, List.length_append, List.length_replicate, List.length_nil]
  · rintro env' mem' ⟨b, pre, sp, rfl, rfl⟩
    have := next b pre sp
    simpa using this

/-- nil[:0:0] -/
theorem Tr.sliceHMN (hT : TabOk P T) {e : Nat} {k k' : IntKind} {oh om : Operand} {D E : TD}
    (hx : ev env x = some (.slice none 0 0)) (hh : ev env oh = some (.int k' 0)) (hm : ev env om = some (.int k 0)) (h1 : lk t T = some D) (h2 : D.desc = .slice e) (h3 : lk e T = some E)
    (hd : Nat.blt d g.n = true) (hW : Wants all ⟨some d, .slice t x none (some oh) (some om), ty, p, af, gd⟩ env) (hk : (kd ⟨some d, .slice t x none (some oh) (some om), ty, p, af, gd⟩).vOk = true)
    (next : Tr P g all kd rest ((d, .slice none 0 0) :: env) mem Q) :
    Tr P g all kd ((i, ⟨some d, .slice t x none (some oh) (some om), ty, p, af, gd⟩) :: rest) env mem Q := by
  refine .v ⟨[(x, .slice none 0 0), (oh, .int k' 0), (om, .int k 0)], []⟩ _ (opV_of fun a w hm' => ?_) ⟨by simp [hx, hh, hm], by simp⟩ (slice_within (by simp)) (.inl rfl) hd hW hk next
  have g1 : a.eval x = _ := hm'.1 (x, .slice none 0 0) (by simp)
  have g2 : a.eval oh = _ := hm'.1 (oh, .int k' 0) (by simp)
  have g3 : a.eval om = _ := hm'.1 (om, .int k 0) (by simp)
  have hu := hT.und h1 w
  rw [h2] at hu
  have hs := hT.sz h3 w
  simp [execOp, Instr.sliceAt, hu, Instr.slice, g1, g2, g3, Instr.sliceBounds, Instr.sliceBound, asIntOf, hs]

/-- a call that hands new memory back, in a region that draws -/
theorem Tr.callC {f : Nat} {as : List Operand} {vs : List Value} {ats : Array Nat} {Post : Value → List Ent → Prop} (hx : evs env as = some vs) (hc : FnG P f vs [] Post)
    (hd : Nat.blt d g.n = true) (hW : Wants all ⟨some d, .call ⟨.value (.func f), as.toArray, ats⟩, ty, p, af, gd⟩ env) (hk : (kd ⟨some d, .call ⟨.value (.func f), as.toArray, ats⟩, ty, p, af, gd⟩).cOk = true)
    (next : ∀ v es, Post v es → Tr P g all kd rest ((d, v) :: env) (es ++ mem) Q) : Tr P g all kd ((i, ⟨some d, .call ⟨.value (.func f), as.toArray, ats⟩, ty, p, af, gd⟩) :: rest) env mem Q := by
  have hz := evs_zip hx
  refine .cal ⟨as.zip vs, []⟩ Post (fun a w hm => ?_) ⟨hz.1, by simp⟩ within_zip (by simp) (by rintro q ⟨⟩; simpa using hd) hW (by revert hk; generalize kd _ = k; cases k <;> simp [K.cOk]) (fun v es hr _ => next v es hr)
  obtain ⟨fn, h1, h2, h3⟩ := hc.callable
  have hargs : as.map a.eval = vs := map_of_zip hm.1 hz.2
  have hf : a.eval (.func f) = .func (.func f) #[] #[] := rfl
  have hrun : (execOp a.eval ⟨some d, .call ⟨.value (.func f), as.toArray, ats⟩, ty, p, af, gd⟩).run P w = .ok (.enter f vs.toArray) w := by
    have h2' : ¬ fn.name = "runtime.NumGoroutine" := by simpa using h2
    have h3' : ¬ fn.body = none := by intro e; rw [e] at h3; cases h3
    simp [execOp, resolve, hf, Deferred.ofValue, invoke, callFunc, h1, h2', h3', hargs]
  rw [hrun]
  refine ⟨rfl, (hc.calls w (by simp)).mono ?_⟩
  rintro e w' ⟨v, es, rfl, hb, hpost, hes, hpw⟩
  exact ⟨v, es, rfl, hpost, hb, hes, hpw⟩

/-- copy of a whole row -/
theorem Tr.copyAll (hT : TabOk P T) {e b off dl dc : Nat} {c m : List Value} {mem' : Mem} {D : TD} {ds : TypeDesc} {bs : Nat} {z0 : List Value}
    (hx : ev env x = some (.slice (some ⟨b, off, none⟩) dl dc)) (hy : ev env y = some v) (hm : SrcOf mem v m) (hml : m.length = dl) (hone : m.all Value.oneCell' = true)
    (h1 : lk t T = some D) (h2 : D.desc = .slice e) (h3 : lk e T = some ⟨ds, 1, bs, z0⟩) (hu : MU b c (splice c off m) mem mem') (ho : off + m.length ≤ c.length)
    (hd : Nat.blt d g.n = true) (hW : Wants all ⟨some d, .call ⟨.builtin .copy, #[x, y], #[t, t']⟩, ty, p, af, gd⟩ env) (hk : (kd ⟨some d, .call ⟨.builtin .copy, #[x, y], #[t, t']⟩, ty, p, af, gd⟩).gOk = true)
    (next : Tr P g all kd rest ((d, .int .i64 m.length) :: env) mem' Q) :
    Tr P g all kd ((i, ⟨some d, .call ⟨.builtin .copy, #[x, y], #[t, t']⟩, ty, p, af, gd⟩) :: rest) env mem Q := by
  subst hml
  refine .gen (fun env' mem'' => env' = (d, .int .i64 m.length) :: env ∧ mem'' = mem') (fun a w ha hw => ?_) hW (by revert hk; generalize kd _ = k; cases k <;> simp [K.gOk]) (fun _ _ h => by obtain ⟨rfl, rfl⟩ := h; exact next)
  have g1 := ha.ev hx
  have g2 := ha.ev hy
  have hun := hT.und h1 w
  rw [h2] at hun
  have hs : (sizeOf e).run P w = .ok 1 w := hT.sz h3 w
  have hlen : (Builtin.lenOf v).run P w = .ok m.length w := hm.len
  have hcl := hm.cells (P := P) hw
  obtain ⟨l1, l2, rfl, rfl⟩ := hu.split
  have he := hw.mem ⟨b, c, true⟩ (by simp)
  obtain ⟨w', r1, r2, r3⟩ := run_storeCellsL (P := P) m ⟨b, c, true⟩ w off 0 he hone (by simpa using ho) rfl
  have hmin : Nat.min m.length m.length = m.length := Nat.min_self _
  have hrun : (execOp a.eval ⟨some d, .call ⟨.builtin .copy, #[x, y], #[t, t']⟩, ty, p, af, gd⟩).run P w = .ok (.value (.int .i64 m.length)) w' := by
    simp [execOp, resolve, invoke, builtin, Builtin.copy_, g1, g2, hun, hlen, hmin, hs, hcl, r1, goInt]
  unfold Oper.wp
  rw [hrun]
  exact ⟨_, _, ha.put (some d) _ (by rintro q ⟨⟩; simpa using hd), hw.wr r2 (by simpa [splice] using r3), rfl, rfl⟩

/-- bytes that are handed in: a row, or nil -/
def Src (a0 : Option Addr) (d : List UInt8) (_cp : Nat) (rd : List Ent) : Prop :=
  d = [] ∨ ∃ b off c rw, a0 = some ⟨b, off, none⟩ ∧ (⟨b, c, rw⟩ : Ent) ∈ rd ∧ At c off (d.map fun x => Value.int .u8 (x.toNat : Int))

theorem Src.of {a0 : Option Addr} {dd : List UInt8} {cp : Nat} {rd : List Ent} (h : Src a0 dd cp rd) (hs : ∀ e, e ∈ rd → e ∈ mem) : SrcOf mem (.slice a0 dd.length cp) (dd.map fun x => Value.int .u8 (x.toNat : Int)) := by
  rcases h with rfl | ⟨b, off, c, rw, rfl, h1, h2⟩
  · exact .inl ⟨_, _, rfl, rfl⟩
  · exact .row (hs _ h1) h2 (by simp)
end
end Go.Proofs.Ytffghaeaohabhaa.AW
