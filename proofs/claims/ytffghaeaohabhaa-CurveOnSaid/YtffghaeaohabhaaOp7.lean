/-
  Rules: an array sliced to a bound, calls of function values, method values, fields that are arrays.
-/
import Derived.Test.YtffghaeaohabhaaOp6
namespace Go.Proofs.Ytffghaeaohabhaa.AW
open Go Go.RowKit

section
variable {P : Program} {g : Gh} {all : Array Oper} {kd : Oper → K} {i : Nat} {o : Oper} {rest : List (Nat × Oper)} {env : Env} {mem : Mem} {Q : Env → Mem → Prop}
variable {T : List (Nat × TD)} {d ty : Nat} {p : String} {af : Array Edge} {gd : Option (Nat × Bool)} {x y z : Operand} {v u v0 : Value} {t t' : Nat}

theorem Tr.sliceArrH (hT : TabOk P T) {n e b off : Nat} {k' : IntKind} {hi : Int} {oh : Operand} {D : TD} (hx : ev env x = some (.pointer (some ⟨b, off, none⟩))) (hh : ev env oh = some (.int k' hi)) (h1 : lk t T = some D) (h2 : D.desc = .array n e)
    {E : TD} (h3 : lk e T = some E) (h4 : 0 ≤ hi) (h5 : hi ≤ n)
    (hd : Nat.blt d g.n = true) (hW : Wants all ⟨some d, .slice t x none (some oh) none, ty, p, af, gd⟩ env) (hk : (kd ⟨some d, .slice t x none (some oh) none, ty, p, af, gd⟩).vOk = true)
    (next : Tr P g all kd rest ((d, .slice (some ⟨b, off, none⟩) hi.toNat n) :: env) mem Q) :
    Tr P g all kd ((i, ⟨some d, .slice t x none (some oh) none, ty, p, af, gd⟩) :: rest) env mem Q := by
  refine .v ⟨[(x, .pointer (some ⟨b, off, none⟩)), (oh, .int k' hi)], []⟩ _ (opV_of fun a w hm' => ?_) ⟨by simp [hx, hh], by simp⟩ (slice_within (by simp)) (.inl rfl) hd hW hk next
  have g1 : a.eval x = _ := hm'.1 (x, .pointer (some ⟨b, off, none⟩)) (by simp)
  have g2 : a.eval oh = _ := hm'.1 (oh, .int k' hi) (by simp)
  have hu := hT.und h1 w
  rw [h2] at hu
  have hs := hT.sz h3 w
  have e2 : 0 ≤ hi ∧ hi ≤ (n : Int) := ⟨h4, h5⟩
  simp only [execOp, Option.map_some, Option.map_none, Sem.run_bind, Instr.sliceAt, hu, Result.andThen_ok, g1, g2, Instr.sureAddr, Instr.sliceBounds, Instr.sliceBound, asIntOf, Sem.run_pure, e2, and_self, if_true]
  by_cases hc : n = 0
  · simp [hc, hs]
  · simp [hc, hs, Addr.add]

theorem Tr.sliceArrL (hT : TabOk P T) {n e b off : Nat} {k' : IntKind} {lo : Int} {ol : Operand} {D : TD} (hx : ev env x = some (.pointer (some ⟨b, off, none⟩))) (hh : ev env ol = some (.int k' lo)) (h1 : lk t T = some D) (h2 : D.desc = .array n e)
    {E : TD} (h3 : lk e T = some E) (h4 : 0 ≤ lo) (h5 : lo < n) (h6 : E.size = 1)
    (hd : Nat.blt d g.n = true) (hW : Wants all ⟨some d, .slice t x (some ol) none none, ty, p, af, gd⟩ env) (hk : (kd ⟨some d, .slice t x (some ol) none none, ty, p, af, gd⟩).vOk = true)
    (next : Tr P g all kd rest ((d, .slice (some ⟨b, off + lo.toNat, none⟩) (n - lo.toNat) (n - lo.toNat)) :: env) mem Q) :
    Tr P g all kd ((i, ⟨some d, .slice t x (some ol) none none, ty, p, af, gd⟩) :: rest) env mem Q := by
  refine .v ⟨[(x, .pointer (some ⟨b, off, none⟩)), (ol, .int k' lo)], []⟩ _ (opV_of fun a w hm' => ?_) ⟨by simp [hx, hh], by simp⟩ (slice_within (by simp)) (.inl rfl) hd hW hk next
  have g1 : a.eval x = _ := hm'.1 (x, .pointer (some ⟨b, off, none⟩)) (by simp)
  have g2 : a.eval ol = _ := hm'.1 (ol, .int k' lo) (by simp)
  have hu := hT.und h1 w
  rw [h2] at hu
  have hs := hT.sz h3 w
  rw [h6] at hs
  have e2 : 0 ≤ lo ∧ lo ≤ (n : Int) := ⟨h4, by omega⟩
  have hc : ¬ n = lo.toNat := by omega
  simp only [execOp, Option.map_some, Option.map_none, Sem.run_bind, Instr.sliceAt, hu, Result.andThen_ok, g1, g2, Instr.sureAddr, Instr.sliceBounds, Instr.sliceBound, asIntOf, Sem.run_pure, e2, and_self, if_true]
  simp [hc, hs, addr_add]

/-- a method value: the receiver comes first -/
theorem Tr.makeFuncF {f : Nat} (hx : ev env x = some v) (hd : Nat.blt d g.n = true) (hW : Wants all ⟨some d, .makeFunc (.func f) #[x] #[], ty, p, af, gd⟩ env) (hk : (kd ⟨some d, .makeFunc (.func f) #[x] #[], ty, p, af, gd⟩).vOk = true)
    (next : Tr P g all kd rest ((d, .func (.func f) #[v] #[]) :: env) mem Q) : Tr P g all kd ((i, ⟨some d, .makeFunc (.func f) #[x] #[], ty, p, af, gd⟩) :: rest) env mem Q :=
  .v (n1 x v) (.func (.func f) #[v] #[]) (opV_of fun a w hm => by
    have hg := n1.get hm; simp [execOp, Instr.makeFunc, hg]) (n1.sat hx) (n1.within (by simp [Op.operands])) (.inl rfl) hd hW hk next

theorem evs_cons {f : Operand} {as : List Operand} {vs : List Value} {w : Value} (hf : ev env f = some w) (hx : evs env as = some vs) : evs env (f :: as) = some (w :: vs) := by
  simp [evs, hf, hx]

/-- a function value is called: its contract takes what stands ahead, the arguments, and what was caught -/
theorem Tr.callV {f : Nat} {fo : Operand} {as : List Operand} {vs : List Value} {fst cap : List Value} {ats : Array Nat} (hf : ev env fo = some (.func (.func f) fst.toArray cap.toArray)) (hx : evs env as = some vs) (hc : FnR P f (fst ++ vs ++ cap) [] v)
    (hd : Nat.blt d g.n = true) (hW : Wants all ⟨some d, .call ⟨.value fo, as.toArray, ats⟩, ty, p, af, gd⟩ env) (hk : (kd ⟨some d, .call ⟨.value fo, as.toArray, ats⟩, ty, p, af, gd⟩).vOk = true)
    (next : Tr P g all kd rest ((d, v) :: env) mem Q) : Tr P g all kd ((i, ⟨some d, .call ⟨.value fo, as.toArray, ats⟩, ty, p, af, gd⟩) :: rest) env mem Q := by
  have hz := evs_zip (evs_cons hf hx)
  refine .v ⟨(fo :: as).zip (.func (.func f) fst.toArray cap.toArray :: vs), []⟩ v (fun a w hm => ?_) ⟨hz.1, by simp⟩ ?_ (.inl rfl) hd hW hk next
  · obtain ⟨fn, h1, h2, h3⟩ := hc.callable
    have hg : a.eval fo = .func (.func f) fst.toArray cap.toArray := hm.1 (fo, .func (.func f) fst.toArray cap.toArray) (by simp)
    have hargs : as.map a.eval = vs := map_of_zip (fun q hq => hm.1 q (by simp only [List.zip_cons_cons, List.mem_cons]; exact .inr hq)) (by have := hz.2; simpa using this)
    have hrun : (execOp a.eval ⟨some d, .call ⟨.value fo, as.toArray, ats⟩, ty, p, af, gd⟩).run P w = .ok (.enter f (fst ++ vs ++ cap).toArray) w := by
      have h2' : ¬ fn.name = "runtime.NumGoroutine" := by simpa using h2
      have h3' : ¬ fn.body = none := by intro e; rw [e] at h3; cases h3
      simp [execOp, resolve, hg, Deferred.ofValue, invoke, callFunc, h1, h2', h3', hargs]
    rw [hrun]
    exact ⟨rfl, hc.calls w (by simp)⟩
  · intro q hq s hs
    have := List.of_mem_zip hq
    simp only [Op.operands, Call.operands]
    rw [← hs]
    rcases List.mem_cons.1 this.1 with h | h
    · simp [h]
    · simp [h]

/-- a field that is an array (or a struct) of a struct's value -/
theorem Tr.fieldA (hT : TabOk P T) {cs : List Value} {fs : Array Field} {f : Field} {k : Nat} {D E : TD} {c' : List Value} (hx : ev env x = some (.agg cs.toArray)) (h1 : lk t T = some D) (h2 : D.desc = .struct fs) (h3 : fs[k]? = some f) (h4 : lk f.type T = some E) (h5 : E.agg = true)
    (hv : At cs f.offset c') (hl : c'.length = E.size) (hd : Nat.blt d g.n = true) (hW : Wants all ⟨some d, .field t x k, ty, p, af, gd⟩ env) (hk : (kd ⟨some d, .field t x k, ty, p, af, gd⟩).vOk = true)
    (next : Tr P g all kd rest ((d, .agg c'.toArray) :: env) mem Q) : Tr P g all kd ((i, ⟨some d, .field t x k, ty, p, af, gd⟩) :: rest) env mem Q :=
  .v (n1 x (.agg cs.toArray)) (.agg c'.toArray) (opV_of fun a w hm => by
    have hg := n1.get hm
    have hu := hT.und h1 w
    rw [h2] at hu
    have hi := hT.isAgg h4 w
    rw [h5] at hi
    have hs := hT.sz h4 w
    have he : cs.toArray.extract f.offset (f.offset + E.size) = c'.toArray := by
      obtain ⟨l, r, e1, e2⟩ := hv
      apply Array.ext'
      rw [← hl, e1, ← e2]
      simp
    simp only [execOp, Instr.field, hg, asAgg, Sem.run_bind, Sem.run_pure, Result.andThen_ok, hu, h3, part, hi, hs, if_true, he]) (n1.sat hx) (n1.within (by simp [Op.operands])) (.inl rfl) hd hW hk next
end
end Go.Proofs.Ytffghaeaohabhaa.AW
