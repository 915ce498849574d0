/-
  Rules for rows of one's own that may be nil: append to what is fresh.
-/
import Derived.Test.YtffghaeaohabhaaOp3
namespace Go.Proofs.Ytffghaeaohabhaa.AW
open Go Go.RowKit

theorem Take.skip {e : Ent} {es m m' : Mem} (h : Take es m m') : Take es (e :: m) (e :: m') := by
  induction h with
  | nil => exact .nil
  | cons hp _ ih => exact .cons (.there hp) ih

theorem Take.self (es : Mem) : Take es es [] := by
  have := Take.app es []
  simpa using this

theorem MSub.app {m' m : Mem} (h : MSub m' m) : ∀ (es : Mem), MSub (es ++ m') (es ++ m)
  | [] => h
  | _ :: es => .cons .here rfl (h.app es)

theorem MSub.drop {e : Ent} {m' m : Mem} (h : MSub m' m) : MSub m' (e :: m) := by
  induction h with
  | nil => exact .nil
  | cons hp he _ ih => exact .cons (.there hp) he ih

theorem MSub.left : ∀ (es m : Mem), MSub es (es ++ m)
  | [], _ => .nil
  | _ :: es, m => .cons .here rfl (MSub.left es m)

theorem MU.app {b : Nat} {c c' : List Value} {m m' : Mem} (h : MU b c c' m m') : ∀ (es : Mem), MU b c c' (es ++ m) (es ++ m')
  | [] => h
  | _ :: es => .there (h.app es)

theorem Fresh.nil : Fresh [] (.slice none 0 0) [] := .inl ⟨rfl, rfl, rfl⟩
theorem Fresh.row' {l : List Value} {v : Value} {es : List Ent} (h : Fresh l v es) (h0 : 0 < l.length) :
    ∃ (b : Nat) (pre sp : List Value), v = .slice (some ⟨b, pre.length, none⟩) l.length (l.length + sp.length) ∧ es = [⟨b, pre ++ l ++ sp, true⟩] := by
  rcases h with ⟨rfl, _, _⟩ | h
  · simp at h0
  · exact h
theorem Fresh.slice {l : List Value} {v : Value} {es : List Ent} (h : Fresh l v es) : ∃ a c, v = .slice a l.length c := by
  rcases h with ⟨rfl, rfl, rfl⟩ | ⟨b, pre, sp, rfl, rfl⟩
  · exact ⟨none, 0, rfl⟩
  · exact ⟨_, _, rfl⟩

section
variable {P : Program} {g : Gh} {all : Array Oper} {kd : Oper → K} {i : Nat} {o : Oper} {rest : List (Nat × Oper)} {env : Env} {mem : Mem} {Q : Env → Mem → Prop}
variable {T : List (Nat × TD)} {d ty : Nat} {p : String} {af : Array Edge} {gd : Option (Nat × Bool)} {x y z : Operand} {v u v0 : Value} {t t' : Nat}

/-- append to what is fresh -/
theorem Tr.appendF (hT : TabOk P T) {e : Nat} {D D2 : TD} {ds : TypeDesc} {bs : Nat} {z0 : Value} {m l : List Value} {es memR : Mem}
    (hx : ev env x = some v0) (hf : Fresh l v0 es) (ht : Take es mem memR) (hy : ev env y = some v) (hm : SrcOf mem v m) (hone : m.all Value.oneCell' = true)
    (h1 : lk t T = some D) (h2 : D.desc = .slice e) (h3 : lk e T = some ⟨ds, 1, bs, [z0]⟩) (h4 : lk t' T = some D2) (h5 : ∀ k, D2.desc ≠ .int k)
    (hbs : bs ≤ 8) (hb2 : l.length + m.length ≤ 1099511627776)
    (hd : Nat.blt d g.n = true) (hW : Wants all ⟨some d, .call ⟨.builtin .append, #[x, y], #[t, t']⟩, ty, p, af, gd⟩ env) (hk : (kd ⟨some d, .call ⟨.builtin .append, #[x, y], #[t, t']⟩, ty, p, af, gd⟩).gOk = true)
    (next : ∀ (v' : Value) (es' : List Ent), Fresh (l ++ m) v' es' → Tr P g all kd rest ((d, v') :: env) (es' ++ memR) Q) :
    Tr P g all kd ((i, ⟨some d, .call ⟨.builtin .append, #[x, y], #[t, t']⟩, ty, p, af, gd⟩) :: rest) env mem Q := by
  have hb : ∀ n : Nat, n ≤ 1099511627776 → (2 * n + 768) * bs ≤ 281474976710656 := fun n hn => by
    have := Nat.mul_le_mul (show 2 * n + 768 ≤ 2 * 1099511627776 + 768 by omega) hbs
    omega
  rcases hf with ⟨rfl, rfl, rfl⟩ | ⟨b, pre, sp, rfl, rfl⟩
  · cases ht
    cases m with
    | nil =>
      exact Tr.appendN0 hT hx hy hm h1 h2 h3 h4 h5 (by have := hb 0 (by omega); omega) hd hW hk (next _ [] (.inl ⟨rfl, rfl, rfl⟩))
    | cons m0 ms =>
      refine Tr.appendN hT hx hy hm (by simp) h1 h2 h3 h4 h5 (hb _ (by simp at hb2 ⊢; omega)) (by simp at hb2 ⊢; omega) hd hW hk (fun b pre sp => ?_)
      exact next _ [⟨b, pre ++ (m0 :: ms) ++ sp, true⟩] (.inr ⟨b, pre, sp, rfl, rfl⟩)
  · cases ht with
    | cons hp hr =>
      cases hr
      refine Tr.appendO hT hx hp rfl rfl rfl rfl hy hm hone h1 h2 h3 h4 h5 (hb _ hb2) hb2 hd hW hk (fun b pre sp => ?_)
      exact next _ [⟨b, pre ++ (l ++ m) ++ sp, true⟩] (.inr ⟨b, pre, sp, by simp, rfl⟩)

/-- a call that reads blocks that nobody writes and hands new memory back, in a region that draws -/
theorem Tr.callCR {f : Nat} {as : List Operand} {vs : List Value} {ats : Array Nat} {ents : List Ent} {Post : Value → List Ent → Prop} (hx : evs env as = some vs) (hc : FnG P f vs ents Post)
    (he : ∀ e, e ∈ ents → e ∈ mem) (hro : ∀ e, e ∈ ents → e.rw = false)
    (hd : Nat.blt d g.n = true) (hW : Wants all ⟨some d, .call ⟨.value (.func f), as.toArray, ats⟩, ty, p, af, gd⟩ env) (hk : (kd ⟨some d, .call ⟨.value (.func f), as.toArray, ats⟩, ty, p, af, gd⟩).cOk = true)
    (next : ∀ v es, Post v es → Tr P g all kd rest ((d, v) :: env) (es ++ mem) Q) : Tr P g all kd ((i, ⟨some d, .call ⟨.value (.func f), as.toArray, ats⟩, ty, p, af, gd⟩) :: rest) env mem Q := by
  have hz := evs_zip hx
  refine .cal ⟨as.zip vs, ents⟩ Post (fun a w hm => ?_) ⟨hz.1, he⟩ within_zip hro (by rintro q ⟨⟩; simpa using hd) hW (by revert hk; generalize kd _ = k; cases k <;> simp [K.cOk]) (fun v es hr _ => next v es hr)
  obtain ⟨fn, h1, h2, h3⟩ := hc.callable
  have hargs : as.map a.eval = vs := map_of_zip hm.1 hz.2
  have hf : a.eval (.func f) = .func (.func f) #[] #[] := rfl
  have hrun : (execOp a.eval ⟨some d, .call ⟨.value (.func f), as.toArray, ats⟩, ty, p, af, gd⟩).run P w = .ok (.enter f vs.toArray) w := by
    have h2' : ¬ fn.name = "runtime.NumGoroutine" := by simpa using h2
    have h3' : ¬ fn.body = none := by intro e; rw [e] at h3; cases h3
    simp [execOp, resolve, hf, Deferred.ofValue, invoke, callFunc, h1, h2', h3', hargs]
  rw [hrun]
  refine ⟨rfl, (hc.calls w hm.2).mono ?_⟩
  rintro e w' ⟨v, es, rfl, hb, hpost, hes, hpw⟩
  exact ⟨v, es, rfl, hpost, hb, hes, hpw⟩
end
end Go.Proofs.Ytffghaeaohabhaa.AW
