/-
  A walk over abstract states: what is known of a frame's slots (env) and of some blocks of the heap (mem), with rules for regions whose order is drawn.
-/
import Derived.WalkKit
namespace Go.Proofs.Ytffghaeaohabhaa.AW
open Go Go.RowKit

/-- look a slot up -/
def lk {α : Type} : Nat → List (Nat × α) → Option α
  | _, [] => none
  | k, (j, x) :: r => cond (Nat.beq k j) (some x) (lk k r)

theorem lk_cons {α : Type} (k j : Nat) (x : α) (r : List (Nat × α)) : lk k ((j, x) :: r) = if k = j then some x else lk k r := by
  simp only [lk]
  by_cases h : k = j
  · subst h; simp
  · have : Nat.beq k j = false := by
      cases hb : Nat.beq k j with
      | false => rfl
      | true => exact absurd (Nat.eq_of_beq_eq_true hb) h
    simp [h, this]

/-- a known block: its number, its first cells, may it be written? -/
structure Ent where
  b : Nat
  cells : List Value
  rw : Bool

def Ent.holds (e : Ent) (w : World) : Prop :=
  ∃ c ty fz, w.heap[e.b]? = some (.cells c ty fz) ∧ (∃ tail, c.toList = e.cells ++ tail) ∧ (e.rw = true → fz.1 = fz.2 ∨ c.size ≤ fz.1)

abbrev Env := List (Nat × Value)
abbrev Mem := List Ent

/-- what does not change in a walk: the frame's size, the world ahead of the call, the older blocks that may be written -/
structure Gh where
  n : Nat
  w0 : World
  may : Nat → Prop

structure Fr (g : Gh) (w : World) : Prop where
  os : w.os = g.w0.os
  tape : w.tape = g.w0.tape
  output : w.output = g.w0.output
  size : g.w0.heap.size ≤ w.heap.size
  block : ∀ k, k < g.w0.heap.size → ¬ g.may k → w.heap[k]? = g.w0.heap[k]?

structure MH (g : Gh) (m : Mem) (w : World) : Prop where
  mem : ∀ e, e ∈ m → e.holds w
  sep : List.Pairwise (fun (e e' : Ent) => (e.rw = true ∨ e'.rw = true) → e.b ≠ e'.b) m
  own : ∀ e, e ∈ m → e.rw = true → g.w0.heap.size ≤ e.b ∨ g.may e.b
  fr : Fr g w

structure EH (g : Gh) (env : Env) (a : Act) : Prop where
  defers : a.defers = []
  size : a.tmps.size = g.n
  env : ∀ t v, lk t env = some v → a.tmps[t]? = some v

def ev (env : Env) : Operand → Option Value
  | .tmp t => lk t env
  | .const v => some v
  | .global g => some (.pointer (some ⟨g, 0, none⟩))
  | .func f => some (.func (.func f) #[] #[])

theorem EH.ev {g : Gh} {env : Env} {a : Act} (h : EH g env a) {x : Operand} {v : Value} (hx : ev env x = some v) : a.eval x = v := by
  cases x with
  | tmp t => simp only [AW.ev] at hx; simp [Act.eval, h.env t v hx]
  | const u => simp only [AW.ev, Option.some.injEq] at hx; exact hx
  | global k => simp only [AW.ev, Option.some.injEq] at hx; exact hx
  | func f => simp only [AW.ev, Option.some.injEq] at hx; exact hx

theorem Ent.holds_ext {e : Ent} {w w' : World} (h : e.holds w) (hb : Below w.heap.size w w') : e.holds w' := by
  obtain ⟨c, ty, fz, h1, h2, h3⟩ := h
  have hlt : e.b < w.heap.size := by
    rcases Nat.lt_or_ge e.b w.heap.size with h | h
    · exact h
    · rw [Array.getElem?_eq_none h] at h1; cases h1
  exact ⟨c, ty, fz, by rw [hb.block _ hlt]; exact h1, h2, h3⟩

theorem Ent.holds_lt {e : Ent} {w : World} (h : e.holds w) : e.b < w.heap.size := by
  obtain ⟨c, ty, fz, h1, _⟩ := h
  rcases Nat.lt_or_ge e.b w.heap.size with h | h
  · exact h
  · rw [Array.getElem?_eq_none h] at h1; cases h1

theorem Fr.ext {g : Gh} {w w' : World} (h : Fr g w) (hb : Below w.heap.size w w') : Fr g w' :=
  ⟨hb.os.trans h.os, hb.tape.trans h.tape, hb.output.trans h.output, Nat.le_trans h.size hb.size, fun k hk hm => by
    rw [hb.block k (Nat.lt_of_lt_of_le hk h.size)]; exact h.block k hk hm⟩

theorem MH.ext {g : Gh} {mem : Mem} {w w' : World} (h : MH g mem w) (hb : Below w.heap.size w w') : MH g mem w' :=
  ⟨fun e he => Ent.holds_ext (h.mem e he) hb, h.sep, h.own, h.fr.ext hb⟩

theorem below_drawn (w : World) (n : Nat) : Below w.heap.size w { w with drawn := n } := ⟨rfl, rfl, rfl, Nat.le_refl _, fun _ _ => rfl⟩

/-! ### slots -/
def putE (dst : Option Nat) (v : Value) (env : Env) : Env :=
  match dst with
  | some d => (d, v) :: env
  | none => env

theorem EH.put {g : Gh} {env : Env} {a : Act} (h : EH g env a) (dst : Option Nat) (v : Value) (hd : ∀ d, dst = some d → d < g.n) :
    EH g (putE dst v env) (a.put dst v) := by
  cases dst with
  | none => exact h
  | some d =>
    have hdn := hd d rfl
    refine ⟨h.defers, by simp [Act.put, h.size], fun t u ht => ?_⟩
    simp only [putE, lk_cons] at ht
    simp only [Act.put]
    by_cases e : t = d
    · subst e
      simp at ht; subst ht
      rw [Array.getElem?_setIfInBounds_self]
      simp [h.size, hdn]
    · rw [if_neg e] at ht
      rw [Array.getElem?_setIfInBounds_ne (fun x => e x.symm)]
      exact h.env t u ht

/-! ### what an operation asks, what it does -/
structure Need where
  env : List (Operand × Value)
  mem : List Ent

def Need.met (N : Need) (a : Act) (w : World) : Prop := (∀ p, p ∈ N.env → a.eval p.1 = p.2) ∧ ∀ e, e ∈ N.mem → e.holds w
/-- the state says what is asked -/
def Need.sat (N : Need) (env : Env) (mem : Mem) : Prop := (∀ p, p ∈ N.env → ev env p.1 = some p.2) ∧ ∀ e, e ∈ N.mem → e ∈ mem

theorem Need.sat.met {N : Need} {g : Gh} {env : Env} {mem : Mem} {a : Act} {w : World} (h : N.sat env mem) (he : EH g env a) (hm : MH g mem w) : N.met a w :=
  ⟨fun p hp => he.ev (h.1 p hp), fun e hp => hm.mem e (h.2 e hp)⟩

/-- an operation that yields v and leaves the known world alone (a call may make memory) -/
def qUpon (P : Program) (w : World) (v : Value) : Result Next → Prop
  | .ok (.value u) w' => w' = w ∧ u = v
  | .ok .skip w' => w' = w ∧ v = undef
  | .ok (.enter f args) w' => w' = w ∧ Calls P f args w (fun e w'' => e = .returned v ∧ Below w.heap.size w w'')
  | _ => False


/-- the kinds of operations, for what may be taken ahead of what -/
inductive K where
  | pure | read | store | alloc | build | gen | rdf | cal
  deriving DecidableEq

/-- in whatever frame and world meets N: it yields v -/
def OpV (P : Program) (o : Oper) (N : Need) (v : Value) : Prop := ∀ a w, N.met a w → qUpon P w v ((execOp a.eval o).run P w)

theorem Ent.holds_rw {b : Nat} {c : List Value} {r r' : Bool} {w : World} (h : Ent.holds ⟨b, c, r⟩ w) (hr : r' = true → r = true) : Ent.holds ⟨b, c, r'⟩ w := by
  obtain ⟨cc, ty, fz, h1, h2, h3⟩ := h
  exact ⟨cc, ty, fz, h1, h2, fun x => h3 (hr x)⟩

/-- w' is w but for block b -/
structure Wr (b : Nat) (w w' : World) : Prop where
  os : w'.os = w.os
  tape : w'.tape = w.tape
  output : w'.output = w.output
  size : w'.heap.size = w.heap.size
  block : ∀ k, k ≠ b → w'.heap[k]? = w.heap[k]?

def OpS (P : Program) (o : Oper) (N : Need) (v : Value) (b : Nat) (c' : List Value) : Prop :=
  ∀ a w, N.met a w → ∃ w', ((execOp a.eval o).run P w = .ok (.value v) w' ∨ ((execOp a.eval o).run P w = .ok .skip w' ∧ v = undef)) ∧ Wr b w w' ∧ Ent.holds ⟨b, c', true⟩ w'

def OpB (P : Program) (o : Oper) (N : Need) (F : Nat → Value) (c : List Value) : Prop :=
  ∀ a w, N.met a w → ∃ ty, (execOp a.eval o).run P w = .ok (.value (F w.heap.size)) (w.alloc (.cells c.toArray ty (0, 0)))

/-- 'alloc': no operands -/
def OpA (P : Program) (o : Oper) (c : List Value) : Prop :=
  ∀ (a : Act) (w : World), ∃ ty, (execOp a.eval o).run P w = .ok (.value (.pointer (some ⟨w.heap.size, 0, none⟩))) (w.alloc (.cells c.toArray ty (0, 0)))

/-- w' is w with new blocks, of which es are known -/
def Ext (w w' : World) (es : List Ent) : Prop :=
  Below w.heap.size w w' ∧ (∀ x, x ∈ es → x.holds w' ∧ w.heap.size ≤ x.b) ∧ es.Pairwise (fun x y => (x.rw = true ∨ y.rw = true) → x.b ≠ y.b)

def qC (P : Program) (w : World) (R : Value → List Ent → Prop) : Result Next → Prop
  | .ok (.value v) w' => ∃ es, R v es ∧ Ext w w' es
  | .ok (.enter f args) w' => w' = w ∧ Calls P f args w (fun e w'' => ∃ v es, e = .returned v ∧ R v es ∧ Ext w w'' es)
  | _ => False

/-- hands new memory back -/
def OpC (P : Program) (o : Oper) (N : Need) (R : Value → List Ent → Prop) : Prop :=
  ∀ a w, N.met a w → qC P w R ((execOp a.eval o).run P w)

def OpG (P : Program) (g : Gh) (o : Oper) (env : Env) (mem : Mem) (S : Env → Mem → Prop) : Prop :=
  ∀ a w, EH g env a → MH g mem w → o.wp P a w (fun a' w' => ∃ env' mem', EH g env' a' ∧ MH g mem' w' ∧ S env' mem') (fun _ _ _ => False)

def Wants (all : Array Oper) (o : Oper) (env : Env) : Prop :=
  match o.guard with
  | none => True
  | some (j, want) => ∃ d, (all[j]?).bind (·.dst) = some d ∧ lk d env = some (.bool want)

def Shuns (all : Array Oper) (o : Oper) (env : Env) : Prop :=
  match o.guard with
  | none => False
  | some (j, want) => ∃ d u, (all[j]?).bind (·.dst) = some d ∧ lk d env = some u ∧ (u = undef ∨ u = .bool (!want))

/-- what an operation looks at (its operands) -/
def Need.within (N : Need) (o : Oper) : Prop := ∀ p, p ∈ N.env → ∀ t, p.1 = .tmp t → .tmp t ∈ o.op.operands.toList

/-- a region walked, operation by operation -/
inductive Tr (P : Program) (g : Gh) (all : Array Oper) (kd : Oper → K) : List (Nat × Oper) → Env → Mem → (Env → Mem → Prop) → Prop where
  | nil {env mem env' mem' Q} : Q env mem → (∀ t, lk t env' = lk t env) → mem'.Perm mem → Tr P g all kd [] env' mem' Q
  | val {i o rest env mem Q} (N : Need) (v : Value) : OpV P o N v → N.sat env mem → N.within o → (N.mem = [] ∨ kd o = .read ∨ kd o = .gen ∨ (kd o = .rdf ∧ ∀ e, e ∈ N.mem → e.rw = false)) → (∀ d, o.dst = some d → d < g.n) → Wants all o env →
      (kd o = .pure ∨ kd o = .read ∨ kd o = .gen ∨ kd o = .rdf) → Tr P g all kd rest (putE o.dst v env) mem Q → Tr P g all kd ((i, o) :: rest) env mem Q
  | skip {i o rest env mem Q} : (∀ d, o.dst = some d → d < g.n) → Shuns all o env → Tr P g all kd rest (putE o.dst undef env) mem Q → Tr P g all kd ((i, o) :: rest) env mem Q
  | sto {i o rest env l1 l2 Q} (N : Need) (v : Value) (b : Nat) (c c' : List Value) : OpS P o N v b c' → N.sat env (l1 ++ ⟨b, c, true⟩ :: l2) → N.within o → (∀ d, o.dst = some d → d < g.n) → Wants all o env →
      (kd o = .store ∨ kd o = .gen) → Tr P g all kd rest (putE o.dst v env) (l1 ++ ⟨b, c', true⟩ :: l2) Q → Tr P g all kd ((i, o) :: rest) env (l1 ++ ⟨b, c, true⟩ :: l2) Q
  | alc {i o rest env mem Q} (c : List Value) : OpA P o c → (∀ d, o.dst = some d → d < g.n) → Wants all o env → (kd o = .alloc ∨ kd o = .gen) →
      (∀ b, g.w0.heap.size ≤ b → Tr P g all kd rest (putE o.dst (.pointer (some ⟨b, 0, none⟩)) env) (⟨b, c, true⟩ :: mem) Q) → Tr P g all kd ((i, o) :: rest) env mem Q
  | bld {i o rest env mem Q} (N : Need) (F : Nat → Value) (c : List Value) : OpB P o N F c → N.sat env mem → N.within o → N.mem = [] → (∀ d, o.dst = some d → d < g.n) → Wants all o env → (kd o = .build ∨ kd o = .gen) →
      (∀ b, g.w0.heap.size ≤ b → Tr P g all kd rest (putE o.dst (F b) env) (⟨b, c, true⟩ :: mem) Q) → Tr P g all kd ((i, o) :: rest) env mem Q
  | cal {i o rest env mem Q} (N : Need) (R : Value → List Ent → Prop) : OpC P o N R → N.sat env mem → N.within o → (∀ e, e ∈ N.mem → e.rw = false) → (∀ d, o.dst = some d → d < g.n) → Wants all o env → kd o = .cal →
      (∀ v es, R v es → (∀ x, x ∈ es → g.w0.heap.size ≤ x.b) → Tr P g all kd rest (putE o.dst v env) (es ++ mem) Q) → Tr P g all kd ((i, o) :: rest) env mem Q
  | gen {i o rest env mem Q} (S : Env → Mem → Prop) : OpG P g o env mem S → Wants all o env → kd o = .gen →
      (∀ env' mem', S env' mem' → Tr P g all kd rest env' mem' Q) → Tr P g all kd ((i, o) :: rest) env mem Q

theorem EH.congr {g : Gh} {env env' : Env} {a : Act} (h : EH g env a) (he : ∀ t, lk t env' = lk t env) : EH g env' a :=
  ⟨h.defers, h.size, fun t v ht => h.env t v (by rw [← he]; exact ht)⟩

theorem MH.perm {g : Gh} {m m' : Mem} {w : World} (h : MH g m w) (hp : m'.Perm m) : MH g m' w :=
  ⟨fun e he => h.mem e (hp.mem_iff.1 he), (hp.pairwise_iff (fun hxy hr => (hxy hr.symm).symm)).2 h.sep, fun e he => h.own e (hp.mem_iff.1 he), h.fr⟩

theorem putE_congr {env env' : Env} (he : ∀ t, lk t env' = lk t env) (dst : Option Nat) (v : Value) : ∀ t, lk t (putE dst v env') = lk t (putE dst v env) := by
  intro t
  cases dst with
  | none => exact he t
  | some d => simp only [putE, lk_cons, he t]

theorem ev_congr {env env' : Env} (he : ∀ t, lk t env' = lk t env) (x : Operand) : ev env' x = ev env x := by
  cases x <;> simp only [ev]
  exact he _

theorem Need.sat.congr {N : Need} {env env' : Env} {m m' : Mem} (h : N.sat env m) (he : ∀ t, lk t env' = lk t env) (hp : m'.Perm m) : N.sat env' m' :=
  ⟨fun p hx => by rw [ev_congr he]; exact h.1 p hx, fun e hx => hp.mem_iff.2 (h.2 e hx)⟩

theorem Wants.congr {all : Array Oper} {o : Oper} {env env' : Env} (h : Wants all o env) (he : ∀ t, lk t env' = lk t env) : Wants all o env' := by
  unfold Wants at *
  cases hg : o.guard with
  | none => trivial
  | some p =>
    simp only [hg] at h ⊢
    obtain ⟨d, h1, h2⟩ := h
    exact ⟨d, h1, by rw [he]; exact h2⟩

theorem Shuns.congr {all : Array Oper} {o : Oper} {env env' : Env} (h : Shuns all o env) (he : ∀ t, lk t env' = lk t env) : Shuns all o env' := by
  unfold Shuns at *
  cases hg : o.guard with
  | none => simp only [hg] at h
  | some p =>
    simp only [hg] at h ⊢
    obtain ⟨d, u, h1, h2, h3⟩ := h
    exact ⟨d, u, h1, by rw [he]; exact h2, h3⟩

section
variable {P : Program} {g : Gh} {all : Array Oper} {kd : Oper → K}

theorem Tr.congr {l : List (Nat × Oper)} {env mem : _} {Q : Env → Mem → Prop} (h : Tr P g all kd l env mem Q) :
    ∀ {env' : Env} {mem' : Mem}, (∀ t, lk t env' = lk t env) → mem'.Perm mem → Tr P g all kd l env' mem' Q := by
  induction h with
  | nil hq he hm => intro env' mem' he' hm'; exact .nil hq (fun t => (he' t).trans (he t)) (hm'.trans hm)
  | val N v h1 h2 h3 h4 h5 h6 h7 _ ih => intro env' mem' he' hm'; exact .val N v h1 (h2.congr he' hm') h3 h4 h5 (h6.congr he') h7 (ih (putE_congr he' _ _) hm')
  | skip h1 h2 _ ih => intro env' mem' he' hm'; exact .skip h1 (h2.congr he') (ih (putE_congr he' _ _) hm')
  | @sto i o rest env l1 l2 Q N v b c c' h1 h2 h3 h4 h5 h6 _ ih =>
    intro env' mem' he' hm'
    have hin : (⟨b, c, true⟩ : Ent) ∈ mem' := hm'.mem_iff.2 (by simp)
    obtain ⟨m1, m2, rfl⟩ := List.append_of_mem hin
    have hp : (m1 ++ m2).Perm (l1 ++ l2) := by
      have a1 : (m1 ++ ⟨b, c, true⟩ :: m2).Perm (⟨b, c, true⟩ :: (m1 ++ m2)) := List.perm_middle
      have a2 : (l1 ++ ⟨b, c, true⟩ :: l2).Perm (⟨b, c, true⟩ :: (l1 ++ l2)) := List.perm_middle
      exact (a1.symm.trans (hm'.trans a2)).cons_inv
    refine .sto N v b c c' h1 (h2.congr he' hm') h3 h4 (h5.congr he') h6 (ih (putE_congr he' _ _) ?_)
    exact List.perm_middle.trans ((hp.cons _).trans List.perm_middle.symm)
  | alc c h1 h2 h3 h4 _ ih => intro env' mem' he' hm'; exact .alc c h1 h2 (h3.congr he') h4 fun b hb => ih b hb (putE_congr he' _ _) (hm'.cons _)
  | bld N F c h1 h2 h3 h4 h5 h6 h7 _ ih => intro env' mem' he' hm'; exact .bld N F c h1 (h2.congr he' hm') h3 h4 h5 (h6.congr he') h7 fun b hb => ih b hb (putE_congr he' _ _) (hm'.cons _)
  | cal N R h1 h2 h3 h4 h5 h6 h7 _ ih => intro env' mem' he' hm'; exact .cal N R h1 (h2.congr he' hm') h3 h4 h5 (h6.congr he') h7 fun v es hr hb => ih v es hr hb (putE_congr he' _ _) (hm'.append_left es)
  | gen S h1 h2 h3 h4 _ => 
    intro env' mem' he' hm'
    exact .gen S (fun a w ha hw => h1 a w (ha.congr fun t => (he' t).symm) (hw.perm hm'.symm)) (h2.congr he') h3 h4

theorem wanted_of {o : Oper} {env : Env} {a : Act} (h : Wants all o env) (he : EH g env a) : Region.wanted o (yielded all a.tmps) = true := by
  unfold Wants at h
  unfold Region.wanted
  cases hg : o.guard with
  | none => rfl
  | some p =>
    obtain ⟨j, want⟩ := p
    simp only [hg] at h ⊢
    obtain ⟨d, h1, h2⟩ := h
    simp [yielded, h1, he.env d _ h2]

theorem shunned_of {o : Oper} {env : Env} {a : Act} (h : Shuns all o env) (he : EH g env a) : Region.wanted o (yielded all a.tmps) = false := by
  unfold Shuns at h
  unfold Region.wanted
  cases hg : o.guard with
  | none => simp only [hg] at h
  | some p =>
    obtain ⟨j, want⟩ := p
    simp only [hg] at h ⊢
    obtain ⟨d, u, h1, h2, h3⟩ := h
    rcases h3 with rfl | rfl
    · simp [yielded, h1, he.env d _ h2, undef]
    · cases want <;> simp [yielded, h1, he.env d _ h2]

theorem wp_of_qUpon {o : Oper} {a : Act} {w : World} {v : Value} {Kt : Act → World → Prop} {QX : Exit → Act → World → Prop}
    (h : qUpon P w v ((execOp a.eval o).run P w)) (hk : ∀ w', Below w.heap.size w w' → Kt (a.put o.dst v) w') : o.wp P a w Kt QX := by
  unfold Oper.wp
  generalize (execOp a.eval o).run P w = r at *
  cases r with
  | ok n w' =>
    cases n <;> simp only [qUpon] at h <;> simp only [Oper.upon]
    case value u => obtain ⟨rfl, rfl⟩ := h; exact hk _ (Below.refl _ _)
    case skip => obtain ⟨rfl, rfl⟩ := h; exact hk _ (Below.refl _ _)
    case enter f args =>
      obtain ⟨rfl, hc⟩ := h
      exact hc.mono fun e w'' ⟨he, hw''⟩ => by subst he; exact hk _ hw''
  | halt x w' => simp only [qUpon] at h

theorem Fr.wr {w w' : World} {b : Nat} (h : Fr g w) (hw : Wr b w w') (hb : g.w0.heap.size ≤ b ∨ g.may b) : Fr g w' :=
  ⟨hw.os.trans h.os, hw.tape.trans h.tape, hw.output.trans h.output, by rw [hw.size]; exact h.size, fun k hk hm => by
    have : k ≠ b := by rintro rfl; rcases hb with hb | hb; omega; exact hm hb
    rw [hw.block k this]; exact h.block k hk hm⟩

theorem Ent.holds_wr {e : Ent} {w w' : World} {b : Nat} (h : e.holds w) (hw : Wr b w w') (hne : e.b ≠ b) : e.holds w' := by
  obtain ⟨c, ty, fz, h1, h2, h3⟩ := h
  exact ⟨c, ty, fz, by rw [hw.block _ hne]; exact h1, h2, h3⟩

theorem MH.wr {w w' : World} {b : Nat} {c c' : List Value} {l1 l2 : Mem} (h : MH g (l1 ++ ⟨b, c, true⟩ :: l2) w) (hw : Wr b w w') (he : Ent.holds ⟨b, c', true⟩ w') :
    MH g (l1 ++ ⟨b, c', true⟩ :: l2) w' := by
  have hsep := h.sep
  rw [List.pairwise_append] at hsep
  obtain ⟨s1, s2, s3⟩ := hsep
  rw [List.pairwise_cons] at s2
  have hn : ∀ e, (e ∈ l1 ∨ e ∈ l2) → e.b ≠ b := by
    intro e hx
    rcases hx with hx | hx
    · exact s3 e hx ⟨b, c, true⟩ (by simp) (.inr rfl)
    · exact fun hbb => s2.1 e hx (.inl rfl) hbb.symm
  refine ⟨fun e hx => ?_, ?_, fun e hx hr => ?_, h.fr.wr hw (h.own ⟨b, c, true⟩ (by simp) rfl)⟩
  · rcases List.mem_append.1 hx with hx | hx
    · exact Ent.holds_wr (h.mem e (by simp [hx])) hw (hn e (.inl hx))
    · rcases List.mem_cons.1 hx with rfl | hx
      · exact he
      · exact Ent.holds_wr (h.mem e (by simp [hx])) hw (hn e (.inr hx))
  · rw [List.pairwise_append]
    refine ⟨s1, List.pairwise_cons.2 ⟨fun e hx hr => s2.1 e hx (.inl rfl), s2.2⟩, fun e hx e' hx' hr => ?_⟩
    rcases List.mem_cons.1 hx' with rfl | hx'
    · exact s3 e hx ⟨b, c, true⟩ (by simp) (.inr rfl)
    · exact s3 e hx e' (by simp [hx']) hr
  · rcases List.mem_append.1 hx with hx | hx
    · exact h.own e (by simp [hx]) hr
    · rcases List.mem_cons.1 hx with rfl | hx
      · exact h.own ⟨b, c, true⟩ (by simp) rfl
      · exact h.own e (by simp [hx]) hr

theorem below_alloc (w : World) (o : Obj) : Below w.heap.size w (w.alloc o) := (Below.refl _ _).alloc (Nat.le_refl _) _

theorem MH.alloc {w : World} {m : Mem} (h : MH g m w) (c : List Value) (ty : Nat) : MH g (⟨w.heap.size, c, true⟩ :: m) (w.alloc (.cells c.toArray ty (0, 0))) := by
  have hx := h.ext (below_alloc w (.cells c.toArray ty (0, 0)))
  refine ⟨fun e he => ?_, List.pairwise_cons.2 ⟨fun e he _ => ?_, hx.sep⟩, fun e he hr => ?_, hx.fr⟩
  · rcases List.mem_cons.1 he with rfl | he
    · exact ⟨c.toArray, ty, (0, 0), by show (w.heap.push _)[w.heap.size]? = _; exact Array.getElem?_push_size, ⟨[], by simp⟩, fun _ => .inl rfl⟩
    · exact hx.mem e he
  · exact Nat.ne_of_gt (Ent.holds_lt (h.mem e he))
  · rcases List.mem_cons.1 he with rfl | he
    · exact .inl h.fr.size
    · exact hx.own e he hr

theorem MH.join {mem : Mem} {es : List Ent} {w w' : World} (h : MH g mem w) (hx : Ext w w' es) : MH g (es ++ mem) w' := by
  obtain ⟨hb, he, hp⟩ := hx
  have h' := h.ext hb
  refine ⟨fun e hx => ?_, List.pairwise_append.2 ⟨hp, h'.sep, fun x hx y hy _ => ?_⟩, fun e hx hr => ?_, h'.fr⟩
  · rcases List.mem_append.1 hx with hx | hx
    · exact (he e hx).1
    · exact h'.mem e hx
  · have := (he x hx).2
    have := Ent.holds_lt (h.mem y hy)
    omega
  · rcases List.mem_append.1 hx with hx | hx
    · exact .inl (Nat.le_trans h.fr.size (he e hx).2)
    · exact h'.own e hx hr

/-- the operation that stands first -/
theorem Tr.step {i : Nat} {o : Oper} {rest : List (Nat × Oper)} {env : Env} {mem : Mem} {Q : Env → Mem → Prop} (h : Tr P g all kd ((i, o) :: rest) env mem Q)
    (hi : all[i]? = some o) {Kt : Act → World → Prop} {QX : Exit → Act → World → Prop}
    (hk : ∀ env' mem' a' w', Tr P g all kd rest env' mem' Q → EH g env' a' → MH g mem' w' → Kt a' w') {a : Act} {w : World} (ha : EH g env a) (hw : MH g mem w) :
    wpOp P all QX i Kt a w := by
  unfold wpOp
  simp only [hi]
  cases h with
  | val N v h1 h2 h3 h4 h5 h6 h7 h8 =>
    rw [if_pos (wanted_of h6 ha)]
    exact .inl (wp_of_qUpon (h1 a w (h2.met ha hw)) fun w' hb => hk _ _ _ _ h8 (ha.put _ _ h5) (hw.ext hb))
  | skip h1 h2 h3 =>
    rw [shunned_of h2 ha]
    exact hk _ _ _ _ h3 (ha.put _ _ h1) hw
  | sto N v b c c' h1 h2 h3 h4 h5 h6 h7 =>
    rw [if_pos (wanted_of h5 ha)]
    obtain ⟨w', hr, hwr, he⟩ := h1 a w (h2.met ha hw)
    refine .inl ?_
    unfold Oper.wp
    rcases hr with hr | ⟨hr, rfl⟩ <;> rw [hr] <;> exact hk _ _ _ _ h7 (ha.put _ _ h4) (hw.wr hwr he)
  | alc c h1 h2 h3 h4 h5 =>
    rw [if_pos (wanted_of h3 ha)]
    obtain ⟨ty, hr⟩ := h1 a w
    refine .inl ?_
    unfold Oper.wp
    rw [hr]
    exact hk _ _ _ _ (h5 _ hw.fr.size) (ha.put _ _ h2) (hw.alloc c ty)
  | bld N F c h1 h2 h3 h4 h5 h6 h7 h8 =>
    rw [if_pos (wanted_of h6 ha)]
    obtain ⟨ty, hr⟩ := h1 a w (h2.met ha hw)
    refine .inl ?_
    unfold Oper.wp
    rw [hr]
    exact hk _ _ _ _ (h8 _ hw.fr.size) (ha.put _ _ h5) (hw.alloc c ty)
  | cal N R h1 h2 h3 h4 h5 h6 h7 h8 =>
    rw [if_pos (wanted_of h6 ha)]
    refine .inl ?_
    have hq := h1 a w (h2.met ha hw)
    unfold Oper.wp
    generalize (execOp a.eval o).run P w = r at *
    have key : ∀ v es w', R v es → Ext w w' es → Kt (a.put o.dst v) w' := fun v es w' hr hx =>
      hk _ _ _ _ (h8 v es hr fun x hx' => Nat.le_trans hw.fr.size (hx.2.1 x hx').2) (ha.put _ _ h5) (hw.join hx)
    cases r with
    | ok n w' =>
      cases n <;> simp only [qC] at hq <;> simp only [Oper.upon]
      case value u => obtain ⟨es, hr, hx⟩ := hq; exact key _ _ _ hr hx
      case enter f args =>
        obtain ⟨rfl, hc⟩ := hq
        refine hc.mono ?_
        rintro e w'' ⟨v, es, rfl, hr, hx⟩
        exact key _ _ _ hr hx
    | halt x w' => simp only [qC] at hq
  | gen S h1 h2 h3 h4 =>
    rw [if_pos (wanted_of h2 ha)]
    refine .inl ?_
    have := h1 a w ha hw
    unfold Oper.wp at this ⊢
    generalize (execOp a.eval o).run P w = r at *
    cases r with
    | ok n w' =>
      cases n <;> simp only [Oper.upon] at this ⊢ <;> try exact this.elim
      case value v => obtain ⟨env', mem', x1, x2, x3⟩ := this; exact hk _ _ _ _ (h4 _ _ x3) x1 x2
      case skip => obtain ⟨env', mem', x1, x2, x3⟩ := this; exact hk _ _ _ _ (h4 _ _ x3) x1 x2
      case defer d => obtain ⟨env', mem', x1, x2, x3⟩ := this; exact hk _ _ _ _ (h4 _ _ x3) x1 x2
      case enter f args =>
        refine this.mono fun e w'' he => ?_
        cases e with
        | returned v => obtain ⟨env', mem', x1, x2, x3⟩ := he; exact hk _ _ _ _ (h4 _ _ x3) x1 x2
        | panicked c => exact he.elim
        | outgrown => obtain ⟨_, _, h⟩ := he; exact h.elim
      case row r args =>
        refine this.mono fun v w'' he => ?_
        obtain ⟨env', mem', x1, x2, x3⟩ := he; exact hk _ _ _ _ (h4 _ _ x3) x1 x2
    | halt x w' => cases x <;> simp only [Oper.upon] at this

/-- in the text's order -/
theorem Tr.seq {QX : Exit → Act → World → Prop} {Q : Env → Mem → Prop} (hQ : ∀ env mem a w, Q env mem → EH g env a → MH g mem w → QX .normal a w) :
    ∀ (l : List (Nat × Oper)) (env : Env) (mem : Mem), Tr P g all kd l env mem Q → (∀ p, p ∈ l → all[p.1]? = some p.2) → ∀ a w, EH g env a → MH g mem w → wpOps P all QX (l.map (·.1)) a w
  | [], env, mem, h, _, a, w, ha, hw => by
    cases h with
    | nil hq he hm => exact hQ _ _ a w hq (ha.congr fun t => (he t).symm) (hw.perm hm.symm)
  | (i, o) :: rest, env, mem, h, hl, a, w, ha, hw => by
    simp only [List.map_cons]
    rw [wpOps_cons]
    exact h.step (hl (i, o) (by simp)) (fun env' mem' a' w' ht ha' hw' => Tr.seq hQ rest env' mem' ht (fun p hp => hl p (by simp [hp])) a' w' ha' hw') ha hw

/-! ### taking one operation ahead of another -/
def K.canPass (kp ko : K) : Bool :=
  match kp, ko with
  | .pure, .pure | .read, .pure | .store, .pure | .rdf, .pure => true
  | .pure, .read | .read, .read | .rdf, .read => true
  | .pure, .rdf | .read, .rdf | .rdf, .rdf | .store, .rdf => true
  | .pure, .store | .rdf, .store => true
  | .pure, .alloc | .read, .alloc | .rdf, .alloc | .store, .alloc | .alloc, .alloc | .build, .alloc => true
  | .pure, .build | .read, .build | .rdf, .build | .store, .build => true
  | .pure, .cal | .read, .cal | .rdf, .cal | .store, .cal => true
  | _, _ => false

/-- o may be taken ahead of p -/
def canPass (kd : Oper → K) (all : Array Oper) (p o : Oper) : Bool := p.apart all o && (kd p).canPass (kd o)

theorem lk_put_ne {env : Env} {dst : Option Nat} {v : Value} {t : Nat} (h : dst ≠ some t) : lk t (putE dst v env) = lk t env := by
  cases dst with
  | none => rfl
  | some d => simp only [putE, lk_cons]; rw [if_neg (fun e => h (by rw [e]))]

theorem ev_put_ne {env : Env} {dst : Option Nat} {v : Value} {x : Operand} (h : ∀ t, x = .tmp t → dst ≠ some t) : ev (putE dst v env) x = ev env x := by
  cases x <;> simp only [ev]
  exact lk_put_ne (h _ rfl)

theorem mem_looksAt {o : Oper} {t : Nat} (h : Operand.tmp t ∈ o.op.operands.toList) : t ∈ o.looksAt all := by
  unfold Oper.looksAt
  exact List.mem_append_left _ (List.mem_filterMap.2 ⟨.tmp t, h, rfl⟩)

theorem Need.sat.unput {N : Need} {o : Oper} {env : Env} {mem mem' : Mem} {dst : Option Nat} {v : Value} (h : N.sat (putE dst v env) mem) (hw : N.within o) (hd : ∀ d, dst = some d → d ∉ o.looksAt all) (hm : ∀ e, e ∈ N.mem → e ∈ mem') : N.sat env mem' :=
  ⟨fun p hp => by
    rw [← h.1 p hp, ev_put_ne]
    intro t ht hdt
    exact hd t hdt (mem_looksAt (hw p hp t ht)), hm⟩

theorem Need.sat.put {N : Need} {o : Oper} {env : Env} {mem mem' : Mem} {dst : Option Nat} {v : Value} (h : N.sat env mem) (hw : N.within o) (hd : ∀ d, dst = some d → d ∉ o.looksAt all) (hm : ∀ e, e ∈ N.mem → e ∈ mem') : N.sat (putE dst v env) mem' :=
  ⟨fun p hp => by
    rw [ev_put_ne]
    · exact h.1 p hp
    intro t ht hdt
    exact hd t hdt (mem_looksAt (hw p hp t ht)), hm⟩

theorem guard_mem_looksAt {o : Oper} {j : Nat} {want : Bool} {d : Nat} (hg : o.guard = some (j, want)) (hd : (all[j]?).bind (·.dst) = some d) : d ∈ o.looksAt all := by
  unfold Oper.looksAt
  simp [hg, hd]

theorem Wants.put {o : Oper} {env : Env} {dst : Option Nat} {v : Value} (hd : ∀ d, dst = some d → d ∉ o.looksAt all) : Wants all o (putE dst v env) ↔ Wants all o env := by
  unfold Wants
  cases hg : o.guard with
  | none => simp
  | some p =>
    obtain ⟨j, want⟩ := p
    simp only
    constructor <;> rintro ⟨d, h1, h2⟩ <;> refine ⟨d, h1, ?_⟩
    · rwa [lk_put_ne (fun e => hd d e (guard_mem_looksAt hg h1))] at h2
    · rwa [lk_put_ne (fun e => hd d e (guard_mem_looksAt hg h1))]

theorem Shuns.put {o : Oper} {env : Env} {dst : Option Nat} {v : Value} (hd : ∀ d, dst = some d → d ∉ o.looksAt all) : Shuns all o (putE dst v env) ↔ Shuns all o env := by
  unfold Shuns
  cases hg : o.guard with
  | none => simp
  | some p =>
    obtain ⟨j, want⟩ := p
    simp only
    constructor <;> rintro ⟨d, u, h1, h2, h3⟩ <;> refine ⟨d, u, h1, ?_, h3⟩
    · rwa [lk_put_ne (fun e => hd d e (guard_mem_looksAt hg h1))] at h2
    · rwa [lk_put_ne (fun e => hd d e (guard_mem_looksAt hg h1))]

theorem not_wants_shuns {o : Oper} {env : Env} (h : Wants all o env) (h' : Shuns all o env) : False := by
  unfold Wants at h
  unfold Shuns at h'
  cases hg : o.guard with
  | none => simp only [hg] at h'
  | some p =>
    obtain ⟨j, want⟩ := p
    simp only [hg] at h h'
    obtain ⟨d, h1, h2⟩ := h
    obtain ⟨d', u, h3, h4, h5⟩ := h'
    rw [h1] at h3
    obtain rfl := Option.some.inj h3
    rw [h2] at h4
    obtain rfl := Option.some.inj h4
    rcases h5 with h5 | h5
    · simp [undef] at h5
    · cases want <;> simp at h5

theorem lk_put_comm {env : Env} {x y : Option Nat} (v u : Value) (h : ∀ d, x = some d → y ≠ some d) : ∀ t, lk t (putE x v (putE y u env)) = lk t (putE y u (putE x v env)) := by
  intro t
  cases x with
  | none => rfl
  | some d =>
    cases y with
    | none => rfl
    | some e =>
      have hne : d ≠ e := fun he => h d rfl (he ▸ rfl)
      simp only [putE, lk_cons]
      by_cases h1 : t = d
      · subst h1; simp [hne]
      · simp [h1]

theorem OpA.inj {o : Oper} {c c' : List Value} (h : OpA P o c) (h' : OpA P o c') : c = c' := by
  obtain ⟨ty, h1⟩ := h { tmps := #[], defers := [] } default
  obtain ⟨ty', h2⟩ := h' { tmps := #[], defers := [] } default
  rw [h1] at h2
  have h3 := congrArg (fun r : Result Next => match r with | .ok _ w => w.heap | .halt _ w => w.heap) h2
  have h4 : (default : World).heap.push (.cells c.toArray ty (0, 0)) = (default : World).heap.push (.cells c'.toArray ty' (0, 0)) := h3
  have h5 := congrArg Array.back? h4
  simp only [Array.back?_push, Option.some.injEq, Obj.cells.injEq] at h5
  simpa using h5.1

/-- **o ahead of p** -/
theorem Tr.swap {i j : Nat} {p o : Oper} {rest : List (Nat × Oper)} {env : Env} {mem : Mem} {Q : Env → Mem → Prop}
    (h : Tr P g all kd ((j, p) :: (i, o) :: rest) env mem Q) (hpo : canPass kd all p o = true) : Tr P g all kd ((i, o) :: (j, p) :: rest) env mem Q := by
  simp only [canPass, Bool.and_eq_true] at hpo
  obtain ⟨hap, hk⟩ := hpo
  obtain ⟨h1, h2, h3⟩ := Oper.apart_spec hap
  have comm : ∀ (env : Env) (v u : Value), ∀ t, lk t (putE p.dst v (putE o.dst u env)) = lk t (putE o.dst u (putE p.dst v env)) := fun env v u => lk_put_comm v u h2
  cases h with
  | val N v a1 a2 a3 a4 a5 a6 a7 a8 =>
    cases a8 with
    | val M u b1 b2 b3 b4 b5 b6 b7 b8 =>
      exact .val M u b1 (b2.unput b3 h1 b2.2) b3 b4 b5 ((Wants.put h1).1 b6) b7
        (.val N v a1 (a2.put a3 h3 a2.2) a3 a4 a5 ((Wants.put h3).2 a6) a7 (b8.congr (comm _ _ _) (List.Perm.refl _)))
    | skip b1 b2 b3 =>
      exact .skip b1 ((Shuns.put h1).1 b2) (.val N v a1 (a2.put a3 h3 a2.2) a3 a4 a5 ((Wants.put h3).2 a6) a7 (b3.congr (comm _ _ _) (List.Perm.refl _)))
    | sto M u b c c' b1 b2 b3 b4 b5 b6 b7 =>
      have hko : kd o = .store := by rcases b6 with h | h <;> revert hk <;> rw [h] <;> cases kd p <;> simp [K.canPass]
      have hkp : kd p = .pure ∨ kd p = .rdf := by revert hk; rw [hko]; cases kd p <;> simp [K.canPass]
      have hN : ∀ e, e ∈ N.mem → e.rw = false := by
        rcases a4 with h | h | h | h
        · simp [h]
        · rcases hkp with k | k <;> rw [k] at h <;> cases h
        · rcases hkp with k | k <;> rw [k] at h <;> cases h
        · exact h.2
      exact .sto M u b c c' b1 (b2.unput b3 h1 b2.2) b3 b4 ((Wants.put h1).1 b5) b6
        (.val N v a1 (a2.put a3 h3 (fun e he => by
          have h1 := a2.2 e he
          have h2 := hN e he
          simp only [List.mem_append, List.mem_cons] at h1 ⊢
          rcases h1 with h1 | rfl | h1
          · exact .inl h1
          · cases h2
          · exact .inr (.inr h1))) a3 a4 a5 ((Wants.put h3).2 a6) a7 (b7.congr (comm _ _ _) (List.Perm.refl _)))
    | alc c b1 b2 b3 b4 b5 =>
      exact .alc c b1 b2 ((Wants.put h1).1 b3) b4 fun b hb =>
        .val N v a1 (a2.put a3 h3 (fun e he => by simp [a2.2 e he])) a3 a4 a5 ((Wants.put h3).2 a6) a7 ((b5 b hb).congr (comm _ _ _) (List.Perm.refl _))
    | bld M F c b1 b2 b3 b4 b5 b6 b7 b8 =>
      exact .bld M F c b1 (b2.unput b3 h1 b2.2) b3 b4 b5 ((Wants.put h1).1 b6) b7 fun b hb =>
        .val N v a1 (a2.put a3 h3 (fun e he => by simp [a2.2 e he])) a3 a4 a5 ((Wants.put h3).2 a6) a7 ((b8 b hb).congr (comm _ _ _) (List.Perm.refl _))
    | cal M R b1 b2 b3 b4 b5 b6 b7 b8 =>
      exact .cal M R b1 (b2.unput b3 h1 b2.2) b3 b4 b5 ((Wants.put h1).1 b6) b7 fun u es hr hb =>
        .val N v a1 (a2.put a3 h3 (fun e he => by simp [a2.2 e he])) a3 a4 a5 ((Wants.put h3).2 a6) a7 ((b8 u es hr hb).congr (comm _ _ _) (List.Perm.refl _))
    | gen S b1 b2 b3 b4 => exfalso; revert hk; rw [b3]; cases kd p <;> simp [K.canPass]
  | skip a1 a2 a3 =>
    cases a3 with
    | val M u b1 b2 b3 b4 b5 b6 b7 b8 =>
      exact .val M u b1 (b2.unput b3 h1 b2.2) b3 b4 b5 ((Wants.put h1).1 b6) b7 (.skip a1 ((Shuns.put h3).2 a2) (b8.congr (comm _ _ _) (List.Perm.refl _)))
    | skip b1 b2 b3 => exact .skip b1 ((Shuns.put h1).1 b2) (.skip a1 ((Shuns.put h3).2 a2) (b3.congr (comm _ _ _) (List.Perm.refl _)))
    | sto M u b c c' b1 b2 b3 b4 b5 b6 b7 =>
      exact .sto M u b c c' b1 (b2.unput b3 h1 b2.2) b3 b4 ((Wants.put h1).1 b5) b6 (.skip a1 ((Shuns.put h3).2 a2) (b7.congr (comm _ _ _) (List.Perm.refl _)))
    | alc c b1 b2 b3 b4 b5 =>
      exact .alc c b1 b2 ((Wants.put h1).1 b3) b4 fun b hb => .skip a1 ((Shuns.put h3).2 a2) ((b5 b hb).congr (comm _ _ _) (List.Perm.refl _))
    | bld M F c b1 b2 b3 b4 b5 b6 b7 b8 =>
      exact .bld M F c b1 (b2.unput b3 h1 b2.2) b3 b4 b5 ((Wants.put h1).1 b6) b7 fun b hb => .skip a1 ((Shuns.put h3).2 a2) ((b8 b hb).congr (comm _ _ _) (List.Perm.refl _))
    | cal M R b1 b2 b3 b4 b5 b6 b7 b8 =>
      exact .cal M R b1 (b2.unput b3 h1 b2.2) b3 b4 b5 ((Wants.put h1).1 b6) b7 fun u es hr hb => .skip a1 ((Shuns.put h3).2 a2) ((b8 u es hr hb).congr (comm _ _ _) (List.Perm.refl _))
    | gen S b1 b2 b3 b4 => exfalso; revert hk; rw [b3]; cases kd p <;> simp [K.canPass]
  | @sto _ _ _ _ l1 l2 _ N v b c c' a1 a2 a3 a4 a5 a6 a7 =>
    have hkp : kd p = .store := by rcases a6 with h | h; exact h; revert hk; rw [h]; simp [K.canPass]
    generalize hm : l1 ++ (⟨b, c', true⟩ : Ent) :: l2 = mem' at a7
    cases a7 with
    | val M u b1 b2 b3 b4 b5 b6 b7 b8 =>
      have hko : kd o = .pure ∨ kd o = .rdf := by
        rcases b7 with h | h | h | h
        · exact .inl h
        · exfalso; revert hk; rw [hkp, h]; simp [K.canPass]
        · exfalso; revert hk; rw [hkp, h]; simp [K.canPass]
        · exact .inr h
      have hM : ∀ e, e ∈ M.mem → e.rw = false := by
        rcases b4 with h | h | h | h
        · simp [h]
        · rcases hko with k | k <;> rw [k] at h <;> cases h
        · rcases hko with k | k <;> rw [k] at h <;> cases h
        · exact h.2
      subst hm
      exact .val M u b1 (b2.unput b3 h1 (fun e he => by
          have h1 := b2.2 e he
          have h2 := hM e he
          simp only [List.mem_append, List.mem_cons] at h1 ⊢
          rcases h1 with h1 | rfl | h1
          · exact .inl h1
          · cases h2
          · exact .inr (.inr h1))) b3 b4 b5 ((Wants.put h1).1 b6) b7
        (.sto N v b c c' a1 (a2.put a3 h3 a2.2) a3 a4 ((Wants.put h3).2 a5) a6 (b8.congr (comm _ _ _) (List.Perm.refl _)))
    | skip b1 b2 b3 =>
      subst hm
      exact .skip b1 ((Shuns.put h1).1 b2) (.sto N v b c c' a1 (a2.put a3 h3 a2.2) a3 a4 ((Wants.put h3).2 a5) a6 (b3.congr (comm _ _ _) (List.Perm.refl _)))
    | sto M u b' d d' b1 b2 b3 b4 b5 b6 b7 =>
      exfalso; rcases b6 with h | h <;> (revert hk; rw [hkp, h]; simp [K.canPass])
    | alc d b1 b2 b3 b4 b5 =>
      subst hm
      refine .alc d b1 b2 ((Wants.put h1).1 b3) b4 fun b' hb => ?_
      rw [← List.cons_append]
      refine .sto N v b c c' a1 (a2.put a3 h3 (fun e he => ?_)) a3 a4 ((Wants.put h3).2 a5) a6 ((b5 b' hb).congr (comm _ _ _) (by simp))
      have := a2.2 e he
      simp only [List.cons_append, List.mem_cons]; exact .inr this
    | bld M F d b1 b2 b3 b4 b5 b6 b7 b8 =>
      subst hm
      refine .bld M F d b1 (b2.unput b3 h1 (by simp [b4])) b3 b4 b5 ((Wants.put h1).1 b6) b7 fun b' hb => ?_
      rw [← List.cons_append]
      refine .sto N v b c c' a1 (a2.put a3 h3 (fun e he => ?_)) a3 a4 ((Wants.put h3).2 a5) a6 ((b8 b' hb).congr (comm _ _ _) (by simp))
      have := a2.2 e he
      simp only [List.cons_append, List.mem_cons]; exact .inr this
    | cal M R b1 b2 b3 b4 b5 b6 b7 b8 =>
      subst hm
      refine .cal M R b1 (b2.unput b3 h1 (fun e he => by
          have h1 := b2.2 e he
          have h2 := b4 e he
          simp only [List.mem_append, List.mem_cons] at h1 ⊢
          rcases h1 with h1 | rfl | h1
          · exact .inl h1
          · cases h2
          · exact .inr (.inr h1))) b3 b4 b5 ((Wants.put h1).1 b6) b7 fun u es hr hb => ?_
      rw [← List.append_assoc]
      refine .sto N v b c c' a1 (a2.put a3 h3 (fun e he => ?_)) a3 a4 ((Wants.put h3).2 a5) a6 ((b8 u es hr hb).congr (comm _ _ _) (by simp))
      have := a2.2 e he
      rw [List.append_assoc]
      exact List.mem_append.2 (.inr this)
    | gen S b1 b2 b3 b4 => exfalso; revert hk; rw [b3, hkp]; simp [K.canPass]
  | alc c a1 a2 a3 a4 a5 =>
    have hkp : kd p = .alloc := by rcases a4 with h | h; exact h; revert hk; rw [h]; simp [K.canPass]
    have hko : kd o = .alloc := by revert hk; rw [hkp]; cases kd o <;> simp [K.canPass]
    have key : (∃ d, OpA P o d ∧ (∀ e, o.dst = some e → e < g.n) ∧ Wants all o env ∧ ∀ b, g.w0.heap.size ≤ b → ∀ b', g.w0.heap.size ≤ b' →
        Tr P g all kd rest (putE o.dst (.pointer (some ⟨b', 0, none⟩)) (putE p.dst (.pointer (some ⟨b, 0, none⟩)) env)) (⟨b', d, true⟩ :: ⟨b, c, true⟩ :: mem) Q) ∨
        ((∀ e, o.dst = some e → e < g.n) ∧ Shuns all o env ∧ ∀ b, g.w0.heap.size ≤ b → Tr P g all kd rest (putE o.dst undef (putE p.dst (.pointer (some ⟨b, 0, none⟩)) env)) (⟨b, c, true⟩ :: mem) Q) := by
      have h0 := a5 g.w0.heap.size (Nat.le_refl _)
      generalize hm : (⟨g.w0.heap.size, c, true⟩ : Ent) :: mem = mem' at h0
      cases h0 with
      | alc d b1 b2 b3 b4 b5 =>
        refine .inl ⟨d, b1, b2, (Wants.put h1).1 b3, fun b hb => ?_⟩
        have h0 := a5 b hb
        generalize hm' : (⟨b, c, true⟩ : Ent) :: mem = mem' at h0
        cases h0 with
        | alc d' e1 e2 e3 e4 e5 => subst hm'; rw [b1.inj e1]; exact e5
        | skip e1 e2 e3 => exact (not_wants_shuns ((Wants.put h1).1 b3) ((Shuns.put h1).1 e2)).elim
        | val M u e1 e2 e3 e4 e5 e6 e7 e8 => rw [hko] at e7; rcases e7 with h | h | h | h <;> cases h
        | cal M R e1 e2 e3 e4 e5 e6 e7 e8 => rw [hko] at e7; cases e7
        | sto M u b' d d' e1 e2 e3 e4 e5 e6 e7 => rw [hko] at e6; rcases e6 with h | h <;> cases h
        | bld M F d e1 e2 e3 e4 e5 e6 e7 e8 => rw [hko] at e7; rcases e7 with h | h <;> cases h
        | gen S e1 e2 e3 e4 => rw [hko] at e3; cases e3
      | skip b1 b2 b3 =>
        refine .inr ⟨b1, (Shuns.put h1).1 b2, fun b hb => ?_⟩
        have h0 := a5 b hb
        generalize hm' : (⟨b, c, true⟩ : Ent) :: mem = mem' at h0
        cases h0 with
        | alc d' e1 e2 e3 e4 e5 => exact (not_wants_shuns ((Wants.put h1).1 e3) ((Shuns.put h1).1 b2)).elim
        | skip e1 e2 e3 => subst hm'; exact e3
        | val M u e1 e2 e3 e4 e5 e6 e7 e8 => rw [hko] at e7; rcases e7 with h | h | h | h <;> cases h
        | cal M R e1 e2 e3 e4 e5 e6 e7 e8 => rw [hko] at e7; cases e7
        | sto M u b' d d' e1 e2 e3 e4 e5 e6 e7 => rw [hko] at e6; rcases e6 with h | h <;> cases h
        | bld M F d e1 e2 e3 e4 e5 e6 e7 e8 => rw [hko] at e7; rcases e7 with h | h <;> cases h
        | gen S e1 e2 e3 e4 => rw [hko] at e3; cases e3
      | val M u e1 e2 e3 e4 e5 e6 e7 e8 => rw [hko] at e7; rcases e7 with h | h | h | h <;> cases h
      | cal M R e1 e2 e3 e4 e5 e6 e7 e8 => rw [hko] at e7; cases e7
      | sto M u b' d d' e1 e2 e3 e4 e5 e6 e7 => rw [hko] at e6; rcases e6 with h | h <;> cases h
      | bld M F d e1 e2 e3 e4 e5 e6 e7 e8 => rw [hko] at e7; rcases e7 with h | h <;> cases h
      | gen S e1 e2 e3 e4 => rw [hko] at e3; cases e3
    rcases key with ⟨d, k1, k2, k3, k4⟩ | ⟨k1, k2, k3⟩
    · exact .alc d k1 k2 k3 (.inl hko) fun b' hb' => .alc c a1 a2 ((Wants.put h3).2 a3) a4 fun b hb => (k4 b hb b' hb').congr (comm _ _ _) (List.Perm.swap _ _ _)
    · exact .skip k1 k2 (.alc c a1 a2 ((Wants.put h3).2 a3) a4 fun b hb => (k3 b hb).congr (comm _ _ _) (List.Perm.refl _))
  | bld N F c a1 a2 a3 a4 a5 a6 a7 a8 =>
    have hkp : kd p = .build := by rcases a7 with h | h; exact h; revert hk; rw [h]; simp [K.canPass]
    have hko : kd o = .alloc := by revert hk; rw [hkp]; cases kd o <;> simp [K.canPass]
    have key : (∃ d, OpA P o d ∧ (∀ e, o.dst = some e → e < g.n) ∧ Wants all o env ∧ ∀ b, g.w0.heap.size ≤ b → ∀ b', g.w0.heap.size ≤ b' →
        Tr P g all kd rest (putE o.dst (.pointer (some ⟨b', 0, none⟩)) (putE p.dst (F b) env)) (⟨b', d, true⟩ :: ⟨b, c, true⟩ :: mem) Q) ∨
        ((∀ e, o.dst = some e → e < g.n) ∧ Shuns all o env ∧ ∀ b, g.w0.heap.size ≤ b → Tr P g all kd rest (putE o.dst undef (putE p.dst (F b) env)) (⟨b, c, true⟩ :: mem) Q) := by
      have h0 := a8 g.w0.heap.size (Nat.le_refl _)
      generalize hm : (⟨g.w0.heap.size, c, true⟩ : Ent) :: mem = mem' at h0
      cases h0 with
      | alc d b1 b2 b3 b4 b5 =>
        refine .inl ⟨d, b1, b2, (Wants.put h1).1 b3, fun b hb => ?_⟩
        have h0 := a8 b hb
        generalize hm' : (⟨b, c, true⟩ : Ent) :: mem = mem' at h0
        cases h0 with
        | alc d' e1 e2 e3 e4 e5 => subst hm'; rw [b1.inj e1]; exact e5
        | skip e1 e2 e3 => exact (not_wants_shuns ((Wants.put h1).1 b3) ((Shuns.put h1).1 e2)).elim
        | val M u e1 e2 e3 e4 e5 e6 e7 e8 => rw [hko] at e7; rcases e7 with h | h | h | h <;> cases h
        | cal M R e1 e2 e3 e4 e5 e6 e7 e8 => rw [hko] at e7; cases e7
        | sto M u b' d d' e1 e2 e3 e4 e5 e6 e7 => rw [hko] at e6; rcases e6 with h | h <;> cases h
        | bld M F d e1 e2 e3 e4 e5 e6 e7 e8 => rw [hko] at e7; rcases e7 with h | h <;> cases h
        | gen S e1 e2 e3 e4 => rw [hko] at e3; cases e3
      | skip b1 b2 b3 =>
        refine .inr ⟨b1, (Shuns.put h1).1 b2, fun b hb => ?_⟩
        have h0 := a8 b hb
        generalize hm' : (⟨b, c, true⟩ : Ent) :: mem = mem' at h0
        cases h0 with
        | alc d' e1 e2 e3 e4 e5 => exact (not_wants_shuns ((Wants.put h1).1 e3) ((Shuns.put h1).1 b2)).elim
        | skip e1 e2 e3 => subst hm'; exact e3
        | val M u e1 e2 e3 e4 e5 e6 e7 e8 => rw [hko] at e7; rcases e7 with h | h | h | h <;> cases h
        | cal M R e1 e2 e3 e4 e5 e6 e7 e8 => rw [hko] at e7; cases e7
        | sto M u b' d d' e1 e2 e3 e4 e5 e6 e7 => rw [hko] at e6; rcases e6 with h | h <;> cases h
        | bld M F d e1 e2 e3 e4 e5 e6 e7 e8 => rw [hko] at e7; rcases e7 with h | h <;> cases h
        | gen S e1 e2 e3 e4 => rw [hko] at e3; cases e3
      | val M u e1 e2 e3 e4 e5 e6 e7 e8 => rw [hko] at e7; rcases e7 with h | h | h | h <;> cases h
      | cal M R e1 e2 e3 e4 e5 e6 e7 e8 => rw [hko] at e7; cases e7
      | sto M u b' d d' e1 e2 e3 e4 e5 e6 e7 => rw [hko] at e6; rcases e6 with h | h <;> cases h
      | bld M F d e1 e2 e3 e4 e5 e6 e7 e8 => rw [hko] at e7; rcases e7 with h | h <;> cases h
      | gen S e1 e2 e3 e4 => rw [hko] at e3; cases e3
    rcases key with ⟨d, k1, k2, k3, k4⟩ | ⟨k1, k2, k3⟩
    · exact .alc d k1 k2 k3 (.inl hko) fun b' hb' => .bld N F c a1 (a2.put a3 h3 (by simp [a4])) a3 a4 a5 ((Wants.put h3).2 a6) a7 fun b hb => (k4 b hb b' hb').congr (comm _ _ _) (List.Perm.swap _ _ _)
    · exact .skip k1 k2 (.bld N F c a1 (a2.put a3 h3 a2.2) a3 a4 a5 ((Wants.put h3).2 a6) a7 fun b hb => (k3 b hb).congr (comm _ _ _) (List.Perm.refl _))
  | cal N R a1 a2 a3 a4 a5 a6 a7 a8 => exfalso; revert hk; rw [a7]; simp [K.canPass]
  | gen S a1 a2 a3 a4 => exfalso; revert hk; rw [a3]; simp [K.canPass]

/-- one operation ahead of a row of others -/
theorem Tr.pull {i : Nat} {o : Oper} {rest : List (Nat × Oper)} {Q : Env → Mem → Prop} :
    ∀ (l : List (Nat × Oper)) {env : Env} {mem : Mem}, (∀ p, p ∈ l → canPass kd all p.2 o = true) → Tr P g all kd (l ++ (i, o) :: rest) env mem Q → Tr P g all kd ((i, o) :: (l ++ rest)) env mem Q
  | [], _, _, _, h => h
  | (j, p) :: l, env, mem, hl, h => by
    refine Tr.swap ?_ (hl (j, p) (by simp))
    have ih := fun {env : Env} {mem : Mem} => Tr.pull (i := i) (rest := rest) (Q := Q) l (env := env) (mem := mem) (fun q hq => hl q (by simp [hq]))
    simp only [List.cons_append] at h
    cases h with
    | val N v a1 a2 a3 a4 a5 a6 a7 a8 => exact .val N v a1 a2 a3 a4 a5 a6 a7 (ih a8)
    | skip a1 a2 a3 => exact .skip a1 a2 (ih a3)
    | sto N v b c c' a1 a2 a3 a4 a5 a6 a7 => exact .sto N v b c c' a1 a2 a3 a4 a5 a6 (ih a7)
    | alc c a1 a2 a3 a4 a5 => exact .alc c a1 a2 a3 a4 fun b hb => ih (a5 b hb)
    | bld N F c a1 a2 a3 a4 a5 a6 a7 a8 => exact .bld N F c a1 a2 a3 a4 a5 a6 a7 fun b hb => ih (a8 b hb)
    | cal N R a1 a2 a3 a4 a5 a6 a7 a8 => exact .cal N R a1 a2 a3 a4 a5 a6 a7 fun v es hr hb => ih (a8 v es hr hb)
    | gen S a1 a2 a3 a4 => exact .gen S a1 a2 a3 fun e m hs => ih (a4 e m hs)

/-! ### every order -/
def edgesOf (o : Oper) : List Nat := o.after.toList.filterMap fun e => if Region.binds .any e then some e.on else none

def maskOf (acc : List Nat) (o : Oper) : Nat := (edgesOf o).foldl (fun s j => s ||| 2 ^ j ||| acc.getD j 0) 0

def masks : List Oper → List Nat → List Nat
  | [], acc => acc
  | o :: r, acc => masks r (acc ++ [maskOf acc o])

def passAll (kd : Oper → K) (all : Array Oper) (ms : List Nat) : List (Nat × Oper) → Bool
  | [] => true
  | p :: r => r.all (fun q => (ms.getD q.1 0).testBit p.1 || canPass kd all p.2 q.2) && passAll kd all ms r

def laidOut (all : Array Oper) (order : List Nat) : List (Nat × Oper) := order.map fun i => (i, all.getD i default)

def nodupB : List Nat → Bool
  | [] => true
  | x :: r => !r.contains x && nodupB r

theorem nodup_of_nodupB : ∀ (l : List Nat), nodupB l = true → l.Nodup
  | [], _ => List.nodup_nil
  | x :: r, h => by
    simp only [nodupB, Bool.and_eq_true, Bool.not_eq_eq_eq_not, Bool.not_true] at h
    exact List.nodup_cons.2 ⟨fun hx => (by have := List.contains_iff_mem.2 hx; rw [h.1] at this; cases this), nodup_of_nodupB r h.2⟩

/-- the static look at a region that draws -/
def drawOk (kd : Oper → K) (all : Array Oper) (order : List Nat) : Bool :=
  (List.range all.size).all (fun i => order.contains i) && decide (order.length = all.size) && order.all (fun i => decide (i < all.size)) &&
  (List.range all.size).all (fun i => (edgesOf (all.getD i default)).all (fun j => decide (j < i))) &&
  passAll kd all (masks all.toList []) (laidOut all order) && nodupB order

def Closed (all : Array Oper) (listed : Nat → Prop) : Prop := ∀ i o, all[i]? = some o → listed i → ∀ j, j ∈ edgesOf o → listed j

theorem mask_listed {acc : List Nat} {listed : Nat → Prop} (hacc : ∀ k, listed k → ∀ j, (acc.getD k 0).testBit j = true → listed j) :
    ∀ (l : List Nat) (s : Nat), (∀ j, j ∈ l → listed j) → (∀ j, s.testBit j = true → listed j) → ∀ j, (l.foldl (fun s j => s ||| 2 ^ j ||| acc.getD j 0) s).testBit j = true → listed j
  | [], s, _, hs, j, h => hs j h
  | k :: l, s, hl, hs, j, h => by
    refine mask_listed hacc l _ (fun j hj => hl j (by simp [hj])) (fun i hi => ?_) j h
    simp only [Nat.testBit_or, Bool.or_eq_true, Nat.testBit_two_pow, decide_eq_true_eq] at hi
    rcases hi with (hi | hi) | hi
    · exact hs i hi
    · exact hi ▸ hl k (by simp)
    · exact hacc k (hl k (by simp)) i hi

theorem masks_listed {listed : Nat → Prop} (hc : Closed all listed) : ∀ (r : List Oper) (acc : List Nat),
    (∀ i o, r[i]? = some o → all[acc.length + i]? = some o) →
    (∀ k, listed k → ∀ j, (acc.getD k 0).testBit j = true → listed j) → ∀ k, listed k → ∀ j, ((masks r acc).getD k 0).testBit j = true → listed j
  | [], acc, _, hacc, k, hk, j, h => hacc k hk j h
  | o :: r, acc, hr, hacc, k, hk, j, h => by
    refine masks_listed hc r (acc ++ [maskOf acc o]) (fun i o' hi => ?_) (fun k hk j hj => ?_) k hk j h
    · have := hr (i + 1) o' (by simpa using hi)
      simpa [Nat.add_assoc, Nat.add_comm 1 i] using this
    · by_cases hlt : k < acc.length
      · refine hacc k hk j ?_
        simpa [List.getD, List.getElem?_append_left hlt] using hj
      · by_cases heq : k = acc.length
        · subst heq
          have ho := hr 0 o (by simp)
          refine mask_listed hacc (edgesOf o) 0 (fun i hi => hc _ o (by simpa using ho) hk i hi) (by simp) j ?_
          simpa [List.getD, maskOf] using hj
        · have : (acc ++ [maskOf acc o])[k]? = none := List.getElem?_eq_none (by simp; omega)
          simp [List.getD, this] at hj

theorem masks_getD_append (x : Nat) : ∀ (r : List Oper) (acc : List Nat), x < acc.length → (masks r acc).getD x 0 = acc.getD x 0
  | [], acc, _ => rfl
  | o :: r, acc, h => by
    simp only [masks]
    rw [masks_getD_append x r _ (by simp; omega)]
    simp [List.getD, List.getElem?_append_left h]

/-- of an operation all of whose edges are listed: all that stands in its mask is listed -/
theorem mask_of_ready {listed : Nat → Prop} (hc : Closed all listed) : ∀ (r : List Oper) (acc : List Nat),
    (∀ i o, r[i]? = some o → all[acc.length + i]? = some o) →
    (∀ k, listed k → ∀ j, (acc.getD k 0).testBit j = true → listed j) →
    ∀ i o, r[i]? = some o → (∀ j, j ∈ edgesOf o → listed j) → ∀ j, ((masks r acc).getD (acc.length + i) 0).testBit j = true → listed j
  | [], acc, _, _, i, o, hi, _, _, _ => by simp at hi
  | o' :: r, acc, hr, hacc, i, o, hi, he, j, hj => by
    have hr' : ∀ i o, r[i]? = some o → all[(acc ++ [maskOf acc o']).length + i]? = some o := fun i o'' hi => by
      have := hr (i + 1) o'' (by simpa using hi)
      simpa [Nat.add_assoc, Nat.add_comm 1 i] using this
    cases i with
    | zero =>
      simp only [List.getElem?_cons_zero, Option.some.injEq] at hi
      subst hi
      simp only [masks, Nat.add_zero] at hj
      rw [masks_getD_append _ _ _ (by simp)] at hj
      refine mask_listed hacc (edgesOf o') 0 he (by simp) j ?_
      simpa [List.getD, maskOf] using hj
    | succ i =>
      refine mask_of_ready hc r (acc ++ [maskOf acc o']) hr' ?_ i o (by simpa using hi) he j ?_
      · intro k hk j hj
        by_cases hlt : k < acc.length
        · refine hacc k hk j ?_
          simpa [List.getD, List.getElem?_append_left hlt] using hj
        · by_cases heq : k = acc.length
          · subst heq
            have ho := hr 0 o' (by simp)
            refine mask_listed hacc (edgesOf o') 0 (fun i hi => hc _ o' (by simpa using ho) hk i hi) (by simp) j ?_
            simpa [List.getD, maskOf] using hj
          · have : (acc ++ [maskOf acc o'])[k]? = none := List.getElem?_eq_none (by simp; omega)
            simp [List.getD, this] at hj
      · simp only [masks] at hj
        simpa [Nat.add_assoc, Nat.add_comm 1 i] using hj

theorem passAll_split {ms : List Nat} : ∀ (l1 : List (Nat × Oper)) (q : Nat × Oper) (l2 : List (Nat × Oper)), passAll kd all ms (l1 ++ q :: l2) = true →
    (∀ p, p ∈ l1 → (ms.getD q.1 0).testBit p.1 = true ∨ canPass kd all p.2 q.2 = true) ∧ passAll kd all ms (l1 ++ l2) = true
  | [], q, l2, h => by
    simp only [List.nil_append, passAll, Bool.and_eq_true] at h
    exact ⟨by simp, h.2⟩
  | p :: l1, q, l2, h => by
    simp only [List.cons_append, passAll, Bool.and_eq_true, List.all_append, List.all_cons] at h
    obtain ⟨⟨h1, h2, h3⟩, h4⟩ := h
    obtain ⟨i1, i2⟩ := passAll_split l1 q l2 h4
    refine ⟨fun p' hp' => ?_, ?_⟩
    · rcases List.mem_cons.1 hp' with rfl | hp'
      · simpa using h2
      · exact i1 p' hp'
    · simp only [List.cons_append, passAll, Bool.and_eq_true, List.all_append]
      exact ⟨⟨h1, h3⟩, i2⟩

theorem ready_iff {listed : Array Bool} {i : Nat} : i ∈ Region.ready .any all listed ↔
    i < all.size ∧ listed.getD i true = false ∧ ∀ o, all[i]? = some o → ∀ j, j ∈ edgesOf o → listed.getD j false = true := by
  unfold Region.ready
  simp only [List.mem_filter, List.mem_range, Bool.and_eq_true, Bool.not_eq_eq_eq_not, Bool.not_true]
  constructor
  · rintro ⟨h1, h2, h3⟩
    refine ⟨h1, h2, fun o ho j hj => ?_⟩
    rw [ho] at h3
    simp only [Option.map_some, Option.getD_some, Array.all_eq_true', Bool.or_eq_true, Bool.not_eq_eq_eq_not, Bool.not_true] at h3
    unfold edgesOf at hj
    obtain ⟨e, he, hj⟩ := List.mem_filterMap.1 hj
    split at hj
    · rename_i hb
      obtain rfl := Option.some.inj hj
      rcases h3 e (by simpa using he) with h | h
      · rw [hb] at h; cases h
      · exact h
    · cases hj
  · rintro ⟨h1, h2, h3⟩
    refine ⟨h1, h2, ?_⟩
    have ho : all[i]? = some all[i] := Array.getElem?_eq_getElem h1
    rw [ho]
    simp only [Option.map_some, Option.getD_some, Array.all_eq_true', Bool.or_eq_true, Bool.not_eq_eq_eq_not, Bool.not_true]
    intro e he
    by_cases hb : Region.binds .any e = true
    · exact .inr (h3 _ ho e.on (List.mem_filterMap.2 ⟨e, by simpa using he, by simp [hb]⟩))
    · exact .inl (by simpa using hb)

theorem getD_set_true {listed : Array Bool} {i j : Nat} : (listed.setIfInBounds i true).getD j false = true ↔ (i = j ∧ j < listed.size) ∨ listed.getD j false = true := by
  simp only [Array.getD_eq_getD_getElem?, Array.getElem?_setIfInBounds]
  by_cases h : i = j
  · subst h
    by_cases h2 : i < listed.size <;> simp [h2]
  · simp [h]

theorem Tr.any {QX : Exit → Act → World → Prop} {Q : Env → Mem → Prop} (hQ : ∀ env mem a w, Q env mem → EH g env a → MH g mem w → QX .normal a w)
    (hlow : ∀ i o, all[i]? = some o → ∀ j, j ∈ edgesOf o → j < i) :
    ∀ (fuel : Nat) (L : List (Nat × Oper)) (listed : Array Bool), listed.size = all.size → L.length = fuel →
      (∀ p, p ∈ L → all[p.1]? = some p.2) → (∀ i, i < all.size → (listed.getD i false = false ↔ ∃ o, (i, o) ∈ L)) → (L.map (·.1)).Nodup →
      Closed all (fun i => listed.getD i false = true) → passAll kd all (masks all.toList []) L = true →
      ∀ env mem a w, Tr P g all kd L env mem Q → EH g env a → MH g mem w → wpAny P .any all QX fuel listed a w := by
  intro fuel
  have get_of_lt : ∀ (listed : Array Bool), listed.size = all.size → ∀ i, i < all.size → listed.getD i true = listed.getD i false := by
    intro listed hs i hi
    simp [Array.getD, hs, hi]
  induction fuel with
  | zero =>
    intro L listed hs hlen hL hlist hnd hcl hpass env mem a w ht ha hw
    have hL0 : L = [] := List.length_eq_zero_iff.1 hlen
    subst hL0
    refine ⟨?_, ?_⟩
    · refine List.eq_nil_iff_forall_not_mem.2 fun i hi => ?_
      obtain ⟨h1, h2, _⟩ := ready_iff.1 hi
      rw [get_of_lt listed hs i h1] at h2
      obtain ⟨o, ho⟩ := (hlist i h1).1 h2
      simp at ho
    · cases ht with
      | nil hq he hm => exact hQ _ _ a w hq (ha.congr fun t => (he t).symm) (hw.perm hm.symm)
  | succ fuel ih =>
    intro L listed hs hlen hL hlist hnd hcl hpass env mem a w ht ha hw
    refine ⟨fun hnil => ?_, fun i hi => ?_⟩
    · exfalso
      -- the least one that is not listed is ready
      have hex : ∀ n, (∃ i, i < n ∧ i < all.size ∧ listed.getD i false = false) → False := by
        intro n
        induction n with
        | zero => rintro ⟨i, h, _⟩; omega
        | succ n ihn =>
          rintro ⟨i, h1, h2, h3⟩
          by_cases hlt : ∃ i, i < n ∧ i < all.size ∧ listed.getD i false = false
          · exact ihn hlt
          · have hin : i = n := by
              by_cases h : i < n
              · exact (hlt ⟨i, h, h2, h3⟩).elim
              · omega
            subst hin
            have : i ∈ Region.ready .any all listed := ready_iff.2 ⟨h2, by rw [get_of_lt listed hs i h2]; exact h3, fun o ho j hj => by
              have hji := hlow i o ho j hj
              cases hjl : listed.getD j false with
              | true => rfl
              | false => exact (hlt ⟨j, hji, by omega, hjl⟩).elim⟩
            rw [hnil] at this
            simp at this
      have hne : L ≠ [] := by rintro rfl; simp at hlen
      obtain ⟨p, hp⟩ := List.exists_mem_of_ne_nil L hne
      have hps : p.1 < all.size := by
        have := hL p hp
        rcases Nat.lt_or_ge p.1 all.size with h | h
        · exact h
        · rw [Array.getElem?_eq_none h] at this; cases this
      exact hex all.size ⟨p.1, hps, hps, (hlist p.1 hps).2 ⟨p.2, hp⟩⟩
    · obtain ⟨h1, h2, h3⟩ := ready_iff.1 hi
      rw [get_of_lt listed hs i h1] at h2
      obtain ⟨o, ho⟩ := (hlist i h1).1 h2
      obtain ⟨l1, l2, rfl⟩ := List.append_of_mem ho
      have hio : all[i]? = some o := hL _ ho
      obtain ⟨hsplit, hpass'⟩ := passAll_split l1 (i, o) l2 hpass
      have hpull : ∀ p, p ∈ l1 → canPass kd all p.2 o = true := by
        intro p hp
        rcases hsplit p hp with hb | hb
        · exfalso
          have hlp := mask_of_ready hcl all.toList [] (by simp) (by simp) i o (by simpa using hio) (fun j hj => h3 o hio j hj) p.1 (by simpa using hb)
          have hps : p.1 < all.size := by
            have := hL p (by simp [hp])
            rcases Nat.lt_or_ge p.1 all.size with h | h
            · exact h
            · rw [Array.getElem?_eq_none h] at this; cases this
          have := (hlist p.1 hps).2 ⟨p.2, by simp [hp]⟩
          rw [this] at hlp; cases hlp
        · exact hb
      refine (ht.pull l1 hpull).step hio (fun env' mem' a' w' ht' ha' hw' => ?_) ha hw
      have hnd' : ((l1 ++ l2).map (·.1)).Nodup ∧ i ∉ (l1 ++ l2).map (·.1) := by
        have hp : ((l1 ++ (i, o) :: l2).map (·.1)).Perm (i :: (l1 ++ l2).map (·.1)) := by
          simp only [List.map_append, List.map_cons]; exact List.perm_middle
        have := hp.nodup_iff.1 hnd
        simp only [List.nodup_cons] at this
        exact ⟨this.2, this.1⟩
      refine ih (l1 ++ l2) (listed.setIfInBounds i true) (by simp [hs]) (by simp at hlen ⊢; omega) (fun p hp => hL p ?_) (fun k hk => ?_) hnd'.1 ?_ hpass' env' mem' a' w' ht' ha' hw'
      · rcases List.mem_append.1 hp with h | h <;> simp [h]
      · have e1 : ((listed.setIfInBounds i true).getD k false = false) ↔ ¬ ((i = k ∧ k < listed.size) ∨ listed.getD k false = true) := by
          rw [← getD_set_true]; simp
        rw [e1]
        constructor
        · intro h
          have hki : i ≠ k := fun e => h (.inl ⟨e, by omega⟩)
          have hkl : listed.getD k false = false := by
            cases hx : listed.getD k false with
            | false => rfl
            | true => exact (h (.inr hx)).elim
          obtain ⟨o', ho'⟩ := (hlist k hk).1 hkl
          refine ⟨o', ?_⟩
          rcases List.mem_append.1 ho' with h' | h'
          · simp [h']
          · rcases List.mem_cons.1 h' with h' | h'
            · cases h'; exact (hki rfl).elim
            · simp [h']
        · rintro ⟨o', ho'⟩ h
          rcases h with ⟨rfl, _⟩ | h
          · exact hnd'.2 (List.mem_map.2 ⟨_, ho', rfl⟩)
          · have : listed.getD k false = false := (hlist k hk).2 ⟨o', by rcases List.mem_append.1 ho' with h | h <;> simp [h]⟩
            rw [this] at h; cases h
      · intro k o' hko hk j hj
        rw [getD_set_true] at hk ⊢
        rcases hk with ⟨rfl, _⟩ | hk
        · exact .inr (h3 o' hko j hj)
        · exact .inr (hcl k o' hko hk j hj)

theorem Tr.draw {QX : Exit → Act → World → Prop} {Q : Env → Mem → Prop} (hQ : ∀ env mem a w, Q env mem → EH g env a → MH g mem w → QX .normal a w)
    (hm : P.follows .mixedOrders = true) {id : Nat} (order : List Nat) (hok : drawOk kd all order = true) {env : Env} {mem : Mem} {a : Act} {w : World}
    (ht : Tr P g all kd (laidOut all order) env mem Q) (ha : EH g env a) (hw : MH g mem w) : (Code.region id all true).wp P QX a w := by
  simp only [drawOk, Bool.and_eq_true, List.all_eq_true, List.mem_range, decide_eq_true_eq, List.contains_iff_mem] at hok
  obtain ⟨⟨⟨⟨⟨c1, c2⟩, c3⟩, c4⟩, c5⟩, c6⟩ := hok
  refine wp_region_any hm ?_
  have hget : ∀ i, i < all.size → all[i]? = some (all.getD i default) := fun i hi => by simp [Array.getD, hi]
  have hlow : ∀ i o, all[i]? = some o → ∀ j, j ∈ edgesOf o → j < i := fun i o ho j hj => by
    have hi : i < all.size := by
      rcases Nat.lt_or_ge i all.size with h | h
      · exact h
      · rw [Array.getElem?_eq_none h] at ho; cases ho
    have : all.getD i default = o := by rw [hget i hi] at ho; exact Option.some.inj ho
    exact c4 i hi j (by rw [this]; exact hj)
  have hmap : (laidOut all order).map (·.1) = order := by simp [laidOut, Function.comp_def]
  have hnodup : order.Nodup := nodup_of_nodupB _ c6
  refine Tr.any hQ hlow all.size (laidOut all order) _ (by simp) (by simp [laidOut, c2]) ?_ ?_ (by rw [hmap]; exact hnodup) ?_ c5 env mem a _ ht ha (hw.ext (below_drawn w _))
  · intro p hp
    obtain ⟨i, hi, rfl⟩ := List.mem_map.1 hp
    exact hget i (c3 i hi)
  · intro i hi
    simp only [laidOut, List.mem_map, Prod.mk.injEq]
    constructor
    · intro _; exact ⟨_, i, c1 i hi, rfl, rfl⟩
    · intro _; simp [Array.getD, hi]
  · intro i o _ h
    simp [Array.getD] at h
end
end Go.Proofs.Ytffghaeaohabhaa.AW
