/-
  Rows of bytes whose capacity is known, nil among them; their slices.
-/
import Derived.Test.YtffghaeaohabhaaOp5
import Derived.Test.YtffghaeaohabhaaGe
namespace Go.Proofs.Ytffghaeaohabhaa.AW
open Go Go.RowKit

/-- bytes: nil, or a row -/
def Row (a0 : Option Addr) (A : List UInt8) (cp : Nat) (rd : List Ent) : Prop :=
  (a0 = none ∧ A = [] ∧ cp = 0) ∨ ∃ b off c, a0 = some ⟨b, off, none⟩ ∧ (⟨b, c, false⟩ : Ent) ∈ rd ∧ At c off (u8s A) ∧ A.length ≤ cp

def ro (es : List Ent) : List Ent := es.map fun e => ⟨e.b, e.cells, false⟩
theorem ro_rw (es : List Ent) : ∀ e, e ∈ ro es → e.rw = false := fun e he => by
  obtain ⟨x, _, rfl⟩ := List.mem_map.1 he
  rfl
theorem Has.ro {es mem : List Ent} (h : ∀ e, e ∈ es → e ∈ mem) : Has (ro es) mem := fun e he => by
  obtain ⟨x, hx, rfl⟩ := List.mem_map.1 he
  exact ⟨x.rw, (fun h => by cases h), h x hx⟩
theorem Has.two {r1 r2 mem : List Ent} (h1 : Has r1 mem) (h2 : Has r2 mem) : Has (r1 ++ r2) mem := fun e he => by
  rcases List.mem_append.1 he with he | he
  · exact h1 e he
  · exact h2 e he
theorem Has.self (rd : List Ent) : Has rd rd := fun e he => ⟨e.rw, id, he⟩

section
variable {a0 : Option Addr} {A : List UInt8} {cp : Nat} {rd rd' mem : List Ent}
theorem Row.cap (h : Row a0 A cp rd) : A.length ≤ cp := by
  rcases h with ⟨_, rfl, rfl⟩ | ⟨_, _, _, _, _, _, h⟩
  · exact Nat.le_refl _
  · exact h
theorem Row.mono (h : Row a0 A cp rd) (hs : ∀ e, e ∈ rd → e ∈ rd') : Row a0 A cp rd' := by
  rcases h with h | ⟨b, off, c, h1, h2, h3, h4⟩
  · exact .inl h
  · exact .inr ⟨b, off, c, h1, hs _ h2, h3, h4⟩
theorem Row.left (h : Row a0 A cp rd) (r : List Ent) : Row a0 A cp (rd ++ r) := h.mono fun e he => List.mem_append_left _ he
theorem Row.right (h : Row a0 A cp rd) (r : List Ent) : Row a0 A cp (r ++ rd) := h.mono fun e he => List.mem_append_right _ he
theorem Row.src (h : Row a0 A cp rd) : Src a0 A cp rd := by
  rcases h with ⟨_, h, _⟩ | ⟨b, off, c, h1, h2, h3, h4⟩
  · exact .inl h
  · exact .inr ⟨b, off, c, false, h1, h2, h3⟩
theorem Row.pos (h : Row a0 A cp rd) (h0 : 0 < A.length) : ∃ b off c, a0 = some ⟨b, off, none⟩ ∧ (⟨b, c, false⟩ : Ent) ∈ rd ∧ At c off (u8s A) ∧ A.length ≤ cp := by
  rcases h with ⟨_, rfl, _⟩ | h
  · exact absurd h0 (by decide)
  · exact h
theorem at_take {c : List Value} {off k : Nat} (h : At c off (u8s A)) (hk : k ≤ A.length) : At c off (u8s (A.take k)) := by
  obtain ⟨l, r, e1, e2⟩ := h
  refine ⟨l, u8s (A.drop k) ++ r, ?_, e2⟩
  rw [e1, ← List.append_assoc (l ++ u8s (A.take k)), List.append_assoc l (u8s (A.take k)), ← List.map_append, List.take_append_drop]
theorem at_drop {c : List Value} {off k : Nat} (h : At c off (u8s A)) (hk : k ≤ A.length) : At c (off + k) (u8s (A.drop k)) := by
  obtain ⟨l, r, e1, e2⟩ := h
  refine ⟨l ++ u8s (A.take k), r, ?_, by simp [e2, hk]⟩
  rw [e1, List.append_assoc l (u8s (A.take k)), ← List.map_append, List.take_append_drop]
/-- the first elements, as a source -/
theorem Row.srcTake (h : Row a0 A cp rd) (k : Nat) (hk : k ≤ A.length) (hm : ∀ e, e ∈ rd → e ∈ mem) : SrcOf mem (.slice a0 k cp) (u8s (A.take k)) := by
  rcases h with ⟨rfl, rfl, rfl⟩ | ⟨b, off, c, rfl, h2, h3, h4⟩
  · obtain rfl : k = 0 := by simpa using hk
    exact .nil
  · exact .row (hm _ h2) (at_take h3 hk) (by simp [hk])
theorem Row.nonil (b off : Nat) (c : List Value) (h : (⟨b, c, false⟩ : Ent) ∈ rd) (h2 : At c off (u8s A)) (h3 : A.length ≤ cp) : Row (some ⟨b, off, none⟩) A cp rd := .inr ⟨b, off, c, rfl, h, h2, h3⟩
theorem Row.one (b : Nat) (L : List UInt8) (n : Nat) (h : L.length = n) : Row (some ⟨b, 0, none⟩) L n [⟨b, u8s L, false⟩] := .inr ⟨b, 0, _, rfl, List.mem_singleton.2 rfl, At.all _, by omega⟩
end

theorem Fresh.toRow {L : List UInt8} {v : Value} {es : List Ent} (h : Fresh (u8s L) v es) : ∃ a cp, v = .slice a L.length cp ∧ Row a L cp (ro es) := by
  rcases h with ⟨h1, rfl, rfl⟩ | ⟨b, pre, sp, rfl, rfl⟩
  · have : L = [] := by simpa using h1
    subst this
    exact ⟨none, 0, rfl, .inl ⟨rfl, rfl, rfl⟩⟩
  · have hl : (u8s L).length = L.length := by simp
    rw [hl]
    exact ⟨_, _, rfl, .inr ⟨b, pre.length, _, rfl, List.mem_singleton.2 rfl, ⟨pre, sp, rfl, rfl⟩, by omega⟩⟩
theorem Fresh.srcOf {l : List Value} {v : Value} {es mem : List Ent} (h : Fresh l v es) (hm : ∀ e, e ∈ es → e ∈ mem) : SrcOf mem v l := by
  rcases h with ⟨rfl, rfl, rfl⟩ | ⟨b, pre, sp, rfl, rfl⟩
  · exact .nil
  · exact .row (hm _ (List.mem_singleton.2 rfl)) ⟨pre, sp, rfl, rfl⟩ rfl

section
variable {P : Program} {g : Gh} {all : Array Oper} {kd : Oper → K} {i : Nat} {o : Oper} {rest : List (Nat × Oper)} {env : Env} {mem : Mem} {Q : Env → Mem → Prop}
variable {T : List (Nat × TD)} {d ty : Nat} {p : String} {af : Array Edge} {gd : Option (Nat × Bool)} {x y z : Operand} {v u v0 : Value} {t t' : Nat}

/-- nil[:0] -/
theorem Tr.sliceHN (hT : TabOk P T) {e : Nat} {k' : IntKind} {oh : Operand} {D E : TD}
    (hx : ev env x = some (.slice none 0 0)) (hh : ev env oh = some (.int k' 0)) (h1 : lk t T = some D) (h2 : D.desc = .slice e) (h3 : lk e T = some E)
    (hd : Nat.blt d g.n = true) (hW : Wants all ⟨some d, .slice t x none (some oh) none, ty, p, af, gd⟩ env) (hk : (kd ⟨some d, .slice t x none (some oh) none, ty, p, af, gd⟩).vOk = true)
    (next : Tr P g all kd rest ((d, .slice none 0 0) :: env) mem Q) :
    Tr P g all kd ((i, ⟨some d, .slice t x none (some oh) none, ty, p, af, gd⟩) :: rest) env mem Q := by
  refine .v ⟨[(x, .slice none 0 0), (oh, .int k' 0)], []⟩ _ (opV_of fun a w hm' => ?_) ⟨by simp [hx, hh], by simp⟩ (slice_within (by simp)) (.inl rfl) hd hW hk next
  have g1 : a.eval x = _ := hm'.1 (x, .slice none 0 0) (by simp)
  have g2 : a.eval oh = _ := hm'.1 (oh, .int k' 0) (by simp)
  have hu := hT.und h1 w
  rw [h2] at hu
  have hs := hT.sz h3 w
  simp [execOp, Instr.sliceAt, hu, Instr.slice, g1, g2, Instr.sliceBounds, Instr.sliceBound, asIntOf, hs]

/-- a[:k] of a row or nil -/
theorem Tr.sliceHR (hT : TabOk P T) {e : Nat} {k' : IntKind} {oh : Operand} {D : TD} {ds : TypeDesc} {bs : Nat} {z0 : List Value} {a0 : Option Addr} {A : List UInt8} {cp len k : Nat} {rd : List Ent} (hr : Row a0 A cp rd) (hl : len = A.length) (hkl : k ≤ A.length)
    (hx : ev env x = some (.slice a0 len cp)) (hh : ev env oh = some (.int k' (k : Int))) (h1 : lk t T = some D) (h2 : D.desc = .slice e) (h3 : lk e T = some ⟨ds, 1, bs, z0⟩)
    (hd : Nat.blt d g.n = true) (hW : Wants all ⟨some d, .slice t x none (some oh) none, ty, p, af, gd⟩ env) (hk : (kd ⟨some d, .slice t x none (some oh) none, ty, p, af, gd⟩).vOk = true)
    (next : Tr P g all kd rest ((d, .slice a0 k cp) :: env) mem Q) :
    Tr P g all kd ((i, ⟨some d, .slice t x none (some oh) none, ty, p, af, gd⟩) :: rest) env mem Q := by
  rcases hr with ⟨rfl, rfl, rfl⟩ | ⟨b, off, c, rfl, _, _, hc⟩
  · obtain rfl : k = 0 := by simpa using hkl
    obtain rfl : len = 0 := hl
    exact Tr.sliceHN hT hx hh h1 h2 h3 hd hW hk next
  · exact Tr.sliceH hT hx hh h1 h2 h3 (by omega) (by omega) hd hW hk next
end
end Go.Proofs.Ytffghaeaohabhaa.AW
