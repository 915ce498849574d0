/-
  The rules of the abstract walk, one for each operation that occurs.
-/
import Derived.Test.YtffghaeaohabhaaAw
namespace Go.Proofs.Ytffghaeaohabhaa.AW
open Go Go.RowKit

/-! ### what is known of the types -/
structure TD where
  desc : TypeDesc
  size : Nat
  bytes : Nat
  zero : List Value

def TabOk (P : Program) (T : List (Nat × TD)) : Prop :=
  ∀ t d, lk t T = some d → P.underlying t = some d.desc ∧ ∃ i, P.info? t = some i ∧ i.size = d.size ∧ i.bytes = d.bytes ∧ ∃ z, i.zero = some z ∧ z.cells.toList = d.zero

def TdOk (P : Program) (t : Nat) (d : TD) : Prop :=
  P.underlying t = some d.desc ∧ ∃ i, P.info? t = some i ∧ i.size = d.size ∧ i.bytes = d.bytes ∧ ∃ z, i.zero = some z ∧ z.cells.toList = d.zero

theorem TabOk.nil {P : Program} : TabOk P [] := fun t d h => by simp [lk] at h

theorem TabOk.cons {P : Program} {T : List (Nat × TD)} {t : Nat} {d : TD} (h : TdOk P t d) (ht : TabOk P T) : TabOk P ((t, d) :: T) := fun t' d' h' => by
  rw [lk_cons] at h'
  by_cases e : t' = t
  · subst e; rw [if_pos rfl] at h'; obtain rfl := Option.some.inj h'; exact h
  · rw [if_neg e] at h'; exact ht t' d' h'

section
variable {P : Program} {T : List (Nat × TD)}

theorem TabOk.und (hT : TabOk P T) {t : Nat} {d : TD} (h : lk t T = some d) (w : World) : (underlying t).run P w = .ok d.desc w := by
  have := (hT t d h).1
  simp [underlying, this]

theorem TabOk.sz (hT : TabOk P T) {t : Nat} {d : TD} (h : lk t T = some d) (w : World) : (sizeOf t).run P w = .ok d.size w := by
  obtain ⟨i, h1, h2, _⟩ := (hT t d h).2
  simp [sizeOf, typeInfo, h1, h2]

theorem TabOk.zv (hT : TabOk P T) {t : Nat} {d : TD} (h : lk t T = some d) : ∃ z : Value, z.cells.toList = d.zero ∧ ∀ w, (zeroValue t).run P w = .ok z w := by
  obtain ⟨i, h1, h2, _, z, h3, h4⟩ := (hT t d h).2
  exact ⟨z, h4, fun w => by simp [zeroValue, typeInfo, h1, h3]⟩

/-- is it an array or a struct? -/
def TD.agg (d : TD) : Bool := match d.desc with | .struct _ => true | .array _ _ => true | _ => false

theorem TabOk.isAgg (hT : TabOk P T) {t : Nat} {d : TD} (h : lk t T = some d) (w : World) : (isAgg t).run P w = .ok d.agg w := by
  have := hT.und h w
  unfold Go.isAgg TD.agg
  rw [Sem.run_bind, this]
  simp only [Result.andThen_ok]
  cases d.desc <;> rfl
end

/-! ### kinds -/
def K.vOk : K → Bool | .pure | .read | .gen | .rdf => true | _ => false
/-- may it read blocks (rw: blocks that may be written)? -/
def K.lOk : K → Bool → Bool | .read, _ | .gen, _ => true | .rdf, rw => !rw | _, _ => false
def K.cOk : K → Bool | .cal => true | _ => false
def K.rOk : K → Bool | .read | .gen => true | _ => false
def K.sOk : K → Bool | .store | .gen => true | _ => false
def K.aOk : K → Bool | .alloc | .gen => true | _ => false
def K.bOk : K → Bool | .build | .gen => true | _ => false
def K.gOk : K → Bool | .gen => true | _ => false

def dstB (dst : Option Nat) (n : Nat) : Bool := match dst with | none => true | some d => Nat.blt d n

theorem dstB_lt {dst : Option Nat} {n : Nat} (h : dstB dst n = true) : ∀ d, dst = some d → d < n := by
  rintro d rfl
  simpa [dstB] using h

/-- the kind of an operation, for a region that draws -/
def kindOf (o : Oper) : K :=
  match o.op with
  | .move _ | .assign _ | .pick .. | .build .. | .nilCheck _ | .binOp .. | .unOp .. | .slice .. | .fieldAddr .. | .field .. | .indexAddr .. | .index .. | .extract .. | .makeFunc .. | .sliceToArrayPointer .. => .pure
  | .load .. | .convert .. => .read
  | .store .. => .store
  | .alloc _ => .alloc
  | .box .. | .buildSlice .. => .build
  | .call { callee := .value (.func _), .. } => .read
  | .call { callee := .builtin .len, .. } | .call { callee := .builtin .max, .. } => .pure
  | _ => .gen

def allGen (_ : Oper) : K := .gen

section
variable {P : Program} {g : Gh} {all : Array Oper} {kd : Oper → K} {i : Nat} {o : Oper} {rest : List (Nat × Oper)} {env : Env} {mem : Mem} {Q : Env → Mem → Prop}

theorem Tr.v (N : Need) (v : Value) (hop : OpV P o N v) (hs : N.sat env mem) (hw : N.within o) (hm : N.mem = [] ∨ (kd o).rOk = true ∨ (kd o = .rdf ∧ ∀ e, e ∈ N.mem → e.rw = false)) (hd : dstB o.dst g.n = true) (hW : Wants all o env) (hk : (kd o).vOk = true)
    (next : Tr P g all kd rest (putE o.dst v env) mem Q) : Tr P g all kd ((i, o) :: rest) env mem Q :=
  .val N v hop hs hw (hm.imp id fun h => by rcases h with h | h; (revert h; cases kd o <;> simp [K.rOk]); exact .inr (.inr h)) (dstB_lt hd) hW (by revert hk; cases kd o <;> simp [K.vOk]) next

theorem Tr.skp (hd : dstB o.dst g.n = true) (hW : Shuns all o env) (next : Tr P g all kd rest (putE o.dst undef env) mem Q) : Tr P g all kd ((i, o) :: rest) env mem Q :=
  .skip (dstB_lt hd) hW next

theorem Tr.b (N : Need) (F : Nat → Value) (c : List Value) (hop : OpB P o N F c) (hs : N.sat env mem) (hw : N.within o) (hm : N.mem = []) (hd : dstB o.dst g.n = true) (hW : Wants all o env) (hk : (kd o).bOk = true)
    (next : ∀ b, g.w0.heap.size ≤ b → Tr P g all kd rest (putE o.dst (F b) env) (⟨b, c, true⟩ :: mem) Q) : Tr P g all kd ((i, o) :: rest) env mem Q :=
  .bld N F c hop hs hw hm (dstB_lt hd) hW (by revert hk; cases kd o <;> simp [K.bOk]) next

/-! ### pieces -/
theorem met1 {N : Need} {a : Act} {w : World} {x : Operand} {v : Value} (h : N.met a w) (hx : (x, v) ∈ N.env) : a.eval x = v := h.1 _ hx

def n0 : Need := ⟨[], []⟩
def n1 (x : Operand) (v : Value) : Need := ⟨[(x, v)], []⟩
def n2 (x : Operand) (v : Value) (y : Operand) (u : Value) : Need := ⟨[(x, v), (y, u)], []⟩

theorem n1.sat {x : Operand} {v : Value} (h : ev env x = some v) : (n1 x v).sat env mem := ⟨by simp [n1, h], by simp [n1]⟩
theorem n2.sat {x y : Operand} {v u : Value} (h : ev env x = some v) (h' : ev env y = some u) : (n2 x v y u).sat env mem := ⟨by simp [n2, h, h'], by simp [n2]⟩
theorem n1.within {x : Operand} {v : Value} (h : x ∈ o.op.operands.toList) : (n1 x v).within o := by
  intro p hp t ht
  simp only [n1, List.mem_singleton] at hp
  subst hp; exact ht ▸ h
theorem n2.within {x y : Operand} {v u : Value} (h : x ∈ o.op.operands.toList) (h' : y ∈ o.op.operands.toList) : (n2 x v y u).within o := by
  intro p hp t ht
  simp only [n2, List.mem_cons, List.not_mem_nil, or_false] at hp
  rcases hp with rfl | rfl
  · exact ht ▸ h
  · exact ht ▸ h'
theorem n1.get {x : Operand} {v : Value} {a : Act} {w : World} (h : (n1 x v).met a w) : a.eval x = v := h.1 (x, v) (by simp [n1])
theorem n2.get {x y : Operand} {v u : Value} {a : Act} {w : World} (h : (n2 x v y u).met a w) : a.eval x = v ∧ a.eval y = u := ⟨h.1 (x, v) (by simp [n2]), h.1 (y, u) (by simp [n2])⟩

/-- from a run that hands a value back -/
theorem opV_of {N : Need} {v : Value} (h : ∀ a w, N.met a w → (execOp a.eval o).run P w = .ok (.value v) w) : OpV P o N v :=
  fun a w hm => by rw [h a w hm]; exact ⟨rfl, rfl⟩

section
variable {d ty : Nat} {p : String} {af : Array Edge} {gd : Option (Nat × Bool)} {x y z : Operand} {v u : Value} {t t' : Nat}

theorem Tr.move (h : ev env x = some v) (hd : Nat.blt d g.n = true) (hW : Wants all ⟨some d, .move x, ty, p, af, gd⟩ env) (hk : (kd ⟨some d, .move x, ty, p, af, gd⟩).vOk = true)
    (next : Tr P g all kd rest ((d, v) :: env) mem Q) : Tr P g all kd ((i, ⟨some d, .move x, ty, p, af, gd⟩) :: rest) env mem Q :=
  .v (n1 x v) v (opV_of fun a w hm => by simp [execOp, n1.get hm]) (n1.sat h) (n1.within (by simp [Op.operands])) (.inl rfl) hd hW hk next

theorem Tr.assign (h : ev env x = some v) (hd : Nat.blt d g.n = true) (hW : Wants all ⟨some d, .assign x, ty, p, af, gd⟩ env) (hk : (kd ⟨some d, .assign x, ty, p, af, gd⟩).vOk = true)
    (next : Tr P g all kd rest ((d, v) :: env) mem Q) : Tr P g all kd ((i, ⟨some d, .assign x, ty, p, af, gd⟩) :: rest) env mem Q :=
  .v (n1 x v) v (opV_of fun a w hm => by simp [execOp, n1.get hm]) (n1.sat h) (n1.within (by simp [Op.operands])) (.inl rfl) hd hW hk next

theorem Tr.pickT (hc : ev env x = some (.bool true)) (h : ev env y = some v) (hd : Nat.blt d g.n = true) (hW : Wants all ⟨some d, .pick x y z, ty, p, af, gd⟩ env) (hk : (kd ⟨some d, .pick x y z, ty, p, af, gd⟩).vOk = true)
    (next : Tr P g all kd rest ((d, v) :: env) mem Q) : Tr P g all kd ((i, ⟨some d, .pick x y z, ty, p, af, gd⟩) :: rest) env mem Q :=
  .v (n2 x (.bool true) y v) v (opV_of fun a w hm => by simp [execOp, asBool, n2.get hm]) (n2.sat hc h) (n2.within (by simp [Op.operands]) (by simp [Op.operands])) (.inl rfl) hd hW hk next

theorem Tr.pickF (hc : ev env x = some (.bool false)) (h : ev env z = some v) (hd : Nat.blt d g.n = true) (hW : Wants all ⟨some d, .pick x y z, ty, p, af, gd⟩ env) (hk : (kd ⟨some d, .pick x y z, ty, p, af, gd⟩).vOk = true)
    (next : Tr P g all kd rest ((d, v) :: env) mem Q) : Tr P g all kd ((i, ⟨some d, .pick x y z, ty, p, af, gd⟩) :: rest) env mem Q :=
  .v (n2 x (.bool false) z v) v (opV_of fun a w hm => by simp [execOp, asBool, n2.get hm]) (n2.sat hc h) (n2.within (by simp [Op.operands]) (by simp [Op.operands])) (.inl rfl) hd hW hk next

theorem Tr.extract {k : Nat} {vs : List Value} (h : ev env x = some (.tuple vs.toArray)) (hv : vs[k]? = some v) (hd : Nat.blt d g.n = true) (hW : Wants all ⟨some d, .extract x k, ty, p, af, gd⟩ env) (hk : (kd ⟨some d, .extract x k, ty, p, af, gd⟩).vOk = true)
    (next : Tr P g all kd rest ((d, v) :: env) mem Q) : Tr P g all kd ((i, ⟨some d, .extract x k, ty, p, af, gd⟩) :: rest) env mem Q :=
  .v (n1 x (.tuple vs.toArray)) v (opV_of fun a w hm => by simp [execOp, Instr.extract, n1.get hm, hv]) (n1.sat h) (n1.within (by simp [Op.operands])) (.inl rfl) hd hW hk next

theorem Tr.nilCheck {ad : Addr} (h : ev env x = some (.pointer (some ad))) (hd : Nat.blt d g.n = true) (hW : Wants all ⟨some d, .nilCheck x, ty, p, af, gd⟩ env) (hk : (kd ⟨some d, .nilCheck x, ty, p, af, gd⟩).vOk = true)
    (next : Tr P g all kd rest ((d, .pointer (some ad)) :: env) mem Q) : Tr P g all kd ((i, ⟨some d, .nilCheck x, ty, p, af, gd⟩) :: rest) env mem Q :=
  .v (n1 x (.pointer (some ad))) _ (opV_of fun a w hm => by simp [execOp, n1.get hm]) (n1.sat h) (n1.within (by simp [Op.operands])) (.inl rfl) hd hW hk next

end
end

/-! ### cells -/
theorem Ent.holds.cell {e : Ent} {w : World} (h : e.holds w) {off : Nat} {v : Value} (hv : e.cells[off]? = some v) : w.cell? ⟨e.b, off, none⟩ = some v := by
  obtain ⟨c, ty, fz, h1, ⟨tl, h2⟩, h3⟩ := h
  unfold World.cell?
  simp only [h1]
  have : c[off]? = c.toList[off]? := by simp
  simp only [Option.isSome_none, Bool.false_eq_true, if_false]
  rw [this, h2, List.getElem?_append_left]
  · exact hv
  · rcases Nat.lt_or_ge off e.cells.length with h | h
    · exact h
    · rw [List.getElem?_eq_none h] at hv; cases hv

theorem addr_add (b off j : Nat) : (⟨b, off, none⟩ : Addr).add j = ⟨b, off + j, none⟩ := by
  unfold Addr.add
  split
  · rename_i h; subst h; rfl
  · rfl

/-- the cells from 'off' on begin with cs -/
def At (cells : List Value) (off : Nat) (cs : List Value) : Prop := ∃ l r, cells = l ++ cs ++ r ∧ l.length = off

theorem At.get {cells cs : List Value} {off : Nat} (h : At cells off cs) {j : Nat} {v : Value} (hj : cs[j]? = some v) : cells[off + j]? = some v := by
  obtain ⟨l, r, rfl, rfl⟩ := h
  have hlt : j < cs.length := by
    rcases Nat.lt_or_ge j cs.length with h | h
    · exact h
    · rw [List.getElem?_eq_none h] at hj; cases hj
  rw [List.append_assoc, List.getElem?_append_right (by omega), List.getElem?_append_left (by omega)]
  simpa using hj

theorem At.all (cells : List Value) : At cells 0 cells := ⟨[], [], by simp, rfl⟩

theorem At.mk {cells : List Value} {off n : Nat} (h : off + n ≤ cells.length) : At cells off ((cells.drop off).take n) :=
  ⟨cells.take off, cells.drop (off + n), by
    rw [List.append_assoc]
    have : (cells.drop off).take n ++ cells.drop (off + n) = cells.drop off := by rw [← List.drop_drop]; exact List.take_append_drop _ _
    rw [this, List.take_append_drop], by simp; omega⟩

theorem Ent.holds.loadCells {P : Program} {e : Ent} {w : World} (h : e.holds w) {off : Nat} {cs : List Value} (hc : At e.cells off cs) :
    (loadCells ⟨e.b, off, none⟩ cs.length).run P w = .ok cs.toArray w :=
  run_loadCells_list w _ cs fun j v hj => by rw [addr_add]; exact h.cell (hc.get hj)

theorem Ent.holds.notFrozen {e : Ent} {w : World} (h : e.holds w) {off : Nat} (ho : off < e.cells.length) (hr : e.rw = true := by rfl) : w.frozen? ⟨e.b, off, none⟩ = false := by
  obtain ⟨c, ty, fz, h1, ⟨tl, h2⟩, h3⟩ := h
  unfold World.frozen?
  simp only [h1]
  have : c.size = e.cells.length + tl.length := by rw [← Array.length_toList, h2]; simp
  simp only [Bool.and_eq_false_iff, decide_eq_false_iff_not]
  have := h3 hr
  omega

theorem Wr.refl (b : Nat) (w : World) : Wr b w w := ⟨rfl, rfl, rfl, rfl, fun _ _ => rfl⟩
theorem Wr.trans {b : Nat} {w1 w2 w3 : World} (h : Wr b w1 w2) (h' : Wr b w2 w3) : Wr b w1 w3 :=
  ⟨h'.os.trans h.os, h'.tape.trans h.tape, h'.output.trans h.output, h'.size.trans h.size, fun k hk => (h'.block k hk).trans (h.block k hk)⟩

theorem Wr.setCell (w : World) (a : Addr) (v : Value) : Wr a.block w (w.setCell a v) :=
  ⟨rfl, rfl, rfl, by simp [World.setCell], fun k hk => Below.heap_setCell _ _ _ _ hk⟩

theorem Ent.holds.setCell {e : Ent} {w : World} (h : e.holds w) (off : Nat) (v : Value) : Ent.holds ⟨e.b, e.cells.set off v, e.rw⟩ (w.setCell ⟨e.b, off, none⟩ v) ∨ e.cells.length ≤ off := by
  rcases Nat.lt_or_ge off e.cells.length with ho | ho
  · refine .inl ?_
    obtain ⟨c, ty, fz, h1, ⟨tl, h2⟩, h3⟩ := h
    refine ⟨c.setIfInBounds off v, ty, fz, ?_, ⟨tl, ?_⟩, by simpa using h3⟩
    · simp only [World.setCell, Array.getElem?_modify, if_true, h1, Option.map_some]
      simp
    · simp only [Array.toList_setIfInBounds, h2]
      rw [List.set_append_left _ _ ho]
  · exact .inr ho

theorem run_storeCells1 {P : Program} {e : Ent} {w : World} (h : e.holds w) {off : Nat} {v : Value} (hv : v.oneCell' = true) (ho : off < e.cells.length) (hr : e.rw = true := by rfl) :
    (store ⟨e.b, off, none⟩ v).run P w = .ok () (w.setCell ⟨e.b, off, none⟩ v) := by
  have hc : ∃ u, w.cell? ⟨e.b, off, none⟩ = some u := ⟨_, h.cell (List.getElem?_eq_getElem ho)⟩
  obtain ⟨u, hu⟩ := hc
  rw [run_store _ _ _ _ _ hv]
  simp [hu, h.notFrozen ho hr]

theorem run_storeCellsL {P : Program} : ∀ (vs : List Value) (e : Ent) (w : World) (off i : Nat), e.holds w → vs.all Value.oneCell' = true → off + i + vs.length ≤ e.cells.length → e.rw = true →
    ∃ w', (storeCells ⟨e.b, off, none⟩ vs i).run P w = .ok () w' ∧ Wr e.b w w' ∧ Ent.holds ⟨e.b, e.cells.take (off + i) ++ vs ++ e.cells.drop (off + i + vs.length), e.rw⟩ w'
  | [], e, w, off, i, h, _, _, _ => ⟨w, by simp [storeCells], Wr.refl _ _, by simpa using h⟩
  | v :: vs, e, w, off, i, h, hv, hl, hr => by
    simp only [List.all_cons, Bool.and_eq_true] at hv
    simp only [List.length_cons] at hl
    have ho : off + i < e.cells.length := by omega
    have h1 := run_storeCells1 (P := P) h hv.1 ho hr
    have h2 := (h.setCell (off + i) v).resolve_right (by omega)
    obtain ⟨w', r1, r2, r3⟩ := run_storeCellsL vs ⟨e.b, e.cells.set (off + i) v, e.rw⟩ _ off (i + 1) h2 hv.2 (by simp; omega) hr
    refine ⟨w', ?_, (Wr.setCell w ⟨e.b, off + i, none⟩ v).trans r2, ?_⟩
    · simp only [storeCells, Sem.run_bind, addr_add, h1, Result.andThen_ok]; exact r1
    · have e1 : (e.cells.set (off + i) v).take (off + (i + 1)) = e.cells.take (off + i) ++ [v] := by
        rw [← Nat.add_assoc, List.take_succ_eq_append_getElem (by simp; omega), List.take_set_of_le (Nat.le_refl _)]
        simp
      have e2 : (e.cells.set (off + i) v).drop (off + (i + 1) + vs.length) = e.cells.drop (off + i + (v :: vs).length) := by
        rw [List.drop_set_of_lt (by omega)]
        simp [Nat.add_assoc, Nat.add_comm 1]
      rw [e1, e2] at r3
      simpa using r3


section
variable {P : Program} {g : Gh} {all : Array Oper} {kd : Oper → K} {i : Nat} {o : Oper} {rest : List (Nat × Oper)} {env : Env} {mem : Mem} {Q : Env → Mem → Prop}
variable {T : List (Nat × TD)} {d ty : Nat} {p : String} {af : Array Edge} {gd : Option (Nat × Bool)} {x y z : Operand} {v u : Value} {t t' : Nat}

/-! ### addresses -/
theorem Tr.indexAddr (hT : TabOk P T) {n e b off : Nat} {k : IntKind} {ix : Int} {D E : TD} (hx : ev env x = some (.pointer (some ⟨b, off, none⟩))) (hy : ev env y = some (.int k ix)) (h1 : lk t T = some D) (h2 : D.desc = .array n e) (h3 : lk e T = some E) (h4 : 0 ≤ ix) (h5 : ix < n) (hd : Nat.blt d g.n = true) (hW : Wants all ⟨some d, .indexAddr t x y, ty, p, af, gd⟩ env) (hk : (kd ⟨some d, .indexAddr t x y, ty, p, af, gd⟩).vOk = true)
    (next : Tr P g all kd rest ((d, .pointer (some ⟨b, off + ix.toNat * E.size, none⟩)) :: env) mem Q) : Tr P g all kd ((i, ⟨some d, .indexAddr t x y, ty, p, af, gd⟩) :: rest) env mem Q :=
  .v (n2 x (.pointer (some ⟨b, off, none⟩)) y (.int k ix)) (.pointer (some ⟨b, off + ix.toNat * E.size, none⟩)) (opV_of fun a w hm => by have hg := n2.get hm; have hu := hT.und h1 w; rw [h2] at hu; simp [execOp, Instr.indexAt, hg, asIntOf, hu, Instr.sureAddr, h4, h5, hT.sz h3 w, addr_add]) (n2.sat hx hy) (n2.within (by simp [Op.operands]) (by simp [Op.operands])) (.inl rfl) hd hW hk next

theorem Tr.indexAddrS (hT : TabOk P T) {e b off len cap : Nat} {k : IntKind} {ix : Int} {D E : TD} (hx : ev env x = some (.slice (some ⟨b, off, none⟩) len cap)) (hy : ev env y = some (.int k ix)) (h1 : lk t T = some D) (h2 : D.desc = .slice e) (h3 : lk e T = some E) (h4 : 0 ≤ ix) (h5 : ix < len) (hd : Nat.blt d g.n = true) (hW : Wants all ⟨some d, .indexAddr t x y, ty, p, af, gd⟩ env) (hk : (kd ⟨some d, .indexAddr t x y, ty, p, af, gd⟩).vOk = true)
    (next : Tr P g all kd rest ((d, .pointer (some ⟨b, off + ix.toNat * E.size, none⟩)) :: env) mem Q) : Tr P g all kd ((i, ⟨some d, .indexAddr t x y, ty, p, af, gd⟩) :: rest) env mem Q :=
  .v (n2 x (.slice (some ⟨b, off, none⟩) len cap) y (.int k ix)) (.pointer (some ⟨b, off + ix.toNat * E.size, none⟩)) (opV_of fun a w hm => by have hg := n2.get hm; have hu := hT.und h1 w; rw [h2] at hu; simp [execOp, Instr.indexAt, hg, asIntOf, hu, h4, h5, hT.sz h3 w, addr_add]) (n2.sat hx hy) (n2.within (by simp [Op.operands]) (by simp [Op.operands])) (.inl rfl) hd hW hk next

theorem Tr.indexAddr1 (hT : TabOk P T) {n e b off : Nat} {k : IntKind} {ix : Int} {D : TD} {ds : TypeDesc} {bs : Nat} {z0 : List Value} (hx : ev env x = some (.pointer (some ⟨b, off, none⟩))) (hy : ev env y = some (.int k ix)) (h1 : lk t T = some D) (h2 : D.desc = .array n e) (h3 : lk e T = some ⟨ds, 1, bs, z0⟩) (h4 : 0 ≤ ix) (h5 : ix < n) (hd : Nat.blt d g.n = true) (hW : Wants all ⟨some d, .indexAddr t x y, ty, p, af, gd⟩ env) (hk : (kd ⟨some d, .indexAddr t x y, ty, p, af, gd⟩).vOk = true)
    (next : Tr P g all kd rest ((d, .pointer (some ⟨b, off + ix.toNat, none⟩)) :: env) mem Q) : Tr P g all kd ((i, ⟨some d, .indexAddr t x y, ty, p, af, gd⟩) :: rest) env mem Q :=
  .v (n2 x (.pointer (some ⟨b, off, none⟩)) y (.int k ix)) (.pointer (some ⟨b, off + ix.toNat, none⟩)) (opV_of fun a w hm => by have hg := n2.get hm; have hu := hT.und h1 w; rw [h2] at hu; simp [execOp, Instr.indexAt, hg, asIntOf, hu, Instr.sureAddr, h4, h5, hT.sz h3 w, addr_add]) (n2.sat hx hy) (n2.within (by simp [Op.operands]) (by simp [Op.operands])) (.inl rfl) hd hW hk next

theorem Tr.indexAddrS1 (hT : TabOk P T) {e b off len cap : Nat} {k : IntKind} {ix : Int} {D : TD} {ds : TypeDesc} {bs : Nat} {z0 : List Value} (hx : ev env x = some (.slice (some ⟨b, off, none⟩) len cap)) (hy : ev env y = some (.int k ix)) (h1 : lk t T = some D) (h2 : D.desc = .slice e) (h3 : lk e T = some ⟨ds, 1, bs, z0⟩) (h4 : 0 ≤ ix) (h5 : ix < len) (hd : Nat.blt d g.n = true) (hW : Wants all ⟨some d, .indexAddr t x y, ty, p, af, gd⟩ env) (hk : (kd ⟨some d, .indexAddr t x y, ty, p, af, gd⟩).vOk = true)
    (next : Tr P g all kd rest ((d, .pointer (some ⟨b, off + ix.toNat, none⟩)) :: env) mem Q) : Tr P g all kd ((i, ⟨some d, .indexAddr t x y, ty, p, af, gd⟩) :: rest) env mem Q :=
  .v (n2 x (.slice (some ⟨b, off, none⟩) len cap) y (.int k ix)) (.pointer (some ⟨b, off + ix.toNat, none⟩)) (opV_of fun a w hm => by have hg := n2.get hm; have hu := hT.und h1 w; rw [h2] at hu; simp [execOp, Instr.indexAt, hg, asIntOf, hu, h4, h5, hT.sz h3 w, addr_add]) (n2.sat hx hy) (n2.within (by simp [Op.operands]) (by simp [Op.operands])) (.inl rfl) hd hW hk next

theorem Tr.indexAddr01 (hT : TabOk P T) {n e b : Nat} {k : IntKind} {ix : Int} {D : TD} {ds : TypeDesc} {bs : Nat} {z0 : List Value} (hx : ev env x = some (.pointer (some ⟨b, 0, none⟩))) (hy : ev env y = some (.int k ix)) (h1 : lk t T = some D) (h2 : D.desc = .array n e) (h3 : lk e T = some ⟨ds, 1, bs, z0⟩) (h4 : 0 ≤ ix) (h5 : ix < n) (hd : Nat.blt d g.n = true) (hW : Wants all ⟨some d, .indexAddr t x y, ty, p, af, gd⟩ env) (hk : (kd ⟨some d, .indexAddr t x y, ty, p, af, gd⟩).vOk = true)
    (next : Tr P g all kd rest ((d, .pointer (some ⟨b, ix.toNat, none⟩)) :: env) mem Q) : Tr P g all kd ((i, ⟨some d, .indexAddr t x y, ty, p, af, gd⟩) :: rest) env mem Q :=
  .v (n2 x (.pointer (some ⟨b, 0, none⟩)) y (.int k ix)) (.pointer (some ⟨b, ix.toNat, none⟩)) (opV_of fun a w hm => by have hg := n2.get hm; have hu := hT.und h1 w; rw [h2] at hu; simp [execOp, Instr.indexAt, hg, asIntOf, hu, Instr.sureAddr, h4, h5, hT.sz h3 w, addr_add]) (n2.sat hx hy) (n2.within (by simp [Op.operands]) (by simp [Op.operands])) (.inl rfl) hd hW hk next

theorem Tr.indexAddrS01 (hT : TabOk P T) {e b len cap : Nat} {k : IntKind} {ix : Int} {D : TD} {ds : TypeDesc} {bs : Nat} {z0 : List Value} (hx : ev env x = some (.slice (some ⟨b, 0, none⟩) len cap)) (hy : ev env y = some (.int k ix)) (h1 : lk t T = some D) (h2 : D.desc = .slice e) (h3 : lk e T = some ⟨ds, 1, bs, z0⟩) (h4 : 0 ≤ ix) (h5 : ix < len) (hd : Nat.blt d g.n = true) (hW : Wants all ⟨some d, .indexAddr t x y, ty, p, af, gd⟩ env) (hk : (kd ⟨some d, .indexAddr t x y, ty, p, af, gd⟩).vOk = true)
    (next : Tr P g all kd rest ((d, .pointer (some ⟨b, ix.toNat, none⟩)) :: env) mem Q) : Tr P g all kd ((i, ⟨some d, .indexAddr t x y, ty, p, af, gd⟩) :: rest) env mem Q :=
  .v (n2 x (.slice (some ⟨b, 0, none⟩) len cap) y (.int k ix)) (.pointer (some ⟨b, ix.toNat, none⟩)) (opV_of fun a w hm => by have hg := n2.get hm; have hu := hT.und h1 w; rw [h2] at hu; simp [execOp, Instr.indexAt, hg, asIntOf, hu, h4, h5, hT.sz h3 w, addr_add]) (n2.sat hx hy) (n2.within (by simp [Op.operands]) (by simp [Op.operands])) (.inl rfl) hd hW hk next

theorem Tr.fieldAddr (hT : TabOk P T) {b off k : Nat} {fs : Array Field} {f : Field} {D E : TD} (hx : ev env x = some (.pointer (some ⟨b, off, none⟩))) (h1 : lk t T = some D) (h2 : D.desc = .struct fs) (h3 : fs[k]? = some f) (h4 : lk f.type T = some E) (h5 : Nat.ble 1 E.size = true) (hd : Nat.blt d g.n = true) (hW : Wants all ⟨some d, .fieldAddr t x k, ty, p, af, gd⟩ env) (hk : (kd ⟨some d, .fieldAddr t x k, ty, p, af, gd⟩).vOk = true)
    (next : Tr P g all kd rest ((d, .pointer (some ⟨b, off + f.offset, none⟩)) :: env) mem Q) : Tr P g all kd ((i, ⟨some d, .fieldAddr t x k, ty, p, af, gd⟩) :: rest) env mem Q :=
  .v (n1 x (.pointer (some ⟨b, off, none⟩))) (.pointer (some ⟨b, off + f.offset, none⟩)) (opV_of fun a w hm => by have hg := n1.get hm; have hu := hT.und h1 w; rw [h2] at hu; have h6 : E.size ≠ 0 := (by have := Nat.le_of_ble_eq_true h5; omega); simp [execOp, Instr.fieldAt, hg, hu, h3, Instr.sureAddr, fieldPlace, hT.sz h4 w, h6, addr_add]) (n1.sat hx) (n1.within (by simp [Op.operands])) (.inl rfl) hd hW hk next

/-! ### whole numbers -/
theorem wrap_i64 {n : Int} (h : -9223372036854775808 ≤ n) (h' : n ≤ 9223372036854775807) : IntKind.i64.wrap n = n := by
  unfold IntKind.wrap; simp [IntKind.bits, IntKind.signed]; omega
theorem wrap_u64 {n : Int} (h : 0 ≤ n) (h' : n ≤ 18446744073709551615) : IntKind.u64.wrap n = n := by
  unfold IntKind.wrap; simp [IntKind.bits, IntKind.signed]; omega
theorem wrap_u32 {n : Int} (h : 0 ≤ n) (h' : n ≤ 4294967295) : IntKind.u32.wrap n = n := by
  unfold IntKind.wrap; simp [IntKind.bits, IntKind.signed]; omega
theorem wrap_u8 {n : Int} (h : 0 ≤ n) (h' : n ≤ 255) : IntKind.u8.wrap n = n := by
  unfold IntKind.wrap; simp [IntKind.bits, IntKind.signed]; omega

def shlv (k : IntKind) (a b : Int) : Int := k.wrap (a * 2 ^ (min b.toNat k.bits))
def shrv (k : IntKind) (a b : Int) : Int := a.fdiv (2 ^ (min b.toNat k.bits))
def andv (k : IntKind) (a b : Int) : Int := k.wrap (BitVec.ofInt k.bits a &&& BitVec.ofInt k.bits b).toNat
def orv (k : IntKind) (a b : Int) : Int := k.wrap (BitVec.ofInt k.bits a ||| BitVec.ofInt k.bits b).toNat
def xorv (k : IntKind) (a b : Int) : Int := k.wrap (BitVec.ofInt k.bits a ^^^ BitVec.ofInt k.bits b).toNat

theorem Tr.add {k : IntKind} {a b r : Int} (hx : ev env x = some (.int k a)) (hy : ev env y = some (.int k b)) (hr : k.wrap (a + b) = r) (hd : Nat.blt d g.n = true) (hW : Wants all ⟨some d, .binOp .add t x y t', ty, p, af, gd⟩ env) (hk : (kd ⟨some d, .binOp .add t x y t', ty, p, af, gd⟩).vOk = true)
    (next : Tr P g all kd rest ((d, .int k r) :: env) mem Q) : Tr P g all kd ((i, ⟨some d, .binOp .add t x y t', ty, p, af, gd⟩) :: rest) env mem Q :=
  .v (n2 x (.int k a) y (.int k b)) (.int k r) (opV_of fun a w hm => by subst hr; have hg := n2.get hm; simp [execOp, eqGuard, binOp, Op.intArith, hg]) (n2.sat hx hy) (n2.within (by simp [Op.operands]) (by simp [Op.operands])) (.inl rfl) hd hW hk next

theorem Tr.sub {k : IntKind} {a b r : Int} (hx : ev env x = some (.int k a)) (hy : ev env y = some (.int k b)) (hr : k.wrap (a - b) = r) (hd : Nat.blt d g.n = true) (hW : Wants all ⟨some d, .binOp .sub t x y t', ty, p, af, gd⟩ env) (hk : (kd ⟨some d, .binOp .sub t x y t', ty, p, af, gd⟩).vOk = true)
    (next : Tr P g all kd rest ((d, .int k r) :: env) mem Q) : Tr P g all kd ((i, ⟨some d, .binOp .sub t x y t', ty, p, af, gd⟩) :: rest) env mem Q :=
  .v (n2 x (.int k a) y (.int k b)) (.int k r) (opV_of fun a w hm => by subst hr; have hg := n2.get hm; simp [execOp, eqGuard, binOp, Op.intArith, hg]) (n2.sat hx hy) (n2.within (by simp [Op.operands]) (by simp [Op.operands])) (.inl rfl) hd hW hk next

theorem Tr.mul {k : IntKind} {a b r : Int} (hx : ev env x = some (.int k a)) (hy : ev env y = some (.int k b)) (hr : k.wrap (a * b) = r) (hd : Nat.blt d g.n = true) (hW : Wants all ⟨some d, .binOp .mul t x y t', ty, p, af, gd⟩ env) (hk : (kd ⟨some d, .binOp .mul t x y t', ty, p, af, gd⟩).vOk = true)
    (next : Tr P g all kd rest ((d, .int k r) :: env) mem Q) : Tr P g all kd ((i, ⟨some d, .binOp .mul t x y t', ty, p, af, gd⟩) :: rest) env mem Q :=
  .v (n2 x (.int k a) y (.int k b)) (.int k r) (opV_of fun a w hm => by subst hr; have hg := n2.get hm; simp [execOp, eqGuard, binOp, Op.intArith, hg]) (n2.sat hx hy) (n2.within (by simp [Op.operands]) (by simp [Op.operands])) (.inl rfl) hd hW hk next

theorem Tr.band {k : IntKind} {a b r : Int} (hx : ev env x = some (.int k a)) (hy : ev env y = some (.int k b)) (hr : andv k a b = r) (hd : Nat.blt d g.n = true) (hW : Wants all ⟨some d, .binOp .and t x y t', ty, p, af, gd⟩ env) (hk : (kd ⟨some d, .binOp .and t x y t', ty, p, af, gd⟩).vOk = true)
    (next : Tr P g all kd rest ((d, .int k r) :: env) mem Q) : Tr P g all kd ((i, ⟨some d, .binOp .and t x y t', ty, p, af, gd⟩) :: rest) env mem Q :=
  .v (n2 x (.int k a) y (.int k b)) (.int k r) (opV_of fun a w hm => by subst hr; have hg := n2.get hm; simp [execOp, eqGuard, binOp, Op.intBits, andv, hg]) (n2.sat hx hy) (n2.within (by simp [Op.operands]) (by simp [Op.operands])) (.inl rfl) hd hW hk next

theorem Tr.bor {k : IntKind} {a b r : Int} (hx : ev env x = some (.int k a)) (hy : ev env y = some (.int k b)) (hr : orv k a b = r) (hd : Nat.blt d g.n = true) (hW : Wants all ⟨some d, .binOp .or t x y t', ty, p, af, gd⟩ env) (hk : (kd ⟨some d, .binOp .or t x y t', ty, p, af, gd⟩).vOk = true)
    (next : Tr P g all kd rest ((d, .int k r) :: env) mem Q) : Tr P g all kd ((i, ⟨some d, .binOp .or t x y t', ty, p, af, gd⟩) :: rest) env mem Q :=
  .v (n2 x (.int k a) y (.int k b)) (.int k r) (opV_of fun a w hm => by subst hr; have hg := n2.get hm; simp [execOp, eqGuard, binOp, Op.intBits, orv, hg]) (n2.sat hx hy) (n2.within (by simp [Op.operands]) (by simp [Op.operands])) (.inl rfl) hd hW hk next

theorem Tr.bxor {k : IntKind} {a b r : Int} (hx : ev env x = some (.int k a)) (hy : ev env y = some (.int k b)) (hr : xorv k a b = r) (hd : Nat.blt d g.n = true) (hW : Wants all ⟨some d, .binOp .xor t x y t', ty, p, af, gd⟩ env) (hk : (kd ⟨some d, .binOp .xor t x y t', ty, p, af, gd⟩).vOk = true)
    (next : Tr P g all kd rest ((d, .int k r) :: env) mem Q) : Tr P g all kd ((i, ⟨some d, .binOp .xor t x y t', ty, p, af, gd⟩) :: rest) env mem Q :=
  .v (n2 x (.int k a) y (.int k b)) (.int k r) (opV_of fun a w hm => by subst hr; have hg := n2.get hm; simp [execOp, eqGuard, binOp, Op.intBits, xorv, hg]) (n2.sat hx hy) (n2.within (by simp [Op.operands]) (by simp [Op.operands])) (.inl rfl) hd hW hk next

theorem Tr.eql {k : IntKind} {a b : Int} {r : Bool} (hx : ev env x = some (.int k a)) (hy : ev env y = some (.int k b)) (hr : (a == b) = r) (hd : Nat.blt d g.n = true) (hW : Wants all ⟨some d, .binOp .eql t x y t', ty, p, af, gd⟩ env) (hk : (kd ⟨some d, .binOp .eql t x y t', ty, p, af, gd⟩).vOk = true)
    (next : Tr P g all kd rest ((d, .bool r) :: env) mem Q) : Tr P g all kd ((i, ⟨some d, .binOp .eql t x y t', ty, p, af, gd⟩) :: rest) env mem Q :=
  .v (n2 x (.int k a) y (.int k b)) (.bool r) (opV_of fun a w hm => by subst hr; have hg := n2.get hm; simp [execOp, eqGuard, binOp, Op.intCmp, hg]) (n2.sat hx hy) (n2.within (by simp [Op.operands]) (by simp [Op.operands])) (.inl rfl) hd hW hk next

theorem Tr.neq {k : IntKind} {a b : Int} {r : Bool} (hx : ev env x = some (.int k a)) (hy : ev env y = some (.int k b)) (hr : (a != b) = r) (hd : Nat.blt d g.n = true) (hW : Wants all ⟨some d, .binOp .neq t x y t', ty, p, af, gd⟩ env) (hk : (kd ⟨some d, .binOp .neq t x y t', ty, p, af, gd⟩).vOk = true)
    (next : Tr P g all kd rest ((d, .bool r) :: env) mem Q) : Tr P g all kd ((i, ⟨some d, .binOp .neq t x y t', ty, p, af, gd⟩) :: rest) env mem Q :=
  .v (n2 x (.int k a) y (.int k b)) (.bool r) (opV_of fun a w hm => by subst hr; have hg := n2.get hm; simp [execOp, eqGuard, binOp, Op.intCmp, hg]) (n2.sat hx hy) (n2.within (by simp [Op.operands]) (by simp [Op.operands])) (.inl rfl) hd hW hk next

theorem Tr.lss {k : IntKind} {a b : Int} {r : Bool} (hx : ev env x = some (.int k a)) (hy : ev env y = some (.int k b)) (hr : decide (a < b) = r) (hd : Nat.blt d g.n = true) (hW : Wants all ⟨some d, .binOp .lss t x y t', ty, p, af, gd⟩ env) (hk : (kd ⟨some d, .binOp .lss t x y t', ty, p, af, gd⟩).vOk = true)
    (next : Tr P g all kd rest ((d, .bool r) :: env) mem Q) : Tr P g all kd ((i, ⟨some d, .binOp .lss t x y t', ty, p, af, gd⟩) :: rest) env mem Q :=
  .v (n2 x (.int k a) y (.int k b)) (.bool r) (opV_of fun a w hm => by subst hr; have hg := n2.get hm; simp [execOp, eqGuard, binOp, Op.intCmp, hg]) (n2.sat hx hy) (n2.within (by simp [Op.operands]) (by simp [Op.operands])) (.inl rfl) hd hW hk next

theorem Tr.leq {k : IntKind} {a b : Int} {r : Bool} (hx : ev env x = some (.int k a)) (hy : ev env y = some (.int k b)) (hr : decide (a ≤ b) = r) (hd : Nat.blt d g.n = true) (hW : Wants all ⟨some d, .binOp .leq t x y t', ty, p, af, gd⟩ env) (hk : (kd ⟨some d, .binOp .leq t x y t', ty, p, af, gd⟩).vOk = true)
    (next : Tr P g all kd rest ((d, .bool r) :: env) mem Q) : Tr P g all kd ((i, ⟨some d, .binOp .leq t x y t', ty, p, af, gd⟩) :: rest) env mem Q :=
  .v (n2 x (.int k a) y (.int k b)) (.bool r) (opV_of fun a w hm => by subst hr; have hg := n2.get hm; simp [execOp, eqGuard, binOp, Op.intCmp, hg]) (n2.sat hx hy) (n2.within (by simp [Op.operands]) (by simp [Op.operands])) (.inl rfl) hd hW hk next

theorem Tr.gtr {k : IntKind} {a b : Int} {r : Bool} (hx : ev env x = some (.int k a)) (hy : ev env y = some (.int k b)) (hr : decide (b < a) = r) (hd : Nat.blt d g.n = true) (hW : Wants all ⟨some d, .binOp .gtr t x y t', ty, p, af, gd⟩ env) (hk : (kd ⟨some d, .binOp .gtr t x y t', ty, p, af, gd⟩).vOk = true)
    (next : Tr P g all kd rest ((d, .bool r) :: env) mem Q) : Tr P g all kd ((i, ⟨some d, .binOp .gtr t x y t', ty, p, af, gd⟩) :: rest) env mem Q :=
  .v (n2 x (.int k a) y (.int k b)) (.bool r) (opV_of fun a w hm => by subst hr; have hg := n2.get hm; simp [execOp, eqGuard, binOp, Op.intCmp, hg]) (n2.sat hx hy) (n2.within (by simp [Op.operands]) (by simp [Op.operands])) (.inl rfl) hd hW hk next

theorem Tr.geq {k : IntKind} {a b : Int} {r : Bool} (hx : ev env x = some (.int k a)) (hy : ev env y = some (.int k b)) (hr : decide (b ≤ a) = r) (hd : Nat.blt d g.n = true) (hW : Wants all ⟨some d, .binOp .geq t x y t', ty, p, af, gd⟩ env) (hk : (kd ⟨some d, .binOp .geq t x y t', ty, p, af, gd⟩).vOk = true)
    (next : Tr P g all kd rest ((d, .bool r) :: env) mem Q) : Tr P g all kd ((i, ⟨some d, .binOp .geq t x y t', ty, p, af, gd⟩) :: rest) env mem Q :=
  .v (n2 x (.int k a) y (.int k b)) (.bool r) (opV_of fun a w hm => by subst hr; have hg := n2.get hm; simp [execOp, eqGuard, binOp, Op.intCmp, hg]) (n2.sat hx hy) (n2.within (by simp [Op.operands]) (by simp [Op.operands])) (.inl rfl) hd hW hk next

theorem Tr.shl {k k' : IntKind} {a b r : Int} (hx : ev env x = some (.int k a)) (hy : ev env y = some (.int k' b)) (h0 : 0 ≤ b) (hr : shlv k a b = r) (hd : Nat.blt d g.n = true) (hW : Wants all ⟨some d, .binOp .shl t x y t', ty, p, af, gd⟩ env) (hk : (kd ⟨some d, .binOp .shl t x y t', ty, p, af, gd⟩).vOk = true)
    (next : Tr P g all kd rest ((d, .int k r) :: env) mem Q) : Tr P g all kd ((i, ⟨some d, .binOp .shl t x y t', ty, p, af, gd⟩) :: rest) env mem Q :=
  .v (n2 x (.int k a) y (.int k' b)) (.int k r) (opV_of fun a w hm => by subst hr; have hg := n2.get hm; have h0' : ¬ b < 0 := (by omega); simp [execOp, eqGuard, binOp, Op.shift, hg, h0', shlv]) (n2.sat hx hy) (n2.within (by simp [Op.operands]) (by simp [Op.operands])) (.inl rfl) hd hW hk next

theorem Tr.shr {k k' : IntKind} {a b r : Int} (hx : ev env x = some (.int k a)) (hy : ev env y = some (.int k' b)) (h0 : 0 ≤ b) (hr : shrv k a b = r) (hd : Nat.blt d g.n = true) (hW : Wants all ⟨some d, .binOp .shr t x y t', ty, p, af, gd⟩ env) (hk : (kd ⟨some d, .binOp .shr t x y t', ty, p, af, gd⟩).vOk = true)
    (next : Tr P g all kd rest ((d, .int k r) :: env) mem Q) : Tr P g all kd ((i, ⟨some d, .binOp .shr t x y t', ty, p, af, gd⟩) :: rest) env mem Q :=
  .v (n2 x (.int k a) y (.int k' b)) (.int k r) (opV_of fun a w hm => by subst hr; have hg := n2.get hm; have h0' : ¬ b < 0 := (by omega); simp [execOp, eqGuard, binOp, Op.shift, hg, h0', shrv]) (n2.sat hx hy) (n2.within (by simp [Op.operands]) (by simp [Op.operands])) (.inl rfl) hd hW hk next

theorem Tr.quo {k : IntKind} {a b r : Int} (hx : ev env x = some (.int k a)) (hy : ev env y = some (.int k b)) (h0 : b ≠ 0) (hr : k.wrap (a.tdiv b) = r) (hd : Nat.blt d g.n = true) (hW : Wants all ⟨some d, .binOp .quo t x y t', ty, p, af, gd⟩ env) (hk : (kd ⟨some d, .binOp .quo t x y t', ty, p, af, gd⟩).vOk = true)
    (next : Tr P g all kd rest ((d, .int k r) :: env) mem Q) : Tr P g all kd ((i, ⟨some d, .binOp .quo t x y t', ty, p, af, gd⟩) :: rest) env mem Q :=
  .v (n2 x (.int k a) y (.int k b)) (.int k r) (opV_of fun a w hm => by subst hr; have hg := n2.get hm; simp [execOp, eqGuard, binOp, Op.intDiv, hg, h0]) (n2.sat hx hy) (n2.within (by simp [Op.operands]) (by simp [Op.operands])) (.inl rfl) hd hW hk next

theorem Tr.rem {k : IntKind} {a b r : Int} (hx : ev env x = some (.int k a)) (hy : ev env y = some (.int k b)) (h0 : b ≠ 0) (hr : a.tmod b = r) (hd : Nat.blt d g.n = true) (hW : Wants all ⟨some d, .binOp .rem t x y t', ty, p, af, gd⟩ env) (hk : (kd ⟨some d, .binOp .rem t x y t', ty, p, af, gd⟩).vOk = true)
    (next : Tr P g all kd rest ((d, .int k r) :: env) mem Q) : Tr P g all kd ((i, ⟨some d, .binOp .rem t x y t', ty, p, af, gd⟩) :: rest) env mem Q :=
  .v (n2 x (.int k a) y (.int k b)) (.int k r) (opV_of fun a w hm => by subst hr; have hg := n2.get hm; simp [execOp, eqGuard, binOp, Op.intDiv, hg, h0]) (n2.sat hx hy) (n2.within (by simp [Op.operands]) (by simp [Op.operands])) (.inl rfl) hd hW hk next

theorem Tr.not {b r : Bool} (hx : ev env x = some (.bool b)) (hr : (!b) = r) (hd : Nat.blt d g.n = true) (hW : Wants all ⟨some d, .unOp .not t x, ty, p, af, gd⟩ env) (hk : (kd ⟨some d, .unOp .not t x, ty, p, af, gd⟩).vOk = true)
    (next : Tr P g all kd rest ((d, .bool r) :: env) mem Q) : Tr P g all kd ((i, ⟨some d, .unOp .not t x, ty, p, af, gd⟩) :: rest) env mem Q :=
  .v (n1 x (.bool b)) (.bool r) (opV_of fun a w hm => by subst hr; have hg := n1.get hm; simp [execOp, Op.unary, hg]) (n1.sat hx) (n1.within (by simp [Op.operands])) (.inl rfl) hd hW hk next

theorem Tr.neg {k : IntKind} {a r : Int} (hx : ev env x = some (.int k a)) (hr : k.wrap (0 - a) = r) (hd : Nat.blt d g.n = true) (hW : Wants all ⟨some d, .unOp .neg t x, ty, p, af, gd⟩ env) (hk : (kd ⟨some d, .unOp .neg t x, ty, p, af, gd⟩).vOk = true)
    (next : Tr P g all kd rest ((d, .int k r) :: env) mem Q) : Tr P g all kd ((i, ⟨some d, .unOp .neg t x, ty, p, af, gd⟩) :: rest) env mem Q :=
  .v (n1 x (.int k a)) (.int k r) (opV_of fun a w hm => by subst hr; have hg := n1.get hm; simp [execOp, Op.unary, Op.intArith, hg]) (n1.sat hx) (n1.within (by simp [Op.operands])) (.inl rfl) hd hW hk next

theorem Tr.compl {k : IntKind} {a r : Int} (hx : ev env x = some (.int k a)) (hr : xorv k (if k.signed then -1 else k.max) a = r) (hd : Nat.blt d g.n = true) (hW : Wants all ⟨some d, .unOp .xor t x, ty, p, af, gd⟩ env) (hk : (kd ⟨some d, .unOp .xor t x, ty, p, af, gd⟩).vOk = true)
    (next : Tr P g all kd rest ((d, .int k r) :: env) mem Q) : Tr P g all kd ((i, ⟨some d, .unOp .xor t x, ty, p, af, gd⟩) :: rest) env mem Q :=
  .v (n1 x (.int k a)) (.int k r) (opV_of fun a w hm => by subst hr; have hg := n1.get hm; simp [execOp, Op.unary, Op.intBits, xorv, hg]) (n1.sat hx) (n1.within (by simp [Op.operands])) (.inl rfl) hd hW hk next

theorem Tr.conv (hT : TabOk P T) {k k' : IntKind} {a r : Int} {D D' : TD} (hx : ev env x = some (.int k a)) (h1 : lk t T = some D) (h2 : lk t' T = some D') (h3 : D'.desc = .int k') (hr : k'.wrap a = r) (hd : Nat.blt d g.n = true) (hW : Wants all ⟨some d, .convert t t' x, ty, p, af, gd⟩ env) (hk : (kd ⟨some d, .convert t t' x, ty, p, af, gd⟩).vOk = true)
    (next : Tr P g all kd rest ((d, .int k' r) :: env) mem Q) : Tr P g all kd ((i, ⟨some d, .convert t t' x, ty, p, af, gd⟩) :: rest) env mem Q :=
  .v (n1 x (.int k a)) (.int k' r) (opV_of fun a w hm => by subst hr; have hg := n1.get hm; have u1 := hT.und h1 w; have u2 := hT.und h2 w; rw [h3] at u2; simp [execOp, convert, hg, u1, u2, Conv.intToInt]) (n1.sat hx) (n1.within (by simp [Op.operands])) (.inl rfl) hd hW hk next

end


section
variable {P : Program} {g : Gh} {all : Array Oper} {kd : Oper → K} {i : Nat} {o : Oper} {rest : List (Nat × Oper)} {env : Env} {mem : Mem} {Q : Env → Mem → Prop}
variable {T : List (Nat × TD)} {d ty : Nat} {p : String} {af : Array Edge} {gd : Option (Nat × Bool)} {x y z : Operand} {v u : Value} {t t' : Nat}

/-! ### memory -/
theorem lOk_cases {k : K} {b : Nat} {cells : List Value} {rw : Bool} (h : k.lOk rw = true) : k.rOk = true ∨ (k = .rdf ∧ ∀ e, e ∈ [(⟨b, cells, rw⟩ : Ent)] → e.rw = false) := by
  cases k <;> simp_all [K.lOk, K.rOk]

theorem Tr.loadS (hT : TabOk P T) {b off : Nat} {cells : List Value} {rw : Bool} {D : TD}
    (hx : ev env x = some (.pointer (some ⟨b, off, none⟩))) (h1 : lk t T = some D) (h2 : D.agg = false) (hm : (⟨b, cells, rw⟩ : Ent) ∈ mem) (hv : cells[off]? = some v)
    (hd : Nat.blt d g.n = true) (hW : Wants all ⟨some d, .load t x, ty, p, af, gd⟩ env) (hk : (kd ⟨some d, .load t x, ty, p, af, gd⟩).lOk rw = true)
    (next : Tr P g all kd rest ((d, v) :: env) mem Q) : Tr P g all kd ((i, ⟨some d, .load t x, ty, p, af, gd⟩) :: rest) env mem Q := by
  refine .v ⟨[(x, .pointer (some ⟨b, off, none⟩))], [⟨b, cells, rw⟩]⟩ v (opV_of fun a w hmt => ?_) ⟨by simp [hx], by simp [hm]⟩ ?_ (.inr (lOk_cases hk)) hd hW (by revert hk; generalize kd _ = k; cases k <;> simp [K.lOk, K.vOk]) next
  · have hg : a.eval x = _ := hmt.1 (x, .pointer (some ⟨b, off, none⟩)) (by simp)
    have he : Ent.holds ⟨b, cells, rw⟩ w := hmt.2 _ (by simp)
    have hi := hT.isAgg h1 w
    rw [h2] at hi
    simp [execOp, Instr.loadAt, Instr.sureAddr, hg, loadVar, hi, he.cell hv]
  · intro q hq t ht
    simp only [List.mem_singleton] at hq
    subst hq; simp [Op.operands, ← ht]

theorem Tr.loadA (hT : TabOk P T) {b off : Nat} {cells cs : List Value} {rw : Bool} {D : TD}
    (hx : ev env x = some (.pointer (some ⟨b, off, none⟩))) (h1 : lk t T = some D) (h2 : D.agg = true) (hm : (⟨b, cells, rw⟩ : Ent) ∈ mem) (hc : At cells off cs) (hl : cs.length = D.size)
    (hd : Nat.blt d g.n = true) (hW : Wants all ⟨some d, .load t x, ty, p, af, gd⟩ env) (hk : (kd ⟨some d, .load t x, ty, p, af, gd⟩).lOk rw = true)
    (next : Tr P g all kd rest ((d, .agg cs.toArray) :: env) mem Q) : Tr P g all kd ((i, ⟨some d, .load t x, ty, p, af, gd⟩) :: rest) env mem Q := by
  refine .v ⟨[(x, .pointer (some ⟨b, off, none⟩))], [⟨b, cells, rw⟩]⟩ (.agg cs.toArray) (opV_of fun a w hmt => ?_) ⟨by simp [hx], by simp [hm]⟩ ?_ (.inr (lOk_cases hk)) hd hW (by revert hk; generalize kd _ = k; cases k <;> simp [K.lOk, K.vOk]) next
  · have hg : a.eval x = _ := hmt.1 (x, .pointer (some ⟨b, off, none⟩)) (by simp)
    have he : Ent.holds ⟨b, cells, rw⟩ w := hmt.2 _ (by simp)
    have hi := hT.isAgg h1 w
    rw [h2] at hi
    have hs := hT.sz h1 w
    rw [← hl] at hs
    simp [execOp, Instr.loadAt, Instr.sureAddr, hg, loadVar, hi, hs, he.loadCells hc]
  · intro q hq t ht
    simp only [List.mem_singleton] at hq
    subst hq; simp [Op.operands, ← ht]

/-- a block's cells are replaced -/
inductive MU (b : Nat) (c c' : List Value) : Mem → Mem → Prop where
  | here {m : Mem} : MU b c c' (⟨b, c, true⟩ :: m) (⟨b, c', true⟩ :: m)
  | there {e : Ent} {m m' : Mem} : MU b c c' m m' → MU b c c' (e :: m) (e :: m')

theorem MU.split {b : Nat} {c c' : List Value} {m m' : Mem} (h : MU b c c' m m') : ∃ l1 l2, m = l1 ++ ⟨b, c, true⟩ :: l2 ∧ m' = l1 ++ ⟨b, c', true⟩ :: l2 := by
  induction h with
  | here => exact ⟨[], _, rfl, rfl⟩
  | @there e m m' _ ih => obtain ⟨l1, l2, rfl, rfl⟩ := ih; exact ⟨e :: l1, l2, rfl, rfl⟩

theorem Tr.s (N : Need) (v : Value) {b : Nat} {c c' : List Value} {mem' : Mem} (hop : OpS P o N v b c') (hs : N.sat env mem) (hw : N.within o) (hu : MU b c c' mem mem') (hd : dstB o.dst g.n = true) (hW : Wants all o env) (hk : (kd o).sOk = true)
    (next : Tr P g all kd rest (putE o.dst v env) mem' Q) : Tr P g all kd ((i, o) :: rest) env mem Q := by
  obtain ⟨l1, l2, rfl, rfl⟩ := hu.split
  exact .sto N v b c c' hop hs hw (dstB_lt hd) hW (by revert hk; cases kd o <;> simp [K.sOk]) next

theorem MU.isIn {b : Nat} {c c' : List Value} {m m' : Mem} (h : MU b c c' m m') : (⟨b, c, true⟩ : Ent) ∈ m := by
  obtain ⟨l1, l2, rfl, rfl⟩ := h.split; simp

def splice (c : List Value) (off : Nat) (vs : List Value) : List Value := c.take off ++ vs ++ c.drop (off + vs.length)

theorem splice_all {c vs : List Value} (h : vs.length = c.length) : splice c 0 vs = vs := by simp [splice, h]
theorem splice_one {c : List Value} {off : Nat} {v : Value} (h : off < c.length) : splice c off [v] = c.set off v := by
  rw [splice, List.set_eq_take_append_cons_drop, if_pos h]; simp

def vcells (v : Value) : List Value := v.cells.toList

theorem Tr.store (hT : TabOk P T) {b off : Nat} {c c' vs : List Value} {mem' : Mem} {D : TD}
    (hx : ev env x = some (.pointer (some ⟨b, off, none⟩))) (hy : ev env y = some v) (hvs : vcells v = vs) (h1 : lk t T = some D) (hu : MU b c c' mem mem') (hl : vs.length = D.size) (ho : off + vs.length ≤ c.length)
    (hc : splice c off vs = c') (hv : vs.all Value.oneCell' = true)
    (hW : Wants all ⟨none, .store t x y, ty, p, af, gd⟩ env) (hk : (kd ⟨none, .store t x y, ty, p, af, gd⟩).sOk = true)
    (next : Tr P g all kd rest env mem' Q) : Tr P g all kd ((i, ⟨none, .store t x y, ty, p, af, gd⟩) :: rest) env mem Q := by
  refine .s ⟨[(x, .pointer (some ⟨b, off, none⟩)), (y, v)], [⟨b, c, true⟩]⟩ undef (fun a w hmt => ?_) ⟨by simp [hx, hy], by simp [hu.isIn]⟩ ?_ hu rfl hW hk next
  · have hg : a.eval x = _ := hmt.1 (x, .pointer (some ⟨b, off, none⟩)) (by simp)
    have hg' : a.eval y = _ := hmt.1 (y, v) (by simp)
    have he : Ent.holds ⟨b, c, true⟩ w := hmt.2 _ (by simp)
    have hs := hT.sz h1 w
    obtain ⟨w', r1, r2, r3⟩ := run_storeCellsL (P := P) vs ⟨b, c, true⟩ w off 0 he hv (by simpa using ho) rfl
    have hvs' : v.cells.toList = vs := hvs
    have hsz : v.cells.size = D.size := by rw [← hl, ← hvs']; simp
    refine ⟨w', .inr ⟨?_, rfl⟩, r2, ?_⟩
    · simp [execOp, Instr.storeAt, Instr.sureAddr, hg, hg', storeVar, hs, hsz, hvs', r1]
    · simpa [splice, hc] using hc ▸ r3
  · intro q hq t ht
    simp only [List.mem_cons, List.not_mem_nil, or_false] at hq
    rcases hq with rfl | rfl <;> simp [Op.operands, ← ht]

theorem Tr.storeS (hT : TabOk P T) {b off : Nat} {c : List Value} {mem' : Mem} {ds : TypeDesc} {bs : Nat} {z0 : List Value}
    (hx : ev env x = some (.pointer (some ⟨b, off, none⟩))) (hy : ev env y = some v) (h1 : lk t T = some ⟨ds, 1, bs, z0⟩) (hv : v.oneCell' = true) (hu : MU b c (c.set off v) mem mem') (ho : off < c.length)
    (hW : Wants all ⟨none, .store t x y, ty, p, af, gd⟩ env) (hk : (kd ⟨none, .store t x y, ty, p, af, gd⟩).sOk = true)
    (next : Tr P g all kd rest env mem' Q) : Tr P g all kd ((i, ⟨none, .store t x y, ty, p, af, gd⟩) :: rest) env mem Q := by
  have hvs : vcells v = [v] := by cases v <;> first | rfl | (simp [Value.oneCell'] at hv)
  exact .store hT hx hy hvs h1 hu rfl (by simp; omega) (splice_one ho) (by simp [hv]) hW hk next

theorem Tr.storeA (hT : TabOk P T) {b : Nat} {c cs : List Value} {mem' : Mem} {D : TD}
    (hx : ev env x = some (.pointer (some ⟨b, 0, none⟩))) (hy : ev env y = some (.agg cs.toArray)) (h1 : lk t T = some D) (hu : MU b c cs mem mem') (hl : cs.length = D.size) (hl' : cs.length = c.length)
    (hv : cs.all Value.oneCell' = true)
    (hW : Wants all ⟨none, .store t x y, ty, p, af, gd⟩ env) (hk : (kd ⟨none, .store t x y, ty, p, af, gd⟩).sOk = true)
    (next : Tr P g all kd rest env mem' Q) : Tr P g all kd ((i, ⟨none, .store t x y, ty, p, af, gd⟩) :: rest) env mem Q :=
  .store hT hx hy rfl h1 hu hl (by show 0 + cs.length ≤ c.length; omega) (splice_all hl') hv hW hk next

theorem Tr.alloc (hT : TabOk P T) {ds : TypeDesc} {sz bs : Nat} {c : List Value} (h1 : lk t T = some ⟨ds, sz, bs, c⟩)
    (hd : Nat.blt d g.n = true) (hW : Wants all ⟨some d, .alloc t, ty, p, af, gd⟩ env) (hk : (kd ⟨some d, .alloc t, ty, p, af, gd⟩).aOk = true)
    (next : ∀ b, g.w0.heap.size ≤ b → Tr P g all kd rest ((d, .pointer (some ⟨b, 0, none⟩)) :: env) (⟨b, c, true⟩ :: mem) Q) : Tr P g all kd ((i, ⟨some d, .alloc t, ty, p, af, gd⟩) :: rest) env mem Q := by
  obtain ⟨zv, hz1, hz2⟩ := hT.zv h1
  refine .alc c (fun a w => ⟨t, ?_⟩) (dstB_lt (dst := some d) hd) hW (by revert hk; generalize kd _ = k; cases k <;> simp [K.aOk]) next
  have hz1' : zv.cells.toList = c := hz1
  subst hz1'
  simp [execOp, Instr.alloc, hz2, newVar, newRow]

theorem Tr.box {c : List Value} (hx : ev env x = some v) (hc : vcells v = c)
    (hd : Nat.blt d g.n = true) (hW : Wants all ⟨some d, .box t x, ty, p, af, gd⟩ env) (hk : (kd ⟨some d, .box t x, ty, p, af, gd⟩).bOk = true)
    (next : ∀ b, g.w0.heap.size ≤ b → Tr P g all kd rest ((d, .pointer (some ⟨b, 0, none⟩)) :: env) (⟨b, c, true⟩ :: mem) Q) : Tr P g all kd ((i, ⟨some d, .box t x, ty, p, af, gd⟩) :: rest) env mem Q := by
  refine .b (n1 x v) (fun b => .pointer (some ⟨b, 0, none⟩)) c (fun a w hm => ⟨t, ?_⟩) (n1.sat hx) (n1.within (by simp [Op.operands])) rfl hd hW hk next
  have hg := n1.get hm
  subst hc
  simp [execOp, Instr.box, hg, newVar, newRow, vcells]

theorem Tr.boxA {cs : List Value} (hx : ev env x = some (.agg cs.toArray))
    (hd : Nat.blt d g.n = true) (hW : Wants all ⟨some d, .box t x, ty, p, af, gd⟩ env) (hk : (kd ⟨some d, .box t x, ty, p, af, gd⟩).bOk = true)
    (next : ∀ b, g.w0.heap.size ≤ b → Tr P g all kd rest ((d, .pointer (some ⟨b, 0, none⟩)) :: env) (⟨b, cs, true⟩ :: mem) Q) : Tr P g all kd ((i, ⟨some d, .box t x, ty, p, af, gd⟩) :: rest) env mem Q :=
  .box hx rfl hd hW hk next

end


/-! ### calls -/
structure FnR (P : Program) (f : FuncId) (args : List Value) (ents : List Ent) (v : Value) : Prop where
  callable : ∃ fn, P.funcs[f]? = some fn ∧ (fn.name == "runtime.NumGoroutine") = false ∧ fn.body.isNone = false
  calls : ∀ w, (∀ e, e ∈ ents → e.holds w) → Calls P f args.toArray w (fun e w' => e = .returned v ∧ Below w.heap.size w w')

def evs (env : Env) : List Operand → Option (List Value)
  | [] => some []
  | x :: r => match ev env x, evs env r with
    | some v, some vs => some (v :: vs)
    | _, _ => none

theorem evs_zip {env : Env} : ∀ {l : List Operand} {vs : List Value}, evs env l = some vs → (∀ q, q ∈ l.zip vs → ev env q.1 = some q.2) ∧ l.length = vs.length
  | [], vs, h => by simp [evs] at h; subst h; simp
  | x :: r, vs, h => by
    simp only [evs] at h
    split at h
    · rename_i v us h1 h2
      obtain rfl := Option.some.inj h
      obtain ⟨i1, i2⟩ := evs_zip h2
      refine ⟨fun q hq => ?_, by simp [i2]⟩
      simp only [List.zip_cons_cons, List.mem_cons] at hq
      rcases hq with rfl | hq
      · exact h1
      · exact i1 q hq
    · cases h

theorem map_of_zip {a : Act} : ∀ {l : List Operand} {vs : List Value}, (∀ q, q ∈ l.zip vs → a.eval q.1 = q.2) → l.length = vs.length → l.map a.eval = vs
  | [], [], _, _ => rfl
  | [], _ :: _, _, h => by simp at h
  | _ :: _, [], _, h => by simp at h
  | x :: r, v :: vs, h, hl => by
    simp only [List.map_cons]
    rw [h (x, v) (by simp), map_of_zip (vs := vs) (fun q hq => h q (by simp [hq])) (by simpa using hl)]

section
variable {P : Program} {g : Gh} {all : Array Oper} {kd : Oper → K} {i : Nat} {o : Oper} {rest : List (Nat × Oper)} {env : Env} {mem : Mem} {Q : Env → Mem → Prop}
variable {T : List (Nat × TD)} {d ty : Nat} {p : String} {af : Array Edge} {gd : Option (Nat × Bool)} {x y z : Operand} {v u : Value} {t t' : Nat}

theorem within_zip {f : Operand} {as : List Operand} {vs : List Value} {ats : Array Nat} {dst : Option Nat} {ents : List Ent} :
    (⟨as.zip vs, ents⟩ : Need).within ⟨dst, .call ⟨.value f, as.toArray, ats⟩, ty, p, af, gd⟩ := by
  intro q hq t ht
  have := List.of_mem_zip hq
  simp only [Op.operands, Call.operands]
  rw [← ht]
  simp [this.1]

theorem opV_call {f : Nat} {as : List Operand} {vs : List Value} {ats : Array Nat} {dst : Option Nat} {ents : List Ent} (hl : as.length = vs.length) (hc : FnR P f vs ents v) :
    OpV P ⟨dst, .call ⟨.value (.func f), as.toArray, ats⟩, ty, p, af, gd⟩ ⟨as.zip vs, ents⟩ v := by
  intro a w hm
  obtain ⟨fn, h1, h2, h3⟩ := hc.callable
  have hargs : as.map a.eval = vs := map_of_zip hm.1 hl
  have hf : a.eval (.func f) = .func (.func f) #[] #[] := rfl
  have hrun : (execOp a.eval ⟨dst, .call ⟨.value (.func f), as.toArray, ats⟩, ty, p, af, gd⟩).run P w = .ok (.enter f vs.toArray) w := by
    have h2' : ¬ fn.name = "runtime.NumGoroutine" := by simpa using h2
    have h3' : ¬ fn.body = none := by intro e; rw [e] at h3; cases h3
    simp [execOp, resolve, hf, Deferred.ofValue, invoke, callFunc, h1, h2', h3', hargs]
  rw [hrun]
  exact ⟨rfl, hc.calls w hm.2⟩

/-- the entries are there, whatever their marks -/
def Has (ents : List Ent) (mem : Mem) : Prop := ∀ e, e ∈ ents → ∃ r, (e.rw = true → r = true) ∧ (⟨e.b, e.cells, r⟩ : Ent) ∈ mem

theorem Has.nil : Has [] mem := fun _ h => by cases h
theorem Has.cons {b : Nat} {c : List Value} {r : Bool} {es : List Ent} (h : (⟨b, c, r⟩ : Ent) ∈ mem) (h' : Has es mem) : Has (⟨b, c, false⟩ :: es) mem := fun e he => by
  rcases List.mem_cons.1 he with rfl | he
  · exact ⟨r, (by simp), h⟩
  · exact h' e he

theorem Has.pick : ∀ {ents : List Ent}, Has ents mem → ∃ es : List Ent, (∀ e, e ∈ es → e ∈ mem) ∧ ∀ w, (∀ e, e ∈ es → e.holds w) → ∀ e, e ∈ ents → e.holds w
  | [], _ => ⟨[], by simp, by simp⟩
  | e :: ents, h => by
    obtain ⟨r, hr0, hr⟩ := h e (by simp)
    obtain ⟨es, h1, h2⟩ := Has.pick (ents := ents) (fun x hx => h x (by simp [hx]))
    refine ⟨⟨e.b, e.cells, r⟩ :: es, fun x hx => ?_, fun w hw x hx => ?_⟩
    · rcases List.mem_cons.1 hx with rfl | hx
      · exact hr
      · exact h1 x hx
    · rcases List.mem_cons.1 hx with rfl | hx
      · exact Ent.holds_rw (hw ⟨x.b, x.cells, r⟩ (by simp)) hr0
      · exact h2 w (fun y hy => hw y (by simp [hy])) x hx

theorem Has.holds {ents : List Ent} {w : World} (h : Has ents mem) (hw : MH g mem w) : ∀ e, e ∈ ents → e.holds w := fun e he => by
  obtain ⟨r, hr0, hr⟩ := h e he
  exact Ent.holds_rw (hw.mem ⟨e.b, e.cells, r⟩ hr) hr0

theorem FnR.of_ents {f : FuncId} {args : List Value} {ents es : List Ent} (h : FnR P f args ents v) (he : ∀ w, (∀ e, e ∈ es → e.holds w) → ∀ e, e ∈ ents → e.holds w) : FnR P f args es v :=
  ⟨h.callable, fun w hw => h.calls w (he w hw)⟩

theorem Tr.call {f : Nat} {as : List Operand} {vs : List Value} {ats : Array Nat} {ents : List Ent} (hx : evs env as = some vs) (hc : FnR P f vs ents v) (he : Has ents mem)
    (hd : Nat.blt d g.n = true) (hW : Wants all ⟨some d, .call ⟨.value (.func f), as.toArray, ats⟩, ty, p, af, gd⟩ env) (hk : (kd ⟨some d, .call ⟨.value (.func f), as.toArray, ats⟩, ty, p, af, gd⟩).lOk !ents.isEmpty = true)
    (next : Tr P g all kd rest ((d, v) :: env) mem Q) : Tr P g all kd ((i, ⟨some d, .call ⟨.value (.func f), as.toArray, ats⟩, ty, p, af, gd⟩) :: rest) env mem Q := by
  have hcase : ∃ es : List Ent, ((∀ e, e ∈ es → e ∈ mem) ∧ ∀ w, (∀ e, e ∈ es → e.holds w) → ∀ e, e ∈ ents → e.holds w) ∧ (es = [] ∨ (kd ⟨some d, .call ⟨.value (.func f), as.toArray, ats⟩, ty, p, af, gd⟩).rOk = true) := by
    cases ents with
    | nil => exact ⟨[], ⟨by simp, by simp⟩, .inl rfl⟩
    | cons e r =>
      obtain ⟨es, h1, h2⟩ := he.pick
      refine ⟨es, ⟨h1, h2⟩, .inr ?_⟩
      revert hk; generalize kd _ = k; cases k <;> simp [K.lOk, K.rOk]
  obtain ⟨es, ⟨h1, h2⟩, h3⟩ := hcase
  exact .v ⟨as.zip vs, es⟩ v (opV_call (evs_zip hx).2 (hc.of_ents h2)) ⟨(evs_zip hx).1, h1⟩ within_zip (h3.imp id .inl) hd hW (by revert hk; generalize kd _ = k; cases k <;> simp [K.lOk, K.vOk]) next
end

/-! ### code -/
def Wp (P : Program) (g : Gh) (c : Code) (Q : Exit → Env → Mem → Prop) (env : Env) (mem : Mem) : Prop :=
  ∀ a w, EH g env a → MH g mem w → c.wp P (fun e a' w' => ∃ env' mem', EH g env' a' ∧ MH g mem' w' ∧ Q e env' mem') a w

/-- behind the first of two -/
def thn (P : Program) (g : Gh) (y : Code) (Q : Exit → Env → Mem → Prop) : Exit → Env → Mem → Prop
  | .normal, env, mem => Wp P g y Q env mem
  | e, env, mem => Q e env mem

def inBl (id : Nat) (Q : Exit → Env → Mem → Prop) : Exit → Env → Mem → Prop
  | .exit id', env, mem => cond (Nat.beq id' id) (Q .normal env mem) (Q (.exit id') env mem)
  | e, env, mem => Q e env mem

/-- the state (env', mem') says no more than (env, mem) -/
def Wk (g : Gh) (env : Env) (mem : Mem) (env' : Env) (mem' : Mem) : Prop := (∀ a, EH g env a → EH g env' a) ∧ ∀ w, MH g mem w → MH g mem' w

def enumL : Nat → List Oper → List (Nat × Oper)
  | _, [] => []
  | n, o :: r => (n, o) :: enumL (n + 1) r

theorem enumL_fst : ∀ (l : List Oper) (n : Nat), (enumL n l).map (·.1) = List.range' n l.length
  | [], n => by simp [enumL]
  | o :: r, n => by simp [enumL, enumL_fst r (n + 1), List.range'_succ]

theorem enumL_get : ∀ (l : List Oper) (n : Nat) (q : Nat × Oper), q ∈ enumL n l → n ≤ q.1 ∧ l[q.1 - n]? = some q.2
  | [], n, q, h => by simp [enumL] at h
  | o :: r, n, q, h => by
    simp only [enumL, List.mem_cons] at h
    rcases h with rfl | h
    · simp
    · obtain ⟨h1, h2⟩ := enumL_get r (n + 1) q h
      refine ⟨by omega, ?_⟩
      have : q.1 - n = (q.1 - (n + 1)) + 1 := by omega
      rw [this]; simpa using h2

section
variable {P : Program} {g : Gh} {env : Env} {mem : Mem} {Q : Exit → Env → Mem → Prop}

theorem Wp.weak {c : Code} {env' : Env} {mem' : Mem} (h : Wp P g c Q env' mem') (hk : Wk g env mem env' mem') : Wp P g c Q env mem :=
  fun _ _ ha hw => h _ _ (hk.1 _ ha) (hk.2 _ hw)

theorem Wp.mono {c : Code} {Q' : Exit → Env → Mem → Prop} (h : Wp P g c Q' env mem) (hq : ∀ e env mem, Q' e env mem → Q e env mem) : Wp P g c Q env mem :=
  fun a w ha hw => wp_mono (h a w ha hw) fun _ _ _ ⟨e1, m1, x1, x2, x3⟩ => ⟨e1, m1, x1, x2, hq _ _ _ x3⟩

theorem Wp.seq {x y : Code} (h : Wp P g x (thn P g y Q) env mem) : Wp P g (.seq x y) Q env mem := by
  intro a w ha hw
  refine wp_seq (wp_mono (h a w ha hw) ?_)
  rintro e a' w' ⟨env', mem', x1, x2, x3⟩
  cases e with
  | normal => exact x3 a' w' x1 x2
  | _ => exact ⟨env', mem', x1, x2, x3⟩

theorem Wp.skip (h : Q .normal env mem) : Wp P g .skip Q env mem := fun _ _ ha hw => wp_skip ⟨env, mem, ha, hw, h⟩
theorem Wp.exit {id : Nat} (h : Q (.exit id) env mem) : Wp P g (.exit id) Q env mem := fun _ _ ha hw => wp_exit ⟨env, mem, ha, hw, h⟩
theorem Wp.ret (h : Q .ret env mem) : Wp P g .ret Q env mem := fun _ _ ha hw => wp_ret ⟨env, mem, ha, hw, h⟩

theorem Wp.condT {c : Operand} {x y : Code} (hc : ev env c = some (.bool true)) (h : Wp P g x Q env mem) : Wp P g (.cond c x y) Q env mem :=
  fun a w ha hw => wp_cond_true (ha.ev hc) (h a w ha hw)
theorem Wp.condF {c : Operand} {x y : Code} (hc : ev env c = some (.bool false)) (h : Wp P g y Q env mem) : Wp P g (.cond c x y) Q env mem :=
  fun a w ha hw => wp_cond_false (ha.ev hc) (h a w ha hw)
theorem Wp.cond {c : Operand} {x y : Code} {b : Bool} (hc : ev env c = some (.bool b)) (ht : b = true → Wp P g x Q env mem) (hf : b = false → Wp P g y Q env mem) : Wp P g (.cond c x y) Q env mem := by
  cases b
  · exact .condF hc (hf rfl)
  · exact .condT hc (ht rfl)

theorem Wp.block {id : Nat} {c : Code} (h : Wp P g c (inBl id Q) env mem) : Wp P g (.block id c) Q env mem := by
  intro a w ha hw
  refine wp_block (wp_mono (h a w ha hw) ?_)
  rintro e a' w' ⟨env', mem', x1, x2, x3⟩
  cases e with
  | exit id' =>
    simp only [inBl] at x3
    simp only [Exit.inBlock]
    by_cases hid : id' = id
    · subst hid
      have : Nat.beq id' id' = true := by simp
      rw [this] at x3
      simp only [if_true]
      exact ⟨env', mem', x1, x2, x3⟩
    · have : Nat.beq id' id = false := by
        cases hb : Nat.beq id' id with
        | false => rfl
        | true => exact absurd (Nat.eq_of_beq_eq_true hb) hid
      rw [this] at x3
      simp only [hid, if_false]
      exact ⟨env', mem', x1, x2, x3⟩
  | _ => exact ⟨env', mem', x1, x2, x3⟩

/-- a loop: I x is the state at the head, for some x, on which μ goes down -/
theorem Wp.loop {α : Type} {c : Code} (I : α → Env → Mem → Prop) (μ : α → Nat) (x0 : α) {env0 : Env} {mem0 : Mem} (h0 : I x0 env0 mem0) (hk : Wk g env mem env0 mem0)
    (round : ∀ x env mem, I x env mem → Wp P g c (fun e env' mem' => match e with
      | .normal => ∃ x' env'' mem'', I x' env'' mem'' ∧ μ x' < μ x ∧ Wk g env' mem' env'' mem''
      | e => Q e env' mem') env mem) : Wp P g (.loop c) Q env mem := by
  intro a w ha hw b k cs
  have key : ∀ n x env mem a w, I x env mem → μ x = n → EH g env a → MH g mem w →
      ∃ e a' w', (∃ env' mem', EH g env' a' ∧ MH g mem' w' ∧ Q e env' mem') ∧ Arrives P (lone (b.at a (.code c :: .inLoop c :: k)) cs w) b k cs e a' w' := by
    intro n
    induction n using Nat.strongRecOn with
    | _ n ih =>
      intro x env mem a w hI hn ha hw
      obtain ⟨e, a₁, w₁, hq, harr⟩ := round x env mem hI a w ha hw b (.inLoop c :: k) cs
      cases e with
      | normal =>
        obtain ⟨env', mem', x1, x2, x', env'', mem'', y1, y2, y3⟩ := hq
        obtain ⟨e₂, a₂, w₂, hq₂, harr₂⟩ := ih (μ x') (hn ▸ y2) x' env'' mem'' a₁ w₁ y1 rfl (y3.1 _ x1) (y3.2 _ x2)
        exact ⟨e₂, a₂, w₂, hq₂, .of_steps (Steps.trans harr (.one step_inLoop)) harr₂⟩
      | exit id => exact ⟨_, a₁, w₁, hq, .pass (x := .inLoop c) rfl (fun _ _ => .inl (by simp)) harr⟩
      | goto l => exact ⟨_, a₁, w₁, hq, .pass (x := .inLoop c) rfl (fun _ _ => .inl (by simp)) harr⟩
      | ret => exact ⟨_, a₁, w₁, hq, .pass (x := .inLoop c) rfl (fun _ _ => .inl (by simp)) harr⟩
      | panic ch => exact ⟨_, a₁, w₁, hq, .pass (x := .inLoop c) rfl (fun _ _ => .inl (by simp)) harr⟩
      | outgrown => exact ⟨_, a₁, w₁, hq, .pass (x := .inLoop c) rfl (fun _ _ => .inl (by simp)) harr⟩
  obtain ⟨e, a', w', hq, harr⟩ := key _ x0 env0 mem0 a w h0 rfl (hk.1 a ha) (hk.2 w hw)
  exact ⟨e, a', w', hq, .of_steps (.one step_loop) harr⟩

/-- a region -/
theorem Wp.reg {l : List Oper} {id : Nat} (kd : Oper → K) (h : Tr P g l.toArray kd (enumL 0 l) env mem (fun e m => Q .normal e m)) : Wp P g (.region id l.toArray false) Q env mem := by
  intro a w ha hw
  refine wp_region ?_
  have hidx : List.range l.toArray.size = (enumL 0 l).map (·.1) := by rw [enumL_fst]; simp [List.range_eq_range']
  rw [hidx]
  exact Tr.seq (g := g) (fun env mem _ _ hq ha hw => ⟨env, mem, ha, hw, hq⟩) _ _ _ h (fun q hq => by
    obtain ⟨_, h2⟩ := enumL_get l 0 q hq
    simpa using h2) a w ha hw

/-- a region that draws -/
theorem Wp.regD {l : List Oper} {id : Nat} (kd : Oper → K) (order : List Nat) (hm : P.follows .mixedOrders = true) (hok : drawOk kd l.toArray order = true)
    (h : Tr P g l.toArray kd (laidOut l.toArray order) env mem (fun e m => Q .normal e m)) : Wp P g (.region id l.toArray true) Q env mem :=
  fun _ _ ha hw => Tr.draw (g := g) (fun env mem _ _ hq ha hw => ⟨env, mem, ha, hw, hq⟩) hm order hok h ha hw

/-! ### weakening -/
theorem EH.sub {env' : Env} (h : ∀ t v, lk t env' = some v → lk t env = some v) : ∀ a, EH g env a → EH g env' a :=
  fun _ ha => ⟨ha.defers, ha.size, fun t v ht => ha.env t v (h t v ht)⟩

inductive ESub : Env → Env → Prop where
  | nil {env : Env} : ESub [] env
  | cons {t : Nat} {v v' : Value} {r env : Env} : lk t env = some v' → v' = v → ESub r env → ESub ((t, v) :: r) env

theorem ESub.sub {env' env : Env} (h : ESub env' env) : ∀ t v, lk t env' = some v → lk t env = some v := by
  induction h with
  | nil => intro t v h; simp [lk] at h
  | @cons t v v' r env h1 h2 _ ih =>
    intro t' u hu
    rw [lk_cons] at hu
    by_cases e : t' = t
    · subst e; rw [if_pos rfl] at hu; obtain rfl := Option.some.inj hu; rw [h1, h2]
    · rw [if_neg e] at hu; exact ih t' u hu

/-- one entry taken out -/
inductive Pick : Ent → Mem → Mem → Prop where
  | here {e : Ent} {m : Mem} : Pick e (e :: m) m
  | there {e x : Ent} {m m' : Mem} : Pick e m m' → Pick e (x :: m) (x :: m')

theorem Pick.perm {e : Ent} {m m' : Mem} (h : Pick e m m') : m.Perm (e :: m') := by
  induction h with
  | here => exact List.Perm.refl _
  | there _ ih => exact (ih.cons _).trans (List.Perm.swap _ _ _)

inductive MSub : Mem → Mem → Prop where
  | nil {m : Mem} : MSub [] m
  | cons {b : Nat} {c c' : List Value} {rw : Bool} {r m m' : Mem} : Pick ⟨b, c', rw⟩ m m' → c' = c → MSub r m' → MSub (⟨b, c, rw⟩ :: r) m

theorem MSub.perm {m' m : Mem} (h : MSub m' m) : ∃ r, m.Perm (m' ++ r) := by
  induction h with
  | nil => exact ⟨_, List.Perm.refl _⟩
  | cons h1 h2 _ ih =>
    subst h2
    obtain ⟨r, hr⟩ := ih
    exact ⟨r, h1.perm.trans (hr.cons _)⟩

theorem MH.sub {m m' : Mem} (h : MSub m' m) : ∀ w, MH g m w → MH g m' w := by
  obtain ⟨r, hr⟩ := h.perm
  intro w hw
  have := hw.perm hr.symm
  exact ⟨fun e he => this.mem e (by simp [he]), (List.pairwise_append.1 this.sep).1, fun e he => this.own e (by simp [he]), this.fr⟩

theorem Wk.mk {env' : Env} {mem' : Mem} (h : ESub env' env) (h' : MSub mem' mem) : Wk g env mem env' mem' := ⟨EH.sub h.sub, MH.sub h'⟩
theorem Wk.refl : Wk g env mem env mem := ⟨fun _ h => h, fun _ h => h⟩

/-! ### a function -/
def parE : Nat → List Value → Env
  | _, [] => []
  | n, v :: r => (n, v) :: parE (n + 1) r

theorem lk_parE : ∀ (vs : List Value) (n t : Nat) (v : Value), lk t (parE n vs) = some v → n ≤ t ∧ vs[t - n]? = some v
  | [], n, t, v, h => by simp [parE, lk] at h
  | u :: r, n, t, v, h => by
    simp only [parE, lk_cons] at h
    by_cases e : t = n
    · subst e; simp at h; simp [h]
    · rw [if_neg e] at h
      obtain ⟨h1, h2⟩ := lk_parE r (n + 1) t v h
      refine ⟨by omega, ?_⟩
      have : t - n = (t - (n + 1)) + 1 := by omega
      rw [this]; simpa using h2

/-- what a function's results are, in this state -/
def ResIs (P : Program) (g : Gh) (fn : Func) (env : Env) (mem : Mem) (v : Value) : Prop :=
  ∀ (a : Act) (w : World), EH g env a → MH g mem w → (results fn a.tmps).run P w = .ok v w

theorem fnR_of {f : FuncId} {fn : Func} {c : Code} {args : List Value} {ents : List Ent} {v : Value} (n : Nat) (hnt : fn.ntmps = n) (hf : P.funcs[f]? = some fn) (hb : fn.body = some c) (hn : (fn.name == "runtime.NumGoroutine") = false)
    (hl : Nat.ble args.length n = true) (hr : ∀ e, e ∈ ents → e.rw = false)
    (h : ∀ w, Wp P ⟨n, w, fun _ => False⟩ c (fun e env mem => (e = .normal ∨ e = .ret) ∧ ResIs P ⟨n, w, fun _ => False⟩ fn env mem v) (parE 0 args) ents) : FnR P f args ents v := by
  subst hnt
  refine ⟨⟨fn, hf, hn, by simp [hb]⟩, fun w hw => calls_of_wp hf hb ?_⟩
  have hl' := Nat.le_of_ble_eq_true hl
  refine wp_mono (h w _ w ⟨rfl, by simp; omega, fun t u ht => ?_⟩ ⟨hw, ?_, fun e he hx => (by rw [hr e he] at hx; cases hx), ⟨rfl, rfl, rfl, Nat.le_refl _, fun _ _ _ => rfl⟩⟩) ?_
  · obtain ⟨_, h2⟩ := lk_parE args 0 t u ht
    have hlt : t < args.length := by
      rcases Nat.lt_or_ge t args.length with h | h
      · exact h
      · rw [Nat.sub_zero, List.getElem?_eq_none h] at h2; cases h2
    rw [Array.getElem?_append_left (by simpa using hlt)]
    simpa using h2
  · refine List.Pairwise.imp_of_mem (R := fun _ _ => True) (fun {a b} ha hb' _ hx => ?_) (List.pairwise_of_forall (fun _ _ => trivial))
    rcases hx with hx | hx
    · rw [hr a ha] at hx; cases hx
    · rw [hr b hb'] at hx; cases hx
  · rintro e a' w' ⟨env', mem', x1, x2, x3, x4⟩
    have hbel : Below w.heap.size w w' := ⟨x2.fr.os, x2.fr.tape, x2.fr.output, x2.fr.size, fun k hk => x2.fr.block k hk (by simp)⟩
    rcases x3 with rfl | rfl <;> exact ⟨x1.defers, v, x4 a' w' x1 x2, rfl, hbel⟩
end

/-! ### results -/
def rv (tmps : Array Value) : ResultVar → Sem Value
  | .tmp t => pure (tmps.getD t undef)
  | .cell a t => do loadVar t (← asAddr (tmps.getD a undef))

theorem results_eq (fn : Func) (tmps : Array Value) : results fn tmps = (do
    let vs ← fn.results.mapM (rv tmps)
    pure (if h : vs.size = 1 then vs[0] else .tuple vs)) := by
  unfold results
  congr 1

def RvIs (P : Program) (g : Gh) (r : ResultVar) (env : Env) (mem : Mem) (v : Value) : Prop :=
  ∀ (a : Act) (w : World), EH g env a → MH g mem w → (rv a.tmps r).run P w = .ok v w

section
variable {P : Program} {g : Gh} {env : Env} {mem : Mem} {T : List (Nat × TD)}

theorem RvIs.tmp {t : Nat} {v : Value} (h : lk t env = some v) : RvIs P g (.tmp t) env mem v := by
  intro a w ha _
  simp [rv, ha.env t v h]

theorem RvIs.cellS (hT : TabOk P T) {a t b off : Nat} {cells : List Value} {rw : Bool} {D : TD} {v : Value} (hx : lk a env = some (.pointer (some ⟨b, off, none⟩))) (h1 : lk t T = some D) (h2 : D.agg = false)
    (hm : (⟨b, cells, rw⟩ : Ent) ∈ mem) (hv : cells[off]? = some v) : RvIs P g (.cell a t) env mem v := by
  intro ac w ha hw
  have hi := hT.isAgg h1 w
  rw [h2] at hi
  simp [AW.rv, ha.env _ _ hx, asAddr, loadVar, hi, (hw.mem _ hm).cell hv]

theorem RvIs.cellA (hT : TabOk P T) {a t b off : Nat} {cells cs : List Value} {rw : Bool} {D : TD} (hx : lk a env = some (.pointer (some ⟨b, off, none⟩))) (h1 : lk t T = some D) (h2 : D.agg = true)
    (hm : (⟨b, cells, rw⟩ : Ent) ∈ mem) (hc : At cells off cs) (hl : cs.length = D.size) : RvIs P g (.cell a t) env mem (.agg cs.toArray) := by
  intro ac w ha hw
  have hi := hT.isAgg h1 w
  rw [h2] at hi
  have hs := hT.sz h1 w
  rw [← hl] at hs
  simp [AW.rv, ha.env _ _ hx, asAddr, loadVar, hi, hs, (hw.mem _ hm).loadCells hc]

theorem ResIs.r0 {fn : Func} (hr : fn.results = #[]) : ResIs P g fn env mem (.tuple #[]) := by
  intro a w _ _
  rw [results_eq, hr]
  simp

theorem ResIs.r1 {fn : Func} {r1 : ResultVar} {v : Value} (hr : fn.results = #[r1]) (h : RvIs P g r1 env mem v) : ResIs P g fn env mem v := by
  intro a w ha hw
  rw [results_eq, hr]
  simp [h a w ha hw]

theorem ResIs.r2 {fn : Func} {r1 r2 : ResultVar} {v u : Value} (hr : fn.results = #[r1, r2]) (h : RvIs P g r1 env mem v) (h' : RvIs P g r2 env mem u) : ResIs P g fn env mem (.tuple #[v, u]) := by
  intro a w ha hw
  rw [results_eq, hr]
  simp [h a w ha hw, h' a w ha hw]

theorem ResIs.r3 {fn : Func} {r1 r2 r3 : ResultVar} {v u x : Value} (hr : fn.results = #[r1, r2, r3]) (h : RvIs P g r1 env mem v) (h' : RvIs P g r2 env mem u) (h'' : RvIs P g r3 env mem x) : ResIs P g fn env mem (.tuple #[v, u, x]) := by
  intro a w ha hw
  rw [results_eq, hr]
  simp [h a w ha hw, h' a w ha hw, h'' a w ha hw]
end

/-! ### composites -/
def fillC (pl : Nat → Option (Nat × Nat)) : List Value → List (Nat × Value) → Option (List Value)
  | c, [] => some c
  | c, (i, v) :: r => match pl i with
    | some (off, n) => if (vcells v).length = n ∧ off + n ≤ c.length then fillC pl (splice c off (vcells v)) r else none
    | none => none

theorem zipIdx_set : ∀ (vs : List Value) (c : List Value) (off k : Nat), off + k + vs.length ≤ c.length →
    (vs.zipIdx k).foldl (fun (cs : Array Value) (q : Value × Nat) => cs.setIfInBounds (off + q.2) q.1) c.toArray = (splice c (off + k) vs).toArray
  | [], c, off, k, _ => by simp [splice]
  | v :: vs, c, off, k, h => by
    simp only [List.length_cons] at h
    simp only [List.zipIdx_cons, List.foldl_cons, List.setIfInBounds_toArray]
    rw [zipIdx_set vs (c.set (off + k) v) off (k + 1) (by simp; omega)]
    congr 1
    have e1 : (c.set (off + k) v).take (off + (k + 1)) = c.take (off + k) ++ [v] := by
      rw [← Nat.add_assoc, List.take_succ_eq_append_getElem (by simp; omega), List.take_set_of_le (Nat.le_refl _)]
      simp
    have e2 : (c.set (off + k) v).drop (off + (k + 1) + vs.length) = c.drop (off + k + (v :: vs).length) := by
      rw [List.drop_set_of_lt (by omega)]
      simp [Nat.add_assoc, Nat.add_comm 1]
    simp only [splice]
    rw [← Nat.add_assoc] at e1 e2 ⊢
    rw [e1, e2]
    simp

theorem fill_of {pl : Nat → Option (Nat × Nat)} : ∀ {ps : List (Nat × Value)} {c cs : List Value}, fillC pl c ps = some cs → Instr.fill pl c.toArray ps = some cs.toArray
  | [], c, cs, h => by simp only [fillC, Option.some.injEq] at h; subst h; rfl
  | (i, v) :: r, c, cs, h => by
    simp only [fillC] at h
    simp only [Instr.fill]
    cases hp : pl i with
    | none => rw [hp] at h; cases h
    | some q =>
      obtain ⟨off, n⟩ := q
      rw [hp] at h
      simp only at h ⊢
      split at h
      · rename_i hc
        have hs : v.cells.size = n := by rw [← hc.1]; simp [vcells]
        rw [if_neg (by simp [hs]; omega)]
        have := zipIdx_set (vcells v) c off 0 (by omega)
        have e : v.cells.zipIdx.foldl (fun cs (q : Value × Nat) => cs.setIfInBounds (off + q.2) q.1) c.toArray = (splice c off (vcells v)).toArray := by
          rw [← Array.foldl_toList]
          simpa [vcells] using this
        rw [e]
        exact fill_of h
      · cases h

section
variable {P : Program} {g : Gh} {all : Array Oper} {kd : Oper → K} {i : Nat} {o : Oper} {rest : List (Nat × Oper)} {env : Env} {mem : Mem} {Q : Env → Mem → Prop}
variable {T : List (Nat × TD)} {d ty : Nat} {p : String} {af : Array Edge} {gd : Option (Nat × Bool)} {x y z : Operand} {v u : Value} {t t' : Nat}

theorem zip_sat {as : List Operand} {vs : List Value} (hx : evs env as = some vs) : (⟨as.zip vs, []⟩ : Need).sat env mem := ⟨(evs_zip hx).1, by simp⟩

theorem build_within {ps : List (Nat × Operand)} {vs : List Value} {t : Nat} {dst : Option Nat} : (⟨(ps.map (·.2)).zip vs, []⟩ : Need).within ⟨dst, .build t ps.toArray, ty, p, af, gd⟩ := by
  intro q hq t' ht
  have := (List.of_mem_zip hq).1
  simp only [Op.operands]
  rw [← ht]; simpa using this

theorem buildSlice_within {ps : List (Nat × Operand)} {vs : List Value} {t n : Nat} {dst : Option Nat} : (⟨(ps.map (·.2)).zip vs, []⟩ : Need).within ⟨dst, .buildSlice t n ps.toArray, ty, p, af, gd⟩ := by
  intro q hq t' ht
  have := (List.of_mem_zip hq).1
  simp only [Op.operands]
  rw [← ht]; simpa using this

theorem parts_eval {a : Act} {ps : List (Nat × Operand)} {vs : List Value} (h : (ps.map (·.2)).map a.eval = vs) : (ps.toArray.map fun q : Nat × Operand => (q.1, a.eval q.2)) = ((ps.map (·.1)).zip vs).toArray := by
  subst h
  simp only [List.map_toArray, List.map_map]
  congr 1
  induction ps with
  | nil => rfl
  | cons q r ih => simp [ih]

theorem Tr.buildA (hT : TabOk P T) {ps : List (Nat × Operand)} {vs cs : List Value} {n e : Nat} {D E : TD} (hx : evs env (ps.map (·.2)) = some vs) (h1 : lk t T = some D) (h2 : D.desc = .array n e) (h3 : lk e T = some E)
    (hf : fillC (fun i => some (i * E.size, E.size)) D.zero ((ps.map (·.1)).zip vs) = some cs)
    (hd : Nat.blt d g.n = true) (hW : Wants all ⟨some d, .build t ps.toArray, ty, p, af, gd⟩ env) (hk : (kd ⟨some d, .build t ps.toArray, ty, p, af, gd⟩).vOk = true)
    (next : Tr P g all kd rest ((d, .agg cs.toArray) :: env) mem Q) : Tr P g all kd ((i, ⟨some d, .build t ps.toArray, ty, p, af, gd⟩) :: rest) env mem Q := by
  refine .v ⟨(ps.map (·.2)).zip vs, []⟩ (.agg cs.toArray) (opV_of fun a w hm => ?_) (zip_sat hx) build_within (.inl rfl) hd hW hk next
  have hargs := map_of_zip hm.1 (evs_zip hx).2
  obtain ⟨zv, hz1, hz2⟩ := hT.zv h1
  have hu := hT.und h1 w
  rw [h2] at hu
  have hz : zv.cells = D.zero.toArray := by rw [← hz1]
  have hfl := fill_of hf
  have hpe := parts_eval hargs
  simp only [execOp] at *
  simp [Instr.build, hz2, hu, hT.sz h3 w, hz, hpe, hfl]

theorem mapM_places (hT : TabOk P T) (w : World) : ∀ (fs : List Field) (l : List (Nat × Nat)), (fs.map fun f => (f.offset, (lk f.type T).map (·.size))) = l.map (fun q => (q.1, some q.2)) →
    (fs.mapM (m := Sem) fun f => do pure (f.offset, ← sizeOf f.type)).run P w = .ok l w
  | [], [], _ => by simp
  | [], _ :: _, h => by simp at h
  | _ :: _, [], h => by simp at h
  | f :: fs, q :: l, h => by
    simp only [List.map_cons, List.cons.injEq, Prod.mk.injEq] at h
    obtain ⟨⟨h1, h2⟩, h3⟩ := h
    cases hl : lk f.type T with
    | none => rw [hl] at h2; cases h2
    | some D =>
      rw [hl] at h2
      simp only [Option.map_some, Option.some.injEq] at h2
      have ih := mapM_places hT w fs l h3
      simp only [bind_pure_comp] at ih
      simp [hT.sz hl w, ih, h1, h2]

theorem Tr.buildS (hT : TabOk P T) {ps : List (Nat × Operand)} {vs cs : List Value} {fs : List Field} {D : TD} {l : List (Nat × Nat)} (hx : evs env (ps.map (·.2)) = some vs) (h1 : lk t T = some D) (h2 : D.desc = .struct fs.toArray)
    (h3 : (fs.map fun f => (f.offset, (lk f.type T).map (·.size))) = l.map (fun q => (q.1, some q.2)))
    (hf : fillC (fun i => l[i]?) D.zero ((ps.map (·.1)).zip vs) = some cs)
    (hd : Nat.blt d g.n = true) (hW : Wants all ⟨some d, .build t ps.toArray, ty, p, af, gd⟩ env) (hk : (kd ⟨some d, .build t ps.toArray, ty, p, af, gd⟩).vOk = true)
    (next : Tr P g all kd rest ((d, .agg cs.toArray) :: env) mem Q) : Tr P g all kd ((i, ⟨some d, .build t ps.toArray, ty, p, af, gd⟩) :: rest) env mem Q := by
  refine .v ⟨(ps.map (·.2)).zip vs, []⟩ (.agg cs.toArray) (opV_of fun a w hm => ?_) (zip_sat hx) build_within (.inl rfl) hd hW hk next
  have hargs := map_of_zip hm.1 (evs_zip hx).2
  obtain ⟨zv, hz1, hz2⟩ := hT.zv h1
  have hu := hT.und h1 w
  rw [h2] at hu
  have hz : zv.cells = D.zero.toArray := by rw [← hz1]
  have hfl := fill_of hf
  have hpe := parts_eval hargs
  have hpl := mapM_places hT w fs l h3
  have hpl' : (fs.toArray.mapM (m := Sem) fun f => do pure (f.offset, ← sizeOf f.type)).run P w = .ok l.toArray w := by
    rw [List.mapM_toArray]
    simp only [Sem.run_map] at hpl ⊢
    rw [hpl]; rfl
  simp only [execOp] at *
  simp only [Instr.build, Sem.run_bind, hz2, hu, Result.andThen_ok, hz, hpe, hpl']
  have hl : (fun (i : Nat) => l.toArray[i]?) = fun i => l[i]? := by funext i; simp
  rw [hl]
  simp [hfl]

def zrep (E : List Value) (n : Nat) : List Value := (List.range (n * E.length)).map fun k => E.toArray[k % E.toArray.size]!

theorem zrep_one (z : Value) (n : Nat) : zrep [z] n = List.replicate n z := by
  apply List.ext_getElem
  · simp [zrep]
  · intro k h1 h2
    simp [zrep, Nat.mod_one]

theorem Tr.buildSlice (hT : TabOk P T) {ps : List (Nat × Operand)} {vs cs : List Value} {n e : Nat} {D E : TD} (hx : evs env (ps.map (·.2)) = some vs) (h1 : lk t T = some D) (h2 : D.desc = .slice e) (h3 : lk e T = some E) (hsz : E.zero.length = E.size) (hn : Nat.ble (n * E.size) 16777216 = true)
    (hf : fillC (fun i => some (i * E.size, E.size)) (zrep E.zero n) ((ps.map (·.1)).zip vs) = some cs)
    (hd : Nat.blt d g.n = true) (hW : Wants all ⟨some d, .buildSlice t n ps.toArray, ty, p, af, gd⟩ env) (hk : (kd ⟨some d, .buildSlice t n ps.toArray, ty, p, af, gd⟩).bOk = true)
    (next : ∀ b, g.w0.heap.size ≤ b → Tr P g all kd rest ((d, .slice (some ⟨b, 0, none⟩) n n) :: env) (⟨b, cs, true⟩ :: mem) Q) : Tr P g all kd ((i, ⟨some d, .buildSlice t n ps.toArray, ty, p, af, gd⟩) :: rest) env mem Q := by
  refine .b ⟨(ps.map (·.2)).zip vs, []⟩ (fun b => .slice (some ⟨b, 0, none⟩) n n) cs (fun a w hm => ⟨e, ?_⟩) (zip_sat hx) buildSlice_within rfl hd hW hk next
  have hargs := map_of_zip hm.1 (evs_zip hx).2
  obtain ⟨zv, hz1, hz2⟩ := hT.zv h3
  have hu := hT.und h1 w
  rw [h2] at hu
  have hz : zv.cells = E.zero.toArray := by rw [← hz1]
  have hfl := fill_of hf
  have hpe := parts_eval hargs
  have hn' := Nat.le_of_ble_eq_true hn
  have hsz2 : ((Array.range (n * E.size)).map fun k => E.zero.toArray[k % E.zero.toArray.size]!) = (zrep E.zero n).toArray := by
    apply Array.ext'
    simp [zrep, hsz]
  simp only [execOp] at *
  by_cases h0 : n * E.size = 0
  · have hz0 : (zrep E.zero n) = [] := by simp [zrep, hsz, h0]
    rw [hz0] at hfl
    have ha0 : (Array.range (n * E.size)).map (fun k => (#[] : Array Value)[k % (#[] : Array Value).size]!) = (#[] : Array Value) := by rw [h0]; simp
    simp only [Instr.buildSlice, Sem.run_bind, hu, Result.andThen_ok, hT.sz h3 w, hpe]
    rw [if_neg (by omega), if_pos h0]
    simp only [Sem.run_bind, Sem.run_pure, Result.andThen_ok, ha0]
    have hfl' : Instr.fill (fun i => some (i * E.size, E.size)) #[] ((ps.map (·.1)).zip vs).toArray.toList = some cs.toArray := hfl
    rw [hfl']
    simp [newRow]
  · simp only [Instr.buildSlice, Sem.run_bind, hu, Result.andThen_ok, hT.sz h3 w, hpe]
    rw [if_neg (by omega), if_neg h0]
    simp only [Sem.run_bind, Sem.run_pure, Result.andThen_ok, hz2, hz, hsz2]
    have hfl' : Instr.fill (fun i => some (i * E.size, E.size)) (zrep E.zero n).toArray ((ps.map (·.1)).zip vs).toArray.toList = some cs.toArray := hfl
    rw [hfl']
    simp [newRow]
end


section
variable {P : Program} {g : Gh} {env : Env} {mem : Mem} {Q : Exit → Env → Mem → Prop}
theorem laidOut_range (l : List Oper) : laidOut l.toArray (List.range l.length) = enumL 0 l := by
  have key : ∀ (l2 l1 : List Oper), (List.range' l1.length l2.length).map (fun i => (i, (l1 ++ l2).toArray.getD i default)) = enumL l1.length l2 := by
    intro l2
    induction l2 with
    | nil => intro l1; rfl
    | cons o r ih =>
      intro l1
      simp only [List.length_cons, List.range'_succ, List.map_cons, enumL]
      have h1 := ih (l1 ++ [o])
      simp only [List.append_assoc, List.singleton_append, List.length_append, List.length_singleton] at h1
      rw [h1]
      simp
  have := key l []
  simpa [laidOut, List.range_eq_range'] using this

/-- a region that draws, in the text's order -/
theorem Wp.regE {l : List Oper} {id : Nat} (kd : Oper → K) (hm : P.follows .mixedOrders = true) (hok : drawOk kd l.toArray (List.range l.length) = true)
    (h : Tr P g l.toArray kd (enumL 0 l) env mem (fun e m => Q .normal e m)) : Wp P g (.region id l.toArray true) Q env mem :=
  .regD kd _ hm hok (by rw [laidOut_range]; exact h)
end

section
variable {P : Program} {g : Gh} {all : Array Oper} {kd : Oper → K} {i : Nat} {o : Oper} {rest : List (Nat × Oper)} {env : Env} {mem : Mem} {Q : Env → Mem → Prop}
variable {T : List (Nat × TD)} {d ty : Nat} {p : String} {af : Array Edge} {gd : Option (Nat × Bool)} {x y z : Operand} {v u : Value} {t t' : Nat}

/-- a body-less function of the model's own -/
def ExtV (P : Program) (f : FuncId) (args : List Value) (v : Value) : Prop := ∀ w, (callFunc f args.toArray).run P w = .ok (.value v) w

theorem Tr.callX {f : Nat} {as : List Operand} {vs : List Value} {ats : Array Nat} (hx : evs env as = some vs) (hc : ExtV P f vs v)
    (hd : Nat.blt d g.n = true) (hW : Wants all ⟨some d, .call ⟨.value (.func f), as.toArray, ats⟩, ty, p, af, gd⟩ env) (hk : (kd ⟨some d, .call ⟨.value (.func f), as.toArray, ats⟩, ty, p, af, gd⟩).vOk = true)
    (next : Tr P g all kd rest ((d, v) :: env) mem Q) : Tr P g all kd ((i, ⟨some d, .call ⟨.value (.func f), as.toArray, ats⟩, ty, p, af, gd⟩) :: rest) env mem Q :=
  .v ⟨as.zip vs, []⟩ v (opV_of fun a w hm => by
    have hargs : as.map a.eval = vs := map_of_zip hm.1 (evs_zip hx).2
    have hf : a.eval (.func f) = .func (.func f) #[] #[] := rfl
    have := hc w
    simp [execOp, resolve, hf, Deferred.ofValue, invoke, hargs, this]) ⟨(evs_zip hx).1, by simp⟩ within_zip (.inl rfl) hd hW hk next

theorem len_within {a : Operand} {t : Nat} {v : Value} {dst : Option Nat} : (n1 a v).within ⟨dst, .call ⟨.builtin .len, #[a], #[t]⟩, ty, p, af, gd⟩ := n1.within (by simp [Op.operands, Call.operands])

theorem Tr.lenS (hT : TabOk P T) {a0 : Option Addr} {n c e : Nat} {D : TD} (hx : ev env x = some (.slice a0 n c)) (h1 : lk t T = some D) (h2 : D.desc = .slice e) (hd : Nat.blt d g.n = true) (hW : Wants all ⟨some d, .call ⟨.builtin .len, #[x], #[t]⟩, ty, p, af, gd⟩ env) (hk : (kd ⟨some d, .call ⟨.builtin .len, #[x], #[t]⟩, ty, p, af, gd⟩).vOk = true)
    (next : Tr P g all kd rest ((d, .int .i64 n) :: env) mem Q) : Tr P g all kd ((i, ⟨some d, .call ⟨.builtin .len, #[x], #[t]⟩, ty, p, af, gd⟩) :: rest) env mem Q :=
  .v (n1 x (.slice a0 n c)) (.int .i64 n) (opV_of fun a w hm => by have hg := n1.get hm; have hu := hT.und h1 w; rw [h2] at hu; simp [execOp, resolve, invoke, builtin, Builtin.len_, hg, hu, goInt]) (n1.sat hx) (len_within) (.inl rfl) hd hW hk next

theorem Tr.lenStr (hT : TabOk P T) {s : ByteArray} {D : TD} (hx : ev env x = some (.string s)) (h1 : lk t T = some D) (h2 : D.desc = .string) (hd : Nat.blt d g.n = true) (hW : Wants all ⟨some d, .call ⟨.builtin .len, #[x], #[t]⟩, ty, p, af, gd⟩ env) (hk : (kd ⟨some d, .call ⟨.builtin .len, #[x], #[t]⟩, ty, p, af, gd⟩).vOk = true)
    (next : Tr P g all kd rest ((d, .int .i64 s.size) :: env) mem Q) : Tr P g all kd ((i, ⟨some d, .call ⟨.builtin .len, #[x], #[t]⟩, ty, p, af, gd⟩) :: rest) env mem Q :=
  .v (n1 x (.string s)) (.int .i64 s.size) (opV_of fun a w hm => by have hg := n1.get hm; have hu := hT.und h1 w; rw [h2] at hu; simp [execOp, resolve, invoke, builtin, Builtin.len_, hg, hu, goInt]) (n1.sat hx) (len_within) (.inl rfl) hd hW hk next

theorem Tr.lenA (hT : TabOk P T) {n e : Nat} {D : TD} (hx : ev env x = some v) (h1 : lk t T = some D) (h2 : D.desc = .array n e) (hd : Nat.blt d g.n = true) (hW : Wants all ⟨some d, .call ⟨.builtin .len, #[x], #[t]⟩, ty, p, af, gd⟩ env) (hk : (kd ⟨some d, .call ⟨.builtin .len, #[x], #[t]⟩, ty, p, af, gd⟩).vOk = true)
    (next : Tr P g all kd rest ((d, .int .i64 n) :: env) mem Q) : Tr P g all kd ((i, ⟨some d, .call ⟨.builtin .len, #[x], #[t]⟩, ty, p, af, gd⟩) :: rest) env mem Q :=
  .v (n1 x v) (.int .i64 n) (opV_of fun a w hm => by have hg := n1.get hm; have hu := hT.und h1 w; rw [h2] at hu; simp [execOp, resolve, invoke, builtin, Builtin.len_, hg, hu, goInt]) (n1.sat hx) (len_within) (.inl rfl) hd hW hk next

theorem Tr.max2 {a b r : Int} {k : IntKind} (hx : ev env x = some (.int k a)) (hy : ev env y = some (.int k b)) (hr : (if b > a then b else a) = r) (hd : Nat.blt d g.n = true) (hW : Wants all ⟨some d, .call ⟨.builtin .max, #[x, y], #[t, t']⟩, ty, p, af, gd⟩ env) (hk : (kd ⟨some d, .call ⟨.builtin .max, #[x, y], #[t, t']⟩, ty, p, af, gd⟩).vOk = true)
    (next : Tr P g all kd rest ((d, .int k r) :: env) mem Q) : Tr P g all kd ((i, ⟨some d, .call ⟨.builtin .max, #[x, y], #[t, t']⟩, ty, p, af, gd⟩) :: rest) env mem Q :=
  .v (n2 x (.int k a) y (.int k b)) (.int k r) (opV_of fun a w hm => by subst hr; have hg := n2.get hm; simp [execOp, resolve, invoke, builtin, Builtin.max_, Builtin.max2, hg]) (n2.sat hx hy) (n2.within (by simp [Op.operands, Call.operands]) (by simp [Op.operands, Call.operands])) (.inl rfl) hd hW hk next

theorem Tr.indexS (hT : TabOk P T) {cs : List Value} {n e : Nat} {k : IntKind} {ix : Int} {D E : TD} (hx : ev env x = some (.agg cs.toArray)) (hy : ev env y = some (.int k ix)) (h1 : lk t T = some D) (h2 : D.desc = .array n e) (h3 : lk e T = some E) (h4 : E.agg = false) (h5 : E.size = 1) (h6 : 0 ≤ ix) (h7 : ix < n) (hv : cs[ix.toNat]? = some v) (hd : Nat.blt d g.n = true) (hW : Wants all ⟨some d, .index t x y, ty, p, af, gd⟩ env) (hk : (kd ⟨some d, .index t x y, ty, p, af, gd⟩).vOk = true)
    (next : Tr P g all kd rest ((d, v) :: env) mem Q) : Tr P g all kd ((i, ⟨some d, .index t x y, ty, p, af, gd⟩) :: rest) env mem Q :=
  .v (n2 x (.agg cs.toArray) y (.int k ix)) (v) (opV_of fun a w hm => by have hg := n2.get hm; have hu := hT.und h1 w; rw [h2] at hu; have hi := hT.isAgg h3 w; rw [h4] at hi; simp [execOp, Instr.index, hg, asIntOf, hu, h6, h7, hT.sz h3 w, h5, part, hi, hv]) (n2.sat hx hy) (n2.within (by simp [Op.operands]) (by simp [Op.operands])) (.inl rfl) hd hW hk next

theorem Tr.indexStr (hT : TabOk P T) {s : ByteArray} {k : IntKind} {ix : Int} {b : UInt8} {D : TD} (hx : ev env x = some (.string s)) (hy : ev env y = some (.int k ix)) (h1 : lk t T = some D) (h2 : D.desc = .string) (h6 : 0 ≤ ix) (hv : s[ix.toNat]? = some b) (hd : Nat.blt d g.n = true) (hW : Wants all ⟨some d, .index t x y, ty, p, af, gd⟩ env) (hk : (kd ⟨some d, .index t x y, ty, p, af, gd⟩).vOk = true)
    (next : Tr P g all kd rest ((d, .int .u8 b.toNat) :: env) mem Q) : Tr P g all kd ((i, ⟨some d, .index t x y, ty, p, af, gd⟩) :: rest) env mem Q :=
  .v (n2 x (.string s) y (.int k ix)) (.int .u8 b.toNat) (opV_of fun a w hm => by have hg := n2.get hm; have hu := hT.und h1 w; rw [h2] at hu; simp [execOp, Instr.index, hg, asIntOf, hu, h6, hv]) (n2.sat hx hy) (n2.within (by simp [Op.operands]) (by simp [Op.operands])) (.inl rfl) hd hW hk next

theorem Tr.fieldS (hT : TabOk P T) {cs : List Value} {fs : Array Field} {f : Field} {k : Nat} {D E : TD} (hx : ev env x = some (.agg cs.toArray)) (h1 : lk t T = some D) (h2 : D.desc = .struct fs) (h3 : fs[k]? = some f) (h4 : lk f.type T = some E) (h5 : E.agg = false) (hv : cs[f.offset]? = some v) (hd : Nat.blt d g.n = true) (hW : Wants all ⟨some d, .field t x k, ty, p, af, gd⟩ env) (hk : (kd ⟨some d, .field t x k, ty, p, af, gd⟩).vOk = true)
    (next : Tr P g all kd rest ((d, v) :: env) mem Q) : Tr P g all kd ((i, ⟨some d, .field t x k, ty, p, af, gd⟩) :: rest) env mem Q :=
  .v (n1 x (.agg cs.toArray)) (v) (opV_of fun a w hm => by have hg := n1.get hm; have hu := hT.und h1 w; rw [h2] at hu; have hi := hT.isAgg h4 w; rw [h5] at hi; simp [execOp, Instr.field, hg, hu, h3, part, asAgg, hi, hv]) (n1.sat hx) (n1.within (by simp [Op.operands])) (.inl rfl) hd hW hk next

theorem Tr.sliceToArr (hT : TabOk P T) {n e len cap : Nat} {a0 : Option Addr} {D : TD} (hx : ev env x = some (.slice a0 len cap)) (h1 : lk t T = some D) (h2 : D.desc = .array n e) (h3 : n ≤ len) (hd : Nat.blt d g.n = true) (hW : Wants all ⟨some d, .sliceToArrayPointer t x, ty, p, af, gd⟩ env) (hk : (kd ⟨some d, .sliceToArrayPointer t x, ty, p, af, gd⟩).vOk = true)
    (next : Tr P g all kd rest ((d, .pointer a0) :: env) mem Q) : Tr P g all kd ((i, ⟨some d, .sliceToArrayPointer t x, ty, p, af, gd⟩) :: rest) env mem Q :=
  .v (n1 x (.slice a0 len cap)) (.pointer a0) (opV_of fun a w hm => by have hg := n1.get hm; have hu := hT.und h1 w; rw [h2] at hu; have h3' : ¬ len < n := (by omega); simp [execOp, Instr.arrayAt, hg, hu, h3']) (n1.sat hx) (n1.within (by simp [Op.operands])) (.inl rfl) hd hW hk next

end

/-! ### a loop, round by round -/
def WpL (P : Program) (g : Gh) (c : Code) (Q : Exit → Env → Mem → Prop) (env : Env) (mem : Mem) : Prop :=
  ∀ a w, EH g env a → MH g mem w → ∀ (b : Frame) (k : List Item) (cs : List Frame), ∃ e a' w', (∃ env' mem', EH g env' a' ∧ MH g mem' w' ∧ Q e env' mem') ∧
    Arrives P (lone (b.at a (.code c :: .inLoop c :: k)) cs w) b k cs e a' w'

def lp (P : Program) (g : Gh) (c : Code) (Q : Exit → Env → Mem → Prop) : Exit → Env → Mem → Prop
  | .normal, env, mem => WpL P g c Q env mem
  | e, env, mem => Q e env mem

section
variable {P : Program} {g : Gh} {env : Env} {mem : Mem} {Q : Exit → Env → Mem → Prop} {c : Code}
theorem Wp.loopL (h : WpL P g c Q env mem) : Wp P g (.loop c) Q env mem := by
  intro a w ha hw b k cs
  obtain ⟨e, a', w', hq, harr⟩ := h a w ha hw b k cs
  exact ⟨e, a', w', hq, .of_steps (.one step_loop) harr⟩

theorem WpL.step (h : Wp P g c (lp P g c Q) env mem) : WpL P g c Q env mem := by
  intro a w ha hw b k cs
  obtain ⟨e, a₁, w₁, ⟨env', mem', x1, x2, x3⟩, harr⟩ := h a w ha hw b (.inLoop c :: k) cs
  cases e with
  | normal =>
    obtain ⟨e₂, a₂, w₂, hq₂, harr₂⟩ := x3 a₁ w₁ x1 x2 b k cs
    exact ⟨e₂, a₂, w₂, hq₂, .of_steps (Steps.trans harr (.one step_inLoop)) harr₂⟩
  | exit id => exact ⟨_, a₁, w₁, ⟨env', mem', x1, x2, x3⟩, .pass (x := .inLoop c) rfl (fun _ _ => .inl (by simp)) harr⟩
  | goto l => exact ⟨_, a₁, w₁, ⟨env', mem', x1, x2, x3⟩, .pass (x := .inLoop c) rfl (fun _ _ => .inl (by simp)) harr⟩
  | ret => exact ⟨_, a₁, w₁, ⟨env', mem', x1, x2, x3⟩, .pass (x := .inLoop c) rfl (fun _ _ => .inl (by simp)) harr⟩
  | panic ch => exact ⟨_, a₁, w₁, ⟨env', mem', x1, x2, x3⟩, .pass (x := .inLoop c) rfl (fun _ _ => .inl (by simp)) harr⟩
  | outgrown => exact ⟨_, a₁, w₁, ⟨env', mem', x1, x2, x3⟩, .pass (x := .inLoop c) rfl (fun _ _ => .inl (by simp)) harr⟩

theorem WpL.weak {env' : Env} {mem' : Mem} (h : WpL P g c Q env' mem') (hk : Wk g env mem env' mem') : WpL P g c Q env mem :=
  fun _ _ ha hw => h _ _ (hk.1 _ ha) (hk.2 _ hw)
end

section
variable {P : Program} {g : Gh} {env : Env} {mem : Mem} {Q : Exit → Env → Mem → Prop} {c : Code}
theorem WpL.mono {Q' : Exit → Env → Mem → Prop} (h : WpL P g c Q' env mem) (hq : ∀ e env mem, Q' e env mem → Q e env mem) : WpL P g c Q env mem :=
  fun a w ha hw b k cs => let ⟨e, a', w', ⟨env', mem', x1, x2, x3⟩, r⟩ := h a w ha hw b k cs; ⟨e, a', w', ⟨env', mem', x1, x2, hq _ _ _ x3⟩, r⟩

/-- a loop by a lemma of its own -/
theorem Wp.loopQ {Q' : Exit → Env → Mem → Prop} {E : Env} {M : Mem} (h : WpL P g c Q' E M) (hk : Wk g env mem E M) (hq : ∀ e env mem, Q' e env mem → Q e env mem) : Wp P g (.loop c) Q env mem :=
  .loopL ((h.weak hk).mono hq)
end

attribute [irreducible] shlv shrv andv orv xorv
end Go.Proofs.Ytffghaeaohabhaa.AW
