/-
  More rules of the abstract walk: slices, append, make, copy, strings, comparisons of aggregates.
-/
import Derived.Test.YtffghaeaohabhaaOp
namespace Go.Proofs.Ytffghaeaohabhaa.AW
open Go Go.RowKit

section
variable {P : Program} {g : Gh} {all : Array Oper} {kd : Oper → K} {i : Nat} {o : Oper} {rest : List (Nat × Oper)} {env : Env} {mem : Mem} {Q : Env → Mem → Prop}
variable {T : List (Nat × TD)} {d ty : Nat} {p : String} {af : Array Edge} {gd : Option (Nat × Bool)} {x y z : Operand} {v u : Value} {t t' : Nat}

theorem TabOk.by' (hT : TabOk P T) {t : Nat} {d : TD} (h : lk t T = some d) (w : World) : ∃ ti, (typeInfo t).run P w = .ok ti w ∧ ti.bytes = d.bytes := by
  obtain ⟨i, h1, h2, h3, _⟩ := (hT t d h).2
  exact ⟨i, by simp [typeInfo, h1], h3⟩

theorem bytes_i64 {n : Int} (h : 0 ≤ n) (h' : n ≤ 9223372036854775807) : IntKind.i64.wrap n = n := wrap_i64 (by omega) (by omega)

/-! ### make -/
theorem Tr.makeSlice (hT : TabOk P T) {e : Nat} {k k' : IntKind} {n c : Int} {D : TD} {ds : TypeDesc} {bs : Nat} {z0 : Value}
    (hx : ev env x = some (.int k n)) (hy : ev env y = some (.int k' c)) (h1 : lk t T = some D) (h2 : D.desc = .slice e) (h3 : lk e T = some ⟨ds, 1, bs, [z0]⟩)
    (h4 : 0 ≤ n) (h5 : n ≤ c) (h6 : bs * c ≤ 281474976710656) (h7 : c ≤ 281474976710656)
    (hd : Nat.blt d g.n = true) (hW : Wants all ⟨some d, .makeSlice t x y, ty, p, af, gd⟩ env) (hk : (kd ⟨some d, .makeSlice t x y, ty, p, af, gd⟩).bOk = true)
    (next : ∀ b, g.w0.heap.size ≤ b → Tr P g all kd rest ((d, .slice (some ⟨b, 0, none⟩) n.toNat c.toNat) :: env) (⟨b, List.replicate c.toNat z0, true⟩ :: mem) Q) :
    Tr P g all kd ((i, ⟨some d, .makeSlice t x y, ty, p, af, gd⟩) :: rest) env mem Q := by
  refine .b (n2 x (.int k n) y (.int k' c)) (fun b => .slice (some ⟨b, 0, none⟩) n.toNat c.toNat) (List.replicate c.toNat z0) (fun a w hm => ⟨e, ?_⟩) (n2.sat hx hy) (n2.within (by simp [Op.operands]) (by simp [Op.operands])) rfl hd hW hk next
  have hg := n2.get hm
  have hu := hT.und h1 w
  rw [h2] at hu
  obtain ⟨ti, ht1, ht2⟩ := hT.by' h3 w
  obtain ⟨zv, hz1, hz2⟩ := hT.zv h3
  have ht2' : ti.bytes = bs := ht2
  have hz : zv.cells = #[z0] := by
    have : zv.cells.toList = [z0] := hz1
    rw [← Array.toArray_toList (xs := zv.cells), this]
  have w1 : IntKind.i64.wrap n = n := wrap_i64 (by omega) (by omega)
  have w2 : IntKind.i64.wrap c = c := wrap_i64 (by omega) (by omega)
  have e1 : ¬ (c < 0) := by omega
  have e2 : ¬ ((bs : Int) * c > 2 ^ 48) := by have : (2 : Int) ^ 48 = 281474976710656 := by decide
                                              omega
  have e3 : ¬ n < 0 := by omega
  have e4 : ¬ n > c := by omega
  have hs := hT.sz h3 w
  have hs' : (sizeOf e).run P w = .ok 1 w := hs
  have hcells : (Array.range (c.toNat * 1)).map (fun k => zv.cells[k % zv.cells.size]!) = (List.replicate c.toNat z0).toArray := by
    rw [hz]
    apply Array.ext'
    simp only [Nat.mul_one, Array.toList_map, Array.toList_range]
    apply List.ext_getElem
    · simp
    · intro k h1 h2; simp [Nat.mod_one]
  simp only [execOp, Instr.makeSlice, Sem.run_bind, hu, Result.andThen_ok, hg.1, hg.2, asInt, asIntOf, Sem.run_pure, ht1, w1, w2, ht2']
  rw [if_neg (by simp only [Bool.or_eq_true, decide_eq_true_eq]; omega)]
  simp only [Sem.run_bind, run_askRoom, Result.andThen_ok, hs']
  by_cases h0 : c.toNat * 1 = 0
  · have hc0 : c.toNat = 0 := by omega
    rw [if_pos h0]
    have ha0 : (Array.range (c.toNat * 1)).map (fun k => (#[] : Array Value)[k % (#[] : Array Value).size]!) = (#[] : Array Value) := by rw [h0]; simp
    simp only [Sem.run_bind, Sem.run_pure, Result.andThen_ok, ha0]
    simp [hc0, newRow]
  · rw [if_neg h0]
    simp only [Sem.run_bind, Sem.run_pure, Result.andThen_ok, hz2, hcells]
    simp [newRow]

/-! ### slices of slices -/
theorem slice_within {x : Operand} {lo hi mx : Option Operand} {l : List (Operand × Value)} {t : Nat} {dst : Option Nat} (h : ∀ q, q ∈ l → q.1 = x ∨ lo = some q.1 ∨ hi = some q.1 ∨ mx = some q.1) :
    (⟨l, []⟩ : Need).within ⟨dst, .slice t x lo hi mx, ty, p, af, gd⟩ := by
  intro q hq t' ht
  rw [← ht]
  rcases h q hq with h | h | h | h <;> simp [Op.operands, h]

/-- s[lo:hi] -/
theorem Tr.sliceLH (hT : TabOk P T) {e b off len cap : Nat} {k k' : IntKind} {lo hi : Int} {ol oh : Operand} {D : TD} {ds : TypeDesc} {bs : Nat} {z0 : List Value}
    (hx : ev env x = some (.slice (some ⟨b, off, none⟩) len cap)) (hl : ev env ol = some (.int k lo)) (hh : ev env oh = some (.int k' hi)) (h1 : lk t T = some D) (h2 : D.desc = .slice e) (h3 : lk e T = some ⟨ds, 1, bs, z0⟩)
    (h4 : 0 ≤ lo) (h5 : lo ≤ hi) (h6 : hi ≤ cap) {off' : Nat} (h7 : (if cap = lo.toNat then off else off + lo.toNat) = off')
    (hd : Nat.blt d g.n = true) (hW : Wants all ⟨some d, .slice t x (some ol) (some oh) none, ty, p, af, gd⟩ env) (hk : (kd ⟨some d, .slice t x (some ol) (some oh) none, ty, p, af, gd⟩).vOk = true)
    (next : Tr P g all kd rest ((d, .slice (some ⟨b, off', none⟩) (hi.toNat - lo.toNat) (cap - lo.toNat)) :: env) mem Q) :
    Tr P g all kd ((i, ⟨some d, .slice t x (some ol) (some oh) none, ty, p, af, gd⟩) :: rest) env mem Q := by
  subst h7
  refine .v ⟨[(x, .slice (some ⟨b, off, none⟩) len cap), (ol, .int k lo), (oh, .int k' hi)], []⟩ _ (opV_of fun a w hm => ?_) ⟨by simp [hx, hl, hh], by simp⟩ (slice_within (by simp)) (.inl rfl) hd hW hk next
  have g1 : a.eval x = _ := hm.1 (x, .slice (some ⟨b, off, none⟩) len cap) (by simp)
  have g2 : a.eval ol = _ := hm.1 (ol, .int k lo) (by simp)
  have g3 : a.eval oh = _ := hm.1 (oh, .int k' hi) (by simp)
  have hu := hT.und h1 w
  rw [h2] at hu
  have hs : (sizeOf e).run P w = .ok 1 w := hT.sz h3 w
  have e1 : 0 ≤ hi ∧ hi ≤ (cap : Int) := by omega
  have e2 : 0 ≤ lo ∧ lo ≤ (hi.toNat : Int) := by omega
  simp only [execOp, Option.map_some, Option.map_none, Sem.run_bind, Instr.sliceAt, hu, Result.andThen_ok, Instr.slice, g1, g2, g3, Instr.sliceBounds, Instr.sliceBound, asIntOf, Sem.run_pure, e1, e2, and_self, if_true, Option.isSome_none]
  by_cases hc : cap = lo.toNat
  · simp [hc, e2, hs]
  · simp [hc, e2, hs, addr_add]

/-- s[lo:] -/
theorem Tr.sliceL (hT : TabOk P T) {e b off len cap : Nat} {k : IntKind} {lo : Int} {ol : Operand} {D : TD} {ds : TypeDesc} {bs : Nat} {z0 : List Value}
    (hx : ev env x = some (.slice (some ⟨b, off, none⟩) len cap)) (hl : ev env ol = some (.int k lo)) (h1 : lk t T = some D) (h2 : D.desc = .slice e) (h3 : lk e T = some ⟨ds, 1, bs, z0⟩)
    (h4 : 0 ≤ lo) (h5 : lo ≤ len) {off' : Nat} (h7 : (if cap = lo.toNat then off else off + lo.toNat) = off')
    (hd : Nat.blt d g.n = true) (hW : Wants all ⟨some d, .slice t x (some ol) none none, ty, p, af, gd⟩ env) (hk : (kd ⟨some d, .slice t x (some ol) none none, ty, p, af, gd⟩).vOk = true)
    (next : Tr P g all kd rest ((d, .slice (some ⟨b, off', none⟩) (len - lo.toNat) (cap - lo.toNat)) :: env) mem Q) :
    Tr P g all kd ((i, ⟨some d, .slice t x (some ol) none none, ty, p, af, gd⟩) :: rest) env mem Q := by
  subst h7
  refine .v ⟨[(x, .slice (some ⟨b, off, none⟩) len cap), (ol, .int k lo)], []⟩ _ (opV_of fun a w hm => ?_) ⟨by simp [hx, hl], by simp⟩ (slice_within (by simp)) (.inl rfl) hd hW hk next
  have g1 : a.eval x = _ := hm.1 (x, .slice (some ⟨b, off, none⟩) len cap) (by simp)
  have g2 : a.eval ol = _ := hm.1 (ol, .int k lo) (by simp)
  have hu := hT.und h1 w
  rw [h2] at hu
  have hs : (sizeOf e).run P w = .ok 1 w := hT.sz h3 w
  have e2 : 0 ≤ lo ∧ lo ≤ (len : Int) := by omega
  simp only [execOp, Option.map_some, Option.map_none, Sem.run_bind, Instr.sliceAt, hu, Result.andThen_ok, Instr.slice, g1, g2, Instr.sliceBounds, Instr.sliceBound, asIntOf, Sem.run_pure, e2, and_self, if_true, Option.isSome_none]
  by_cases hc : cap = lo.toNat
  · simp [hc, e2, hs]
  · simp [hc, e2, hs, addr_add]

/-- s[:hi] -/
theorem Tr.sliceH (hT : TabOk P T) {e b off len cap : Nat} {k' : IntKind} {hi : Int} {oh : Operand} {D : TD} {ds : TypeDesc} {bs : Nat} {z0 : List Value}
    (hx : ev env x = some (.slice (some ⟨b, off, none⟩) len cap)) (hh : ev env oh = some (.int k' hi)) (h1 : lk t T = some D) (h2 : D.desc = .slice e) (h3 : lk e T = some ⟨ds, 1, bs, z0⟩)
    (h4 : 0 ≤ hi) (h6 : hi ≤ cap)
    (hd : Nat.blt d g.n = true) (hW : Wants all ⟨some d, .slice t x none (some oh) none, ty, p, af, gd⟩ env) (hk : (kd ⟨some d, .slice t x none (some oh) none, ty, p, af, gd⟩).vOk = true)
    (next : Tr P g all kd rest ((d, .slice (some ⟨b, off, none⟩) hi.toNat cap) :: env) mem Q) :
    Tr P g all kd ((i, ⟨some d, .slice t x none (some oh) none, ty, p, af, gd⟩) :: rest) env mem Q := by
  refine .v ⟨[(x, .slice (some ⟨b, off, none⟩) len cap), (oh, .int k' hi)], []⟩ _ (opV_of fun a w hm => ?_) ⟨by simp [hx, hh], by simp⟩ (slice_within (by simp)) (.inl rfl) hd hW hk next
  have g1 : a.eval x = _ := hm.1 (x, .slice (some ⟨b, off, none⟩) len cap) (by simp)
  have g2 : a.eval oh = _ := hm.1 (oh, .int k' hi) (by simp)
  have hu := hT.und h1 w
  rw [h2] at hu
  have hs : (sizeOf e).run P w = .ok 1 w := hT.sz h3 w
  have e2 : 0 ≤ hi ∧ hi ≤ (cap : Int) := by omega
  simp only [execOp, Option.map_some, Option.map_none, Sem.run_bind, Instr.sliceAt, hu, Result.andThen_ok, Instr.slice, g1, g2, Instr.sliceBounds, Instr.sliceBound, asIntOf, Sem.run_pure, e2, and_self, if_true]
  by_cases hc : cap = 0
  · simp [hc, hs]
  · simp [hc, hs, Addr.add]

/-- s[:hi:mx] -/
theorem Tr.sliceHM (hT : TabOk P T) {e b off len cap : Nat} {k k' : IntKind} {hi mx : Int} {oh om : Operand} {D : TD} {ds : TypeDesc} {bs : Nat} {z0 : List Value}
    (hx : ev env x = some (.slice (some ⟨b, off, none⟩) len cap)) (hh : ev env oh = some (.int k' hi)) (hm : ev env om = some (.int k mx)) (h1 : lk t T = some D) (h2 : D.desc = .slice e) (h3 : lk e T = some ⟨ds, 1, bs, z0⟩)
    (h4 : 0 ≤ hi) (h5 : hi ≤ mx) (h6 : mx ≤ cap)
    (hd : Nat.blt d g.n = true) (hW : Wants all ⟨some d, .slice t x none (some oh) (some om), ty, p, af, gd⟩ env) (hk : (kd ⟨some d, .slice t x none (some oh) (some om), ty, p, af, gd⟩).vOk = true)
    (next : Tr P g all kd rest ((d, .slice (some ⟨b, off, none⟩) hi.toNat mx.toNat) :: env) mem Q) :
    Tr P g all kd ((i, ⟨some d, .slice t x none (some oh) (some om), ty, p, af, gd⟩) :: rest) env mem Q := by
  refine .v ⟨[(x, .slice (some ⟨b, off, none⟩) len cap), (oh, .int k' hi), (om, .int k mx)], []⟩ _ (opV_of fun a w hm' => ?_) ⟨by simp [hx, hh, hm], by simp⟩ (slice_within (by simp)) (.inl rfl) hd hW hk next
  have g1 : a.eval x = _ := hm'.1 (x, .slice (some ⟨b, off, none⟩) len cap) (by simp)
  have g2 : a.eval oh = _ := hm'.1 (oh, .int k' hi) (by simp)
  have g3 : a.eval om = _ := hm'.1 (om, .int k mx) (by simp)
  have hu := hT.und h1 w
  rw [h2] at hu
  have hs : (sizeOf e).run P w = .ok 1 w := hT.sz h3 w
  have e1 : 0 ≤ mx ∧ mx ≤ (cap : Int) := by omega
  have e2 : 0 ≤ hi ∧ hi ≤ (mx.toNat : Int) := by omega
  simp only [execOp, Option.map_some, Option.map_none, Sem.run_bind, Instr.sliceAt, hu, Result.andThen_ok, Instr.slice, g1, g2, g3, Instr.sliceBounds, Instr.sliceBound, asIntOf, Sem.run_pure, e1, e2, and_self, if_true]
  by_cases hc : mx.toNat = 0
  · simp [hc, hs]
  · simp [hc, hs, Addr.add]

/-- a[:], a an array behind a pointer -/
theorem Tr.sliceArr (hT : TabOk P T) {n e b off : Nat} {D : TD} (hx : ev env x = some (.pointer (some ⟨b, off, none⟩))) (h1 : lk t T = some D) (h2 : D.desc = .array n e)
    {E : TD} (h3 : lk e T = some E)
    (hd : Nat.blt d g.n = true) (hW : Wants all ⟨some d, .slice t x none none none, ty, p, af, gd⟩ env) (hk : (kd ⟨some d, .slice t x none none none, ty, p, af, gd⟩).vOk = true)
    (next : Tr P g all kd rest ((d, .slice (some ⟨b, off, none⟩) n n) :: env) mem Q) :
    Tr P g all kd ((i, ⟨some d, .slice t x none none none, ty, p, af, gd⟩) :: rest) env mem Q := by
  refine .v ⟨[(x, .pointer (some ⟨b, off, none⟩))], []⟩ _ (opV_of fun a w hm' => ?_) ⟨by simp [hx], by simp⟩ (slice_within (by simp)) (.inl rfl) hd hW hk next
  have g1 : a.eval x = _ := hm'.1 (x, .pointer (some ⟨b, off, none⟩)) (by simp)
  have hu := hT.und h1 w
  rw [h2] at hu
  have hs := hT.sz h3 w
  simp only [execOp, Option.map_some, Option.map_none, Sem.run_bind, Instr.sliceAt, hu, Result.andThen_ok, g1, Instr.sureAddr, Instr.sliceBounds, Instr.sliceBound, asIntOf, Sem.run_pure]
  by_cases hc : n = 0
  · simp [hc, hs]
  · simp [hc, hs, Addr.add]

/-! ### append -/
/-- a slice or a string whose elements are m -/
def SrcOf (mem : Mem) (v : Value) (m : List Value) : Prop :=
  (∃ a0 cp, v = .slice a0 0 cp ∧ m = []) ∨ (∃ b off c rw cp, v = .slice (some ⟨b, off, none⟩) m.length cp ∧ (⟨b, c, rw⟩ : Ent) ∈ mem ∧ At c off m) ∨
  (∃ s : ByteArray, v = .string s ∧ m = s.data.toList.map fun x => Value.int .u8 x.toNat)

theorem SrcOf.nil {mem : Mem} : SrcOf mem (.slice none 0 0) [] := .inl ⟨none, 0, rfl, rfl⟩
theorem SrcOf.row {mem : Mem} {b off cp n : Nat} {c m : List Value} {rw : Bool} (h : (⟨b, c, rw⟩ : Ent) ∈ mem) (hc : At c off m) (hn : m.length = n) : SrcOf mem (.slice (some ⟨b, off, none⟩) n cp) m :=
  .inr (.inl ⟨b, off, c, rw, cp, by rw [hn], h, hc⟩)

theorem SrcOf.len {m : List Value} {w : World} (h : SrcOf mem v m) : (Builtin.lenOf v).run P w = .ok m.length w := by
  rcases h with ⟨a0, cp, rfl, rfl⟩ | ⟨b, off, c, rw, cp, rfl, _, _⟩ | ⟨s, rfl, rfl⟩
  · simp [Builtin.lenOf]
  · simp [Builtin.lenOf]
  · simp [Builtin.lenOf]

theorem SrcOf.cells {m : List Value} {w : World} (h : SrcOf mem v m) (hw : MH g mem w) : (Builtin.firstCells 1 m.length v).run P w = .ok m.toArray w := by
  rcases h with ⟨a0, cp, rfl, rfl⟩ | ⟨b, off, c, rw, cp, rfl, h1, h2⟩ | ⟨s, rfl, rfl⟩
  · cases a0 with
    | none => simp [Builtin.firstCells]
    | some a => simp [Builtin.firstCells]; exact run_loadCells_list w a [] (by simp)
  · simp only [Builtin.firstCells, Nat.mul_one]
    exact (hw.mem _ h1).loadCells h2
  · have hl : (s.data.toList.map fun x => Value.int .u8 x.toNat).length = s.size := by simp
    have hs : s.extract 0 s.size = s := by simp
    rw [hl]
    simp only [Builtin.firstCells, hs, Sem.run_pure]
    congr 1
    apply Array.ext'
    simp

theorem growBy_le (n : Nat) : ∀ (r c : Nat), c ≤ 2 * n + 768 → Builtin.growBy n r c ≤ 2 * n + 768
  | 0, c, h => h
  | r + 1, c, h => by
    simp only [Builtin.growBy]
    split
    · exact h
    · exact growBy_le n r _ (by omega)

theorem nextcap_le (n c : Nat) (h : c < n) : Builtin.nextslicecap n c ≤ 2 * n + 768 := by
  unfold Builtin.nextslicecap
  split
  · omega
  · split
    · omega
    · exact growBy_le n 4 c (by omega)

theorem zeroCells_one (z : Value) (n : Nat) : Builtin.zeroCells #[z] n = (List.replicate n z).toArray := by
  apply Array.ext'
  unfold Builtin.zeroCells
  simp only [Array.toList_map, Array.toList_range]
  apply List.ext_getElem
  · simp
  · intro k h1 h2; simp [Nat.mod_one]

theorem append_run (hT : TabOk P T) {e t2 : Nat} {D D2 : TD} {ds : TypeDesc} {bs : Nat} {z0 : Value} {m l : List Value} {base : Option Addr} {cp : Nat} {w : World} {y : Value}
    (h1 : lk t T = some D) (h2 : D.desc = .slice e) (h3 : lk e T = some ⟨ds, 1, bs, [z0]⟩) (h4 : lk t2 T = some D2) (h5 : ∀ k, D2.desc ≠ .int k)
    (hm : SrcOf mem y m) (hw : MH g mem w) (hold : ∀ n, (Builtin.firstCells 1 l.length (.slice base l.length cp)).run P { w with drawn := n } = .ok l.toArray { w with drawn := n })
    (hb : (2 * (l.length + m.length) + 768) * bs ≤ 281474976710656) (hb2 : l.length + m.length ≤ 1099511627776) :
    (Builtin.append_ #[t, t2] ty #[.slice base l.length cp, y]).run P w =
      if l.length + m.length ≤ cp then
        ((match base with | some a => storeCells (a.add l.length) m | none => pure ()).run P w).andThen fun _ w' => .ok (.slice base (l.length + m.length) cp) w'
      else
        let nc := (l.length + m.length) + w.tape w.drawn (.appendCap (l.length + m.length) cp e) % (2 ^ 63 - (l.length + m.length))
        .ok (.slice (some ⟨w.heap.size, 0, none⟩) (l.length + m.length) nc) (({ w with drawn := w.drawn + 1 } : World).alloc (.cells (l ++ m ++ List.replicate (nc - (l.length + m.length)) z0).toArray e (0, 0))) := by
  have hu := hT.und h1 w
  rw [h2] at hu
  have hu2 := hT.und h4 w
  have hs : (sizeOf e).run P w = .ok 1 w := hT.sz h3 w
  obtain ⟨ti, ht1, ht2⟩ := hT.by' h3 w
  have ht2' : ti.bytes = bs := ht2
  have hz2 : ∀ w, ∃ zv, (zeroValue e).run P w = .ok zv w ∧ zv.cells = #[z0] := by
    intro w
    obtain ⟨zv, q1, q2⟩ := hT.zv h3
    refine ⟨zv, q2 w, ?_⟩
    have : zv.cells.toList = [z0] := q1
    rw [← Array.toArray_toList (xs := zv.cells), this]
  have hlen : (Builtin.lenOf y).run P w = .ok m.length w := hm.len
  have hcl := hm.cells (P := P) hw
  have hz : (match D2.desc with | .int _ => true | _ => false) = false := by
    cases hd : D2.desc <;> first | rfl | (exact absurd hd (h5 _))
  unfold Builtin.append_
  simp only [List.getElem?_toArray, List.getElem?_cons_zero, List.getElem?_cons_succ, Sem.run_bind, hu, Result.andThen_ok, hs, hu2, Sem.run_pure]
  rw [if_neg (by decide)]
  simp only [Sem.run_bind, hlen, Result.andThen_ok, Nat.mul_one, Bool.not_false, if_true]
  by_cases hc : l.length + m.length ≤ cp
  · rw [if_pos hc, if_pos hc]
    simp only [Sem.run_bind, hcl, Result.andThen_ok]
    cases base with
    | none => simp
    | some a => simp
  · rw [if_neg hc, if_neg hc]
    have hn1 : ¬ (((l.length + m.length : Nat) : Int) > IntKind.i64.max ∧ (false = true ∨ ti.bytes = 0)) := by
      rintro ⟨h, _⟩
      have : IntKind.i64.max = 9223372036854775807 := by decide
      omega
    have hn2 : ¬ Builtin.nextslicecap (l.length + m.length) cp * ti.bytes > 2 ^ 48 := by
      have h1 := nextcap_le (l.length + m.length) cp (by omega)
      have h2 := Nat.mul_le_mul_right bs h1
      rw [ht2']
      have : (2 : Nat) ^ 48 = 281474976710656 := by decide
      omega
    simp only [Sem.run_bind, ht1, Result.andThen_ok]
    rw [if_neg hn1]
    simp only [Sem.run_bind, ht1, Result.andThen_ok]
    rw [if_neg hn2]
    have hw1 := hw.ext (below_drawn w (w.drawn + 1))
    have hcl1 := hm.cells (P := P) hw1
    obtain ⟨ti1, ht3, _⟩ := hT.by' h3 ({ w with drawn := w.drawn + 1 } : World)
    obtain ⟨zv, hz3, hz4⟩ := hz2 ({ w with drawn := w.drawn + 1 } : World)
    simp only [Sem.run_bind, run_choose, Question.forced, Bool.false_eq_true, if_false, Question.cut, Result.andThen_ok, ht3, run_askRoom, hold, hcl1, hz3, hz4, zeroCells_one, Sem.run_pure, newRow, run_newObj]
    have hcat : ∀ k : Nat, ((l ++ m).toArray ++ Array.replicate k z0) = (l ++ (m ++ List.replicate k z0)).toArray := fun k => by
      apply Array.ext'; simp
    simp [hcat]
    rfl

def appended (d : Nat) (env : Env) (memR : Mem) (l : List Value) (env' : Env) (mem' : Mem) : Prop :=
  ∃ (b : Nat) (pre sp : List Value), env' = (d, .slice (some ⟨b, pre.length, none⟩) l.length (l.length + sp.length)) :: env ∧ mem' = ⟨b, pre ++ l ++ sp, true⟩ :: memR

theorem MH.tail {e : Ent} {m : Mem} {w : World} (h : MH g (e :: m) w) : MH g m w :=
  ⟨fun x hx => h.mem x (.tail _ hx), (List.pairwise_cons.1 h.sep).2, fun x hx => h.own x (.tail _ hx), h.fr⟩

/-- onto a slice of the call's own -/
theorem Tr.appendO (hT : TabOk P T) {e b0 cp ln off0 : Nat} {D D2 : TD} {ds : TypeDesc} {bs : Nat} {z0 : Value} {m l pre0 sp0 c0 : List Value} {memR : Mem}
    (hx : ev env x = some (.slice (some ⟨b0, off0, none⟩) ln cp)) (hp : Pick ⟨b0, c0, true⟩ mem memR) (hc0 : c0 = pre0 ++ l ++ sp0) (hoff : pre0.length = off0) (hln : l.length = ln) (hcp : cp = ln + sp0.length)
    (hy : ev env y = some v) (hm : SrcOf mem v m) (hone : m.all Value.oneCell' = true)
    (h1 : lk t T = some D) (h2 : D.desc = .slice e) (h3 : lk e T = some ⟨ds, 1, bs, [z0]⟩) (h4 : lk t' T = some D2) (h5 : ∀ k, D2.desc ≠ .int k)
    (hb : (2 * (l.length + m.length) + 768) * bs ≤ 281474976710656) (hb2 : l.length + m.length ≤ 1099511627776)
    (hd : Nat.blt d g.n = true) (hW : Wants all ⟨some d, .call ⟨.builtin .append, #[x, y], #[t, t']⟩, ty, p, af, gd⟩ env) (hk : (kd ⟨some d, .call ⟨.builtin .append, #[x, y], #[t, t']⟩, ty, p, af, gd⟩).gOk = true)
    (next : ∀ (b : Nat) (pre sp : List Value), Tr P g all kd rest ((d, .slice (some ⟨b, pre.length, none⟩) (l.length + m.length) ((l.length + m.length) + sp.length)) :: env) (⟨b, pre ++ (l ++ m) ++ sp, true⟩ :: memR) Q) :
    Tr P g all kd ((i, ⟨some d, .call ⟨.builtin .append, #[x, y], #[t, t']⟩, ty, p, af, gd⟩) :: rest) env mem Q := by
  subst hc0 hoff hln hcp
  refine .gen (appended d env memR (l ++ m)) (fun a w ha hw => ?_) hW (by revert hk; generalize kd _ = k; cases k <;> simp [K.gOk]) ?_
  · have hw' := hw.perm hp.perm.symm
    have hbase : ∀ n, (Builtin.firstCells 1 l.length (.slice (some ⟨b0, pre0.length, none⟩) l.length (l.length + sp0.length))).run P { w with drawn := n } = .ok l.toArray { w with drawn := n } := fun n => by
      have hw1 := hw'.ext (below_drawn w n)
      simp only [Builtin.firstCells, Nat.mul_one]
      exact (hw1.mem _ (.head _)).loadCells ⟨pre0, sp0, rfl, rfl⟩
    have hrun := append_run (P := P) (ty := ty) hT h1 h2 h3 h4 h5 hm hw hbase hb hb2
    have g1 := ha.ev hx
    have g2 := ha.ev hy
    have hex : (execOp a.eval ⟨some d, .call ⟨.builtin .append, #[x, y], #[t, t']⟩, ty, p, af, gd⟩).run P w = ((Builtin.append_ #[t, t'] ty #[.slice (some ⟨b0, pre0.length, none⟩) l.length (l.length + sp0.length), v]).run P w).andThen fun u w' => .ok (.value u) w' := by
      simp [execOp, resolve, invoke, builtin, g1, g2]
    unfold Oper.wp
    rw [hex, hrun]
    have hdl : ∀ q, (some d : Option Nat) = some q → q < g.n := by rintro q ⟨⟩; simpa using hd
    by_cases hc : l.length + m.length ≤ l.length + sp0.length
    · rw [if_pos hc]
      have he := hw'.mem _ (.head _)
      obtain ⟨w', r1, r2, r3⟩ := run_storeCellsL (P := P) m ⟨b0, pre0 ++ l ++ sp0, true⟩ w (pre0.length + l.length) 0 he hone (by simp; omega) rfl
      simp only [addr_add, r1, Result.andThen_ok, Oper.upon]
      refine ⟨_, _, ha.put (some d) _ hdl, ?_, b0, pre0, sp0.drop m.length, ?_, rfl⟩
      · refine MH.wr (l1 := []) (c := pre0 ++ l ++ sp0) hw' r2 ?_
        have e1 : (pre0 ++ l ++ sp0).take (pre0.length + l.length + 0) = pre0 ++ l := by
          rw [Nat.add_zero, List.take_append_of_le_length (by simp)]
          rw [List.take_of_length_le (by simp)]
        have e2 : (pre0 ++ l ++ sp0).drop (pre0.length + l.length + 0 + m.length) = sp0.drop m.length := by
          rw [List.drop_append, List.drop_of_length_le (by simp)]
          simp
        rw [e1, e2] at r3
        simpa using r3
      · simp only [putE, List.length_append, List.length_drop]
        congr 3
        omega
    · rw [if_neg hc]
      simp only [Result.andThen_ok, Oper.upon]
      generalize w.tape w.drawn _ % _ = k0
      rw [Nat.add_sub_cancel_left]
      have hw1 := (hw'.tail).ext (below_drawn w (w.drawn + 1))
      refine ⟨_, _, ha.put (some d) _ hdl, hw1.alloc (l ++ m ++ List.replicate k0 z0) e, w.heap.size, [], List.replicate k0 z0, ?_, by simp⟩
      simp only [putE, List.length_append, List.length_replicate, List.length_nil]
  · rintro env' mem' ⟨b, pre, sp, rfl, rfl⟩
    have := next b pre sp
    simpa using this

/-- onto nil: a new row -/
theorem Tr.appendN (hT : TabOk P T) {e : Nat} {D D2 : TD} {ds : TypeDesc} {bs : Nat} {z0 : Value} {m : List Value}
    (hx : ev env x = some (.slice none 0 0)) (hy : ev env y = some v) (hm : SrcOf mem v m) (hne : 0 < m.length)
    (h1 : lk t T = some D) (h2 : D.desc = .slice e) (h3 : lk e T = some ⟨ds, 1, bs, [z0]⟩) (h4 : lk t' T = some D2) (h5 : ∀ k, D2.desc ≠ .int k)
    (hb : (2 * m.length + 768) * bs ≤ 281474976710656) (hb2 : m.length ≤ 1099511627776)
    (hd : Nat.blt d g.n = true) (hW : Wants all ⟨some d, .call ⟨.builtin .append, #[x, y], #[t, t']⟩, ty, p, af, gd⟩ env) (hk : (kd ⟨some d, .call ⟨.builtin .append, #[x, y], #[t, t']⟩, ty, p, af, gd⟩).gOk = true)
    (next : ∀ (b : Nat) (pre sp : List Value), Tr P g all kd rest ((d, .slice (some ⟨b, pre.length, none⟩) m.length (m.length + sp.length)) :: env) (⟨b, pre ++ m ++ sp, true⟩ :: mem) Q) :
    Tr P g all kd ((i, ⟨some d, .call ⟨.builtin .append, #[x, y], #[t, t']⟩, ty, p, af, gd⟩) :: rest) env mem Q := by
  refine .gen (appended d env mem m) (fun a w ha hw => ?_) hW (by revert hk; generalize kd _ = k; cases k <;> simp [K.gOk]) ?_
  · have hbase : ∀ n, (Builtin.firstCells 1 ([] : List Value).length (.slice none ([] : List Value).length 0)).run P { w with drawn := n } = .ok ([] : List Value).toArray { w with drawn := n } := fun n => rfl
    have hrun := append_run (P := P) (ty := ty) (l := []) (base := none) (cp := 0) hT h1 h2 h3 h4 h5 hm hw hbase (by simpa using hb) (by simpa using hb2)
    have g1 := ha.ev hx
    have g2 := ha.ev hy
    have hex : (execOp a.eval ⟨some d, .call ⟨.builtin .append, #[x, y], #[t, t']⟩, ty, p, af, gd⟩).run P w = ((Builtin.append_ #[t, t'] ty #[.slice none 0 0, v]).run P w).andThen fun u w' => .ok (.value u) w' := by
      simp [execOp, resolve, invoke, builtin, g1, g2]
    unfold Oper.wp
    have hrun' : (Builtin.append_ #[t, t'] ty #[.slice none 0 0, v]).run P w = _ := hrun
    rw [hex, hrun']
    have hdl : ∀ q, (some d : Option Nat) = some q → q < g.n := by rintro q ⟨⟩; simpa using hd
    rw [if_neg (by have : ([] : List Value).length = 0 := rfl; omega)]
    simp only [Result.andThen_ok, Oper.upon]
    generalize w.tape w.drawn _ % _ = k0
    rw [Nat.add_sub_cancel_left]
    have hw1 := hw.ext (below_drawn w (w.drawn + 1))
    refine ⟨_, _, ha.put (some d) _ hdl, hw1.alloc ([] ++ m ++ List.replicate k0 z0) e, w.heap.size, [], List.replicate k0 z0, ?_, by simp⟩
    simp only [putE, List.length_replicate, List.length_nil, Nat.zero_add]
  · rintro env' mem' ⟨b, pre, sp, rfl, rfl⟩
    exact next b pre sp

/-- nothing onto nil -/
theorem Tr.appendN0 (hT : TabOk P T) {e : Nat} {D D2 : TD} {ds : TypeDesc} {bs : Nat} {z0 : Value}
    (hx : ev env x = some (.slice none 0 0)) (hy : ev env y = some v) (hm : SrcOf mem v [])
    (h1 : lk t T = some D) (h2 : D.desc = .slice e) (h3 : lk e T = some ⟨ds, 1, bs, [z0]⟩) (h4 : lk t' T = some D2) (h5 : ∀ k, D2.desc ≠ .int k)
    (hbs : 768 * bs ≤ 281474976710656)
    (hd : Nat.blt d g.n = true) (hW : Wants all ⟨some d, .call ⟨.builtin .append, #[x, y], #[t, t']⟩, ty, p, af, gd⟩ env) (hk : (kd ⟨some d, .call ⟨.builtin .append, #[x, y], #[t, t']⟩, ty, p, af, gd⟩).gOk = true)
    (next : Tr P g all kd rest ((d, .slice none 0 0) :: env) mem Q) :
    Tr P g all kd ((i, ⟨some d, .call ⟨.builtin .append, #[x, y], #[t, t']⟩, ty, p, af, gd⟩) :: rest) env mem Q := by
  refine .gen (fun env' mem' => env' = (d, .slice none 0 0) :: env ∧ mem' = mem) (fun a w ha hw => ?_) hW (by revert hk; generalize kd _ = k; cases k <;> simp [K.gOk]) (fun _ _ h => by obtain ⟨rfl, rfl⟩ := h; exact next)
  have hbase : ∀ n, (Builtin.firstCells 1 ([] : List Value).length (.slice none ([] : List Value).length 0)).run P { w with drawn := n } = .ok ([] : List Value).toArray { w with drawn := n } := fun n => rfl
  have hrun := append_run (P := P) (ty := ty) (l := []) (base := none) (cp := 0) hT h1 h2 h3 h4 h5 hm hw hbase (by simpa using hbs) (by simp)
  have g1 := ha.ev hx
  have g2 := ha.ev hy
  have hex : (execOp a.eval ⟨some d, .call ⟨.builtin .append, #[x, y], #[t, t']⟩, ty, p, af, gd⟩).run P w = ((Builtin.append_ #[t, t'] ty #[.slice none 0 0, v]).run P w).andThen fun u w' => .ok (.value u) w' := by
    simp [execOp, resolve, invoke, builtin, g1, g2]
  unfold Oper.wp
  have hrun' : (Builtin.append_ #[t, t'] ty #[.slice none 0 0, v]).run P w = _ := hrun
  rw [hex, hrun']
  have hdl : ∀ q, (some d : Option Nat) = some q → q < g.n := by rintro q ⟨⟩; simpa using hd
  rw [if_pos (by simp)]
  simp only [Sem.run_pure, Result.andThen_ok, Oper.upon]
  exact ⟨_, _, ha.put (some d) _ hdl, hw, rfl, rfl⟩

/-! ### strings, comparisons -/
theorem conv_within {a : Operand} {v : Value} {t t' : Nat} {dst : Option Nat} {ents : List Ent} : (⟨[(a, v)], ents⟩ : Need).within ⟨dst, .convert t t' a, ty, p, af, gd⟩ := by
  intro q hq t'' ht
  simp only [List.mem_singleton] at hq
  subst hq; simp [Op.operands, ← ht]

/-- string(b) -/
theorem Tr.bytesStr (hT : TabOk P T) {e b off n cp : Nat} {D D' E : TD} {c : List Value} {rw : Bool} {l : List UInt8}
    (hx : ev env x = some (.slice (some ⟨b, off, none⟩) n cp)) (hm : (⟨b, c, rw⟩ : Ent) ∈ mem) (hc : At c off (l.map fun x => Value.int .u8 (x.toNat : Int))) (hl : l.length = n)
    (h1 : lk t T = some D) (h2 : D.desc = .slice e) (h3 : lk e T = some E) (h4 : E.desc = .int .u8) (h5 : lk t' T = some D') (h6 : D'.desc = .string)
    (hd : Nat.blt d g.n = true) (hW : Wants all ⟨some d, .convert t t' x, ty, p, af, gd⟩ env) (hk : (kd ⟨some d, .convert t t' x, ty, p, af, gd⟩).rOk = true)
    (next : Tr P g all kd rest ((d, .string ⟨l.toArray⟩) :: env) mem Q) : Tr P g all kd ((i, ⟨some d, .convert t t' x, ty, p, af, gd⟩) :: rest) env mem Q := by
  subst hl
  refine .v ⟨[(x, .slice (some ⟨b, off, none⟩) l.length cp)], [⟨b, c, rw⟩]⟩ _ (opV_of fun a w hmt => ?_) ⟨by simp [hx], by simp [hm]⟩ conv_within (.inr (.inl hk)) hd hW (by revert hk; generalize kd _ = k; cases k <;> simp [K.rOk, K.vOk]) next
  have hg : a.eval x = _ := hmt.1 (x, .slice (some ⟨b, off, none⟩) l.length cp) (by simp)
  have he : Ent.holds ⟨b, c, rw⟩ w := hmt.2 _ (by simp)
  have u1 := (hT t D h1).1; rw [h2] at u1
  have u2 := (hT e E h3).1; rw [h4] at u2
  have u3 := (hT t' D' h5).1; rw [h6] at u3
  have := run_convert_bytes_back w t t' e ⟨b, off, none⟩ cp l u1 u2 u3 (fun j hj => by
    rw [addr_add]
    exact he.cell (hc.get (by simp [hj])))
  simp [execOp, hg, this]

theorem Tr.bytesStr0 (hT : TabOk P T) {e : Nat} {D D' E : TD} (hx : ev env x = some (.slice none 0 0))
    (h1 : lk t T = some D) (h2 : D.desc = .slice e) (h3 : lk e T = some E) (h4 : E.desc = .int .u8) (h5 : lk t' T = some D') (h6 : D'.desc = .string)
    (hd : Nat.blt d g.n = true) (hW : Wants all ⟨some d, .convert t t' x, ty, p, af, gd⟩ env) (hk : (kd ⟨some d, .convert t t' x, ty, p, af, gd⟩).vOk = true)
    (next : Tr P g all kd rest ((d, .string ⟨#[]⟩) :: env) mem Q) : Tr P g all kd ((i, ⟨some d, .convert t t' x, ty, p, af, gd⟩) :: rest) env mem Q := by
  refine .v ⟨[(x, .slice none 0 0)], []⟩ _ (opV_of fun a w hmt => ?_) ⟨by simp [hx], by simp⟩ conv_within (.inl rfl) hd hW hk next
  have hg : a.eval x = _ := hmt.1 (x, .slice none 0 0) (by simp)
  have u1 := (hT t D h1).1; rw [h2] at u1
  have u2 := (hT e E h3).1; rw [h4] at u2
  have u3 := (hT t' D' h5).1; rw [h6] at u3
  have := run_convert_bytes_string w t t' e none 0 0 u1 u2 u3
  simp [execOp, hg, this, Conv.bytesToString]
  rfl

theorem Tr.eqlStr {a b : ByteArray} {r : Bool} (hx : ev env x = some (.string a)) (hy : ev env y = some (.string b)) (hr : (a.toList == b.toList) = r)
    (hd : Nat.blt d g.n = true) (hW : Wants all ⟨some d, .binOp .eql t x y t', ty, p, af, gd⟩ env) (hk : (kd ⟨some d, .binOp .eql t x y t', ty, p, af, gd⟩).vOk = true)
    (next : Tr P g all kd rest ((d, .bool r) :: env) mem Q) : Tr P g all kd ((i, ⟨some d, .binOp .eql t x y t', ty, p, af, gd⟩) :: rest) env mem Q :=
  .v (n2 x (.string a) y (.string b)) (.bool r) (opV_of fun ac w hm => by
    subst hr; have hg := n2.get hm; simp [execOp, eqGuard, binOp, Op.stringOp, hg]) (n2.sat hx hy) (n2.within (by simp [Op.operands]) (by simp [Op.operands])) (.inl rfl) hd hW hk next

/-- '[]byte("constant")': the row gets the run time's mark behind its last cell -/
theorem Tr.convMark (hT : TabOk P T) {e b off n cp : Nat} {D E : TD} {c : List Value} {rw : Bool}
    (hx : ev env x = some (.slice (some ⟨b, off, none⟩) n cp)) (hm : (⟨b, c, rw⟩ : Ent) ∈ mem) (hrw : rw = true)
    (h1 : lk t T = some D) (h2 : D.desc = .slice e) (h3 : lk e T = some E) (h4 : E.desc = .int .u8)
    (hd : Nat.blt d g.n = true) (hW : Wants all ⟨some d, .convert t t x, ty, p, af, gd⟩ env) (hk : (kd ⟨some d, .convert t t x, ty, p, af, gd⟩).gOk = true)
    (next : Tr P g all kd rest ((d, .slice (some ⟨b, off, none⟩) n cp) :: env) mem Q) : Tr P g all kd ((i, ⟨some d, .convert t t x, ty, p, af, gd⟩) :: rest) env mem Q := by
  subst hrw
  refine .gen (fun env' mem' => env' = (d, .slice (some ⟨b, off, none⟩) n cp) :: env ∧ mem' = mem) (fun a w ha hw => ?_) hW (by revert hk; generalize kd _ = k; cases k <;> simp [K.gOk]) (fun _ _ h => by obtain ⟨rfl, rfl⟩ := h; exact next)
  have hg := ha.ev hx
  have u1 := hT.und h1; rw [h2] at u1
  have u2 := hT.und h3; rw [h4] at u2
  have hent := hw.mem _ hm
  have hb0 : b < w.heap.size := Ent.holds_lt hent
  obtain ⟨cc, tyy, fz, q1, q2, q3⟩ := hent
  have hsh : w.shape? b = some (tyy, cc.size) := by unfold World.shape?; rw [q1]
  have hrun : (execOp a.eval ⟨some d, .convert t t x, ty, p, af, gd⟩).run P w = .ok (.value (.slice (some ⟨b, off, none⟩) n cp)) (w.freeze ⟨b, cc.size, none⟩ 1) := by
    simp [execOp, convert, hg, u1, u2, markStringish, hsh]
  have hwr : Wr b w (w.freeze ⟨b, cc.size, none⟩ 1) := by
    unfold World.freeze
    rw [if_neg (by decide)]
    exact ⟨rfl, rfl, rfl, by simp, fun k hk => by simp only [Array.getElem?_modify]; rw [if_neg (fun h => hk h.symm)]⟩
  have hent' : Ent.holds ⟨b, c, true⟩ (w.freeze ⟨b, cc.size, none⟩ 1) := by
    refine ⟨cc, tyy, (if fz.1 == fz.2 then (cc.size, cc.size + 1) else (min fz.1 cc.size, max fz.2 (cc.size + 1))), ?_, q2, fun _ => .inr ?_⟩
    · unfold World.freeze
      rw [if_neg (by decide)]
      simp only [Array.getElem?_modify, if_true, q1, Option.map_some]
    · split
      · exact Nat.le_refl _
      · rename_i h
        rcases q3 rfl with q3 | q3
        · simp [q3] at h
        · simp; omega
  obtain ⟨l1, l2, rfl⟩ := List.append_of_mem hm
  unfold Oper.wp
  rw [hrun]
  exact ⟨_, _, ha.put (some d) _ (by rintro q ⟨⟩; simpa using hd), hw.wr hwr hent', rfl, rfl⟩
end

/-! ### functions that hand new memory back -/
structure FnG (P : Program) (f : FuncId) (args : List Value) (ents : List Ent) (Post : Value → List Ent → Prop) : Prop where
  callable : ∃ fn, P.funcs[f]? = some fn ∧ (fn.name == "runtime.NumGoroutine") = false ∧ fn.body.isNone = false
  calls : ∀ w, (∀ e, e ∈ ents → e.holds w) → Calls P f args.toArray w (fun e w' => ∃ v es, e = .returned v ∧ Below w.heap.size w w' ∧ Post v es ∧
    (∀ x, x ∈ es → x.holds w' ∧ w.heap.size ≤ x.b) ∧ es.Pairwise (fun x y => (x.rw = true ∨ y.rw = true) → x.b ≠ y.b))

/-- a slice whose elements are l, in new memory (or nil, where l is empty) -/
def Fresh (l : List Value) (v : Value) (es : List Ent) : Prop :=
  (l = [] ∧ v = .slice none 0 0 ∧ es = []) ∨ ∃ (b : Nat) (pre sp : List Value), v = .slice (some ⟨b, pre.length, none⟩) l.length (l.length + sp.length) ∧ es = [⟨b, pre ++ l ++ sp, true⟩]

theorem Fresh.rw {l : List Value} {v : Value} {es : List Ent} (h : Fresh l v es) : ∀ x, x ∈ es → x.rw = true := by
  rcases h with ⟨_, _, rfl⟩ | ⟨b, pre, sp, _, rfl⟩
  · simp
  · simp

theorem Fresh.row {l : List Value} {v : Value} {es : List Ent} (h : Fresh l v es) {n : Nat} (hl : l.length = n) (h0 : 0 < n) :
    ∃ (b : Nat) (pre sp : List Value), v = .slice (some ⟨b, pre.length, none⟩) n (n + sp.length) ∧ es = [⟨b, pre ++ l ++ sp, true⟩] := by
  rcases h with ⟨rfl, _, _⟩ | ⟨b, pre, sp, h1, h2⟩
  · simp at hl; omega
  · subst hl; exact ⟨b, pre, sp, h1, h2⟩

theorem MSub.refl : ∀ (m : Mem), MSub m m
  | [] => .nil
  | ⟨_, _, _⟩ :: m => .cons .here rfl (MSub.refl m)

theorem Fresh.sub {l : List Value} {v : Value} {es : List Ent} (_ : Fresh l v es) : MSub es es := MSub.refl es

section
variable {P : Program} {g : Gh} {all : Array Oper} {kd : Oper → K} {i : Nat} {o : Oper} {rest : List (Nat × Oper)} {env : Env} {mem : Mem} {Q : Env → Mem → Prop}
variable {d ty : Nat} {p : String} {af : Array Edge} {gd : Option (Nat × Bool)}

theorem MH.join' {es : List Ent} {w w' : World} (h : MH g mem w) (hb : Below w.heap.size w w') (he : ∀ x, x ∈ es → x.holds w' ∧ w.heap.size ≤ x.b) (hp : es.Pairwise (fun x y => (x.rw = true ∨ y.rw = true) → x.b ≠ y.b)) : MH g (es ++ mem) w' := by
  have h' := h.ext hb
  refine ⟨fun e hx => ?_, List.pairwise_append.2 ⟨hp, h'.sep, fun x hx y hy _ => ?_⟩, fun e hx hr => ?_, h'.fr⟩
  · rcases List.mem_append.1 hx with hx | hx
    · exact (he e hx).1
    · exact h'.mem e hx
  · have := (he x hx).2
    have := Ent.holds_lt (h.mem y hy)
    omega
  · rcases List.mem_append.1 hx with hx | hx
    · exact .inl (Nat.le_trans h.fr.size (he e hx).2)
    · exact h'.own e hx hr

theorem Tr.callG {f : Nat} {as : List Operand} {vs : List Value} {ats : Array Nat} {ents : List Ent} {Post : Value → List Ent → Prop} (hx : evs env as = some vs) (hc : FnG P f vs ents Post) (he : Has ents mem)
    (hd : Nat.blt d g.n = true) (hW : Wants all ⟨some d, .call ⟨.value (.func f), as.toArray, ats⟩, ty, p, af, gd⟩ env) (hk : (kd ⟨some d, .call ⟨.value (.func f), as.toArray, ats⟩, ty, p, af, gd⟩).gOk = true)
    (next : ∀ v es, Post v es → Tr P g all kd rest ((d, v) :: env) (es ++ mem) Q) : Tr P g all kd ((i, ⟨some d, .call ⟨.value (.func f), as.toArray, ats⟩, ty, p, af, gd⟩) :: rest) env mem Q := by
  refine .gen (fun env' mem' => ∃ v es, Post v es ∧ env' = (d, v) :: env ∧ mem' = es ++ mem) (fun a w ha hw => ?_) hW (by revert hk; generalize kd _ = k; cases k <;> simp [K.gOk]) (fun _ _ h => by obtain ⟨v, es, h1, rfl, rfl⟩ := h; exact next v es h1)
  obtain ⟨fn, h1, h2, h3⟩ := hc.callable
  have hz := evs_zip hx
  have hargs : as.map a.eval = vs := map_of_zip (fun q hq => ha.ev (hz.1 q hq)) hz.2
  have hf : a.eval (.func f) = .func (.func f) #[] #[] := rfl
  have hrun : (execOp a.eval ⟨some d, .call ⟨.value (.func f), as.toArray, ats⟩, ty, p, af, gd⟩).run P w = .ok (.enter f vs.toArray) w := by
    have h2' : ¬ fn.name = "runtime.NumGoroutine" := by simpa using h2
    have h3' : ¬ fn.body = none := by intro e; rw [e] at h3; cases h3
    simp [execOp, resolve, hf, Deferred.ofValue, invoke, callFunc, h1, h2', h3', hargs]
  unfold Oper.wp
  rw [hrun]
  simp only [Oper.upon]
  refine (hc.calls w (he.holds hw)).mono ?_
  rintro e w' ⟨v, es, rfl, hb, hpost, hes, hpw⟩
  exact ⟨_, _, ha.put (some d) v (by rintro q ⟨⟩; simpa using hd), hw.join ⟨hb, hes, hpw⟩, v, es, hpost, rfl, rfl⟩

theorem fnG_of {f : FuncId} {fn : Func} {c : Code} {args : List Value} {ents : List Ent} {Post : Value → List Ent → Prop} (n : Nat) (hnt : fn.ntmps = n) (hf : P.funcs[f]? = some fn) (hb : fn.body = some c) (hn : (fn.name == "runtime.NumGoroutine") = false)
    (hl : Nat.ble args.length n = true) (hr : ∀ e, e ∈ ents → e.rw = false)
    (h : ∀ w, Wp P ⟨n, w, fun _ => False⟩ c (fun e env mem => (e = .normal ∨ e = .ret) ∧ ∃ v es, Post v es ∧ ResIs P ⟨n, w, fun _ => False⟩ fn env mem v ∧ MSub es mem ∧ ∀ x, x ∈ es → x.rw = true) (parE 0 args) ents) : FnG P f args ents Post := by
  subst hnt
  refine ⟨⟨fn, hf, hn, by simp [hb]⟩, fun w hw => calls_of_wp hf hb ?_⟩
  have hl' := Nat.le_of_ble_eq_true hl
  refine wp_mono (h w _ w ⟨rfl, by simp; omega, fun t u ht => ?_⟩ ⟨hw, ?_, fun e he hx => (by rw [hr e he] at hx; cases hx), ⟨rfl, rfl, rfl, Nat.le_refl _, fun _ _ _ => rfl⟩⟩) ?_
  · obtain ⟨_, h2⟩ := lk_parE args 0 t u ht
    have hlt : t < args.length := by
      rcases Nat.lt_or_ge t args.length with h | h
      · exact h
      · rw [Nat.sub_zero, List.getElem?_eq_none h] at h2; cases h2
    rw [Array.getElem?_append_left (by simpa using hlt)]
    simpa using h2
  · refine List.Pairwise.imp_of_mem (R := fun _ _ => True) (fun {a b} ha hb' _ hx => ?_) (List.pairwise_of_forall (fun _ _ => trivial))
    rcases hx with hx | hx
    · rw [hr a ha] at hx; cases hx
    · rw [hr b hb'] at hx; cases hx
  · rintro e a' w' ⟨env', mem', x1, x2, x3, v, es, x4, x5, x6, x7⟩
    have hbel : Below w.heap.size w w' := ⟨x2.fr.os, x2.fr.tape, x2.fr.output, x2.fr.size, fun k hk => x2.fr.block k hk (by simp)⟩
    have x8 := MH.sub x6 w' x2
    rcases x3 with rfl | rfl <;> exact ⟨x1.defers, v, x5 a' w' x1 x2, v, es, rfl, hbel, x4, fun x hx => ⟨x8.mem x hx, (x8.own x hx (x7 x hx)).resolve_right (fun h => h)⟩, x8.sep⟩

/-- calls of these functions write or hand new memory back -/
def kindG (fs : List Nat) (o : Oper) : K :=
  match o.op with
  | .call { callee := .value (.func f), .. } => if fs.contains f then .gen else .read
  | _ => kindOf o
end
end Go.Proofs.Ytffghaeaohabhaa.AW
