/-
  Rules for '==' and '!=' of arrays of whole numbers.
-/
import Derived.ChangeKeysEq
import Derived.Test.YtffghaeaohabhaaOp5
namespace Go.Proofs.Ytffghaeaohabhaa.AW
open Go Go.RowKit

section
variable {P : Program}

theorem run_eqItems_int (d : Nat) {e : Nat} {k : IntKind} (hi : P.underlying e = some (.int k)) (hc : P.cellsOf e = 1) (l m : List Int) (w : World) : ∀ (is : List Nat), (∀ i, i ∈ is → i < l.length ∧ i < m.length) →
    (Op.eqItems (d + 1) e (P.cellsOf e) (l.map (Value.int k)).toArray (m.map (Value.int k)).toArray is).run P w = .ok (is.all (fun i => l.getD i 0 == m.getD i 0)) w
  | [], _ => by simp [Op.eqItems]
  | i :: is, h => by
    obtain ⟨h1, h2⟩ := h i (by simp)
    have ih := run_eqItems_int d hi hc l m w is (fun j hj => h j (by simp [hj]))
    have hp : P.plainKey e = true := by simp [Program.plainKey, hi]
    have g1 : (l.map (Value.int k)).toArray[i * P.cellsOf e]? = some (.int k (l.getD i 0)) := by simp [hc, List.getElem?_eq_getElem h1, List.getD]
    have g2 : (m.map (Value.int k)).toArray[i * P.cellsOf e]? = some (.int k (m.getD i 0)) := by simp [hc, List.getElem?_eq_getElem h2, List.getD]
    simp only [Op.eqItems, Sem.run_bind, run_part_plain w hp g1, run_part_plain w hp g2, Result.andThen_ok, run_equalIn_int w d e k k _ _ hi, List.all_cons]
    cases hb : (l.getD i 0 == m.getD i 0) with
    | true => simpa using ih
    | false => simp

theorem list_all_eq (l m : List Int) (n : Nat) (hl : l.length = n) (hm : m.length = n) : (List.range n).all (fun i => l.getD i 0 == m.getD i 0) = decide (l = m) := by
  by_cases h : l = m
  · subst h; simp
  · rw [decide_eq_false h]
    refine Bool.eq_false_iff.2 fun ha => h ?_
    rw [List.all_eq_true] at ha
    apply List.ext_getElem (by omega)
    intro i h1 h2
    have := ha i (List.mem_range.2 (by omega))
    simpa [List.getD, List.getElem?_eq_getElem h1, List.getElem?_eq_getElem h2] using this

theorem run_equalIn_ints (d : Nat) {t e n : Nat} {k : IntKind} (hu : P.underlying t = some (.array n e)) (hi : P.underlying e = some (.int k)) (hc : P.cellsOf e = 1) (l m : List Int) (hl : l.length = n) (hm : m.length = n) (w : World) :
    (Op.equalIn (d + 2) t (.agg (l.map (Value.int k)).toArray) (.agg (m.map (Value.int k)).toArray)).run P w = .ok (decide (l = m)) w := by
  obtain ⟨i, hinf⟩ := info_of_underlying hi
  rw [run_equalIn_array w (d + 1) _ _ hu hinf, run_eqItems_int d hi hc l m w _ (fun j hj => by have := List.mem_range.1 hj; omega), list_all_eq l m n hl hm]
end

section
variable {P : Program} {g : Gh} {all : Array Oper} {kd : Oper → K} {i : Nat} {o : Oper} {rest : List (Nat × Oper)} {env : Env} {mem : Mem} {Q : Env → Mem → Prop}
variable {T : List (Nat × TD)} {d ty : Nat} {p : String} {af : Array Edge} {gd : Option (Nat × Bool)} {x y z : Operand} {v u v0 : Value} {t t' : Nat}

theorem eqlA_run (hT : TabOk P T) {e n : Nat} {k : IntKind} {D E : TD} {l m : List Int} (h1 : lk t T = some D) (h2 : D.desc = .array n e) (h3 : lk e T = some E) (h4 : E.desc = .int k) (h5 : E.size = 1) (hl : l.length = n) (hm : m.length = n) (w : World) :
    (Op.equalIn 10000 t (.agg (l.map (Value.int k)).toArray) (.agg (m.map (Value.int k)).toArray)).run P w = .ok (decide (l = m)) w := by
  have u1 := (hT t D h1).1; rw [h2] at u1
  obtain ⟨u2, inf, hi1, hi2, _⟩ := hT e E h3; rw [h4] at u2
  exact run_equalIn_ints 9998 u1 u2 (by simp [Program.cellsOf, hi1, hi2, h5]) l m hl hm w

theorem Tr.eqlA (hT : TabOk P T) {e n : Nat} {k : IntKind} {D E : TD} {l m : List Int} {r : Bool} (hx : ev env x = some (.agg (l.map (Value.int k)).toArray)) (hy : ev env y = some (.agg (m.map (Value.int k)).toArray))
    (h1 : lk t T = some D) (h2 : D.desc = .array n e) (h3 : lk e T = some E) (h4 : E.desc = .int k) (h5 : E.size = 1) (hl : l.length = n) (hm : m.length = n) (hq : P.eqGuardType P.depth t = false) (hr : decide (l = m) = r)
    (hd : Nat.blt d g.n = true) (hW : Wants all ⟨some d, .binOp .eql t x y t', ty, p, af, gd⟩ env) (hk : (kd ⟨some d, .binOp .eql t x y t', ty, p, af, gd⟩).vOk = true)
    (next : Tr P g all kd rest ((d, .bool r) :: env) mem Q) : Tr P g all kd ((i, ⟨some d, .binOp .eql t x y t', ty, p, af, gd⟩) :: rest) env mem Q :=
  .v (n2 x _ y _) (.bool r) (opV_of fun a w hm' => by
    subst hr; have hg := n2.get hm'
    simp only [execOp, hg, Sem.run_bind, run_eqGuard_agg w .eql t x y _ _ hq, Result.andThen_ok, run_eql_struct, eqlA_run hT h1 h2 h3 h4 h5 hl hm w, Sem.run_pure]) (n2.sat hx hy) (n2.within (by simp [Op.operands]) (by simp [Op.operands])) (.inl rfl) hd hW hk next

theorem Tr.neqA (hT : TabOk P T) {e n : Nat} {k : IntKind} {D E : TD} {l m : List Int} {r : Bool} (hx : ev env x = some (.agg (l.map (Value.int k)).toArray)) (hy : ev env y = some (.agg (m.map (Value.int k)).toArray))
    (h1 : lk t T = some D) (h2 : D.desc = .array n e) (h3 : lk e T = some E) (h4 : E.desc = .int k) (h5 : E.size = 1) (hl : l.length = n) (hm : m.length = n) (hq : P.eqGuardType P.depth t = false) (hr : (!decide (l = m)) = r)
    (hd : Nat.blt d g.n = true) (hW : Wants all ⟨some d, .binOp .neq t x y t', ty, p, af, gd⟩ env) (hk : (kd ⟨some d, .binOp .neq t x y t', ty, p, af, gd⟩).vOk = true)
    (next : Tr P g all kd rest ((d, .bool r) :: env) mem Q) : Tr P g all kd ((i, ⟨some d, .binOp .neq t x y t', ty, p, af, gd⟩) :: rest) env mem Q :=
  .v (n2 x _ y _) (.bool r) (opV_of fun a w hm' => by
    subst hr; have hg := n2.get hm'
    simp only [execOp, hg, Sem.run_bind, run_eqGuard_agg w .neq t x y _ _ hq, Result.andThen_ok, run_neq_struct, eqlA_run hT h1 h2 h3 h4 h5 hl hm w, Sem.run_pure]) (n2.sat hx hy) (n2.within (by simp [Op.operands]) (by simp [Op.operands])) (.inl rfl) hd hW hk next

theorem Tr.eql8 (hT : TabOk P T) {e n : Nat} {D E : TD} {l m : List UInt8} {r : Bool} (hx : ev env x = some (.agg (l.map fun z => Value.int .u8 (z.toNat : Int)).toArray)) (hy : ev env y = some (.agg (m.map fun z => Value.int .u8 (z.toNat : Int)).toArray))
    (h1 : lk t T = some D) (h2 : D.desc = .array n e) (h3 : lk e T = some E) (h4 : E.desc = .int .u8) (h5 : E.size = 1) (hl : l.length = n) (hm : m.length = n) (hq : P.eqGuardType P.depth t = false) (hr : decide (l = m) = r)
    (hd : Nat.blt d g.n = true) (hW : Wants all ⟨some d, .binOp .eql t x y t', ty, p, af, gd⟩ env) (hk : (kd ⟨some d, .binOp .eql t x y t', ty, p, af, gd⟩).vOk = true)
    (next : Tr P g all kd rest ((d, .bool r) :: env) mem Q) : Tr P g all kd ((i, ⟨some d, .binOp .eql t x y t', ty, p, af, gd⟩) :: rest) env mem Q := by
  have e1 : ∀ q : List UInt8, (q.map fun z => Value.int .u8 (z.toNat : Int)) = (q.map fun z => (z.toNat : Int)).map (Value.int .u8) := fun q => by simp
  rw [e1] at hx hy
  have hinj : ∀ a b : List UInt8, (a.map fun z => (z.toNat : Int)) = (b.map fun z => (z.toNat : Int)) ↔ a = b := fun a b => ⟨fun h => List.map_inj_right (fun x y hxy => UInt8.toNat_inj.1 (by omega)) |>.1 h, fun h => by rw [h]⟩
  exact Tr.eqlA hT hx hy h1 h2 h3 h4 h5 (by simpa using hl) (by simpa using hm) hq (by rw [← hr]; simp only [hinj]) hd hW hk next

theorem Tr.neq8 (hT : TabOk P T) {e n : Nat} {D E : TD} {l m : List UInt8} {r : Bool} (hx : ev env x = some (.agg (l.map fun z => Value.int .u8 (z.toNat : Int)).toArray)) (hy : ev env y = some (.agg (m.map fun z => Value.int .u8 (z.toNat : Int)).toArray))
    (h1 : lk t T = some D) (h2 : D.desc = .array n e) (h3 : lk e T = some E) (h4 : E.desc = .int .u8) (h5 : E.size = 1) (hl : l.length = n) (hm : m.length = n) (hq : P.eqGuardType P.depth t = false) (hr : (!decide (l = m)) = r)
    (hd : Nat.blt d g.n = true) (hW : Wants all ⟨some d, .binOp .neq t x y t', ty, p, af, gd⟩ env) (hk : (kd ⟨some d, .binOp .neq t x y t', ty, p, af, gd⟩).vOk = true)
    (next : Tr P g all kd rest ((d, .bool r) :: env) mem Q) : Tr P g all kd ((i, ⟨some d, .binOp .neq t x y t', ty, p, af, gd⟩) :: rest) env mem Q := by
  have e1 : ∀ q : List UInt8, (q.map fun z => Value.int .u8 (z.toNat : Int)) = (q.map fun z => (z.toNat : Int)).map (Value.int .u8) := fun q => by simp
  rw [e1] at hx hy
  have hinj : ∀ a b : List UInt8, (a.map fun z => (z.toNat : Int)) = (b.map fun z => (z.toNat : Int)) ↔ a = b := fun a b => ⟨fun h => List.map_inj_right (fun x y hxy => UInt8.toNat_inj.1 (by omega)) |>.1 h, fun h => by rw [h]⟩
  exact Tr.neqA hT hx hy h1 h2 h3 h4 h5 (by simpa using hl) (by simpa using hm) hq (by rw [← hr]; simp only [hinj]) hd hW hk next

theorem Tr.eql32 (hT : TabOk P T) {e n : Nat} {D E : TD} {l m : List UInt32} {r : Bool} (hx : ev env x = some (.agg (l.map fun z => Value.int .u32 (z.toNat : Int)).toArray)) (hy : ev env y = some (.agg (m.map fun z => Value.int .u32 (z.toNat : Int)).toArray))
    (h1 : lk t T = some D) (h2 : D.desc = .array n e) (h3 : lk e T = some E) (h4 : E.desc = .int .u32) (h5 : E.size = 1) (hl : l.length = n) (hm : m.length = n) (hq : P.eqGuardType P.depth t = false) (hr : decide (l = m) = r)
    (hd : Nat.blt d g.n = true) (hW : Wants all ⟨some d, .binOp .eql t x y t', ty, p, af, gd⟩ env) (hk : (kd ⟨some d, .binOp .eql t x y t', ty, p, af, gd⟩).vOk = true)
    (next : Tr P g all kd rest ((d, .bool r) :: env) mem Q) : Tr P g all kd ((i, ⟨some d, .binOp .eql t x y t', ty, p, af, gd⟩) :: rest) env mem Q := by
  have e1 : ∀ q : List UInt32, (q.map fun z => Value.int .u32 (z.toNat : Int)) = (q.map fun z => (z.toNat : Int)).map (Value.int .u32) := fun q => by simp
  rw [e1] at hx hy
  have hinj : ∀ a b : List UInt32, (a.map fun z => (z.toNat : Int)) = (b.map fun z => (z.toNat : Int)) ↔ a = b := fun a b => ⟨fun h => List.map_inj_right (fun x y hxy => UInt32.toNat_inj.1 (by omega)) |>.1 h, fun h => by rw [h]⟩
  exact Tr.eqlA hT hx hy h1 h2 h3 h4 h5 (by simpa using hl) (by simpa using hm) hq (by rw [← hr]; simp only [hinj]) hd hW hk next

theorem Tr.neq32 (hT : TabOk P T) {e n : Nat} {D E : TD} {l m : List UInt32} {r : Bool} (hx : ev env x = some (.agg (l.map fun z => Value.int .u32 (z.toNat : Int)).toArray)) (hy : ev env y = some (.agg (m.map fun z => Value.int .u32 (z.toNat : Int)).toArray))
    (h1 : lk t T = some D) (h2 : D.desc = .array n e) (h3 : lk e T = some E) (h4 : E.desc = .int .u32) (h5 : E.size = 1) (hl : l.length = n) (hm : m.length = n) (hq : P.eqGuardType P.depth t = false) (hr : (!decide (l = m)) = r)
    (hd : Nat.blt d g.n = true) (hW : Wants all ⟨some d, .binOp .neq t x y t', ty, p, af, gd⟩ env) (hk : (kd ⟨some d, .binOp .neq t x y t', ty, p, af, gd⟩).vOk = true)
    (next : Tr P g all kd rest ((d, .bool r) :: env) mem Q) : Tr P g all kd ((i, ⟨some d, .binOp .neq t x y t', ty, p, af, gd⟩) :: rest) env mem Q := by
  have e1 : ∀ q : List UInt32, (q.map fun z => Value.int .u32 (z.toNat : Int)) = (q.map fun z => (z.toNat : Int)).map (Value.int .u32) := fun q => by simp
  rw [e1] at hx hy
  have hinj : ∀ a b : List UInt32, (a.map fun z => (z.toNat : Int)) = (b.map fun z => (z.toNat : Int)) ↔ a = b := fun a b => ⟨fun h => List.map_inj_right (fun x y hxy => UInt32.toNat_inj.1 (by omega)) |>.1 h, fun h => by rw [h]⟩
  exact Tr.neqA hT hx hy h1 h2 h3 h4 h5 (by simpa using hl) (by simpa using hm) hq (by rw [← hr]; simp only [hinj]) hd hW hk next

theorem Tr.eql64 (hT : TabOk P T) {e n : Nat} {D E : TD} {l m : List UInt64} {r : Bool} (hx : ev env x = some (.agg (l.map fun z => Value.int .u64 (z.toNat : Int)).toArray)) (hy : ev env y = some (.agg (m.map fun z => Value.int .u64 (z.toNat : Int)).toArray))
    (h1 : lk t T = some D) (h2 : D.desc = .array n e) (h3 : lk e T = some E) (h4 : E.desc = .int .u64) (h5 : E.size = 1) (hl : l.length = n) (hm : m.length = n) (hq : P.eqGuardType P.depth t = false) (hr : decide (l = m) = r)
    (hd : Nat.blt d g.n = true) (hW : Wants all ⟨some d, .binOp .eql t x y t', ty, p, af, gd⟩ env) (hk : (kd ⟨some d, .binOp .eql t x y t', ty, p, af, gd⟩).vOk = true)
    (next : Tr P g all kd rest ((d, .bool r) :: env) mem Q) : Tr P g all kd ((i, ⟨some d, .binOp .eql t x y t', ty, p, af, gd⟩) :: rest) env mem Q := by
  have e1 : ∀ q : List UInt64, (q.map fun z => Value.int .u64 (z.toNat : Int)) = (q.map fun z => (z.toNat : Int)).map (Value.int .u64) := fun q => by simp
  rw [e1] at hx hy
  have hinj : ∀ a b : List UInt64, (a.map fun z => (z.toNat : Int)) = (b.map fun z => (z.toNat : Int)) ↔ a = b := fun a b => ⟨fun h => List.map_inj_right (fun x y hxy => UInt64.toNat_inj.1 (by omega)) |>.1 h, fun h => by rw [h]⟩
  exact Tr.eqlA hT hx hy h1 h2 h3 h4 h5 (by simpa using hl) (by simpa using hm) hq (by rw [← hr]; simp only [hinj]) hd hW hk next

theorem Tr.neq64 (hT : TabOk P T) {e n : Nat} {D E : TD} {l m : List UInt64} {r : Bool} (hx : ev env x = some (.agg (l.map fun z => Value.int .u64 (z.toNat : Int)).toArray)) (hy : ev env y = some (.agg (m.map fun z => Value.int .u64 (z.toNat : Int)).toArray))
    (h1 : lk t T = some D) (h2 : D.desc = .array n e) (h3 : lk e T = some E) (h4 : E.desc = .int .u64) (h5 : E.size = 1) (hl : l.length = n) (hm : m.length = n) (hq : P.eqGuardType P.depth t = false) (hr : (!decide (l = m)) = r)
    (hd : Nat.blt d g.n = true) (hW : Wants all ⟨some d, .binOp .neq t x y t', ty, p, af, gd⟩ env) (hk : (kd ⟨some d, .binOp .neq t x y t', ty, p, af, gd⟩).vOk = true)
    (next : Tr P g all kd rest ((d, .bool r) :: env) mem Q) : Tr P g all kd ((i, ⟨some d, .binOp .neq t x y t', ty, p, af, gd⟩) :: rest) env mem Q := by
  have e1 : ∀ q : List UInt64, (q.map fun z => Value.int .u64 (z.toNat : Int)) = (q.map fun z => (z.toNat : Int)).map (Value.int .u64) := fun q => by simp
  rw [e1] at hx hy
  have hinj : ∀ a b : List UInt64, (a.map fun z => (z.toNat : Int)) = (b.map fun z => (z.toNat : Int)) ↔ a = b := fun a b => ⟨fun h => List.map_inj_right (fun x y hxy => UInt64.toNat_inj.1 (by omega)) |>.1 h, fun h => by rw [h]⟩
  exact Tr.neqA hT hx hy h1 h2 h3 h4 h5 (by simpa using hl) (by simpa using hm) hq (by rw [← hr]; simp only [hinj]) hd hW hk next
end
end Go.Proofs.Ytffghaeaohabhaa.AW
