/-
  Rules for '==' and '!=' of structs of two arrays of bytes.
-/
import Derived.Test.YtffghaeaohabhaaOp7
import Derived.Test.YtffghaeaohabhaaV
namespace Go.Proofs.Ytffghaeaohabhaa.AW
open Go Go.RowKit

section
variable {P : Program} {T : List (Nat × TD)}

theorem part_agg (hT : TabOk P T) {t off : Nat} {E : TD} {cs c' : List Value} (h1 : lk t T = some E) (h2 : E.agg = true) (ha : At cs off c') (hl : c'.length = E.size) (w : World) :
    (part t cs.toArray off).run P w = .ok (.agg c'.toArray) w := by
  have hi := hT.isAgg h1 w
  rw [h2] at hi
  have hs := hT.sz h1 w
  have he : cs.toArray.extract off (off + E.size) = c'.toArray := by
    obtain ⟨l, r, e1, e2⟩ := ha
    apply Array.ext'
    rw [← hl, e1, ← e2]
    simp
  simp only [part, Sem.run_bind, hi, Result.andThen_ok, if_true, hs, Sem.run_pure, he]

theorem u8s_int (l : List UInt8) : u8s l = (l.map fun z => (z.toNat : Int)).map (Value.int .u8) := by simp
theorem u8_int_inj (a b : List UInt8) : (a.map fun z => (z.toNat : Int)) = (b.map fun z => (z.toNat : Int)) ↔ a = b :=
  ⟨fun h => List.map_inj_right (fun x y hxy => UInt8.toNat_inj.1 (by omega)) |>.1 h, fun h => by rw [h]⟩

theorem run_equalIn_pair (hT : TabOk P T) (d : Nat) {t a e n : Nat} {D E I : TD} {f0 f1 : Field} (h1 : lk t T = some D) (h2 : D.desc = .struct #[f0, f1]) (hf0 : f0.type = a ∧ f0.offset = 0 ∧ f0.name ≠ "_") (hf1 : f1.type = a ∧ f1.offset = n ∧ f1.name ≠ "_")
    (h3 : lk a T = some E) (h4 : E.desc = .array n e) (h4s : E.size = n) (h5 : lk e T = some I) (h6 : I.desc = .int .u8) (h7 : I.size = 1) (hst : P.stoodInHeld t = false)
    (A B A' B' : List UInt8) (hA : A.length = n) (hB : B.length = n) (hA' : A'.length = n) (hB' : B'.length = n) (w : World) :
    (Op.equalIn (d + 3) t (.agg (u8s A ++ u8s B).toArray) (.agg (u8s A' ++ u8s B').toArray)).run P w = .ok (decide (A = A' ∧ B = B')) w := by
  have u1 := (hT t D h1).1; rw [h2] at u1
  have u2 := (hT a E h3).1; rw [h4] at u2
  obtain ⟨u3, inf, hi1, hi2, _⟩ := hT e I h5; rw [h6] at u3
  have hfs : P.fieldsOf t = #[f0, f1] := by simp [Program.fieldsOf, u1]
  have hagg : E.agg = true := by unfold TD.agg; rw [h4]
  have ce : P.cellsOf e = 1 := by simp [Program.cellsOf, hi1, hi2, h7]
  have pa : ∀ X Y : List UInt8, X.length = n → (part f0.type (u8s X ++ u8s Y).toArray f0.offset).run P w = .ok (.agg (u8s X).toArray) w := fun X Y hX => by
    rw [hf0.1, hf0.2.1]
    exact part_agg hT h3 hagg ⟨[], u8s Y, rfl, rfl⟩ (by rw [h4s]; simpa using hX) w
  have pb : ∀ X Y : List UInt8, X.length = n → Y.length = n → (part f1.type (u8s X ++ u8s Y).toArray f1.offset).run P w = .ok (.agg (u8s Y).toArray) w := fun X Y hX hY => by
    rw [hf1.1, hf1.2.1]
    exact part_agg hT h3 hagg ⟨u8s X, [], by simp, by simpa using hX⟩ (by rw [h4s]; simpa using hY) w
  have eq : ∀ X Y : List UInt8, X.length = n → Y.length = n → (Op.equalIn (d + 2) a (.agg (u8s X).toArray) (.agg (u8s Y).toArray)).run P w = .ok (decide (X = Y)) w := fun X Y hX hY => by
    rw [u8s_int, u8s_int, run_equalIn_ints d u2 u3 ce _ _ (by simpa using hX) (by simpa using hY) w]
    simp only [u8_int_inj]
  rw [run_equalIn_agg w (d + 2) t _ _ (by rw [hfs]; exact u1) hst, hfs]
  have e0 := eq A A' hA hA'
  have e1 := eq B B' hB hB'
  rw [← hf0.1] at e0
  rw [← hf1.1] at e1
  simp only [Op.eqFields, if_pos hf0.2.2, if_pos hf1.2.2, Sem.run_bind, pa A B hA, pa A' B' hA', pb A B hA hB, pb A' B' hA' hB', Result.andThen_ok, e0]
  by_cases h : A = A'
  · rw [decide_eq_true h]
    simp only [Bool.not_true, Bool.false_eq_true, if_false, Sem.run_bind, pb A B hA hB, pb A' B' hA' hB', Result.andThen_ok, e1]
    by_cases h' : B = B'
    · simp [h, h']
    · simp [h, h']
  · simp [h]
end

section
variable {P : Program} {g : Gh} {all : Array Oper} {kd : Oper → K} {i : Nat} {o : Oper} {rest : List (Nat × Oper)} {env : Env} {mem : Mem} {Q : Env → Mem → Prop}
variable {T : List (Nat × TD)} {d ty : Nat} {p : String} {af : Array Edge} {gd : Option (Nat × Bool)} {x y z : Operand} {v u v0 : Value} {t t' : Nat}

theorem Tr.eqlP (hT : TabOk P T) {a e n : Nat} {D E I : TD} {f0 f1 : Field} {A B A' B' : List UInt8} {r : Bool} (hx : ev env x = some (.agg (u8s A ++ u8s B).toArray)) (hy : ev env y = some (.agg (u8s A' ++ u8s B').toArray))
    (h1 : lk t T = some D) (h2 : D.desc = .struct #[f0, f1]) (hf0 : f0.type = a ∧ f0.offset = 0 ∧ f0.name ≠ "_") (hf1 : f1.type = a ∧ f1.offset = n ∧ f1.name ≠ "_")
    (h3 : lk a T = some E) (h4 : E.desc = .array n e) (h4s : E.size = n) (h5 : lk e T = some I) (h6 : I.desc = .int .u8) (h7 : I.size = 1) (hst : P.stoodInHeld t = false) (hq : P.eqGuardType P.depth t = false)
    (hA : A.length = n) (hB : B.length = n) (hA' : A'.length = n) (hB' : B'.length = n) (hr : decide (A = A' ∧ B = B') = r)
    (hd : Nat.blt d g.n = true) (hW : Wants all ⟨some d, .binOp .eql t x y t', ty, p, af, gd⟩ env) (hk : (kd ⟨some d, .binOp .eql t x y t', ty, p, af, gd⟩).vOk = true)
    (next : Tr P g all kd rest ((d, .bool r) :: env) mem Q) : Tr P g all kd ((i, ⟨some d, .binOp .eql t x y t', ty, p, af, gd⟩) :: rest) env mem Q :=
  .v (n2 x _ y _) (.bool r) (opV_of fun a w hm' => by
    subst hr; have hg := n2.get hm'
    simp only [execOp, hg, Sem.run_bind, run_eqGuard_agg w .eql t x y _ _ hq, Result.andThen_ok, run_eql_struct, run_equalIn_pair hT 9997 h1 h2 hf0 hf1 h3 h4 h4s h5 h6 h7 hst A B A' B' hA hB hA' hB' w, Sem.run_pure]) (n2.sat hx hy) (n2.within (by simp [Op.operands]) (by simp [Op.operands])) (.inl rfl) hd hW hk next

theorem Tr.eqlB {a b r : Bool} {D : TD} (hT : TabOk P T) (h1 : lk t T = some D) (h2 : D.desc = .bool) (hx : ev env x = some (.bool a)) (hy : ev env y = some (.bool b)) (hr : (a == b) = r)
    (hd : Nat.blt d g.n = true) (hW : Wants all ⟨some d, .binOp .eql t x y t', ty, p, af, gd⟩ env) (hk : (kd ⟨some d, .binOp .eql t x y t', ty, p, af, gd⟩).vOk = true)
    (next : Tr P g all kd rest ((d, .bool r) :: env) mem Q) : Tr P g all kd ((i, ⟨some d, .binOp .eql t x y t', ty, p, af, gd⟩) :: rest) env mem Q :=
  .v (n2 x _ y _) (.bool r) (opV_of fun ac w hm' => by
    subst hr; have hg := n2.get hm'
    have u1 := (hT t D h1).1; rw [h2] at u1
    have he : (eqGuard .eql t x y (.bool a) (.bool b)).run P w = .ok () w := rfl
    have hb : (binOp .eql t (.bool a) (.bool b)).run P w = .ok (.bool (a == b)) w := by
      have := run_equalIn_bool' w 9999 t a b u1
      simp only [binOp, Op.equal, Op.maxDepth, Sem.run_bind, this, Result.andThen_ok, Sem.run_pure]
    simp only [execOp, hg, Sem.run_bind, he, hb, Result.andThen_ok, Sem.run_pure]) (n2.sat hx hy) (n2.within (by simp [Op.operands]) (by simp [Op.operands])) (.inl rfl) hd hW hk next
end
end Go.Proofs.Ytffghaeaohabhaa.AW
