/-
  More rules: bytes that are handed in, as a string; strings unlike.
-/
import Derived.Test.YtffghaeaohabhaaOp3
namespace Go.Proofs.Ytffghaeaohabhaa.AW
open Go Go.RowKit

section
variable {P : Program} {g : Gh} {all : Array Oper} {kd : Oper → K} {i : Nat} {o : Oper} {rest : List (Nat × Oper)} {env : Env} {mem : Mem} {Q : Env → Mem → Prop}
variable {T : List (Nat × TD)} {d ty : Nat} {p : String} {af : Array Edge} {gd : Option (Nat × Bool)} {x y z : Operand} {v u : Value} {t t' : Nat}

/-- string(b), b handed in -/
theorem Tr.bytesSrc (hT : TabOk P T) {e cp : Nat} {a0 : Option Addr} {dd : List UInt8} {rd : List Ent} {D D' E : TD}
    (hx : ev env x = some (.slice a0 dd.length cp)) (hs : Src a0 dd cp rd) (hm : ∀ e, e ∈ rd → e ∈ mem)
    (h1 : lk t T = some D) (h2 : D.desc = .slice e) (h3 : lk e T = some E) (h4 : E.desc = .int .u8) (h5 : lk t' T = some D') (h6 : D'.desc = .string)
    (hd : Nat.blt d g.n = true) (hW : Wants all ⟨some d, .convert t t' x, ty, p, af, gd⟩ env) (hk : (kd ⟨some d, .convert t t' x, ty, p, af, gd⟩).rOk = true)
    (next : Tr P g all kd rest ((d, .string ⟨dd.toArray⟩) :: env) mem Q) : Tr P g all kd ((i, ⟨some d, .convert t t' x, ty, p, af, gd⟩) :: rest) env mem Q := by
  rcases hs with rfl | ⟨b, off, c, rw, rfl, h7, h8⟩
  · refine .v ⟨[(x, .slice a0 0 cp)], []⟩ _ (opV_of fun a w hmt => ?_) ⟨by simp; exact hx, by simp⟩ conv_within (.inl rfl) hd hW (by revert hk; generalize kd _ = k; cases k <;> simp [K.rOk, K.vOk]) next
    have hg : a.eval x = _ := hmt.1 (x, .slice a0 0 cp) (by simp)
    have u1 := (hT t D h1).1; rw [h2] at u1
    have u2 := (hT e E h3).1; rw [h4] at u2
    have u3 := (hT t' D' h5).1; rw [h6] at u3
    cases a0 with
    | none =>
      have := run_convert_bytes_string w t t' e none 0 cp u1 u2 u3
      simp [execOp, hg, this, Conv.bytesToString]
      rfl
    | some ad =>
      have := run_convert_bytes_back w t t' e ad cp [] u1 u2 u3 (by simp)
      simp only [List.length_nil] at this
      simp [execOp, hg, this]
  · exact .bytesStr hT hx (hm _ h7) h8 rfl h1 h2 h3 h4 h5 h6 hd hW hk next

theorem Tr.neqStr {a b : ByteArray} {r : Bool} (hx : ev env x = some (.string a)) (hy : ev env y = some (.string b)) (hr : (a.toList != b.toList) = r)
    (hd : Nat.blt d g.n = true) (hW : Wants all ⟨some d, .binOp .neq t x y t', ty, p, af, gd⟩ env) (hk : (kd ⟨some d, .binOp .neq t x y t', ty, p, af, gd⟩).vOk = true)
    (next : Tr P g all kd rest ((d, .bool r) :: env) mem Q) : Tr P g all kd ((i, ⟨some d, .binOp .neq t x y t', ty, p, af, gd⟩) :: rest) env mem Q :=
  .v (n2 x (.string a) y (.string b)) (.bool r) (opV_of fun ac w hm => by
    subst hr; have hg := n2.get hm; simp [execOp, eqGuard, binOp, Op.stringOp, hg, bne]) (n2.sat hx hy) (n2.within (by simp [Op.operands]) (by simp [Op.operands])) (.inl rfl) hd hW hk next

theorem toList_mk (l : List UInt8) : (ByteArray.mk l.toArray).toList = l := by
  rw [ByteArray.toList_eq]
end
end Go.Proofs.Ytffghaeaohabhaa.AW
