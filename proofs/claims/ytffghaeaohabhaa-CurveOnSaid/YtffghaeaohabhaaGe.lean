import Derived.Test.YtffghaeaohabhaaB
import Derived.Test.YtffghaeaohabhaaOp2
namespace Go.Proofs.Ytffghaeaohabhaa.AW
open Go

theorem at_get {α : Type} (f : α → Value) {c : List Value} {off : Nat} {l : List α} (hc : At c off (l.map f)) (z : α) {j : Nat} (hj : j < l.length) {k : Int} (hk : k = (j : Int)) :
    c[off + k.toNat]? = some (f (l.getD j z)) := by
  subst hk
  refine hc.get ?_
  simp [List.getElem?_eq_getElem hj, List.getD]

theorem set_rep (A : List Value) (z v : Value) (k r : Nat) (h : A.length = k) : (A ++ List.replicate (r + 1) z).set k v = (A ++ [v]) ++ List.replicate r z := by
  subst h
  rw [List.set_append_right _ _ (Nat.le_refl _)]
  simp [List.replicate_succ]
end Go.Proofs.Ytffghaeaohabhaa.AW
