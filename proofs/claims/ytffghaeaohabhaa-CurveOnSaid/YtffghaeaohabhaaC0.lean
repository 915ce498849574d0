/-
  Points and places as cells.
-/
import Derived.Test.YtffghaeaohabhaaF7
namespace Go.Proofs.Ytffghaeaohabhaa.AW
open Go NT
set_option maxRecDepth 100000

theorem at_p0 (A B : List Value) : At (A ++ B) 0 A := ⟨[], B, rfl, rfl⟩
theorem at_p1 (A B : List Value) (h : A.length = 32) : At (A ++ B) 32 B := ⟨A, [], by simp, h⟩
theorem at_q0 (A B C D : List Value) : At (A ++ (B ++ (C ++ D))) 0 A := ⟨[], B ++ (C ++ D), rfl, rfl⟩
theorem at_q1 (A B C D : List Value) (h : A.length = 32) : At (A ++ (B ++ (C ++ D))) 32 B := ⟨A, C ++ D, by simp, h⟩
theorem at_q2 (A B C D : List Value) (h : A.length = 32) (h' : B.length = 32) : At (A ++ (B ++ (C ++ D))) 64 C := ⟨A ++ B, D, by simp, by simp [h, h']⟩
theorem at_q3 (A B C D : List Value) (h : A.length = 32) (h' : B.length = 32) (h'' : C.length = 32) : At (A ++ (B ++ (C ++ D))) 96 D := ⟨A ++ (B ++ C), [], by simp, by simp [h, h', h'']⟩

theorem fill_p {A B : List Value} (hA : A.length = 32) (hB : B.length = 32) :
    fillC (fun i => ([(0, 32), (32, 32)] : List (Nat × Nat))[i]?) (List.replicate 64 (Value.int .u8 0)) [(0, .agg A.toArray), (1, .agg B.toArray)] = some (A ++ B) := by
  simp [fillC, vcells, Value.cells, hA, hB, splice]

theorem fill_p1 {B : List Value} (hB : B.length = 32) :
    fillC (fun i => ([(0, 32), (32, 32)] : List (Nat × Nat))[i]?) (List.replicate 64 (Value.int .u8 0)) [(1, .agg B.toArray)] = some (List.replicate 32 (Value.int .u8 0) ++ B) := by
  simp [fillC, vcells, Value.cells, hB, splice]

theorem fill_q {A B C D : List Value} (hA : A.length = 32) (hB : B.length = 32) (hC : C.length = 32) (hD : D.length = 32) :
    fillC (fun i => ([(0, 32), (32, 32), (64, 32), (96, 32)] : List (Nat × Nat))[i]?) (List.replicate 128 (Value.int .u8 0)) [(0, .agg A.toArray), (1, .agg B.toArray), (2, .agg C.toArray), (3, .agg D.toArray)] = some (A ++ (B ++ (C ++ D))) := by
  have a1 : A.take 64 = A := List.take_of_length_le (by omega)
  have a2 : A.take 96 = A := List.take_of_length_le (by omega)
  have b1 : B.take 64 = B := List.take_of_length_le (by omega)
  have a3 : A.drop 128 = [] := List.drop_of_length_le (by omega)
  have b3 : B.drop 96 = [] := List.drop_of_length_le (by omega)
  have c3 : C.drop 64 = [] := List.drop_of_length_le (by omega)
  simp [fillC, vcells, Value.cells, hA, hB, hC, hD, splice, List.drop_append, List.take_append, a1, a2, a3, b1, b3, c3]

/-- a point's cells, and its value -/
abbrev pc (p : Pt) : List Value := u8s (bF p.x) ++ u8s (bF p.y)
abbrev pv (p : Pt) : Value := .agg (pc p).toArray
theorem pc_len (p : Pt) : (pc p).length = 64 := by simp [bF_len]
theorem pc_one (p : Pt) : (pc p).all Value.oneCell' = true := by simp [Value.oneCell']
/-- a place's -/
abbrev lc (a : Pl) : List Value := u8s (bF a.x) ++ (u8s (bF a.y) ++ (u8s (bF a.z) ++ u8s (bF a.t)))
abbrev lv (a : Pl) : Value := .agg (lc a).toArray
theorem lc_len (a : Pl) : (lc a).length = 128 := by simp [bF_len]
theorem lc_one (a : Pl) : (lc a).all Value.oneCell' = true := by simp [Value.oneCell']
end Go.Proofs.Ytffghaeaohabhaa.AW
