import Derived.Test.YtffghaeaohabhaaRows
import Derived.Test.YtffghaeaohabhaaOp3
import Derived.Test.YtffghaeaohabhaaV
import Derived.WalkKit
import Derived.ProofKit
import Derived.OpenShut
import Derived.Carry
namespace Go.Proofs.Ytffghaeaohabhaa.AW
open Go Go.ChangeShapes Go.WideShapes Go.ChangeAt Go.RowKit
set_option maxRecDepth 100000

/-! ### bytes that a law is handed -/
theorem cells5 : Try.prog.cellsOf 5 = 1 := by kernel_rfl
theorem laidOutTry : laidOutB Try.prog = true := by kernel_rfl

theorem byte_of {z : Int} (h : (Lit.int .u8 z).wf = true) : (Value.int .u8 z) = u8 (UInt8.ofNat z.toNat) := by
  have h2 : 0 ≤ z ∧ z ≤ 255 := by
    simp only [Lit.wf, Bool.and_eq_true, decide_eq_true_eq] at h
    exact h
  have : (UInt8.ofNat z.toNat).toNat = z.toNat := UInt8.toNat_ofNat_of_lt' (by show _ < 256; omega)
  show _ = Value.int .u8 ((UInt8.ofNat z.toNat).toNat : Int)
  rw [this]
  congr 1
  omega

theorem bytes_in {H : Type} {enc : TypeId × Value → H} {W : World} {v0 : Value} {d0 : DataW H} {p : List MemPlace} {base : Nat} (hval : Value.okWide Try.prog W .any base 36 v0)
    (h0 : DataW.Trod enc Try.prog W 0 (fun _ => true) true 36 v0 d0 p) :
    ∃ (a0 : Option Addr) (dd : List UInt8) (cp : Nat) (rd : List Ent), v0 = .slice a0 dd.length cp ∧ Src a0 dd cp rd ∧ (∀ e, e ∈ rd → e.rw = false) ∧ (∀ e, e ∈ rd → e.holds W) ∧ dd.length ≤ maxLen := by
  obtain ⟨a0, len, cap, rfl⟩ := okWide_slice Try.underlying36 hval
  obtain ⟨fuel, hf⟩ := h0
  rcases open_ints Try.underlying36 Try.underlying5 cells5 hf with ⟨hcs, hx⟩ | ⟨a, len', cap', zs, hcs, _, hl, hm, hz, hx, hcell, hwz⟩
  · simp [Value.cells] at hcs
    obtain ⟨rfl, rfl, rfl⟩ := hcs
    exact ⟨none, [], 0, [], rfl, .inl rfl, by simp, by simp, by simp⟩
  · simp [Value.cells] at hcs
    obtain ⟨rfl, rfl, rfl⟩ := hcs
    simp only [if_true] at hz
    by_cases hn : len = 0
    · subst hn
      exact ⟨some a, [], cap, [], rfl, .inl rfl, by simp, by simp, by simp⟩
    · have hc0 := hcell 0 (by omega)
      obtain ⟨b, off, spot⟩ := a
      have hsp : spot = none := by
        unfold World.cell? at hc0
        split at hc0
        · split at hc0
          · cases hc0
          · rename_i hs
            simpa [Addr.add] using hs
        · cases hc0
      subst hsp
      have hb : ∃ c ty fz, W.heap[b]? = some (.cells c ty fz) := by
        unfold World.cell? at hc0
        split at hc0
        · rename_i c ty fz hh
          exact ⟨c, ty, fz, hh⟩
        · cases hc0
      obtain ⟨c, ty, fz, hb⟩ := hb
      have hget : ∀ i, i < len → c.toList[off + i]? = some (u8 (UInt8.ofNat (zs.getD i 0).toNat)) := by
        intro i hi
        have := hcell i (by omega)
        rw [addr_add] at this
        unfold World.cell? at this
        simp only [hb] at this
        rw [← byte_of (hwz _ (by
          have hi' : i < zs.length := by omega
          simp [List.getD, hi']))]
        simpa using this
      have hlen : off + len ≤ c.toList.length := by
        have := hget (len - 1) (by omega)
        have := (List.getElem?_eq_some_iff.1 this).1
        omega
      let dd : List UInt8 := (zs.take len).map fun z => UInt8.ofNat z.toNat
      have hdl : dd.length = len := by simp [dd]; omega
      have hdd : (c.toList.drop off).take len = u8s dd := by
        apply List.ext_getElem?
        intro i
        by_cases hi : i < len
        · rw [List.getElem?_take_of_lt hi, List.getElem?_drop, hget i hi]
          have hi' : i < zs.length := by omega
          simp [dd, List.getElem?_map, List.getElem?_take_of_lt hi, List.getElem?_eq_getElem hi', List.getD]
        · rw [List.getElem?_eq_none (by simp; omega), List.getElem?_eq_none (by simp [hdl]; omega)]
      refine ⟨some ⟨b, off, none⟩, dd, cap, [⟨b, c.toList, false⟩], by rw [hdl], .inr ⟨b, off, c.toList, false, rfl, List.mem_singleton.2 rfl, ?_⟩, by simp, ?_, by omega⟩
      · rw [← show u8s dd = dd.map fun x => Value.int .u8 (x.toNat : Int) from rfl, ← hdd]
        exact At.mk hlen
      · intro e he
        simp only [List.mem_singleton] at he
        subst he
        exact ⟨c, ty, fz, hb, ⟨[], by simp⟩, fun h => by cases h⟩
end Go.Proofs.Ytffghaeaohabhaa.AW
