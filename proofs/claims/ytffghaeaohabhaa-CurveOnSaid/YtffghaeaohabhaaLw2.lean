import Derived.Test.YtffghaeaohabhaaLw
namespace Go.Proofs.Ytffghaeaohabhaa.AW
open Go Go.ChangeShapes Go.WideShapes Go.ChangeAt Go.RowKit
set_option maxRecDepth 100000

section
variable {H : Type} {enc : TypeId × Value → H} {P : Program} {W : World} {base : Nat} {sp : Nat → Bool} {held : Bool}

theorem mapM_ints {e : TypeId} {q : IntKind} (he : P.underlying e = some (.int q)) {m : Nat} {cs : List Value} : ∀ (L : List Nat) (xs : List (DataW H × List MemPlace)),
    L.mapM (fun i => DataW.trod enc P W base sp held m e ((cs.drop (i * 1)).take 1)) = some xs → ∀ i, i ∈ L → ∃ a, (cs.drop i).take 1 = [.int q a] ∧ (Lit.int q a).wf = true
  | [], _, _, i, hi => by simp at hi
  | j :: L, xs, h, i, hi => by
    rw [List.mapM_cons] at h
    simp only [bind, Option.bind_eq_some_iff, pure, Option.some.injEq] at h
    obtain ⟨y, hy, ys, hys, rfl⟩ := h
    rcases List.mem_cons.1 hi with rfl | hi
    · obtain ⟨a, ea, _, wa⟩ := DataW.trod_int he hy
      rw [Nat.mul_one] at ea
      exact ⟨a, ea, wa⟩
    · exact mapM_ints he L ys hys i hi

/-- an array of whole numbers -/
theorem arr_cells {t e n : Nat} {q : IntKind} (hu : P.underlying t = some (.array n e)) (he : P.underlying e = some (.int q)) (hc : P.cellsOf e = 1) (hct : P.cellsOf t = n) {fuel : Nat} {cs : List Value} {x : DataW H × List MemPlace}
    (hf : DataW.trod enc P W base sp held fuel t cs = some x) : ∃ zs : List Int, cs = zs.map (Value.int q) ∧ zs.length = n ∧ ∀ z, z ∈ zs → (Lit.int q z).wf = true := by
  cases fuel with
  | zero => simp [DataW.trod] at hf
  | succ m =>
    rw [DataW.trod_step] at hf
    unfold DataW.trodStep at hf
    simp only [hu] at hf
    by_cases hl : cs.length = P.cellsOf t
    · rw [if_pos hl, hc] at hf
      simp only [Option.map_eq_some_iff] at hf
      obtain ⟨ys, hy, _⟩ := hf
      have hk := mapM_ints he _ ys hy
      rw [hct] at hl
      have hget : ∀ i, i < n → ∃ a, cs[i]? = some (.int q a) ∧ (Lit.int q a).wf = true := fun i hi => by
        obtain ⟨a, h1, h2⟩ := hk i (List.mem_range.2 hi)
        refine ⟨a, ?_, h2⟩
        have := congrArg (·[0]?) h1
        simpa [List.getElem?_take, List.getElem?_drop] using this
      clear hk hy hct hu
      induction cs generalizing n with
      | nil => simp at hl; subst hl; exact ⟨[], rfl, rfl, by simp⟩
      | cons c cs ih =>
        cases n with
        | zero => simp at hl
        | succ n =>
          obtain ⟨a, h1, h2⟩ := hget 0 (by omega)
          simp only [List.getElem?_cons_zero, Option.some.injEq] at h1
          obtain ⟨zs, e1, e2, e3⟩ := ih (n := n) (by simpa using hl) (fun i hi => by
            obtain ⟨a, h1, h2⟩ := hget (i + 1) (by omega)
            exact ⟨a, by simpa using h1, h2⟩)
          refine ⟨a :: zs, by rw [h1, e1]; rfl, by simp [e2], fun z hz => ?_⟩
          rcases List.mem_cons.1 hz with rfl | hz
          · exact h2
          · exact e3 z hz
    · rw [if_neg hl] at hf; cases hf

theorem u8_list {zs : List Int} (h : ∀ z, z ∈ zs → (Lit.int .u8 z).wf = true) : ∃ l : List UInt8, zs.map (Value.int .u8) = u8s l ∧ l.length = zs.length :=
  ⟨zs.map fun z => UInt8.ofNat z.toNat, by
    show List.map _ zs = List.map u8 (List.map _ zs)
    rw [List.map_map]
    exact List.map_congr_left fun z hz => byte_of (h z hz), by simp⟩

theorem word32_of {z : Int} (h : (Lit.int .u32 z).wf = true) : (Value.int .u32 z) = u32 (UInt32.ofNat z.toNat) := by
  have h2 : 0 ≤ z ∧ z ≤ 4294967295 := by
    simp only [Lit.wf, Bool.and_eq_true, decide_eq_true_eq] at h
    exact h
  have : (UInt32.ofNat z.toNat).toNat = z.toNat := UInt32.toNat_ofNat_of_lt' (by show _ < 4294967296; omega)
  show _ = Value.int .u32 ((UInt32.ofNat z.toNat).toNat : Int)
  rw [this]
  congr 1
  omega

theorem u32_list {zs : List Int} (h : ∀ z, z ∈ zs → (Lit.int .u32 z).wf = true) : ∃ l : List UInt32, zs.map (Value.int .u32) = u32s l ∧ l.length = zs.length :=
  ⟨zs.map fun z => UInt32.ofNat z.toNat, by
    show List.map _ zs = List.map u32 (List.map _ zs)
    rw [List.map_map]
    exact List.map_congr_left fun z hz => word32_of (h z hz), by simp⟩

theorem agg_of {t e n : Nat} {r : Reach} {b0 : Nat} {v : Value} (hu : P.underlying t = some (.array n e)) (h : Value.okWide P W r b0 t v) : ∃ xs : Array Value, v = .agg xs := by
  simp only [Value.okWide, hu] at h
  obtain ⟨cs, h1, _⟩ := h
  exact ⟨cs, h1⟩

theorem arr8_in {t e n : Nat} {r : Reach} {b0 : Nat} {v : Value} {d : DataW H} {ps : List MemPlace} (hu : P.underlying t = some (.array n e)) (he : P.underlying e = some (.int .u8)) (hc : P.cellsOf e = 1) (hct : P.cellsOf t = n)
    (hval : Value.okWide P W r b0 t v) (hd : DataW.Trod enc P W base sp held t v d ps) : ∃ l : List UInt8, v = .agg (u8s l).toArray ∧ l.length = n := by
  obtain ⟨xs, rfl⟩ := agg_of hu hval
  obtain ⟨fuel, hf⟩ := hd
  obtain ⟨zs, e1, e2, e3⟩ := arr_cells hu he hc hct hf
  obtain ⟨l, e4, e5⟩ := u8_list e3
  refine ⟨l, ?_, by omega⟩
  rw [← e4, ← e1]; simp [Value.cells]

theorem arr32_in {t e n : Nat} {r : Reach} {b0 : Nat} {v : Value} {d : DataW H} {ps : List MemPlace} (hu : P.underlying t = some (.array n e)) (he : P.underlying e = some (.int .u32)) (hc : P.cellsOf e = 1) (hct : P.cellsOf t = n)
    (hval : Value.okWide P W r b0 t v) (hd : DataW.Trod enc P W base sp held t v d ps) : ∃ l : List UInt32, v = .agg (u32s l).toArray ∧ l.length = n := by
  obtain ⟨xs, rfl⟩ := agg_of hu hval
  obtain ⟨fuel, hf⟩ := hd
  obtain ⟨zs, e1, e2, e3⟩ := arr_cells hu he hc hct hf
  obtain ⟨l, e4, e5⟩ := u32_list e3
  refine ⟨l, ?_, by omega⟩
  rw [← e4, ← e1]; simp [Value.cells]

theorem u8_in {t : Nat} {r : Reach} {b0 : Nat} {v : Value} {d : DataW H} {ps : List MemPlace} (hu : P.underlying t = some (.int .u8)) (hval : Value.okWide P W r b0 t v) (hd : DataW.Trod enc P W base sp held t v d ps) : ∃ b : UInt8, v = u8 b := by
  obtain ⟨n, rfl, _, _, hw⟩ := open_int hu hval hd
  exact ⟨_, byte_of hw⟩

theorem i64_wf {n : Int} (h : (Lit.int .i64 n).wf = true) : -9223372036854775808 ≤ n ∧ n ≤ 9223372036854775807 := by
  simp only [Lit.wf, Bool.and_eq_true, decide_eq_true_eq] at h
  exact h

/-- a struct of two arrays of bytes -/
theorem pair8_in {t a e n : Nat} {f0 f1 : Field} {r : Reach} {b0 : Nat} {v : Value} {d : DataW H} {ps : List MemPlace} (hs : P.underlying t = some (.struct #[f0, f1])) (h0 : f0.type = a ∧ f0.offset = 0) (h1 : f1.type = a ∧ f1.offset = n)
    (hu : P.underlying a = some (.array n e)) (he : P.underlying e = some (.int .u8)) (hc : P.cellsOf e = 1) (hct : P.cellsOf a = n) (hcs : P.cellsOf t = n + n)
    (hval : Value.okWide P W r b0 t v) (hd : DataW.Trod enc P W base sp held t v d ps) : ∃ l m : List UInt8, v = .agg (u8s (l ++ m)).toArray ∧ l.length = n ∧ m.length = n := by
  obtain ⟨xs, rfl, _⟩ := okWide_struct hs hval
  obtain ⟨fuel, hf⟩ := hd
  cases fuel with
  | zero => simp [DataW.trod] at hf
  | succ m =>
    rw [DataW.trod_step] at hf
    unfold DataW.trodStep at hf
    simp only [hs, Value.cells] at hf
    by_cases hl : xs.toList.length = P.cellsOf t
    · rw [if_pos hl] at hf
      simp only [Option.map_eq_some_iff] at hf
      obtain ⟨ys, hy, _⟩ := hf
      simp only [List.mapM_cons, List.mapM_nil, bind, Option.bind_eq_some_iff, pure, Option.some.injEq] at hy
      obtain ⟨y0, hy0, _, ⟨y1, hy1, _⟩, _⟩ := hy
      rw [h0.1, h0.2, hct] at hy0
      rw [h1.1, h1.2, hct] at hy1
      obtain ⟨z0, a1, a2, a3⟩ := arr_cells hu he hc hct hy0
      obtain ⟨z1, c1, c2, c3⟩ := arr_cells hu he hc hct hy1
      obtain ⟨l0, a4, a5⟩ := u8_list a3
      obtain ⟨l1, c4, c5⟩ := u8_list c3
      refine ⟨l0, l1, ?_, by omega, by omega⟩
      have e1 : xs.toList = u8s (l0 ++ l1) := by
        rw [show u8s (l0 ++ l1) = u8s l0 ++ u8s l1 from List.map_append, ← a4, ← c4, ← a1, ← c1, List.drop_zero]
        have : (xs.toList.drop n).take n = xs.toList.drop n := List.take_of_length_le (by simp only [List.length_drop]; omega)
        rw [this, List.take_append_drop]
      rw [← e1]
    · rw [if_neg hl] at hf; cases hf
end
end Go.Proofs.Ytffghaeaohabhaa.AW
