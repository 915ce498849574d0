import Derived.Test.YtffghaeaohabhaaS6
import Derived.Test.YtffghaeaohabhaaOnc
import Derived.Test.YtffghaeaohabhaaOp3
namespace Go.Proofs.Ytffghaeaohabhaa.AW
open Go Go.Proofs
set_option maxRecDepth 100000

/-! ### the Hash object -/
def hc (dn mu : Int) (K st : List UInt32) (r : Value) (c : Int) : List Value :=
  .int .u32 dn :: .int .i32 mu :: .int .u32 0 :: (u32s K ++ (u32s st ++ [r, .int .i64 c]))

section
variable {dn mu c : Int} {K st K' st' : List UInt32} {r : Value}
theorem hc_len (hK : K.length = 64) (hs : st.length = 8) : (hc dn mu K st r c).length = 77 := by simp [hc, hK, hs]
theorem hc_set0 (x : Int) : (hc dn mu K st r c).set 0 (.int .u32 x) = hc x mu K st r c := rfl
theorem hc_set1 (x : Int) : (hc dn mu K st r c).set 1 (.int .i32 x) = hc dn x K st r c := rfl
theorem hc_get0 : (hc dn mu K st r c)[0]? = some (.int .u32 dn) := rfl
theorem hc_get1 : (hc dn mu K st r c)[1]? = some (.int .i32 mu) := rfl
theorem hc_get75 (hK : K.length = 64) (hs : st.length = 8) : (hc dn mu K st r c)[75]? = some r := by
  simp only [hc, List.getElem?_cons_succ]
  rw [List.getElem?_append_right (by simp [hK]), List.getElem?_append_right (by simp [hK, hs])]
  simp [hK, hs]
theorem hc_get76 (hK : K.length = 64) (hs : st.length = 8) : (hc dn mu K st r c)[76]? = some (.int .i64 c) := by
  simp only [hc, List.getElem?_cons_succ]
  rw [List.getElem?_append_right (by simp [hK]), List.getElem?_append_right (by simp [hK, hs])]
  simp [hK, hs]
theorem hc_set75 (hK : K.length = 64) (hs : st.length = 8) (x : Value) : (hc dn mu K st r c).set 75 x = hc dn mu K st x c := by
  simp only [hc, List.set_cons_succ]
  rw [List.set_append_right _ _ (by simp [hK]), List.set_append_right _ _ (by simp [hK, hs])]
  simp [hK, hs]
theorem hc_set76 (hK : K.length = 64) (hs : st.length = 8) (x : Int) : (hc dn mu K st r c).set 76 (.int .i64 x) = hc dn mu K st r x := by
  simp only [hc, List.set_cons_succ]
  rw [List.set_append_right _ _ (by simp [hK]), List.set_append_right _ _ (by simp [hK, hs])]
  simp [hK, hs]
theorem hc_atK : At (hc dn mu K st r c) 3 (u32s K) := ⟨[.int .u32 dn, .int .i32 mu, .int .u32 0], u32s st ++ [r, .int .i64 c], by simp [hc], rfl⟩
theorem hc_atS (hK : K.length = 64) : At (hc dn mu K st r c) 67 (u32s st) := ⟨[.int .u32 dn, .int .i32 mu, .int .u32 0] ++ u32s K, [r, .int .i64 c], by simp [hc], by simp [hK]⟩
theorem splice_at (a b b' t : List Value) (off : Nat) (ha : a.length = off) (hb : b'.length = b.length) : splice (a ++ (b ++ t)) off b' = a ++ (b' ++ t) := by
  subst ha
  simp [splice, List.drop_append, hb]
theorem hc_setK (hK : K.length = 64) (hK' : K'.length = 64) : splice (hc dn mu K st r c) 3 (u32s K') = hc dn mu K' st r c :=
  splice_at [.int .u32 dn, .int .i32 mu, .int .u32 0] (u32s K) (u32s K') _ 3 rfl (by simp [hK, hK'])
theorem hc_setS (hK : K.length = 64) (hs : st.length = 8) (hs' : st'.length = 8) : splice (hc dn mu K st r c) 67 (u32s st') = hc dn mu K st' r c := by
  have := splice_at ([.int .u32 dn, .int .i32 mu, .int .u32 0] ++ u32s K) (u32s st) (u32s st') [r, .int .i64 c] 67 (by simp [hK]) (by simp [hs, hs'])
  simpa [hc] using this
end
attribute [irreducible] hc

/-- the loads and the calls of a region that stores elsewhere -/
def kindF (o : Oper) : K :=
  match o.op with
  | .load .. => .rdf
  | .call { callee := .value (.func _), .. } => .rdf
  | _ => kindOf o

theorem u32s_one (l : List UInt32) : (u32s l).all Value.oneCell' = true := by simp [Value.oneCell']

theorem f114_begin1 (h pb : Nat) (K st : List UInt32) (hK : K.length = 64) (hs : st.length = 8) (r : Value) (c : Int) :
    FnM Try.prog 114 [.pointer (some ⟨pb, 0, none⟩)] [⟨h, hc 0 1 K st r c, true⟩] [⟨pb, [.pointer (some ⟨h, 0, none⟩)], false⟩]
      (fun v es => v = .tuple #[] ∧ es = [⟨h, hc 0 1 roundsS startS r c, true⟩]) := by
  have hr := roundsS_len
  have h8 := startS_len
  refine fnM_of 9 rfl Try.func114 rfl (by kernel_rfl) rfl (by simp) (by simp) fun w may => ?_
  refine Wp.regE kindF mo (by kernel_rfl) ?_
  refine Tr.loadS tab rfl rfl rfl (by first | exact (.head _) | exact (.tail _ (.head _)) | exact (.tail _ (.tail _ (.head _))) | exact (.tail _ (.tail _ (.tail _ (.head _)))) | exact (.tail _ (.tail _ (.tail _ (.tail _ (.head _))))) | exact (.tail _ (.tail _ (.tail _ (.tail _ (.tail _ (.head _)))))) | exact (.tail _ (.tail _ (.tail _ (.tail _ (.tail _ (.tail _ (.head _))))))) | exact (.tail _ (.tail _ (.tail _ (.tail _ (.tail _ (.tail _ (.tail _ (.head _)))))))) | exact (.tail _ (.tail _ (.tail _ (.tail _ (.tail _ (.tail _ (.tail _ (.tail _ (.head _))))))))) | exact (.tail _ (.tail _ (.tail _ (.tail _ (.tail _ (.tail _ (.tail _ (.tail _ (.tail _ (.head _))))))))))) (by first | rfl | with_reducible assumption | assumption | (simp; done)) rfl trivial rfl ?_
  refine Tr.loadS tab rfl rfl rfl (by first | exact (.head _) | exact (.tail _ (.head _)) | exact (.tail _ (.tail _ (.head _))) | exact (.tail _ (.tail _ (.tail _ (.head _)))) | exact (.tail _ (.tail _ (.tail _ (.tail _ (.head _))))) | exact (.tail _ (.tail _ (.tail _ (.tail _ (.tail _ (.head _)))))) | exact (.tail _ (.tail _ (.tail _ (.tail _ (.tail _ (.tail _ (.head _))))))) | exact (.tail _ (.tail _ (.tail _ (.tail _ (.tail _ (.tail _ (.tail _ (.head _)))))))) | exact (.tail _ (.tail _ (.tail _ (.tail _ (.tail _ (.tail _ (.tail _ (.tail _ (.head _))))))))) | exact (.tail _ (.tail _ (.tail _ (.tail _ (.tail _ (.tail _ (.tail _ (.tail _ (.tail _ (.head _))))))))))) (by first | rfl | with_reducible assumption | assumption | (simp; done)) rfl trivial rfl ?_
  refine Tr.call rfl f27_rounds (by repeat (first | exact Has.nil | refine Has.cons (by first | exact (.head _) | exact (.tail _ (.head _)) | exact (.tail _ (.tail _ (.head _))) | exact (.tail _ (.tail _ (.tail _ (.head _)))) | exact (.tail _ (.tail _ (.tail _ (.tail _ (.head _))))) | exact (.tail _ (.tail _ (.tail _ (.tail _ (.tail _ (.head _)))))) | exact (.tail _ (.tail _ (.tail _ (.tail _ (.tail _ (.tail _ (.head _))))))) | exact (.tail _ (.tail _ (.tail _ (.tail _ (.tail _ (.tail _ (.tail _ (.head _)))))))) | exact (.tail _ (.tail _ (.tail _ (.tail _ (.tail _ (.tail _ (.tail _ (.tail _ (.head _))))))))) | exact (.tail _ (.tail _ (.tail _ (.tail _ (.tail _ (.tail _ (.tail _ (.tail _ (.tail _ (.head _))))))))))) ?_)) rfl trivial rfl ?_
  refine Tr.call rfl f26_start (by repeat (first | exact Has.nil | refine Has.cons (by first | exact (.head _) | exact (.tail _ (.head _)) | exact (.tail _ (.tail _ (.head _))) | exact (.tail _ (.tail _ (.tail _ (.head _)))) | exact (.tail _ (.tail _ (.tail _ (.tail _ (.head _))))) | exact (.tail _ (.tail _ (.tail _ (.tail _ (.tail _ (.head _)))))) | exact (.tail _ (.tail _ (.tail _ (.tail _ (.tail _ (.tail _ (.head _))))))) | exact (.tail _ (.tail _ (.tail _ (.tail _ (.tail _ (.tail _ (.tail _ (.head _)))))))) | exact (.tail _ (.tail _ (.tail _ (.tail _ (.tail _ (.tail _ (.tail _ (.tail _ (.head _))))))))) | exact (.tail _ (.tail _ (.tail _ (.tail _ (.tail _ (.tail _ (.tail _ (.tail _ (.tail _ (.head _))))))))))) ?_)) rfl trivial rfl ?_
  refine Tr.nilCheck rfl rfl trivial rfl ?_
  refine Tr.fieldAddr tab rfl rfl rfl rfl rfl rfl rfl trivial rfl ?_
  refine Tr.store (vs := u32s roundsS) tab rfl rfl rfl rfl (by first | exact .here | exact (.there .here) | exact (.there (.there .here)) | exact (.there (.there (.there .here))) | exact (.there (.there (.there (.there .here)))) | exact (.there (.there (.there (.there (.there .here))))) | exact (.there (.there (.there (.there (.there (.there .here)))))) | exact (.there (.there (.there (.there (.there (.there (.there .here))))))) | exact (.there (.there (.there (.there (.there (.there (.there (.there .here)))))))) | exact (.there (.there (.there (.there (.there (.there (.there (.there (.there .here)))))))))) (by simp [hr]) (by rw [hc_len hK hs]; simp [hr]) (hc_setK hK hr) (u32s_one _) trivial rfl ?_
  refine Tr.nilCheck rfl rfl trivial rfl ?_
  refine Tr.fieldAddr tab rfl rfl rfl rfl rfl rfl rfl trivial rfl ?_
  refine Tr.store (vs := u32s startS) tab rfl rfl rfl rfl (by first | exact .here | exact (.there .here) | exact (.there (.there .here)) | exact (.there (.there (.there .here))) | exact (.there (.there (.there (.there .here)))) | exact (.there (.there (.there (.there (.there .here))))) | exact (.there (.there (.there (.there (.there (.there .here)))))) | exact (.there (.there (.there (.there (.there (.there (.there .here))))))) | exact (.there (.there (.there (.there (.there (.there (.there (.there .here)))))))) | exact (.there (.there (.there (.there (.there (.there (.there (.there (.there .here)))))))))) (by simp [h8]) (by rw [hc_len hr hs]; simp [h8]) (hc_setS hr hs h8) (u32s_one _) trivial rfl ?_
  refine Tr.nil ?_ (fun _ => rfl) (List.Perm.refl _)
  exact ⟨.inl rfl, _, _, ⟨rfl, rfl⟩, .r0 rfl, (by repeat (first | exact MSub.nil | refine MSub.cons (by first | exact .here | exact (.there .here) | exact (.there (.there .here)) | exact (.there (.there (.there .here))) | exact (.there (.there (.there (.there .here)))) | exact (.there (.there (.there (.there (.there .here))))) | exact (.there (.there (.there (.there (.there (.there .here)))))) | exact (.there (.there (.there (.there (.there (.there (.there .here))))))) | exact (.there (.there (.there (.there (.there (.there (.there (.there .here)))))))) | exact (.there (.there (.there (.there (.there (.there (.there (.there (.there .here)))))))))) (by first | rfl | (simp; done)) ?_)), by simp⟩

/-! ### the atomics and the Once, as contracts -/
theorem f74_raw (a : Addr) (x : Int) (w : World) (h : w.cell? a = some (.int .i64 x)) :
    Calls Try.prog 74 #[.pointer (some a)] w fun e w' => e = .returned (.int .i64 x) ∧ w' = w := by
  have hl := run_call_load (P := Try.prog) Try.func117 (by kernel_rfl) (by kernel_rfl) (by kernel_rfl) .i64 (by kernel_rfl) h
  go_enter Try.func74, Try.ntmps74
  go_wp2
  go_ret
  exact ⟨rfl, rfl⟩

theorem f71_raw (a : Addr) (x y s : Int) (w : World) (hc : w.cell? a = some (.int .i64 x)) (hz : w.frozen? a = false) (hs : IntKind.i64.wrap (x + y) = s) :
    Calls Try.prog 71 #[.pointer (some a), .int .i64 y] w fun e w' => e = .returned (.int .i64 s) ∧ w' = w.setCell a (.int .i64 s) := by
  have hl := run_call_add (P := Try.prog) Try.func115 (by kernel_rfl) (by kernel_rfl) (by kernel_rfl) .i64 (by kernel_rfl) (y := y) (s := s) hc hz (by simp [go_sem, hs])
  go_enter Try.func71, Try.ntmps71
  go_wp2
  go_ret
  exact ⟨rfl, rfl⟩

theorem f74_load (b : Nat) (c : List Value) (off : Nat) (x : Int) (h : c[off]? = some (.int .i64 x)) : FnR Try.prog 74 [.pointer (some ⟨b, off, none⟩)] [⟨b, c, false⟩] (i64 x) :=
  ⟨⟨_, Try.func74, by kernel_rfl, rfl⟩, fun w hw => (f74_raw ⟨b, off, none⟩ x w ((hw ⟨b, c, false⟩ (by simp)).cell h)).mono (by rintro e w' ⟨rfl, rfl⟩; exact ⟨rfl, Go.RowKit.Below.refl _ _⟩)⟩

theorem frX_set {w : World} {a : Addr} {v : Value} {wr : List Ent} (h : ∃ e, e ∈ wr ∧ e.b = a.block) : FrX wr w (w.setCell a v) := by
  have := Wr.setCell w a v
  obtain ⟨e, h1, h2⟩ := h
  exact ⟨this.os, this.tape, this.output, Nat.le_of_eq this.size.symm, fun k _ hk => this.block k (fun hh => hk e h1 (h2.trans hh.symm))⟩

theorem f71_add (b : Nat) (c : List Value) (off : Nat) (x y s : Int) (h : c[off]? = some (.int .i64 x)) (hs : IntKind.i64.wrap (x + y) = s) :
    FnM Try.prog 71 [.pointer (some ⟨b, off, none⟩), .int .i64 y] [⟨b, c, true⟩] [] (fun v es => v = .int .i64 s ∧ es = [⟨b, c.set off (.int .i64 s), true⟩]) := by
  have hlt : off < c.length := by
    rcases Nat.lt_or_ge off c.length with h' | h'
    · exact h'
    · rw [List.getElem?_eq_none h'] at h; cases h
  refine ⟨⟨_, Try.func71, by kernel_rfl, rfl⟩, by simp, fun w hw _ => ?_⟩
  have he := hw ⟨b, c, true⟩ (by simp)
  refine (f71_raw ⟨b, off, none⟩ x y s w (he.cell h) (he.notFrozen hlt) hs).mono ?_
  rintro e w' ⟨rfl, rfl⟩
  refine ⟨_, _, rfl, ⟨rfl, rfl⟩, frX_set ⟨⟨b, c, true⟩, by simp, rfl⟩, ?_, by simp⟩
  intro x hx
  simp only [List.mem_singleton] at hx
  subst hx
  refine ⟨(he.setCell off _).resolve_right (by simp; omega), rfl, .inl ⟨⟨b, c, true⟩, by simp, rfl⟩⟩

theorem FrX.trans {wr : List Ent} {w1 w2 w3 : World} (h : FrX wr w1 w2) (h' : FrX wr w2 w3) : FrX wr w1 w3 :=
  ⟨h'.os.trans h.os, h'.tape.trans h.tape, h'.output.trans h.output, Nat.le_trans h.size h'.size, fun k hk hw => (h'.block k (Nat.lt_of_lt_of_le hk h.size) hw).trans (h.block k hk hw)⟩

theorem FrX.drew (wr : List Ent) (w : World) : FrX wr w w.drew := ⟨rfl, rfl, rfl, Nat.le_refl _, fun _ _ _ => rfl⟩

theorem Ent.holds_drew {e : Ent} {w : World} (h : e.holds w) : e.holds w.drew := h

theorem hin114 : ∀ args w, (callFunc 114 args).run Try.prog w = .ok (.enter 114 args) w := fun args w => MuLone.run_callFunc_enter (P := Try.prog) Try.func114 (by kernel_rfl) rfl args w

/-- Do, the first time -/
theorem f113_first (h pb : Nat) (K st : List UInt32) (hK : K.length = 64) (hs : st.length = 8) (r : Value) (c : Int) :
    FnM Try.prog 113 [.pointer (some ⟨h, 0, none⟩), .func (.func 114) #[] #[.pointer (some ⟨pb, 0, none⟩)]] [⟨h, hc 0 0 K st r c, true⟩] [⟨pb, [.pointer (some ⟨h, 0, none⟩)], false⟩]
      (fun v es => v = .tuple #[] ∧ es = [⟨h, hc 1 0 roundsS startS r c, true⟩]) := by
  have h114 := f114_begin1 h pb K st hK hs r c
  refine ⟨⟨_, Try.func113, by kernel_rfl, rfl⟩, by simp, fun w hw hdis => ?_⟩
  have he := hw ⟨h, hc 0 0 K st r c, true⟩ (by simp)
  have hp := hw ⟨pb, [.pointer (some ⟨h, 0, none⟩)], false⟩ (by simp)
  have hne : h ≠ pb := by
    have := (List.pairwise_cons.1 hdis).1 ⟨pb, [.pointer (some ⟨h, 0, none⟩)], false⟩ (by simp) (.inl rfl)
    exact this
  have hl := hc_len (dn := 0) (mu := 0) (r := r) (c := c) hK hs
  have he1 : Ent.holds ⟨h, hc 0 1 K st r c, true⟩ (w.setCell ⟨h, 1, none⟩ (.int .i32 1)) := by
    have := (he.setCell 1 (.int .i32 1)).resolve_right (by simp only [hl]; omega)
    simpa only [hc_set1] using this
  have hp1 : Ent.holds ⟨pb, [.pointer (some ⟨h, 0, none⟩)], false⟩ (w.setCell ⟨h, 1, none⟩ (.int .i32 1)) := Ent.holds_wr hp (Wr.setCell w ⟨h, 1, none⟩ _) (fun e => hne e.symm)
  have hcl := h114.calls (w.setCell ⟨h, 1, none⟩ (.int .i32 1)) (by
    intro e hx
    simp only [List.cons_append, List.nil_append, List.mem_cons, List.not_mem_nil, or_false] at hx
    rcases hx with rfl | rfl
    · exact he1
    · exact hp1) (by simp [Dis, hne])
  have f1 := frX_set (w := w) (a := ⟨h, 1, none⟩) (v := .int .i32 1) (wr := [⟨h, hc 0 0 K st r c, true⟩]) ⟨_, List.mem_singleton.2 rfl, rfl⟩
  have key : ∀ w2 : World, (FrX [⟨h, hc 0 1 K st r c, true⟩] (w.setCell ⟨h, 1, none⟩ (.int .i32 1)) w2 ∧ Ent.holds ⟨h, hc 0 1 roundsS startS r c, true⟩ w2) → _ := fun w2 hw2 => hw2
  have hl2 := hc_len (dn := 0) (mu := 1) (r := r) (c := c) roundsS_len startS_len
  refine (once_first h ⟨pb, 0, none⟩ w (fun w2 => FrX [⟨h, hc 0 1 K st r c, true⟩] (w.setCell ⟨h, 1, none⟩ (.int .i32 1)) w2 ∧ Ent.holds ⟨h, hc 0 1 roundsS startS r c, true⟩ w2) 114 hin114
    (he.cell (off := 0) hc_get0) (he.cell (off := 1) hc_get1) (he.notFrozen (off := 1) (by simp only [hl]; omega)) (hcl.mono ?_) ?_).mono ?_
  · rintro e w' ⟨v, es, rfl, ⟨rfl, rfl⟩, q1, q2, _⟩
    exact ⟨rfl, q1, (q2 _ (List.mem_singleton.2 rfl)).1⟩
  · rintro w' ⟨_, q⟩
    exact ⟨q.cell (off := 0) hc_get0, q.cell (off := 1) hc_get1, q.notFrozen (off := 0) (by simp only [hl2]; omega), q.notFrozen (off := 1) (by simp only [hl2]; omega)⟩
  · rintro e w' ⟨rfl, w2, ⟨q1, q2⟩, rfl⟩
    have s0 := (Ent.holds_drew q2).setCell 0 (.int .u32 1)
    have s0' := s0.resolve_right (by simp only [hl2]; omega)
    simp only [hc_set0] at s0'
    have hl3 := hc_len (dn := 1) (mu := 1) (r := r) (c := c) roundsS_len startS_len
    have s1 := (s0'.setCell 1 (.int .i32 0)).resolve_right (by simp only [hl3]; omega)
    simp only [hc_set1] at s1
    refine ⟨_, _, rfl, ⟨rfl, rfl⟩, ?_, ?_, by simp [Dis]⟩
    · have q1' : FrX [⟨h, hc 0 0 K st r c, true⟩] (w.setCell ⟨h, 1, none⟩ (.int .i32 1)) w2 :=
        ⟨q1.os, q1.tape, q1.output, q1.size, fun k hk hh => q1.block k hk (fun e hx => by simp only [List.mem_singleton] at hx; subst hx; exact hh ⟨h, hc 0 0 K st r c, true⟩ (List.mem_singleton.2 rfl))⟩
      exact (((f1.trans q1').trans (FrX.drew _ _)).trans (frX_set ⟨_, List.mem_singleton.2 rfl, rfl⟩)).trans (frX_set ⟨_, List.mem_singleton.2 rfl, rfl⟩)
    · intro x hx
      simp only [List.mem_singleton] at hx
      subst hx
      exact ⟨s1, rfl, .inl ⟨_, List.mem_singleton.2 rfl, rfl⟩⟩

/-- Do, done already -/
theorem f113_again (h pb : Nat) (K st : List UInt32) (r : Value) (c : Int) :
    FnR Try.prog 113 [.pointer (some ⟨h, 0, none⟩), .func (.func 114) #[] #[.pointer (some ⟨pb, 0, none⟩)]] [⟨h, hc 1 0 K st r c, false⟩] (.tuple #[]) :=
  ⟨⟨_, Try.func113, by kernel_rfl, rfl⟩, fun w hw => (once_done ⟨h, 0, none⟩ 1 (by decide) _ w ((hw _ (List.mem_singleton.2 rfl)).cell (off := 0) hc_get0)).mono (by rintro e w' ⟨rfl, rfl⟩; exact ⟨rfl, Go.RowKit.Below.refl _ _⟩)⟩

/-- begin, the first time -/
theorem f70_first (h : Nat) (K st : List UInt32) (hK : K.length = 64) (hs : st.length = 8) (r : Value) (c : Int) :
    FnM Try.prog 70 [.pointer (some ⟨h, 0, none⟩)] [⟨h, hc 0 0 K st r c, true⟩] []
      (fun v es => v = .tuple #[] ∧ es = [⟨h, hc 1 0 roundsS startS r c, true⟩]) := by
  refine fnM_of 7 rfl Try.func70 rfl (by kernel_rfl) rfl (by simp) (by simp) fun w may => ?_
  refine Wp.seq ?_
  refine Wp.reg allGen ?_
  refine Tr.box rfl rfl rfl trivial rfl (fun B1 _ => ?_)
  refine Tr.nil ?_ (fun _ => rfl) (List.Perm.refl _)
  refine Wp.reg allGen ?_
  refine Tr.loadS tab rfl rfl rfl (by first | exact (.head _) | exact (.tail _ (.head _)) | exact (.tail _ (.tail _ (.head _))) | exact (.tail _ (.tail _ (.tail _ (.head _)))) | exact (.tail _ (.tail _ (.tail _ (.tail _ (.head _))))) | exact (.tail _ (.tail _ (.tail _ (.tail _ (.tail _ (.head _)))))) | exact (.tail _ (.tail _ (.tail _ (.tail _ (.tail _ (.tail _ (.head _))))))) | exact (.tail _ (.tail _ (.tail _ (.tail _ (.tail _ (.tail _ (.tail _ (.head _)))))))) | exact (.tail _ (.tail _ (.tail _ (.tail _ (.tail _ (.tail _ (.tail _ (.tail _ (.head _))))))))) | exact (.tail _ (.tail _ (.tail _ (.tail _ (.tail _ (.tail _ (.tail _ (.tail _ (.tail _ (.head _))))))))))) (by first | rfl | with_reducible assumption | assumption | (simp; done)) rfl trivial rfl ?_
  refine Tr.nilCheck rfl rfl trivial rfl ?_
  refine Tr.fieldAddr tab rfl rfl rfl rfl rfl rfl rfl trivial rfl ?_
  refine Tr.makeFunc1 rfl rfl trivial rfl ?_
  refine Tr.callM rfl (f113_first h _ K st hK hs r c) (Take.cons (by first | exact .here | exact (.there .here) | exact (.there (.there .here)) | exact (.there (.there (.there .here))) | exact (.there (.there (.there (.there .here)))) | exact (.there (.there (.there (.there (.there .here))))) | exact (.there (.there (.there (.there (.there (.there .here)))))) | exact (.there (.there (.there (.there (.there (.there (.there .here))))))) | exact (.there (.there (.there (.there (.there (.there (.there (.there .here)))))))) | exact (.there (.there (.there (.there (.there (.there (.there (.there (.there .here)))))))))) Take.nil) (by repeat (first | exact Has.nil | refine Has.cons (by first | exact (.head _) | exact (.tail _ (.head _)) | exact (.tail _ (.tail _ (.head _))) | exact (.tail _ (.tail _ (.tail _ (.head _)))) | exact (.tail _ (.tail _ (.tail _ (.tail _ (.head _))))) | exact (.tail _ (.tail _ (.tail _ (.tail _ (.tail _ (.head _)))))) | exact (.tail _ (.tail _ (.tail _ (.tail _ (.tail _ (.tail _ (.head _))))))) | exact (.tail _ (.tail _ (.tail _ (.tail _ (.tail _ (.tail _ (.tail _ (.head _)))))))) | exact (.tail _ (.tail _ (.tail _ (.tail _ (.tail _ (.tail _ (.tail _ (.tail _ (.head _))))))))) | exact (.tail _ (.tail _ (.tail _ (.tail _ (.tail _ (.tail _ (.tail _ (.tail _ (.tail _ (.head _))))))))))) ?_)) (by simp) (by simp) rfl trivial rfl ?_
  rintro _ _ ⟨rfl, rfl⟩
  refine Tr.nil ?_ (fun _ => rfl) (List.Perm.refl _)
  exact ⟨.inl rfl, _, _, ⟨rfl, rfl⟩, .r0 rfl, (by repeat (first | exact MSub.nil | refine MSub.cons (by first | exact .here | exact (.there .here) | exact (.there (.there .here)) | exact (.there (.there (.there .here))) | exact (.there (.there (.there (.there .here)))) | exact (.there (.there (.there (.there (.there .here))))) | exact (.there (.there (.there (.there (.there (.there .here)))))) | exact (.there (.there (.there (.there (.there (.there (.there .here))))))) | exact (.there (.there (.there (.there (.there (.there (.there (.there .here)))))))) | exact (.there (.there (.there (.there (.there (.there (.there (.there (.there .here)))))))))) (by first | rfl | (simp; done)) ?_)), by simp⟩

/-- begin, done already -/
theorem f70_again (h : Nat) (K st : List UInt32) (r : Value) (c : Int) :
    FnR Try.prog 70 [.pointer (some ⟨h, 0, none⟩)] [⟨h, hc 1 0 K st r c, false⟩] (.tuple #[]) := by
  refine fnR_of 7 rfl Try.func70 rfl (by kernel_rfl) rfl (by simp) fun w => ?_
  refine Wp.seq ?_
  refine Wp.reg allGen ?_
  refine Tr.box rfl rfl rfl trivial rfl (fun B1 _ => ?_)
  refine Tr.nil ?_ (fun _ => rfl) (List.Perm.refl _)
  refine Wp.reg allGen ?_
  refine Tr.loadS tab rfl rfl rfl (by first | exact (.head _) | exact (.tail _ (.head _)) | exact (.tail _ (.tail _ (.head _))) | exact (.tail _ (.tail _ (.tail _ (.head _)))) | exact (.tail _ (.tail _ (.tail _ (.tail _ (.head _))))) | exact (.tail _ (.tail _ (.tail _ (.tail _ (.tail _ (.head _)))))) | exact (.tail _ (.tail _ (.tail _ (.tail _ (.tail _ (.tail _ (.head _))))))) | exact (.tail _ (.tail _ (.tail _ (.tail _ (.tail _ (.tail _ (.tail _ (.head _)))))))) | exact (.tail _ (.tail _ (.tail _ (.tail _ (.tail _ (.tail _ (.tail _ (.tail _ (.head _))))))))) | exact (.tail _ (.tail _ (.tail _ (.tail _ (.tail _ (.tail _ (.tail _ (.tail _ (.tail _ (.head _))))))))))) (by first | rfl | with_reducible assumption | assumption | (simp; done)) rfl trivial rfl ?_
  refine Tr.nilCheck rfl rfl trivial rfl ?_
  refine Tr.fieldAddr tab rfl rfl rfl rfl rfl rfl rfl trivial rfl ?_
  refine Tr.makeFunc1 rfl rfl trivial rfl ?_
  refine Tr.call rfl (f113_again h _ K st r c) (by repeat (first | exact Has.nil | refine Has.cons (by first | exact (.head _) | exact (.tail _ (.head _)) | exact (.tail _ (.tail _ (.head _))) | exact (.tail _ (.tail _ (.tail _ (.head _)))) | exact (.tail _ (.tail _ (.tail _ (.tail _ (.head _))))) | exact (.tail _ (.tail _ (.tail _ (.tail _ (.tail _ (.head _)))))) | exact (.tail _ (.tail _ (.tail _ (.tail _ (.tail _ (.tail _ (.head _))))))) | exact (.tail _ (.tail _ (.tail _ (.tail _ (.tail _ (.tail _ (.tail _ (.head _)))))))) | exact (.tail _ (.tail _ (.tail _ (.tail _ (.tail _ (.tail _ (.tail _ (.tail _ (.head _))))))))) | exact (.tail _ (.tail _ (.tail _ (.tail _ (.tail _ (.tail _ (.tail _ (.tail _ (.tail _ (.head _))))))))))) ?_)) rfl trivial rfl ?_
  refine Tr.nil ?_ (fun _ => rfl) (List.Perm.refl _)
  refine ⟨by first | exact .inl rfl | exact .inr rfl, ?_⟩
  exact .r0 rfl
end Go.Proofs.Ytffghaeaohabhaa.AW
