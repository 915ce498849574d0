import Derived.Test.YtffghaeaohabhaaS9
namespace Go.Proofs.Ytffghaeaohabhaa.AW
open Go Go.Proofs
set_option maxRecDepth 100000
attribute [local irreducible] blockS W8.bytes

/-- the digest -/
def sumS (d : List UInt8) : List UInt8 := (blocksS roundsS ((d ++ padS d.length).length / 64) start8 (d ++ padS d.length)).bytes

theorem padS_len (n : Nat) : (padS n).length = padZ n + 9 := by simp [padS, beN_len]

theorem sum_parts (d : List UInt8) : blocksS roundsS ((d.drop (64 * (d.length / 64)) ++ padS d.length).length / 64) (blocksS roundsS (d.length / 64) start8 d) (d.drop (64 * (d.length / 64)) ++ padS d.length) =
    blocksS roundsS ((d ++ padS d.length).length / 64) start8 (d ++ padS d.length) := by
  have h1 : (d ++ padS d.length).length / 64 = d.length / 64 + (d.drop (64 * (d.length / 64)) ++ padS d.length).length / 64 := by
    simp only [List.length_append, List.length_drop]
    omega
  rw [h1, blocksS_add, blocksS_app roundsS (d.length / 64) start8 d _ (by omega), List.drop_append_of_le_length (by omega)]

section
variable (a0 : Option Addr) (dd : List UInt8) (cp : Nat) (rd : List Ent) (hsrc : Src a0 dd cp rd) (hrd : ∀ e, e ∈ rd → e.rw = false)
include hsrc hrd

theorem f33_write0 (h : Nat) (hd : dd.length ≤ 1099511627776) : FnM Try.prog 33 [.pointer (some ⟨h, 0, none⟩), .slice a0 dd.length cp] [⟨h, hc 0 0 (List.replicate 64 0) (List.replicate 8 0) (.slice none 0 0) 0, true⟩] rd (WriteR h start8 dd dd.length) := by
  have := f33_write h (s := start8) (dn := 0) (K := List.replicate 64 0) (st := List.replicate 8 0) (.inl ⟨rfl, rfl, rfl, rfl⟩) 0 (by decide) (by decide) a0 dd cp rd hsrc hrd [] (.slice none 0 0) [] (.inl ⟨rfl, rfl, rfl⟩) (by simpa using hd)
  simpa only [List.nil_append, Int.zero_add] using this

theorem f30_sum (hd : dd.length ≤ 1099511627776) : FnR Try.prog 30 [.slice a0 dd.length cp] rd (.agg (u8s (sumS dd)).toArray) := by
  have hres : sumS dd = (blocksS roundsS ((dd.drop (64 * (dd.length / 64)) ++ padS dd.length).length / 64) (blocksS roundsS (dd.length / 64) start8 dd) (dd.drop (64 * (dd.length / 64)) ++ padS dd.length)).bytes := by
    rw [sum_parts]; rfl
  have hl32 : ∀ s : W8, (u8s s.bytes).length = 32 := fun s => by unfold W8.bytes; rfl
  have hone : ∀ l : List UInt8, (u8s l).all Value.oneCell' = true := fun l => by simp [Value.oneCell']
  rw [hres]
  refine fnR_of 10 rfl Try.func30 rfl (by kernel_rfl) rfl hrd fun w => ?_
  refine Wp.seq ?_
  refine Wp.reg allGen ?_
  refine Tr.alloc tab rfl rfl trivial rfl (fun B2 _ => ?_)
  refine Tr.nil ?_ (fun _ => rfl) (List.Perm.refl _)
  refine Wp.seq ?_
  refine Wp.reg allGen ?_
  refine Tr.callG rfl f32_new (by repeat (first | exact Has.nil | refine Has.cons (by first | exact (.head _) | exact (.tail _ (.head _)) | exact (.tail _ (.tail _ (.head _))) | exact (.tail _ (.tail _ (.tail _ (.head _)))) | exact (.tail _ (.tail _ (.tail _ (.tail _ (.head _))))) | exact (.tail _ (.tail _ (.tail _ (.tail _ (.tail _ (.head _)))))) | exact (.tail _ (.tail _ (.tail _ (.tail _ (.tail _ (.tail _ (.head _))))))) | exact (.tail _ (.tail _ (.tail _ (.tail _ (.tail _ (.tail _ (.tail _ (.head _)))))))) | exact (.tail _ (.tail _ (.tail _ (.tail _ (.tail _ (.tail _ (.tail _ (.tail _ (.head _))))))))) | exact (.tail _ (.tail _ (.tail _ (.tail _ (.tail _ (.tail _ (.tail _ (.tail _ (.tail _ (.head _))))))))))) ?_)) rfl trivial rfl ?_
  rintro _ _ ⟨h, rfl, rfl⟩
  refine Tr.assign rfl rfl trivial rfl ?_
  refine Tr.nil ?_ (fun _ => rfl) (List.Perm.refl _)
  refine Wp.seq ?_
  refine Wp.reg allGen ?_
  refine Tr.move rfl rfl trivial rfl ?_
  refine Tr.move rfl rfl trivial rfl ?_
  refine Tr.callM' rfl (f33_write0 a0 dd cp rd hsrc hrd h hd) (Take.cons (by first | exact .here | exact (.there .here) | exact (.there (.there .here)) | exact (.there (.there (.there .here))) | exact (.there (.there (.there (.there .here)))) | exact (.there (.there (.there (.there (.there .here))))) | exact (.there (.there (.there (.there (.there (.there .here)))))) | exact (.there (.there (.there (.there (.there (.there (.there .here))))))) | exact (.there (.there (.there (.there (.there (.there (.there (.there .here)))))))) | exact (.there (.there (.there (.there (.there (.there (.there (.there (.there .here)))))))))) Take.nil) (Has.sub (by intro e he; repeat (first | exact he | refine .tail _ ?_))) hrd (Dis.ro hrd) rfl trivial rfl ?_
  rintro _ _ ⟨rfl, rv, es, hfr, rfl⟩
  refine Tr.nil ?_ (fun _ => rfl) (List.Perm.refl _)
  refine Wp.seq ?_
  refine Wp.reg allGen ?_
  refine Tr.move rfl rfl trivial rfl ?_
  refine Tr.callM' rfl (f34_sum h (s := blocksS roundsS (dd.length / 64) start8 dd) (.inr ⟨rfl, rfl, rfl⟩) dd.length hd (dd.drop (64 * (dd.length / 64))) rv es hfr (by simp only [List.length_drop]; omega) (by simp only [List.length_drop]; omega)) (Take.appR _ _) Has.nil (by simp) (by simp) rfl trivial rfl ?_
  rintro _ _ ⟨rfl, rfl⟩
  refine Tr.storeA tab rfl rfl rfl (by first | exact .here | exact (.there .here) | exact (.there (.there .here)) | exact (.there (.there (.there .here))) | exact (.there (.there (.there (.there .here)))) | exact (.there (.there (.there (.there (.there .here))))) | exact (.there (.there (.there (.there (.there (.there .here)))))) | exact (.there (.there (.there (.there (.there (.there (.there .here))))))) | exact (.there (.there (.there (.there (.there (.there (.there (.there .here)))))))) | exact (.there (.there (.there (.there (.there (.there (.there (.there (.there .here)))))))))) (by with_reducible exact hl32 _) (by first | with_reducible exact (hl32 _).trans (hl32 _).symm | exact (hl32 _)) (hone _) trivial rfl ?_
  refine Tr.nil ?_ (fun _ => rfl) (List.Perm.refl _)
  refine Wp.ret ?_
  exact ⟨.inr rfl, .r1 rfl (RvIs.cellA tab rfl rfl rfl (by first | exact (.head _) | exact (.tail _ (.head _)) | exact (.tail _ (.tail _ (.head _))) | exact (.tail _ (.tail _ (.tail _ (.head _)))) | exact (.tail _ (.tail _ (.tail _ (.tail _ (.head _))))) | exact (.tail _ (.tail _ (.tail _ (.tail _ (.tail _ (.head _)))))) | exact (.tail _ (.tail _ (.tail _ (.tail _ (.tail _ (.tail _ (.head _))))))) | exact (.tail _ (.tail _ (.tail _ (.tail _ (.tail _ (.tail _ (.tail _ (.head _)))))))) | exact (.tail _ (.tail _ (.tail _ (.tail _ (.tail _ (.tail _ (.tail _ (.tail _ (.head _))))))))) | exact (.tail _ (.tail _ (.tail _ (.tail _ (.tail _ (.tail _ (.tail _ (.tail _ (.tail _ (.head _))))))))))) (At.all _) (by with_reducible exact hl32 _))⟩
end
end Go.Proofs.Ytffghaeaohabhaa.AW
