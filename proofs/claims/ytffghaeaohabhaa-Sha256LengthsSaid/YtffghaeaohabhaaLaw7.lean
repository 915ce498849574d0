/-
  Padded bytes are a multiple of 64, begin with the bytes, have at most 72 more, and unlike lengths are padded unlike: Sha256Lengths returns true at every row of bytes, and the row reads as it did. No condition.
-/
import Derived.Test.YtffghaeaohabhaaL7
import Derived.Test.YtffghaeaohabhaaLw
import Derived.Test.YtffghaeaohabhaaIo
namespace Go.Proofs.Ytffghaeaohabhaa
open Go Go.ChangeShapes Go.WideShapes Go.ChangeAt Go.RowKit

namespace L7
theorem own : ownKnob Try.prog.godebug = none := by kernel_rfl

theorem walk (a0 : Option Addr) (dd : List UInt8) (cp : Nat) (rd : List AW.Ent) (hsrc : AW.Src a0 dd cp rd) (hrd : ∀ e, e ∈ rd → e.rw = false) (hl : dd.length ≤ maxLen) :
    AW.FnR Try.prog 7 [.slice a0 dd.length cp] rd (.bool true) := by
  have hm : maxLen ≤ 9223372036854775807 := by decide
  by_cases h : dd.length ≤ 5000
  · exact AW.f7_lengths a0 dd cp rd hsrc hrd h
  · exact AW.f7_far a0 dd cp rd hrd (by omega) (by omega)

set_option maxRecDepth 100000 in
theorem lifted (os : Os) (started : os.Started) (H : Type) (enc : TypeId × Value → H) :
    ReturnsInHanded {} Try.checked os 7 .any (Rows.sha256LengthsSpec.pre6 enc Try.prog Try.f7 Rows.sha256LengthsRow.domain false) (Rows.sha256LengthsSpec.post enc Try.prog Try.f7 false true false false) := by
  refine returnsInHanded_of_change (C := Try.checked) own started (by kernel_rfl) Try.func7
    (ChangeSpec.witness6 (enc := enc) (C := Try.checked) false ⟨#[], #[.slice none 0 0], []⟩ 8 (by kernel_rfl) (by kernel_rfl) (by kernel_rfl) (by kernel_rfl)) ?_
  intro W base args ds gs before hval0 hW hcnd _
  have hval : ∀ (j : Nat) t v, Try.f7.params[j]? = some t → args[j]? = some v → Value.okWide Try.prog W .any base t v := hval0
  have hW' := hW
  obtain ⟨p, q, hA0, hV, rfl, hfz, hnd⟩ := hW
  have hA : DataW.TrodAll enc Try.prog W 0 (fun _ => true) true Try.f7.params.toList args.toList ds p := hA0
  rw [Try.params7] at hA hval
  obtain ⟨v0, d0, rfl, rfl, h0⟩ := trodAll_one hA
  obtain ⟨rfl, rfl⟩ := trodVars_none hV
  obtain ⟨a0, dd, cp, rd, rfl, hsrc, hrd, hholds, hlen⟩ := AW.bytes_in (hval 0 36 v0 rfl rfl) h0
  clear hA0 hval0
  simp only [List.append_nil] at hW'
  have hlt : ∀ x ∈ p, x.block < W.heap.size := fun x hx => by simpa using hW'.lt x hx
  refine ((walk a0 dd cp rd hsrc hrd hlen).calls W hholds).mono fun e W' ⟨he, hb⟩ => ?_
  subst he
  refine ⟨_, rfl, _, _, _, [], p, [], hW', trodAll_mk1 (shut_bool Try.underlying4 _), trodAll_mk1 (Below.trod AW.laidOutTry (by kernel_rfl) (of_decide_eq_true (by kernel_rfl)) h0 hb hlt), rfl, hb.frame _, fun h => by cases h⟩

theorem j1 : Rows.sha256LengthsRow.wf (OpenSpec.ofChange Rows.sha256LengthsSpec) = true := by kernel_rfl
theorem j2 : (Rows.sha256LengthsRow.inPlace == Try.prog.inPlace 7) = true := by kernel_rfl
theorem j3 : (Rows.sha256LengthsRow.unfollowed == Try.prog.unfollowed 7) = true := by kernel_rfl
theorem j4 : (Rows.sha256LengthsRow.recurses == Try.prog.recurses 7) = true := by kernel_rfl
theorem j5 : (Rows.sha256LengthsRow.named == Try.prog.varsNamed 7) = true := by kernel_rfl
theorem j6 : (Rows.sha256LengthsRow.lifted == Try.prog.liftsFinal) = true := by rw [AW.liftsFinal_ok]; rfl
theorem j7 : (Try.prog.make == some Rows.sha256LengthsRow.make) = true := by rw [AW.make_ok]; rfl

theorem joined : joinedFacts Try.prog 7 Try.f7 Rows.sha256LengthsSpec Rows.sha256LengthsRow = true := by
  unfold joinedFacts
  rw [j1, j2, j3, j4, j5, j6, j7, AW.mayEnter_ok]
  kernel_rfl

theorem over : Rows.sha256LengthsRow.holds Try.pinned (OpenSpec.ofChange Rows.sha256LengthsSpec) :=
  OpenClaim.holds_of_wide 7 Try.f7 rfl rfl rfl rfl rfl rfl rfl ⟨rfl, rfl, rfl, rfl, rfl⟩ rfl rfl rfl rfl rfl (by kernel_rfl) Try.func7 joined
    (of_decide_eq_true (by kernel_rfl)) (by unfold Func.isWrapper; rw [if_neg (of_decide_eq_false (by kernel_rfl))]; exact ⟨rfl, rfl⟩)
    (fun os started H enc _ => lifted os started H enc)
end L7

theorem sha256Lengths_holds : Rows.Sha256LengthsSaid := L7.over
#print axioms sha256Lengths_holds
end Go.Proofs.Ytffghaeaohabhaa
