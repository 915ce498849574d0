/-
  Primes are the document's, or refused, and so are the constants: Sha256Constants returns true at every number. No condition.
-/
import Derived.Test.YtffghaeaohabhaaL3
import Derived.Test.YtffghaeaohabhaaLw2
import Derived.Test.YtffghaeaohabhaaIo
namespace Go.Proofs.Ytffghaeaohabhaa
open Go Go.ChangeShapes Go.WideShapes Go.ChangeAt Go.RowKit

namespace L3
theorem own : ownKnob Try.prog.godebug = none := by kernel_rfl

set_option maxRecDepth 100000 in
theorem lifted (os : Os) (started : os.Started) (H : Type) (enc : TypeId × Value → H) :
    ReturnsInHanded {} Try.checked os 3 .any (Rows.sha256ConstantsSpec.pre6 enc Try.prog Try.f3 Rows.sha256ConstantsRow.domain false) (Rows.sha256ConstantsSpec.post enc Try.prog Try.f3 false true false false) := by
  refine returnsInHanded_of_change (C := Try.checked) own started (by kernel_rfl) Try.func3
    (ChangeSpec.witness6 (enc := enc) (C := Try.checked) false ⟨#[], #[.int .i64 0], []⟩ 8 (by kernel_rfl) (by kernel_rfl) (by kernel_rfl) (by kernel_rfl)) ?_
  intro W base args ds gs before hval0 hW hcnd _
  have hval : ∀ (j : Nat) t v, Try.f3.params[j]? = some t → args[j]? = some v → Value.okWide Try.prog W .any base t v := hval0
  have hW' := hW
  obtain ⟨p, q, hA0, hV, rfl, hfz, hnd⟩ := hW
  have hA : DataW.TrodAll enc Try.prog W 0 (fun _ => true) true Try.f3.params.toList args.toList ds p := hA0
  rw [Try.params3] at hA hval
  obtain ⟨v0, d0, rfl, rfl, h0⟩ := trodAll_one hA
  obtain ⟨rfl, rfl⟩ := trodVars_none hV
  obtain ⟨n0, rfl, _, _, hw0⟩ := open_int Try.underlying3 (hval 0 3 v0 rfl rfl) h0
  have hn0 := AW.i64_wf hw0
  clear hA0 hval0
  simp only [List.append_nil] at hW'
  have hlt : ∀ x ∈ p, x.block < W.heap.size := fun x hx => by simpa using hW'.lt x hx
  have hwalk := AW.f3_all n0
  refine (hwalk.calls W (by simp)).mono fun e W' ⟨he, hb⟩ => ?_
  subst he
  refine ⟨_, rfl, _, _, _, [], p, [], hW', trodAll_mk1 (shut_bool Try.underlying4 _), trodAll_mk1 (Below.trod AW.laidOutTry (by kernel_rfl) (of_decide_eq_true (by kernel_rfl)) h0 hb (fun x hx => hlt x (by simp [hx]))), rfl, hb.frame _, fun h => by cases h⟩

theorem j1 : Rows.sha256ConstantsRow.wf (OpenSpec.ofChange Rows.sha256ConstantsSpec) = true := by kernel_rfl
theorem j2 : (Rows.sha256ConstantsRow.inPlace == Try.prog.inPlace 3) = true := by kernel_rfl
theorem j3 : (Rows.sha256ConstantsRow.unfollowed == Try.prog.unfollowed 3) = true := by kernel_rfl
theorem j4 : (Rows.sha256ConstantsRow.recurses == Try.prog.recurses 3) = true := by kernel_rfl
theorem j5 : (Rows.sha256ConstantsRow.named == Try.prog.varsNamed 3) = true := by kernel_rfl
theorem j6 : (Rows.sha256ConstantsRow.lifted == Try.prog.liftsFinal) = true := by rw [AW.liftsFinal_ok]; rfl
theorem j7 : (Try.prog.make == some Rows.sha256ConstantsRow.make) = true := by rw [AW.make_ok]; rfl

theorem joined : joinedFacts Try.prog 3 Try.f3 Rows.sha256ConstantsSpec Rows.sha256ConstantsRow = true := by
  unfold joinedFacts
  rw [j1, j2, j3, j4, j5, j6, j7, AW.mayEnter_ok]
  kernel_rfl

theorem over : Rows.sha256ConstantsRow.holds Try.pinned (OpenSpec.ofChange Rows.sha256ConstantsSpec) :=
  OpenClaim.holds_of_wide 3 Try.f3 rfl rfl rfl rfl rfl rfl rfl ⟨rfl, rfl, rfl, rfl, rfl⟩ rfl rfl rfl rfl rfl (by kernel_rfl) Try.func3 joined
    (of_decide_eq_true (by kernel_rfl)) (by unfold Func.isWrapper; rw [if_neg (of_decide_eq_false (by kernel_rfl))]; exact ⟨rfl, rfl⟩)
    (fun os started H enc _ => lifted os started H enc)
end L3

theorem sha256Constants_holds : Rows.Sha256ConstantsSaid := L3.over
#print axioms sha256Constants_holds
end Go.Proofs.Ytffghaeaohabhaa
