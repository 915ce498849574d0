/-
  Bytes that a point packs as are told.
-/
import Derived.Test.YtffghaeaohabhaaL14
import Derived.Test.YtffghaeaohabhaaLw2
import Derived.Test.YtffghaeaohabhaaIo
namespace Go.Proofs.Ytffghaeaohabhaa
open Go Go.ChangeShapes Go.WideShapes Go.ChangeAt Go.RowKit

namespace L14
theorem own : ownKnob Try.prog.godebug = none := by kernel_rfl

set_option maxRecDepth 100000 in
theorem lifted (os : Os) (started : os.Started) (H : Type) (enc : TypeId × Value → H) :
    ReturnsInHanded {} Try.checked os 14 .any (Rows.curveUnpacksSpec.pre6 enc Try.prog Try.f14 Rows.curveUnpacksRow.domain false) (Rows.curveUnpacksSpec.post enc Try.prog Try.f14 false true false false) := by
  refine returnsInHanded_of_change (C := Try.checked) own started (by kernel_rfl) Try.func14
    (ChangeSpec.witness6 (enc := enc) (C := Try.checked) false ⟨#[], #[.agg (List.replicate 64 (.int .u8 0)).toArray], []⟩ 8 (by kernel_rfl) (by kernel_rfl) (by kernel_rfl) (by kernel_rfl)) ?_
  intro W base args ds gs before hval0 hW hcnd _
  have hval : ∀ (j : Nat) t v, Try.f14.params[j]? = some t → args[j]? = some v → Value.okWide Try.prog W .any base t v := hval0
  have hW' := hW
  obtain ⟨p, q, hA0, hV, rfl, hfz, hnd⟩ := hW
  have hA : DataW.TrodAll enc Try.prog W 0 (fun _ => true) true Try.f14.params.toList args.toList ds p := hA0
  rw [Try.params14] at hA hval
  obtain ⟨v0, d0, rfl, rfl, h0⟩ := trodAll_one hA
  obtain ⟨rfl, rfl⟩ := trodVars_none hV
  obtain ⟨x0, y0, rfl, hx0, hy0⟩ := AW.pair8_in Try.underlying53 ⟨rfl, rfl⟩ ⟨rfl, rfl⟩ Try.underlying37 Try.underlying5 (by kernel_rfl) (by kernel_rfl) (by kernel_rfl) (hval 0 53 v0 rfl rfl) h0
  clear hA0 hval0
  simp only [List.append_nil] at hW'
  have hlt : ∀ x ∈ p, x.block < W.heap.size := fun x hx => by simpa using hW'.lt x hx
  have hwalk := AW.f14_unpacks x0 y0 hx0 hy0
  refine (hwalk.calls W (by simp)).mono fun e W' ⟨he, hb⟩ => ?_
  subst he
  refine ⟨_, rfl, _, _, _, [], p, [], hW', trodAll_mk1 (shut_bool Try.underlying4 _), trodAll_mk1 (Below.trod AW.laidOutTry (by kernel_rfl) (of_decide_eq_true (by kernel_rfl)) h0 hb (fun x hx => hlt x (by simp [hx]))), rfl, hb.frame _, fun h => by cases h⟩

theorem j1 : Rows.curveUnpacksRow.wf (OpenSpec.ofChange Rows.curveUnpacksSpec) = true := by kernel_rfl
theorem j2 : (Rows.curveUnpacksRow.inPlace == Try.prog.inPlace 14) = true := by kernel_rfl
theorem j3 : (Rows.curveUnpacksRow.unfollowed == Try.prog.unfollowed 14) = true := by kernel_rfl
theorem j4 : (Rows.curveUnpacksRow.recurses == Try.prog.recurses 14) = true := by kernel_rfl
theorem j5 : (Rows.curveUnpacksRow.named == Try.prog.varsNamed 14) = true := by kernel_rfl
theorem j6 : (Rows.curveUnpacksRow.lifted == Try.prog.liftsFinal) = true := by rw [AW.liftsFinal_ok]; rfl
theorem j7 : (Try.prog.make == some Rows.curveUnpacksRow.make) = true := by rw [AW.make_ok]; rfl

theorem joined : joinedFacts Try.prog 14 Try.f14 Rows.curveUnpacksSpec Rows.curveUnpacksRow = true := by
  unfold joinedFacts
  rw [j1, j2, j3, j4, j5, j6, j7, AW.mayEnter_ok]
  kernel_rfl

theorem over : Rows.curveUnpacksRow.holds Try.pinned (OpenSpec.ofChange Rows.curveUnpacksSpec) :=
  OpenClaim.holds_of_wide 14 Try.f14 rfl rfl rfl rfl rfl rfl rfl ⟨rfl, rfl, rfl, rfl, rfl⟩ rfl rfl rfl rfl rfl (by kernel_rfl) Try.func14 joined
    (of_decide_eq_true (by kernel_rfl)) (by unfold Func.isWrapper; rw [if_neg (of_decide_eq_false (by kernel_rfl))]; exact ⟨rfl, rfl⟩)
    (fun os started H enc _ => lifted os started H enc)
end L14

theorem curveUnpacks_holds : Rows.CurveUnpacksSaid := L14.over
#print axioms curveUnpacks_holds
end Go.Proofs.Ytffghaeaohabhaa
