/-
  Small numbers of points.
-/
import Derived.Test.YtffghaeaohabhaaL15
import Derived.Test.YtffghaeaohabhaaLw2
import Derived.Test.YtffghaeaohabhaaIo
namespace Go.Proofs.Ytffghaeaohabhaa
open Go Go.ChangeShapes Go.WideShapes Go.ChangeAt Go.RowKit

namespace L15
theorem own : ownKnob Try.prog.godebug = none := by kernel_rfl

set_option maxRecDepth 100000 in
theorem lifted (os : Os) (started : os.Started) (H : Type) (enc : TypeId × Value → H) :
    ReturnsInHanded {} Try.checked os 15 .any (Rows.curveOrdersSpec.pre6 enc Try.prog Try.f15 Rows.curveOrdersRow.domain false) (Rows.curveOrdersSpec.post enc Try.prog Try.f15 false true false false) := by
  refine returnsInHanded_of_change (C := Try.checked) own started (by kernel_rfl) Try.func15
    (ChangeSpec.witness6 (enc := enc) (C := Try.checked) false ⟨#[], #[.slice none 0 0], []⟩ 8 (by kernel_rfl) (by kernel_rfl) (by kernel_rfl) (by kernel_rfl)) ?_
  intro W base args ds gs before hval0 hW hcnd _
  have hval : ∀ (j : Nat) t v, Try.f15.params[j]? = some t → args[j]? = some v → Value.okWide Try.prog W .any base t v := hval0
  have hW' := hW
  obtain ⟨p, q, hA0, hV, rfl, hfz, hnd⟩ := hW
  have hA : DataW.TrodAll enc Try.prog W 0 (fun _ => true) true Try.f15.params.toList args.toList ds p := hA0
  rw [Try.params15] at hA hval
  obtain ⟨v0, d0, rfl, rfl, h0⟩ := trodAll_one hA
  obtain ⟨rfl, rfl⟩ := trodVars_none hV
  obtain ⟨a0, dd0, cp0, rd0, rfl, hsrc0, hrd0, hholds0, hlen0⟩ := AW.bytes_in (hval 0 36 v0 rfl rfl) h0
  clear hA0 hval0
  simp only [List.append_nil] at hW'
  have hlt : ∀ x ∈ p, x.block < W.heap.size := fun x hx => by simpa using hW'.lt x hx
  have hwalk := AW.f15_orders a0 dd0 cp0 rd0 hsrc0 hrd0 hlen0
  refine (hwalk.calls W hholds0).mono fun e W' ⟨he, hb⟩ => ?_
  subst he
  refine ⟨_, rfl, _, _, _, [], p, [], hW', trodAll_mk1 (shut_bool Try.underlying4 _), trodAll_mk1 (Below.trod AW.laidOutTry (by kernel_rfl) (of_decide_eq_true (by kernel_rfl)) h0 hb (fun x hx => hlt x (by simp [hx]))), rfl, hb.frame _, fun h => by cases h⟩

theorem j1 : Rows.curveOrdersRow.wf (OpenSpec.ofChange Rows.curveOrdersSpec) = true := by kernel_rfl
theorem j2 : (Rows.curveOrdersRow.inPlace == Try.prog.inPlace 15) = true := by kernel_rfl
theorem j3 : (Rows.curveOrdersRow.unfollowed == Try.prog.unfollowed 15) = true := by kernel_rfl
theorem j4 : (Rows.curveOrdersRow.recurses == Try.prog.recurses 15) = true := by kernel_rfl
theorem j5 : (Rows.curveOrdersRow.named == Try.prog.varsNamed 15) = true := by kernel_rfl
theorem j6 : (Rows.curveOrdersRow.lifted == Try.prog.liftsFinal) = true := by rw [AW.liftsFinal_ok]; rfl
theorem j7 : (Try.prog.make == some Rows.curveOrdersRow.make) = true := by rw [AW.make_ok]; rfl

theorem joined : joinedFacts Try.prog 15 Try.f15 Rows.curveOrdersSpec Rows.curveOrdersRow = true := by
  unfold joinedFacts
  rw [j1, j2, j3, j4, j5, j6, j7, AW.mayEnter_ok]
  kernel_rfl

theorem over : Rows.curveOrdersRow.holds Try.pinned (OpenSpec.ofChange Rows.curveOrdersSpec) :=
  OpenClaim.holds_of_wide 15 Try.f15 rfl rfl rfl rfl rfl rfl rfl ⟨rfl, rfl, rfl, rfl, rfl⟩ rfl rfl rfl rfl rfl (by kernel_rfl) Try.func15 joined
    (of_decide_eq_true (by kernel_rfl)) (by unfold Func.isWrapper; rw [if_neg (of_decide_eq_false (by kernel_rfl))]; exact ⟨rfl, rfl⟩)
    (fun os started H enc _ => lifted os started H enc)
end L15

theorem curveOrders_holds : Rows.CurveOrdersSaid := L15.over
#print axioms curveOrders_holds
end Go.Proofs.Ytffghaeaohabhaa
