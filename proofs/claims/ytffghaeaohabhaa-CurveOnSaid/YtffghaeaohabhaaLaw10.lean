/-
  Any point: is it on the curve.
-/
import Derived.Test.YtffghaeaohabhaaL10
import Derived.Test.YtffghaeaohabhaaLw2
import Derived.Test.YtffghaeaohabhaaIo
namespace Go.Proofs.Ytffghaeaohabhaa
open Go Go.ChangeShapes Go.WideShapes Go.ChangeAt Go.RowKit

namespace L10
theorem own : ownKnob Try.prog.godebug = none := by kernel_rfl

set_option maxRecDepth 100000 in
theorem lifted (os : Os) (started : os.Started) (H : Type) (enc : TypeId × Value → H) :
    ReturnsInHanded {} Try.checked os 10 .any (Rows.curveOnSpec.pre6 enc Try.prog Try.f10 Rows.curveOnRow.domain false) (Rows.curveOnSpec.post enc Try.prog Try.f10 false true false false) := by
  refine returnsInHanded_of_change (C := Try.checked) own started (by kernel_rfl) Try.func10
    (ChangeSpec.witness6 (enc := enc) (C := Try.checked) false ⟨#[], #[.agg (List.replicate 64 (.int .u8 0)).toArray, .slice none 0 0, .agg (List.replicate 64 (.int .u8 0)).toArray], []⟩ 8 (by kernel_rfl) (by kernel_rfl) (by kernel_rfl) (by kernel_rfl)) ?_
  intro W base args ds gs before hval0 hW hcnd _
  have hval : ∀ (j : Nat) t v, Try.f10.params[j]? = some t → args[j]? = some v → Value.okWide Try.prog W .any base t v := hval0
  have hW' := hW
  obtain ⟨p, q, hA0, hV, rfl, hfz, hnd⟩ := hW
  have hA : DataW.TrodAll enc Try.prog W 0 (fun _ => true) true Try.f10.params.toList args.toList ds p := hA0
  rw [Try.params10] at hA hval
  obtain ⟨v0, v1, v2, d0, d1, d2, p0, p1, p2, rfl, rfl, rfl, h0, h1, h2⟩ := trodAll_three hA
  obtain ⟨rfl, rfl⟩ := trodVars_none hV
  obtain ⟨x0, y0, rfl, hx0, hy0⟩ := AW.pair8_in Try.underlying53 ⟨rfl, rfl⟩ ⟨rfl, rfl⟩ Try.underlying37 Try.underlying5 (by kernel_rfl) (by kernel_rfl) (by kernel_rfl) (hval 0 53 v0 rfl rfl) h0
  obtain ⟨a1, dd1, cp1, rd1, rfl, hsrc1, hrd1, hholds1, hlen1⟩ := AW.bytes_in (hval 1 36 v1 rfl rfl) h1
  obtain ⟨x2, y2, rfl, hx2, hy2⟩ := AW.pair8_in Try.underlying53 ⟨rfl, rfl⟩ ⟨rfl, rfl⟩ Try.underlying37 Try.underlying5 (by kernel_rfl) (by kernel_rfl) (by kernel_rfl) (hval 2 53 v2 rfl rfl) h2
  clear hA0 hval0
  simp only [List.append_nil] at hW'
  have hlt : ∀ x ∈ (p0 ++ p1 ++ p2), x.block < W.heap.size := fun x hx => by simpa using hW'.lt x hx
  have hwalk := AW.f10_isOn x0 y0 x2 y2 hx0 hy0 hx2 hy2 a1 dd1 cp1 rd1 hrd1 hsrc1 hlen1
  refine (hwalk.calls W hholds1).mono fun e W' ⟨he, hb⟩ => ?_
  subst he
  refine ⟨_, rfl, _, _, _, [], (p0 ++ p1 ++ p2), [], hW', trodAll_mk1 (shut_bool Try.underlying4 _), (by rw [List.append_assoc]; exact trodAll_mk3 (Below.trod AW.laidOutTry (by kernel_rfl) (of_decide_eq_true (by kernel_rfl)) h0 hb (fun x hx => hlt x (by simp [hx]))) (Below.trod AW.laidOutTry (by kernel_rfl) (of_decide_eq_true (by kernel_rfl)) h1 hb (fun x hx => hlt x (by simp [hx]))) (Below.trod AW.laidOutTry (by kernel_rfl) (of_decide_eq_true (by kernel_rfl)) h2 hb (fun x hx => hlt x (by simp [hx])))), rfl, hb.frame _, fun h => by cases h⟩

theorem j1 : Rows.curveOnRow.wf (OpenSpec.ofChange Rows.curveOnSpec) = true := by kernel_rfl
theorem j2 : (Rows.curveOnRow.inPlace == Try.prog.inPlace 10) = true := by kernel_rfl
theorem j3 : (Rows.curveOnRow.unfollowed == Try.prog.unfollowed 10) = true := by kernel_rfl
theorem j4 : (Rows.curveOnRow.recurses == Try.prog.recurses 10) = true := by kernel_rfl
theorem j5 : (Rows.curveOnRow.named == Try.prog.varsNamed 10) = true := by kernel_rfl
theorem j6 : (Rows.curveOnRow.lifted == Try.prog.liftsFinal) = true := by rw [AW.liftsFinal_ok]; rfl
theorem j7 : (Try.prog.make == some Rows.curveOnRow.make) = true := by rw [AW.make_ok]; rfl

theorem joined : joinedFacts Try.prog 10 Try.f10 Rows.curveOnSpec Rows.curveOnRow = true := by
  unfold joinedFacts
  rw [j1, j2, j3, j4, j5, j6, j7, AW.mayEnter_ok]
  kernel_rfl

theorem over : Rows.curveOnRow.holds Try.pinned (OpenSpec.ofChange Rows.curveOnSpec) :=
  OpenClaim.holds_of_wide 10 Try.f10 rfl rfl rfl rfl rfl rfl rfl ⟨rfl, rfl, rfl, rfl, rfl⟩ rfl rfl rfl rfl rfl (by kernel_rfl) Try.func10 joined
    (of_decide_eq_true (by kernel_rfl)) (by unfold Func.isWrapper; rw [if_neg (of_decide_eq_false (by kernel_rfl))]; exact ⟨rfl, rfl⟩)
    (fun os started H enc _ => lifted os started H enc)
end L10

theorem curveOn_holds : Rows.CurveOnSaid := L10.over
#print axioms curveOn_holds
end Go.Proofs.Ytffghaeaohabhaa
