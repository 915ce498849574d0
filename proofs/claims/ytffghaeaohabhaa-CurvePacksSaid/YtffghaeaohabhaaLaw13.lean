/-
  Points as bytes, and back.
-/
import Derived.Test.YtffghaeaohabhaaL13
import Derived.Test.YtffghaeaohabhaaLw2
import Derived.Test.YtffghaeaohabhaaIo
namespace Go.Proofs.Ytffghaeaohabhaa
open Go Go.ChangeShapes Go.WideShapes Go.ChangeAt Go.RowKit

namespace L13
theorem own : ownKnob Try.prog.godebug = none := by kernel_rfl

set_option maxRecDepth 100000 in
theorem lifted (os : Os) (started : os.Started) (H : Type) (enc : TypeId × Value → H) :
    ReturnsInHanded {} Try.checked os 13 .any (Rows.curvePacksSpec.pre6 enc Try.prog Try.f13 Rows.curvePacksRow.domain false) (Rows.curvePacksSpec.post enc Try.prog Try.f13 false true false false) := by
  refine returnsInHanded_of_change (C := Try.checked) own started (by kernel_rfl) Try.func13
    (ChangeSpec.witness6 (enc := enc) (C := Try.checked) false ⟨#[], #[.slice none 0 0, .agg (List.replicate 32 (.int .u8 0)).toArray], []⟩ 8 (by kernel_rfl) (by kernel_rfl) (by kernel_rfl) (by kernel_rfl)) ?_
  intro W base args ds gs before hval0 hW hcnd _
  have hval : ∀ (j : Nat) t v, Try.f13.params[j]? = some t → args[j]? = some v → Value.okWide Try.prog W .any base t v := hval0
  have hW' := hW
  obtain ⟨p, q, hA0, hV, rfl, hfz, hnd⟩ := hW
  have hA : DataW.TrodAll enc Try.prog W 0 (fun _ => true) true Try.f13.params.toList args.toList ds p := hA0
  rw [Try.params13] at hA hval
  obtain ⟨v0, v1, d0, d1, p0, p1, rfl, rfl, rfl, h0, h1⟩ := trodAll_two hA
  obtain ⟨rfl, rfl⟩ := trodVars_none hV
  obtain ⟨a0, dd0, cp0, rd0, rfl, hsrc0, hrd0, hholds0, hlen0⟩ := AW.bytes_in (hval 0 36 v0 rfl rfl) h0
  obtain ⟨l1, rfl, hl1⟩ := AW.arr8_in Try.underlying37 Try.underlying5 (by kernel_rfl) (by kernel_rfl) (hval 1 37 v1 rfl rfl) h1
  clear hA0 hval0
  simp only [List.append_nil] at hW'
  have hlt : ∀ x ∈ (p0 ++ p1), x.block < W.heap.size := fun x hx => by simpa using hW'.lt x hx
  have hwalk := AW.f13_packs a0 dd0 cp0 rd0 hrd0 l1 hl1 hsrc0 hlen0
  refine (hwalk.calls W hholds0).mono fun e W' ⟨he, hb⟩ => ?_
  subst he
  refine ⟨_, rfl, _, _, _, [], (p0 ++ p1), [], hW', trodAll_mk1 (shut_bool Try.underlying4 _), trodAll_mk2 (Below.trod AW.laidOutTry (by kernel_rfl) (of_decide_eq_true (by kernel_rfl)) h0 hb (fun x hx => hlt x (by simp [hx]))) (Below.trod AW.laidOutTry (by kernel_rfl) (of_decide_eq_true (by kernel_rfl)) h1 hb (fun x hx => hlt x (by simp [hx]))), rfl, hb.frame _, fun h => by cases h⟩

theorem j1 : Rows.curvePacksRow.wf (OpenSpec.ofChange Rows.curvePacksSpec) = true := by kernel_rfl
theorem j2 : (Rows.curvePacksRow.inPlace == Try.prog.inPlace 13) = true := by kernel_rfl
theorem j3 : (Rows.curvePacksRow.unfollowed == Try.prog.unfollowed 13) = true := by kernel_rfl
theorem j4 : (Rows.curvePacksRow.recurses == Try.prog.recurses 13) = true := by kernel_rfl
theorem j5 : (Rows.curvePacksRow.named == Try.prog.varsNamed 13) = true := by kernel_rfl
theorem j6 : (Rows.curvePacksRow.lifted == Try.prog.liftsFinal) = true := by rw [AW.liftsFinal_ok]; rfl
theorem j7 : (Try.prog.make == some Rows.curvePacksRow.make) = true := by rw [AW.make_ok]; rfl

theorem joined : joinedFacts Try.prog 13 Try.f13 Rows.curvePacksSpec Rows.curvePacksRow = true := by
  unfold joinedFacts
  rw [j1, j2, j3, j4, j5, j6, j7, AW.mayEnter_ok]
  kernel_rfl

theorem over : Rows.curvePacksRow.holds Try.pinned (OpenSpec.ofChange Rows.curvePacksSpec) :=
  OpenClaim.holds_of_wide 13 Try.f13 rfl rfl rfl rfl rfl rfl rfl ⟨rfl, rfl, rfl, rfl, rfl⟩ rfl rfl rfl rfl rfl (by kernel_rfl) Try.func13 joined
    (of_decide_eq_true (by kernel_rfl)) (by unfold Func.isWrapper; rw [if_neg (of_decide_eq_false (by kernel_rfl))]; exact ⟨rfl, rfl⟩)
    (fun os started H enc _ => lifted os started H enc)
end L13

theorem curvePacks_holds : Rows.CurvePacksSaid := L13.over
#print axioms curvePacks_holds
end Go.Proofs.Ytffghaeaohabhaa
