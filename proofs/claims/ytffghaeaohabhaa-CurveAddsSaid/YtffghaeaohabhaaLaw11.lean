/-
  Sums, by products.
-/
import Derived.Test.YtffghaeaohabhaaL11
import Derived.Test.YtffghaeaohabhaaLw2
import Derived.Test.YtffghaeaohabhaaIo
namespace Go.Proofs.Ytffghaeaohabhaa
open Go Go.ChangeShapes Go.WideShapes Go.ChangeAt Go.RowKit

namespace L11
theorem own : ownKnob Try.prog.godebug = none := by kernel_rfl

set_option maxRecDepth 100000 in
theorem lifted (os : Os) (started : os.Started) (H : Type) (enc : TypeId × Value → H) :
    ReturnsInHanded {} Try.checked os 11 .any (Rows.curveAddsSpec.pre6 enc Try.prog Try.f11 Rows.curveAddsRow.domain false) (Rows.curveAddsSpec.post enc Try.prog Try.f11 false true false false) := by
  refine returnsInHanded_of_change (C := Try.checked) own started (by kernel_rfl) Try.func11
    (ChangeSpec.witness6 (enc := enc) (C := Try.checked) false ⟨#[], #[.slice none 0 0, .slice none 0 0], []⟩ 8 (by kernel_rfl) (by kernel_rfl) (by kernel_rfl) (by kernel_rfl)) ?_
  intro W base args ds gs before hval0 hW hcnd _
  have hval : ∀ (j : Nat) t v, Try.f11.params[j]? = some t → args[j]? = some v → Value.okWide Try.prog W .any base t v := hval0
  have hW' := hW
  obtain ⟨p, q, hA0, hV, rfl, hfz, hnd⟩ := hW
  have hA : DataW.TrodAll enc Try.prog W 0 (fun _ => true) true Try.f11.params.toList args.toList ds p := hA0
  rw [Try.params11] at hA hval
  obtain ⟨v0, v1, d0, d1, p0, p1, rfl, rfl, rfl, h0, h1⟩ := trodAll_two hA
  obtain ⟨rfl, rfl⟩ := trodVars_none hV
  obtain ⟨a0, dd0, cp0, rd0, rfl, hsrc0, hrd0, hholds0, hlen0⟩ := AW.bytes_in (hval 0 36 v0 rfl rfl) h0
  obtain ⟨a1, dd1, cp1, rd1, rfl, hsrc1, hrd1, hholds1, hlen1⟩ := AW.bytes_in (hval 1 36 v1 rfl rfl) h1
  clear hA0 hval0
  simp only [List.append_nil] at hW'
  have hlt : ∀ x ∈ (p0 ++ p1), x.block < W.heap.size := fun x hx => by simpa using hW'.lt x hx
  have hwalk := AW.f11_adds hsrc0 hsrc1 hrd0 hrd1 hlen0 hlen1
  refine (hwalk.calls W (fun e he => by simp only [List.mem_append] at he; rcases he with he | he <;> first | exact hholds0 e he | exact hholds1 e he)).mono fun e W' ⟨he, hb⟩ => ?_
  subst he
  refine ⟨_, rfl, _, _, _, [], (p0 ++ p1), [], hW', trodAll_mk1 (shut_bool Try.underlying4 _), trodAll_mk2 (Below.trod AW.laidOutTry (by kernel_rfl) (of_decide_eq_true (by kernel_rfl)) h0 hb (fun x hx => hlt x (by simp [hx]))) (Below.trod AW.laidOutTry (by kernel_rfl) (of_decide_eq_true (by kernel_rfl)) h1 hb (fun x hx => hlt x (by simp [hx]))), rfl, hb.frame _, fun h => by cases h⟩

theorem j1 : Rows.curveAddsRow.wf (OpenSpec.ofChange Rows.curveAddsSpec) = true := by kernel_rfl
theorem j2 : (Rows.curveAddsRow.inPlace == Try.prog.inPlace 11) = true := by kernel_rfl
theorem j3 : (Rows.curveAddsRow.unfollowed == Try.prog.unfollowed 11) = true := by kernel_rfl
theorem j4 : (Rows.curveAddsRow.recurses == Try.prog.recurses 11) = true := by kernel_rfl
theorem j5 : (Rows.curveAddsRow.named == Try.prog.varsNamed 11) = true := by kernel_rfl
theorem j6 : (Rows.curveAddsRow.lifted == Try.prog.liftsFinal) = true := by rw [AW.liftsFinal_ok]; rfl
theorem j7 : (Try.prog.make == some Rows.curveAddsRow.make) = true := by rw [AW.make_ok]; rfl

theorem joined : joinedFacts Try.prog 11 Try.f11 Rows.curveAddsSpec Rows.curveAddsRow = true := by
  unfold joinedFacts
  rw [j1, j2, j3, j4, j5, j6, j7, AW.mayEnter_ok]
  kernel_rfl

theorem over : Rows.curveAddsRow.holds Try.pinned (OpenSpec.ofChange Rows.curveAddsSpec) :=
  OpenClaim.holds_of_wide 11 Try.f11 rfl rfl rfl rfl rfl rfl rfl ⟨rfl, rfl, rfl, rfl, rfl⟩ rfl rfl rfl rfl rfl (by kernel_rfl) Try.func11 joined
    (of_decide_eq_true (by kernel_rfl)) (by unfold Func.isWrapper; rw [if_neg (of_decide_eq_false (by kernel_rfl))]; exact ⟨rfl, rfl⟩)
    (fun os started H enc _ => lifted os started H enc)
end L11

theorem curveAdds_holds : Rows.CurveAddsSaid := L11.over
#print axioms curveAdds_holds
end Go.Proofs.Ytffghaeaohabhaa
