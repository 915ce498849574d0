/-
  The points of the curve: no order, no grouping.
-/
import Derived.Test.YtffghaeaohabhaaL12
import Derived.Test.YtffghaeaohabhaaLw2
import Derived.Test.YtffghaeaohabhaaIo
namespace Go.Proofs.Ytffghaeaohabhaa
open Go Go.ChangeShapes Go.WideShapes Go.ChangeAt Go.RowKit

namespace L12
theorem own : ownKnob Try.prog.godebug = none := by kernel_rfl

set_option maxRecDepth 100000 in
theorem lifted (os : Os) (started : os.Started) (H : Type) (enc : TypeId × Value → H) :
    ReturnsInHanded {} Try.checked os 12 .any (Rows.curveLawsSpec.pre6 enc Try.prog Try.f12 Rows.curveLawsRow.domain false) (Rows.curveLawsSpec.post enc Try.prog Try.f12 false true false false) := by
  refine returnsInHanded_of_change (C := Try.checked) own started (by kernel_rfl) Try.func12
    (ChangeSpec.witness6 (enc := enc) (C := Try.checked) false ⟨#[], #[.slice none 0 0, .slice none 0 0, .slice none 0 0], []⟩ 8 (by kernel_rfl) (by kernel_rfl) (by kernel_rfl) (by kernel_rfl)) ?_
  intro W base args ds gs before hval0 hW hcnd _
  have hval : ∀ (j : Nat) t v, Try.f12.params[j]? = some t → args[j]? = some v → Value.okWide Try.prog W .any base t v := hval0
  have hW' := hW
  obtain ⟨p, q, hA0, hV, rfl, hfz, hnd⟩ := hW
  have hA : DataW.TrodAll enc Try.prog W 0 (fun _ => true) true Try.f12.params.toList args.toList ds p := hA0
  rw [Try.params12] at hA hval
  obtain ⟨v0, v1, v2, d0, d1, d2, p0, p1, p2, rfl, rfl, rfl, h0, h1, h2⟩ := trodAll_three hA
  obtain ⟨rfl, rfl⟩ := trodVars_none hV
  obtain ⟨a0, dd0, cp0, rd0, rfl, hsrc0, hrd0, hholds0, hlen0⟩ := AW.bytes_in (hval 0 36 v0 rfl rfl) h0
  obtain ⟨a1, dd1, cp1, rd1, rfl, hsrc1, hrd1, hholds1, hlen1⟩ := AW.bytes_in (hval 1 36 v1 rfl rfl) h1
  obtain ⟨a2, dd2, cp2, rd2, rfl, hsrc2, hrd2, hholds2, hlen2⟩ := AW.bytes_in (hval 2 36 v2 rfl rfl) h2
  clear hA0 hval0
  simp only [List.append_nil] at hW'
  have hlt : ∀ x ∈ (p0 ++ p1 ++ p2), x.block < W.heap.size := fun x hx => by simpa using hW'.lt x hx
  have hwalk := AW.f12_laws hsrc0 hsrc1 hsrc2 hrd0 hrd1 hrd2 hlen0 hlen1 hlen2
  refine (hwalk.calls W (fun e he => by simp only [List.mem_append] at he; rcases he with (he | he) | he <;> first | exact hholds0 e he | exact hholds1 e he | exact hholds2 e he)).mono fun e W' ⟨he, hb⟩ => ?_
  subst he
  refine ⟨_, rfl, _, _, _, [], (p0 ++ p1 ++ p2), [], hW', trodAll_mk1 (shut_bool Try.underlying4 _), (by rw [List.append_assoc]; exact trodAll_mk3 (Below.trod AW.laidOutTry (by kernel_rfl) (of_decide_eq_true (by kernel_rfl)) h0 hb (fun x hx => hlt x (by simp [hx]))) (Below.trod AW.laidOutTry (by kernel_rfl) (of_decide_eq_true (by kernel_rfl)) h1 hb (fun x hx => hlt x (by simp [hx]))) (Below.trod AW.laidOutTry (by kernel_rfl) (of_decide_eq_true (by kernel_rfl)) h2 hb (fun x hx => hlt x (by simp [hx])))), rfl, hb.frame _, fun h => by cases h⟩

theorem j1 : Rows.curveLawsRow.wf (OpenSpec.ofChange Rows.curveLawsSpec) = true := by kernel_rfl
theorem j2 : (Rows.curveLawsRow.inPlace == Try.prog.inPlace 12) = true := by kernel_rfl
theorem j3 : (Rows.curveLawsRow.unfollowed == Try.prog.unfollowed 12) = true := by kernel_rfl
theorem j4 : (Rows.curveLawsRow.recurses == Try.prog.recurses 12) = true := by kernel_rfl
theorem j5 : (Rows.curveLawsRow.named == Try.prog.varsNamed 12) = true := by kernel_rfl
theorem j6 : (Rows.curveLawsRow.lifted == Try.prog.liftsFinal) = true := by rw [AW.liftsFinal_ok]; rfl
theorem j7 : (Try.prog.make == some Rows.curveLawsRow.make) = true := by rw [AW.make_ok]; rfl

theorem joined : joinedFacts Try.prog 12 Try.f12 Rows.curveLawsSpec Rows.curveLawsRow = true := by
  unfold joinedFacts
  rw [j1, j2, j3, j4, j5, j6, j7, AW.mayEnter_ok]
  kernel_rfl

theorem over : Rows.curveLawsRow.holds Try.pinned (OpenSpec.ofChange Rows.curveLawsSpec) :=
  OpenClaim.holds_of_wide 12 Try.f12 rfl rfl rfl rfl rfl rfl rfl ⟨rfl, rfl, rfl, rfl, rfl⟩ rfl rfl rfl rfl rfl (by kernel_rfl) Try.func12 joined
    (of_decide_eq_true (by kernel_rfl)) (by unfold Func.isWrapper; rw [if_neg (of_decide_eq_false (by kernel_rfl))]; exact ⟨rfl, rfl⟩)
    (fun os started H enc _ => lifted os started H enc)
end L12

theorem curveLaws_holds : Rows.CurveLawsSaid := L12.over
#print axioms curveLaws_holds
end Go.Proofs.Ytffghaeaohabhaa
