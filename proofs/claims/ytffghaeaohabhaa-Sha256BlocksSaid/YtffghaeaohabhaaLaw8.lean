/-
  Any state and block make the state that the document says, or are refused: Sha256Blocks returns true at every state and every row of bytes, and both read as they did. No condition.
-/
import Derived.Test.YtffghaeaohabhaaL8
import Derived.Test.YtffghaeaohabhaaLw2
import Derived.Test.YtffghaeaohabhaaIo
namespace Go.Proofs.Ytffghaeaohabhaa
open Go Go.ChangeShapes Go.WideShapes Go.ChangeAt Go.RowKit

namespace L8
theorem own : ownKnob Try.prog.godebug = none := by kernel_rfl

set_option maxRecDepth 100000 in
theorem lifted (os : Os) (started : os.Started) (H : Type) (enc : TypeId × Value → H) :
    ReturnsInHanded {} Try.checked os 8 .any (Rows.sha256BlocksSpec.pre6 enc Try.prog Try.f8 Rows.sha256BlocksRow.domain false) (Rows.sha256BlocksSpec.post enc Try.prog Try.f8 false true false false) := by
  refine returnsInHanded_of_change (C := Try.checked) own started (by kernel_rfl) Try.func8
    (ChangeSpec.witness6 (enc := enc) (C := Try.checked) false ⟨#[], #[.agg (List.replicate 8 (.int .u32 0)).toArray, .slice none 0 0], []⟩ 8 (by kernel_rfl) (by kernel_rfl) (by kernel_rfl) (by kernel_rfl)) ?_
  intro W base args ds gs before hval0 hW hcnd _
  have hval : ∀ (j : Nat) t v, Try.f8.params[j]? = some t → args[j]? = some v → Value.okWide Try.prog W .any base t v := hval0
  have hW' := hW
  obtain ⟨p, q, hA0, hV, rfl, hfz, hnd⟩ := hW
  have hA : DataW.TrodAll enc Try.prog W 0 (fun _ => true) true Try.f8.params.toList args.toList ds p := hA0
  rw [Try.params8] at hA hval
  obtain ⟨v0, v1, d0, d1, p0, p1, rfl, rfl, rfl, h0, h1⟩ := trodAll_two hA
  obtain ⟨rfl, rfl⟩ := trodVars_none hV
  obtain ⟨l0, rfl, hl0⟩ := AW.arr32_in Try.underlying30 Try.underlying29 (by kernel_rfl) (by kernel_rfl) (hval 0 30 v0 rfl rfl) h0
  obtain ⟨a1, dd1, cp1, rd1, rfl, hsrc1, hrd1, hholds1, hlen1⟩ := AW.bytes_in (hval 1 36 v1 rfl rfl) h1
  clear hA0 hval0
  simp only [List.append_nil] at hW'
  have hlt : ∀ x ∈ (p0 ++ p1), x.block < W.heap.size := fun x hx => by simpa using hW'.lt x hx
  have hwalk := AW.f8_all a1 dd1 cp1 rd1 hsrc1 hrd1 l0 hl0 (Nat.le_trans hlen1 (by decide))
  refine (hwalk.calls W hholds1).mono fun e W' ⟨he, hb⟩ => ?_
  subst he
  refine ⟨_, rfl, _, _, _, [], (p0 ++ p1), [], hW', trodAll_mk1 (shut_bool Try.underlying4 _), trodAll_mk2 (Below.trod AW.laidOutTry (by kernel_rfl) (of_decide_eq_true (by kernel_rfl)) h0 hb (fun x hx => hlt x (by simp [hx]))) (Below.trod AW.laidOutTry (by kernel_rfl) (of_decide_eq_true (by kernel_rfl)) h1 hb (fun x hx => hlt x (by simp [hx]))), rfl, hb.frame _, fun h => by cases h⟩

theorem j1 : Rows.sha256BlocksRow.wf (OpenSpec.ofChange Rows.sha256BlocksSpec) = true := by kernel_rfl
theorem j2 : (Rows.sha256BlocksRow.inPlace == Try.prog.inPlace 8) = true := by kernel_rfl
theorem j3 : (Rows.sha256BlocksRow.unfollowed == Try.prog.unfollowed 8) = true := by kernel_rfl
theorem j4 : (Rows.sha256BlocksRow.recurses == Try.prog.recurses 8) = true := by kernel_rfl
theorem j5 : (Rows.sha256BlocksRow.named == Try.prog.varsNamed 8) = true := by kernel_rfl
theorem j6 : (Rows.sha256BlocksRow.lifted == Try.prog.liftsFinal) = true := by rw [AW.liftsFinal_ok]; rfl
theorem j7 : (Try.prog.make == some Rows.sha256BlocksRow.make) = true := by rw [AW.make_ok]; rfl

theorem joined : joinedFacts Try.prog 8 Try.f8 Rows.sha256BlocksSpec Rows.sha256BlocksRow = true := by
  unfold joinedFacts
  rw [j1, j2, j3, j4, j5, j6, j7, AW.mayEnter_ok]
  kernel_rfl

theorem over : Rows.sha256BlocksRow.holds Try.pinned (OpenSpec.ofChange Rows.sha256BlocksSpec) :=
  OpenClaim.holds_of_wide 8 Try.f8 rfl rfl rfl rfl rfl rfl rfl ⟨rfl, rfl, rfl, rfl, rfl⟩ rfl rfl rfl rfl rfl (by kernel_rfl) Try.func8 joined
    (of_decide_eq_true (by kernel_rfl)) (by unfold Func.isWrapper; rw [if_neg (of_decide_eq_false (by kernel_rfl))]; exact ⟨rfl, rfl⟩)
    (fun os started H enc _ => lifted os started H enc)
end L8

theorem sha256Blocks_holds : Rows.Sha256BlocksSaid := L8.over
#print axioms sha256Blocks_holds
end Go.Proofs.Ytffghaeaohabhaa
