import Derived.Test.YtffghaeaohabhaaProg
import Derived.Conc.RwLib
import Derived.Conc.MuData
import Derived.Conc.MuLone
import Derived.KernelRfl
import Derived.Tactics
import Derived.Tactics2
import Derived.Defers
import Derived.Laws.Pointers
import Derived.Laws.LoneSync
import Derived.RegionTactic
import Derived.RegionCalls
import Derived.ChangeAlike
import Derived.Test.YtffghaeaohabhaaOp2
namespace Go.Proofs.Ytffghaeaohabhaa.AW
open Go Go.Proofs
abbrev muLink : Go.Conc.Locks.MuLink := { lock := 165, unlock := 166, ilock := 170, iunlock := 171, lockSlow := 181, unlockSlow := 184, disable := 177, enable := 179, acquire := 180, relMerge := 182, cas32 := 178, add32 := 183, tMutex := 94, tIMutex := 92, tPMutex := 180, tPIMutex := 185, tPI32 := 187, tUP := 189, tNoCopy := 87, tU32 := 29 }
theorem muLib : Go.Conc.Locks.MuLib Try.prog muLink :=
  ⟨Try.func165, Try.func166, Try.func170, Try.func171, Try.func177, Try.func179, Try.func180, Try.func182, Try.func178, Try.func183, Try.underlying92, Try.runUnderlying92, Try.sizeOf92, Try.isAgg92, Try.zeroValue92, Try.underlying94, Try.runUnderlying94, Try.sizeOf94, Try.isAgg94, Try.zeroValue94, Try.underlying180, Try.runUnderlying180, Try.sizeOf180, Try.isAgg180, Try.zeroValue180, Try.underlying185, Try.runUnderlying185, Try.sizeOf185, Try.isAgg185, Try.zeroValue185, Try.underlying187, Try.runUnderlying187, Try.sizeOf187, Try.isAgg187, Try.zeroValue187, Try.underlying189, Try.runUnderlying189, Try.sizeOf189, Try.isAgg189, Try.zeroValue189, Try.underlying87, Try.runUnderlying87, Try.sizeOf87, Try.isAgg87, Try.zeroValue87, Try.underlying21, Try.runUnderlying21, Try.sizeOf21, Try.isAgg21, Try.zeroValue21, (by kernel_rfl)⟩

end Go.Proofs.Ytffghaeaohabhaa.AW
namespace Go.Proofs.Ytffghaeaohabhaa.AW
open Go

theorem once_lock (a : Addr) (w : World) (hc : w.cell? a = some (.int .i32 0)) (hz : w.frozen? a = false) :
    Calls Try.prog 165 #[.pointer (some a)] w fun e w' => e = .returned (.tuple #[]) ∧ w' = w.setCell a (.int .i32 1) := MuLone.lock_free muLib a w hc hz

theorem once_unlock (a : Addr) (u : FrameMode) (w : World) (hc : w.cell? a = some (.int .i32 1)) (hz : w.frozen? a = false) :
    CallsD Try.prog 166 #[.pointer (some a)] u w fun e u' w' => u' = u ∧ (e = .returned (.tuple #[]) ∧ w' = w.setCell a (.int .i32 0)) := MuLone.unlock_deferred muLib a u w hc hz

theorem once_store (a : Addr) (x : Value) (u : FrameMode) (w : World) (hc : w.cell? a = some x) (hz : w.frozen? a = false) :
    CallsD Try.prog 167 #[.pointer (some a), .bool true] u w fun e u' w' => u' = u ∧ (e = .returned (.tuple #[]) ∧ w' = w.drew.setCell a (.int .u32 1)) := by
  have hc' : w.drew.cell? a = some x := by go_simp
  have hz' : w.drew.frozen? a = false := by go_simp
  have hst := run_call_store (P := Try.prog) Try.func172 (by kernel_rfl) (by kernel_rfl) (by kernel_rfl) (by kernel_rfl) (k := .u32) (y := 1) hc' hz'
  go_enter_d Try.func167, Try.ntmps167
  go_wp2
  go_region_calls
  all_goals (go_end0; exact ⟨rfl, rfl⟩)

set_option maxRecDepth 100000 in
set_option maxHeartbeats 1600000 in
theorem once_slow (b : Nat) (pl : Addr) (w : World) (R : World → Prop) (f : Nat) (hin : ∀ args w, (callFunc f args).run Try.prog w = .ok (.enter f args) w)
    (h0 : w.cell? ⟨b, 0, none⟩ = some (.int .u32 0)) (h1 : w.cell? ⟨b, 1, none⟩ = some (.int .i32 0)) (f1 : w.frozen? ⟨b, 1, none⟩ = false)
    (hcl : Calls Try.prog f #[.pointer (some pl)] (w.setCell ⟨b, 1, none⟩ (.int .i32 1)) fun e w' => e = .returned (.tuple #[]) ∧ R w')
    (hR : ∀ w', R w' → w'.cell? ⟨b, 0, none⟩ = some (.int .u32 0) ∧ w'.cell? ⟨b, 1, none⟩ = some (.int .i32 1) ∧ w'.frozen? ⟨b, 0, none⟩ = false ∧ w'.frozen? ⟨b, 1, none⟩ = false) :
    Calls Try.prog 149 #[.pointer (some ⟨b, 0, none⟩), .func (.func f) #[] #[.pointer (some pl)]] w fun e w' => e = .returned (.tuple #[]) ∧
      ∃ w2, R w2 ∧ w' = (w2.drew.setCell ⟨b, 0, none⟩ (.int .u32 1)).setCell ⟨b, 1, none⟩ (.int .i32 0) := by
  have hl := run_call_load (P := Try.prog) Try.func164 (by kernel_rfl) (by kernel_rfl) (by kernel_rfl) .u32 (by kernel_rfl) (w := w.setCell ⟨b, 1, none⟩ (.int .i32 1)) (a := ⟨b, 0, none⟩) (x := 0) ((World.cell?_setCell_other _ ⟨b, 1, none⟩ ⟨b, 0, none⟩ _ (by simp)).trans h0)
  have hnot : ∀ (x : Bool) (w : World), (Op.unary .not (.bool x)).run Try.prog w = .ok (.bool (!x)) w := fun _ _ => rfl
  go_enter_defers Try.func149, Try.ntmps149
  go_wp2_with (first | (go_at_call 165; refine (once_lock ⟨b, 1, none⟩ _ (by go_simp) (by go_simp)).mono ?_; rintro e w' ⟨rfl, rfl⟩) | (refine hcl.mono ?_; rintro e w' ⟨rfl, hRw⟩))
  go_wp2
  refine hcl.mono ?_
  rintro e w' ⟨rfl, hRw⟩
  obtain ⟨r0, r1, z0, z1⟩ := hR _ hRw
  go_wp2
  refine leaves_cons (f := 167) (args := #[.pointer (some ⟨b, 0, none⟩), .bool true]) (by simp) (by simp [go_sem]) ?_
  refine (once_store ⟨b, 0, none⟩ (.int .u32 0) .returning _ r0 z0).mono ?_
  rintro e u' w'' ⟨rfl, rfl, rfl⟩
  refine leaves_cons (f := 166) (args := #[.pointer (some ⟨b, 1, none⟩)]) (by simp [settle]) (by simp [go_sem]) ?_
  refine (once_unlock ⟨b, 1, none⟩ _ _ ?_ (by simp [z1])).mono ?_
  · refine (World.cell?_setCell_other _ ⟨b, 0, none⟩ ⟨b, 1, none⟩ _ (by simp)).trans ?_
    rw [World.cell?_drew]
    exact r1
  rintro e u' w'' ⟨rfl, rfl, rfl⟩
  simp [Leaves, settle, results, Try.results149]
  exact ⟨_, hRw, rfl⟩

/-- '(*sync.Once).Do', not yet done, the lock free -/
theorem once_first (b : Nat) (pl : Addr) (w : World) (R : World → Prop) (f : Nat) (hin : ∀ args w, (callFunc f args).run Try.prog w = .ok (.enter f args) w)
    (h0 : w.cell? ⟨b, 0, none⟩ = some (.int .u32 0)) (h1 : w.cell? ⟨b, 1, none⟩ = some (.int .i32 0)) (f1 : w.frozen? ⟨b, 1, none⟩ = false)
    (hcl : Calls Try.prog f #[.pointer (some pl)] (w.setCell ⟨b, 1, none⟩ (.int .i32 1)) fun e w' => e = .returned (.tuple #[]) ∧ R w')
    (hR : ∀ w', R w' → w'.cell? ⟨b, 0, none⟩ = some (.int .u32 0) ∧ w'.cell? ⟨b, 1, none⟩ = some (.int .i32 1) ∧ w'.frozen? ⟨b, 0, none⟩ = false ∧ w'.frozen? ⟨b, 1, none⟩ = false) :
    Calls Try.prog 113 #[.pointer (some ⟨b, 0, none⟩), .func (.func f) #[] #[.pointer (some pl)]] w fun e w' => e = .returned (.tuple #[]) ∧
      ∃ w2, R w2 ∧ w' = (w2.drew.setCell ⟨b, 0, none⟩ (.int .u32 1)).setCell ⟨b, 1, none⟩ (.int .i32 0) := by
  have hl := run_call_load (P := Try.prog) Try.func164 (by kernel_rfl) (by kernel_rfl) (by kernel_rfl) .u32 (by kernel_rfl) h0
  have hnot : ∀ (x : Bool) (w : World), (Op.unary .not (.bool x)).run Try.prog w = .ok (.bool (!x)) w := fun _ _ => rfl
  go_enter Try.func113, Try.ntmps113
  go_wp2_with (first | (go_at_call 149; refine (once_slow b pl _ R f hin h0 h1 f1 hcl hR).mono ?_; rintro e w' ⟨rfl, hw'⟩) | (go_at_call 148; go_in))
  go_end0
  exact ⟨rfl, hw'⟩

/-- done already -/
theorem once_done (a : Addr) (d : Int) (hd : ¬ d = 0) (fv : Value) (w : World) (h0 : w.cell? a = some (.int .u32 d)) :
    Calls Try.prog 113 #[.pointer (some a), fv] w fun e w' => e = .returned (.tuple #[]) ∧ w' = w := by
  have hl := run_call_load (P := Try.prog) Try.func164 (by kernel_rfl) (by kernel_rfl) (by kernel_rfl) .u32 (by kernel_rfl) h0
  have hnot : ∀ (x : Bool) (w : World), (Op.unary .not (.bool x)).run Try.prog w = .ok (.bool (!x)) w := fun _ _ => rfl
  have hd' : (d != 0) = true := by simp [hd]
  go_enter Try.func113, Try.ntmps113
  go_wp2
  go_end0
  exact ⟨rfl, rfl⟩
end Go.Proofs.Ytffghaeaohabhaa.AW
