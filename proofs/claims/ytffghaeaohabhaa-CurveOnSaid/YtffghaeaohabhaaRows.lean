/-
  No cell of these rows narrows 'for every input' (looked for: loops, veiled, ifaces, maps, wideKeys, modest, calm, conditions, laid).
  DERIVED. THE GIVEN ROWS OF THIS SEAT. 19 by the template 'for every input the law returns true; each argument reads behind the call as it read before'; 0 by the template 'total and deterministic' (their statements: YtffghaeaohabhaaTotals.lean).
  GIVEN WITH THE SEED: the statements are not yours to turn. If you find one false, say at which input.
  Laid BY PROGRAM, IN A SANDBOX (cutbox-rows.mjs): the forced cells as the released guide's own fill.sh prints them over the translation e74de1ae97a5229d… (all of the seat's roots in one cut). By AI agents, Wed Nov 11 2026. No macro, syntax, notation, axiom, sorry.
-/
import Derived.Test.YtffghaeaohabhaaChecked
import GoSem.Claim
import GoSem.ClaimJoined
import GoSem.ClaimMapViews
import Derived.JoinedTies
import Derived.KernelRfl
namespace Go.Proofs.Ytffghaeaohabhaa
/- THE CELL 'sum', in the pinned program and in every row, IS THE sha256 OF THE DUMP (.gsa) THAT YtffghaeaohabhaaProg.lean LOADS. Nothing in Lean hashes anything: it is a label: what it is worth is what the hold of that sum in a sandbox is worth. -/
noncomputable def Try.pinned : Pinned := { name := "ytffghaeaohabhaa", sum := "e74de1ae97a5229d8038a2264a544517863738675600fe245b1ca34a72b45ff4", checked := Try.checked }
namespace Rows
def none {H : Type} : Left H := { results := [], args := [] }

/-- 'casematelaw13.Sha256Constants': WHATEVER THE INPUT: true; the input reads as it did. -/
def sha256ConstantsSpec : ChangeSpec := { name := "sha256Constants", fn := fun _ => fun
  | [d] => { results := [.lit (.bool true)], args := [d] }
  | _ => none }
def sha256ConstantsRow : OpenClaim := { program := "ytffghaeaohabhaa", sum := "e74de1ae97a5229d8038a2264a544517863738675600fe245b1ca34a72b45ff4", func := "casemate/casematelaw13.Sha256Constants", spec := "sha256Constants", inPlace := ["math/bits.Add64", "sync/atomic.LoadUint32", "(*internal/sync.Mutex).Lock", "internal/race.Disable", "sync/atomic.CompareAndSwapInt32", "internal/race.Enable", "internal/race.Acquire", "(*internal/sync.Mutex).lockSlow", "internal/sync.runtime_canSpin", "internal/sync.runtime_doSpin", "internal/sync.throw", "internal/sync.runtime_nanotime", "internal/sync.runtime_SemacquireMutex", "sync/atomic.AddInt32", "(*internal/sync.Mutex).Unlock", "internal/race.ReleaseMerge", "(*internal/sync.Mutex).unlockSlow", "internal/sync.fatal", "internal/sync.runtime_Semrelease", "sync/atomic.StoreUint32", "sync/atomic.AddInt64", "sync/atomic.LoadInt64"], unfollowed := true, recurses := true, apart := false }
def Sha256ConstantsSaid : Prop := sha256ConstantsRow.holds Try.pinned (OpenSpec.ofChange sha256ConstantsSpec)

/-- ITS FALSE NEIGHBOUR: 'it returns false'. Refute it at one input. -/
def sha256ConstantsWrong : ChangeSpec := { name := "sha256Constants", fn := fun _ => fun
  | [d] => { results := [.lit (.bool false)], args := [d] }
  | _ => none }
def Sha256ConstantsWrongFalsely : Prop := sha256ConstantsRow.holds Try.pinned (OpenSpec.ofChange sha256ConstantsWrong)

/-- 'casematelaw13.Sha256Sums': WHATEVER THE INPUT: true; the input reads as it did. -/
def sha256SumsSpec : ChangeSpec := { name := "sha256Sums", fn := fun _ => fun
  | [d] => { results := [.lit (.bool true)], args := [d] }
  | _ => none }
def sha256SumsRow : OpenClaim := { program := "ytffghaeaohabhaa", sum := "e74de1ae97a5229d8038a2264a544517863738675600fe245b1ca34a72b45ff4", func := "casemate/casematelaw13.Sha256Sums", spec := "sha256Sums", inPlace := ["math/bits.Add64", "sync/atomic.LoadUint32", "(*internal/sync.Mutex).Lock", "internal/race.Disable", "sync/atomic.CompareAndSwapInt32", "internal/race.Enable", "internal/race.Acquire", "(*internal/sync.Mutex).lockSlow", "internal/sync.runtime_canSpin", "internal/sync.runtime_doSpin", "internal/sync.throw", "internal/sync.runtime_nanotime", "internal/sync.runtime_SemacquireMutex", "sync/atomic.AddInt32", "(*internal/sync.Mutex).Unlock", "internal/race.ReleaseMerge", "(*internal/sync.Mutex).unlockSlow", "internal/sync.fatal", "internal/sync.runtime_Semrelease", "sync/atomic.StoreUint32", "sync/atomic.AddInt64", "sync/atomic.LoadInt64"], unfollowed := true, recurses := true, apart := false }
def Sha256SumsSaid : Prop := sha256SumsRow.holds Try.pinned (OpenSpec.ofChange sha256SumsSpec)

/-- ITS FALSE NEIGHBOUR: 'it returns false'. Refute it at one input. -/
def sha256SumsWrong : ChangeSpec := { name := "sha256Sums", fn := fun _ => fun
  | [d] => { results := [.lit (.bool false)], args := [d] }
  | _ => none }
def Sha256SumsWrongFalsely : Prop := sha256SumsRow.holds Try.pinned (OpenSpec.ofChange sha256SumsWrong)

/-- 'casematelaw13.Sha256Writes': WHATEVER THE INPUT: true; the input reads as it did. -/
def sha256WritesSpec : ChangeSpec := { name := "sha256Writes", fn := fun _ => fun
  | [d] => { results := [.lit (.bool true)], args := [d] }
  | _ => none }
def sha256WritesRow : OpenClaim := { program := "ytffghaeaohabhaa", sum := "e74de1ae97a5229d8038a2264a544517863738675600fe245b1ca34a72b45ff4", func := "casemate/casematelaw13.Sha256Writes", spec := "sha256Writes", inPlace := ["math/bits.Add64", "sync/atomic.LoadUint32", "(*internal/sync.Mutex).Lock", "internal/race.Disable", "sync/atomic.CompareAndSwapInt32", "internal/race.Enable", "internal/race.Acquire", "(*internal/sync.Mutex).lockSlow", "internal/sync.runtime_canSpin", "internal/sync.runtime_doSpin", "internal/sync.throw", "internal/sync.runtime_nanotime", "internal/sync.runtime_SemacquireMutex", "sync/atomic.AddInt32", "(*internal/sync.Mutex).Unlock", "internal/race.ReleaseMerge", "(*internal/sync.Mutex).unlockSlow", "internal/sync.fatal", "internal/sync.runtime_Semrelease", "sync/atomic.StoreUint32", "sync/atomic.AddInt64", "sync/atomic.LoadInt64"], unfollowed := true, recurses := true, apart := false }
def Sha256WritesSaid : Prop := sha256WritesRow.holds Try.pinned (OpenSpec.ofChange sha256WritesSpec)

/-- ITS FALSE NEIGHBOUR: 'it returns false'. Refute it at one input. -/
def sha256WritesWrong : ChangeSpec := { name := "sha256Writes", fn := fun _ => fun
  | [d] => { results := [.lit (.bool false)], args := [d] }
  | _ => none }
def Sha256WritesWrongFalsely : Prop := sha256WritesRow.holds Try.pinned (OpenSpec.ofChange sha256WritesWrong)

/-- 'casematelaw13.Sha256Pads': WHATEVER THE INPUT: true; the input reads as it did. -/
def sha256PadsSpec : ChangeSpec := { name := "sha256Pads", fn := fun _ => fun
  | [d] => { results := [.lit (.bool true)], args := [d] }
  | _ => none }
def sha256PadsRow : OpenClaim := { program := "ytffghaeaohabhaa", sum := "e74de1ae97a5229d8038a2264a544517863738675600fe245b1ca34a72b45ff4", func := "casemate/casematelaw13.Sha256Pads", spec := "sha256Pads", inPlace := ["math/bits.Add64", "sync/atomic.LoadUint32", "(*internal/sync.Mutex).Lock", "internal/race.Disable", "sync/atomic.CompareAndSwapInt32", "internal/race.Enable", "internal/race.Acquire", "(*internal/sync.Mutex).lockSlow", "internal/sync.runtime_canSpin", "internal/sync.runtime_doSpin", "internal/sync.throw", "internal/sync.runtime_nanotime", "internal/sync.runtime_SemacquireMutex", "sync/atomic.AddInt32", "(*internal/sync.Mutex).Unlock", "internal/race.ReleaseMerge", "(*internal/sync.Mutex).unlockSlow", "internal/sync.fatal", "internal/sync.runtime_Semrelease", "sync/atomic.StoreUint32", "sync/atomic.AddInt64", "sync/atomic.LoadInt64"], unfollowed := true, recurses := true, apart := false }
def Sha256PadsSaid : Prop := sha256PadsRow.holds Try.pinned (OpenSpec.ofChange sha256PadsSpec)

/-- ITS FALSE NEIGHBOUR: 'it returns false'. Refute it at one input. -/
def sha256PadsWrong : ChangeSpec := { name := "sha256Pads", fn := fun _ => fun
  | [d] => { results := [.lit (.bool false)], args := [d] }
  | _ => none }
def Sha256PadsWrongFalsely : Prop := sha256PadsRow.holds Try.pinned (OpenSpec.ofChange sha256PadsWrong)

/-- 'casematelaw13.Sha256Lengths': WHATEVER THE INPUT: true; the input reads as it did. -/
def sha256LengthsSpec : ChangeSpec := { name := "sha256Lengths", fn := fun _ => fun
  | [d] => { results := [.lit (.bool true)], args := [d] }
  | _ => none }
def sha256LengthsRow : OpenClaim := { program := "ytffghaeaohabhaa", sum := "e74de1ae97a5229d8038a2264a544517863738675600fe245b1ca34a72b45ff4", func := "casemate/casematelaw13.Sha256Lengths", spec := "sha256Lengths", inPlace := ["math/bits.Add64", "sync/atomic.LoadUint32", "(*internal/sync.Mutex).Lock", "internal/race.Disable", "sync/atomic.CompareAndSwapInt32", "internal/race.Enable", "internal/race.Acquire", "(*internal/sync.Mutex).lockSlow", "internal/sync.runtime_canSpin", "internal/sync.runtime_doSpin", "internal/sync.throw", "internal/sync.runtime_nanotime", "internal/sync.runtime_SemacquireMutex", "sync/atomic.AddInt32", "(*internal/sync.Mutex).Unlock", "internal/race.ReleaseMerge", "(*internal/sync.Mutex).unlockSlow", "internal/sync.fatal", "internal/sync.runtime_Semrelease", "sync/atomic.StoreUint32", "sync/atomic.AddInt64", "sync/atomic.LoadInt64"], unfollowed := true, recurses := true, apart := false }
def Sha256LengthsSaid : Prop := sha256LengthsRow.holds Try.pinned (OpenSpec.ofChange sha256LengthsSpec)

/-- ITS FALSE NEIGHBOUR: 'it returns false'. Refute it at one input. -/
def sha256LengthsWrong : ChangeSpec := { name := "sha256Lengths", fn := fun _ => fun
  | [d] => { results := [.lit (.bool false)], args := [d] }
  | _ => none }
def Sha256LengthsWrongFalsely : Prop := sha256LengthsRow.holds Try.pinned (OpenSpec.ofChange sha256LengthsWrong)

/-- 'casematelaw13.Sha256Blocks': WHATEVER THE INPUT: true; the input reads as it did. -/
def sha256BlocksSpec : ChangeSpec := { name := "sha256Blocks", fn := fun _ => fun
  | [d1, d2] => { results := [.lit (.bool true)], args := [d1, d2] }
  | _ => none }
def sha256BlocksRow : OpenClaim := { program := "ytffghaeaohabhaa", sum := "e74de1ae97a5229d8038a2264a544517863738675600fe245b1ca34a72b45ff4", func := "casemate/casematelaw13.Sha256Blocks", spec := "sha256Blocks", inPlace := ["math/bits.Add64", "sync/atomic.LoadUint32", "(*internal/sync.Mutex).Lock", "internal/race.Disable", "sync/atomic.CompareAndSwapInt32", "internal/race.Enable", "internal/race.Acquire", "(*internal/sync.Mutex).lockSlow", "internal/sync.runtime_canSpin", "internal/sync.runtime_doSpin", "internal/sync.throw", "internal/sync.runtime_nanotime", "internal/sync.runtime_SemacquireMutex", "sync/atomic.AddInt32", "(*internal/sync.Mutex).Unlock", "internal/race.ReleaseMerge", "(*internal/sync.Mutex).unlockSlow", "internal/sync.fatal", "internal/sync.runtime_Semrelease", "sync/atomic.StoreUint32", "sync/atomic.AddInt64", "sync/atomic.LoadInt64"], unfollowed := true, recurses := true, apart := false }
def Sha256BlocksSaid : Prop := sha256BlocksRow.holds Try.pinned (OpenSpec.ofChange sha256BlocksSpec)

/-- ITS FALSE NEIGHBOUR: 'it returns false'. Refute it at one input. -/
def sha256BlocksWrong : ChangeSpec := { name := "sha256Blocks", fn := fun _ => fun
  | [d1, d2] => { results := [.lit (.bool false)], args := [d1, d2] }
  | _ => none }
def Sha256BlocksWrongFalsely : Prop := sha256BlocksRow.holds Try.pinned (OpenSpec.ofChange sha256BlocksWrong)

/-- 'casematelaw13.Sha256Steps': WHATEVER THE INPUT: true; the input reads as it did. -/
def sha256StepsSpec : ChangeSpec := { name := "sha256Steps", fn := fun _ => fun
  | [d] => { results := [.lit (.bool true)], args := [d] }
  | _ => none }
def sha256StepsRow : OpenClaim := { program := "ytffghaeaohabhaa", sum := "e74de1ae97a5229d8038a2264a544517863738675600fe245b1ca34a72b45ff4", func := "casemate/casematelaw13.Sha256Steps", spec := "sha256Steps", inPlace := ["math/bits.Add64", "sync/atomic.LoadUint32", "(*internal/sync.Mutex).Lock", "internal/race.Disable", "sync/atomic.CompareAndSwapInt32", "internal/race.Enable", "internal/race.Acquire", "(*internal/sync.Mutex).lockSlow", "internal/sync.runtime_canSpin", "internal/sync.runtime_doSpin", "internal/sync.throw", "internal/sync.runtime_nanotime", "internal/sync.runtime_SemacquireMutex", "sync/atomic.AddInt32", "(*internal/sync.Mutex).Unlock", "internal/race.ReleaseMerge", "(*internal/sync.Mutex).unlockSlow", "internal/sync.fatal", "internal/sync.runtime_Semrelease", "sync/atomic.StoreUint32", "sync/atomic.AddInt64", "sync/atomic.LoadInt64"], unfollowed := true, recurses := true, apart := false }
def Sha256StepsSaid : Prop := sha256StepsRow.holds Try.pinned (OpenSpec.ofChange sha256StepsSpec)

/-- ITS FALSE NEIGHBOUR: 'it returns false'. Refute it at one input. -/
def sha256StepsWrong : ChangeSpec := { name := "sha256Steps", fn := fun _ => fun
  | [d] => { results := [.lit (.bool false)], args := [d] }
  | _ => none }
def Sha256StepsWrongFalsely : Prop := sha256StepsRow.holds Try.pinned (OpenSpec.ofChange sha256StepsWrong)

/-- 'casematelaw17.CurveOn': WHATEVER THE INPUT: true; the input reads as it did. -/
def curveOnSpec : ChangeSpec := { name := "curveOn", fn := fun _ => fun
  | [d1, d2, d3] => { results := [.lit (.bool true)], args := [d1, d2, d3] }
  | _ => none }
def curveOnRow : OpenClaim := { program := "ytffghaeaohabhaa", sum := "e74de1ae97a5229d8038a2264a544517863738675600fe245b1ca34a72b45ff4", func := "casemate/casematelaw17.CurveOn", spec := "curveOn", inPlace := ["math/bits.Sub64", "math/bits.Add64"], unfollowed := true, recurses := true, apart := false }
def CurveOnSaid : Prop := curveOnRow.holds Try.pinned (OpenSpec.ofChange curveOnSpec)

/-- ITS FALSE NEIGHBOUR: 'it returns false'. Refute it at one input. -/
def curveOnWrong : ChangeSpec := { name := "curveOn", fn := fun _ => fun
  | [d1, d2, d3] => { results := [.lit (.bool false)], args := [d1, d2, d3] }
  | _ => none }
def CurveOnWrongFalsely : Prop := curveOnRow.holds Try.pinned (OpenSpec.ofChange curveOnWrong)

/-- 'casematelaw17.CurveAdds': WHATEVER THE INPUT: true; the input reads as it did. -/
def curveAddsSpec : ChangeSpec := { name := "curveAdds", fn := fun _ => fun
  | [d1, d2] => { results := [.lit (.bool true)], args := [d1, d2] }
  | _ => none }
def curveAddsRow : OpenClaim := { program := "ytffghaeaohabhaa", sum := "e74de1ae97a5229d8038a2264a544517863738675600fe245b1ca34a72b45ff4", func := "casemate/casematelaw17.CurveAdds", spec := "curveAdds", inPlace := ["math/bits.Sub64", "math/bits.Add64"], unfollowed := true, recurses := true, apart := false }
def CurveAddsSaid : Prop := curveAddsRow.holds Try.pinned (OpenSpec.ofChange curveAddsSpec)

/-- ITS FALSE NEIGHBOUR: 'it returns false'. Refute it at one input. -/
def curveAddsWrong : ChangeSpec := { name := "curveAdds", fn := fun _ => fun
  | [d1, d2] => { results := [.lit (.bool false)], args := [d1, d2] }
  | _ => none }
def CurveAddsWrongFalsely : Prop := curveAddsRow.holds Try.pinned (OpenSpec.ofChange curveAddsWrong)

/-- 'casematelaw17.CurveLaws': WHATEVER THE INPUT: true; the input reads as it did. -/
def curveLawsSpec : ChangeSpec := { name := "curveLaws", fn := fun _ => fun
  | [d1, d2, d3] => { results := [.lit (.bool true)], args := [d1, d2, d3] }
  | _ => none }
def curveLawsRow : OpenClaim := { program := "ytffghaeaohabhaa", sum := "e74de1ae97a5229d8038a2264a544517863738675600fe245b1ca34a72b45ff4", func := "casemate/casematelaw17.CurveLaws", spec := "curveLaws", inPlace := ["math/bits.Sub64", "math/bits.Add64"], unfollowed := true, recurses := true, apart := false }
def CurveLawsSaid : Prop := curveLawsRow.holds Try.pinned (OpenSpec.ofChange curveLawsSpec)

/-- ITS FALSE NEIGHBOUR: 'it returns false'. Refute it at one input. -/
def curveLawsWrong : ChangeSpec := { name := "curveLaws", fn := fun _ => fun
  | [d1, d2, d3] => { results := [.lit (.bool false)], args := [d1, d2, d3] }
  | _ => none }
def CurveLawsWrongFalsely : Prop := curveLawsRow.holds Try.pinned (OpenSpec.ofChange curveLawsWrong)

/-- 'casematelaw17.CurvePacks': WHATEVER THE INPUT: true; the input reads as it did. -/
def curvePacksSpec : ChangeSpec := { name := "curvePacks", fn := fun _ => fun
  | [d1, d2] => { results := [.lit (.bool true)], args := [d1, d2] }
  | _ => none }
def curvePacksRow : OpenClaim := { program := "ytffghaeaohabhaa", sum := "e74de1ae97a5229d8038a2264a544517863738675600fe245b1ca34a72b45ff4", func := "casemate/casematelaw17.CurvePacks", spec := "curvePacks", inPlace := ["math/bits.Sub64", "math/bits.Add64"], unfollowed := true, recurses := true, apart := false }
def CurvePacksSaid : Prop := curvePacksRow.holds Try.pinned (OpenSpec.ofChange curvePacksSpec)

/-- ITS FALSE NEIGHBOUR: 'it returns false'. Refute it at one input. -/
def curvePacksWrong : ChangeSpec := { name := "curvePacks", fn := fun _ => fun
  | [d1, d2] => { results := [.lit (.bool false)], args := [d1, d2] }
  | _ => none }
def CurvePacksWrongFalsely : Prop := curvePacksRow.holds Try.pinned (OpenSpec.ofChange curvePacksWrong)

/-- 'casematelaw17.CurveUnpacks': WHATEVER THE INPUT: true; the input reads as it did. -/
def curveUnpacksSpec : ChangeSpec := { name := "curveUnpacks", fn := fun _ => fun
  | [d] => { results := [.lit (.bool true)], args := [d] }
  | _ => none }
def curveUnpacksRow : OpenClaim := { program := "ytffghaeaohabhaa", sum := "e74de1ae97a5229d8038a2264a544517863738675600fe245b1ca34a72b45ff4", func := "casemate/casematelaw17.CurveUnpacks", spec := "curveUnpacks", inPlace := ["math/bits.Sub64", "math/bits.Add64"], unfollowed := true, recurses := true, apart := false }
def CurveUnpacksSaid : Prop := curveUnpacksRow.holds Try.pinned (OpenSpec.ofChange curveUnpacksSpec)

/-- ITS FALSE NEIGHBOUR: 'it returns false'. Refute it at one input. -/
def curveUnpacksWrong : ChangeSpec := { name := "curveUnpacks", fn := fun _ => fun
  | [d] => { results := [.lit (.bool false)], args := [d] }
  | _ => none }
def CurveUnpacksWrongFalsely : Prop := curveUnpacksRow.holds Try.pinned (OpenSpec.ofChange curveUnpacksWrong)

/-- 'casematelaw17.CurveOrders': WHATEVER THE INPUT: true; the input reads as it did. -/
def curveOrdersSpec : ChangeSpec := { name := "curveOrders", fn := fun _ => fun
  | [d] => { results := [.lit (.bool true)], args := [d] }
  | _ => none }
def curveOrdersRow : OpenClaim := { program := "ytffghaeaohabhaa", sum := "e74de1ae97a5229d8038a2264a544517863738675600fe245b1ca34a72b45ff4", func := "casemate/casematelaw17.CurveOrders", spec := "curveOrders", inPlace := ["math/bits.Sub64", "math/bits.Add64"], unfollowed := true, recurses := true, apart := false }
def CurveOrdersSaid : Prop := curveOrdersRow.holds Try.pinned (OpenSpec.ofChange curveOrdersSpec)

/-- ITS FALSE NEIGHBOUR: 'it returns false'. Refute it at one input. -/
def curveOrdersWrong : ChangeSpec := { name := "curveOrders", fn := fun _ => fun
  | [d] => { results := [.lit (.bool false)], args := [d] }
  | _ => none }
def CurveOrdersWrongFalsely : Prop := curveOrdersRow.holds Try.pinned (OpenSpec.ofChange curveOrdersWrong)

/-- 'casematelaw17.CurveTwo': WHATEVER THE INPUT: true; the input reads as it did. -/
def curveTwoSpec : ChangeSpec := { name := "curveTwo", fn := fun _ => fun
  | [d] => { results := [.lit (.bool true)], args := [d] }
  | _ => none }
def curveTwoRow : OpenClaim := { program := "ytffghaeaohabhaa", sum := "e74de1ae97a5229d8038a2264a544517863738675600fe245b1ca34a72b45ff4", func := "casemate/casematelaw17.CurveTwo", spec := "curveTwo", inPlace := ["math/bits.Sub64", "math/bits.Add64"], unfollowed := true, recurses := true, apart := false }
def CurveTwoSaid : Prop := curveTwoRow.holds Try.pinned (OpenSpec.ofChange curveTwoSpec)

/-- ITS FALSE NEIGHBOUR: 'it returns false'. Refute it at one input. -/
def curveTwoWrong : ChangeSpec := { name := "curveTwo", fn := fun _ => fun
  | [d] => { results := [.lit (.bool false)], args := [d] }
  | _ => none }
def CurveTwoWrongFalsely : Prop := curveTwoRow.holds Try.pinned (OpenSpec.ofChange curveTwoWrong)

/-- 'casematelaw17.CurveScales': WHATEVER THE INPUT: true; the input reads as it did. -/
def curveScalesSpec : ChangeSpec := { name := "curveScales", fn := fun _ => fun
  | [d1, d2] => { results := [.lit (.bool true)], args := [d1, d2] }
  | _ => none }
def curveScalesRow : OpenClaim := { program := "ytffghaeaohabhaa", sum := "e74de1ae97a5229d8038a2264a544517863738675600fe245b1ca34a72b45ff4", func := "casemate/casematelaw17.CurveScales", spec := "curveScales", inPlace := ["math/bits.Sub64", "math/bits.Add64"], unfollowed := true, recurses := true, apart := false }
def CurveScalesSaid : Prop := curveScalesRow.holds Try.pinned (OpenSpec.ofChange curveScalesSpec)

/-- ITS FALSE NEIGHBOUR: 'it returns false'. Refute it at one input. -/
def curveScalesWrong : ChangeSpec := { name := "curveScales", fn := fun _ => fun
  | [d1, d2] => { results := [.lit (.bool false)], args := [d1, d2] }
  | _ => none }
def CurveScalesWrongFalsely : Prop := curveScalesRow.holds Try.pinned (OpenSpec.ofChange curveScalesWrong)

/-- 'casematelaw18.ScalarScales': WHATEVER THE INPUT: true; the input reads as it did. -/
def scalarScalesSpec : ChangeSpec := { name := "scalarScales", fn := fun _ => fun
  | [d] => { results := [.lit (.bool true)], args := [d] }
  | _ => none }
def scalarScalesRow : OpenClaim := { program := "ytffghaeaohabhaa", sum := "e74de1ae97a5229d8038a2264a544517863738675600fe245b1ca34a72b45ff4", func := "casemate/casematelaw18.ScalarScales", spec := "scalarScales", inPlace := ["math/bits.Sub64", "math/bits.Add64"], unfollowed := true, recurses := true, apart := false }
def ScalarScalesSaid : Prop := scalarScalesRow.holds Try.pinned (OpenSpec.ofChange scalarScalesSpec)

/-- ITS FALSE NEIGHBOUR: 'it returns false'. Refute it at one input. -/
def scalarScalesWrong : ChangeSpec := { name := "scalarScales", fn := fun _ => fun
  | [d] => { results := [.lit (.bool false)], args := [d] }
  | _ => none }
def ScalarScalesWrongFalsely : Prop := scalarScalesRow.holds Try.pinned (OpenSpec.ofChange scalarScalesWrong)

/-- 'casematelaw19.EdVerifies': WHATEVER THE INPUT: true; the input reads as it did. -/
def edVerifiesSpec : ChangeSpec := { name := "edVerifies", fn := fun _ => fun
  | [d1, d2] => { results := [.lit (.bool true)], args := [d1, d2] }
  | _ => none }
def edVerifiesRow : OpenClaim := { program := "ytffghaeaohabhaa", sum := "e74de1ae97a5229d8038a2264a544517863738675600fe245b1ca34a72b45ff4", func := "casemate/casematelaw19.EdVerifies", spec := "edVerifies", inPlace := ["math/bits.Add64", "math/bits.Sub64"], unfollowed := true, recurses := true, apart := false }
def EdVerifiesSaid : Prop := edVerifiesRow.holds Try.pinned (OpenSpec.ofChange edVerifiesSpec)

/-- ITS FALSE NEIGHBOUR: 'it returns false'. Refute it at one input. -/
def edVerifiesWrong : ChangeSpec := { name := "edVerifies", fn := fun _ => fun
  | [d1, d2] => { results := [.lit (.bool false)], args := [d1, d2] }
  | _ => none }
def EdVerifiesWrongFalsely : Prop := edVerifiesRow.holds Try.pinned (OpenSpec.ofChange edVerifiesWrong)

/-- 'casematelaw19.EdOne': WHATEVER THE INPUT: true; the input reads as it did. -/
def edOneSpec : ChangeSpec := { name := "edOne", fn := fun _ => fun
  | [d1, d2, d3] => { results := [.lit (.bool true)], args := [d1, d2, d3] }
  | _ => none }
def edOneRow : OpenClaim := { program := "ytffghaeaohabhaa", sum := "e74de1ae97a5229d8038a2264a544517863738675600fe245b1ca34a72b45ff4", func := "casemate/casematelaw19.EdOne", spec := "edOne", inPlace := ["math/bits.Add64", "math/bits.Sub64"], unfollowed := true, recurses := true, apart := false }
def EdOneSaid : Prop := edOneRow.holds Try.pinned (OpenSpec.ofChange edOneSpec)

/-- ITS FALSE NEIGHBOUR: 'it returns false'. Refute it at one input. -/
def edOneWrong : ChangeSpec := { name := "edOne", fn := fun _ => fun
  | [d1, d2, d3] => { results := [.lit (.bool false)], args := [d1, d2, d3] }
  | _ => none }
def EdOneWrongFalsely : Prop := edOneRow.holds Try.pinned (OpenSpec.ofChange edOneWrong)

/-- 'casematelaw19.EdForms': WHATEVER THE INPUT: true; the input reads as it did. -/
def edFormsSpec : ChangeSpec := { name := "edForms", fn := fun _ => fun
  | [d1, d2] => { results := [.lit (.bool true)], args := [d1, d2] }
  | _ => none }
def edFormsRow : OpenClaim := { program := "ytffghaeaohabhaa", sum := "e74de1ae97a5229d8038a2264a544517863738675600fe245b1ca34a72b45ff4", func := "casemate/casematelaw19.EdForms", spec := "edForms", inPlace := ["math/bits.Add64", "math/bits.Sub64"], unfollowed := true, recurses := true, apart := false }
def EdFormsSaid : Prop := edFormsRow.holds Try.pinned (OpenSpec.ofChange edFormsSpec)

/-- ITS FALSE NEIGHBOUR: 'it returns false'. Refute it at one input. -/
def edFormsWrong : ChangeSpec := { name := "edForms", fn := fun _ => fun
  | [d1, d2] => { results := [.lit (.bool false)], args := [d1, d2] }
  | _ => none }
def EdFormsWrongFalsely : Prop := edFormsRow.holds Try.pinned (OpenSpec.ofChange edFormsWrong)

/- THE SECOND FORM. 'bulk': how many values and letters a reading holds, each counted each time it is reached (what is shared counts as often as it is met; a slice's spare places count too). A statement '..UptoSaid' is the law's where the arguments, and the package variables that the reading takes, are together of bulk at most 1048576: NARROWER than '..Said'. Prove '..Said' where nothing that the law and all that it calls make is longer than what came in: it says more and counts as full. Else prove '..UptoSaid'. A law counts once. -/
mutual
def uptoBulk {H : Type} : DataW H → Nat
  | .lit (.string bytes) => bytes.length + 1
  | .lit _ => 1
  | .nil => 1
  | .ptr d => uptoBulk d + 1
  | .slice elems spare => uptoBulkAll elems + uptoBulkAll spare + 1
  | .agg parts => uptoBulkAll parts + 1
  | .iface _ d => uptoBulk d + 1
  | .map entries => uptoBulkEntries entries + 1
  | .held _ => 1
def uptoBulkAll {H : Type} : List (DataW H) → Nat
  | [] => 0
  | d :: r => uptoBulk d + uptoBulkAll r
def uptoBulkEntries {H : Type} : List (Lit × DataW H) → Nat
  | [] => 0
  | x :: r => uptoBulkEntry x + uptoBulkEntries r
def uptoBulkEntry {H : Type} : Lit × DataW H → Nat
  | (.string bytes, d) => bytes.length + uptoBulk d + 1
  | (_, d) => uptoBulk d + 1
 end
def uptoSmall : (H : Type) → List (DataW H) → Bool := fun _ ds => decide (uptoBulkAll ds ≤ 1048576)
def OpenSpec.upto (s : _root_.Go.ChangeSpec) : _root_.Go.OpenSpec := { _root_.Go.OpenSpec.ofChange s with cond := some uptoSmall }

/-- 'casematelaw13.Sha256Constants', WHERE WHAT IT READS IS OF BULK AT MOST 1048576: true; the input reads as it did. -/
def sha256ConstantsUptoRow : OpenClaim := { program := "ytffghaeaohabhaa", sum := "e74de1ae97a5229d8038a2264a544517863738675600fe245b1ca34a72b45ff4", func := "casemate/casematelaw13.Sha256Constants", spec := "sha256Constants", inPlace := ["math/bits.Add64", "sync/atomic.LoadUint32", "(*internal/sync.Mutex).Lock", "internal/race.Disable", "sync/atomic.CompareAndSwapInt32", "internal/race.Enable", "internal/race.Acquire", "(*internal/sync.Mutex).lockSlow", "internal/sync.runtime_canSpin", "internal/sync.runtime_doSpin", "internal/sync.throw", "internal/sync.runtime_nanotime", "internal/sync.runtime_SemacquireMutex", "sync/atomic.AddInt32", "(*internal/sync.Mutex).Unlock", "internal/race.ReleaseMerge", "(*internal/sync.Mutex).unlockSlow", "internal/sync.fatal", "internal/sync.runtime_Semrelease", "sync/atomic.StoreUint32", "sync/atomic.AddInt64", "sync/atomic.LoadInt64"], unfollowed := true, recurses := true, apart := false, narrowed := true }
def Sha256ConstantsUptoSaid : Prop := sha256ConstantsUptoRow.holds Try.pinned (OpenSpec.upto sha256ConstantsSpec)

/-- 'casematelaw13.Sha256Sums', WHERE WHAT IT READS IS OF BULK AT MOST 1048576: true; the input reads as it did. -/
def sha256SumsUptoRow : OpenClaim := { program := "ytffghaeaohabhaa", sum := "e74de1ae97a5229d8038a2264a544517863738675600fe245b1ca34a72b45ff4", func := "casemate/casematelaw13.Sha256Sums", spec := "sha256Sums", inPlace := ["math/bits.Add64", "sync/atomic.LoadUint32", "(*internal/sync.Mutex).Lock", "internal/race.Disable", "sync/atomic.CompareAndSwapInt32", "internal/race.Enable", "internal/race.Acquire", "(*internal/sync.Mutex).lockSlow", "internal/sync.runtime_canSpin", "internal/sync.runtime_doSpin", "internal/sync.throw", "internal/sync.runtime_nanotime", "internal/sync.runtime_SemacquireMutex", "sync/atomic.AddInt32", "(*internal/sync.Mutex).Unlock", "internal/race.ReleaseMerge", "(*internal/sync.Mutex).unlockSlow", "internal/sync.fatal", "internal/sync.runtime_Semrelease", "sync/atomic.StoreUint32", "sync/atomic.AddInt64", "sync/atomic.LoadInt64"], unfollowed := true, recurses := true, apart := false, narrowed := true }
def Sha256SumsUptoSaid : Prop := sha256SumsUptoRow.holds Try.pinned (OpenSpec.upto sha256SumsSpec)

/-- 'casematelaw13.Sha256Writes', WHERE WHAT IT READS IS OF BULK AT MOST 1048576: true; the input reads as it did. -/
def sha256WritesUptoRow : OpenClaim := { program := "ytffghaeaohabhaa", sum := "e74de1ae97a5229d8038a2264a544517863738675600fe245b1ca34a72b45ff4", func := "casemate/casematelaw13.Sha256Writes", spec := "sha256Writes", inPlace := ["math/bits.Add64", "sync/atomic.LoadUint32", "(*internal/sync.Mutex).Lock", "internal/race.Disable", "sync/atomic.CompareAndSwapInt32", "internal/race.Enable", "internal/race.Acquire", "(*internal/sync.Mutex).lockSlow", "internal/sync.runtime_canSpin", "internal/sync.runtime_doSpin", "internal/sync.throw", "internal/sync.runtime_nanotime", "internal/sync.runtime_SemacquireMutex", "sync/atomic.AddInt32", "(*internal/sync.Mutex).Unlock", "internal/race.ReleaseMerge", "(*internal/sync.Mutex).unlockSlow", "internal/sync.fatal", "internal/sync.runtime_Semrelease", "sync/atomic.StoreUint32", "sync/atomic.AddInt64", "sync/atomic.LoadInt64"], unfollowed := true, recurses := true, apart := false, narrowed := true }
def Sha256WritesUptoSaid : Prop := sha256WritesUptoRow.holds Try.pinned (OpenSpec.upto sha256WritesSpec)

/-- 'casematelaw13.Sha256Pads', WHERE WHAT IT READS IS OF BULK AT MOST 1048576: true; the input reads as it did. -/
def sha256PadsUptoRow : OpenClaim := { program := "ytffghaeaohabhaa", sum := "e74de1ae97a5229d8038a2264a544517863738675600fe245b1ca34a72b45ff4", func := "casemate/casematelaw13.Sha256Pads", spec := "sha256Pads", inPlace := ["math/bits.Add64", "sync/atomic.LoadUint32", "(*internal/sync.Mutex).Lock", "internal/race.Disable", "sync/atomic.CompareAndSwapInt32", "internal/race.Enable", "internal/race.Acquire", "(*internal/sync.Mutex).lockSlow", "internal/sync.runtime_canSpin", "internal/sync.runtime_doSpin", "internal/sync.throw", "internal/sync.runtime_nanotime", "internal/sync.runtime_SemacquireMutex", "sync/atomic.AddInt32", "(*internal/sync.Mutex).Unlock", "internal/race.ReleaseMerge", "(*internal/sync.Mutex).unlockSlow", "internal/sync.fatal", "internal/sync.runtime_Semrelease", "sync/atomic.StoreUint32", "sync/atomic.AddInt64", "sync/atomic.LoadInt64"], unfollowed := true, recurses := true, apart := false, narrowed := true }
def Sha256PadsUptoSaid : Prop := sha256PadsUptoRow.holds Try.pinned (OpenSpec.upto sha256PadsSpec)

/-- 'casematelaw13.Sha256Lengths', WHERE WHAT IT READS IS OF BULK AT MOST 1048576: true; the input reads as it did. -/
def sha256LengthsUptoRow : OpenClaim := { program := "ytffghaeaohabhaa", sum := "e74de1ae97a5229d8038a2264a544517863738675600fe245b1ca34a72b45ff4", func := "casemate/casematelaw13.Sha256Lengths", spec := "sha256Lengths", inPlace := ["math/bits.Add64", "sync/atomic.LoadUint32", "(*internal/sync.Mutex).Lock", "internal/race.Disable", "sync/atomic.CompareAndSwapInt32", "internal/race.Enable", "internal/race.Acquire", "(*internal/sync.Mutex).lockSlow", "internal/sync.runtime_canSpin", "internal/sync.runtime_doSpin", "internal/sync.throw", "internal/sync.runtime_nanotime", "internal/sync.runtime_SemacquireMutex", "sync/atomic.AddInt32", "(*internal/sync.Mutex).Unlock", "internal/race.ReleaseMerge", "(*internal/sync.Mutex).unlockSlow", "internal/sync.fatal", "internal/sync.runtime_Semrelease", "sync/atomic.StoreUint32", "sync/atomic.AddInt64", "sync/atomic.LoadInt64"], unfollowed := true, recurses := true, apart := false, narrowed := true }
def Sha256LengthsUptoSaid : Prop := sha256LengthsUptoRow.holds Try.pinned (OpenSpec.upto sha256LengthsSpec)

/-- 'casematelaw13.Sha256Blocks', WHERE WHAT IT READS IS OF BULK AT MOST 1048576: true; the input reads as it did. -/
def sha256BlocksUptoRow : OpenClaim := { program := "ytffghaeaohabhaa", sum := "e74de1ae97a5229d8038a2264a544517863738675600fe245b1ca34a72b45ff4", func := "casemate/casematelaw13.Sha256Blocks", spec := "sha256Blocks", inPlace := ["math/bits.Add64", "sync/atomic.LoadUint32", "(*internal/sync.Mutex).Lock", "internal/race.Disable", "sync/atomic.CompareAndSwapInt32", "internal/race.Enable", "internal/race.Acquire", "(*internal/sync.Mutex).lockSlow", "internal/sync.runtime_canSpin", "internal/sync.runtime_doSpin", "internal/sync.throw", "internal/sync.runtime_nanotime", "internal/sync.runtime_SemacquireMutex", "sync/atomic.AddInt32", "(*internal/sync.Mutex).Unlock", "internal/race.ReleaseMerge", "(*internal/sync.Mutex).unlockSlow", "internal/sync.fatal", "internal/sync.runtime_Semrelease", "sync/atomic.StoreUint32", "sync/atomic.AddInt64", "sync/atomic.LoadInt64"], unfollowed := true, recurses := true, apart := false, narrowed := true }
def Sha256BlocksUptoSaid : Prop := sha256BlocksUptoRow.holds Try.pinned (OpenSpec.upto sha256BlocksSpec)

/-- 'casematelaw13.Sha256Steps', WHERE WHAT IT READS IS OF BULK AT MOST 1048576: true; the input reads as it did. -/
def sha256StepsUptoRow : OpenClaim := { program := "ytffghaeaohabhaa", sum := "e74de1ae97a5229d8038a2264a544517863738675600fe245b1ca34a72b45ff4", func := "casemate/casematelaw13.Sha256Steps", spec := "sha256Steps", inPlace := ["math/bits.Add64", "sync/atomic.LoadUint32", "(*internal/sync.Mutex).Lock", "internal/race.Disable", "sync/atomic.CompareAndSwapInt32", "internal/race.Enable", "internal/race.Acquire", "(*internal/sync.Mutex).lockSlow", "internal/sync.runtime_canSpin", "internal/sync.runtime_doSpin", "internal/sync.throw", "internal/sync.runtime_nanotime", "internal/sync.runtime_SemacquireMutex", "sync/atomic.AddInt32", "(*internal/sync.Mutex).Unlock", "internal/race.ReleaseMerge", "(*internal/sync.Mutex).unlockSlow", "internal/sync.fatal", "internal/sync.runtime_Semrelease", "sync/atomic.StoreUint32", "sync/atomic.AddInt64", "sync/atomic.LoadInt64"], unfollowed := true, recurses := true, apart := false, narrowed := true }
def Sha256StepsUptoSaid : Prop := sha256StepsUptoRow.holds Try.pinned (OpenSpec.upto sha256StepsSpec)

/-- 'casematelaw17.CurveOn', WHERE WHAT IT READS IS OF BULK AT MOST 1048576: true; the input reads as it did. -/
def curveOnUptoRow : OpenClaim := { program := "ytffghaeaohabhaa", sum := "e74de1ae97a5229d8038a2264a544517863738675600fe245b1ca34a72b45ff4", func := "casemate/casematelaw17.CurveOn", spec := "curveOn", inPlace := ["math/bits.Sub64", "math/bits.Add64"], unfollowed := true, recurses := true, apart := false, narrowed := true }
def CurveOnUptoSaid : Prop := curveOnUptoRow.holds Try.pinned (OpenSpec.upto curveOnSpec)

/-- 'casematelaw17.CurveAdds', WHERE WHAT IT READS IS OF BULK AT MOST 1048576: true; the input reads as it did. -/
def curveAddsUptoRow : OpenClaim := { program := "ytffghaeaohabhaa", sum := "e74de1ae97a5229d8038a2264a544517863738675600fe245b1ca34a72b45ff4", func := "casemate/casematelaw17.CurveAdds", spec := "curveAdds", inPlace := ["math/bits.Sub64", "math/bits.Add64"], unfollowed := true, recurses := true, apart := false, narrowed := true }
def CurveAddsUptoSaid : Prop := curveAddsUptoRow.holds Try.pinned (OpenSpec.upto curveAddsSpec)

/-- 'casematelaw17.CurveLaws', WHERE WHAT IT READS IS OF BULK AT MOST 1048576: true; the input reads as it did. -/
def curveLawsUptoRow : OpenClaim := { program := "ytffghaeaohabhaa", sum := "e74de1ae97a5229d8038a2264a544517863738675600fe245b1ca34a72b45ff4", func := "casemate/casematelaw17.CurveLaws", spec := "curveLaws", inPlace := ["math/bits.Sub64", "math/bits.Add64"], unfollowed := true, recurses := true, apart := false, narrowed := true }
def CurveLawsUptoSaid : Prop := curveLawsUptoRow.holds Try.pinned (OpenSpec.upto curveLawsSpec)

/-- 'casematelaw17.CurvePacks', WHERE WHAT IT READS IS OF BULK AT MOST 1048576: true; the input reads as it did. -/
def curvePacksUptoRow : OpenClaim := { program := "ytffghaeaohabhaa", sum := "e74de1ae97a5229d8038a2264a544517863738675600fe245b1ca34a72b45ff4", func := "casemate/casematelaw17.CurvePacks", spec := "curvePacks", inPlace := ["math/bits.Sub64", "math/bits.Add64"], unfollowed := true, recurses := true, apart := false, narrowed := true }
def CurvePacksUptoSaid : Prop := curvePacksUptoRow.holds Try.pinned (OpenSpec.upto curvePacksSpec)

/-- 'casematelaw17.CurveUnpacks', WHERE WHAT IT READS IS OF BULK AT MOST 1048576: true; the input reads as it did. -/
def curveUnpacksUptoRow : OpenClaim := { program := "ytffghaeaohabhaa", sum := "e74de1ae97a5229d8038a2264a544517863738675600fe245b1ca34a72b45ff4", func := "casemate/casematelaw17.CurveUnpacks", spec := "curveUnpacks", inPlace := ["math/bits.Sub64", "math/bits.Add64"], unfollowed := true, recurses := true, apart := false, narrowed := true }
def CurveUnpacksUptoSaid : Prop := curveUnpacksUptoRow.holds Try.pinned (OpenSpec.upto curveUnpacksSpec)

/-- 'casematelaw17.CurveOrders', WHERE WHAT IT READS IS OF BULK AT MOST 1048576: true; the input reads as it did. -/
def curveOrdersUptoRow : OpenClaim := { program := "ytffghaeaohabhaa", sum := "e74de1ae97a5229d8038a2264a544517863738675600fe245b1ca34a72b45ff4", func := "casemate/casematelaw17.CurveOrders", spec := "curveOrders", inPlace := ["math/bits.Sub64", "math/bits.Add64"], unfollowed := true, recurses := true, apart := false, narrowed := true }
def CurveOrdersUptoSaid : Prop := curveOrdersUptoRow.holds Try.pinned (OpenSpec.upto curveOrdersSpec)

/-- 'casematelaw17.CurveTwo', WHERE WHAT IT READS IS OF BULK AT MOST 1048576: true; the input reads as it did. -/
def curveTwoUptoRow : OpenClaim := { program := "ytffghaeaohabhaa", sum := "e74de1ae97a5229d8038a2264a544517863738675600fe245b1ca34a72b45ff4", func := "casemate/casematelaw17.CurveTwo", spec := "curveTwo", inPlace := ["math/bits.Sub64", "math/bits.Add64"], unfollowed := true, recurses := true, apart := false, narrowed := true }
def CurveTwoUptoSaid : Prop := curveTwoUptoRow.holds Try.pinned (OpenSpec.upto curveTwoSpec)

/-- 'casematelaw17.CurveScales', WHERE WHAT IT READS IS OF BULK AT MOST 1048576: true; the input reads as it did. -/
def curveScalesUptoRow : OpenClaim := { program := "ytffghaeaohabhaa", sum := "e74de1ae97a5229d8038a2264a544517863738675600fe245b1ca34a72b45ff4", func := "casemate/casematelaw17.CurveScales", spec := "curveScales", inPlace := ["math/bits.Sub64", "math/bits.Add64"], unfollowed := true, recurses := true, apart := false, narrowed := true }
def CurveScalesUptoSaid : Prop := curveScalesUptoRow.holds Try.pinned (OpenSpec.upto curveScalesSpec)

/-- 'casematelaw18.ScalarScales', WHERE WHAT IT READS IS OF BULK AT MOST 1048576: true; the input reads as it did. -/
def scalarScalesUptoRow : OpenClaim := { program := "ytffghaeaohabhaa", sum := "e74de1ae97a5229d8038a2264a544517863738675600fe245b1ca34a72b45ff4", func := "casemate/casematelaw18.ScalarScales", spec := "scalarScales", inPlace := ["math/bits.Sub64", "math/bits.Add64"], unfollowed := true, recurses := true, apart := false, narrowed := true }
def ScalarScalesUptoSaid : Prop := scalarScalesUptoRow.holds Try.pinned (OpenSpec.upto scalarScalesSpec)

/-- 'casematelaw19.EdVerifies', WHERE WHAT IT READS IS OF BULK AT MOST 1048576: true; the input reads as it did. -/
def edVerifiesUptoRow : OpenClaim := { program := "ytffghaeaohabhaa", sum := "e74de1ae97a5229d8038a2264a544517863738675600fe245b1ca34a72b45ff4", func := "casemate/casematelaw19.EdVerifies", spec := "edVerifies", inPlace := ["math/bits.Add64", "math/bits.Sub64"], unfollowed := true, recurses := true, apart := false, narrowed := true }
def EdVerifiesUptoSaid : Prop := edVerifiesUptoRow.holds Try.pinned (OpenSpec.upto edVerifiesSpec)

/-- 'casematelaw19.EdOne', WHERE WHAT IT READS IS OF BULK AT MOST 1048576: true; the input reads as it did. -/
def edOneUptoRow : OpenClaim := { program := "ytffghaeaohabhaa", sum := "e74de1ae97a5229d8038a2264a544517863738675600fe245b1ca34a72b45ff4", func := "casemate/casematelaw19.EdOne", spec := "edOne", inPlace := ["math/bits.Add64", "math/bits.Sub64"], unfollowed := true, recurses := true, apart := false, narrowed := true }
def EdOneUptoSaid : Prop := edOneUptoRow.holds Try.pinned (OpenSpec.upto edOneSpec)

/-- 'casematelaw19.EdForms', WHERE WHAT IT READS IS OF BULK AT MOST 1048576: true; the input reads as it did. -/
def edFormsUptoRow : OpenClaim := { program := "ytffghaeaohabhaa", sum := "e74de1ae97a5229d8038a2264a544517863738675600fe245b1ca34a72b45ff4", func := "casemate/casematelaw19.EdForms", spec := "edForms", inPlace := ["math/bits.Add64", "math/bits.Sub64"], unfollowed := true, recurses := true, apart := false, narrowed := true }
def EdFormsUptoSaid : Prop := edFormsUptoRow.holds Try.pinned (OpenSpec.upto edFormsSpec)

end Rows
end Go.Proofs.Ytffghaeaohabhaa
