import Derived.Test.YtffghaeaohabhaaS10
namespace Go.Proofs.Ytffghaeaohabhaa.AW
open Go Go.Proofs
set_option maxRecDepth 100000

/-! ### the digest of "abc", by the kernel -/
def frc {α : Type} (x : UInt32) (k : UInt32 → α) : α := Nat.rec (motive := fun _ => α) (k 0) (fun n _ => k (UInt32.ofNat (n + 1))) x.toNat
theorem frc_eq {α : Type} (x : UInt32) (k : UInt32 → α) : frc x k = k x := by
  unfold frc
  have h : UInt32.ofNat x.toNat = x := UInt32.ofNat_toNat
  cases hx : x.toNat with
  | zero => rw [hx] at h; show k 0 = k x; rw [← h]; rfl
  | succ n => rw [hx] at h; show k (UInt32.ofNat (n + 1)) = k x; rw [h]

def wF (d : List UInt8) : Nat → Nat → List UInt32 → List UInt32
  | 0, _, acc => acc
  | n + 1, i, acc => frc (if i < 16 then be32 d i else wNext acc i) fun x => wF d n (i + 1) (acc ++ [x])
theorem wF_eq (d : List UInt8) : ∀ n i, wF d n i (wS d i) = wS d (i + n)
  | 0, i => rfl
  | n + 1, i => by
    simp only [wF, frc_eq]
    have := wF_eq d n (i + 1)
    rw [show i + (n + 1) = i + 1 + n by omega, ← this]
    rfl

def rndF (K W : List UInt32) : Nat → Nat → W8 → W8
  | 0, _, s => s
  | n + 1, i, s => frc (s.t1 (K.getD i 0) (W.getD i 0)) fun t => frc (t + s.t2) fun a => frc (s.d + t) fun e => rndF K W n (i + 1) ⟨a, s.a, s.b, s.c, e, s.e, s.f, s.g⟩
theorem rndF_eq (K W : List UInt32) (s0 : W8) : ∀ n i, rndF K W n i (rndS K W s0 i) = rndS K W s0 (i + n)
  | 0, i => rfl
  | n + 1, i => by
    simp only [rndF, frc_eq]
    have := rndF_eq K W s0 n (i + 1)
    rw [show i + (n + 1) = i + 1 + n by omega, ← this]
    rfl

def blockF (K : List UInt32) (st : W8) (d : List UInt8) : W8 :=
  let q := rndF K (wF d 64 0 []) 64 0 st
  ⟨st.a + q.a, st.b + q.b, st.c + q.c, st.d + q.d, st.e + q.e, st.f + q.f, st.g + q.g, st.h + q.h⟩
theorem blockF_eq (K : List UInt32) (st : W8) (d : List UInt8) : blockF K st d = blockS K st d := by
  have h1 := wF_eq d 64 0
  have h2 := rndF_eq K (wS d 64) st 64 0
  simp only [Nat.zero_add] at h1 h2
  unfold blockF blockS
  rw [show wF d 64 0 [] = wS d 64 from h1, show rndF K (wS d 64) 64 0 st = rndS K (wS d 64) st 64 from h2]

def roundsL : List UInt32 := [1116352408, 1899447441, 3049323471, 3921009573, 961987163, 1508970993, 2453635748, 2870763221, 3624381080, 310598401, 607225278, 1426881987, 1925078388, 2162078206, 2614888103, 3248222580, 3835390401, 4022224774, 264347078, 604807628, 770255983, 1249150122, 1555081692, 1996064986, 2554220882, 2821834349, 2952996808, 3210313671, 3336571891, 3584528711, 113926993, 338241895, 666307205, 773529912, 1294757372, 1396182291, 1695183700, 1986661051, 2177026350, 2456956037, 2730485921, 2820302411, 3259730800, 3345764771, 3516065817, 3600352804, 4094571909, 275423344, 430227734, 506948616, 659060556, 883997877, 958139571, 1322822218, 1537002063, 1747873779, 1955562222, 2024104815, 2227730452, 2361852424, 2428436474, 2756734187, 3204031479, 3329325298]
def startL : List UInt32 := [1779033703, 3144134277, 1013904242, 2773480762, 1359893119, 2600822924, 528734635, 1541459225]
theorem roundsS_eq : roundsS = roundsL := by decide +kernel
theorem startS_eq : startS = startL := by decide +kernel
def abcL : List UInt8 := [97, 98, 99, 128, 0, 0, 0, 0, 0, 0, 0, 0, 0, 0, 0, 0, 0, 0, 0, 0, 0, 0, 0, 0, 0, 0, 0, 0, 0, 0, 0, 0, 0, 0, 0, 0, 0, 0, 0, 0, 0, 0, 0, 0, 0, 0, 0, 0, 0, 0, 0, 0, 0, 0, 0, 0, 0, 0, 0, 0, 0, 0, 0, 24]
theorem abc_pad : [97, 98, 99] ++ padS 3 = abcL := by decide +kernel
def start8L : W8 := ⟨1779033703, 3144134277, 1013904242, 2773480762, 1359893119, 2600822924, 528734635, 1541459225⟩
theorem start8_eq : start8 = start8L := by
  unfold start8; rw [startS_eq]; rfl
def abcW : W8 := ⟨3128432319, 2399260650, 1094795486, 1571693091, 2953011619, 2518121116, 3021012833, 4060091821⟩
deriving instance DecidableEq for W8
theorem abc_block : blockF roundsL start8L abcL = abcW := by decide +kernel
theorem abc_sum : sumS [97, 98, 99] = abcW.bytes := by
  unfold sumS
  have e : ([97, 98, 99] : List UInt8).length = 3 := rfl
  rw [e, abc_pad, roundsS_eq, start8_eq]
  have e2 : abcL.length / 64 = 1 := rfl
  rw [e2, blocksS_succ, blocksS_zero]
  have e3 : abcL.take 64 = abcL := rfl
  rw [e3, ← blockF_eq, abc_block]
end Go.Proofs.Ytffghaeaohabhaa.AW
