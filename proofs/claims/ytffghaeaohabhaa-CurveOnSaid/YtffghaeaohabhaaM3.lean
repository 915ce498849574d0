/-
  The curve's points as a group, scaling, and places (points over a third number). No program in sight.
-/
import Derived.Test.YtffghaeaohabhaaM2
namespace Go.Proofs.Ytffghaeaohabhaa.NT
set_option maxRecDepth 100000

/-- fpow, for the kernel -/
theorem fpow_pw (x : F) (n : Nat) (hn : n < 2 ^ 256) : (fpow x n).val = pw x.val P 256 n := by
  rw [fpow_val, pw_eq _ _ _ _ hn]

def mkF (n : Nat) : F := Fin.ofNat P n
theorem mkF_val (n : Nat) : (mkF n).val = n % P := rfl
theorem mkF_lt {n : Nat} (h : n < P) : (mkF n).val = n := by rw [mkF_val, Nat.mod_eq_of_lt h]

/-- the curve's number -/
def dC : F := mkF 37095705934669439343138083508754565189542113879843219016388785533085940283555
/-- a root of -1 -/
def im1 : F := fpow 2 ((P - 1) / 4)

theorem neg_one_val : (-1 : F).val = P - 1 := by
  have hP := P_big
  have : (-1 : F) = mkF (P - 1) := by
    have h1 : (1 : F) + mkF (P - 1) = 0 := F_ext (by rw [add_val, one_val, mkF_lt (by omega), zero_val]; rw [show 1 + (P - 1) = P by omega]; exact Nat.mod_self P)
    grobner
  rw [this, mkF_lt (by omega)]

theorem fpow_add (x : F) (m : Nat) : ∀ n, fpow x (m + n) = fpow x m * fpow x n
  | 0 => by simp only [Nat.add_zero, fpow]; grobner
  | n + 1 => by rw [← Nat.add_assoc]; simp only [fpow]; rw [fpow_add x m n]; grobner

theorem fpow_mul (x : F) (m : Nat) : ∀ n, fpow x (m * n) = fpow (fpow x m) n
  | 0 => by simp only [Nat.mul_zero, fpow]
  | n + 1 => by rw [Nat.mul_succ, fpow_add, fpow_mul x m n]; simp only [fpow]

theorem fpow_prod (x y : F) : ∀ n, fpow (x * y) n = fpow x n * fpow y n
  | 0 => by simp only [fpow]; grobner
  | n + 1 => by simp only [fpow]; rw [fpow_prod x y n]; grobner

theorem fermatF {x : F} (h : x ≠ 0) : fpow x (P - 1) = 1 := by
  refine F_ext ?_
  rw [fpow_val, one_val]
  exact fermat P_prime (ne_zero_val h)

theorem im1_sq : im1 * im1 = -1 := by
  refine F_ext ?_
  have h : im1 * im1 = fpow 2 ((P - 1) / 4 + (P - 1) / 4) := by rw [fpow_add]; rfl
  rw [h, fpow_pw _ _ (by rw [P_eq]; decide), neg_one_val]
  have h2 : (2 : F).val = 2 := mkF_lt (n := 2) (by have := P_big; omega)
  rw [h2, P_eq]
  decide +kernel

/-- a square's power -/
theorem sq_pow {x : F} (h : x ≠ 0) : fpow (x * x) ((P - 1) / 2) = 1 := by
  have : fpow (x * x) ((P - 1) / 2) = fpow x (P - 1) := by
    rw [fpow_prod, ← fpow_add]
    congr 1
    rw [P_eq]
  rw [this, fermatF h]

theorem dC_ne : dC ≠ 0 := fun e => by
  have := congrArg Fin.val e
  rw [zero_val, dC, mkF_lt (by rw [P_eq]; decide)] at this
  cases this

theorem dC_nonsq (x : F) : x * x ≠ dC := fun h => by
  have hx : x ≠ 0 := by rintro rfl; apply dC_ne; rw [← h]; grobner
  have h1 := sq_pow hx
  rw [h] at h1
  have h2 := congrArg Fin.val h1
  rw [fpow_pw _ _ (by rw [P_eq]; decide), one_val, dC, mkF_lt (by rw [P_eq]; decide), P_eq] at h2
  revert h2
  decide +kernel

/-- d, 121666 times -/
theorem dC_eq : dC * 121666 + 121665 = 0 := by
  refine F_ext ?_
  have h1 : (121666 : F) = mkF 121666 := rfl
  have h2 : (121665 : F) = mkF 121665 := rfl
  rw [h1, h2, add_val, mul_val, dC, mkF_lt (by rw [P_eq]; decide), mkF_lt (by have := P_big; omega), mkF_lt (by have := P_big; omega), zero_val, P_eq]

/-! ### points -/
structure Pt where
  x : F
  y : F

def Pt.on (p : Pt) : Prop := p.y*p.y - p.x*p.x - 1 - dC*p.x*p.x*p.y*p.y = 0

theorem no_div {p q : Pt} (hp : p.on) (hq : q.on) {ep : F} (he : ep * ep = 1) : dC*p.x*q.x*p.y*q.y ≠ ep := by
  obtain ⟨x1, y1⟩ := p
  obtain ⟨x2, y2⟩ := q
  simp only [Pt.on] at *
  intro h
  have hs := im1_sq
  generalize im1 = s at hs
  have hns := dC_nonsq
  generalize dC = d at *
  have key1 : (s*x1 + ep*y1)*(s*x1 + ep*y1) = d*((x1*y1)*(s*x2+y2))*((x1*y1)*(s*x2+y2)) := by grobner
  have key2 : (s*x1 - ep*y1)*(s*x1 - ep*y1) = d*((x1*y1)*(s*x2-y2))*((x1*y1)*(s*x2-y2)) := by grobner
  have hne : ep ≠ 0 := fun e0 => by
    rw [e0] at he
    have h3 : (1 : F) = 0 := by rw [← he]; grobner
    have h4 := congrArg Fin.val h3
    rw [one_val, zero_val] at h4; cases h4
  have nz : ∀ u v : F, u * u = d * v * v → v = 0 := fun u v huv => by
    by_cases hv : v = 0
    · exact hv
    · exfalso
      have hi := mul_finv hv
      generalize finv v = w at hi
      refine hns (u * w) ?_
      have : (u * w) * (u * w) = (u * u) * (w * w) := by grobner
      rw [this, huv]; grobner
  have z1 := nz _ _ key1
  have z2 := nz _ _ key2
  have hxy : x1 * y1 ≠ 0 := by
    intro h0; apply hne; rw [← h]
    have : d*x1*x2*y1*y2 = d * (x1 * y1) * (x2 * y2) := by grobner
    rw [this, h0]; grobner
  rcases fmul_eq_zero z1 with z | z
  · exact hxy z
  rcases fmul_eq_zero z2 with z' | z'
  · exact hxy z'
  have h2 : (2 : F) * y2 = 0 := by grobner
  rcases fmul_eq_zero h2 with h3 | h3
  · exact two_ne h3
  · apply hne; rw [← h, h3]; grobner

theorem den_ne {p q : Pt} (hp : p.on) (hq : q.on) : 1 + dC*p.x*q.x*p.y*q.y ≠ 0 := fun h => no_div hp hq (ep := -1) (by grobner) (by grobner)
theorem den_ne' {p q : Pt} (hp : p.on) (hq : q.on) : 1 - dC*p.x*q.x*p.y*q.y ≠ 0 := fun h => no_div hp hq (ep := 1) (by grobner) (by grobner)

def Pt.add (p q : Pt) : Pt :=
  ⟨(p.x*q.y + q.x*p.y) * finv (1 + dC*p.x*q.x*p.y*q.y), (p.y*q.y + p.x*q.x) * finv (1 - dC*p.x*q.x*p.y*q.y)⟩
def Pt.neg (p : Pt) : Pt := ⟨-p.x, p.y⟩
def Pt.zero : Pt := ⟨0, 1⟩

theorem add_xd {p q : Pt} (hp : p.on) (hq : q.on) : (p.add q).x * (1 + dC*p.x*q.x*p.y*q.y) = p.x*q.y + q.x*p.y := by
  have := mul_finv (den_ne hp hq)
  simp only [Pt.add]; grobner
theorem add_yd {p q : Pt} (hp : p.on) (hq : q.on) : (p.add q).y * (1 - dC*p.x*q.x*p.y*q.y) = p.y*q.y + p.x*q.x := by
  have := mul_finv (den_ne' hp hq)
  simp only [Pt.add]; grobner

theorem Pt.ext {p q : Pt} (hx : p.x = q.x) (hy : p.y = q.y) : p = q := by cases p; cases q; simp_all

theorem on_id (x y d D D' : F) : D*D'*(D*D') * (y*y - x*x - 1 - d*x*x*y*y) = (y*D'*D)*(y*D'*D) - (x*D*D')*(x*D*D') - (D*D')*(D*D') - d*(x*D*(y*D'))*(x*D*(y*D')) := by grobner

theorem on_add {p q : Pt} (hp : p.on) (hq : q.on) : (p.add q).on := by
  have e1 := add_xd hp hq
  have e2 := add_yd hp hq
  have n1 := den_ne hp hq
  have n2 := den_ne' hp hq
  generalize p.add q = r at *
  obtain ⟨x1, y1⟩ := p
  obtain ⟨x2, y2⟩ := q
  obtain ⟨x, y⟩ := r
  simp only [Pt.on] at *
  have h := sum_on x1 y1 x2 y2 dC hp hq
  generalize dC = d at *
  rw [← e1, ← e2] at h
  have nn := fmul_ne_zero (fmul_ne_zero n1 n2) (fmul_ne_zero n1 n2)
  generalize 1 + d*x1*x2*y1*y2 = D at *
  generalize 1 - d*x1*x2*y1*y2 = D' at *
  refine fcancel nn ?_
  rw [on_id, h]; clear hp hq e1 e2 n1 n2 h nn; grobner

theorem add_comm' (p q : Pt) : p.add q = q.add p := by
  have h1 : dC*q.x*p.x*q.y*p.y = dC*p.x*q.x*p.y*q.y := by grobner
  refine Pt.ext ?_ ?_
  · simp only [Pt.add, h1]; grobner
  · simp only [Pt.add, h1]; grobner

theorem eq_of_sub {a b : F} (h : a - b = 0) : a = b := by grobner
theorem as_id1 (x1 y1 x3 y3 sx sy tx ty d D1 D2 D3 D4 : F) :
    D1*D2*(D3*D4)*((sx*y3 + x3*sy) * (1 + d*x1*tx*y1*ty)) - D1*D2*(D3*D4)*((x1*ty + tx*y1) * (1 + d*sx*x3*sy*y3)) =
      (sx * D1 * D2 * y3 + x3 * (sy * D2 * D1)) * (D3 * D4 + d * x1 * y1 * (tx * D3) * (ty * D4)) -
      (x1 * (ty * D4 * D3) + tx * D3 * D4 * y1) * (D1 * D2 + d * (sx * D1) * (sy * D2) * x3 * y3) := by grobner
theorem as_id2 (x1 y1 x3 y3 sx sy tx ty d D1 D2 D3 D4 : F) :
    D1*D2*(D3*D4)*((sy*y3 + sx*x3) * (1 - d*x1*tx*y1*ty)) - D1*D2*(D3*D4)*((y1*ty + x1*tx) * (1 - d*sx*x3*sy*y3)) =
      (sy * D2 * D1 * y3 + sx * D1 * D2 * x3) * (D3 * D4 - d * x1 * y1 * (tx * D3) * (ty * D4)) -
      (y1 * (ty * D4 * D3) + x1 * (tx * D3 * D4)) * (D1 * D2 - d * (sx * D1) * (sy * D2) * x3 * y3) := by grobner
theorem as_fin {A B m m' : F} (hm : m ≠ 0) (hm' : m' ≠ 0) (h : A * m * m' = B * m' * m) : A = B := by
  refine fcancel (fmul_ne_zero hm hm') ?_
  have e1 : m * m' * A = A * m * m' := by grobner
  have e2 : m * m' * B = B * m' * m := by grobner
  rw [e1, e2, h]

theorem add_assoc' {p q r : Pt} (hp : p.on) (hq : q.on) (hr : r.on) : (p.add q).add r = p.add (q.add r) := by
  have a1 := add_xd hp hq
  have a2 := add_yd hp hq
  have a3 := add_xd hq hr
  have a4 := add_yd hq hr
  have n1 := den_ne hp hq
  have n2 := den_ne' hp hq
  have n3 := den_ne hq hr
  have n4 := den_ne' hq hr
  have b1 := add_xd (on_add hp hq) hr
  have b2 := add_yd (on_add hp hq) hr
  have b3 := add_xd hp (on_add hq hr)
  have b4 := add_yd hp (on_add hq hr)
  have m1 := den_ne (on_add hp hq) hr
  have m2 := den_ne' (on_add hp hq) hr
  have m3 := den_ne hp (on_add hq hr)
  have m4 := den_ne' hp (on_add hq hr)
  generalize (p.add q).add r = A at *
  generalize p.add (q.add r) = B at *
  generalize p.add q = s at *
  generalize q.add r = t at *
  obtain ⟨x1, y1⟩ := p
  obtain ⟨x2, y2⟩ := q
  obtain ⟨x3, y3⟩ := r
  obtain ⟨sx, sy⟩ := s
  obtain ⟨tx, ty⟩ := t
  obtain ⟨Ax, Ay⟩ := A
  obtain ⟨Bx, By⟩ := B
  simp only [Pt.on] at *
  have hx := assoc_x x1 y1 x2 y2 x3 y3 dC hp hq hr
  have hy := assoc_y x1 y1 x2 y2 x3 y3 dC hp hq hr
  generalize dC = d at *
  rw [← a1, ← a2, ← a3, ← a4] at hx hy
  have nn := fmul_ne_zero (fmul_ne_zero n1 n2) (fmul_ne_zero n3 n4)
  generalize 1 + d*x1*x2*y1*y2 = D1 at *
  generalize 1 - d*x1*x2*y1*y2 = D2 at *
  generalize 1 + d*x2*x3*y2*y3 = D3 at *
  generalize 1 - d*x2*x3*y2*y3 = D4 at *
  have kx : (sx*y3 + x3*sy) * (1 + d*x1*tx*y1*ty) = (x1*ty + tx*y1) * (1 + d*sx*x3*sy*y3) :=
    fcancel nn (eq_of_sub ((as_id1 ..).trans hx))
  have ky : (sy*y3 + sx*x3) * (1 - d*x1*tx*y1*ty) = (y1*ty + x1*tx) * (1 - d*sx*x3*sy*y3) :=
    fcancel nn (eq_of_sub ((as_id2 ..).trans hy))
  rw [← b1, ← b3] at kx
  rw [← b2, ← b4] at ky
  exact Pt.ext (as_fin m1 m3 kx) (as_fin m2 m4 ky)

theorem on_zero : Pt.zero.on := by simp only [Pt.on, Pt.zero]; grobner
theorem on_neg {p : Pt} (h : p.on) : p.neg.on := by
  simp only [Pt.on, Pt.neg] at *; grobner

theorem finv_one : finv 1 = 1 := by
  have h := mul_finv (x := 1) (fun e => by have := congrArg Fin.val e; rw [one_val, zero_val] at this; cases this)
  grobner

theorem add_zero' (p : Pt) : p.add .zero = p := by
  have h1 : 1 + dC*p.x*(0 : F)*p.y*1 = 1 := by grobner
  have h2 : 1 - dC*p.x*(0 : F)*p.y*1 = 1 := by grobner
  have h3 := finv_one
  refine Pt.ext ?_ ?_
  · simp only [Pt.add, Pt.zero, h1, h3]; grobner
  · simp only [Pt.add, Pt.zero, h2, h3]; grobner
theorem zero_add' (p : Pt) : Pt.zero.add p = p := by rw [add_comm', add_zero']

theorem add_neg' {p : Pt} (h : p.on) : p.add p.neg = .zero := by
  have e1 := add_xd h (on_neg h)
  have e2 := add_yd h (on_neg h)
  have n1 := den_ne h (on_neg h)
  have n2 := den_ne' h (on_neg h)
  generalize p.add p.neg = r at *
  obtain ⟨x1, y1⟩ := p
  obtain ⟨x, y⟩ := r
  simp only [Pt.on, Pt.neg, Pt.zero] at *
  generalize dC = d at *
  refine Pt.ext ?_ ?_
  · refine fcancel n1 ?_; simp only; grobner
  · refine fcancel n2 ?_; simp only; grobner

theorem neg_neg' (p : Pt) : p.neg.neg = p := by refine Pt.ext ?_ ?_ <;> simp only [Pt.neg]; grobner

theorem add_left_cancel' {p q r : Pt} (hp : p.on) (hq : q.on) (hr : r.on) (h : p.add q = p.add r) : q = r := by
  have h1 : p.neg.add (p.add q) = p.neg.add (p.add r) := by rw [h]
  rw [← add_assoc' (on_neg hp) hp hq, ← add_assoc' (on_neg hp) hp hr, add_comm' p.neg p, add_neg' hp, zero_add', zero_add'] at h1
  exact h1

/-! ### scaling -/
def nsm : Nat → Pt → Pt
  | 0, _ => .zero
  | n + 1, p => (nsm n p).add p

theorem on_nsm {p : Pt} (h : p.on) : ∀ n, (nsm n p).on
  | 0 => on_zero
  | n + 1 => on_add (on_nsm h n) h

theorem nsm_add {p : Pt} (h : p.on) (m : Nat) : ∀ n, nsm (m + n) p = (nsm m p).add (nsm n p)
  | 0 => by simp only [Nat.add_zero, nsm]; rw [add_zero']
  | n + 1 => by rw [← Nat.add_assoc]; simp only [nsm]; rw [nsm_add h m n, add_assoc' (on_nsm h m) (on_nsm h n) h]

theorem nsm_zero : ∀ n, nsm n Pt.zero = .zero
  | 0 => rfl
  | n + 1 => by simp only [nsm]; rw [nsm_zero n, add_zero']

theorem nsm_one (p : Pt) : nsm 1 p = p := by simp only [nsm]; exact zero_add' p

theorem nsm_mul {p : Pt} (h : p.on) (m : Nat) : ∀ n, nsm (m * n) p = nsm n (nsm m p)
  | 0 => by simp only [Nat.mul_zero, nsm]
  | n + 1 => by rw [Nat.mul_succ, nsm_add h, nsm_mul h m n]; simp only [nsm]

/-- of a point whose L-th is Zero: what is left by L -/
theorem nsm_mod {p : Pt} (h : p.on) {L : Nat} (hL : nsm L p = .zero) (n : Nat) : nsm n p = nsm (n % L) p := by
  rw [← Nat.div_add_mod n L, nsm_add h, nsm_mul h, hL, nsm_zero, zero_add', Nat.mul_add_mod, Nat.mod_mod]

theorem nsm_gcd {p : Pt} (h : p.on) : ∀ m n, nsm m p = .zero → nsm n p = .zero → nsm (Nat.gcd m n) p = .zero := by
  intro m n
  induction m, n using Nat.gcd.induction with
  | H0 n => intro _ h2; simpa using h2
  | H1 m n hm ih =>
    intro h1 h2
    rw [Nat.gcd_rec]
    exact ih (by rw [← nsm_mod h h1]; exact h2) h1

/-! ### places -/
structure Pl where
  x : F
  y : F
  z : F
  t : F

/-- the place is the point's -/
def Pl.rep (a : Pl) (p : Pt) : Prop := a.z ≠ 0 ∧ a.x = p.x * a.z ∧ a.y = p.y * a.z ∧ a.t = p.x * p.y * a.z

def Pl.of (p : Pt) : Pl := ⟨p.x, p.y, 1, p.x * p.y⟩
theorem one_ne : (1 : F) ≠ 0 := fun e => by have := congrArg Fin.val e; rw [one_val, zero_val] at this; cases this
theorem rep_of (p : Pt) : (Pl.of p).rep p := ⟨one_ne, by simp only [Pl.of]; grobner, by simp only [Pl.of]; grobner, by simp only [Pl.of]; grobner⟩

def Pl.plain (a : Pl) : Pt := ⟨a.x * finv a.z, a.y * finv a.z⟩
theorem plain_rep {a : Pl} {p : Pt} (h : a.rep p) : a.plain = p := by
  obtain ⟨h0, h1, h2, _⟩ := h
  have := mul_finv h0
  refine Pt.ext ?_ ?_
  · simp only [Pl.plain, h1]; grobner
  · simp only [Pl.plain, h2]; grobner

def Pl.plus (p q : Pl) (tw : F) : Pl :=
  let a := (p.y - p.x) * (q.y - q.x)
  let b := (p.y + p.x) * (q.y + q.x)
  let c := (p.t * tw) * q.t
  let w := (p.z + p.z) * q.z
  ⟨(b - a) * (w - c), (w + c) * (b + a), (w - c) * (w + c), (b - a) * (b + a)⟩

theorem rep_plus {a b : Pl} {p q : Pt} (ha : a.rep p) (hb : b.rep q) (hp : p.on) (hq : q.on) : (a.plus b (dC + dC)).rep (p.add q) := by
  have e1 := add_xd hp hq
  have e2 := add_yd hp hq
  have n1 := den_ne hp hq
  have n2 := den_ne' hp hq
  generalize p.add q = r at *
  obtain ⟨x1, y1⟩ := p
  obtain ⟨x2, y2⟩ := q
  obtain ⟨x, y⟩ := r
  obtain ⟨aX, aY, aZ, aT⟩ := a
  obtain ⟨bX, bY, bZ, bT⟩ := b
  obtain ⟨ha0, ha1, ha2, ha3⟩ := ha
  obtain ⟨hb0, hb1, hb2, hb3⟩ := hb
  simp only at *
  subst ha1 ha2 ha3 hb1 hb2 hb3
  generalize dC = d at *
  have ef : ∀ z : F, (aZ + aZ) * bZ - (x1 * y1 * aZ) * (d + d) * (x2 * y2 * bZ) = 2 * (aZ * bZ) * (1 - d*x1*x2*y1*y2) := by intro _; grobner
  have eg : ∀ z : F, (aZ + aZ) * bZ + (x1 * y1 * aZ) * (d + d) * (x2 * y2 * bZ) = 2 * (aZ * bZ) * (1 + d*x1*x2*y1*y2) := by intro _; grobner
  have eh : ((y1 * aZ + x1 * aZ) * (y2 * bZ + x2 * bZ)) + ((y1 * aZ - x1 * aZ) * (y2 * bZ - x2 * bZ)) = 2 * (aZ * bZ) * (y * (1 - d*x1*x2*y1*y2)) := by rw [e2]; grobner
  have ee : ((y1 * aZ + x1 * aZ) * (y2 * bZ + x2 * bZ)) - ((y1 * aZ - x1 * aZ) * (y2 * bZ - x2 * bZ)) = 2 * (aZ * bZ) * (x * (1 + d*x1*x2*y1*y2)) := by rw [e1]; grobner
  simp only [Pl.rep, Pl.plus]
  rw [ef 0, eg 0, eh, ee]
  have nz := fmul_ne_zero two_ne (fmul_ne_zero ha0 hb0)
  generalize 1 + d*x1*x2*y1*y2 = D at *
  generalize 1 - d*x1*x2*y1*y2 = D' at *
  generalize 2 * (aZ * bZ) = Z at *
  refine ⟨fmul_ne_zero (fmul_ne_zero nz n2) (fmul_ne_zero nz n1), ?_, ?_, ?_⟩ <;> grobner
end Go.Proofs.Ytffghaeaohabhaa.NT
