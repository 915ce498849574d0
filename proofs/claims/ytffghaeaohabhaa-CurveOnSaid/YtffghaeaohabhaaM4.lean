/-
  Roots in the field, points by their y and a bit, the base and its order. No program in sight.
-/
import Derived.Test.YtffghaeaohabhaaM3
namespace Go.Proofs.Ytffghaeaohabhaa.NT
set_option maxRecDepth 100000

theorem P_odd : P % 2 = 1 := by rw [P_eq]

theorem neg_val {x : F} (h : x ≠ 0) : (-x).val = P - x.val := by
  have hP := P_big
  have hx : x.val ≠ 0 := fun e => h (F_ext (e.trans zero_val.symm))
  have hl := x.isLt
  have : -x = mkF (P - x.val) := by
    have h1 : x + mkF (P - x.val) = 0 := F_ext (by rw [add_val, mkF_lt (by omega), zero_val]; rw [show x.val + (P - x.val) = P by omega]; exact Nat.mod_self P)
    grobner
  rw [this, mkF_lt (by omega)]

theorem neg_zero' : (-0 : F) = 0 := by grobner

/-- a number's parity turns with its sign -/
theorem neg_par {x : F} (h : x ≠ 0) : (-x).val % 2 = 1 - x.val % 2 := by
  rw [neg_val h]
  have := x.isLt; have := P_odd
  omega

def evenF (r : F) : F := if r.val % 2 = 1 then -r else r
theorem evenF_sq (r : F) : evenF r * evenF r = r * r := by unfold evenF; split; grobner; rfl
theorem evenF_even (r : F) : (evenF r).val % 2 = 0 := by
  unfold evenF
  split
  · rename_i h
    have h0 : r ≠ 0 := by rintro rfl; rw [zero_val] at h; simp at h
    rw [neg_par h0]; omega
  · omega

def rootS (a : F) : Option F :=
  let r := fpow a ((P + 3) / 8)
  if r * r = a then some (evenF r)
  else if (r * im1) * (r * im1) = a then some (evenF (r * im1)) else none

theorem rootS_some {a r : F} (h : rootS a = some r) : r * r = a ∧ r.val % 2 = 0 := by
  unfold rootS at h
  simp only at h
  split at h
  · rename_i h1
    obtain rfl := Option.some.inj h
    exact ⟨(evenF_sq _).trans h1, evenF_even _⟩
  · split at h
    · rename_i h1
      obtain rfl := Option.some.inj h
      exact ⟨(evenF_sq _).trans h1, evenF_even _⟩
    · cases h

theorem fpow_zero {n : Nat} (h : n ≠ 0) : fpow 0 n = 0 := by
  cases n with
  | zero => exact absurd rfl h
  | succ n => simp only [fpow]; grobner

theorem half_pow {x : F} (h : x ≠ 0) : fpow x ((P - 1) / 2) = 1 ∨ fpow x ((P - 1) / 2) = -1 := by
  have h1 := fermatF h
  rw [show P - 1 = (P - 1) / 2 + (P - 1) / 2 by rw [P_eq], fpow_add] at h1
  generalize fpow x ((P - 1) / 2) = u at *
  have : (u - 1) * (u + 1) = 0 := by clear h; grobner
  rcases fmul_eq_zero this with h2 | h2
  · exact .inl (by clear this h1 h; grobner)
  · exact .inr (by clear this h1 h; grobner)

theorem rootS_none {a : F} (h : rootS a = none) (x : F) : x * x ≠ a := by
  rintro rfl
  unfold rootS at h
  simp only at h
  split at h
  · cases h
  rename_i h1
  split at h
  · cases h
  rename_i h2
  by_cases hx : x = 0
  · subst hx
    apply h1
    have e : (0 : F) * 0 = 0 := by grobner
    rw [e, fpow_zero (by rw [P_eq]; decide)]
    exact e
  · have e : fpow (x * x) ((P + 3) / 8) * fpow (x * x) ((P + 3) / 8) = fpow x ((P - 1) / 2) * (x * x) := by
      rw [fpow_prod]
      have e1 : ∀ u : F, (u * u) * (u * u) = u * u * u * u := by intro u; grobner
      rw [e1, ← fpow_add, ← fpow_add, ← fpow_add]
      have e2 : (P + 3) / 8 + (P + 3) / 8 + (P + 3) / 8 + (P + 3) / 8 = (P - 1) / 2 + 2 := by rw [P_eq]
      rw [e2, fpow_add]
      have e3 : fpow x 2 = x * x := by simp only [fpow]; grobner
      rw [e3]
    have hi := im1_sq
    rcases half_pow hx with h3 | h3
    · apply h1; rw [e, h3]; grobner
    · apply h2
      rw [h3] at e
      generalize fpow (x * x) ((P + 3) / 8) = r at *
      generalize im1 = i at *
      have : r * i * (r * i) = (r * r) * (i * i) := by clear h1 h2 h e hi; grobner
      rw [this, e, hi]; grobner

/-! ### points by y and a bit -/
theorem yden_ne (y : F) : dC * (y * y) + 1 ≠ 0 := fun h => by
  have hs := im1_sq
  have hd := dC_nonsq
  generalize dC = d at *
  generalize im1 = s at *
  have hy : y ≠ 0 := by
    rintro rfl
    have : (1 : F) = 0 := by clear hs hd; grobner
    exact one_ne this
  have hi := mul_finv hy
  generalize finv y = z at hi
  refine hd (s * z) ?_
  have e1 : s * z * (s * z) = (s * s) * (z * z) := by clear hs hd hi h; grobner
  have e2 : d * (y * y) = -1 := by clear hs hd hi e1; grobner
  have e3 : d = (d * (y * y)) * (z * z) := by clear hs hd e1 e2 h; grobner
  rw [e1, hs, ← e2, ← e3]

def uOf (y : F) : F := (y * y - 1) * finv (dC * (y * y) + 1)

theorem on_iff (p : Pt) : p.on ↔ p.x * p.x = uOf p.y := by
  obtain ⟨x, y⟩ := p
  simp only [Pt.on, uOf]
  have h0 := yden_ne y
  have h := mul_finv h0
  generalize finv (dC * (y * y) + 1) = z at h
  generalize dC = d at *
  constructor
  · intro h1
    refine fcancel h0 ?_
    have e1 : (d * (y * y) + 1) * (x * x) = y * y - 1 := by clear h h0; grobner
    have e2 : (d * (y * y) + 1) * ((y * y - 1) * z) = (y * y - 1) * ((d * (y * y) + 1) * z) := by clear h h0 h1 e1; grobner
    rw [e1, e2, h]; clear h h0 h1 e1 e2; grobner
  · intro h1
    have e1 : (d * (y * y) + 1) * (x * x) = (y * y - 1) * ((d * (y * y) + 1) * z) := by rw [h1]; clear h h0 h1; grobner
    rw [h] at e1
    clear h h0 h1; grobner

/-- of a root, if there is one, and a bit: the x -/
def selS (o : Option F) (odd : Bool) : Option F :=
  match o with
  | none => none
  | some x => match odd with
    | false => some x
    | true => if x = 0 then none else some (-x)

theorem selS_some {o : Option F} {odd : Bool} {u r : F} (ho : ∀ x, o = some x → x * x = u ∧ x.val % 2 = 0) (h : selS o odd = some r) : r * r = u ∧ r.val % 2 = odd.toNat := by
  cases o with
  | none => cases h
  | some x =>
    obtain ⟨h1, h2⟩ := ho x rfl
    cases odd with
    | false => obtain rfl := Option.some.inj h; exact ⟨h1, h2⟩
    | true =>
      by_cases h0 : x = 0
      · simp only [selS, h0, if_true] at h; cases h
      · simp only [selS, if_neg h0, Option.some.injEq] at h
        subst h
        refine ⟨?_, ?_⟩
        · rw [← h1]; grobner
        · rw [neg_par h0, h2]; rfl

theorem selS_none {o : Option F} {odd : Bool} {u r : F} (ho : ∀ x, o = some x → x * x = u ∧ x.val % 2 = 0) (hn : o = none → ∀ x, x * x ≠ u) (h : selS o odd = none) (hr : r * r = u) : r.val % 2 ≠ odd.toNat := by
  cases o with
  | none => exact absurd hr (hn rfl r)
  | some x =>
    obtain ⟨h1, h2⟩ := ho x rfl
    cases odd with
    | false => cases h
    | true =>
      by_cases h0 : x = 0
      · have : r * r = 0 := by rw [hr, ← h1, h0]; grobner
        have h4 : r = 0 := (fmul_eq_zero this).elim id id
        rw [h4, zero_val]; decide
      · simp only [selS, if_neg h0] at h; cases h

attribute [irreducible] rootS uOf
def unpackS (y : F) (odd : Bool) : Option Pt := (selS (rootS (uOf y)) odd).map fun x => ⟨x, y⟩

theorem unpackS_some {y : F} {odd : Bool} {p : Pt} (h : unpackS y odd = some p) : p.on ∧ p.y = y ∧ p.x.val % 2 = odd.toNat := by
  unfold unpackS at h
  obtain ⟨x, hx, rfl⟩ := Option.map_eq_some_iff.1 h
  have ⟨h1, h2⟩ := selS_some (fun _ => rootS_some) hx
  exact ⟨(on_iff ⟨x, y⟩).2 h1, rfl, h2⟩

theorem sq_eq {x z : F} (h : x * x = z * z) : x = z ∨ x = -z := by
  have : (x - z) * (x + z) = 0 := by grobner
  rcases fmul_eq_zero this with h2 | h2
  · exact .inl (by clear this h; grobner)
  · exact .inr (by clear this h; grobner)

theorem on_unique {p q : Pt} (hp : p.on) (hq : q.on) (hy : p.y = q.y) (hpar : p.x.val % 2 = q.x.val % 2) : p = q := by
  have h1 := (on_iff p).1 hp
  have h2 := (on_iff q).1 hq
  rw [hy, ← h2] at h1
  rcases sq_eq h1 with h | h
  · exact Pt.ext h hy
  · by_cases h0 : q.x = 0
    · rw [h0, neg_zero'] at h
      exact Pt.ext (h.trans h0.symm) hy
    · rw [h, neg_par h0] at hpar
      omega

theorem unpackS_none {y : F} {odd : Bool} (h : unpackS y odd = none) {p : Pt} (hp : p.on) (hy : p.y = y) : p.x.val % 2 ≠ odd.toNat := by
  have h1 := (on_iff p).1 hp
  rw [hy] at h1
  unfold unpackS at h
  exact selS_none (fun _ => rootS_some) rootS_none (Option.map_eq_none_iff.1 h) h1

theorem unpackS_of {p : Pt} (hp : p.on) {odd : Bool} (ho : p.x.val % 2 = odd.toNat) : unpackS p.y odd = some p := by
  cases h : unpackS p.y odd with
  | none => exact absurd ho (unpackS_none h hp rfl)
  | some q =>
    obtain ⟨h1, h2, h3⟩ := unpackS_some h
    rw [on_unique h1 hp h2 (h3.trans ho.symm)]

/-! ### the base -/
def Bx : Nat := 15112221349535400772501151409588531511454012693041857206046113283949847762202
def By : Nat := 46316835694926478169428394003475163141307993866256225615783033603165251855960
def baseP : Pt := ⟨mkF Bx, mkF By⟩
theorem base_on : baseP.on := by
  unfold Pt.on
  decide +kernel
theorem base_y : baseP.y = 4 * finv 5 := by
  have h5 : (5 : F) ≠ 0 := natF_ne (n := 5) (by decide) (by decide)
  have h := mul_finv h5
  have h1 : 5 * baseP.y = 4 := by decide +kernel
  have e : baseP.y = (5 * baseP.y) * finv 5 := by
    generalize finv 5 = z at *; generalize baseP.y = w at *; clear h1 h5; grobner
  rw [e, h1]
theorem base_even : baseP.x.val % 2 = 0 := by decide +kernel

/-- the order -/
def ordL : Nat := 7237005577332262213973186563042994240857116359379907606001950938285454250989

def bitsOf : Nat → Nat → List Bool
  | 0, _ => []
  | k + 1, n => (n / 2 ^ k % 2 == 1) :: bitsOf k n

def dblAdd (p : Pl) (tw : F) : Pl → List Bool → Pl
  | a, [] => a
  | a, true :: r => dblAdd p tw ((a.plus a tw).plus p tw) r
  | a, false :: r => dblAdd p tw (a.plus a tw) r

def bval : Nat → List Bool → Nat
  | n, [] => n
  | n, true :: r => bval (2 * n + 1) r
  | n, false :: r => bval (2 * n) r

theorem dblAdd_rep {p : Pt} (hp : p.on) : ∀ (l : List Bool) (a : Pl) (n : Nat), a.rep (nsm n p) → (dblAdd (Pl.of p) (dC + dC) a l).rep (nsm (bval n l) p)
  | [], a, n, h => h
  | true :: r, a, n, h => by
    refine dblAdd_rep hp r _ _ ?_
    have h1 := rep_plus h h (on_nsm hp n) (on_nsm hp n)
    have h2 := rep_plus h1 (rep_of p) (on_add (on_nsm hp n) (on_nsm hp n)) hp
    rw [← nsm_add hp] at h2
    rw [show 2 * n + 1 = (n + n) + 1 by omega]
    exact h2
  | false :: r, a, n, h => by
    refine dblAdd_rep hp r _ _ ?_
    have h1 := rep_plus h h (on_nsm hp n) (on_nsm hp n)
    rw [← nsm_add hp] at h1
    rw [show 2 * n = n + n by omega]
    exact h1

theorem zero_of_rep {a : Pl} {p : Pt} (h : a.rep p) (hx : a.x = 0) (hy : a.y = a.z) : p = .zero := by
  obtain ⟨h0, h1, h2, _⟩ := h
  rw [hx] at h1
  rw [hy] at h2
  refine Pt.ext ?_ ?_
  · rcases fmul_eq_zero h1.symm with h | h
    · exact h
    · exact absurd h h0
  · refine fcancel h0 ?_
    simp only [Pt.zero]
    generalize p.y = y at *; generalize a.z = z at *
    clear h0 h1 hx hy; grobner
end Go.Proofs.Ytffghaeaohabhaa.NT
