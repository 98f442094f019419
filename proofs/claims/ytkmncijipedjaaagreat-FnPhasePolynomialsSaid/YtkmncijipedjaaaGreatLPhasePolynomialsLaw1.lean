/- The plain law of FnPhasePolynomials: what its Lean function answers, for all arguments. -/
import Derived.Test.YtkmncijipedjaaaGreatLPhasePolynomialsFn
import Derived.Test.YtkmncijipedjaaaGreatLibI
set_option maxRecDepth 10000
set_option maxHeartbeats 1000000
set_option linter.unusedSimpArgs false
set_option linter.unusedVariables false
namespace Go.VK
theorem whX_inv {σ ρ : Type} {f : σ → Option (Ex σ ρ)} (I : σ → Prop) (Q : σ → Prop) (Qr : ρ → Prop) (m : σ → Nat)
  (h : ∀ s, I s → (∃ s', f s = some (.nx s') ∧ I s' ∧ m s' < m s) ∨ (∃ s', f s = some (.br s') ∧ Q s') ∨ ∃ r, f s = some (.rt r) ∧ Qr r) :
  ∀ (k : Nat) (s : σ), I s → m s < k → (∃ s', whX f k s = some (.inl s') ∧ Q s') ∨ ∃ r, whX f k s = some (.inr r) ∧ Qr r
 | 0, _, _, hm => absurd hm (Nat.not_lt_zero _)
 | k + 1, s, hI, hm => by
  rcases h s hI with ⟨s', h1, h2, h3⟩ | ⟨s', h1, h2⟩ | ⟨r, h1, h2⟩
  ·rcases whX_inv I Q Qr m h k s' h2 (by omega) with ⟨s'', h4, h5⟩ | ⟨r, h4, h5⟩
   ·exact .inl ⟨s'', by simp only [whX, h1, Option.bind_some]; exact h4, h5⟩
   ·exact .inr ⟨r, by simp only [whX, h1, Option.bind_some]; exact h4, h5⟩
  ·exact .inl ⟨s', by simp only [whX, h1, Option.bind_some], h2⟩
  ·exact .inr ⟨r, by simp only [whX, h1, Option.bind_some], h2⟩
/-- Two loops in step that both end by themselves. -/
theorem whX2_inv {σ ρ ρ' : Type} {f : σ → Option (Ex σ ρ)} {g : σ → Option (Ex σ ρ')} (I : σ → Prop) (Q : σ → Prop) (m : σ → Nat)
  (h : ∀ s, I s → (∃ s', f s = some (.nx s') ∧ g s = some (.nx s') ∧ I s' ∧ m s' < m s) ∨ ∃ s', f s = some (.br s') ∧ g s = some (.br s') ∧ Q s') :
  ∀ (k : Nat) (s : σ), I s → m s < k → ∃ s', whX f k s = some (.inl s') ∧ whX g k s = some (.inl s') ∧ Q s'
 | 0, _, _, hm => absurd hm (Nat.not_lt_zero _)
 | k + 1, s, hI, hm => by
  rcases h s hI with ⟨s', h1, h1', h2, h3⟩ | ⟨s', h1, h1', h2⟩
  ·obtain ⟨s'', h4, h4', h5⟩ := whX2_inv I Q m h k s' h2 (by omega)
   exact ⟨s'', by simp only [whX, h1, Option.bind_some]; exact h4, by simp only [whX, h1', Option.bind_some]; exact h4', h5⟩
  ·exact ⟨s', by simp only [whX, h1, Option.bind_some], by simp only [whX, h1', Option.bind_some], h2⟩
theorem fuel_big {n : Nat} (h : n < 18446744073709551616) : n < fuel := h

/-- A coefficient that is taken. -/
def cfOk (n : Int) : Bool := decide (-1000000000 ≤ n) && decide (n ≤ 1000000000)
def rOk (x : TRing) : Bool := cfOk x.A && cfOk x.B && cfOk x.C && cfOk x.D
def rEven (x : TRing) : Bool := (Int.tmod (IntKind.i64.wrap (x.A + x.C)) 2 == 0) && (Int.tmod (IntKind.i64.wrap (x.B + x.D)) 2 == 0)
def dOk (x : TDyadic) : Bool := rOk x.Num && (decide (0 ≤ x.Exp) && decide (x.Exp ≤ 60)) && ((x.Exp == 0) || !rEven x.Num)
theorem cfOk_iff {n : Int} : cfOk n = true ↔ -1000000000 ≤ n ∧ n ≤ 1000000000 := by simp [cfOk]
theorem rOk_iff {x : TRing} : rOk x = true ↔ ((-1000000000 ≤ x.A ∧ x.A ≤ 1000000000) ∧ (-1000000000 ≤ x.B ∧ x.B ≤ 1000000000)) ∧ ((-1000000000 ≤ x.C ∧ x.C ≤ 1000000000) ∧ (-1000000000 ≤ x.D ∧ x.D ≤ 1000000000)) := by
 simp only [rOk, Bool.and_eq_true, cfOk_iff]
 constructor
 ·rintro ⟨⟨⟨a, b⟩, c⟩, d⟩; exact ⟨⟨a, b⟩, c, d⟩
 ·rintro ⟨⟨a, b⟩, c, d⟩; exact ⟨⟨⟨a, b⟩, c⟩, d⟩
theorem spec_ring (x : TRing) : F_spec_l1Good x = some (rOk x) := by
 unfold F_spec_l1Good F_spec_l1All
 rw [chk_t (by simp)]
 rcases forX_any (f := F_spec_l1All_l1 [x.A, x.B, x.C, x.D] (-1000000000) 1000000000) (l := [x.A, x.B, x.C, x.D]) (p := fun n => !cfOk n) (q := fun _ => false) (fun i y hy => by
  have e : F_spec_l1In y (-1000000000) 1000000000 = some (cfOk y) := rfl
  unfold F_spec_l1All_l1; simp only [getI_nat, hy, Option.bind_some, e]; cases cfOk y <;> rfl) with ⟨h1, h2⟩ | ⟨h1, i, _, h2⟩
 ·rw [h2]; simp at h1; simp [orR, rOk, h1]
 ·rw [h2]; simp only [Option.bind_some, orR]; congr 1; symm
  cases h : rOk x with
  | false => rfl
  | true => simp only [rOk, Bool.and_eq_true] at h; simp [h] at h1
theorem impl_coef (n : Int) : F_impl_isCoef n = some (cfOk n) := rfl
theorem impl_ring (x : TRing) : F_impl_IsValidRing x = some (rOk x) := by
 unfold F_impl_IsValidRing rOk
 simp only [impl_coef, Option.bind_some, gb]
 cases cfOk x.A <;> cases cfOk x.B <;> cases cfOk x.C <;> cases cfOk x.D <;> rfl
theorem spec_even (x : TRing) : F_spec_l1Even x = some (rEven x) := rfl
theorem impl_even (x : TRing) : F_impl_isEven x = some (rEven x) := rfl
theorem impl_dyadic (x : TDyadic) : F_impl_IsValidDyadic x = some (dOk x) := by
 unfold F_impl_IsValidDyadic F_impl_within dOk
 simp only [impl_ring, impl_even, Option.bind_some, gb]
 cases rOk x.Num <;> cases decide (0 ≤ x.Exp) && decide (x.Exp ≤ 60) <;> cases x.Exp == 0 <;> cases rEven x.Num <;> rfl
def rZero : TRing := TRing.mk 0 0 0 0
def dZero : TDyadic := TDyadic.mk rZero 0
theorem ring_if (out : TRing) (args : List TRing) (hl : args.length ≤ 10) : F_impl_ringIf out args = some (if args.all rOk && rOk out then (out, true) else (rZero, false)) := by
 unfold F_impl_ringIf
 rw [chk_t (by omega), chk_t (by simp; omega)]
 rcases forX_any (f := F_impl_ringIf_l1 args out) (l := args ++ [out]) (p := fun x => !rOk x) (q := fun _ => (TRing.mk 0 0 0 0, false)) (fun i y hy => by
  unfold F_impl_ringIf_l1; simp only [getI_nat, hy, Option.bind_some, impl_ring]; cases rOk y <;> rfl) with ⟨h1, h2⟩ | ⟨h1, i, _, h2⟩
 ·rw [h2]
  have : (args.all rOk && rOk out) = true := by
   simp only [List.any_append, List.any_cons, List.any_nil, Bool.or_false, Bool.or_eq_false_iff] at h1
   simp only [Bool.and_eq_true, List.all_eq_true]
   exact ⟨fun x hx => by have := List.any_eq_false.1 h1.1 x hx; simpa using this, by simpa using h1.2⟩
  rw [this]; rfl
 ·rw [h2]
  have : (args.all rOk && rOk out) = false := by
   simp only [List.any_append, List.any_cons, List.any_nil, Bool.or_false, Bool.or_eq_true] at h1
   rcases h1 with h | h
   ·obtain ⟨x, hx, hp⟩ := List.any_eq_true.1 h
    have : args.all rOk = false := by rw [List.all_eq_false]; exact ⟨x, hx, by simpa using hp⟩
    rw [this]; rfl
   ·simp at h; rw [h]; simp
  rw [this]; rfl

def rHalf (x : TRing) : TRing := TRing.mk (Int.tdiv (x.B - x.D) 2) (Int.tdiv (x.A + x.C) 2) (Int.tdiv (x.B + x.D) 2) (Int.tdiv (x.C - x.A) 2)
def rRoot (x : TRing) : TRing := TRing.mk (x.B - x.D) (x.A + x.C) (x.B + x.D) (x.C - x.A)
theorem wr {a : Int} (h : -9000000000000000000 ≤ a ∧ a ≤ 9000000000000000000) : IntKind.i64.wrap a = a := wrap_i64 ⟨by omega, by omega⟩
theorem tdiv_le' {a : Int} (h : -2000000000 ≤ a ∧ a ≤ 2000000000) : -1000000000 ≤ Int.tdiv a 2 ∧ Int.tdiv a 2 ≤ 1000000000 := by
 rcases Int.le_total 0 a with h0 | h0
 ·rw [Int.tdiv_eq_ediv_of_nonneg h0]; omega
 ·have e : a = -(-a) := by omega
  rw [e, Int.neg_tdiv, Int.tdiv_eq_ediv_of_nonneg (by omega)]; omega
theorem half_ok {x : TRing} (h : rOk x = true) : rOk (rHalf x) = true := by
 rw [rOk_iff] at h ⊢
 exact ⟨⟨tdiv_le' (by omega), tdiv_le' (by omega)⟩, tdiv_le' (by omega), tdiv_le' (by omega)⟩
theorem spec_root {x : TRing} (h : rOk x = true) : F_spec_l1Root x = some (rRoot x) := by
 rw [rOk_iff] at h
 unfold F_spec_l1Root rRoot
 rw [wr (a := x.B - x.D) (by omega), wr (a := x.A + x.C) (by omega), wr (a := x.B + x.D) (by omega), wr (a := x.C - x.A) (by omega)]
theorem spec_half {x : TRing} (h : rOk x = true) : F_spec_l1Half x = some (rHalf x) := by
 unfold F_spec_l1Half
 rw [spec_root h]
 have h' := h
 rw [rOk_iff] at h
 have t := half_ok h'
 rw [rOk_iff] at t
 simp only [Option.bind_some, rRoot]
 unfold rHalf at t ⊢
 simp only at t
 rw [wr (a := Int.tdiv (x.B - x.D) 2) (by omega), wr (a := Int.tdiv (x.A + x.C) 2) (by omega), wr (a := Int.tdiv (x.B + x.D) 2) (by omega), wr (a := Int.tdiv (x.C - x.A) 2) (by omega)]
theorem impl_half {x : TRing} (h : rOk x = true) (he : rEven x = true) : F_impl_DivRootTwo x = some (rHalf x, true) := by
 unfold F_impl_DivRootTwo
 have h' := h
 have t := half_ok h'
 have tt := t
 rw [rOk_iff] at h t
 simp only [impl_ring, impl_even, h', he, Option.bind_some, gb, Bool.not_true, Bool.not_false, cond_true, Bool.or_self, cond_false]
 rw [wr (a := x.B - x.D) (by omega), wr (a := x.A + x.C) (by omega), wr (a := x.B + x.D) (by omega), wr (a := x.C - x.A) (by omega)]
 unfold rHalf at t tt ⊢
 simp only at t
 rw [wr (a := Int.tdiv (x.B - x.D) 2) (by omega), wr (a := Int.tdiv (x.A + x.C) 2) (by omega), wr (a := Int.tdiv (x.B + x.D) 2) (by omega), wr (a := Int.tdiv (x.C - x.A) 2) (by omega)]
 rw [ring_if _ _ (by simp)]
 simp [h', tt]
/-- Both bring a number to its lowest terms, and alike. -/
theorem low_both {x : TRing} {e : Int} (hx : rOk x = true) (he : 0 ≤ e ∧ e ≤ 60) : ∃ z, F_spec_l2Low x e = some z ∧ F_impl_DyadicOf x e = some (z, true) ∧ dOk z = true := by
 obtain ⟨⟨e', A, B, C, D⟩, h1, h2, h3, h4, h5, h6⟩ := whX2_inv (f := F_spec_l2Low_l1) (g := F_impl_DyadicOf_l1) (fun s => rOk (TRing.mk s.2.1 s.2.2.1 s.2.2.2.1 s.2.2.2.2) = true ∧ 0 ≤ s.1 ∧ s.1 ≤ 60)
  (fun s => rOk (TRing.mk s.2.1 s.2.2.1 s.2.2.2.1 s.2.2.2.2) = true ∧ 0 ≤ s.1 ∧ s.1 ≤ 60 ∧ ((s.1 == 0) || !rEven (TRing.mk s.2.1 s.2.2.1 s.2.2.2.1 s.2.2.2.2)) = true) (fun s => s.1.toNat)
  (fun s ⟨hr, h0, h60⟩ => by
   obtain ⟨e, A, B, C, D⟩ := s
   simp only at hr h0 h60
   unfold F_spec_l2Low_l1 F_impl_DyadicOf_l1
   simp only [spec_even, impl_even, Option.bind_some, gb]
   by_cases hpos : 0 < e
   ·rw [decide_eq_true hpos]
    cases hev : rEven (TRing.mk A B C D) with
    | true =>
     simp only [cond_true, Bool.and_self, spec_half hr, impl_half hr hev, Option.bind_some]
     refine .inl ⟨_, rfl, rfl, ⟨half_ok hr, ?_⟩, ?_⟩
     ·show 0 ≤ IntKind.i64.wrap (e - 1) ∧ IntKind.i64.wrap (e - 1) ≤ 60
      rw [wr (by omega)]; omega
     ·show (IntKind.i64.wrap (e - 1)).toNat < e.toNat
      rw [wr (by omega)]; omega
    | false =>
     simp only [cond_true, Bool.and_false, cond_false]
     exact .inr ⟨_, rfl, rfl, hr, h0, h60, by simp [hev]⟩
   ·rw [decide_eq_false hpos]
    simp only [cond_false, Bool.false_and]
    have : e = 0 := by omega
    exact .inr ⟨_, rfl, rfl, hr, h0, h60, by simp [this]⟩)
  fuel (e, x.A, x.B, x.C, x.D) ⟨hx, he.1, he.2⟩ (fuel_big (by omega))
 refine ⟨TDyadic.mk (TRing.mk A B C D) e', ?_, ?_, ?_⟩
 ·unfold F_spec_l2Low; rw [h1]; rfl
 ·unfold F_impl_DyadicOf F_impl_within
  simp only [impl_ring, hx, Option.bind_some, gb, Bool.not_true, Bool.not_false, cond_true, Bool.false_or]
  rw [decide_eq_true he.1, decide_eq_true he.2]
  simp only [Bool.and_self, Bool.not_true, cond_false]
  rw [h2]; rfl
 ·simp only at h3 h4 h5 h6
  unfold dOk
  simp only [h3, decide_eq_true h4, decide_eq_true h5, Bool.true_and, Bool.and_self]
  exact h6

theorem d_parts {x : TDyadic} (h : dOk x = true) : rOk x.Num = true ∧ 0 ≤ x.Exp ∧ x.Exp ≤ 60 := by
 unfold dOk at h
 simp only [Bool.and_eq_true, decide_eq_true_eq] at h
 exact ⟨h.1.1, h.1.2.1, h.1.2.2⟩
theorem dZero_ok : dOk dZero = true := by decide
theorem rZero_ok : rOk rZero = true := by decide
def cB (b : Bool) : Tl2C := Tl2C.mk b
theorem spec_cring (b : Bool) (x : TRing) : F_spec_l2C_ring (cB b) x = some (if rOk x then (x, cB b) else (rZero, cB true)) := by
 unfold F_spec_l2C_ring
 rw [spec_ring]
 simp only [Option.bind_some]
 cases rOk x <;> rfl
def rMul (x y : TRing) : TRing := (F_spec_l1Mul x y).getD rZero
theorem impl_rmul {x y : TRing} (hx : rOk x = true) (hy : rOk y = true) : F_impl_MulRing x y = some (if rOk (rMul x y) then (rMul x y, true) else (rZero, false)) := by
 have e := ring_if (rMul x y) [x, y] (by simp)
 simp only [List.all_cons, List.all_nil, hx, hy, Bool.true_and] at e
 have e2 : F_impl_MulRing x y = (F_impl_ringIf (rMul x y) [x, y]).bind fun p => some (p.1, p.2) := rfl
 rw [e2, e]
 cases rOk (rMul x y) <;> rfl
theorem mul_both {x y : TDyadic} (hx : dOk x = true) (hy : dOk y = true) :
  (∃ z, dOk z = true ∧ (∀ b, F_spec_l2C_mul (cB b) x y = some (z, cB b)) ∧ F_impl_MulDyadic x y = some (z, true)) ∨
   ((∀ b, ∃ z, dOk z = true ∧ F_spec_l2C_mul (cB b) x y = some (z, cB true)) ∧ F_impl_MulDyadic x y = some (dZero, false)) := by
 obtain ⟨x1, x2, x3⟩ := d_parts hx
 obtain ⟨y1, y2, y3⟩ := d_parts hy
 have hw : IntKind.i64.wrap (x.Exp + y.Exp) = x.Exp + y.Exp := wr (by omega)
 have hi : ∀ q : TRing × Bool, F_impl_MulRing x.Num y.Num = some q → F_impl_MulDyadic x y = (bif !q.2 then some (dZero, false) else (F_impl_DyadicOf q.1 (x.Exp + y.Exp)).bind fun p => some (p.1, p.2)) := fun q hq => by
  unfold F_impl_MulDyadic
  rw [hq]
  simp only [Option.bind_some, impl_dyadic, hx, hy, gb, Bool.not_true, Bool.not_false, cond_true, Bool.false_or, hw]
  rfl
 by_cases he : x.Exp + y.Exp ≤ 60
 ·have hs : ∀ b, F_spec_l2C_mul (cB b) x y = (F_spec_l2C_ring (cB b) (rMul x.Num y.Num)).bind fun p => (F_spec_l2Low p.1 (x.Exp + y.Exp)).bind fun r => some (r, p.2) := fun b => by
   unfold F_spec_l2C_mul
   rw [hw, decide_eq_false (show ¬ (60 : Int) < x.Exp + y.Exp by omega)]
   rfl
  cases hr : rOk (rMul x.Num y.Num) with
  | true =>
   obtain ⟨z, z1, z2, z3⟩ := low_both hr (e := x.Exp + y.Exp) ⟨by omega, he⟩
   refine .inl ⟨z, z3, fun b => ?_, ?_⟩
   ·rw [hs, spec_cring, hr]; simp only [if_true, Option.bind_some, z1]
   ·rw [hi _ (impl_rmul x1 y1), hr]; simp only [if_true, Bool.not_true, cond_false, z2, Option.bind_some]
  | false =>
   refine .inr ⟨fun b => ?_, ?_⟩
   ·obtain ⟨z, z1, z2, z3⟩ := low_both rZero_ok (e := x.Exp + y.Exp) ⟨by omega, he⟩
    exact ⟨z, z3, by rw [hs, spec_cring, hr]; simp only [Bool.false_eq_true, if_false, Option.bind_some, z1]⟩
   ·rw [hi _ (impl_rmul x1 y1), hr]; rfl
 ·refine .inr ⟨fun b => ⟨dZero, dZero_ok, ?_⟩, ?_⟩
  ·unfold F_spec_l2C_mul
   rw [hw, decide_eq_true (show (60 : Int) < x.Exp + y.Exp by omega)]
   rfl
  ·rw [hi _ (impl_rmul x1 y1)]
   cases hr : rOk (rMul x.Num y.Num) with
   | false => rfl
   | true =>
    simp only [if_true, Bool.not_true, cond_false]
    unfold F_impl_DyadicOf F_impl_within
    simp only [impl_ring, hr, Option.bind_some, gb, Bool.not_true, Bool.not_false, cond_true, Bool.false_or]
    rw [decide_eq_false (show ¬ x.Exp + y.Exp ≤ 60 by omega)]
    simp only [Bool.and_false, Bool.not_false, cond_true]
    rfl

theorem impl_root {x : TRing} (h : rOk x = true) : F_impl_MulRootTwo x = some (if rOk (rRoot x) then (rRoot x, true) else (rZero, false)) := by
 unfold F_impl_MulRootTwo
 have h' := h
 rw [rOk_iff] at h
 rw [wr (a := x.B - x.D) (by omega), wr (a := x.A + x.C) (by omega), wr (a := x.B + x.D) (by omega), wr (a := x.C - x.A) (by omega)]
 have e := ring_if (rRoot x) [x] (by simp)
 simp only [List.all_cons, List.all_nil, h', Bool.true_and] at e
 show (F_impl_ringIf (rRoot x) [x]).bind _ = _
 rw [e]
 cases rOk (rRoot x) <;> rfl
def rTup (b : Bool) (x : TRing) (e : Int) : Bool × Int × Int × Int × Int × Int := (b, x.A, x.B, x.C, x.D, e)
def iTup (x : TRing) (ok : Bool) (e : Int) : Int × Int × Int × Int × Bool × Int := (x.A, x.B, x.C, x.D, ok, e)
/-- A number's numerator for a greater exponent, in the specification's loop. -/
theorem spec_raise {f : Bool × Int × Int × Int × Int × Int → Option (Ex (Bool × Int × Int × Int × Int × Int) (TDyadic × Tl2C))} {E : Int} (hE : E ≤ 60)
  (hf : ∀ b x e, rOk x = true → 0 ≤ e → e ≤ 60 → f (rTup b x e) = some (bif decide (e < E) then .nx (if rOk (rRoot x) then rTup b (rRoot x) (e + 1) else rTup true rZero (e + 1)) else .br (rTup b x e))) :
  ∀ (k : Nat) (b : Bool) (x : TRing) (e : Int), rOk x = true → 0 ≤ e → e ≤ E → (E - e).toNat < k → ∃ b' x', whX f k (rTup b x e) = some (.inl (rTup b' x' E)) ∧ rOk x' = true ∧ (b = true → b' = true)
 | 0, _, _, _, _, _, _, hk => absurd hk (Nat.not_lt_zero _)
 | k + 1, b, x, e, hx, h0, h1, hk => by
  have h := hf b x e hx h0 (by omega)
  by_cases hlt : e < E
  ·rw [decide_eq_true hlt, cond_true] at h
   cases hr : rOk (rRoot x) with
   | true =>
    rw [hr] at h; simp only [if_true] at h
    obtain ⟨b', x', e1, e2, e3⟩ := spec_raise hE hf k b (rRoot x) (e + 1) hr (by omega) (by omega) (by omega)
    exact ⟨b', x', by simp only [whX, h, Option.bind_some]; exact e1, e2, e3⟩
   | false =>
    rw [hr] at h; simp only [Bool.false_eq_true, if_false] at h
    obtain ⟨b', x', e1, e2, e3⟩ := spec_raise hE hf k true rZero (e + 1) rZero_ok (by omega) (by omega) (by omega)
    exact ⟨b', x', by simp only [whX, h, Option.bind_some]; exact e1, e2, fun _ => e3 rfl⟩
  ·rw [decide_eq_false hlt, cond_false] at h
   have : e = E := by omega
   subst this
   exact ⟨b, x, by simp only [whX, h, Option.bind_some], hx, id⟩
theorem impl_raise_step {E : Int} {x : TRing} {e : Int} (hx : rOk x = true) (h0 : 0 ≤ e) (h1 : e ≤ 60) (ok : Bool) :
  F_impl_raised_l1 E (iTup x ok e) = some (bif decide (e < E) && ok then .nx (if rOk (rRoot x) then iTup (rRoot x) true (e + 1) else iTup rZero false (e + 1)) else .br (iTup x ok e)) := by
 unfold F_impl_raised_l1 iTup
 simp only [impl_root hx]
 rw [wr (a := e + 1) (by omega)]
 cases decide (e < E) && ok <;> cases rOk (rRoot x) <;> rfl
theorem raise_both {f : Bool × Int × Int × Int × Int × Int → Option (Ex (Bool × Int × Int × Int × Int × Int) (TDyadic × Tl2C))} {E : Int} (hE : E ≤ 60)
  (hf : ∀ b x e, rOk x = true → 0 ≤ e → e ≤ 60 → f (rTup b x e) = some (bif decide (e < E) then .nx (if rOk (rRoot x) then rTup b (rRoot x) (e + 1) else rTup true rZero (e + 1)) else .br (rTup b x e))) :
  ∀ (k : Nat) (x : TRing) (e : Int), rOk x = true → 0 ≤ e → e ≤ E → (E - e).toNat < k →
   (∃ x', rOk x' = true ∧ (∀ b, whX f k (rTup b x e) = some (.inl (rTup b x' E))) ∧ whX (F_impl_raised_l1 E) k (iTup x true e) = some (.inl (iTup x' true E))) ∨
    ((∀ b, ∃ x', rOk x' = true ∧ whX f k (rTup b x e) = some (.inl (rTup true x' E))) ∧ ∃ x'' e', rOk x'' = true ∧ whX (F_impl_raised_l1 E) k (iTup x true e) = some (.inl (iTup x'' false e')))
 | 0, _, _, _, _, _, hk => absurd hk (Nat.not_lt_zero _)
 | k + 1, x, e, hx, h0, h1, hk => by
  have h := fun b => hf b x e hx h0 (by omega)
  have hg := impl_raise_step (E := E) hx h0 (by omega) true
  by_cases hlt : e < E
  ·simp only [decide_eq_true hlt, cond_true, Bool.true_and] at h hg
   cases hr : rOk (rRoot x) with
   | true =>
    simp only [hr, if_true] at h hg
    rcases raise_both hE hf k (rRoot x) (e + 1) hr (by omega) (by omega) (by omega) with ⟨x', e1, e2, e3⟩ | ⟨e1, x'', e', e2, e3⟩
    ·exact .inl ⟨x', e1, fun b => by simp only [whX, h, Option.bind_some]; exact e2 b, by simp only [whX, hg, Option.bind_some]; exact e3⟩
    ·refine .inr ⟨fun b => ?_, x'', e', e2, by simp only [whX, hg, Option.bind_some]; exact e3⟩
     obtain ⟨x', e4, e5⟩ := e1 b
     exact ⟨x', e4, by simp only [whX, h, Option.bind_some]; exact e5⟩
   | false =>
    simp only [hr, Bool.false_eq_true, if_false] at h hg
    refine .inr ⟨fun b => ?_, rZero, e + 1, rZero_ok, ?_⟩
    ·obtain ⟨b', x', e1, e2, e3⟩ := spec_raise hE hf k true rZero (e + 1) rZero_ok (by omega) (by omega) (by omega)
     have : b' = true := e3 rfl
     subst this
     exact ⟨x', e2, by simp only [whX, h, Option.bind_some]; exact e1⟩
    ·cases k with
     | zero => omega
     | succ k =>
      have hg2 := impl_raise_step (E := E) rZero_ok (show 0 ≤ e + 1 by omega) (by omega) false
      simp only [Bool.and_false, cond_false] at hg2
      simp only [whX, hg, Option.bind_some, hg2]
  ·simp only [decide_eq_false hlt, cond_false, Bool.false_and] at h hg
   have : e = E := by omega
   subst this
   exact .inl ⟨x, hx, fun b => by simp only [whX, h, Option.bind_some], by simp only [whX, hg, Option.bind_some]⟩
def rAdd (x y : TRing) : TRing := (F_spec_l1Add x y).getD rZero
theorem impl_radd {x y : TRing} (hx : rOk x = true) (hy : rOk y = true) : F_impl_AddRing x y = some (if rOk (rAdd x y) then (rAdd x y, true) else (rZero, false)) := by
 have e := ring_if (rAdd x y) [x, y] (by simp)
 simp only [List.all_cons, List.all_nil, hx, hy, Bool.true_and] at e
 have e2 : F_impl_AddRing x y = (F_impl_ringIf (rAdd x y) [x, y]).bind fun p => some (p.1, p.2) := rfl
 rw [e2, e]
 cases rOk (rAdd x y) <;> rfl
theorem add_l1 (y : TDyadic) (b : Bool) (x : TRing) (e : Int) (hx : rOk x = true) (h0 : 0 ≤ e) (h1 : e ≤ 60) :
  F_spec_l2C_add_l1 y (rTup b x e) = some (bif decide (e < y.Exp) then .nx (if rOk (rRoot x) then rTup b (rRoot x) (e + 1) else rTup true rZero (e + 1)) else .br (rTup b x e)) := by
 have hr := spec_cring b (rRoot x)
 unfold cB at hr
 unfold F_spec_l2C_add_l1 rTup
 simp only [spec_root hx, hr, Option.bind_some]
 rw [wr (a := e + 1) (by omega)]
 cases decide (e < y.Exp) <;> cases rOk (rRoot x) <;> rfl
theorem add_l2 (E : Int) (b0 : Bool) (A C D : Int) (b : Bool) (x : TRing) (e : Int) (hx : rOk x = true) (h0 : 0 ≤ e) (h1 : e ≤ 60) :
  F_spec_l2C_add_l2 E b0 A C D (rTup b x e) = some (bif decide (e < E) then .nx (if rOk (rRoot x) then rTup b (rRoot x) (e + 1) else rTup true rZero (e + 1)) else .br (rTup b x e)) := by
 have hr := spec_cring b (rRoot x)
 unfold cB at hr
 unfold F_spec_l2C_add_l2 rTup
 simp only [spec_root hx, hr, Option.bind_some]
 rw [wr (a := e + 1) (by omega)]
 cases decide (e < E) <;> cases rOk (rRoot x) <;> rfl
/-- The end of a sum in the specification. -/
def fin (b : Bool) (a c : TRing) (E : Int) : Option (TDyadic × Tl2C) :=
 (F_spec_l2C_ring (cB b) (rAdd a c)).bind fun p => (F_spec_l2Low p.1 E).bind fun r => some (r, p.2)
theorem fin_bad (a c : TRing) {E : Int} (hE : 0 ≤ E ∧ E ≤ 60) : ∃ z, dOk z = true ∧ fin true a c E = some (z, cB true) := by
 unfold fin
 rw [spec_cring]
 cases hr : rOk (rAdd a c) with
 | true =>
  obtain ⟨z, z1, _, z3⟩ := low_both hr hE
  exact ⟨z, z3, by simp only [if_true, Option.bind_some, z1]⟩
 | false =>
  obtain ⟨z, z1, _, z3⟩ := low_both rZero_ok hE
  exact ⟨z, z3, by simp only [Bool.false_eq_true, if_false, Option.bind_some, z1]⟩
theorem fin_both {a c : TRing} {E : Int} (hE : 0 ≤ E ∧ E ≤ 60) :
  (rOk (rAdd a c) = true ∧ ∃ z, dOk z = true ∧ (∀ b, fin b a c E = some (z, cB b)) ∧ F_impl_DyadicOf (rAdd a c) E = some (z, true)) ∨ (rOk (rAdd a c) = false ∧ ∀ b, ∃ z, dOk z = true ∧ fin b a c E = some (z, cB true)) := by
 cases hr : rOk (rAdd a c) with
 | true =>
  obtain ⟨z, z1, z2, z3⟩ := low_both hr hE
  exact .inl ⟨rfl, z, z3, fun b => by unfold fin; rw [spec_cring, hr]; simp only [if_true, Option.bind_some, z1], z2⟩
 | false =>
  obtain ⟨z, z1, _, z3⟩ := low_both rZero_ok hE
  exact .inr ⟨rfl, fun b => ⟨z, z3, by unfold fin; rw [spec_cring, hr]; simp only [Bool.false_eq_true, if_false, Option.bind_some, z1]⟩⟩
/-- The specification's sum: its two loops, then its end. -/
theorem spec_add_eq (b : Bool) (x y : TDyadic) {b1 b2 : Bool} {a c : TRing} {e1 e2 : Int} (h1 : whX (F_spec_l2C_add_l1 y) fuel (rTup b x.Num x.Exp) = some (.inl (rTup b1 a e1)))
  (h2 : whX (F_spec_l2C_add_l2 e1 b1 a.A a.C a.D) fuel (rTup b1 y.Num y.Exp) = some (.inl (rTup b2 c e2))) : F_spec_l2C_add (cB b) x y = fin b2 a c e1 := by
 unfold F_spec_l2C_add
 unfold rTup at h1 h2
 show (whX (F_spec_l2C_add_l1 y) fuel (b, x.Num.A, x.Num.B, x.Num.C, x.Num.D, x.Exp)).bind _ = _
 rw [h1]
 simp only [Option.bind_some, orR]
 rw [h2]
 rfl
theorem raised_of {x : TDyadic} {E : Int} {a : TRing} {ok : Bool} {e : Int} (h : whX (F_impl_raised_l1 E) fuel (iTup x.Num true x.Exp) = some (.inl (iTup a ok e))) : F_impl_raised x E = some (a, ok) := by
 unfold F_impl_raised
 unfold iTup at h
 rw [h]
 rfl
theorem comb_add {x y : TDyadic} (hx : dOk x = true) (hy : dOk y = true) {E : Int} (hE : (if x.Exp < y.Exp then y.Exp else x.Exp) = E) {a c : TRing} {oa oc : Bool} (h1 : F_impl_raised x E = some (a, oa)) (h2 : F_impl_raised y E = some (c, oc))
  (ha : rOk a = true) (hc : rOk c = true) : F_impl_AddDyadic x y = (bif oa && oc && rOk (rAdd a c) then F_impl_DyadicOf (rAdd a c) E else some (dZero, false)) := by
 unfold F_impl_AddDyadic F_impl_combined
 rw [hE]
 simp only [impl_dyadic, hx, hy, Option.bind_some, gb, Bool.not_true, Bool.not_false, cond_true, Bool.or_self, cond_false, h1, h2, impl_radd ha hc]
 cases oa <;> cases oc <;> cases hr : rOk (rAdd a c) <;> simp only [Bool.not_true, Bool.not_false, Bool.or_self, Bool.or_true, Bool.true_or, Bool.false_or, Bool.or_false, Bool.and_self, Bool.and_true, Bool.and_false, Bool.true_and, Bool.false_and, if_true, Bool.false_eq_true, if_false, Option.bind_some, cond_true, cond_false]
 all_goals first | rfl | (cases F_impl_DyadicOf (rAdd a c) E <;> rfl)
theorem add_both {x y : TDyadic} (hx : dOk x = true) (hy : dOk y = true) :
  (∃ z, dOk z = true ∧ (∀ b, F_spec_l2C_add (cB b) x y = some (z, cB b)) ∧ F_impl_AddDyadic x y = some (z, true)) ∨
   ((∀ b, ∃ z, dOk z = true ∧ F_spec_l2C_add (cB b) x y = some (z, cB true)) ∧ F_impl_AddDyadic x y = some (dZero, false)) := by
 obtain ⟨x1, x2, x3⟩ := d_parts hx
 obtain ⟨y1, y2, y3⟩ := d_parts hy
 have stay : ∀ {f : Bool × Int × Int × Int × Int × Int → Option (Ex (Bool × Int × Int × Int × Int × Int) (TDyadic × Tl2C))} {t : Bool × Int × Int × Int × Int × Int}, f t = some (.br t) → whX f fuel t = some (.inl t) := fun h => by
  rw [show fuel = (fuel - 1) + 1 from rfl]; simp only [whX, h, Option.bind_some]
 have stayI : ∀ {E : Int} {z : TDyadic}, rOk z.Num = true → 0 ≤ z.Exp → z.Exp ≤ 60 → ¬ z.Exp < E → F_impl_raised z E = some (z.Num, true) := fun {E z} h h0 h1 hn => by
  refine raised_of (e := z.Exp) ?_
  have := impl_raise_step (E := E) h h0 h1 true
  simp only [decide_eq_false hn, Bool.false_and, cond_false] at this
  rw [show fuel = (fuel - 1) + 1 from rfl]; simp only [whX, this, Option.bind_some]
 by_cases hlt : x.Exp < y.Exp
 ·have hE : (if x.Exp < y.Exp then y.Exp else x.Exp) = y.Exp := if_pos hlt
  have hst : ∀ (b : Bool) (a : TRing), whX (F_spec_l2C_add_l2 y.Exp b a.A a.C a.D) fuel (rTup b y.Num y.Exp) = some (.inl (rTup b y.Num y.Exp)) := fun b a => stay (by
   rw [add_l2 _ _ _ _ _ _ _ _ y1 y2 y3, decide_eq_false (by omega)]; rfl)
  rcases raise_both (f := F_spec_l2C_add_l1 y) (E := y.Exp) y3 (add_l1 y) fuel x.Num x.Exp x1 x2 (by omega) (fuel_big (by omega)) with ⟨a, a1, a2, a3⟩ | ⟨a1, a, e', a2, a3⟩
  ·have hc := comb_add hx hy hE (raised_of a3) (stayI y1 y2 y3 (by omega)) a1 y1
   rcases fin_both (a := a) (c := y.Num) (E := y.Exp) ⟨y2, y3⟩ with ⟨r1, z, z1, z2, z3⟩ | ⟨r1, z1⟩
   ·exact .inl ⟨z, z1, fun b => by rw [spec_add_eq b x y (a2 b) (hst b a)]; exact z2 b, by rw [hc, r1]; exact z3⟩
   ·refine .inr ⟨fun b => ?_, by rw [hc, r1]; rfl⟩
    obtain ⟨z, z2, z3⟩ := z1 b
    exact ⟨z, z2, by rw [spec_add_eq b x y (a2 b) (hst b a)]; exact z3⟩
  ·have hc := comb_add hx hy hE (raised_of a3) (stayI y1 y2 y3 (by omega)) a2 y1
   refine .inr ⟨fun b => ?_, by rw [hc]; rfl⟩
   obtain ⟨a', _, a5⟩ := a1 b
   obtain ⟨z, z2, z3⟩ := fin_bad a' y.Num (E := y.Exp) ⟨y2, y3⟩
   exact ⟨z, z2, by rw [spec_add_eq b x y a5 (hst true a')]; exact z3⟩
 ·have hE : (if x.Exp < y.Exp then y.Exp else x.Exp) = x.Exp := if_neg hlt
  have hst : ∀ (b : Bool), whX (F_spec_l2C_add_l1 y) fuel (rTup b x.Num x.Exp) = some (.inl (rTup b x.Num x.Exp)) := fun b => stay (by
   rw [add_l1 y _ _ _ x1 x2 x3, decide_eq_false (by omega)]; rfl)
  have hr := fun (b0 : Bool) => raise_both (f := F_spec_l2C_add_l2 x.Exp b0 x.Num.A x.Num.C x.Num.D) (E := x.Exp) x3 (add_l2 _ _ _ _ _) fuel y.Num y.Exp y1 y2 (by omega) (fuel_big (by omega))
  have hcm : ∀ {c : TRing} {oc : Bool}, F_impl_raised y x.Exp = some (c, oc) → rOk c = true → F_impl_AddDyadic x y = (bif true && oc && rOk (rAdd x.Num c) then F_impl_DyadicOf (rAdd x.Num c) x.Exp else some (dZero, false)) := fun h hc =>
   comb_add hx hy hE (stayI x1 x2 x3 (by omega)) h x1 hc
  rcases hr true with ⟨c, c1, c2, c3⟩ | ⟨c1, c, e', c2, c3⟩
  ·have hc := hcm (raised_of c3) c1
   have hs : ∀ b, F_spec_l2C_add (cB b) x y = fin b x.Num c x.Exp := fun b => by
    rcases hr b with ⟨c', d1, d2, d3⟩ | ⟨_, c', e', _, d3⟩
    ·rw [c3] at d3
     have : c = c' := by cases c; cases c'; simp only [iTup, Option.some.injEq, Sum.inl.injEq, Prod.mk.injEq] at d3; simp only [TRing.mk.injEq]; exact ⟨d3.1, d3.2.1, d3.2.2.1, d3.2.2.2.1⟩
     subst this
     exact spec_add_eq b x y (hst b) (d2 b)
    ·rw [c3] at d3
     simp [iTup] at d3
   rcases fin_both (a := x.Num) (c := c) (E := x.Exp) ⟨x2, x3⟩ with ⟨r1, z, z1, z2, z3⟩ | ⟨r1, z1⟩
   ·exact .inl ⟨z, z1, fun b => by rw [hs]; exact z2 b, by rw [hc, r1]; exact z3⟩
   ·refine .inr ⟨fun b => ?_, by rw [hc, r1]; rfl⟩
    obtain ⟨z, z2, z3⟩ := z1 b
    exact ⟨z, z2, by rw [hs]; exact z3⟩
  ·have hc := hcm (raised_of c3) c2
   refine .inr ⟨fun b => ?_, by rw [hc]; rfl⟩
   rcases hr b with ⟨c', d1, d2, d3⟩ | ⟨d1, _⟩
   ·rw [c3] at d3; simp [iTup] at d3
   ·obtain ⟨c', _, d5⟩ := d1 b
    obtain ⟨z, z2, z3⟩ := fin_bad x.Num c' (E := x.Exp) ⟨x2, x3⟩
    exact ⟨z, z2, by rw [spec_add_eq b x y (hst b) d5]; exact z3⟩

def DM (x y : TDyadic) : Option TDyadic := (F_impl_MulDyadic x y).bind fun p => if p.2 then some p.1 else none
def DA (x y : TDyadic) : Option TDyadic := (F_impl_AddDyadic x y).bind fun p => if p.2 then some p.1 else none
/-- An answer of the program: the number, or zero and false. -/
def dR (o : Option TDyadic) : TDyadic × Bool := match o with | some z => (z, true) | none => (dZero, false)
/-- The specification's step f, from whatever flag, ends in the number o, the flag as it was; or, if there is none, in some number and the flag set. -/
def SP {α : Type} (f : Tl2C → Option (α × Tl2C)) (G : α → Prop) (o : Option α) : Prop :=
 ∀ b, ∃ z b', f (cB b) = some (z, cB b') ∧ G z ∧ ((o = some z ∧ b' = b) ∨ (o = none ∧ b' = true))
theorem SP.bind {α β : Type} {f : Tl2C → Option (α × Tl2C)} {G : α → Prop} {o : Option α} (hf : SP f G o) {h : α → Tl2C → Option (β × Tl2C)} {G' : β → Prop} {o' : α → Option β}
  (hh : ∀ z, G z → SP (h z) G' (o' z)) : SP (fun c => (f c).bind fun p => h p.1 p.2) G' (o.bind o') := fun b => by
 obtain ⟨z, b', h1, h2, h3⟩ := hf b
 obtain ⟨z', b'', h4, h5, h6⟩ := hh z h2 b'
 refine ⟨z', b'', by simp only [h1, Option.bind_some]; exact h4, h5, ?_⟩
 rcases h3 with ⟨rfl, rfl⟩ | ⟨rfl, rfl⟩
 ·simpa using h6
 ·rcases h6 with ⟨_, h6⟩ | ⟨_, h6⟩
  ·exact .inr ⟨rfl, h6⟩
  ·exact .inr ⟨rfl, h6⟩
theorem SP.pure {α : Type} {G : α → Prop} {z : α} (h : G z) : SP (fun c => some (z, c)) G (some z) := fun b => ⟨z, b, rfl, h, .inl ⟨rfl, rfl⟩⟩
theorem SP.map {α β : Type} {f : Tl2C → Option (α × Tl2C)} {G : α → Prop} {o : Option α} (hf : SP f G o) {g : α → β} {G' : β → Prop} (hg : ∀ z, G z → G' (g z)) : SP (fun c => (f c).bind fun p => some (g p.1, p.2)) G' (o.map g) := by
 have := hf.bind (h := fun z c => some (g z, c)) (o' := fun z => some (g z)) (fun z hz => SP.pure (hg z hz))
 rwa [Option.map_eq_bind]
theorem spM {x y : TDyadic} (hx : dOk x = true) (hy : dOk y = true) : SP (fun c => F_spec_l2C_mul c x y) (fun z => dOk z = true) (DM x y) := fun b => by
 unfold DM
 rcases mul_both hx hy with ⟨z, h1, h2, h3⟩ | ⟨h1, h2⟩
 ·exact ⟨z, b, h2 b, h1, .inl ⟨by rw [h3]; rfl, rfl⟩⟩
 ·obtain ⟨z, h3, h4⟩ := h1 b
  exact ⟨z, true, h4, h3, .inr ⟨by rw [h2]; rfl, rfl⟩⟩
theorem spA {x y : TDyadic} (hx : dOk x = true) (hy : dOk y = true) : SP (fun c => F_spec_l2C_add c x y) (fun z => dOk z = true) (DA x y) := fun b => by
 unfold DA
 rcases add_both hx hy with ⟨z, h1, h2, h3⟩ | ⟨h1, h2⟩
 ·exact ⟨z, b, h2 b, h1, .inl ⟨by rw [h3]; rfl, rfl⟩⟩
 ·obtain ⟨z, h3, h4⟩ := h1 b
  exact ⟨z, true, h4, h3, .inr ⟨by rw [h2]; rfl, rfl⟩⟩
theorem imM {x y : TDyadic} (hx : dOk x = true) (hy : dOk y = true) : F_impl_MulDyadic x y = some (dR (DM x y)) := by
 unfold DM
 rcases mul_both hx hy with ⟨z, h1, h2, h3⟩ | ⟨h1, h2⟩
 ·rw [h3]; rfl
 ·rw [h2]; rfl
theorem imA {x y : TDyadic} (hx : dOk x = true) (hy : dOk y = true) : F_impl_AddDyadic x y = some (dR (DA x y)) := by
 unfold DA
 rcases add_both hx hy with ⟨z, h1, h2, h3⟩ | ⟨h1, h2⟩
 ·rw [h3]; rfl
 ·rw [h2]; rfl
theorem dm_ok {x y z : TDyadic} (hx : dOk x = true) (hy : dOk y = true) (h : DM x y = some z) : dOk z = true := by
 unfold DM at h
 rcases mul_both hx hy with ⟨z', h1, h2, h3⟩ | ⟨h1, h2⟩
 ·rw [h3] at h; simp at h; rw [← h]; exact h1
 ·rw [h2] at h; simp at h
theorem da_ok {x y z : TDyadic} (hx : dOk x = true) (hy : dOk y = true) (h : DA x y = some z) : dOk z = true := by
 unfold DA at h
 rcases add_both hx hy with ⟨z', h1, h2, h3⟩ | ⟨h1, h2⟩
 ·rw [h3] at h; simp at h; rw [← h]; exact h1
 ·rw [h2] at h; simp at h
theorem dR_ok {o : Option TDyadic} (h : ∀ z, o = some z → dOk z = true) : dOk (dR o).1 = true := by
 cases o with
 | none => exact dZero_ok
 | some z => exact h z rfl

/-- What the specification holds (z, and its flag b') beside the number o (or none): the flag before is b; once it is set, it stays. -/
def SR {α : Type} (G : α → Prop) (o : Option α) (b : Bool) (z : α) (b' : Bool) : Prop := G z ∧ (b = true → b' = true) ∧ (b = false → (o = some z ∧ b' = false) ∨ (o = none ∧ b' = true))
theorem SR.bind {α β : Type} {G : α → Prop} {G' : β → Prop} {o : Option α} {o' : α → Option β} {b b' b'' : Bool} {z : α} {z' : β} (h1 : SR G o b z b') (h2 : SR G' (o' z) b' z' b'') : SR G' (o.bind o') b z' b'' := by
 refine ⟨h2.1, fun h => h2.2.1 (h1.2.1 h), fun h => ?_⟩
 rcases h1.2.2 h with ⟨rfl, rfl⟩ | ⟨rfl, rfl⟩
 ·exact h2.2.2 rfl
 ·exact .inr ⟨rfl, h2.2.1 rfl⟩
theorem SR.bad {α : Type} {G : α → Prop} {o : Option α} {z : α} {b' : Bool} (h : SR G o true z b') : b' = true := h.2.1 rfl
theorem SR.good {α : Type} {G : α → Prop} {o : Option α} {z : α} {b' : Bool} (h : SR G o false z b') : (o = some z ∧ b' = false) ∨ (o = none ∧ b' = true) := h.2.2 rfl
theorem SR.pure {α : Type} {G : α → Prop} {z : α} {b : Bool} (h : G z) : SR G (some z) b z b := ⟨h, id, fun hb => .inl ⟨rfl, hb⟩⟩
theorem SR.mono {α : Type} {G G' : α → Prop} {o : Option α} {b b' : Bool} {z : α} (h : SR G o b z b') (hg : G z → G' z) : SR G' o b z b' := ⟨hg h.1, h.2⟩
theorem SR.map {α β : Type} {G : α → Prop} {G' : β → Prop} {o : Option α} {b b' : Bool} {z : α} (h : SR G o b z b') (g : α → β) (hg : G z → G' (g z)) : SR G' (o.map g) b (g z) b' := by
 refine ⟨hg h.1, h.2.1, fun hb => ?_⟩
 rcases h.2.2 hb with ⟨rfl, h2⟩ | ⟨rfl, h2⟩
 ·exact .inl ⟨rfl, h2⟩
 ·exact .inr ⟨rfl, h2⟩
theorem sr_of {α : Type} {f : Tl2C → Option (α × Tl2C)} {G : α → Prop} {o : Option α} (h : SP f G o) (b : Bool) : ∃ z b', f (cB b) = some (z, cB b') ∧ SR G o b z b' := by
 obtain ⟨z, b', h1, h2, h3⟩ := h b
 refine ⟨z, b', h1, h2, fun hb => ?_, fun hb => ?_⟩
 ·rcases h3 with ⟨_, h3⟩ | ⟨_, h3⟩
  ·exact h3.trans hb
  ·exact h3
 ·rcases h3 with ⟨h3, h4⟩ | ⟨h3, h4⟩
  ·exact .inl ⟨h3, h4.trans hb⟩
  ·exact .inr ⟨h3, h4⟩
theorem srM {x y : TDyadic} (hx : dOk x = true) (hy : dOk y = true) (b : Bool) : ∃ z b', F_spec_l2C_mul (cB b) x y = some (z, cB b') ∧ SR (fun z => dOk z = true) (DM x y) b z b' := sr_of (spM hx hy) b
theorem srA {x y : TDyadic} (hx : dOk x = true) (hy : dOk y = true) (b : Bool) : ∃ z b', F_spec_l2C_add (cB b) x y = some (z, cB b') ∧ SR (fun z => dOk z = true) (DA x y) b z b' := sr_of (spA hx hy) b
theorem sr_it {β τ : Type} {f : Nat → τ → Option τ} {enc : Bool → β → τ} {G : Nat → β → Prop} {st : Nat → β → Option β} {n : Nat}
  (hf : ∀ k b s, k < n → G k s → ∃ z b', f k (enc b s) = some (enc b' z) ∧ SR (G (k + 1)) (st k s) b z b') :
  ∀ (m i : Nat) (s : β) (b : Bool), i + m ≤ n → G i s → ∃ z b', forN f m i (enc b s) = some (enc b' z) ∧ SR (G (i + m)) (forN st m i s) b z b'
 | 0, i, s, b, _, hG => ⟨s, b, rfl, SR.pure hG⟩
 | m + 1, i, s, b, hm, hG => by
  obtain ⟨z, b', h1, h2⟩ := hf i b s (by omega) hG
  obtain ⟨z', b'', h3, h4⟩ := sr_it hf m (i + 1) z b' (by omega) h2.1
  rw [show i + 1 + m = i + (m + 1) by omega] at h4
  exact ⟨z', b'', by simp only [forN, h1, Option.bind_some]; exact h3, h2.bind h4⟩
/-- A loop of the specification that stops at its flag. -/
theorem sr_wh {β τ ρ : Type} {f : τ → Option (Ex τ ρ)} {enc : Bool → β → Nat → τ} {G : β → Prop} {st : Nat → β → Option β} {n : Nat}
  (hb : ∀ k s, f (enc true s k) = some (.br (enc true s k))) (hn : ∀ s, f (enc false s n) = some (.br (enc false s n)))
  (hf : ∀ k s, k < n → G s → ∃ z b', f (enc false s k) = some (.nx (enc b' z (k + 1))) ∧ SR G (st k s) false z b') :
  ∀ (q m i : Nat) (s : β) (b : Bool), i + m = n → m < q → G s → ∃ z b' k', whX f q (enc b s i) = some (.inl (enc b' z k')) ∧ SR G (forN st m i s) b z b'
 | 0, _, _, _, _, _, hq, _ => absurd hq (Nat.not_lt_zero _)
 | q + 1, m, i, s, true, _, _, hG => ⟨s, true, i, by simp only [whX, hb, Option.bind_some], hG, fun h => h, fun h => by cases h⟩
 | q + 1, 0, i, s, false, hm, _, hG => by
  have : i = n := by omega
  subst this
  exact ⟨s, false, i, by simp only [whX, hn, Option.bind_some], SR.pure hG⟩
 | q + 1, m + 1, i, s, false, hm, hq, hG => by
  obtain ⟨z, b', h1, h2⟩ := hf i s (by omega) hG
  obtain ⟨z', b'', k', h3, h4⟩ := sr_wh hb hn hf q m (i + 1) z b' (by omega) (by omega) h2.1
  exact ⟨z', b'', k', by simp only [whX, h1, Option.bind_some]; exact h3, h2.bind h4⟩
/-- What a loop that may leave the function ends in. -/
def exO {β τ ρ : Type} (enc : β → τ) (R : ρ) (o : Option β) : τ ⊕ ρ := match o with | some z => .inl (enc z) | none => .inr R
def nxO {β τ ρ : Type} (enc : β → τ) (R : ρ) (o : Option β) : Ex τ ρ := match o with | some z => .nx (enc z) | none => .rt R
theorem im_it {β τ ρ : Type} {g : Nat → τ → Option (Ex τ ρ)} {enc : β → τ} {G : Nat → β → Prop} {st : Nat → β → Option β} {R : ρ} {n : Nat}
  (hg : ∀ k s, k < n → G k s → g k (enc s) = some (nxO enc R (st k s)) ∧ ∀ z, st k s = some z → G (k + 1) z) :
  ∀ (m i : Nat) (s : β), i + m ≤ n → G i s → forX g m i (enc s) = some (exO enc R (forN st m i s)) ∧ ∀ z, forN st m i s = some z → G (i + m) z
 | 0, i, s, _, hG => ⟨rfl, fun z h => by cases h; exact hG⟩
 | m + 1, i, s, hm, hG => by
  obtain ⟨h1, h2⟩ := hg i s (by omega) hG
  cases hs : st i s with
  | none =>
   rw [hs] at h1
   refine ⟨by simp only [forX, h1, nxO, Option.bind_some, forN, hs, Option.bind_none, exO], fun z hz => ?_⟩
   simp only [forN, hs, Option.bind_none] at hz; cases hz
  | some z =>
   rw [hs] at h1
   obtain ⟨h3, h4⟩ := im_it hg m (i + 1) z (by omega) (h2 z hs)
   rw [show i + 1 + m = i + (m + 1) by omega] at h4
   exact ⟨by simp only [forX, h1, nxO, Option.bind_some, forN, hs]; exact h3, fun z' hz => h4 z' (by simpa only [forN, hs, Option.bind_some] using hz)⟩
theorem gI {l : List TDyadic} {x : Int} {n : Nat} (hx : x = (n : Int)) (hn : n < l.length) : getI l x = some (l.getD n dZero) := by
 subst hx; rw [getI_nat, List.getElem?_eq_getElem hn]; simp [hn]
theorem getD_ok {l : List TDyadic} (h : ∀ z ∈ l, dOk z = true) (n : Nat) : dOk (l.getD n dZero) = true := by
 rw [List.getD_eq_getElem?_getD]
 cases hx : l[n]? with
 | none => exact dZero_ok
 | some x => exact h x (List.mem_of_getElem? hx)
def sT (b : Bool) (s : TDyadic) : Bool × Int × Int × Int × Int × Int := (b, s.Num.A, s.Num.B, s.Num.C, s.Num.D, s.Exp)
def iT (s : TDyadic) : Int × Int × Int × Int × Int := (s.Num.A, s.Num.B, s.Num.C, s.Num.D, s.Exp)
/-- One more product onto a sum. -/
def dotS (X Y : Nat → TDyadic) (k : Nat) (s : TDyadic) : Option TDyadic := (DM (X k) (Y k)).bind fun p => DA s p
theorem dot_spec {X Y : Nat → TDyadic} (hX : ∀ k, dOk (X k) = true) (hY : ∀ k, dOk (Y k) = true) (k : Nat) (b : Bool) (s : TDyadic) (hs : dOk s = true) :
  ∃ z b', ((F_spec_l2C_mul (cB b) (X k) (Y k)).bind fun p => (F_spec_l2C_add p.2 s p.1).bind fun q => some (sT q.2.bad q.1)) = some (sT b' z) ∧ SR (fun z => dOk z = true) (dotS X Y k s) b z b' := by
 obtain ⟨z, b', h1, h2⟩ := srM (hX k) (hY k) b
 obtain ⟨z', b'', h3, h4⟩ := srA hs h2.1 b'
 exact ⟨z', b'', by simp only [h1, Option.bind_some, h3]; rfl, h2.bind h4⟩
theorem dot_impl {ρ : Type} {X Y : Nat → TDyadic} (hX : ∀ k, dOk (X k) = true) (hY : ∀ k, dOk (Y k) = true) (R : ρ) (k : Nat) (s : TDyadic) (hs : dOk s = true) :
  ((F_impl_MulDyadic (X k) (Y k)).bind fun p => (F_impl_AddDyadic s p.1).bind fun q => bif (!p.2) || (!q.2) then some (.rt R) else some (.nx (iT q.1))) = some (nxO iT R (dotS X Y k s)) ∧ ∀ z, dotS X Y k s = some z → dOk z = true := by
 unfold dotS
 rw [imM (hX k) (hY k)]
 have ho : dOk (dR (DM (X k) (Y k))).1 = true := dR_ok (fun z hz => dm_ok (hX k) (hY k) hz)
 simp only [Option.bind_some]
 rw [imA hs ho]
 simp only [Option.bind_some]
 cases hm : DM (X k) (Y k) with
 | none => exact ⟨rfl, fun z hz => by cases hz⟩
 | some p =>
  rw [hm] at ho
  simp only [dR, Option.bind_some] at ho ⊢
  cases ha : DA s p with
  | none => exact ⟨rfl, fun z hz => by cases hz⟩
  | some q => exact ⟨rfl, fun z hz => by cases hz; exact da_ok hs ho ha⟩
theorem rr_zero : rRoot rZero = rZero := by decide
theorem raise_zero {E : Int} (hE : E ≤ 60) : ∀ (k : Nat) (e : Int), 0 ≤ e → e ≤ E → (E - e).toNat < k → whX (F_impl_raised_l1 E) k (iTup rZero true e) = some (.inl (iTup rZero true E))
 | 0, _, _, _, hk => absurd hk (Nat.not_lt_zero _)
 | k + 1, e, h0, h1, hk => by
  have h := impl_raise_step (E := E) rZero_ok h0 (by omega) true
  by_cases hlt : e < E
  ·rw [decide_eq_true hlt, rr_zero, rZero_ok] at h
   simp only [Bool.and_self, cond_true, if_true] at h
   simp only [whX, h, Option.bind_some]
   exact raise_zero hE k (e + 1) (by omega) (by omega) (by omega)
  ·rw [decide_eq_false hlt] at h
   simp only [Bool.false_and, cond_false] at h
   have : e = E := by omega
   subst this
   simp only [whX, h, Option.bind_some]
theorem low_id {x : TDyadic} (h : dOk x = true) : F_impl_DyadicOf x.Num x.Exp = some (x, true) := by
 obtain ⟨h1, h2, h3⟩ := d_parts h
 have hl : F_impl_DyadicOf_l1 (x.Exp, x.Num.A, x.Num.B, x.Num.C, x.Num.D) = some (.br (x.Exp, x.Num.A, x.Num.B, x.Num.C, x.Num.D)) := by
  unfold F_impl_DyadicOf_l1
  simp only [impl_even, Option.bind_some, gb]
  unfold dOk at h
  simp only [Bool.and_eq_true, Bool.or_eq_true, beq_iff_eq, Bool.not_eq_true'] at h
  rcases h.2 with h | h
  ·rw [decide_eq_false (show ¬ 0 < x.Exp by omega)]; rfl
  ·have e : rEven (TRing.mk x.Num.A x.Num.B x.Num.C x.Num.D) = false := h
   rw [e]; cases decide (0 < x.Exp) <;> rfl
 unfold F_impl_DyadicOf F_impl_within
 simp only [impl_ring, h1, Option.bind_some, gb, Bool.not_true, Bool.not_false, cond_true, Bool.false_or]
 rw [decide_eq_true h2, decide_eq_true h3]
 simp only [Bool.and_self, Bool.not_true, cond_false]
 rw [show fuel = (fuel - 1) + 1 from rfl]
 simp only [whX, hl, Option.bind_some, orR]
theorem zero_add {x : TDyadic} (h : dOk x = true) : DA dZero x = some x := by
 obtain ⟨h1, h2, h3⟩ := d_parts h
 have hr := h1
 rw [rOk_iff] at hr
 have e : rAdd rZero x.Num = x.Num := by
  unfold rAdd F_spec_l1Add rZero
  simp only [Int.zero_add, Option.getD_some]
  rw [wr (a := x.Num.A) (by omega), wr (a := x.Num.B) (by omega), wr (a := x.Num.C) (by omega), wr (a := x.Num.D) (by omega)]
 have hE : (if dZero.Exp < x.Exp then x.Exp else dZero.Exp) = x.Exp := by
  show (if (0 : Int) < x.Exp then x.Exp else 0) = x.Exp
  split <;> omega
 have hst : F_impl_raised x x.Exp = some (x.Num, true) := by
  refine raised_of (e := x.Exp) ?_
  have := impl_raise_step (E := x.Exp) h1 h2 h3 true
  simp only [Int.lt_irrefl, decide_false, Bool.false_and, cond_false] at this
  rw [show fuel = (fuel - 1) + 1 from rfl]; simp only [whX, this, Option.bind_some]
 have hz : F_impl_raised dZero x.Exp = some (rZero, true) := raised_of (x := dZero) (raise_zero h3 fuel 0 (by omega) h2 (fuel_big (by omega)))
 have hc := comb_add dZero_ok h hE hz hst rZero_ok h1
 rw [e, h1] at hc
 simp only [Bool.and_self, cond_true, low_id h] at hc
 unfold DA
 rw [hc]; rfl

def okD (l : List TDyadic) : Prop := ∀ z ∈ l, dOk z = true
theorem okD_snoc {l : List TDyadic} {z : TDyadic} (hl : okD l) (hz : dOk z = true) : okD (l ++ [z]) := fun x hx => by
 rcases List.mem_append.1 hx with h | h
 ·exact hl x h
 ·simp only [List.mem_singleton] at h; subst h; exact hz
theorem dy_eq (x y : TDyadic) : (((x.Num.A == y.Num.A) && ((x.Num.B == y.Num.B) && ((x.Num.C == y.Num.C) && ((x.Num.D == y.Num.D) && true)))) && ((x.Exp == y.Exp) && true)) = decide (x = y) := by
 obtain ⟨⟨A, B, C, D⟩, e⟩ := x
 obtain ⟨⟨A', B', C', D'⟩, e'⟩ := y
 rw [Bool.eq_iff_iff]
 simp only [Bool.and_true, Bool.and_eq_true, beq_iff_eq, decide_eq_true_eq, TDyadic.mk.injEq, TRing.mk.injEq]
theorem bs {α : Type} {b : Bool} {x y : α} : (bif b then some x else some y) = some (bif b then x else y) := by cases b <;> rfl
theorem forX_same {α ρ : Type} [DecidableEq α] {f : Nat → Unit → Option (Ex Unit ρ)} {l l' : List α} {q : ρ} (hl : l.length = l'.length)
  (hf : ∀ i x y, l[i]? = some x → l'[i]? = some y → f i () = some (bif !decide (x = y) then .rt q else .nx ())) : forX f l.length 0 () = some (if l = l' then .inl () else .inr q) := by
 rcases forX_inv (f := f) (fun j _ => ∀ i, i < j → l[i]? = l'[i]?) (fun r => r = q ∧ l ≠ l') l.length 0 () (fun i hi => absurd hi (Nat.not_lt_zero _)) (fun j s _ hj hI => by
  have hj : j < l.length := by omega
  have h := hf j _ _ (List.getElem?_eq_getElem hj) (List.getElem?_eq_getElem (show j < l'.length by omega))
  by_cases he : l[j] = l'[j]'(by omega)
  ·rw [decide_eq_true he] at h
   refine .inl ⟨(), h, fun i hi => ?_⟩
   rcases Nat.lt_succ_iff_lt_or_eq.1 hi with h' | rfl
   ·exact hI i h'
   ·rw [List.getElem?_eq_getElem hj, List.getElem?_eq_getElem (show i < l'.length by omega), he]
  ·rw [decide_eq_false he] at h
   exact .inr ⟨q, h, rfl, fun e => he (by subst e; rfl)⟩) with ⟨⟨⟩, h1, h2⟩ | ⟨r, h1, rfl, h2⟩
 ·rw [h1, if_pos]
  apply List.ext_getElem?
  intro i
  by_cases hi : i < l.length
  ·exact h2 i (by omega)
  ·rw [List.getElem?_eq_none (by omega), List.getElem?_eq_none (by omega)]
 ·rw [h1, if_neg h2]
def dOne : TDyadic := TDyadic.mk (TRing.mk 1 0 0 0) 0
theorem index_eq {l : List TDyadic} {f : TDyadic → Option Bool} {p : TDyadic → Bool} (hl : l.length ≤ 9223372036854775807) (hf : ∀ x, f x = some (p x)) :
  ∃ i, F_slices_IndexFunc_impl_Dyadic_impl_Dyadic l f = some i ∧ decide (0 ≤ i) = l.any p := by
 unfold F_slices_IndexFunc_impl_Dyadic_impl_Dyadic
 rw [chk_t hl]
 rcases forX_any (f := F_slices_IndexFunc_impl_Dyadic_impl_Dyadic_l1 l f) (l := l) (p := p) (q := fun i => (i : Int)) (fun i x hx => by
  unfold F_slices_IndexFunc_impl_Dyadic_impl_Dyadic_l1
  simp only [getI_nat, hx, Option.bind_some, hf, bs]) with ⟨h1, h2⟩ | ⟨h1, i, _, h2⟩
 ·rw [h2, h1]; exact ⟨-1, rfl, by decide⟩
 ·rw [h2, h1]; exact ⟨i, rfl, by simp⟩
theorem contains_eq {l : List TDyadic} {f : TDyadic → Option Bool} {p : TDyadic → Bool} (hl : l.length ≤ 9223372036854775807) (hf : ∀ x, f x = some (p x)) :
  F_slices_ContainsFunc_impl_Dyadic_impl_Dyadic l f = some (l.any p) := by
 unfold F_slices_ContainsFunc_impl_Dyadic_impl_Dyadic
 obtain ⟨i, h1, h2⟩ := index_eq hl hf
 rw [h1]; simp only [Option.bind_some, h2]
theorem any_not_all {l : List TDyadic} {p : TDyadic → Bool} : (l.any fun x => !p x) = !l.all p := by
 induction l with
 | nil => rfl
 | cons x l ih => simp only [List.any_cons, List.all_cons, ih, Bool.not_and]

def dimB (n : Int) : Bool := [1, 2, 4, 8, 16, 32].any fun x => x == n
theorem dim_le {n : Int} (h : dimB n = true) : 1 ≤ n ∧ n ≤ 32 := by
 unfold dimB at h
 simp only [List.any_cons, List.any_nil, Bool.or_false, Bool.or_eq_true, beq_iff_eq] at h
 omega
theorem dim_small : ∀ k : Fin 33, 1 ≤ k.val → (((decide ((1 : Int) ≤ (k.val : Int))) && (decide ((k.val : Int) ≤ 32))) && ((bits .and .i64 (k.val : Int) (IntKind.i64.wrap ((k.val : Int) - 1))) == 0)) = dimB (k.val : Int) := by decide +kernel
theorem impl_dim (n : Int) : F_impl_isDim n = some (dimB n) := by
 unfold F_impl_isDim F_impl_within
 simp only [Option.bind_some]
 by_cases h : 1 ≤ n ∧ n ≤ 32
 ·obtain ⟨k, rfl⟩ : ∃ k : Nat, n = k := ⟨n.toNat, by omega⟩
  exact congrArg some (dim_small ⟨k, by omega⟩ (by simp only; omega))
 ·have : dimB n = false := by
   cases hd : dimB n with
   | false => rfl
   | true => exact absurd (dim_le hd) h
  rw [this]
  by_cases h1 : 1 ≤ n
  ·rw [decide_eq_false (show ¬ n ≤ 32 by omega)]; simp
  ·rw [decide_eq_false h1]; simp
/-- A matrix that is taken. -/
def mOk (m : TMatrix) : Bool := dimB m.Rows && dimB m.Cols && ((m.Cells.length : Int) == m.Rows * m.Cols) && m.Cells.all dOk
theorem mul_le32 {a b : Int} (ha : 1 ≤ a ∧ a ≤ 32) (hb : 1 ≤ b ∧ b ≤ 32) : 0 ≤ a * b ∧ a * b ≤ 1024 := by
 refine ⟨Int.mul_nonneg (by omega) (by omega), ?_⟩
 have := Int.mul_le_mul ha.2 hb.2 (by omega) (by decide : (0 : Int) ≤ 32)
 omega
theorem impl_mgood (m : TMatrix) (hl : m.Cells.length ≤ 9223372036854775807) : F_impl_IsValidMatrix m = some (mOk m) := by
 unfold F_impl_IsValidMatrix mOk
 rw [impl_dim, impl_dim]
 cases h1 : dimB m.Rows with
 | false => rfl
 | true =>
  cases h2 : dimB m.Cols with
  | false => rfl
  | true =>
   have := mul_le32 (dim_le h1) (dim_le h2)
   simp only [Option.bind_some, gb, cond_true, Bool.and_self, Bool.true_and]
   rw [wr (a := m.Rows * m.Cols) (by omega)]
   cases h3 : (m.Cells.length : Int) == m.Rows * m.Cols with
   | false => rfl
   | true =>
    simp only [cond_true]
    rw [contains_eq (p := fun x => !dOk x) hl (fun x => by unfold F_impl_IsValidMatrix_1; simp only [impl_dyadic, Option.bind_some]), any_not_all]
    simp only [Option.bind_some, Bool.not_not, Bool.true_and]
theorem m_parts {m : TMatrix} (h : mOk m = true) : ∃ (R C : Nat) (l : List TDyadic), m = TMatrix.mk R C l ∧ dimB R = true ∧ dimB C = true ∧ (1 ≤ R ∧ R ≤ 32) ∧ (1 ≤ C ∧ C ≤ 32) ∧ l.length = R * C ∧ okD l := by
 obtain ⟨r, c, l⟩ := m
 unfold mOk at h
 simp only [Bool.and_eq_true, beq_iff_eq] at h
 obtain ⟨⟨⟨h1, h2⟩, h3⟩, h4⟩ := h
 have d1 := dim_le h1
 have d2 := dim_le h2
 obtain ⟨R, rfl⟩ : ∃ k : Nat, r = k := ⟨r.toNat, by omega⟩
 obtain ⟨C, rfl⟩ : ∃ k : Nat, c = k := ⟨c.toNat, by omega⟩
 exact ⟨R, C, l, rfl, h1, h2, by omega, by omega, by exact_mod_cast h3, fun z hz => List.all_eq_true.1 h4 z hz⟩
theorem m_make {R C : Nat} {l : List TDyadic} (h1 : dimB R = true) (h2 : dimB C = true) (h3 : l.length = R * C) (h4 : okD l) : mOk (TMatrix.mk R C l) = true := by
 unfold mOk
 simp only [h1, h2, Bool.and_self, Bool.true_and, Bool.and_eq_true, beq_iff_eq]
 exact ⟨by rw [h3]; push_cast; rfl, List.all_eq_true.2 h4⟩
theorem ix_lt {R C i j : Nat} (hi : i < R) (hj : j < C) : i * C + j < R * C := by
 have : (i + 1) * C ≤ R * C := Nat.mul_le_mul_right _ hi
 rw [Nat.add_mul] at this; omega
theorem ix {R C i j : Nat} (hi : i < R) (hj : j < C) (hR : R ≤ 32) (hC : C ≤ 32) : IntKind.i64.wrap (IntKind.i64.wrap ((i : Int) * (C : Int)) + (j : Int)) = ((i * C + j : Nat) : Int) := by
 have h1 := ix_lt hi hj
 have h2 : R * C ≤ 32 * 32 := Nat.mul_le_mul hR hC
 have e : (i : Int) * (C : Int) = ((i * C : Nat) : Int) := by push_cast; rfl
 rw [e, wr (a := ((i * C : Nat) : Int)) (by omega), wr (by omega)]
 omega
def gridO (cell : Nat → Nat → Option TDyadic) (R C : Nat) : Option (List TDyadic) := forN (fun i l => forN (fun j l => (cell i j).bind fun z => some (l ++ [z])) C 0 l) R 0 []
def mmCell (a b : List TDyadic) (K C i j : Nat) : Option TDyadic := forN (dotS (fun k => a.getD (i * K + k) dZero) (fun k => b.getD (k * C + j) dZero)) K 0 dZero
def mmO (a b : List TDyadic) (R K C : Nat) : Option (List TDyadic) := gridO (mmCell a b K C) R C
def wT (b : Bool) (s : TDyadic) (k : Nat) : Bool × Int × Int × Int × Int × Int × Int := (b, s.Num.A, s.Num.B, s.Num.C, s.Num.D, s.Exp, (k : Int))
theorem grid_len {R C i j : Nat} (hi : i < R) (hj : j < C) (hR : R ≤ 32) (hC : C ≤ 32) : i * C + j + 1 ≤ 1024 := by
 have h1 := ix_lt hi hj
 have h2 : R * C ≤ 32 * 32 := Nat.mul_le_mul hR hC
 omega
theorem sp_times {R K C : Nat} {la lb : List TDyadic} (ha : okD la) (hb : okD lb) (na : la.length = R * K) (nb : lb.length = K * C) (hR : R ≤ 32) (hK : K ≤ 32) (hC : C ≤ 32) (c : Bool) :
  ∃ l c', F_spec_l2C_times (cB c) (TMatrix.mk R K la) (TMatrix.mk K C lb) = some (TMatrix.mk R C l, cB c') ∧ SR (fun l => okD l ∧ l.length = R * C) (mmO la lb R K C) c l c' := by
 have l3 : ∀ (i j : Nat) (Cells : List TDyadic) (bad b0 : Bool), i < R → j < C → ∃ z b' k', whX (F_spec_l2C_times_l3 (TMatrix.mk R K la) Cells i (TMatrix.mk K C lb) j bad) fuel (wT b0 dZero 0) = some (.inl (wT b' z k')) ∧ SR (fun z => dOk z = true) (mmCell la lb K C i j) b0 z b' := fun i j Cells bad b0 hi hj => by
  refine sr_wh (enc := wT) (G := fun z => dOk z = true) (n := K) (fun k s => ?_) (fun s => ?_) (fun k s hk hs => ?_) fuel K 0 dZero b0 (by omega) (fuel_big (by omega)) dZero_ok
  ·unfold F_spec_l2C_times_l3 wT
   simp only [Bool.not_true, Bool.and_false, cond_false]
  ·unfold F_spec_l2C_times_l3 wT
   simp only [Int.lt_irrefl, decide_false, Bool.false_and, cond_false]
  ·obtain ⟨z, b', h1, h2⟩ := dot_spec (X := fun k => la.getD (i * K + k) dZero) (Y := fun k => lb.getD (k * C + j) dZero) (fun _ => getD_ok ha _) (fun _ => getD_ok hb _) k false s hs
   obtain ⟨p, hp, h1⟩ := Option.bind_eq_some_iff.1 h1
   obtain ⟨q, hq, h1⟩ := Option.bind_eq_some_iff.1 h1
   refine ⟨z, b', ?_, h2⟩
   unfold F_spec_l2C_times_l3 wT
   simp only
   rw [decide_eq_true (show (k : Int) < (K : Int) by omega), ix hi hk hR hK, ix hk hj hK hC, gI (n := i * K + k) rfl (by rw [na]; exact ix_lt hi hk), gI (n := k * C + j) rfl (by rw [nb]; exact ix_lt hk hj)]
   simp only [Bool.not_false, Bool.and_self, cond_true, Option.bind_some]
   rw [show F_spec_l2C_mul (Tl2C.mk false) (la.getD (i * K + k) dZero) (lb.getD (k * C + j) dZero) = some p from hp]
   simp only [Option.bind_some]
   rw [show F_spec_l2C_add p.2 (TDyadic.mk (TRing.mk s.Num.A s.Num.B s.Num.C s.Num.D) s.Exp) p.1 = some q from hq]
   simp only [Option.bind_some]
   have := Option.some.inj h1
   simp only [sT, Prod.mk.injEq] at this
   obtain ⟨t0, t1, t2, t3, t4, t5⟩ := this
   rw [t0, t1, t2, t3, t4, t5, wr (a := (k : Int) + 1) (by omega)]
   rfl
 have l2 : ∀ (i : Nat) (Cells : List TDyadic) (bad b0 : Bool) (l : List TDyadic), i < R → okD l → l.length = i * C → ∃ z b', forN (F_spec_l2C_times_l2 (TMatrix.mk R K la) Cells i (TMatrix.mk K C lb) bad) C 0 (b0, l) = some (b', z) ∧ SR (fun z => okD z ∧ z.length = i * C + C) (forN (fun j l => (mmCell la lb K C i j).bind fun z => some (l ++ [z])) C 0 l) b0 z b' := fun i Cells bad b0 l hi hl hll => by
  have := sr_it (f := F_spec_l2C_times_l2 (TMatrix.mk R K la) Cells i (TMatrix.mk K C lb) bad) (enc := fun b (l : List TDyadic) => (b, l)) (G := fun j z => okD z ∧ z.length = i * C + j) (st := fun j l => (mmCell la lb K C i j).bind fun z => some (l ++ [z])) (n := C) (fun j b1 s hj hs => ?_) C 0 l b0 (by omega) ⟨hl, by omega⟩
  ·rw [Nat.zero_add] at this; exact this
  ·obtain ⟨z, b', k', h1, h2⟩ := l3 i j Cells bad b1 hi hj
   refine ⟨s ++ [z], b', ?_, h2.bind (SR.pure ⟨okD_snoc hs.1 h2.1, by simp; omega⟩)⟩
   unfold F_spec_l2C_times_l2
   simp only
   rw [show whX (F_spec_l2C_times_l3 (TMatrix.mk R K la) Cells i (TMatrix.mk K C lb) j bad) fuel (b1, 0, 0, 0, 0, 0, 0) = _ from h1]
   simp only [wT, Option.bind_some, orR]
   have := grid_len hi hj hR hC
   rw [chk_t (by omega)]
 obtain ⟨z, b', h1, h2⟩ := sr_it (f := F_spec_l2C_times_l1 (TMatrix.mk K C lb) (TMatrix.mk R K la)) (enc := fun b (l : List TDyadic) => (b, l)) (G := fun i z => okD z ∧ z.length = i * C) (st := fun i l => forN (fun j l => (mmCell la lb K C i j).bind fun z => some (l ++ [z])) C 0 l) (n := R) (fun i b1 s hi hs => by
  obtain ⟨z, b', h1, h2⟩ := l2 i s b1 b1 s hi hs.1 hs.2
  refine ⟨z, b', ?_, h2.mono (fun h => ⟨h.1, by rw [Nat.add_mul]; omega⟩)⟩
  unfold F_spec_l2C_times_l1
  simp only [Int.toNat_natCast]
  rw [chk_t (by omega), h1]; rfl) R 0 [] c (by omega) ⟨fun _ h => (by cases h), by simp⟩
 refine ⟨z, b', ?_, h2.mono (fun h => ⟨h.1, by simpa using h.2⟩)⟩
 unfold F_spec_l2C_times
 simp only [Int.toNat_natCast]
 rw [chk_t (by omega), show forN (F_spec_l2C_times_l1 (TMatrix.mk K C lb) (TMatrix.mk R K la)) R 0 ((cB c).bad, []) = _ from h1]
 rfl
def mR (R C : Nat) (o : Option (List TDyadic)) : TMatrix × Bool := match o with | some l => (TMatrix.mk R C l, true) | none => (TMatrix.mk 0 0 [], false)
theorem im_matrixOf {R C : Nat} {cell : Int → Int → Option (TDyadic × Bool)} {cellO : Nat → Nat → Option TDyadic} (dR' : dimB R = true) (dC : dimB C = true) (hR : R ≤ 32) (hC : C ≤ 32)
  (hcell : ∀ i j : Nat, i < R → j < C → cell i j = some (dR (cellO i j)) ∧ ∀ z, cellO i j = some z → dOk z = true) :
  F_impl_matrixOf R C cell = some (mR R C (gridO cellO R C)) ∧ ∀ l, gridO cellO R C = some l → okD l ∧ l.length = R * C := by
 have l2 : ∀ (i : Nat) (l : List TDyadic), i < R → okD l → l.length = i * C → forX (F_impl_matrixOf_l2 cell i) C 0 l = some (exO id (.rt (TMatrix.mk 0 0 [], false)) (forN (fun j l => (cellO i j).bind fun z => some (l ++ [z])) C 0 l)) ∧
   ∀ z, forN (fun j l => (cellO i j).bind fun z => some (l ++ [z])) C 0 l = some z → okD z ∧ z.length = i * C + C := fun i l hi hl hll => by
  have := im_it (g := F_impl_matrixOf_l2 cell i) (enc := id) (G := fun j z => okD z ∧ z.length = i * C + j) (st := fun j l => (cellO i j).bind fun z => some (l ++ [z])) (R := Ex.rt (TMatrix.mk 0 0 [], false)) (n := C) (fun j s hj hs => ?_) C 0 l (by omega) ⟨hl, by omega⟩
  ·rw [Nat.zero_add] at this; exact this
  ·obtain ⟨h1, h2⟩ := hcell i j hi hj
   unfold F_impl_matrixOf_l2
   simp only [id, h1, Option.bind_some]
   cases hc : cellO i j with
   | none => exact ⟨rfl, fun z hz => by cases hz⟩
   | some z =>
    simp only [dR, Bool.not_true, cond_false, Option.bind_some]
    have := grid_len hi hj hR hC
    rw [chk_t (by omega)]
    exact ⟨rfl, fun z' hz => by cases hz; exact ⟨okD_snoc hs.1 (h2 z hc), by simp; omega⟩⟩
 obtain ⟨h1, h2⟩ := im_it (g := F_impl_matrixOf_l1 C cell) (enc := id) (G := fun i z => okD z ∧ z.length = i * C) (st := fun i l => forN (fun j l => (cellO i j).bind fun z => some (l ++ [z])) C 0 l) (R := (TMatrix.mk 0 0 [], false)) (n := R) (fun i s hi hs => by
  obtain ⟨h1, h2⟩ := l2 i s hi hs.1 hs.2
  unfold F_impl_matrixOf_l1
  simp only [id, Int.toNat_natCast]
  rw [chk_t (by omega), h1]
  cases hc : forN (fun j l => (cellO i j).bind fun z => some (l ++ [z])) C 0 s with
  | none => exact ⟨rfl, fun z hz => by cases hz⟩
  | some z => exact ⟨rfl, fun z' hz => by cases hz; obtain ⟨q1, q2⟩ := h2 z hc; exact ⟨q1, by rw [Nat.add_mul]; omega⟩⟩) R 0 [] (by omega) ⟨fun _ h => (by cases h), by simp⟩
 refine ⟨?_, fun l hl => by have := h2 l hl; simpa using this⟩
 unfold F_impl_matrixOf
 rw [impl_dim, impl_dim, dR', dC]
 simp only [Option.bind_some, gb, Bool.not_true, Bool.not_false, cond_true, Bool.or_self, cond_false, Int.toNat_natCast]
 rw [chk_t (by omega), show forX (F_impl_matrixOf_l1 C cell) R 0 [] = _ from h1]
 unfold gridO
 cases forN (fun i l => forN (fun j l => (cellO i j).bind fun z => some (l ++ [z])) C 0 l) R 0 [] <;> rfl
theorem im_at {R C : Nat} {l : List TDyadic} {i j : Nat} (hi : i < R) (hj : j < C) (hR : R ≤ 32) (hC : C ≤ 32) (hl : l.length = R * C) : F_impl_Matrix_at (TMatrix.mk R C l) i j = some (l.getD (i * C + j) dZero) := by
 unfold F_impl_Matrix_at
 simp only
 rw [ix hi hj hR hC, gI (n := i * C + j) rfl (by rw [hl]; exact ix_lt hi hj)]
 rfl
theorem im_mul {R K C : Nat} {la lb : List TDyadic} (ma : mOk (TMatrix.mk R K la) = true) (mb : mOk (TMatrix.mk K C lb) = true) :
  F_impl_MulMatrix (TMatrix.mk R K la) (TMatrix.mk K C lb) = some (mR R C (mmO la lb R K C)) ∧ ∀ l, mmO la lb R K C = some l → okD l ∧ l.length = R * C := by
 obtain ⟨R', K', la', e, a1, a2, a3, a4, a5, a6⟩ := m_parts ma
 obtain ⟨h, h', rfl⟩ := TMatrix.mk.inj e
 obtain rfl : R = R' := by omega
 obtain rfl : K = K' := by omega
 obtain ⟨K', C', lb', e, b1, b2, b3, b4, b5, b6⟩ := m_parts mb
 obtain ⟨h, h', rfl⟩ := TMatrix.mk.inj e
 obtain rfl : K = K' := by omega
 obtain rfl : C = C' := by omega
 have l5 : la.length ≤ 1024 := by rw [a5]; exact Nat.mul_le_mul a3.2 a4.2
 have l6 : lb.length ≤ 1024 := by rw [b5]; exact Nat.mul_le_mul b3.2 b4.2
 have hc : ∀ i j : Nat, i < R → j < C → F_impl_MulMatrix_1 i j (TMatrix.mk R K la) (TMatrix.mk K C lb) = some (dR (mmCell la lb K C i j)) ∧ ∀ z, mmCell la lb K C i j = some z → dOk z = true := fun i j hi hj => by
  obtain ⟨h1, h2⟩ := im_it (g := F_impl_MulMatrix_1_l1 (TMatrix.mk R K la) i (TMatrix.mk K C lb) j) (enc := iT) (G := fun _ z => dOk z = true) (st := dotS (fun k => la.getD (i * K + k) dZero) (fun k => lb.getD (k * C + j) dZero)) (R := (dZero, false)) (n := K) (fun k s hk hs => by
   have := dot_impl (X := fun k => la.getD (i * K + k) dZero) (Y := fun k => lb.getD (k * C + j) dZero) (fun _ => getD_ok a6 _) (fun _ => getD_ok b6 _) (dZero, false) k s hs
   refine ⟨?_, this.2⟩
   rw [← this.1]
   unfold F_impl_MulMatrix_1_l1 iT
   simp only
   rw [im_at hi hk a3.2 a4.2 a5, im_at hk hj b3.2 b4.2 b5]
   rfl) K 0 dZero (by omega) dZero_ok
  refine ⟨?_, h2⟩
  unfold F_impl_MulMatrix_1
  simp only [Int.toNat_natCast]
  rw [chk_t (by omega), show forX (F_impl_MulMatrix_1_l1 (TMatrix.mk R K la) i (TMatrix.mk K C lb) j) K 0 (0, 0, 0, 0, 0) = _ from h1]
  unfold mmCell
  cases forN (dotS (fun k => la.getD (i * K + k) dZero) (fun k => lb.getD (k * C + j) dZero)) K 0 dZero <;> rfl
 obtain ⟨h1, h2⟩ := im_matrixOf (cell := fun x_0 x_1 => F_impl_MulMatrix_1 x_0 x_1 (TMatrix.mk R K la) (TMatrix.mk K C lb)) (cellO := mmCell la lb K C) a1 b2 a3.2 b4.2 hc
 refine ⟨?_, h2⟩
 unfold F_impl_MulMatrix
 rw [impl_mgood _ (by simp only; omega), impl_mgood _ (by simp only; omega), ma, mb]
 simp only [Option.bind_some, gb, Bool.not_true, Bool.not_false, cond_true, Bool.or_self, Bool.false_or, bne_self_eq_false, cond_false]
 rw [h1]; rfl

theorem forN_eq {σ : Type} {f g : Nat → σ → Option σ} {G : Nat → σ → Prop} {n : Nat} (h : ∀ k s, k < n → G k s → f k s = g k s ∧ ∀ z, g k s = some z → G (k + 1) z) :
  ∀ (m i : Nat) (s : σ), i + m ≤ n → G i s → forN f m i s = forN g m i s
 | 0, _, _, _, _ => rfl
 | m + 1, i, s, hm, hG => by
  obtain ⟨h1, h2⟩ := h i s (by omega) hG
  simp only [forN, h1]
  cases hs : g i s with
  | none => rfl
  | some z => simp only [Option.bind_some]; exact forN_eq h m (i + 1) z (by omega) (h2 z hs)
/-- A row of cells that are all there. -/
theorem grid_pure {f : Nat → Nat → TDyadic} (R C : Nat) (hf : ∀ i j, i < R → j < C → dOk (f i j) = true) : ∃ l, gridO (fun i j => some (f i j)) R C = some l ∧ okD l ∧ l.length = R * C := by
 obtain ⟨l, h1, h2, h3⟩ := forN_inv (f := fun i l => forN (fun j l => (some (f i j)).bind fun z => some (l ++ [z])) C 0 l) (fun i z => okD z ∧ z.length = i * C) R 0 [] ⟨fun _ h => (by cases h), by simp⟩ (fun i s _ hi hs => by
  obtain ⟨l, h1, h2, h3⟩ := forN_inv (f := fun j l => (some (f i j)).bind fun z => some (l ++ [z])) (fun j z => okD z ∧ z.length = i * C + j) C 0 s ⟨hs.1, by rw [hs.2]; rfl⟩ (fun j s _ hj hs => ⟨_, rfl, okD_snoc hs.1 (hf i j (by omega) (by omega)), by simp [hs.2]; omega⟩)
  exact ⟨l, h1, h2, by rw [h3, Nat.add_mul]; omega⟩)
 exact ⟨l, h1, h2, by simpa using h3⟩
def unitL (n : Nat) : List TDyadic := (List.range (n * n)).map fun p => if p / n = p % n then dOne else dZero
theorem unit_spec : ∀ n ∈ [1, 2, 4, 8, 16, 32], F_spec_l3Unit ((n : Nat) : Int) = some (TMatrix.mk (n : Nat) (n : Nat) (unitL n)) := by decide +kernel
theorem unit_impl : ∀ n ∈ [1, 2, 4, 8, 16, 32], F_impl_IdentityMatrix ((n : Nat) : Int) = some (TMatrix.mk (n : Nat) (n : Nat) (unitL n), true) := by decide +kernel
theorem dim_mem {n : Nat} (h : dimB (n : Int) = true) : n ∈ [1, 2, 4, 8, 16, 32] := by
 unfold dimB at h
 simp only [List.any_cons, List.any_nil, Bool.or_false, Bool.or_eq_true, beq_iff_eq] at h
 simp only [List.mem_cons, List.not_mem_nil, or_false]
 omega
theorem unit_len (n : Nat) : (unitL n).length = n * n := by simp [unitL]
theorem unit_ok (n : Nat) : okD (unitL n) := fun z hz => by
 simp only [unitL, List.mem_map] at hz
 obtain ⟨p, _, rfl⟩ := hz
 split
 ·decide
 ·decide
theorem spec_meq {R C : Nat} {l l' : List TDyadic} (h : l.length = R * C) (h' : l'.length = R * C) (hR : R ≤ 32) (hC : C ≤ 32) : F_spec_EqualMatrices (TMatrix.mk R C l) (TMatrix.mk R C l') = some (decide (l = l')) := by
 have : R * C ≤ 32 * 32 := Nat.mul_le_mul hR hC
 unfold F_spec_EqualMatrices
 simp only [bne_self_eq_false, Bool.or_self, Bool.false_or, h, h', cond_false]
 rw [chk_t (by omega), ← h, forX_same (f := F_spec_EqualMatrices_l1 (TMatrix.mk R C l) (TMatrix.mk R C l')) (l := l) (l' := l') (q := false) (by omega) (fun i x y hx hy => by
  unfold F_spec_EqualMatrices_l1
  simp only [getI_nat, hx, hy, Option.bind_some, dy_eq, bs])]
 by_cases h : l = l'
 ·rw [if_pos h, decide_eq_true h]; rfl
 ·rw [if_neg h, decide_eq_false h]; rfl
def rIt : Nat → TRing → TRing
 | 0, x => x
 | k + 1, x => rIt k (rRoot x)
/-- What a sum is, taken by eight. -/
def m8 (x : Int) : Int := Int.tmod (IntKind.i64.wrap ((Int.tmod x 8) + 8)) 8
theorem m8_eq {x : Int} (h : -1000000 ≤ x ∧ x ≤ 1000000) : m8 x = x % 8 := by
 unfold m8
 by_cases h0 : 0 ≤ x
 ·rw [Int.tmod_eq_emod_of_nonneg h0, wrap_i64 ⟨by omega, by omega⟩, Int.tmod_eq_emod_of_nonneg (by omega)]
  omega
 ·obtain ⟨y, rfl⟩ : ∃ y, x = -y := ⟨-x, by omega⟩
  rw [Int.neg_tmod, Int.tmod_eq_emod_of_nonneg (show 0 ≤ y by omega), wrap_i64 ⟨by omega, by omega⟩, Int.tmod_eq_emod_of_nonneg (by omega)]
  omega
theorem coef_eq (k : Int) : F_spec_l13Coef k = F_impl_rotationCoef k := rfl
theorem coef_le (k : Int) : ∃ r, F_impl_rotationCoef k = some r ∧ 0 ≤ r ∧ r ≤ 7 := by
 unfold F_impl_rotationCoef
 cases k == 4 <;> cases k == 5 <;> cases k == 6 <;> cases k == 7 <;> cases k == 8 <;> exact ⟨_, rfl, by omega, by omega⟩
/-- The two tables of sums say the same: B as it runs, S taken by eight, with a bound. -/
def Same (N : Nat) (z : Int) (B S : List Int) : Prop :=
 B.length = N ∧ S.length = 32 ∧ N ≤ 32 ∧ (∀ (j : Nat) (x : Int), B[j]? = some x → -z ≤ x ∧ x ≤ z ∧ S[j]? = some (x % 8)) ∧ ∀ j, N ≤ j → j < 32 → S[j]? = some 0
theorem Same.mono {N : Nat} {z z' : Int} {B S : List Int} (h : Same N z B S) (hz : z ≤ z') : Same N z' B S :=
 ⟨h.1, h.2.1, h.2.2.1, fun j x hx => ⟨by have := (h.2.2.2.1 j x hx).1; omega, Int.le_trans (h.2.2.2.1 j x hx).2.1 hz, (h.2.2.2.1 j x hx).2.2⟩, h.2.2.2.2⟩
theorem Same.add {N : Nat} {z : Int} {B S : List Int} (h : Same N z B S) (hz : z ≤ 100000) {i d : Int} (h0 : 0 ≤ i) (h1 : i < N) (hd : -28 ≤ d ∧ d ≤ 28) :
  ∃ x, getI B i = some x ∧ F_impl_coefficients_add S i d = some (S.set i.toNat ((x + d) % 8)) ∧ IntKind.i64.wrap (x + d) = x + d ∧ Same N (z + 28) (B.set i.toNat (IntKind.i64.wrap (x + d))) (S.set i.toNat ((x + d) % 8)) := by
 obtain ⟨hB, hS, hN, hj, ho⟩ := h
 obtain ⟨x, hx, hx'⟩ := getI_at h0 (show i < B.length by omega)
 obtain ⟨x0, xz, xs⟩ := hj _ _ hx'
 have hw : IntKind.i64.wrap (x + d) = x + d := wrap_i64 ⟨by omega, by omega⟩
 have hs : getI S i = some (x % 8) := by unfold getI; rw [if_pos h0, xs]
 refine ⟨x, hx, ?_, hw, by simpa using hB, by simpa using hS, hN, ?_, ?_⟩
 ·unfold F_impl_coefficients_add
  rw [hs]
  simp only [Option.bind_some]
  rw [wrap_i64 (a := x % 8 + d) ⟨by omega, by omega⟩]
  have := m8_eq (x := x % 8 + d) ⟨by omega, by omega⟩
  unfold m8 at this
  rw [this, show (x % 8 + d) % 8 = (x + d) % 8 by omega]
 ·intro j y hy
  rw [List.getElem?_set] at hy ⊢
  by_cases e : i.toNat = j
  ·subst e
   rw [if_pos rfl] at hy ⊢
   rw [if_pos (by omega)] at hy ⊢
   cases hy
   rw [hw]
   exact ⟨by omega, by omega, rfl⟩
  ·rw [if_neg e] at hy ⊢
   have := hj j y hy
   exact ⟨by omega, by omega, this.2.2⟩
 ·intro j hj1 hj2
  rw [List.getElem?_set, if_neg (by omega)]
  exact ho j hj1 hj2
/-- The two lists of terms. -/
theorem terms_eq {N : Nat} {z : Int} {B S : List Int} (h : Same N z B S) (hz : z ≤ 100000) : ∃ l, F_spec_l13List B = some l ∧ F_impl_coefficients_terms S = some l ∧ l.length ≤ 32 := by
 obtain ⟨hB, hS, hN, hj, ho⟩ := h
 unfold F_spec_l13List F_impl_coefficients_terms
 rw [chk_t (by omega)]
 have step : ∀ (i : Nat) (x : Int) (out : List TTerm), out.length ≤ i → i < 32 → S[i]? = some (x % 8) → ∃ out', F_impl_coefficients_terms_l1 S i out = some out' ∧ out'.length ≤ i + 1 ∧
   out' = (bif decide (0 < (i : Int)) && decide (0 < x % 8) then out ++ [TTerm.mk (i : Int) (x % 8)] else out) := fun i x out hl hi hx => by
  unfold F_impl_coefficients_terms_l1
  simp only [getI_nat, hx, Option.bind_some]
  cases decide (0 < (i : Int)) && decide (0 < x % 8)
  ·exact ⟨out, rfl, by omega, rfl⟩
  ·simp only [cond_true]
   rw [chk_t (by omega)]
   exact ⟨_, rfl, by simp; omega, rfl⟩
 obtain ⟨l, l', h1, h2, h3, h4⟩ := forN2_inv (f := F_spec_l13List_l1 B) (g := F_impl_coefficients_terms_l1 S) (fun i s t => s = t ∧ s.length ≤ i) N 0 [] [] ⟨rfl, Nat.le_refl _⟩ (fun i s t _ hi ⟨hst, hl⟩ => by
  subst hst
  have hi : i < N := by omega
  have hx := List.getElem?_eq_getElem (show i < B.length by omega)
  obtain ⟨x0, xz, xs⟩ := hj _ _ hx
  obtain ⟨out', e1, e2, e3⟩ := step i _ s hl (by omega) xs
  refine ⟨out', out', ?_, e1, rfl, e2⟩
  unfold F_spec_l13List_l1
  simp only [getI_nat, hx, Option.bind_some]
  have := m8_eq (x := B[i]) ⟨by omega, by omega⟩
  unfold m8 at this
  rw [this, e3]
  cases decide (0 < (i : Int)) && decide (0 < B[i] % 8)
  ·rfl
  ·simp only [cond_true]
   rw [chk_t (by omega)]
   rfl)
 rw [← h3] at h2
 obtain ⟨l'', h5, h6⟩ := forN_inv (f := F_impl_coefficients_terms_l1 S) (fun i s => s = l) (32 - N) N l rfl (fun i s hi1 hi2 hs => by
  subst hs
  refine ⟨s, ?_, rfl⟩
  unfold F_impl_coefficients_terms_l1
  have := ho i hi1 (by omega)
  simp only [getI_nat, this, Option.bind_some]
  simp)
 rw [h6] at h5
 have h7 : forN (F_impl_coefficients_terms_l1 S) 32 0 [] = some l := by
  have : ∀ (k i : Nat) (s r : List TTerm), forN (F_impl_coefficients_terms_l1 S) k i s = some r → forN (F_impl_coefficients_terms_l1 S) (k + (32 - N)) i s = forN (F_impl_coefficients_terms_l1 S) (32 - N) (i + k) r := by
   intro k
   induction k with
   | zero => intro i s r h; cases h; simp
   | succ k ih =>
    intro i s r h
    obtain ⟨s', a1, a2⟩ := forN_go h
    rw [show k + 1 + (32 - N) = k + (32 - N) + 1 by omega]
    show (F_impl_coefficients_terms_l1 S i s).bind _ = _
    rw [a1]
    simp only [Option.bind_some]
    rw [ih _ _ _ a2, show i + 1 + k = i + (k + 1) by omega]
  have := this N 0 [] l h2
  rw [show N + (32 - N) = 32 by omega] at this
  rw [this, Nat.zero_add, h5]
 rw [hB, h1, h7]
 exact ⟨l, rfl, rfl, by omega⟩

/-- The exclusive or of two small numbers. -/
theorem xor_nat {a b : Nat} (ha : a < 32) (hb : b < 32) : bits .xor .i64 (a : Int) (b : Int) = ((a ^^^ b : Nat) : Int) := by
 have h1 : a ^^^ b < 2 ^ 5 := Nat.xor_lt_two_pow ha hb
 show IntKind.i64.wrap ((BitVec.ofInt 64 (a : Int) ^^^ BitVec.ofInt 64 (b : Int)).toNat : Int) = _
 have e1 : BitVec.ofInt 64 (a : Int) = BitVec.ofNat 64 a := rfl
 have e2 : BitVec.ofInt 64 (b : Int) = BitVec.ofNat 64 b := rfl
 rw [e1, e2, BitVec.toNat_xor, BitVec.toNat_ofNat, BitVec.toNat_ofNat, Nat.mod_eq_of_lt (by omega), Nat.mod_eq_of_lt (by omega)]
 exact wrap_i64 ⟨by omega, by omega⟩
/-- The rows of a map over n wires, each a number below N. -/
def RowsOk (n N : Nat) (R : List Int) : Prop := R.length = n ∧ ∀ x ∈ R, 0 ≤ x ∧ x < N
theorem RowsOk.get {n N : Nat} {R : List Int} (h : RowsOk n N R) {i : Int} (h0 : 0 ≤ i) (h1 : i < n) : ∃ x : Nat, getI R i = some (x : Int) ∧ x < N := by
 obtain ⟨x, hx, hx'⟩ := getI_at h0 (show i < R.length by rw [h.1]; exact h1)
 have := h.2 x (List.mem_of_getElem? hx')
 exact ⟨x.toNat, by rw [hx]; congr 1; omega, by omega⟩
theorem RowsOk.set {n N : Nat} {R : List Int} (h : RowsOk n N R) (i : Nat) {x : Nat} (hx : x < N) : RowsOk n N (R.set i (x : Int)) :=
 ⟨by rw [List.length_set]; exact h.1, fun y hy => by
  rcases List.mem_or_eq_of_mem_set hy with hy | rfl
  ·exact h.2 y hy
  ·omega⟩
theorem getI_setI {R : List Int} {i j y : Int} (h0 : 0 ≤ i) (hj : 0 ≤ j) (hij : i ≠ j) : getI (R.set i.toNat y) j = getI R j := by
 unfold getI
 rw [if_pos hj, if_pos hj, List.getElem?_set_ne (by omega)]
theorem getI_setI' {R : List Int} {i y x : Int} (h : getI R i = some x) : getI (R.set i.toNat y) i = some y := getI_set h
theorem cx_eq {R : List Int} {a b : Int} {x y : Int} (hl : R.length ≤ 32) (hb : getI R b = some x) (ha : getI R a = some y) : F_spec_l12CX (TLinear.mk R) a b = some (TLinear.mk (R.set b.toNat (bits .xor .i64 x y))) := by
 unfold F_spec_l12CX F_spec_l1Own
 rw [chk_t (show 0 + R.length ≤ 1099511627776 by omega)]
 simp only [Option.bind_some, hb, ha]
theorem set_comm3 {R : List Int} {i j : Nat} (h : i ≠ j) (a b c : Int) : ((R.set i a).set j b).set i c = (R.set j b).set i c := by
 rw [List.set_comm _ _ h, List.set_set, List.set_comm _ _ (Ne.symm h)]
/-- Three additions of one wire to another change the two. -/
theorem swap_eq {n N : Nat} {R : List Int} (h : RowsOk n N R) (hN : N ≤ 32) (hn : n ≤ 5) {k : Nat} (hk : N = 2 ^ k) {a b : Int} (a0 : 0 ≤ a) (a1 : a < n) (b0 : 0 ≤ b) (b1 : b < n) (hab : a ≠ b) :
  ∃ x y : Nat, getI R b = some (x : Int) ∧ getI R a = some (y : Int) ∧ x < N ∧ y < N ∧ ((F_spec_l12CX (TLinear.mk R) a b).bind fun r5 => (F_spec_l12CX r5 b a).bind fun r6 => F_spec_l12CX r6 a b) = some (TLinear.mk ((R.set a.toNat (x : Int)).set b.toNat (y : Int))) := by
 obtain ⟨x, hx, hxN⟩ := h.get b0 b1
 obtain ⟨y, hy, hyN⟩ := h.get a0 a1
 have hl := h.1
 refine ⟨x, y, hx, hy, hxN, hyN, ?_⟩
 have hxy : x ^^^ y < 32 := by have : x ^^^ y < 2 ^ 5 := Nat.xor_lt_two_pow (by omega) (by omega); omega
 rw [cx_eq (by omega) hx hy, xor_nat (by omega) (by omega)]
 simp only [Option.bind_some]
 rw [cx_eq (x := (y : Int)) (y := ((x ^^^ y : Nat) : Int)) (by simp; omega) (by rw [getI_setI b0 a0 (Ne.symm hab)]; exact hy) (getI_setI' hx), xor_nat (by omega) hxy]
 have e1 : y ^^^ (x ^^^ y) = x := by rw [Nat.xor_comm x y, ← Nat.xor_assoc, Nat.xor_self, Nat.zero_xor]
 rw [e1]
 simp only [Option.bind_some]
 rw [cx_eq (x := ((x ^^^ y : Nat) : Int)) (y := (x : Int)) (by simp; omega) (by rw [getI_setI a0 b0 hab]; exact getI_setI' hx) (getI_setI' (x := (y : Int)) (by rw [getI_setI b0 a0 (Ne.symm hab)]; exact hy)), xor_nat hxy (by omega)]
 have e2 : (x ^^^ y) ^^^ x = y := by rw [Nat.xor_comm x y, Nat.xor_assoc, Nat.xor_self, Nat.xor_zero]
 rw [e2, set_comm3 (by omega)]
/-- The two identities. -/
theorem ident {n : Int} (hn : 1 ≤ n ∧ n ≤ 5) : ∃ R, F_spec_l12Identity n = some (TLinear.mk R) ∧ F_impl_identityLinear n = some (TLinear.mk R) ∧ RowsOk n.toNat (2 ^ n.toNat) R ∧
  (0 : Int) ≤ IntKind.u64.wrap n ∧ shlK .i64 1 (IntKind.u64.wrap n) = ((2 ^ n.toNat : Nat) : Int) := by
 have : n = 1 ∨ n = 2 ∨ n = 3 ∨ n = 4 ∨ n = 5 := by omega
 rcases this with rfl | rfl | rfl | rfl | rfl
 ·exact ⟨[1], by decide, by decide, ⟨by decide, by decide⟩, by decide, by decide⟩
 ·exact ⟨[1, 2], by decide, by decide, ⟨by decide, by decide⟩, by decide, by decide⟩
 ·exact ⟨[1, 2, 4], by decide, by decide, ⟨by decide, by decide⟩, by decide, by decide⟩
 ·exact ⟨[1, 2, 4, 8], by decide, by decide, ⟨by decide, by decide⟩, by decide, by decide⟩
 ·exact ⟨[1, 2, 4, 8, 16], by decide, by decide, ⟨by decide, by decide⟩, by decide, by decide⟩

theorem fuelB {n : Nat} (h : n < 18446744073709551616) : n < fuel := h
def Sp : List Nat → Nat → Prop
 | [], v => v = 0
 | x :: t, v => Sp t v ∨ Sp t (v ^^^ x)
theorem xx (a b : Nat) : a ^^^ b ^^^ b = a := by rw [Nat.xor_assoc, Nat.xor_self, Nat.xor_zero]
theorem xr (a b c : Nat) : a ^^^ b ^^^ c = a ^^^ c ^^^ b := by rw [Nat.xor_assoc, Nat.xor_comm b c, ← Nat.xor_assoc]
theorem sp_zero : ∀ L, Sp L 0
 | [] => rfl
 | _ :: t => .inl (sp_zero t)
theorem sp_close : ∀ {L : List Nat} {y v : Nat}, y ∈ L → Sp L v → Sp L (v ^^^ y)
 | z :: t, y, v, hy, hv => by
  rcases List.mem_cons.1 hy with rfl | hy
  ·rcases hv with h | h
   ·exact .inr (by rw [xx]; exact h)
   ·exact .inl h
  ·rcases hv with h | h
   ·exact .inl (sp_close hy h)
   ·exact .inr (by rw [xr]; exact sp_close hy h)
theorem sp_sub : ∀ {L L' : List Nat}, (∀ y ∈ L, y ∈ L') → ∀ {v : Nat}, Sp L v → Sp L' v
 | [], L', _, v, h => by
  have : v = 0 := h
  rw [this]; exact sp_zero L'
 | y :: t, L', hs, v, h => by
  rcases h with h | h
  ·exact sp_sub (fun z hz => hs z (List.mem_cons_of_mem _ hz)) h
  ·have := sp_close (hs y (List.mem_cons_self ..)) (sp_sub (fun z hz => hs z (List.mem_cons_of_mem _ hz)) h)
   rwa [xx] at this
def red (b x y : Nat) : Nat := if y.testBit b then y ^^^ x else y
theorem red_bit {b x : Nat} (hx : x.testBit b = true) (y : Nat) : (red b x y).testBit b = false := by
 unfold red
 cases h : y.testBit b with
 | true => simp [Nat.testBit_xor, h, hx]
 | false => simp [h]
theorem sp_r1 {b x : Nat} (hx : x.testBit b = true) : ∀ {L : List Nat} {v : Nat}, Sp (L.map (red b x)) v → v.testBit b = false
 | [], v, h => by
  have : v = 0 := h
  rw [this, Nat.zero_testBit]
 | y :: t, v, h => by
  rcases h with h | h
  ·exact sp_r1 hx h
  ·have h1 := sp_r1 hx h
   rw [Nat.testBit_xor, red_bit hx y] at h1
   simpa using h1
theorem sp_r2 {b x : Nat} : ∀ {L : List Nat} {v : Nat}, Sp (L.map (red b x)) v → Sp L v ∨ Sp L (v ^^^ x)
 | [], v, h => .inl h
 | y :: t, v, h => by
  rcases h with h | h
  ·rcases sp_r2 h with h | h
   ·exact .inl (.inl h)
   ·exact .inr (.inl h)
  ·unfold red at h
   split at h
   ·rcases sp_r2 h with h | h
    ·exact .inr (.inr (by rw [← Nat.xor_assoc, xr] at h; exact h))
    ·exact .inl (.inr (by rw [← Nat.xor_assoc, xx] at h; exact h))
   ·rcases sp_r2 h with h | h
    ·exact .inl (.inr h)
    ·exact .inr (.inr (by rw [xr]; exact h))
theorem sp_r3 {b x : Nat} : ∀ {L : List Nat} {v : Nat}, Sp L v → Sp (L.map (red b x)) v ∨ Sp (L.map (red b x)) (v ^^^ x)
 | [], v, h => .inl h
 | y :: t, v, h => by
  have key : ∀ u, (Sp (t.map (red b x)) (u ^^^ red b x y) → Sp ((y :: t).map (red b x)) u) := fun u hu => .inr hu
  rcases h with h | h
  ·rcases sp_r3 (b := b) (x := x) h with h | h
   ·exact .inl (.inl h)
   ·exact .inr (.inl h)
  ·rcases sp_r3 (b := b) (x := x) h with h | h
   ·by_cases hb : y.testBit b = true
    ·refine .inr (key _ ?_)
     unfold red; rw [if_pos hb, ← Nat.xor_assoc, xr (v ^^^ x), xx]; exact h
    ·refine .inl (key _ ?_)
     unfold red; rw [if_neg hb]; exact h
   ·by_cases hb : y.testBit b = true
    ·refine .inl (key _ ?_)
     unfold red; rw [if_pos hb, ← Nat.xor_assoc]; exact h
    ·refine .inr (key _ ?_)
     unfold red; rw [if_neg hb, xr]; exact h
theorem sp_red {b x : Nat} (hx : x.testBit b = true) {L : List Nat} {v : Nat} : Sp (L.map (red b x)) v ↔ Sp (x :: L) v ∧ v.testBit b = false := by
 constructor
 ·intro h; exact ⟨sp_r2 h, sp_r1 hx h⟩
 ·rintro ⟨h, hv⟩
  have no : ∀ {u : Nat}, u.testBit b = false → ¬ Sp (L.map (red b x)) (u ^^^ x) := fun hu h => by
   have := sp_r1 hx h
   rw [Nat.testBit_xor, hu, hx] at this
   simp at this
  rcases h with h | h
  ·rcases sp_r3 (b := b) (x := x) h with h | h
   ·exact h
   ·exact absurd h (no hv)
  ·rcases sp_r3 (b := b) (x := x) h with h | h
   ·exact absurd h (no hv)
   ·rw [xx] at h; exact h
theorem sp_none {b : Nat} : ∀ {L : List Nat} {v : Nat}, (∀ y ∈ L, y.testBit b = false) → Sp L v → v.testBit b = false
 | [], v, _, h => by
  have : v = 0 := h
  rw [this, Nat.zero_testBit]
 | y :: t, v, hn, h => by
  have hy := hn y (List.mem_cons_self ..)
  have ht : ∀ z ∈ t, z.testBit b = false := fun z hz => hn z (List.mem_cons_of_mem _ hz)
  rcases h with h | h
  ·exact sp_none ht h
  ·have := sp_none ht h
   rw [Nat.testBit_xor, hy] at this
   simpa using this
theorem sp_mem {L : List Nat} {y : Nat} (h : y ∈ L) : Sp L y := by
 have := sp_close h (sp_zero L)
 rwa [Nat.zero_xor] at this
/-- Small numbers as words. -/
def cI (l : List Nat) : List Int := l.map fun (x : Nat) => (x : Int)
theorem cI_len (l : List Nat) : (cI l).length = l.length := by simp [cI]
theorem cI_get {l : List Nat} {i x : Nat} (h : l[i]? = some x) : getI (cI l) (i : Int) = some (x : Int) := by
 rw [getI_nat]; simp [cI, h]
theorem cI_set (l : List Nat) (i x : Nat) : (cI l).set i (x : Int) = cI (l.set i x) := by simp [cI]
def sm5 (l : List Nat) : Prop := ∀ x ∈ l, x < 32
theorem xor32 {a b : Nat} (ha : a < 32) (hb : b < 32) : a ^^^ b < 32 := by
 have : a ^^^ b < 2 ^ 5 := Nat.xor_lt_two_pow ha hb
 omega
theorem tb_small : ∀ (x : Fin 32) (b : Fin 10), ((bits .and .i64 (shrK .i64 (x.val : Int) (b.val : Int)) 1) == 1) = x.val.testBit b.val := by decide +kernel
theorem tb {x b : Nat} (hx : x < 32) (hb : b < 10) : ((bits .and .i64 (shrK .i64 (x : Int) (b : Int)) 1) == 1) = x.testBit b := tb_small ⟨x, hx⟩ ⟨b, hb⟩
theorem wru' {a : Nat} (h : a < 1000) : IntKind.u64.wrap (a : Int) = (a : Int) := by
 simp [IntKind.wrap, IntKind.signed, IntKind.bits]
 omega
theorem red32 {b x y : Nat} (hx : x < 32) (hy : y < 32) : red b x y < 32 := by
 unfold red
 split
 ·exact xor32 hy hx
 ·exact hy
/-- The specification looks for a row. -/
theorem rank_find {r1 : List Int} {l : List Nat} {b : Nat} (hl : l.length = r1.length) (hs : sm5 l) (hn : l.length ≤ 64) (hb : b < 10) :
  ∀ (q m i : Nat), i + m = l.length → m < q → ∃ (a : Int) (i' : Int), whX (F_spec_l12Rank_l2 r1 (cI l) b) q (-1, (i : Int)) = some (.inl (a, i')) ∧
   ((a = -1 ∧ ∀ j y, i ≤ j → l[j]? = some y → y.testBit b = false) ∨ ∃ (j y : Nat), a = (j : Int) ∧ i ≤ j ∧ l[j]? = some y ∧ y.testBit b = true)
 | 0, _, _, _, h => absurd h (Nat.not_lt_zero _)
 | q + 1, 0, i, hm, _ => by
  refine ⟨-1, i, ?_, .inl ⟨rfl, fun j y hj hy => ?_⟩⟩
  ·simp only [whX]
   unfold F_spec_l12Rank_l2
   simp only
   rw [decide_eq_false (show ¬ (i : Int) < (r1.length : Int) by omega)]
   rfl
  ·have := (List.getElem?_eq_some_iff.1 hy).1; omega
 | q + 1, m + 1, i, hm, hq => by
  have hi : i < l.length := by omega
  have hx := List.getElem?_eq_getElem hi
  have hx32 := hs l[i] (List.getElem_mem hi)
  have hstep : F_spec_l12Rank_l2 r1 (cI l) b (-1, (i : Int)) = some (bif l[i].testBit b then .br ((i : Int), (i : Int)) else .nx (-1, ((i + 1 : Nat) : Int))) := by
   unfold F_spec_l12Rank_l2
   simp only
   rw [decide_eq_true (show (i : Int) < (r1.length : Int) by omega), cI_get hx]
   simp only [cond_true, Option.bind_some]
   rw [wru' (by omega), chk_t (by omega), tb hx32 hb, wrap_i64 (a := (i : Int) + 1) ⟨by omega, by omega⟩]
   cases l[i].testBit b <;> rfl
  cases hb' : l[i].testBit b with
  | true =>
   rw [hb'] at hstep
   exact ⟨i, i, by simp only [whX, hstep, cond_true, Option.bind_some], .inr ⟨i, l[i], rfl, Nat.le_refl _, hx, hb'⟩⟩
  | false =>
   rw [hb'] at hstep
   obtain ⟨a, i', h1, h2⟩ := rank_find hl hs hn hb q m (i + 1) (by omega) (by omega)
   refine ⟨a, i', by simp only [whX, hstep, cond_false, Option.bind_some]; exact h1, ?_⟩
   rcases h2 with ⟨h2, h3⟩ | ⟨j, y, h2, h3, h4, h5⟩
   ·refine .inl ⟨h2, fun j y hj hy => ?_⟩
    by_cases hji : j = i
    ·subst hji; rw [hx] at hy; cases hy; exact hb'
    ·exact h3 j y (by omega) hy
   ·exact .inr ⟨j, y, h2, by omega, h4, h5⟩
theorem rank_elim {l : List Nat} {r b x : Nat} (hs : sm5 l) (hx : x < 32) (hb : b < 10) :
  ∃ l2 : List Nat, forN (F_spec_l12Rank_l3 (r : Int) b (x : Int)) l.length 0 (cI l) = some (cI l2) ∧ l2.length = l.length ∧ sm5 l2 ∧ l2.drop (r + 1) = (l.drop (r + 1)).map (red b x) := by
 obtain ⟨s, h1, l2, rfl, h2, h3⟩ := forN_inv (f := F_spec_l12Rank_l3 (r : Int) b (x : Int)) (fun i s => ∃ l2 : List Nat, s = cI l2 ∧ l2.length = l.length ∧ ∀ j y, l[j]? = some y → l2[j]? = some (if j < i ∧ j ≠ r then red b x y else y)) l.length 0 (cI l)
  ⟨l, rfl, rfl, fun j y hy => by rw [if_neg (by omega)]; exact hy⟩ (fun i s _ hi ⟨l2, hs2, h2, h3⟩ => by
   subst hs2
   have hi : i < l.length := by omega
   have hy := List.getElem?_eq_getElem hi
   have h2i := h3 i _ hy
   rw [if_neg (by omega)] at h2i
   have hy32 := hs l[i] (List.getElem_mem hi)
   unfold F_spec_l12Rank_l3
   by_cases hir : i = r
   ·subst hir
    have e : ((i : Int) != (i : Int)) = false := by simp
    rw [e]
    simp only [gb, cond_false, Option.bind_some, Bool.false_and]
    rw [chk_t (fun h => by cases h)]
    refine ⟨cI l2, rfl, l2, rfl, h2, fun j y hjy => ?_⟩
    rw [h3 j y hjy]
    by_cases hji : j = i
    ·rw [if_neg (by omega), if_neg (by omega)]
    ·by_cases hlt : j < i
     ·rw [if_pos (by omega), if_pos (by omega)]
     ·rw [if_neg (by omega), if_neg (by omega)]
   ·have e : ((i : Int) != (r : Int)) = true := by simp; omega
    rw [e]
    simp only [gb, cond_true, Bool.true_and]
    rw [cI_get h2i]
    simp only [Option.bind_some]
    rw [wru' (by omega), chk_t (fun _ => by omega), tb hy32 hb]
    cases hbit : l[i].testBit b with
    | false =>
     refine ⟨cI l2, rfl, l2, rfl, h2, fun j y hjy => ?_⟩
     rw [h3 j y hjy]
     by_cases hji : j = i
     ·subst hji
      rw [hy] at hjy; cases hjy
      rw [if_neg (by omega), if_pos (by omega)]
      unfold red; rw [hbit]; simp
     ·by_cases hlt : j < i ∧ j ≠ r
      ·rw [if_pos hlt, if_pos (by omega)]
      ·rw [if_neg hlt, if_neg (by omega)]
    | true =>
     simp only [cond_true, Option.bind_some, Int.toNat_natCast]
     rw [xor_nat hy32 hx, cI_set]
     refine ⟨_, rfl, _, rfl, by simpa using h2, fun j y hjy => ?_⟩
     rw [List.getElem?_set]
     by_cases hji : i = j
     ·subst hji
      rw [hy] at hjy; cases hjy
      rw [if_pos rfl, if_pos (by omega), if_pos (by omega)]
      unfold red; rw [hbit]; rfl
     ·rw [if_neg hji, h3 j y hjy]
      by_cases hlt : j < i ∧ j ≠ r
      ·rw [if_pos hlt, if_pos (by omega)]
      ·rw [if_neg hlt, if_neg (by omega)])
 rw [Nat.zero_add] at h3
 refine ⟨l2, h1, h2, fun y hy => ?_, ?_⟩
 ·obtain ⟨j, hj⟩ := List.mem_iff_getElem?.1 hy
  have hjl : j < l.length := by rw [← h2]; exact (List.getElem?_eq_some_iff.1 hj).1
  have := h3 j _ (List.getElem?_eq_getElem hjl)
  rw [hj] at this
  cases this
  have h32 := hs l[j] (List.getElem_mem hjl)
  split
  ·exact red32 hx h32
  ·exact h32
 ·apply List.ext_getElem?
  intro j
  rw [List.getElem?_drop, List.getElem?_map, List.getElem?_drop]
  by_cases hj : r + 1 + j < l.length
  ·have hy := List.getElem?_eq_getElem hj
   rw [h3 _ _ hy, hy, if_pos (by omega)]; rfl
  ·rw [List.getElem?_eq_none (by omega), List.getElem?_eq_none (by omega)]; rfl
theorem rank_elim2 {l : List Nat} {b x : Nat} (hs : sm5 l) (hx : x < 32) (hb : b < 10) : forN (F_impl_rankOf_l2 b (x : Int)) l.length 0 (cI l) = some (cI (l.map (red b x))) := by
 obtain ⟨s, h1, l2, rfl, h2, h3⟩ := forN_inv (f := F_impl_rankOf_l2 b (x : Int)) (fun i s => ∃ l2 : List Nat, s = cI l2 ∧ l2.length = l.length ∧ ∀ j y, l[j]? = some y → l2[j]? = some (if j < i then red b x y else y)) l.length 0 (cI l)
  ⟨l, rfl, rfl, fun j y hy => by rw [if_neg (by omega)]; exact hy⟩ (fun i s _ hi ⟨l2, hs2, h2, h3⟩ => by
   subst hs2
   have hi : i < l.length := by omega
   have hy := List.getElem?_eq_getElem hi
   have h2i := h3 i _ hy
   rw [if_neg (by omega)] at h2i
   have hy32 := hs l[i] (List.getElem_mem hi)
   unfold F_impl_rankOf_l2
   rw [cI_get h2i]
   simp only [Option.bind_some]
   rw [chk_t (by omega), tb hy32 hb]
   cases hbit : l[i].testBit b with
   | false =>
    refine ⟨cI l2, rfl, l2, rfl, h2, fun j y hjy => ?_⟩
    rw [h3 j y hjy]
    by_cases hji : j = i
    ·subst hji
     rw [hy] at hjy; cases hjy
     rw [if_neg (by omega), if_pos (by omega)]
     unfold red; rw [hbit]; simp
    ·by_cases hlt : j < i
     ·rw [if_pos hlt, if_pos (by omega)]
     ·rw [if_neg hlt, if_neg (by omega)]
   | true =>
    simp only [cond_true, Option.bind_some, Int.toNat_natCast]
    rw [xor_nat hy32 hx, cI_set]
    refine ⟨_, rfl, _, rfl, by simpa using h2, fun j y hjy => ?_⟩
    rw [List.getElem?_set]
    by_cases hji : i = j
    ·subst hji
     rw [hy] at hjy; cases hjy
     rw [if_pos rfl, if_pos (by omega), if_pos (by omega)]
     unfold red; rw [hbit]; rfl
    ·rw [if_neg hji, h3 j y hjy]
     by_cases hlt : j < i
     ·rw [if_pos hlt, if_pos (by omega)]
     ·rw [if_neg hlt, if_neg (by omega)])
 rw [h1]
 congr 2
 apply List.ext_getElem?
 intro j
 rw [List.getElem?_map]
 by_cases hj : j < l.length
 ·have hy := List.getElem?_eq_getElem hj
  rw [h3 _ _ hy, hy, if_pos (by omega)]; rfl
 ·rw [List.getElem?_eq_none (by omega), List.getElem?_eq_none (by omega)]; rfl
theorem idx_find {l : List Nat} {b : Nat} (hs : sm5 l) (hn : l.length ≤ 64) (hb : b < 10) :
  ∃ a : Int, F_slices_IndexFunc_int_int (cI l) (fun x_0 => F_impl_rankOf_1 x_0 (b : Int)) = some a ∧ ((a = -1 ∧ ∀ y ∈ l, y.testBit b = false) ∨ ∃ j y : Nat, a = (j : Int) ∧ l[j]? = some y ∧ y.testBit b = true) := by
 unfold F_slices_IndexFunc_int_int
 rw [chk_t (by rw [cI_len]; omega)]
 rcases forX_inv (f := F_slices_IndexFunc_int_int_l1 (cI l) (fun x_0 => F_impl_rankOf_1 x_0 (b : Int))) (fun i _ => ∀ j y, j < i → l[j]? = some y → y.testBit b = false) (fun r => ∃ j y : Nat, r = (j : Int) ∧ l[j]? = some y ∧ y.testBit b = true) (cI l).length 0 () (fun j y hj => absurd hj (Nat.not_lt_zero _)) (fun i s _ hi hI => by
  rw [cI_len] at hi
  have hi : i < l.length := by omega
  have hy := List.getElem?_eq_getElem hi
  have hy32 := hs l[i] (List.getElem_mem hi)
  unfold F_slices_IndexFunc_int_int_l1 F_impl_rankOf_1
  rw [cI_get hy]
  simp only [Option.bind_some]
  rw [chk_t (by omega), tb hy32 hb]
  simp only [Option.bind_some]
  cases hbit : l[i].testBit b with
  | true => exact .inr ⟨_, rfl, i, l[i], rfl, hy, hbit⟩
  | false =>
   refine .inl ⟨(), rfl, fun j y hj hjy => ?_⟩
   by_cases hji : j = i
   ·subst hji; rw [hy] at hjy; cases hjy; exact hbit
   ·exact hI j y (by omega) hjy) with ⟨⟨⟩, h1, h2⟩ | ⟨r, h1, j, y, rfl, h3, h4⟩
 ·rw [h1]
  refine ⟨-1, rfl, .inl ⟨rfl, fun y hy => ?_⟩⟩
  obtain ⟨j, hj⟩ := List.mem_iff_getElem?.1 hy
  exact h2 j y (by rw [cI_len, Nat.zero_add]; exact (List.getElem?_eq_some_iff.1 hj).1) hj
 ·rw [h1]; exact ⟨_, rfl, .inr ⟨j, y, rfl, h3, h4⟩⟩
/-- The two ranks run beside each other. -/
def RankS (n : Nat) (s t : List Int × Int) : Prop := ∃ (l m : List Nat) (r : Nat), s = (cI l, (r : Int)) ∧ t = (cI m, (r : Int)) ∧ l.length = n ∧ r ≤ n ∧ m.length ≤ n ∧ sm5 l ∧ sm5 m ∧ ∀ v, Sp (l.drop r) v ↔ Sp m v
theorem rank_round {n b : Nat} (hn : n ≤ 5) (hb : b < 10) {r1 : List Int} (hr1 : r1.length = n) {s t : List Int × Int} (h : RankS n s t) :
  ∃ s' t', F_spec_l12Rank_l1 r1 b s = some s' ∧ F_impl_rankOf_l1 b t = some t' ∧ RankS n s' t' := by
 obtain ⟨l, m, r, rfl, rfl, hl, hr, hm, sl, smm, hSp⟩ := h
 obtain ⟨a, i', f1, f2⟩ := rank_find (r1 := r1) (l := l) (b := b) (by omega) sl (by omega) hb fuel (l.length - r) r (by omega) (fuelB (by omega))
 obtain ⟨a', g1, g2⟩ := idx_find (l := m) (b := b) smm (by omega) hb
 unfold F_spec_l12Rank_l1 F_impl_rankOf_l1
 simp only
 rw [f1, g1]
 simp only [Option.bind_some, orR]
 have hmemd : ∀ y, y ∈ l.drop r ↔ ∃ j, r ≤ j ∧ l[j]? = some y := fun y => by
  rw [List.mem_iff_getElem?]
  constructor
  ·rintro ⟨j, hj⟩; rw [List.getElem?_drop] at hj; exact ⟨r + j, by omega, hj⟩
  ·rintro ⟨j, hj, h⟩; exact ⟨j - r, by rw [List.getElem?_drop, show r + (j - r) = j by omega]; exact h⟩
 rcases f2 with ⟨rfl, f2⟩ | ⟨p, x, rfl, hp, hpx, hxb⟩
 ·-- none in the specification: none in the program
  have hnone : ∀ y ∈ m, y.testBit b = false := fun y hy => sp_none (L := l.drop r) (fun z hz => by obtain ⟨j, h1, h2⟩ := (hmemd z).1 hz; exact f2 j z h1 h2) ((hSp y).2 (sp_mem hy))
  rcases g2 with ⟨rfl, _⟩ | ⟨j, y, rfl, h1, h2⟩
  ·exact ⟨_, _, rfl, rfl, l, m, r, rfl, rfl, hl, hr, hm, sl, smm, hSp⟩
  ·rw [hnone y (List.mem_of_getElem? h1)] at h2; cases h2
 ·rcases g2 with ⟨rfl, g2⟩ | ⟨p', x', rfl, hpx', hxb'⟩
  ·have := sp_none g2 ((hSp x).1 (sp_mem ((hmemd x).2 ⟨p, hp, hpx⟩)))
   rw [this] at hxb; cases hxb
  ·have hpl : p < l.length := (List.getElem?_eq_some_iff.1 hpx).1
   have hrl : r < l.length := by omega
   have hrx := List.getElem?_eq_getElem hrl
   have hx32 := sl x (List.mem_of_getElem? hpx)
   have hx32' := smm x' (List.mem_of_getElem? hpx')
   have hr32 := sl l[r] (List.getElem_mem hrl)
   have hpl' : p' < m.length := (List.getElem?_eq_some_iff.1 hpx').1
   rw [decide_eq_false (show ¬ (p : Int) < 0 by omega), decide_eq_false (show ¬ (p' : Int) < 0 by omega)]
   simp only [cond_false]
   rw [cI_get hpx, cI_get hrx, cI_get hpx']
   simp only [Option.bind_some, Int.toNat_natCast]
   rw [cI_set]
   have hr2 : ∃ z, (l.set p l[r])[r]? = some z := ⟨_, List.getElem?_eq_getElem (by simpa using hrl)⟩
   obtain ⟨z, hz⟩ := hr2
   rw [cI_get hz, cI_set]
   simp only [Option.bind_some]
   rw [chk_t (by omega)]
   -- the specification's rows
   generalize hl1 : (l.set p l[r]).set r x = l1
   have l1len : l1.length = l.length := by rw [← hl1]; simp
   have l1get : ∀ j, l1[j]? = if j = r then (if j < l.length then some x else none) else if j = p then (if j < l.length then some l[r] else none) else l[j]? := fun j => by
    rw [← hl1, List.getElem?_set, List.getElem?_set]
    by_cases h1 : r = j
    ·subst h1; rw [if_pos rfl, if_pos rfl, List.length_set]
    ·rw [if_neg h1, if_neg (Ne.symm h1)]
     by_cases h2 : p = j
     ·subst h2; simp
     ·rw [if_neg h2, if_neg (Ne.symm h2)]
   have sl1 : sm5 l1 := fun y hy => by
    obtain ⟨j, hj⟩ := List.mem_iff_getElem?.1 hy
    rw [l1get] at hj
    split at hj
    ·split at hj
     ·cases hj; exact hx32
     ·cases hj
    ·split at hj
     ·split at hj
      ·cases hj; exact hr32
      ·cases hj
     ·exact sl y (List.mem_of_getElem? hj)
   obtain ⟨l2, e1, e2, e3, e4⟩ := rank_elim (l := l1) (r := r) (b := b) (x := x) sl1 hx32 hb
   rw [show r1.length = l1.length by omega, e1]
   -- the program's rows
   have hdel : F_slices_Delete_int_int (cI m) (p' : Int) (IntKind.i64.wrap ((p' : Int) + 1)) = some (cI (m.take p' ++ m.drop (p' + 1))) := by
    unfold F_slices_Delete_int_int
    rw [wrap_i64 (a := (p' : Int) + 1) ⟨by omega, by omega⟩, chk_t (by rw [cI_len]; omega)]
    have e : ((p' : Int) == (p' : Int) + 1) = false := beq_eq_false_iff_ne.2 (by omega)
    rw [e]
    simp only [cond_false]
    rw [chk_t (by omega)]
    have e2 : ((p' : Int) + 1).toNat = p' + 1 := by omega
    rw [Int.toNat_natCast, e2]
    unfold cI
    rw [List.map_append, List.map_take, List.map_drop]
   rw [hdel]
   simp only [Option.bind_some]
   generalize hm1 : m.take p' ++ m.drop (p' + 1) = m1
   have hmx : m = m.take p' ++ x' :: m.drop (p' + 1) := by
    have := List.getElem?_eq_some_iff.1 hpx'
    obtain ⟨h1, h2⟩ := this
    rw [← h2, List.getElem_cons_drop, List.take_append_drop]
   have mmem : ∀ y, y ∈ x' :: m1 ↔ y ∈ m := fun y => by
    rw [← hm1]
    conv => rhs; rw [hmx]
    simp only [List.mem_cons, List.mem_append]
    constructor
    ·rintro (h | h | h)
     ·exact .inr (.inl h)
     ·exact .inl h
     ·exact .inr (.inr h)
    ·rintro (h | h | h)
     ·exact .inr (.inl h)
     ·exact .inl h
     ·exact .inr (.inr h)
   have sm1 : sm5 m1 := fun y hy => smm y ((mmem y).1 (List.mem_cons_of_mem _ hy))
   have m1len : m1.length + 1 = m.length := by
    have := congrArg List.length hmx
    rw [← hm1]
    simp at this ⊢
    omega
   rw [cI_len, chk_t (by omega), rank_elim2 sm1 hx32' hb]
   simp only [Option.bind_some]
   rw [wrap_i64 (a := (r : Int) + 1) ⟨by omega, by omega⟩]
   refine ⟨_, _, rfl, rfl, l2, m1.map (red b x'), r + 1, rfl, rfl, by omega, by omega, by simp; omega, e3, fun y hy => ?_, fun v => ?_⟩
   ·obtain ⟨z, hz, rfl⟩ := List.mem_map.1 hy
    exact red32 hx32' (sm1 z hz)
   ·rw [e4, sp_red hxb, sp_red hxb']
    have k1 : ∀ u, Sp (x :: l1.drop (r + 1)) u ↔ Sp (l.drop r) u := fun u => by
     constructor
     ·refine sp_sub (fun y hy => ?_)
      rcases List.mem_cons.1 hy with rfl | hy
      ·exact (hmemd y).2 ⟨p, hp, hpx⟩
      ·obtain ⟨j, hj⟩ := List.mem_iff_getElem?.1 hy
       rw [List.getElem?_drop, l1get, if_neg (by omega)] at hj
       split at hj
       ·split at hj
        ·cases hj; exact (hmemd _).2 ⟨r, Nat.le_refl _, hrx⟩
        ·cases hj
       ·exact (hmemd y).2 ⟨r + 1 + j, by omega, hj⟩
     ·refine sp_sub (fun y hy => ?_)
      obtain ⟨j, hj, hjy⟩ := (hmemd y).1 hy
      have hjl := (List.getElem?_eq_some_iff.1 hjy).1
      by_cases hjp : j = p
      ·subst hjp; rw [hpx] at hjy; cases hjy; exact List.mem_cons_self ..
      ·by_cases hjr : j = r
       ·subst hjr
        rw [hrx] at hjy; cases hjy
        refine List.mem_cons_of_mem _ (List.mem_iff_getElem?.2 ⟨p - (j + 1), ?_⟩)
        rw [List.getElem?_drop, l1get, show j + 1 + (p - (j + 1)) = p by omega, if_neg (by omega), if_pos rfl, if_pos hpl]
       ·refine List.mem_cons_of_mem _ (List.mem_iff_getElem?.2 ⟨j - (r + 1), ?_⟩)
        rw [List.getElem?_drop, l1get, show r + 1 + (j - (r + 1)) = j by omega, if_neg hjr, if_neg hjp]; exact hjy
    have k2 : ∀ u, Sp (x' :: m1) u ↔ Sp m u := fun u => ⟨sp_sub (fun y hy => (mmem y).1 hy), sp_sub (fun y hy => (mmem y).2 hy)⟩
    rw [k1, k2, hSp]
theorem rank_both {l : List Nat} (hn : l.length ≤ 5) (hs : sm5 l) : ∃ r : Int, F_spec_l12Rank (cI l) = some r ∧ F_impl_rankOf (cI l) = some r := by
 have h0 : RankS l.length (cI l, 0) (cI l, 0) := ⟨l, l, 0, rfl, rfl, rfl, by omega, by omega, hs, hs, fun v => by rw [List.drop_zero]⟩
 obtain ⟨s, t, h1, h2, h3⟩ := forN2_inv (f := F_spec_l12Rank_l1 (cI l)) (g := F_impl_rankOf_l1) (fun _ s t => RankS l.length s t) 10 0 _ _ h0 (fun b s t _ hb h => rank_round hn (by omega) (cI_len l) h)
 obtain ⟨l', m', r, rfl, rfl, _⟩ := h3
 refine ⟨r, ?_, ?_⟩
 ·unfold F_spec_l12Rank F_spec_l1Own
  rw [chk_t (by rw [cI_len]; omega)]
  simp only [Option.bind_some]
  rw [h1]; rfl
 ·unfold F_impl_rankOf F_slices_Clone_int_int
  rw [chk_t (by rw [cI_len]; omega)]
  simp only [Option.bind_some]
  rw [h2]; rfl

theorem pow32 {n : Nat} (h : n ≤ 5) : 2 ^ n ≤ 32 := by
 have : 2 ^ n ≤ 2 ^ 5 := Nat.pow_le_pow_right (by decide) h
 omega
theorem getD_lt {l : List Nat} {n : Nat} (hs : ∀ x ∈ l, x < 2 ^ n) (k : Nat) : l.getD k 0 < 2 ^ n := by
 rw [List.getD_eq_getElem?_getD]
 cases h : l[k]? with
 | none => exact Nat.two_pow_pos n
 | some x => exact hs x (List.mem_of_getElem? h)
theorem tb_out {m n k : Nat} (hm : m < 2 ^ n) (hk : n ≤ k) : m.testBit k = false :=
 Nat.testBit_lt_two_pow (Nat.lt_of_lt_of_le hm (Nat.pow_le_pow_right (by decide) hk))
theorem spec_in : F_spec_l1In = F_impl_within := rfl
theorem in_eq (n a b : Int) : F_impl_within n a b = some (decide (a ≤ n) && decide (n ≤ b)) := rfl
theorem bsV {α : Type} {b : Bool} {x y : α} : (bif b then some x else some y) = some (bif b then x else y) := by cases b <;> rfl
theorem shl_small {n : Int} (h : 1 ≤ n ∧ n ≤ 5) : (0 : Int) ≤ IntKind.u64.wrap n ∧ shlK .i64 1 (IntKind.u64.wrap n) = ((2 ^ n.toNat : Nat) : Int) ∧ shlK .i64 1 n = ((2 ^ n.toNat : Nat) : Int) ∧ 2 ^ n.toNat ≤ 32 ∧ 2 ≤ 2 ^ n.toNat ∧
  IntKind.i64.wrap (((2 ^ n.toNat : Nat) : Int) - 1) = ((2 ^ n.toNat : Nat) : Int) - 1 := by
 have : n = 1 ∨ n = 2 ∨ n = 3 ∨ n = 4 ∨ n = 5 := by omega
 rcases this with rfl | rfl | rfl | rfl | rfl <;> decide
theorem index_eqI {l : List Int} {f : Int → Option Bool} {p : Int → Bool} (hl : l.length ≤ 9223372036854775807) (hf : ∀ x, f x = some (p x)) :
  ∃ i, F_slices_IndexFunc_int_int l f = some i ∧ decide (0 ≤ i) = l.any p := by
 unfold F_slices_IndexFunc_int_int
 rw [chk_t hl]
 rcases forX_any (f := F_slices_IndexFunc_int_int_l1 l f) (l := l) (p := p) (q := fun i => (i : Int)) (fun i x hx => by
  unfold F_slices_IndexFunc_int_int_l1
  simp only [getI_nat, hx, Option.bind_some, hf, bsV]) with ⟨h1, h2⟩ | ⟨h1, i, _, h2⟩
 ·rw [h2, h1]; exact ⟨-1, rfl, by decide⟩
 ·rw [h2, h1]; exact ⟨i, rfl, by simp⟩
theorem contains_eqI {l : List Int} {f : Int → Option Bool} {p : Int → Bool} (hl : l.length ≤ 9223372036854775807) (hf : ∀ x, f x = some (p x)) :
  F_slices_ContainsFunc_int_int l f = some (l.any p) := by
 unfold F_slices_ContainsFunc_int_int
 obtain ⟨i, h1, h2⟩ := index_eqI hl hf
 rw [h1]; simp only [Option.bind_some, h2]
theorem any_not {α : Type} {l : List α} {p : α → Bool} : (l.any fun x => !p x) = !l.all p := by
 induction l with
 | nil => rfl
 | cons x l ih => simp only [List.any_cons, List.all_cons, ih, Bool.not_and]
theorem l1All_eq {l : List Int} (hl : l.length ≤ 9223372036854775807) (a b : Int) : F_spec_l1All l a b = some (l.all fun x => decide (a ≤ x) && decide (x ≤ b)) := by
 unfold F_spec_l1All
 rw [chk_t hl]
 rcases forX_any (f := F_spec_l1All_l1 l a b) (l := l) (p := fun x => !(decide (a ≤ x) && decide (x ≤ b))) (q := fun _ => false) (fun i x hx => by
  unfold F_spec_l1All_l1 F_spec_l1In
  simp only [getI_nat, hx, Option.bind_some, bsV]) with ⟨h1, h2⟩ | ⟨h1, i, _, h2⟩
 ·rw [h2]
  rw [any_not] at h1
  simp only [Option.bind_some, orR]
  rw [show (l.all fun x => decide (a ≤ x) && decide (x ≤ b)) = true by simpa using h1]
 ·rw [h2]
  rw [any_not] at h1
  simp only [Option.bind_some, orR]
  rw [show (l.all fun x => decide (a ≤ x) && decide (x ≤ b)) = false by simpa using h1]
/-- A list of small numbers is one of words. -/
theorem cI_of {R : List Int} (h : ∀ x ∈ R, 0 ≤ x) : R = cI (R.map Int.toNat) := by
 unfold cI
 rw [List.map_map]
 conv => lhs; rw [← List.map_id R]
 apply List.map_congr_left
 intro x hx
 have := h x hx
 simp only [id, Function.comp]
 omega
/-- Both say the same of a linear map. -/
theorem lin_both {R : List Int} (hl : R.length ≤ 9223372036854775807) : ∃ b, F_spec_l12Valid (TLinear.mk R) = some b ∧ F_impl_IsValidLinear (TLinear.mk R) = some b ∧
  (b = true → ∃ l : List Nat, R = cI l ∧ 1 ≤ l.length ∧ l.length ≤ 5 ∧ (∀ x ∈ l, x < 2 ^ l.length) ∧ F_spec_l12Rank R = some (R.length : Int)) := by
 unfold F_spec_l12Valid F_impl_IsValidLinear
 rw [spec_in, in_eq]
 simp only [Option.bind_some]
 by_cases hn : 1 ≤ (R.length : Int) ∧ (R.length : Int) ≤ 5
 ·obtain ⟨s1, s2, s3, s4, s5, s6⟩ := shl_small hn
  rw [decide_eq_true hn.1, decide_eq_true hn.2]
  simp only [Bool.and_self, Bool.true_and, gb, cond_true]
  rw [chk_t (fun _ => s1), s2, s6, l1All_eq hl, contains_eqI (p := fun x => !(decide (0 ≤ x) && decide (x ≤ ((2 ^ ((R.length : Int)).toNat : Nat) : Int) - 1))) hl (fun x => by
   unfold F_impl_IsValidLinear_1
   rw [chk_t (by omega), s3, s6, in_eq]; rfl)]
  simp only [Option.bind_some, any_not, Bool.not_not]
  cases hall : R.all fun x => decide (0 ≤ x) && decide (x ≤ ((2 ^ ((R.length : Int)).toNat : Nat) : Int) - 1) with
  | false => exact ⟨false, by simp, by simp, fun h => by cases h⟩
  | true =>
   have hx : ∀ x ∈ R, 0 ≤ x ∧ x ≤ ((2 ^ ((R.length : Int)).toNat : Nat) : Int) - 1 := fun x hx => by
    have := List.all_eq_true.1 hall x hx
    simpa using this
   have hR := cI_of (fun x hx' => (hx x hx').1)
   have hlen : (R.map Int.toNat).length = R.length := by simp
   have hsm : ∀ x ∈ R.map Int.toNat, x < 2 ^ (R.map Int.toNat).length := fun x hx' => by
    obtain ⟨y, hy, rfl⟩ := List.mem_map.1 hx'
    have := hx y hy
    rw [hlen]
    rw [Int.toNat_natCast] at this
    omega
   obtain ⟨r, r1, r2⟩ := rank_both (l := R.map Int.toNat) (by omega) (fun x hx' => by
    have := hsm x hx'
    rw [hlen] at this
    rw [Int.toNat_natCast] at s4
    omega)
   rw [← hR] at r1 r2
   simp only [cond_true]
   rw [r1, r2]
   simp only [Option.bind_some, Bool.and_self, Bool.true_and]
   refine ⟨_, rfl, rfl, fun hb => ⟨R.map Int.toNat, hR, by omega, by omega, hsm, ?_⟩⟩
   have := eq_of_beq hb
   rw [this]
 ·have e : (decide (1 ≤ (R.length : Int)) && decide ((R.length : Int) ≤ 5)) = false := by
   simp only [Bool.and_eq_false_iff, decide_eq_false_iff_not]; omega
  rw [e]
  simp only [gb, cond_false, Option.bind_some, Bool.false_and]
  rw [chk_t (fun h => by cases h)]
  exact ⟨false, rfl, rfl, fun h => by cases h⟩
/-- A phase polynomial that is taken, over n wires. -/
def PolyOk (p : TPhasePoly) (n : Nat) (l : List Nat) : Prop :=
 (1 ≤ n ∧ n ≤ 5 ∧ p.Qubits = (n : Int)) ∧ (0 ≤ p.Phase ∧ p.Phase ≤ 7) ∧ (p.Out = TLinear.mk (cI l) ∧ l.length = n ∧ (∀ x ∈ l, x < 2 ^ n) ∧ F_spec_l12Rank (cI l) = some (n : Int) ∧ F_spec_l12Valid p.Out = some true ∧ F_impl_IsValidLinear p.Out = some true) ∧
 (∀ (i : Nat) x, p.Terms[i]? = some x → (1 ≤ x.Mask ∧ x.Mask < ((2 ^ n : Nat) : Int) ∧ 1 ≤ x.Coef ∧ x.Coef ≤ 7)) ∧ (∀ (i : Nat) x y, p.Terms[i]? = some x → p.Terms[i + 1]? = some y → x.Mask < y.Mask)
theorem areTerms_both {T : List TTerm} {n : Int} (hn : 1 ≤ n ∧ n ≤ 5) (hl : T.length ≤ 9223372036854775807) : ∃ b, F_impl_areTerms n T = some b ∧
  (b = true → (∀ (i : Nat) x, T[i]? = some x → (1 ≤ x.Mask ∧ x.Mask < ((2 ^ n.toNat : Nat) : Int) ∧ 1 ≤ x.Coef ∧ x.Coef ≤ 7)) ∧ (∀ (i : Nat) x y, T[i]? = some x → T[i + 1]? = some y → x.Mask < y.Mask)) := by
 obtain ⟨s1, s2, s3, s4, s5, s6⟩ := shl_small hn
 unfold F_impl_areTerms
 rw [chk_t hl]
 rcases forX_inv (f := F_impl_areTerms_l1 T n) (fun k _ => (∀ (i : Nat) x, i < k → T[i]? = some x → (1 ≤ x.Mask ∧ x.Mask < ((2 ^ n.toNat : Nat) : Int) ∧ 1 ≤ x.Coef ∧ x.Coef ≤ 7)) ∧ (∀ (i : Nat) x y, i + 1 < k → T[i]? = some x → T[i + 1]? = some y → x.Mask < y.Mask)) (fun r => r = false)
  T.length 0 () ⟨fun i x h => absurd h (Nat.not_lt_zero _), fun i x y h => absurd h (Nat.not_lt_zero _)⟩ (fun k s _ hk ⟨h1, h2⟩ => by
  have hk : k < T.length := by omega
  have hx := List.getElem?_eq_getElem hk
  generalize T[k] = x at hx
  unfold F_impl_areTerms_l1
  rw [getI_nat, hx]
  simp only [Option.bind_some]
  rw [chk_t (by omega), s3, s6, in_eq, in_eq]
  simp only [Option.bind_some]
  by_cases hok : (1 ≤ x.Mask ∧ x.Mask ≤ ((2 ^ n.toNat : Nat) : Int) - 1) ∧ 1 ≤ x.Coef ∧ x.Coef ≤ 7
  ·rw [decide_eq_true hok.1.1, decide_eq_true hok.1.2, decide_eq_true hok.2.1, decide_eq_true hok.2.2]
   simp only [Bool.and_self, Bool.not_true, Bool.not_false, Bool.or_self, gb, cond_true, Option.bind_some, Bool.true_and, Bool.false_or]
   have here : ∀ (i : Nat) z, i < k + 1 → T[i]? = some z → (1 ≤ z.Mask ∧ z.Mask < ((2 ^ n.toNat : Nat) : Int) ∧ 1 ≤ z.Coef ∧ z.Coef ≤ 7) := fun i z hi hz => by
    by_cases hik : i = k
    ·subst hik; rw [hx] at hz; cases hz; exact ⟨hok.1.1, by omega, hok.2.1, hok.2.2⟩
    ·exact h1 i z (by omega) hz
   by_cases hk0 : k = 0
   ·subst hk0
    rw [decide_eq_false (show ¬ (0 : Int) < ((0 : Nat) : Int) by omega)]
    simp only [cond_false, Option.bind_some, Bool.false_and]
    exact .inl ⟨(), by first | rfl | trivial, here, fun i a b hi => by omega⟩
   ·rw [decide_eq_true (show (0 : Int) < (k : Int) by omega), wrap_i64 (a := (k : Int) - 1) ⟨by omega, by omega⟩]
    obtain ⟨j, rfl⟩ : ∃ j, k = j + 1 := ⟨k - 1, by omega⟩
    rw [show (((j + 1 : Nat) : Int) - 1) = ((j : Nat) : Int) by omega, getI_nat]
    have hy := List.getElem?_eq_getElem (show j < T.length by omega)
    generalize T[j] = y at hy
    rw [hy]
    simp only [cond_true, Option.bind_some, Bool.true_and]
    by_cases hlt : x.Mask ≤ y.Mask
    ·rw [decide_eq_true hlt]; exact .inr ⟨false, rfl, rfl⟩
    ·rw [decide_eq_false hlt]
     refine .inl ⟨(), rfl, here, fun i a b hi ha hb => ?_⟩
     by_cases hij : i = j
     ·subst hij; rw [hy] at ha; rw [hx] at hb; cases ha; cases hb; omega
     ·exact h2 i a b (by omega) ha hb
  ·refine .inr ⟨false, ?_, rfl⟩
   have e : ((!(decide (1 ≤ x.Mask) && decide (x.Mask ≤ ((2 ^ n.toNat : Nat) : Int) - 1))) || !(decide (1 ≤ x.Coef) && decide (x.Coef ≤ 7))) = true := by
    simp only [Bool.or_eq_true, Bool.not_eq_true', Bool.and_eq_false_iff, decide_eq_false_iff_not]
    omega
   cases hA : decide (1 ≤ x.Mask) && decide (x.Mask ≤ ((2 ^ n.toNat : Nat) : Int) - 1) with
   | false => simp [gb]
   | true =>
    rw [hA] at e
    simp only [Bool.not_true, Bool.false_or, Bool.not_eq_true'] at e
    simp [gb, e]) with ⟨⟨⟩, h1, h2, h3⟩ | ⟨r, h1, rfl⟩
 ·rw [h1]
  exact ⟨true, rfl, fun _ => ⟨fun i x hx => h2 i x (by have := (List.getElem?_eq_some_iff.1 hx).1; omega) hx, fun i x y hx hy => h3 i x y (by have := (List.getElem?_eq_some_iff.1 hy).1; omega) hx hy⟩⟩
 ·rw [h1]; exact ⟨false, rfl, fun h => by cases h⟩
theorem terms_loop {p : TPhasePoly} (hn : 1 ≤ p.Qubits ∧ p.Qubits ≤ 5) : F_spec_l13Valid_l1 p = F_impl_areTerms_l1 p.Terms p.Qubits := by
 obtain ⟨s1, s2, s3, s4, s5, s6⟩ := shl_small hn
 funext i u
 unfold F_spec_l13Valid_l1 F_impl_areTerms_l1
 rw [spec_in, s2, s3]
 cases getI p.Terms (i : Int) with
 | none => rfl
 | some x =>
  simp only [Option.bind_some]
  rw [chk_t s1, chk_t (by omega)]
/-- Both say the same of a phase polynomial. -/
theorem poly_both {p : TPhasePoly} (h1 : p.Terms.length ≤ 9223372036854775807) (h2 : p.Out.Rows.length ≤ 9223372036854775807) :
  ∃ b, F_spec_l13Valid p = some b ∧ F_impl_IsValidPhasePoly p = some b ∧ (b = true → ∃ n l, PolyOk p n l) := by
 obtain ⟨Q, P, T, ⟨R⟩⟩ := p
 obtain ⟨b1, e1, e2, e3⟩ := lin_both h2
 unfold F_spec_l13Valid F_impl_IsValidPhasePoly
 rw [spec_in, in_eq, in_eq]
 simp only [Option.bind_some]
 by_cases hn : 1 ≤ Q ∧ Q ≤ 5
 ·obtain ⟨b2, f1, f2⟩ := areTerms_both (T := T) hn h1
  rw [decide_eq_true hn.1, decide_eq_true hn.2]
  rw [terms_loop (p := TPhasePoly.mk Q P T (TLinear.mk R)) hn]
  have hspec : (chk (T.length ≤ 9223372036854775807) <| (forX (F_impl_areTerms_l1 T Q) T.length 0 ()).bind <| orR fun _ => some true) = some b2 := f1
  simp only [gb, Bool.and_self, Bool.not_true, Bool.not_false, cond_true, Option.bind_some, Bool.false_or, Bool.true_and]
  cases hP : decide (0 ≤ P) && decide (P ≤ 7) with
  | false =>
   simp only [cond_false, cond_true, Bool.not_false, Bool.not_true, Bool.true_or, Option.bind_some, Bool.false_and]
   exact ⟨false, rfl, rfl, fun h => by cases h⟩
  | true =>
   simp only [cond_true, Bool.not_true, Bool.false_or, Option.bind_some, Bool.true_and]
   rw [f1]
   simp only [Option.bind_some]
   by_cases hlen : (R.length : Int) = Q
   ·have g1 : ((R.length : Int) != Q) = false := by simp [hlen]
    have g2 : ((R.length : Int) == Q) = true := by simp [hlen]
    rw [g1, g2]
    simp only [Bool.not_false, cond_true, Bool.false_or, Bool.and_true]
    rw [e1]
    simp only [Option.bind_some]
    cases b1 with
    | false =>
     simp only [Bool.not_false, cond_true]
     cases b2 with
     | false => simp only [cond_false, Option.bind_some, Bool.false_and]; exact ⟨false, rfl, rfl, fun h => by cases h⟩
     | true => simp only [cond_true]; rw [e2]; exact ⟨false, rfl, rfl, fun h => by cases h⟩
    | true =>
     simp only [Bool.not_true, cond_false]
     rw [hspec]
     cases b2 with
     | false => simp only [cond_false, Option.bind_some, Bool.false_and]; exact ⟨false, rfl, rfl, fun h => by cases h⟩
     | true =>
      simp only [cond_true]
      rw [e2]
      refine ⟨true, rfl, rfl, fun _ => ?_⟩
      obtain ⟨l, l1, l2, l3, l4, l5⟩ := e3 rfl
      obtain ⟨t1, t2⟩ := f2 rfl
      have hll : l.length = R.length := by have := congrArg List.length l1; rw [cI_len] at this; exact this.symm
      have hP' : 0 ≤ P ∧ P ≤ 7 := by simpa using hP
      refine ⟨l.length, l, ⟨l2, l3, by simp only; omega⟩, hP', ⟨congrArg TLinear.mk l1, rfl, l4, ?_, e1, e2⟩, ?_, t2⟩
      ·rw [← l1, hll]; exact l5
      ·rw [show l.length = Q.toNat by omega]; exact t1
   ·have g1 : ((R.length : Int) != Q) = true := by simp [hlen]
    have g2 : ((R.length : Int) == Q) = false := by simp [hlen]
    rw [g1, g2]
    simp only [Bool.not_true, cond_false, cond_true, Bool.true_or, Bool.and_false, Option.bind_some, Bool.false_and]
    exact ⟨false, rfl, rfl, fun h => by cases h⟩
 ·have e : (decide (1 ≤ Q) && decide (Q ≤ 5)) = false := by
   simp only [Bool.and_eq_false_iff, decide_eq_false_iff_not]; omega
  rw [e]
  simp only [gb, cond_false, cond_true, Option.bind_some, Bool.false_and, Bool.not_false, Bool.not_true, Bool.true_or]
  exact ⟨false, rfl, rfl, fun h => by cases h⟩

theorem mask_ge {p : TPhasePoly} {n : Nat} {l : List Nat} (h : PolyOk p n l) : ∀ (i : Nat) x, p.Terms[i]? = some x → (i : Int) + 1 ≤ x.Mask
 | 0, x, hx => by have := (h.2.2.2.1 0 x hx).1; omega
 | i + 1, x, hx => by
  have hl := (List.getElem?_eq_some_iff.1 hx).1
  have hz := List.getElem?_eq_getElem (show i < p.Terms.length by omega)
  have h1 := mask_ge h i _ hz
  have h2 := h.2.2.2.2 i _ x hz hx
  omega
theorem terms_len {p : TPhasePoly} {n : Nat} {l : List Nat} (h : PolyOk p n l) : p.Terms.length ≤ 31 := by
 rcases Nat.lt_or_ge 31 p.Terms.length with hl | hl
 ·have hz := List.getElem?_eq_getElem hl
  have h1 := mask_ge h 31 _ hz
  have h2 := (h.2.2.2.1 31 _ hz).2.1
  have h3 := pow32 h.1.2.1
  omega
 ·exact hl
theorem mask_nat {p : TPhasePoly} {n : Nat} {l : List Nat} (h : PolyOk p n l) {i : Nat} {x : TTerm} (hx : p.Terms[i]? = some x) : ∃ m : Nat, x.Mask = (m : Int) ∧ 1 ≤ m ∧ m < 2 ^ n := by
 have := h.2.2.2.1 i x hx
 exact ⟨x.Mask.toNat, by omega, by omega, by omega⟩
theorem wrapU {a : Nat} (h : a < 18446744073709551616) : IntKind.u64.wrap (a : Int) = (a : Int) := by
 simp [IntKind.wrap, IntKind.signed, IntKind.bits]
 omega
theorem shr_u (x k : Nat) (hk : k ≤ 64) : shrK .u64 (x : Int) (k : Int) = ((x / 2 ^ k : Nat) : Int) := by
 unfold shrK
 rw [Int.toNat_natCast, Nat.min_eq_left (show k ≤ IntKind.bits .u64 from hk), Int.ofNat_fdiv]
 simp
theorem and_u {a b : Nat} (ha : a < 18446744073709551616) (hb : b < 18446744073709551616) : bits .and .u64 (a : Int) (b : Int) = ((a &&& b : Nat) : Int) := by
 have h1 : a &&& b ≤ a := Nat.and_le_left
 show IntKind.u64.wrap ((BitVec.ofInt 64 (a : Int) &&& BitVec.ofInt 64 (b : Int)).toNat : Int) = _
 have e1 : BitVec.ofInt 64 (a : Int) = BitVec.ofNat 64 a := rfl
 have e2 : BitVec.ofInt 64 (b : Int) = BitVec.ofNat 64 b := rfl
 rw [e1, e2, BitVec.toNat_and, BitVec.toNat_ofNat, BitVec.toNat_ofNat, Nat.mod_eq_of_lt (by omega), Nat.mod_eq_of_lt (by omega)]
 exact wrapU (by omega)
theorem and_i {a b : Nat} (ha : a < 9223372036854775808) (hb : b < 9223372036854775808) : bits .and .i64 (a : Int) (b : Int) = ((a &&& b : Nat) : Int) := by
 have h1 : a &&& b ≤ a := Nat.and_le_left
 show IntKind.i64.wrap ((BitVec.ofInt 64 (a : Int) &&& BitVec.ofInt 64 (b : Int)).toNat : Int) = _
 have e1 : BitVec.ofInt 64 (a : Int) = BitVec.ofNat 64 a := rfl
 have e2 : BitVec.ofInt 64 (b : Int) = BitVec.ofNat 64 b := rfl
 rw [e1, e2, BitVec.toNat_and, BitVec.toNat_ofNat, BitVec.toNat_ofNat, Nat.mod_eq_of_lt (by omega), Nat.mod_eq_of_lt (by omega)]
 exact wrap_i64 ⟨by omega, by omega⟩
theorem and_step (k : Nat) {d c : Nat} (y M : Nat) (hd : d < 2 ^ k) (hc : c < 2 ^ k) : (d + 2 ^ k * y) &&& (c + 2 ^ k * M) = (d &&& c) + 2 ^ k * (y &&& M) := by
 have hdc : d &&& c < 2 ^ k := Nat.and_lt_two_pow d hc
 apply Nat.eq_of_testBit_eq
 intro j
 rw [Nat.add_comm d, Nat.add_comm c, Nat.add_comm (d &&& c), Nat.testBit_and, Nat.testBit_two_pow_mul_add _ hd, Nat.testBit_two_pow_mul_add _ hc, Nat.testBit_two_pow_mul_add _ hdc]
 by_cases h : j < k
 ·rw [if_pos h, if_pos h, if_pos h, Nat.testBit_and]
 ·rw [if_neg h, if_neg h, if_neg h, Nat.testBit_and]
def val : List Nat → Nat
 | [] => 0
 | d :: t => d + 16 * val t
def mskN (c : Nat) : Nat → Nat
 | 0 => 0
 | n + 1 => c + 16 * mskN c n
def a4 (d : Nat) : Nat := (d / 2 &&& 5) + (d &&& 5)
def b4 (d : Nat) : Nat := (d / 4 &&& 3) + (d &&& 3)
def c4 (d : Nat) : Nat := b4 (a4 d)
theorem a4_lt : ∀ d : Fin 16, a4 d.val < 16 ∧ c4 d.val ≤ 4 ∧ ∀ e : Fin 2, (d.val / 2 + 8 * e.val) &&& 5 = d.val / 2 &&& 5 := by decide
theorem b4_lt : ∀ d : Fin 16, ∀ e : Fin 4, (d.val / 4 + 4 * e.val) &&& 3 = d.val / 4 &&& 3 := by decide
theorem stA : ∀ (ds : List Nat) (n : Nat), ds.length ≤ n → (∀ d ∈ ds, d < 16) → (val ds / 2 &&& mskN 5 n) + (val ds &&& mskN 5 n) = val (ds.map a4)
 | [], n, _, _ => by simp [val]
 | d :: t, 0, h, _ => absurd h (by simp)
 | d :: t, n + 1, h, hd => by
  have hd16 := hd d (List.mem_cons_self ..)
  have ih := stA t n (by simpa using h) (fun x hx => hd x (List.mem_cons_of_mem _ hx))
  have e1 : (d + 16 * val t) / 2 = (d / 2 + 8 * (val t % 2)) + 2 ^ 4 * (val t / 2) := by omega
  have e2 := (a4_lt ⟨d, hd16⟩).2.2 ⟨val t % 2, Nat.mod_lt _ (by decide)⟩
  simp only at e2
  have e3 := and_step 4 (d := d / 2 + 8 * (val t % 2)) (c := 5) (val t / 2) (mskN 5 n) (by omega) (by decide)
  have e4 := and_step 4 (d := d) (c := 5) (val t) (mskN 5 n) (by omega) (by decide)
  show ((d + 16 * val t) / 2 &&& (5 + 16 * mskN 5 n)) + ((d + 16 * val t) &&& (5 + 16 * mskN 5 n)) = a4 d + 16 * val (t.map a4)
  rw [e1, show (5 + 16 * mskN 5 n) = 5 + 2 ^ 4 * mskN 5 n from rfl, e3, show d + 16 * val t = d + 2 ^ 4 * val t from rfl, e4, e2, ← ih]
  unfold a4
  omega
theorem stB : ∀ (ds : List Nat) (n : Nat), ds.length ≤ n → (∀ d ∈ ds, d < 16) → (val ds / 4 &&& mskN 3 n) + (val ds &&& mskN 3 n) = val (ds.map b4)
 | [], n, _, _ => by simp [val]
 | d :: t, 0, h, _ => absurd h (by simp)
 | d :: t, n + 1, h, hd => by
  have hd16 := hd d (List.mem_cons_self ..)
  have ih := stB t n (by simpa using h) (fun x hx => hd x (List.mem_cons_of_mem _ hx))
  have e1 : (d + 16 * val t) / 4 = (d / 4 + 4 * (val t % 4)) + 2 ^ 4 * (val t / 4) := by omega
  have e2 := b4_lt ⟨d, hd16⟩ ⟨val t % 4, Nat.mod_lt _ (by decide)⟩
  simp only at e2
  have e3 := and_step 4 (d := d / 4 + 4 * (val t % 4)) (c := 3) (val t / 4) (mskN 3 n) (by omega) (by decide)
  have e4 := and_step 4 (d := d) (c := 3) (val t) (mskN 3 n) (by omega) (by decide)
  show ((d + 16 * val t) / 4 &&& (3 + 16 * mskN 3 n)) + ((d + 16 * val t) &&& (3 + 16 * mskN 3 n)) = b4 d + 16 * val (t.map b4)
  rw [e1, show (3 + 16 * mskN 3 n) = 3 + 2 ^ 4 * mskN 3 n from rfl, e3, show d + 16 * val t = d + 2 ^ 4 * val t from rfl, e4, e2, ← ih]
  unfold b4
  omega
theorem byte15 {p q : Nat} (h : p < 16) : (p + 16 * q) &&& 15 = p := by
 rw [show (15 : Nat) = 2 ^ 4 - 1 from rfl, Nat.and_two_pow_sub_one_eq_mod]
 omega
def pA (x : Int) : Int := IntKind.u64.wrap (bits .and .u64 (shrK .u64 x 1) 6148914691236517205 + bits .and .u64 x 6148914691236517205)
def pB (x : Int) : Int := IntKind.u64.wrap (bits .and .u64 (shrK .u64 x 2) 3689348814741910323 + bits .and .u64 x 3689348814741910323)
def pC (x : Int) : Int := bits .and .u64 (IntKind.u64.wrap (shrK .u64 x 4 + x)) 1085102592571150095
def pD (x : Int) : Int := IntKind.u64.wrap (x + shrK .u64 x 8)
def pE (x : Int) : Int := IntKind.u64.wrap (x + shrK .u64 x 16)
def pF (x : Int) : Int := IntKind.u64.wrap (x + shrK .u64 x 32)
def pG (x : Int) : Int := bits .and .i64 (IntKind.i64.wrap x) 127
theorem ones_staged (x : Int) : F_math_bits_OnesCount64 x = some (pG (pF (pE (pD (pC (pB (pA x))))))) := rfl
theorem val_lt {d0 d1 d2 d3 d4 d5 d6 d7 : Nat} (h0 : d0 < 16) (h1 : d1 < 16) (h2 : d2 < 16) (h3 : d3 < 16) (h4 : d4 < 16) (h5 : d5 < 16) (h6 : d6 < 16) (h7 : d7 < 16) : val [d0, d1, d2, d3, d4, d5, d6, d7] < 4294967296 := by
 simp only [val]; omega
theorem pA_eq {x A : Nat} (hx : x < 4294967296) (hA : A < 4294967296) (h : (x / 2 &&& 6148914691236517205) + (x &&& 6148914691236517205) = A) : pA (x : Int) = (A : Int) := by
 unfold pA
 have h2 : x / 2 < 18446744073709551616 := by omega
 have h1 : x < 18446744073709551616 := by omega
 rw [show (1 : Int) = ((1 : Nat) : Int) from rfl, shr_u x 1 (by decide), show (6148914691236517205 : Int) = ((6148914691236517205 : Nat) : Int) from rfl, show x / 2 ^ 1 = x / 2 from rfl, and_u h2 (by decide), and_u h1 (by decide), ← Int.natCast_add, h]
 exact wrapU (by omega)
theorem pB_eq {x A : Nat} (hx : x < 4294967296) (hA : A < 4294967296) (h : (x / 4 &&& 3689348814741910323) + (x &&& 3689348814741910323) = A) : pB (x : Int) = (A : Int) := by
 unfold pB
 have h2 : x / 4 < 18446744073709551616 := by omega
 have h1 : x < 18446744073709551616 := by omega
 rw [show (2 : Int) = ((2 : Nat) : Int) from rfl, shr_u x 2 (by decide), show (3689348814741910323 : Int) = ((3689348814741910323 : Nat) : Int) from rfl, show x / 2 ^ 2 = x / 4 from rfl, and_u h2 (by decide), and_u h1 (by decide), ← Int.natCast_add, h]
 exact wrapU (by omega)
theorem hC_eq {p0 p1 p2 p3 p4 p5 p6 p7 B : Nat} (n0 : p0 ≤ 4) (n1 : p1 ≤ 4) (n2 : p2 ≤ 4) (n3 : p3 ≤ 4) (n4 : p4 ≤ 4) (n5 : p5 ≤ 4) (n6 : p6 ≤ 4) (n7 : p7 ≤ 4) (hB : B = p0 + 16 * (p1 + 16 * (p2 + 16 * (p3 + 16 * (p4 + 16 * (p5 + 16 * (p6 + 16 * p7))))))) :
  (B / 16 + B) &&& 1085102592571150095 = (p0 + p1) + 256 * ((p2 + p3) + 256 * ((p4 + p5) + 256 * (p6 + p7))) := by
 have e : B / 16 + B = ((p0 + p1) + 16 * (p1 + p2)) + 2 ^ 8 * (((p2 + p3) + 16 * (p3 + p4)) + 2 ^ 8 * (((p4 + p5) + 16 * (p5 + p6)) + 2 ^ 8 * (((p6 + p7) + 16 * p7) + 2 ^ 8 * 0))) := by
  have : B / 16 = p1 + 16 * (p2 + 16 * (p3 + 16 * (p4 + 16 * (p5 + 16 * (p6 + 16 * p7))))) := by omega
  rw [this, hB]; clear this hB; omega
 have a0 : p0 + p1 + 16 * (p1 + p2) < 2 ^ 8 := by clear e hB; omega
 have a1 : p2 + p3 + 16 * (p3 + p4) < 2 ^ 8 := by clear e hB; omega
 have a2 : p4 + p5 + 16 * (p5 + p6) < 2 ^ 8 := by clear e hB; omega
 have a3 : p6 + p7 + 16 * p7 < 2 ^ 8 := by clear e hB; omega
 have b0 : p0 + p1 < 16 := by clear e hB; omega
 have b1 : p2 + p3 < 16 := by clear e hB; omega
 have b2 : p4 + p5 < 16 := by clear e hB; omega
 have b3 : p6 + p7 < 16 := by clear e hB; omega
 rw [e, show (1085102592571150095 : Nat) = 15 + 2 ^ 8 * (15 + 2 ^ 8 * (15 + 2 ^ 8 * (15 + 2 ^ 8 * 252645135))) from rfl, and_step 8 _ _ a0 (by decide), and_step 8 _ _ a1 (by decide), and_step 8 _ _ a2 (by decide), and_step 8 _ _ a3 (by decide),
  byte15 b0, byte15 b1, byte15 b2, byte15 b3, Nat.zero_and, Nat.mul_zero, Nat.add_zero]
theorem pC_eq {B C : Nat} (hB : B < 4294967296) (h : (B / 16 + B) &&& 1085102592571150095 = C) : pC (B : Int) = (C : Int) := by
 unfold pC
 have h1 : B / 16 + B < 18446744073709551616 := by omega
 rw [show (4 : Int) = ((4 : Nat) : Int) from rfl, shr_u B 4 (by decide), ← Int.natCast_add, show B / 2 ^ 4 = B / 16 from rfl, wrapU h1, show (1085102592571150095 : Int) = ((1085102592571150095 : Nat) : Int) from rfl, and_u h1 (by decide), h]
theorem pD_eq {C : Nat} (h : C < 4294967296) : pD (C : Int) = ((C + C / 256 : Nat) : Int) := by
 unfold pD
 rw [show (8 : Int) = ((8 : Nat) : Int) from rfl, shr_u C 8 (by decide), ← Int.natCast_add, show C / 2 ^ 8 = C / 256 from rfl, wrapU (by omega)]
theorem pE_eq {C : Nat} (h : C < 8589934592) : pE (C : Int) = ((C + C / 65536 : Nat) : Int) := by
 unfold pE
 rw [show (16 : Int) = ((16 : Nat) : Int) from rfl, shr_u C 16 (by decide), ← Int.natCast_add, show C / 2 ^ 16 = C / 65536 from rfl, wrapU (by omega)]
theorem pF_eq {C : Nat} (h : C < 17179869184) : pF (C : Int) = ((C + C / 4294967296 : Nat) : Int) := by
 unfold pF
 rw [show (32 : Int) = ((32 : Nat) : Int) from rfl, shr_u C 32 (by decide), ← Int.natCast_add, show C / 2 ^ 32 = C / 4294967296 from rfl, wrapU (by omega)]
theorem pG_eq {C : Nat} (h : C < 34359738368) : pG (C : Int) = ((C % 128 : Nat) : Int) := by
 unfold pG
 rw [wrap_i64 ⟨by omega, by omega⟩, show (127 : Int) = ((127 : Nat) : Int) from rfl, and_i (by omega) (by decide), show (127 : Nat) = 2 ^ 7 - 1 from rfl, Nat.and_two_pow_sub_one_eq_mod]
theorem sum_eq {q0 q1 q2 q3 : Nat} (h0 : q0 ≤ 8) (h1 : q1 ≤ 8) (h2 : q2 ≤ 8) (h3 : q3 ≤ 8) {C D E F : Nat} (hC : C = q0 + 256 * (q1 + 256 * (q2 + 256 * q3))) (hD : D = C + C / 256) (hE : E = D + D / 65536) (hF : F = E + E / 4294967296) :
  F % 128 = q0 + q1 + q2 + q3 ∧ C < 4294967296 ∧ D < 8589934592 ∧ E < 17179869184 ∧ F < 34359738368 := by
 have c1 : C / 256 = q1 + 256 * (q2 + 256 * q3) := by omega
 have d1 : D = (q0 + q1) + 256 * ((q1 + q2) + 256 * ((q2 + q3) + 256 * q3)) := by rw [hD, c1, hC]; omega
 clear hD c1
 have d2 : D / 65536 = (q2 + q3) + 256 * q3 := by rw [d1]; omega
 have e1 : E = (q0 + q1 + q2 + q3) + 256 * ((q1 + q2 + q3) + 256 * ((q2 + q3) + 256 * q3)) := by rw [hE, d2, d1]; omega
 clear hE d2
 have e2 : E / 4294967296 = 0 := by rw [e1]; omega
 have f1 : F = E := by rw [hF, e2]; omega
 clear hF e2
 refine ⟨?_, by omega, by omega, by omega, by omega⟩
 rw [f1, e1]; clear f1 e1 d1 hC; omega
/-- The sum of the bits in the eight parts of four. -/
theorem ones_val {d0 d1 d2 d3 d4 d5 d6 d7 : Nat} (h0 : d0 < 16) (h1 : d1 < 16) (h2 : d2 < 16) (h3 : d3 < 16) (h4 : d4 < 16) (h5 : d5 < 16) (h6 : d6 < 16) (h7 : d7 < 16) :
  F_math_bits_OnesCount64 ((val [d0, d1, d2, d3, d4, d5, d6, d7] : Nat) : Int) = some ((c4 d0 + c4 d1 + c4 d2 + c4 d3 + c4 d4 + c4 d5 + c4 d6 + c4 d7 : Nat) : Int) := by
 have hall : ∀ d ∈ [d0, d1, d2, d3, d4, d5, d6, d7], d < 16 := by
  intro d hd
  simp only [List.mem_cons, List.not_mem_nil, or_false] at hd
  rcases hd with rfl | rfl | rfl | rfl | rfl | rfl | rfl | rfl <;> assumption
 have hA := stA [d0, d1, d2, d3, d4, d5, d6, d7] 16 (by simp) hall
 have hallA : ∀ d ∈ [d0, d1, d2, d3, d4, d5, d6, d7].map a4, d < 16 := by
  intro d hd
  obtain ⟨e, he, rfl⟩ := List.mem_map.1 hd
  exact (a4_lt ⟨e, hall e he⟩).1
 have hB := stB ([d0, d1, d2, d3, d4, d5, d6, d7].map a4) 16 (by simp) hallA
 have hx := val_lt h0 h1 h2 h3 h4 h5 h6 h7
 have hAlt : val ([d0, d1, d2, d3, d4, d5, d6, d7].map a4) < 4294967296 := val_lt (a4_lt ⟨d0, h0⟩).1 (a4_lt ⟨d1, h1⟩).1 (a4_lt ⟨d2, h2⟩).1 (a4_lt ⟨d3, h3⟩).1 (a4_lt ⟨d4, h4⟩).1 (a4_lt ⟨d5, h5⟩).1 (a4_lt ⟨d6, h6⟩).1 (a4_lt ⟨d7, h7⟩).1
 have m5 : mskN 5 16 = 6148914691236517205 := by decide
 have m3 : mskN 3 16 = 3689348814741910323 := by decide
 rw [m5] at hA
 rw [m3] at hB
 have n0 : c4 d0 ≤ 4 := (a4_lt ⟨d0, h0⟩).2.1
 have n1 : c4 d1 ≤ 4 := (a4_lt ⟨d1, h1⟩).2.1
 have n2 : c4 d2 ≤ 4 := (a4_lt ⟨d2, h2⟩).2.1
 have n3 : c4 d3 ≤ 4 := (a4_lt ⟨d3, h3⟩).2.1
 have n4 : c4 d4 ≤ 4 := (a4_lt ⟨d4, h4⟩).2.1
 have n5 : c4 d5 ≤ 4 := (a4_lt ⟨d5, h5⟩).2.1
 have n6 : c4 d6 ≤ 4 := (a4_lt ⟨d6, h6⟩).2.1
 have n7 : c4 d7 ≤ 4 := (a4_lt ⟨d7, h7⟩).2.1
 have hBv : val (([d0, d1, d2, d3, d4, d5, d6, d7].map a4).map b4) = c4 d0 + 16 * (c4 d1 + 16 * (c4 d2 + 16 * (c4 d3 + 16 * (c4 d4 + 16 * (c4 d5 + 16 * (c4 d6 + 16 * c4 d7)))))) := by
  show c4 d0 + 16 * (c4 d1 + 16 * (c4 d2 + 16 * (c4 d3 + 16 * (c4 d4 + 16 * (c4 d5 + 16 * (c4 d6 + 16 * (c4 d7 + 16 * 0))))))) = _
  rw [Nat.mul_zero, Nat.add_zero]
 have hBlt := val_lt (Nat.lt_of_le_of_lt n0 (by decide)) (Nat.lt_of_le_of_lt n1 (by decide)) (Nat.lt_of_le_of_lt n2 (by decide)) (Nat.lt_of_le_of_lt n3 (by decide)) (Nat.lt_of_le_of_lt n4 (by decide)) (Nat.lt_of_le_of_lt n5 (by decide)) (Nat.lt_of_le_of_lt n6 (by decide)) (Nat.lt_of_le_of_lt n7 (by decide))
 have hBe : val [c4 d0, c4 d1, c4 d2, c4 d3, c4 d4, c4 d5, c4 d6, c4 d7] = val (([d0, d1, d2, d3, d4, d5, d6, d7].map a4).map b4) := rfl
 rw [hBe] at hBlt
 rw [ones_staged, pA_eq hx hAlt hA, pB_eq hAlt hBlt hB, pC_eq hBlt (hC_eq n0 n1 n2 n3 n4 n5 n6 n7 hBv)]
 have e8 : ∀ {a b : Nat}, a ≤ 4 → b ≤ 4 → a + b ≤ 8 := fun h h' => Nat.add_le_add h h'
 obtain ⟨s1, s2, s3, s4, s5⟩ := sum_eq (e8 n0 n1) (e8 n2 n3) (e8 n4 n5) (e8 n6 n7) rfl rfl rfl rfl
 rw [pD_eq s2, pE_eq s3, pF_eq s4, pG_eq s5, s1]
 simp only [Nat.add_assoc]
def setW (x : Nat) (n : Nat) : List Nat := (List.range n).filter fun k => x.testBit k
theorem c4_eq : ∀ d : Fin 16, (setW d.val 4).length = c4 d.val := by decide
theorem setW_split (x n : Nat) : (setW x (n + 4)).length = c4 (x % 16) + (setW (x / 16) n).length := by
 rw [← c4_eq ⟨x % 16, Nat.mod_lt _ (by decide)⟩]
 unfold setW
 rw [show n + 4 = n + 1 + 1 + 1 + 1 from rfl, List.range_succ_eq_map, List.range_succ_eq_map, List.range_succ_eq_map, List.range_succ_eq_map]
 simp only [List.map_cons, List.map_map]
 have hlow : ∀ k : Nat, k < 4 → x.testBit k = (x % 16).testBit k := fun k hk => by
  rw [show (16 : Nat) = 2 ^ 4 from rfl, Nat.testBit_mod_two_pow]
  simp [hk]
 have hhigh : ((List.range n).map (Nat.succ ∘ Nat.succ ∘ Nat.succ ∘ Nat.succ)).filter (fun k => x.testBit k) = ((List.range n).filter fun k => (x / 16).testBit k).map (Nat.succ ∘ Nat.succ ∘ Nat.succ ∘ Nat.succ) := by
  rw [List.filter_map]
  congr 1
  apply List.filter_congr
  intro k _
  show x.testBit (k + 4) = (x / 16).testBit k
  rw [Nat.testBit_add]
 have hr4 : List.range 4 = [0, 1, 2, 3] := by decide
 rw [hr4]
 simp only [List.filter_cons]
 rw [show Nat.succ 0 = 1 from rfl, show Nat.succ 1 = 2 from rfl, show Nat.succ 2 = 3 from rfl]
 rw [hlow 0 (by decide), hlow 1 (by decide), hlow 2 (by decide), hlow 3 (by decide)]
 have hhigh' := congrArg List.length hhigh
 rw [List.length_map] at hhigh'
 cases (x % 16).testBit 0 <;> cases (x % 16).testBit 1 <;> cases (x % 16).testBit 2 <;> cases (x % 16).testBit 3 <;> simp [hhigh'] <;> omega
theorem ones_eq {x : Nat} (hx : x < 4294967296) : F_math_bits_OnesCount64 (x : Int) = some (((setW x 32).length : Nat) : Int) := by
 have hv : x = val [x % 16, x / 16 % 16, x / 16 / 16 % 16, x / 16 / 16 / 16 % 16, x / 16 / 16 / 16 / 16 % 16, x / 16 / 16 / 16 / 16 / 16 % 16, x / 16 / 16 / 16 / 16 / 16 / 16 % 16, x / 16 / 16 / 16 / 16 / 16 / 16 / 16 % 16] := by
  simp only [val]; omega
 have hm : ∀ y : Nat, y % 16 < 16 := fun y => Nat.mod_lt _ (by decide)
 have h := ones_val (hm x) (hm (x / 16)) (hm (x / 16 / 16)) (hm (x / 16 / 16 / 16)) (hm (x / 16 / 16 / 16 / 16)) (hm (x / 16 / 16 / 16 / 16 / 16)) (hm (x / 16 / 16 / 16 / 16 / 16 / 16)) (hm (x / 16 / 16 / 16 / 16 / 16 / 16 / 16))
 rw [← hv] at h
 rw [h, setW_split x 28, setW_split _ 24, setW_split _ 20, setW_split _ 16, setW_split _ 12, setW_split _ 8, setW_split _ 4, setW_split _ 0]
 rw [show (setW (x / 16 / 16 / 16 / 16 / 16 / 16 / 16 / 16) 0).length = 0 from rfl]
 congr 2
 omega
theorem tb0_small : ∀ (x : Fin 32) (b : Fin 10), ((bits .and .i64 (shrK .i64 (x.val : Int) (b.val : Int)) 1) == 0) = !x.val.testBit b.val := by decide +kernel
theorem tb0 {x b : Nat} (hx : x < 32) (hb : b < 10) : ((bits .and .i64 (shrK .i64 (x : Int) (b : Int)) 1) == 0) = !x.testBit b := tb0_small ⟨x, hx⟩ ⟨b, hb⟩
def NOk (n : Nat) (l : List Nat) : Prop := l.length = n ∧ ∀ x ∈ l, x < 2 ^ n
def GsOk (n : Nat) (out : List TGate) : Prop := ∀ g ∈ out, ∃ a b : Nat, a < n ∧ b < n ∧ g = TGate.mk 9 (a : Int) (b : Int)
theorem GsOk.snoc {n : Nat} {out : List TGate} (h : GsOk n out) {a b : Nat} (ha : a < n) (hb : b < n) : GsOk n (out ++ [TGate.mk 9 (a : Int) (b : Int)]) := fun g hg => by
 rcases List.mem_append.1 hg with hg | hg
 ·exact h g hg
 ·exact ⟨a, b, ha, hb, by simpa using hg⟩
theorem elimN {l : List Nat} {n a b : Nat} {out : List TGate} (ho : out.length ≤ 1000) {x y : Nat} {l' : List Nat} (hx : getI (cI l) (b : Int) = some (x : Int)) (hy : getI (cI l) (a : Int) = some (y : Int))
  (hs : (cI l).set ((b : Int)).toNat (bits .xor .i64 (x : Int) (y : Int)) = cI l') : F_impl_eliminated_1 (a : Int) (b : Int) (cI l) out = some (cI l', out ++ [TGate.mk 9 (a : Int) (b : Int)]) := by
 unfold F_impl_eliminated_1
 rw [hx, hy]
 simp only [Option.bind_some]
 rw [chk_t (by omega), hs]
def EOk (n b : Nat) (s : List Int × List TGate) : Prop := ∃ l, s.1 = cI l ∧ NOk n l ∧ GsOk n s.2 ∧ s.2.length ≤ b
theorem EOk.mono {n b b' : Nat} {s : List Int × List TGate} (h : EOk n b s) (hb : b ≤ b') : EOk n b' s := by
 obtain ⟨l, h1, h2, h3, h4⟩ := h
 exact ⟨l, h1, h2, h3, by omega⟩
theorem sp_ind {P : Nat → Prop} (h0 : P 0) : ∀ {L : List Nat}, (∀ v y, y ∈ L → P v → P (v ^^^ y)) → ∀ {v : Nat}, Sp L v → P v
 | [], _, v, h => by
  have : v = 0 := h
  rw [this]; exact h0
 | y :: t, hx, v, h => by
  have ht := fun v z hz => hx v z (List.mem_cons_of_mem _ hz)
  rcases h with h | h
  ·exact sp_ind h0 ht h
  ·have := hx _ y (List.mem_cons_self ..) (sp_ind h0 ht h)
   rwa [xx] at this
theorem sp_add {L : List Nat} {u w : Nat} (hu : Sp L u) (hw : Sp L w) : Sp L (u ^^^ w) :=
 sp_ind (P := fun w => Sp L (u ^^^ w)) (by rw [Nat.xor_zero]; exact hu) (fun v y hy hv => by rw [← Nat.xor_assoc]; exact sp_close hy hv) hw
theorem sp_lt {n : Nat} {L : List Nat} (hs : ∀ x ∈ L, x < 2 ^ n) {v : Nat} (h : Sp L v) : v < 2 ^ n :=
 sp_ind (P := fun v => v < 2 ^ n) (Nat.two_pow_pos n) (fun v y hy hv => Nat.xor_lt_two_pow hv (hs y hy)) h
/-- A number whose first bit is b. -/
def Lead (b v : Nat) : Prop := (∀ j, j < b → v.testBit j = false) ∧ v.testBit b = true
def Full (n : Nat) (l : List Nat) : Prop := ∀ b, b < n → ∃ v, Sp l v ∧ Lead b v
/-- The program's rank: its loop beside the span. -/
def RankI (n : Nat) (l : List Nat) (b : Nat) (t : List Int × Int) : Prop := ∃ (m : List Nat) (r : Nat), t = (cI m, (r : Int)) ∧ m.length + r = n ∧ sm5 m ∧ (∀ v, Sp m v ↔ Sp l v ∧ ∀ j, j < b → v.testBit j = false) ∧
 r ≤ min b n ∧ (r = min b n → ∀ b', b' < min b n → ∃ v, Sp l v ∧ Lead b' v) ∧ (Full n l → r = min b n)
theorem rankI_round {n b : Nat} {l : List Nat} (hn : n ≤ 5) (hb : b < 10) (hs : ∀ x ∈ l, x < 2 ^ n) {t : List Int × Int} (h : RankI n l b t) : ∃ t', F_impl_rankOf_l1 b t = some t' ∧ RankI n l (b + 1) t' := by
 obtain ⟨m, r, rfl, hm, smm, hSp, hr, hA, hB⟩ := h
 obtain ⟨a', g1, g2⟩ := idx_find (l := m) (b := b) smm (by omega) hb
 unfold F_impl_rankOf_l1
 simp only
 rw [g1]
 simp only [Option.bind_some]
 rcases g2 with ⟨rfl, g2⟩ | ⟨p', x', rfl, hpx', hxb'⟩
 ·have hno : ∀ v, Sp m v → v.testBit b = false := fun v hv => sp_none g2 hv
  refine ⟨_, rfl, m, r, rfl, hm, smm, fun v => ⟨fun hv => ⟨((hSp v).1 hv).1, fun j hj => ?_⟩, fun ⟨h1, h2⟩ => (hSp v).2 ⟨h1, fun j hj => h2 j (by omega)⟩⟩, by omega, fun he => ?_, fun hF => ?_⟩
  ·rcases Nat.lt_succ_iff_lt_or_eq.1 hj with h1 | rfl
   ·exact ((hSp v).1 hv).2 j h1
   ·exact hno v hv
  ·rcases Nat.lt_or_ge b n with h1 | h1
   ·omega
   ·rw [show min (b + 1) n = min b n by omega] at he ⊢
    exact hA he
  ·rcases Nat.lt_or_ge b n with h1 | h1
   ·obtain ⟨v, v1, v2, v3⟩ := hF b h1
    rw [hno v ((hSp v).2 ⟨v1, v2⟩)] at v3
    cases v3
   ·rw [show min (b + 1) n = min b n by omega]; exact hB hF
 ·have hx32' := smm x' (List.mem_of_getElem? hpx')
  have hpl' : p' < m.length := (List.getElem?_eq_some_iff.1 hpx').1
  have hxl := (hSp x').1 (sp_mem (List.mem_of_getElem? hpx'))
  have hbn : b < n := by
   rcases Nat.lt_or_ge b n with h1 | h1
   ·exact h1
   ·rw [tb_out (sp_lt hs hxl.1) h1] at hxb'; cases hxb'
  rw [decide_eq_false (show ¬ (p' : Int) < 0 by omega)]
  simp only [cond_false]
  rw [cI_get hpx']
  simp only [Option.bind_some]
  have hdel : F_slices_Delete_int_int (cI m) (p' : Int) (IntKind.i64.wrap ((p' : Int) + 1)) = some (cI (m.take p' ++ m.drop (p' + 1))) := by
   unfold F_slices_Delete_int_int
   rw [wrap_i64 (a := (p' : Int) + 1) ⟨by omega, by omega⟩, chk_t (by rw [cI_len]; omega)]
   have e : ((p' : Int) == (p' : Int) + 1) = false := beq_eq_false_iff_ne.2 (by omega)
   rw [e]
   simp only [cond_false]
   rw [chk_t (by omega)]
   have e2 : ((p' : Int) + 1).toNat = p' + 1 := by omega
   rw [Int.toNat_natCast, e2]
   unfold cI
   rw [List.map_append, List.map_take, List.map_drop]
  rw [hdel]
  simp only [Option.bind_some]
  generalize hm1 : m.take p' ++ m.drop (p' + 1) = m1
  have hmx : m = m.take p' ++ x' :: m.drop (p' + 1) := by
   have := List.getElem?_eq_some_iff.1 hpx'
   obtain ⟨h1, h2⟩ := this
   rw [← h2, List.getElem_cons_drop, List.take_append_drop]
  have mmem : ∀ y, y ∈ x' :: m1 ↔ y ∈ m := fun y => by
   rw [← hm1]
   conv => rhs; rw [hmx]
   simp only [List.mem_cons, List.mem_append]
   constructor
   ·rintro (h | h | h)
    ·exact .inr (.inl h)
    ·exact .inl h
    ·exact .inr (.inr h)
   ·rintro (h | h | h)
    ·exact .inr (.inl h)
    ·exact .inl h
    ·exact .inr (.inr h)
  have sm1 : sm5 m1 := fun y hy => smm y ((mmem y).1 (List.mem_cons_of_mem _ hy))
  have m1len : m1.length + 1 = m.length := by
   have := congrArg List.length hmx
   rw [← hm1]
   simp at this ⊢
   omega
  rw [cI_len, chk_t (by omega), rank_elim2 sm1 hx32' hb]
  simp only [Option.bind_some]
  rw [wrap_i64 (a := (r : Int) + 1) ⟨by omega, by omega⟩]
  have k2 : ∀ u, Sp (x' :: m1) u ↔ Sp m u := fun u => ⟨sp_sub (fun y hy => (mmem y).1 hy), sp_sub (fun y hy => (mmem y).2 hy)⟩
  refine ⟨_, rfl, m1.map (red b x'), r + 1, rfl, by simp; omega, fun y hy => ?_, fun v => ?_, by omega, fun he b' hb' => ?_, fun hF => ?_⟩
  ·obtain ⟨z, hz, rfl⟩ := List.mem_map.1 hy
   exact red32 hx32' (sm1 z hz)
  ·rw [sp_red hxb', k2, hSp]
   constructor
   ·rintro ⟨⟨h1, h2⟩, h3⟩
    refine ⟨h1, fun j hj => ?_⟩
    rcases Nat.lt_succ_iff_lt_or_eq.1 hj with h4 | rfl
    ·exact h2 j h4
    ·exact h3
   ·rintro ⟨h1, h2⟩
    exact ⟨⟨h1, fun j hj => h2 j (by omega)⟩, h2 b (by omega)⟩
  ·by_cases hbb : b' = b
   ·subst hbb; exact ⟨x', hxl.1, hxl.2, hxb'⟩
   ·exact hA (by omega) b' (by omega)
  ·have := hB hF; omega
theorem rank_full {l : List Nat} {n : Nat} (hl : l.length = n) (hn : n ≤ 5) (hs : ∀ x ∈ l, x < 2 ^ n) : ∃ r : Nat, F_impl_rankOf (cI l) = some (r : Int) ∧ (r = n ↔ Full n l) := by
 have h32 := pow32 hn
 have h0 : RankI n l 0 (cI l, 0) := ⟨l, 0, rfl, by omega, fun x hx => by have := hs x hx; omega, fun v => ⟨fun h => ⟨h, fun j hj => absurd hj (Nat.not_lt_zero _)⟩, fun h => h.1⟩, by omega, fun _ b' hb' => by omega, fun _ => by omega⟩
 obtain ⟨t, h1, m, r, rfl, h2, h3, h4, h5, h6, h7⟩ := forN_inv (f := F_impl_rankOf_l1) (fun b t => RankI n l b t) 10 0 _ h0 (fun b t _ hb h => rankI_round hn (by omega) hs h)
 refine ⟨r, ?_, fun h b hb => h6 (by omega) b (by omega), fun h => by have := h7 h; omega⟩
 unfold F_impl_rankOf F_slices_Clone_int_int
 rw [chk_t (by rw [cI_len]; omega)]
 simp only [Option.bind_some]
 rw [h1]; rfl
theorem lin_valid {l : List Nat} {n : Nat} (hl : l.length = n) (h1 : 1 ≤ n) (hn : n ≤ 5) (hs : ∀ x ∈ l, x < 2 ^ n) (hF : Full n l) : F_impl_IsValidLinear (TLinear.mk (cI l)) = some true := by
 obtain ⟨r, e1, e2⟩ := rank_full hl hn hs
 have hr := e2.2 hF
 subst hr
 have hcl : (cI l).length = r := by rw [cI_len]; exact hl
 have hq : 1 ≤ ((cI l).length : Int) ∧ ((cI l).length : Int) ≤ 5 := by omega
 obtain ⟨s1, s2, s3, s4, s5, s6⟩ := shl_small hq
 unfold F_impl_IsValidLinear
 rw [in_eq]
 simp only [Option.bind_some]
 rw [decide_eq_true hq.1, decide_eq_true hq.2]
 simp only [Bool.and_self, Bool.true_and, gb, cond_true]
 rw [contains_eqI (p := fun x => !(decide (0 ≤ x) && decide (x ≤ ((2 ^ (((cI l).length : Int)).toNat : Nat) : Int) - 1))) (by omega) (fun x => by
  unfold F_impl_IsValidLinear_1
  rw [chk_t (by omega), s3, s6, in_eq]; rfl)]
 simp only [Option.bind_some, any_not, Bool.not_not]
 have hall : ((cI l).all fun x => decide (0 ≤ x) && decide (x ≤ ((2 ^ (((cI l).length : Int)).toNat : Nat) : Int) - 1)) = true := by
  rw [List.all_eq_true]
  intro x hx
  obtain ⟨y, hy, rfl⟩ := List.mem_map.1 hx
  have := hs y hy
  rw [hcl, Int.toNat_natCast]
  simp only [Bool.and_eq_true, decide_eq_true_eq]
  omega
 rw [hall]
 simp only [cond_true]
 rw [e1]
 simp only [Option.bind_some, hcl, beq_self_eq_true, Bool.and_self]
def idn (n : Nat) : List Nat := (List.range n).map fun i => 2 ^ i
theorem idn_ok (n : Nat) : NOk n (idn n) := ⟨by simp [idn], fun x hx => by
 obtain ⟨i, hi, rfl⟩ := List.mem_map.1 hx
 exact Nat.pow_lt_pow_right (by decide) (List.mem_range.1 hi)⟩
theorem idn_get {n i : Nat} (hi : i < n) : (idn n).getD i 0 = 2 ^ i := by
 rw [List.getD_eq_getElem?_getD, idn, List.getElem?_map, List.getElem?_range hi]; rfl
theorem getD_nat {l : List Nat} {i : Nat} (hi : i < l.length) : l[i]? = some (l.getD i 0) := by
 rw [List.getD_eq_getElem?_getD, List.getElem?_eq_getElem hi]; rfl
theorem nat_ext {l l' : List Nat} (hl : l.length = l'.length) (h : ∀ i, i < l.length → l.getD i 0 = l'.getD i 0) : l = l' := by
 apply List.ext_getElem? 
 intro i
 by_cases hi : i < l.length
 ·rw [getD_nat hi, getD_nat (by omega), h i hi]
 ·rw [List.getElem?_eq_none (by omega), List.getElem?_eq_none (by omega)]
theorem idn_full (n : Nat) : Full n (idn n) := fun b hb => by
 refine ⟨2 ^ b, sp_mem (List.mem_map.2 ⟨b, List.mem_range.2 hb, rfl⟩), fun j hj => ?_, ?_⟩
 ·rw [Nat.testBit_two_pow]; simp; omega
 ·rw [Nat.testBit_two_pow]; simp
theorem sp_span {L L' : List Nat} (h : ∀ y ∈ L, Sp L' y) {v : Nat} (hv : Sp L v) : Sp L' v :=
 sp_ind (P := fun v => Sp L' v) (sp_zero L') (fun _ y hy hv => sp_add hv (h y hy)) hv
theorem full_span {n : Nat} {L L' : List Nat} (h : ∀ y ∈ L, Sp L' y) (hF : Full n L) : Full n L' := fun b hb => by
 obtain ⟨v, h1, h2⟩ := hF b hb
 exact ⟨v, sp_span h h1, h2⟩
def cxL (x : List Nat) (a b : Nat) : List Nat := x.set b (x.getD b 0 ^^^ x.getD a 0)
def cxG (x : List Nat) (g : TGate) : List Nat := cxL x g.A.toNat g.B.toNat
def cxs (gs : List TGate) (x : List Nat) : List Nat := gs.foldl cxG x
theorem cxs_snoc (gs : List TGate) (a b : Nat) (x : List Nat) : cxs (gs ++ [TGate.mk 9 (a : Int) (b : Int)]) x = cxL (cxs gs x) a b := by
 unfold cxs
 rw [List.foldl_append]; rfl
theorem cxL_len (x : List Nat) (a b : Nat) : (cxL x a b).length = x.length := by simp [cxL]
theorem cxL_get {x : List Nat} {a b : Nat} (hb : b < x.length) (j : Nat) : (cxL x a b).getD j 0 = if j = b then x.getD b 0 ^^^ x.getD a 0 else x.getD j 0 := by
 unfold cxL
 rw [List.getD_eq_getElem?_getD, List.getElem?_set]
 by_cases h : b = j
 ·subst h; rw [if_pos rfl, if_pos hb, if_pos rfl]; rfl
 ·rw [if_neg h, if_neg (Ne.symm h), ← List.getD_eq_getElem?_getD]
theorem cxL_ok {n : Nat} {x : List Nat} (h : NOk n x) (a b : Nat) : NOk n (cxL x a b) := ⟨by rw [cxL_len]; exact h.1, fun z hz => by
 rcases List.mem_or_eq_of_mem_set hz with hz | rfl
 ·exact h.2 z hz
 ·exact Nat.xor_lt_two_pow (getD_lt h.2 _) (getD_lt h.2 _)⟩
theorem cxM {l : List Nat} {n a b : Nat} (hl : NOk n l) (hn : n ≤ 5) (ha : a < n) (hb : b < n) : getI (cI l) (b : Int) = some ((l.getD b 0 : Nat) : Int) ∧ getI (cI l) (a : Int) = some ((l.getD a 0 : Nat) : Int) ∧
  (cI l).set ((b : Int)).toNat (bits .xor .i64 ((l.getD b 0 : Nat) : Int) ((l.getD a 0 : Nat) : Int)) = cI (cxL l a b) := by
 have h32 := pow32 hn
 have h1 := getD_lt hl.2 b
 have h2 := getD_lt hl.2 a
 refine ⟨cI_get (getD_nat (by rw [hl.1]; exact hb)), cI_get (getD_nat (by rw [hl.1]; exact ha)), ?_⟩
 rw [xor_nat (by omega) (by omega), Int.toNat_natCast, cI_set]; rfl
theorem full_cx {n a b : Nat} {l : List Nat} (hl : l.length = n) (ha : a < n) (hb : b < n) (hab : a ≠ b) (hF : Full n l) : Full n (cxL l a b) := by
 refine full_span (fun y hy => ?_) hF
 have hmem : ∀ j, j < n → (cxL l a b).getD j 0 ∈ cxL l a b := fun j hj => List.mem_of_getElem? (getD_nat (by rw [cxL_len, hl]; exact hj))
 obtain ⟨j, hj⟩ := List.mem_iff_getElem?.1 hy
 have hj2 := (List.getElem?_eq_some_iff.1 hj).1
 have hy2 : y = l.getD j 0 := by rw [List.getD_eq_getElem?_getD, hj]; rfl
 by_cases hjb : j = b
 ·have h1 := sp_mem (hmem b hb)
  have h2 := hmem a ha
  rw [cxL_get (by omega), if_neg hab] at h2
  have := sp_close h2 h1
  rw [cxL_get (by omega), if_pos rfl, xx] at this
  rw [hy2, hjb]; exact this
 ·have h1 := sp_mem (hmem j (by omega))
  rw [cxL_get (by omega), if_neg hjb] at h1
  rw [hy2]; exact h1
def GsN (n : Nat) (out : List TGate) : Prop := ∀ g ∈ out, ∃ a b : Nat, a < n ∧ b < n ∧ a ≠ b ∧ g = TGate.mk 9 (a : Int) (b : Int)
theorem GsN.snoc {n : Nat} {out : List TGate} (h : GsN n out) {a b : Nat} (ha : a < n) (hb : b < n) (hab : a ≠ b) : GsN n (out ++ [TGate.mk 9 (a : Int) (b : Int)]) := fun g hg => by
 rcases List.mem_append.1 hg with hg | hg
 ·exact h g hg
 ·exact ⟨a, b, ha, hb, hab, by simpa using hg⟩
def ColU (l : List Nat) (n k : Nat) : Prop := ∀ i j, i < n → j < k → (l.getD i 0).testBit j = decide (i = j)
theorem colU_cx {l : List Nat} {n k a b : Nat} (hl : l.length = n) (ha : a < n) (hb : b < n) (hka : k ≤ a) (h : ColU l n k) : ColU (cxL l a b) n k := fun i j hi hj => by
 rw [cxL_get (by omega)]
 split
 ·rename_i e
  subst e
  rw [Nat.testBit_xor, h i j hi hj, h a j ha hj, decide_eq_false (show ¬ a = j by omega)]
  simp
 ·exact h i j hi hj
def fx : Nat → (Nat → Bool) → Bool
 | 0, _ => false
 | n + 1, f => (fx n f).xor (f n)
theorem fx_zero : ∀ {n : Nat} {f : Nat → Bool}, (∀ j, j < n → f j = false) → fx n f = false
 | 0, _, _ => rfl
 | n + 1, f, h => by
  show (fx n f).xor (f n) = false
  rw [fx_zero (fun j hj => h j (by omega)), h n (by omega)]; rfl
theorem fx_xor (f g : Nat → Bool) : ∀ n, fx n (fun j => (f j).xor (g j)) = (fx n f).xor (fx n g)
 | 0 => rfl
 | n + 1 => by
  show (fx n fun j => (f j).xor (g j)).xor ((f n).xor (g n)) = ((fx n f).xor (f n)).xor ((fx n g).xor (g n))
  rw [fx_xor f g n]
  cases fx n f <;> cases fx n g <;> cases f n <;> cases g n <;> rfl
theorem fx_one {f : Nat → Bool} {s : Nat} : ∀ {n : Nat}, s < n → (∀ j, j < n → j ≠ s → f j = false) → fx n f = f s
 | 0, h, _ => absurd h (Nat.not_lt_zero _)
 | n + 1, h, hz => by
  show (fx n f).xor (f n) = f s
  by_cases hs : s = n
  ·subst hs
   rw [fx_zero (fun j hj => hz j (by omega) (by omega))]
   simp
  ·rw [fx_one (show s < n by omega) (fun j hj hne => hz j (by omega) hne), hz n (by omega) (fun h => hs h.symm)]
   simp
/-- There is a row to take. -/
theorem pivot {l : List Nat} {n k : Nat} (hl : l.length = n) (hF : Full n l) (hk : k < n) (hc : ColU l n k) (hz : ∀ i, k ≤ i → i < n → (l.getD i 0).testBit k = false) : False := by
 obtain ⟨v, v1, v2, v3⟩ := hF k hk
 have := sp_ind (P := fun v => v.testBit k = fx k (fun j => v.testBit j && (l.getD j 0).testBit k)) (by rw [Nat.zero_testBit, fx_zero (fun j _ => by rw [Nat.zero_testBit]; rfl)]) (fun v y hy hv => by
  obtain ⟨i, hi⟩ := List.mem_iff_getElem?.1 hy
  have hi2 := (List.getElem?_eq_some_iff.1 hi).1
  have hy2 : y = l.getD i 0 := by rw [List.getD_eq_getElem?_getD, hi]; rfl
  have hrow : y.testBit k = fx k (fun j => y.testBit j && (l.getD j 0).testBit k) := by
   by_cases hik : i < k
   ·rw [fx_one (s := i) hik (fun j hj hne => by rw [hy2, hc i j (by omega) hj, decide_eq_false (Ne.symm hne)]; rfl), hy2, hc i i (by omega) hik, decide_eq_true rfl]; rfl
   ·rw [fx_zero (fun j hj => by rw [hy2, hc i j (by omega) hj, decide_eq_false (show ¬ i = j by omega)]; rfl), hy2]
    exact hz i (by omega) (by omega)
  have e : (fun j => (v ^^^ y).testBit j && (l.getD j 0).testBit k) = fun j => (v.testBit j && (l.getD j 0).testBit k).xor (y.testBit j && (l.getD j 0).testBit k) := by
   funext j
   rw [Nat.testBit_xor]
   cases v.testBit j <;> cases y.testBit j <;> cases (l.getD j 0).testBit k <;> rfl
  rw [Nat.testBit_xor, hv, hrow, e, fx_xor]) v1
 rw [v3, fx_zero (fun j hj => by rw [v2 j hj]; rfl)] at this
 cases this
/-- Rows that the gates so far have made of the first ones. -/
def El (n k : Nat) (l0 : List Nat) (b : Nat) (P : List Nat → Prop) (s : List Int × List TGate) : Prop := ∃ l, s.1 = cI l ∧ NOk n l ∧ GsN n s.2 ∧ s.2.length ≤ b ∧ l = cxs s.2 l0 ∧ Full n l ∧ ColU l n k ∧ P l
theorem El.mono {n k b b' : Nat} {l0 : List Nat} {P P' : List Nat → Prop} {s : List Int × List TGate} (h : El n k l0 b P s) (hb : b ≤ b') (hP : ∀ l, P l → P' l) : El n k l0 b' P' s := by
 obtain ⟨l, h1, h2, h3, h4, h5, h6, h7, h8⟩ := h
 exact ⟨l, h1, h2, h3, by omega, h5, h6, h7, hP l h8⟩
theorem el_l2 {n k b : Nat} {l0 : List Nat} (hn : n ≤ 5) (hk : k < n) (hb : b ≤ 900) {r : List Int} (hr : r.length = n) (s : List Int × List TGate × Int)
  (h : ∃ i : Nat, s.2.2 = (i : Int) ∧ k + 1 ≤ i ∧ i ≤ n ∧ El n k l0 (b + i) (fun l => (∀ i', k < i' → i' < i → (l.getD i' 0).testBit k = false) ∨ (l.getD k 0).testBit k = true) (s.1, s.2.1)) :
  (∃ s', F_impl_eliminated_l2 r k s = some (.nx s') ∧ (∃ i : Nat, s'.2.2 = (i : Int) ∧ k + 1 ≤ i ∧ i ≤ n ∧ El n k l0 (b + i) (fun l => (∀ i', k < i' → i' < i → (l.getD i' 0).testBit k = false) ∨ (l.getD k 0).testBit k = true) (s'.1, s'.2.1)) ∧ n - s'.2.2.toNat < n - s.2.2.toNat) ∨
  (∃ s', F_impl_eliminated_l2 r k s = some (.br s') ∧ El n k l0 (b + n) (fun l => (l.getD k 0).testBit k = true) (s'.1, s'.2.1)) ∨ ∃ q : List Int × List TGate, F_impl_eliminated_l2 r k s = some (.rt q) ∧ False := by
 obtain ⟨R1, o1, i1⟩ := s
 obtain ⟨i, hi1, hki, hin, l, h1, h2, h3, h4, h5, h6, h7, h8⟩ := h
 simp only at hi1 h1 h3 h4 h5 hki hin
 subst hi1 h1
 have h32 := pow32 hn
 have hkx : getI (cI l) (k : Int) = some ((l.getD k 0 : Nat) : Int) := cI_get (getD_nat (by rw [h2.1]; exact hk))
 have hkx2 := getD_lt h2.2 k
 unfold F_impl_eliminated_l2
 simp only
 rw [hr]
 by_cases hi : i < n
 ·rw [decide_eq_true (show (i : Int) < (n : Int) by omega), hkx]
  simp only [gb, cond_true, Option.bind_some, Bool.true_and]
  rw [chk_t (fun _ => by omega), tb0 (by omega) (by omega)]
  cases hb1 : (l.getD k 0).testBit k with
  | true =>
   simp only [Bool.not_true, cond_false]
   exact .inr (.inl ⟨_, rfl, l, rfl, h2, h3, by simp only; omega, h5, h6, h7, hb1⟩)
  | false =>
   have h8 : ∀ i', k < i' → i' < i → (l.getD i' 0).testBit k = false := h8.resolve_right (fun e => by rw [hb1] at e; cases e)
   simp only [Bool.not_false, cond_true]
   have hix : getI (cI l) (i : Int) = some ((l.getD i 0 : Nat) : Int) := cI_get (getD_nat (by rw [h2.1]; exact hi))
   have hix2 := getD_lt h2.2 i
   rw [hix]
   simp only [Option.bind_some]
   rw [chk_t (by omega), tb (by omega) (by omega), wrap_i64 (a := (i : Int) + 1) ⟨by omega, by omega⟩]
   refine .inl ?_
   cases hb2 : (l.getD i 0).testBit k with
   | true =>
    obtain ⟨c3, c4, c5⟩ := cxM h2 hn hi hk
    simp only [cond_true]
    rw [elimN (n := n) (by omega) c3 c4 c5]
    simp only [Option.bind_some]
    first | rw [chk_t (by omega)] | skip
    refine ⟨_, rfl, ⟨i + 1, by simp only; omega, by omega, by omega, _, rfl, cxL_ok h2 _ _, h3.snoc hi hk (by omega), by simp only [List.length_append, List.length_singleton]; omega, ?_, full_cx h2.1 hi hk (by omega) h6, colU_cx h2.1 hi hk (by omega) h7, .inr ?_⟩, by simp only; omega⟩
    ·simp only; rw [cxs_snoc, ← h5]
    ·rw [cxL_get (by rw [h2.1]; exact hk), if_pos rfl, Nat.testBit_xor, hb1, hb2]; rfl
   | false =>
    simp only [cond_false, Option.bind_some]
    refine ⟨_, rfl, ⟨i + 1, by simp only; omega, by omega, by omega, l, rfl, h2, h3, by simp only; omega, h5, h6, h7, .inl fun i' a1 a2 => ?_⟩, by simp only; omega⟩
    rcases Nat.lt_succ_iff_lt_or_eq.1 a2 with a3 | rfl
    ·exact h8 i' a1 a3
    ·exact hb2
 ·rw [decide_eq_false (show ¬ (i : Int) < (n : Int) by omega)]
  simp only [gb, cond_false, Option.bind_some, Bool.false_and]
  first | rw [chk_t (fun h => by cases h)] | skip
  refine .inr (.inl ⟨_, rfl, l, rfl, h2, h3, by simp only; omega, h5, h6, h7, ?_⟩)
  cases hb1 : (l.getD k 0).testBit k with
  | true => exact hb1
  | false =>
   have h8 : ∀ i', k < i' → i' < i → (l.getD i' 0).testBit k = false := h8.resolve_right (fun e => by rw [hb1] at e; cases e)
   refine (pivot h2.1 h6 hk h7 fun i' a1 a2 => ?_).elim
   rcases Nat.lt_or_ge k i' with a3 | a3
   ·exact h8 i' a3 (by omega)
   ·rw [show i' = k by omega]; exact hb1
theorem el_l3 {n k b i : Nat} {l0 : List Nat} (hn : n ≤ 5) (hk : k < n) (hb : b ≤ 900) (hi : i < n) {s : List Int × List TGate} (h : El n k l0 b (fun l => (l.getD k 0).testBit k = true ∧ ∀ i', i' < i → i' ≠ k → (l.getD i' 0).testBit k = false) s) :
  ∃ s', F_impl_eliminated_l3 k i s = some s' ∧ El n k l0 (b + 1) (fun l => (l.getD k 0).testBit k = true ∧ ∀ i', i' < i + 1 → i' ≠ k → (l.getD i' 0).testBit k = false) s' := by
 obtain ⟨R1, o1⟩ := s
 obtain ⟨l, h1, h2, h3, h4, h5, h6, h7, h8, h9⟩ := h
 simp only at h1 h3 h4 h5
 subst h1
 have h32 := pow32 hn
 have hix : getI (cI l) (i : Int) = some ((l.getD i 0 : Nat) : Int) := cI_get (getD_nat (by rw [h2.1]; exact hi))
 have hix2 := getD_lt h2.2 i
 unfold F_impl_eliminated_l3
 simp only
 by_cases hik : i = k
 ·subst hik
  have e : ((i : Int) != (i : Int)) = false := by simp
  rw [e]
  simp only [gb, cond_false, Option.bind_some, Bool.false_and]
  first | rw [chk_t (fun h => by cases h)] | skip
  refine ⟨_, rfl, l, rfl, h2, h3, by simp only; omega, h5, h6, h7, h8, fun i' a1 a2 => h9 i' (by omega) a2⟩
 ·have e : ((i : Int) != (k : Int)) = true := by simp; omega
  rw [e, hix]
  simp only [gb, cond_true, Option.bind_some, Bool.true_and]
  rw [chk_t (fun _ => by omega), tb (by omega) (by omega)]
  cases hb2 : (l.getD i 0).testBit k with
  | true =>
   obtain ⟨c3, c4, c5⟩ := cxM h2 hn hk hi
   simp only [cond_true]
   rw [elimN (n := n) (by omega) c3 c4 c5]
   simp only [Option.bind_some]
   first | rw [chk_t (by omega)] | skip
   refine ⟨_, rfl, _, rfl, cxL_ok h2 _ _, h3.snoc hk hi (by omega), by simp only [List.length_append, List.length_singleton]; omega, ?_, full_cx h2.1 hk hi (by omega) h6, colU_cx h2.1 hk hi (Nat.le_refl _) h7, ?_, fun i' a1 a2 => ?_⟩
   ·simp only; rw [cxs_snoc, ← h5]
   ·rw [cxL_get (by rw [h2.1]; exact hi), if_neg (by omega)]; exact h8
   ·rw [cxL_get (by rw [h2.1]; exact hi)]
    split
    ·rw [Nat.testBit_xor, hb2, h8]; rfl
    ·exact h9 i' (by omega) a2
  | false =>
   simp only [cond_false, Option.bind_some]
   refine ⟨_, rfl, l, rfl, h2, h3, by simp only; omega, h5, h6, h7, h8, fun i' a1 a2 => ?_⟩
   rcases Nat.lt_succ_iff_lt_or_eq.1 a1 with a3 | rfl
   ·exact h9 i' a3 a2
   ·exact hb2
theorem el_l1 {n k b : Nat} {l0 : List Nat} (hn : n ≤ 5) (hk : k < n) (hb : b ≤ 800) {r : List Int} (hr : r.length = n) {s : List Int × List TGate} (h : El n k l0 b (fun _ => True) s) :
  ∃ s', F_impl_eliminated_l1 r k s = some s' ∧ El n (k + 1) l0 (b + 10) (fun _ => True) s' := by
 obtain ⟨R1, o1⟩ := s
 unfold F_impl_eliminated_l1
 simp only
 rw [wrap_i64 (a := (k : Int) + 1) ⟨by omega, by omega⟩]
 rcases whX_inv (f := F_impl_eliminated_l2 r k) _ _ (fun _ : List Int × List TGate => False) (fun s => n - s.2.2.toNat) (fun s hs => el_l2 (l0 := l0) (b := b) hn hk (by omega) hr s hs) fuel (R1, o1, (k : Int) + 1)
  ⟨k + 1, by simp only; omega, by omega, by omega, h.mono (by omega) (fun l _ => .inl fun i' a1 a2 => by omega)⟩ (fuelB (by omega)) with ⟨⟨R2, o2, i2⟩, e1, e2⟩ | ⟨r, _, hr⟩
 ·rw [e1]
  simp only [Option.bind_some, orR]
  rw [chk_t (by omega), hr]
  obtain ⟨s, f1, f2⟩ := forN_inv (f := F_impl_eliminated_l3 k) (fun i s => El n k l0 (b + n + i) (fun l => (l.getD k 0).testBit k = true ∧ ∀ i', i' < i → i' ≠ k → (l.getD i' 0).testBit k = false) s) n 0 (R2, o2) (e2.mono (by omega) (fun l hl => ⟨hl, fun i' a => absurd a (Nat.not_lt_zero _)⟩)) (fun i s _ hi h2 => by
   obtain ⟨s', a1, a2⟩ := el_l3 (b := b + n + i) hn hk (by omega) (show i < n by omega) h2
   exact ⟨s', a1, a2.mono (by omega) (fun _ h => h)⟩)
  rw [f1]
  refine ⟨s, rfl, ?_⟩
  obtain ⟨l, h1, h2, h3, h4, h5, h6, h7, h8, h9⟩ := f2
  refine ⟨l, h1, h2, h3, by omega, h5, h6, fun i j hi hj => ?_, trivial⟩
  rcases Nat.lt_succ_iff_lt_or_eq.1 hj with a | rfl
  ·exact h7 i j hi a
  ·by_cases hij : i = j
   ·subst hij; rw [h8, decide_eq_true rfl]
   ·rw [h9 i (by omega) hij, decide_eq_false hij]
 ·exact hr.elim
theorem elim_full {l : List Nat} {n : Nat} (hl : NOk n l) (hn : n ≤ 5) (hF : Full n l) : ∃ gs, F_impl_eliminated (TLinear.mk (cI l)) = some gs ∧ GsN n gs ∧ gs.length ≤ 50 ∧ cxs gs l = idn n := by
 unfold F_impl_eliminated F_slices_Clone_int_int
 have hlen : (cI l).length = n := by rw [cI_len]; exact hl.1
 simp only
 rw [chk_t (by omega)]
 simp only [Option.bind_some]
 rw [chk_t (by omega), hlen]
 obtain ⟨s, f1, l', h1, h2, h3, h4, h5, h6, h7, _⟩ := forN_inv (f := F_impl_eliminated_l1 (cI l)) (fun i s => El n i l (10 * i) (fun _ => True) s) n 0 (cI l, []) ⟨l, rfl, hl, (fun g hg => nomatch hg), Nat.le_refl 0, rfl, hF, fun i j _ hj => absurd hj (Nat.not_lt_zero _), trivial⟩ (fun i s _ hi h => by
  obtain ⟨s', a1, a2⟩ := el_l1 (b := 10 * i) hn (show i < n by omega) (by omega) hlen h
  exact ⟨s', a1, a2.mono (by omega) (fun _ h => h)⟩)
 rw [f1]
 obtain ⟨R', o'⟩ := s
 refine ⟨o', rfl, h3, by simp only at h4; omega, ?_⟩
 simp only at h5
 rw [← h5]
 refine nat_ext (by rw [h2.1, (idn_ok n).1]) fun i hi => ?_
 rw [h2.1] at hi
 rw [idn_get hi]
 refine Nat.eq_of_testBit_eq fun j => ?_
 rw [Nat.testBit_two_pow]
 rcases Nat.lt_or_ge j n with hj | hj
 ·exact h7 i j hi (by omega)
 ·rw [tb_out (getD_lt h2.2 i) hj, decide_eq_false (show ¬ i = j by omega)]
theorem ident_eq : ∀ n : Fin 6, F_impl_identityLinear (n.val : Int) = some (TLinear.mk (cI (idn n.val))) := by decide +kernel
def iSum : Nat → (Nat → Int) → Int
 | 0, _ => 0
 | n + 1, f => iSum n f + f n
theorem iSum_zero : ∀ {n : Nat} {f : Nat → Int}, (∀ k, k < n → f k = 0) → iSum n f = 0
 | 0, _, _ => rfl
 | n + 1, f, h => by
  show iSum n f + f n = 0
  rw [iSum_zero (fun k hk => h k (by omega)), h n (by omega)]; rfl
theorem iSum_one {f : Nat → Int} {s : Nat} : ∀ {n : Nat}, s < n → (∀ k, k < n → k ≠ s → f k = 0) → iSum n f = f s
 | 0, h, _ => absurd h (Nat.not_lt_zero _)
 | n + 1, h, hz => by
  show iSum n f + f n = f s
  by_cases hs : s = n
  ·subst hs
   rw [iSum_zero (fun k hk => hz k (by omega) (by omega))]; omega
  ·rw [iSum_one (show s < n by omega) (fun k hk hne => hz k (by omega) hne), hz n (by omega) (fun h => hs h.symm)]; omega
theorem iSum_add (f g : Nat → Int) : ∀ n, iSum n (fun k => f k + g k) = iSum n f + iSum n g
 | 0 => rfl
 | n + 1 => by
  show iSum n (fun k => f k + g k) + (f n + g n) = (iSum n f + f n) + (iSum n g + g n)
  rw [iSum_add f g n]; omega
/-- What a table adds up to. -/
def tabS (f : Nat → Int) (S : List Int) : Int := iSum 32 (fun m => f m * S.getD m 0)
theorem getD_set_i {S : List Int} {j : Nat} (hj : j < S.length) (y : Int) (m : Nat) : (S.set j y).getD m 0 = if m = j then y else S.getD m 0 := by
 rw [List.getD_eq_getElem?_getD, List.getElem?_set]
 by_cases h : j = m
 ·subst h; rw [if_pos rfl, if_pos hj, if_pos rfl]; rfl
 ·rw [if_neg h, if_neg (Ne.symm h), ← List.getD_eq_getElem?_getD]
theorem tabS_set (f : Nat → Int) {S : List Int} (hS : S.length = 32) {j : Nat} (hj : j < 32) (y : Int) : tabS f (S.set j y) = tabS f S + f j * (y - S.getD j 0) := by
 unfold tabS
 have : (fun m => f m * (S.set j y).getD m 0) = fun m => f m * S.getD m 0 + (if m = j then f j * (y - S.getD j 0) else 0) := by
  funext m
  rw [getD_set_i (by omega)]
  split
  ·rename_i e; subst e; rw [Int.mul_sub]; omega
  ·omega
 rw [this, iSum_add, iSum_one (s := j) hj (fun k _ hk => if_neg hk), if_pos rfl]
/-- What terms add up to. -/
def termS (f : Nat → Int) : List TTerm → Int
 | [] => 0
 | t :: T => f t.Mask.toNat * t.Coef + termS f T
theorem termS_snoc (f : Nat → Int) (t : TTerm) : ∀ T, termS f (T ++ [t]) = termS f T + f t.Mask.toNat * t.Coef
 | [] => by simp [termS]
 | x :: T => by
  show f x.Mask.toNat * x.Coef + termS f (T ++ [t]) = f x.Mask.toNat * x.Coef + termS f T + _
  rw [termS_snoc f t T]; omega
theorem termS_take (f : Nat → Int) {T : List TTerm} {i : Nat} {x : TTerm} (hx : T[i]? = some x) : termS f (T.take (i + 1)) = termS f (T.take i) + f x.Mask.toNat * x.Coef := by
 rw [List.take_add_one, hx]
 exact termS_snoc f x _
/-- The terms of a table. -/
def tl (S : List Int) : Nat → List TTerm
 | 0 => []
 | n + 1 => tl S n ++ (if 0 < n ∧ 0 < S.getD n 0 then [TTerm.mk (n : Int) (S.getD n 0)] else [])
/-- A table that is taken. -/
def TabOk (N : Nat) (S : List Int) : Prop := S.length = 32 ∧ (∀ m, 0 ≤ S.getD m 0 ∧ S.getD m 0 ≤ 7) ∧ ∀ m, N ≤ m → S.getD m 0 = 0
theorem tl_len (S : List Int) : ∀ n, (tl S n).length ≤ n
 | 0 => Nat.le_refl _
 | n + 1 => by
  have := tl_len S n
  unfold tl
  split
  ·simp; omega
  ·simp; omega
theorem tl_terms {N : Nat} {S : List Int} (h : TabOk N S) : F_impl_coefficients_terms S = some (tl S 32) := by
 obtain ⟨l, h1, h2⟩ := forN_inv (f := F_impl_coefficients_terms_l1 S) (fun i s => s = tl S i) 32 0 [] rfl (fun i s _ hi hs => by
  subst hs
  have hx : getI S (i : Int) = some (S.getD i 0) := by rw [getI_nat, List.getD_eq_getElem?_getD, List.getElem?_eq_getElem (show i < S.length by have := h.1; omega)]; rfl
  have hl := tl_len S i
  refine ⟨_, ?_, rfl⟩
  unfold F_impl_coefficients_terms_l1
  simp only [hx, Option.bind_some]
  rw [show tl S (i + 1) = tl S i ++ (if 0 < i ∧ 0 < S.getD i 0 then [TTerm.mk (i : Int) (S.getD i 0)] else []) from rfl]
  by_cases hc : 0 < i ∧ 0 < S.getD i 0
  ·rw [if_pos hc, decide_eq_true (show (0 : Int) < (i : Int) by omega), decide_eq_true hc.2]
   simp only [Bool.and_self, cond_true]
   rw [chk_t (by omega)]
   rfl
  ·rw [if_neg hc, List.append_nil]
   have e : (decide ((0 : Int) < (i : Int)) && decide (0 < S.getD i 0)) = false := by
    simp only [Bool.and_eq_false_iff, decide_eq_false_iff_not]; omega
   rw [e]; rfl)
 unfold F_impl_coefficients_terms
 rw [h1, h2]; rfl
end Go.VK
